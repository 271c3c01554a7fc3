/-
  Part 6 of a proof: a machine of our own for the given program, its laws, and what it says of the program. Nothing here is a claim by itself.
-/
import Derived.Test.YtgoedlagdbgcbaaGreatDoorK05
import Derived.KernelRfl
import Derived.Test.YtgoedlagdbgcbaaGreatDoorProg
import Derived.WalkKit
import Derived.LaidEql
import Derived.Stop.Asserts
import Derived.RowKitTokens
import Derived.Test.YtgoedlagdbgcbaaGreatDoorK01
import Derived.Lib.Builder
import Derived.Lib.UnsafeStr
import Derived.Lib.Bytealg
import Derived.Lib.AppendZerosOnto
import Derived.Lib.Walk
import Derived.Lib.SliceRun
import Derived.Laws.Externs
import Derived.Shelf.RegionOpenPlain
import Derived.Shelf.Strconv.Itoa3
import Derived.Lib.Strings
import Derived.Test.YtgoedlagdbgcbaaGreatDoorK03
import Derived.Test.YtgoedlagdbgcbaaGreatDoorK04
set_option linter.all false

namespace Go.Ab.Core
open Go Go.Ab
theorem getE {t:List Nd} {i:Nat} {n:Nd} (h:t[i]?=some n):∃ hi:i < t.length,t[i]=n:=List.getElem?_eq_some_iff.1 h
theorem qzj (t:List Nd) (i:Int) (s:S):qb8 (tl t :: I i :: s.pv)=true:=by simp[qb8,S.pv_ok]
theorem Qqf {t:List Nd} {a:Tr} {i:Nat} {s:S} {m:Nat} (hi:Qjc t a i) (hs:s.Good m) (hm:m+3*a.size < big) (hn:ioO B0 Qna 82 (tl t :: I (i:Int) :: s.pv)=some (qgh a s).pv) :
  ioO B0 sh54 54 (tl t :: I (i:Int) :: s.pv)=some (qtd a s).pv:=by
 have hbl:=qhq
 obtain⟨g1,_⟩:=qrd a hs
 refine qfv (qf1 fun _=>.cl) (fn:=fn54) rfl (Pf:=shs54) rfl (xs:=[]) (obs:=[]) rfl rfl (qzj t i s) ?_
 rw[show shs54 [] []=sh54 from rfl]
 rw[S.pv_def s] at hn ⊢
 rw[run54]
 simp only[qb2,qgd,qby,qcg,qgm,qgl,qdi]
 rw[show ioO B0 Qna 82 _=_ from hn,qba]
 cases a with
 | mk k x ks =>
 obtain⟨l,hl,_⟩:=hi
 obtain⟨hlt,hti⟩:=getE hl
 rw[qks hlt,hti]
 simp only[qba,fa3_0,fa3_1,qzz,Qn0,Qmw,qb1]
 have q0:=pv_0 (qgh (.mk k x ks) s)
 have q1:=pv_1 (qgh (.mk k x ks) s)
 have q2:=pv_2 (qgh (.mk k x ks) s)
 rw[qgd] at q0 q1 q2
 have q3:=pv_3 (qgh (.mk k x ks) s)
 have q4:=pv_4 (qgh (.mk k x ks) s)
 have q5:=pv_5 (qgh (.mk k x ks) s)
 have q6:=pv_6 (qgh (.mk k x ks) s)
 rw[q0,q1,q2,q3,q4,q5,q6]
 by_cases h8:k=8
 ·rw[if_pos (by simpa using h8),show qdd 1 [.str x]=true from rfl,qbg,show qbs [PV.str x]=1 from rfl]
  have hb:ioO B0 sh83 83 _=some [I (((qgh (.mk k x ks) s).bind s.texts.length x).texts.length:Nat),I (((qgh (.mk k x ks) s).bind s.texts.length x).means.length:Nat),I (((qgh (.mk k x ks) s).bind s.texts.length x).nown:Nat),.sl 1 [.str x] false,.sl 1 (qhg ((qgh (.mk k x ks) s).bind s.texts.length x).texts) false,.imap (qfh ((qgh (.mk k x ks) s).bind s.texts.length x).ahead),il ((qgh (.mk k x ks) s).bind s.texts.length x).means,.sl 1 (qhg ((qgh (.mk k x ks) s).bind s.texts.length x).ownX) false]:=bind_run (qgh (.mk k x ks) s) s.texts.length x g1.fine (by omega) (by have:=hs.fine.texts;omega)
  rw[show ioO B0 sh83 83 _=_ from hb,qba]
  unfold qtd
  rw[if_pos (show Tr.kind (.mk k x ks)=8 from h8)]
  simp only[qc8,qc4,qc2,qfg,qgr,qh1,qjl,qb2,qby,qcg,qgm,qgl]
  rfl
 ·rw[if_neg (by simpa using h8)]
  unfold qtd
  rw[if_neg (show ¬ Tr.kind (.mk k x ks)=8 from h8)]
  rfl
theorem part_step {t:List Nd} {all:List Int} {i:Nat} {a:Tr} {k:Nat} {s:S} {n:Nat} (hi:i < all.length) (hk:all[i]=(k:Int)) (hb:all.length≤big) (h:ioO B0 sh54 54 (tl t :: I (k:Int) :: s.pv)=some (qtd a s).pv) :
  qpq ([tl t,il all,I (all.length:Nat),I (i:Nat)]++s.pv++[I (n:Nat)],())=some (.inl ([tl t,il all,I (all.length:Nat),I ((i+1:Nat):Int)]++(qtd a s).pv++[I (n:Nat)],())):=by
 have hbl:=qhq
 unfold qpq
 rw[S.pv_def s] at h ⊢
 simp only[List.cons_append,List.nil_append,qc8,qc4,qc2,qde,qfg,qgr,qh1,qjl,ql3,qmo,qlc,qtt,qb2,qgd,qby,qcg,qgm,qgl,qdi,qdk,qba]
 rw[show decide ((i:Int) < (all.length:Nat))=true by simp;omega,qb5,qr8 hi,hk,qba,qmx,qba,h,qba]
 simp only[qf3,qba]
 rw[qg1 (by omega),←qgd (qbi _),←qgd (qbi _),←qgd (qbi _),pv_0,pv_1,pv_2,pv_3,pv_4,pv_5,pv_6]
 rfl
theorem part_end {t:List Nd} {all:List Int} {s:S} {n m:Nat} (hs:s.Good m) (hm:m < big) (hn:n≤s.nown):qpq ([tl t,il all,I (all.length:Nat),I (all.length:Nat)]++s.pv++[I (n:Nat)],())=some (.inr (s.leave n).pv):=by
 have hl:=leave_run s n hs.fine hm hn (hs.pops hn)
 unfold qpq
 rw[S.pv_def s] at hl ⊢
 simp only[List.cons_append,List.nil_append,qc8,qc4,qc2,qde,qfg,qgr,qh1,qjl,ql3,qmo,qlc,qtt,qb2,qgd,qby,qcg,qgm,qgl,qdi,qdk,qba]
 rw[show decide ((all.length:Int) < (all.length:Nat))=false by simp,qbv,hl,qba,←qgd (qbi _),←qgd (qbi _),←qgd (qbi _),pv_0,pv_1,pv_2,pv_3,pv_4,pv_5,pv_6]
 rfl
theorem scope_run {t:List Nd} {k:Int} {x:Tx} {ks:List Tr} {i:Nat} {s:S} {u:List PV} {l:List Int} (hl:t[i]?=some ⟨k,x,l⟩)
  (h:qcf qpq ([tl t,il l,I (l.length:Nat),I ((0:Nat):Int)]++s.pv++[I (s.nown:Nat)],())=some u):ioO B0 sh117 117 (tl t :: I (i:Int) :: s.pv)=some u:=by
 refine qfv (qf1 fun _=>.cl) (fn:=fn117) rfl (Pf:=shs117) rfl (xs:=[]) (obs:=[]) rfl rfl (qzj t i s) ?_
 rw[show shs117 [] []=sh117 from rfl]
 rw[S.pv_def s] at h ⊢
 rw[run117]
 obtain⟨hlt,hti⟩:=getE hl
 rw[qks hlt,hti]
 simp only[qb2,qgd,qby,qcg,qgm,qgl,qdi,qba,Qpj,qss,qhi]
 rw[show qbo [tl t,il l,I (l.length:Nat),I 0]=true from rfl,qbg]
 exact h
theorem Qbb {t:List Nd} {l:List Int} (h:qvs t [] l):l=[]:=h
theorem qmb {α:Type} {l:List α} {j:Nat} {a:α} {b:List α} (h:l.drop j=a :: b):∃ hj:j < l.length,l[j]=a∧l.drop (j+1)=b:=by
 have hj:j < l.length:=by
  rcases Nat.lt_or_ge j l.length with h' | h'
  ·exact h'
  ·rw[List.drop_eq_nil_of_le h'] at h;cases h
 rw[List.drop_eq_getElem_cons hj] at h
 injection h with h1 h2
 exact⟨hj,h1,h2⟩
theorem qyu (l:List Tx):(qhg l).take l.length=qhg l:=List.take_of_length_le (by simp)
theorem qp6 (l:List Int):(qgk l).take l.length=qgk l:=List.take_of_length_le (by simp)
theorem qy1 (l:List Tx) (x:Tx):qhg l++[.str x]=qhg (l++[x]):=by simp[qhg]
theorem qtk (l:List Int) (x:Int):qgk l++[I x]=qgk (l++[x]):=by simp[qgk]
theorem Qga (l:List Tx):slO 1 1 (qhg l) 0 l.length=.sl 1 (qhg l) false:=by
 have:=qly 1 (qhg l)
 rwa [qmt] at this
theorem node_case {t:List Nd} (ht:Fine t) {k:Int} {x:Tx} {ks:List Tr} {i:Nat} {s:S} {m:Nat} {l:List Int} (hl:t[i]?=some ⟨k,x,l⟩) (hs:s.Good m) (hm:m+3*(qcc ks+1) < big)
  (hp:qcf qpq ([tl t,il l,I (l.length:Nat),I ((0:Nat):Int)]++s.pv++[I (s.nown:Nat)],())=some ((qxz ks s).leave s.nown).pv)
  (hk:∀ s':S,s'.Good (m+1)→qcf qwe ([tl t,il l,I (l.length:Nat),I ((0:Nat):Int)]++s'.pv,())=some (qtu ks s').pv) :
  ioO B0 Qna 82 (tl t :: I (i:Int) :: s.pv)=some (qgh (.mk k x ks) s).pv:=by
 have hbl:=qhq
 refine qfv (qf1 fun _=>.cl) (fn:=fn82) rfl (Pf:=shs82) rfl (xs:=[]) (obs:=[]) rfl rfl (qzj t i s) ?_
 rw[show shs82 [] []=Qna from rfl]
 have hsc:=scope_run (ks:=ks) hl hp
 have g1:=hs.fine.texts
 have g2:=hs.fine.means
 obtain⟨hlt,hti⟩:=getE hl
 rw[S.pv_def s] at hsc ⊢
 rw[run82,qks hlt,hti]
 simp only[qb2,qgd,qby,qcg,qgm,qgl,qdi,qba,Qkn,qj1,qbg,qhx,qhw,qhv,Qmw,qb1]
 unfold qgh
 by_cases h11:k=11
 ·rw[if_pos (by simpa using h11),if_pos h11]
  rw[show ioO B0 sh117 117 _=_ from hsc,qba,←qgd (qbi _),←qgd (qbi _),←qgd (qbi _),pv_0,pv_1,pv_2,pv_3,pv_4,pv_5,pv_6]
  rfl
 ·rw[if_neg (by simpa using h11),if_neg h11]
  by_cases h8:k=8
  ·rw[if_pos (by simpa using h8),if_pos h8]
   have h:=hk _ (hs.set s.texts.length x)
   rw[S.pv_def {s with means:=s.means++[(s.texts.length:Int)],texts:=s.texts++[x]}] at h
   rw[show qdd 1 [I (s.texts.length:Int)]=true from rfl,show qdd 1 [.str x]=true from rfl]
   simp only[qbg,qdq,List.length_singleton,qdb,Nat.zero_add,qgy,Nat.le_refl,decide_true,qcy,qdn,List.drop_zero,List.take_succ_cons,List.take_zero,qmt,qcr,qfa,Bool.true_and,qhi,qba,qd9,qyu,qp6,qy1,qtk,qgl]
   rw[show decide (s.means.length+1≤2147483648)=true by simp;omega,show decide (s.texts.length+1≤2147483648)=true by simp;omega,qbg,qbg]
   rw[show qbo [tl t,il l,I (l.length:Nat),I 0]=true from rfl,qbg]
   simp only[List.length_append,List.length_singleton] at h
   exact h
  ·rw[if_neg (by simpa using h8),if_neg h8]
   by_cases h3:k=3
   ·rw[if_pos (by simpa using h3),if_pos (by simpa using h3),if_pos (Or.inl h3)]
    have hown:slO 1 1 (qhg s.ownX) 0 s.nown=.sl 1 (qhg (s.ownX.take s.nown)) false:=by
     simp only[slO,true_and,Nat.zero_add,List.drop_zero,qmt]
     rw[if_pos hs.fine.own]
     simp[qhg,List.map_take]
    have hlast:=Qrf s.ahead x (x:=.sl 1 (qhg s.texts) false) (y:=il s.means) (z:=.sl 1 (qhg (s.ownX.take s.nown)) false) (by simp[okV,qkp]) (by simp) (by simp[okV,qkp]) (by have:=hs.fine.ahead x;omega)
    have h:=hk _ (hs.mean (qns s.ahead x))
    rw[S.pv_def {s with means:=s.means++[qns s.ahead x]}] at h
    rw[Qga,qmu,hown,show ptrO [.sl 1 (qhg s.texts) false,.imap (qfh s.ahead),il s.means,.sl 1 (qhg (s.ownX.take s.nown)) false] 0=.ptr [.sl 1 (qhg s.texts) false,.imap (qfh s.ahead),il s.means,.sl 1 (qhg (s.ownX.take s.nown)) false] 0 from rfl,hlast,qba]
    rw[show qdd 1 [I (qns s.ahead x)]=true from rfl]
    simp only[qbg,qdq,List.length_singleton,qdb,Nat.zero_add,qgy,Nat.le_refl,decide_true,qcy,qdn,List.drop_zero,List.take_succ_cons,List.take_zero,qmt,qcr,qfa,Bool.true_and,qhi,qba,qd9,qyu,qp6,qy1,qtk,qgl]
    rw[show decide (s.means.length+1≤2147483648)=true by simp;omega,qbg]
    rw[show qbo [tl t,il l,I (l.length:Nat),I 0]=true from rfl,qbg]
    simp only[List.length_append,List.length_singleton] at h
    exact h
   ·rw[if_neg (by simpa using h3)]
    by_cases h14:k=14
    ·rw[if_pos (by simpa using h14),if_pos (Or.inr h14)]
     have hown:slO 1 1 (qhg s.ownX) 0 s.nown=.sl 1 (qhg (s.ownX.take s.nown)) false:=by
      simp only[slO,true_and,Nat.zero_add,List.drop_zero,qmt]
      rw[if_pos hs.fine.own]
      simp[qhg,List.map_take]
     have hlast:=Qrf s.ahead x (x:=.sl 1 (qhg s.texts) false) (y:=il s.means) (z:=.sl 1 (qhg (s.ownX.take s.nown)) false) (by simp[okV,qkp]) (by simp) (by simp[okV,qkp]) (by have:=hs.fine.ahead x;omega)
     have h:=hk _ (hs.mean (qns s.ahead x))
     rw[S.pv_def {s with means:=s.means++[qns s.ahead x]}] at h
     rw[Qga,qmu,hown,show ptrO [.sl 1 (qhg s.texts) false,.imap (qfh s.ahead),il s.means,.sl 1 (qhg (s.ownX.take s.nown)) false] 0=.ptr [.sl 1 (qhg s.texts) false,.imap (qfh s.ahead),il s.means,.sl 1 (qhg (s.ownX.take s.nown)) false] 0 from rfl,hlast,qba]
     rw[show qdd 1 [I (qns s.ahead x)]=true from rfl]
     simp only[qbg,qdq,List.length_singleton,qdb,Nat.zero_add,qgy,Nat.le_refl,decide_true,qcy,qdn,List.drop_zero,List.take_succ_cons,List.take_zero,qmt,qcr,qfa,Bool.true_and,qhi,qba,qd9,qyu,qp6,qy1,qtk,qgl]
     rw[show decide (s.means.length+1≤2147483648)=true by simp;omega,qbg]
     rw[show qbo [tl t,il l,I (l.length:Nat),I 0]=true from rfl,qbg]
     simp only[List.length_append,List.length_singleton] at h
     exact h
    ·rw[if_neg (by simpa using h14),if_neg (by intro h;rcases h with h | h<;>contradiction)]
     have h:=hk _ (hs.mono (Nat.le_succ m))
     rw[S.pv_def s] at h
     rw[qhi,qba,show qbo [tl t,il l,I (l.length:Nat),I 0]=true from rfl,qbg]
     exact h
mutual
theorem Qgu {t:List Nd} (ht:Fine t):∀ (a:Tr) {i:Nat} {s:S} {m:Nat},Qjc t a i→s.Good m→m+3*a.size < big→ioO B0 Qna 82 (tl t :: I (i:Int) :: s.pv)=some (qgh a s).pv
 | .mk k x ks,i,s,m,hi,hs,hm=>by
  obtain⟨l,hl,hL⟩:=hi
  have hlen:l.length≤big:=by
   obtain⟨hlt,hti⟩:=getE hl
   have:=(ht.nd _ (List.getElem_mem hlt)).kids
   rw[hti] at this
   exact this
  simp only[Tr.size] at hm
  exact node_case ht hl hs hm (Qj3 ht ks (all:=l) (j:=0) (m:=m) hL (Nat.zero_le _) hlen hs (Nat.le_refl _) (by omega)) fun s' hs'=>Qrl ht ks (all:=l) (j:=0) (m:=m+1) hL (Nat.zero_le _) hlen hs' (by omega)
theorem Qrl {t:List Nd} (ht:Fine t):∀ (ks:List Tr) {all:List Int} {j:Nat} {s:S} {m:Nat},qvs t ks (all.drop j)→j≤all.length→all.length≤big→s.Good m→m+3*qcc ks < big→qcf qwe ([tl t,il all,I (all.length:Nat),I (j:Nat)]++s.pv,())=some (qtu ks s).pv
 | [],all,j,s,m,hL,hj,hb,hs,hm=>by
  have:j=all.length:=by have:=List.drop_eq_nil_iff.1 (Qbb hL);omega
  subst this
  exact qc3 kid_end
 | a :: ks,all,j,s,m,hL,hj,hb,hs,hm=>by
  obtain⟨k,l',h1,h2,h3⟩:=hL
  obtain⟨hj',h4,h5⟩:=qmb h1
  simp only[qcc] at hm
  have hz:=qke a
  rw[qc9 (kid_step hj' h4 hb (Qgu ht a h2 hs (by omega)))]
  rw[←h5] at h3
  exact Qrl ht ks (m:=m+3*a.size - 1) h3 (by omega) hb (qrd a hs).1 (by omega)
theorem Qj3 {t:List Nd} (ht:Fine t):∀ (ks:List Tr) {all:List Int} {j:Nat} {s:S} {m n:Nat},qvs t ks (all.drop j)→j≤all.length→all.length≤big→s.Good m→n≤s.nown→m+3*qcc ks < big→qcf qpq ([tl t,il all,I (all.length:Nat),I (j:Nat)]++s.pv++[I (n:Nat)],())=some ((qxz ks s).leave n).pv
 | [],all,j,s,m,n,hL,hj,hb,hs,hn,hm=>by
  have:j=all.length:=by have:=List.drop_eq_nil_iff.1 (Qbb hL);omega
  subst this
  exact qc3 (part_end hs (by omega) hn)
 | a :: ks,all,j,s,m,n,hL,hj,hb,hs,hn,hm=>by
  obtain⟨k,l',h1,h2,h3⟩:=hL
  obtain⟨hj',h4,h5⟩:=qmb h1
  simp only[qcc] at hm
  have hz:=qke a
  rw[qc9 (part_step hj' h4 hb (Qqf h2 hs (by omega) (Qgu ht a h2 hs (by omega))))]
  rw[←h5] at h3
  have hg:=Qc6 a hs
  exact Qj3 ht ks (m:=m+3*a.size) h3 (by omega) hb hg.1 (by omega) (by omega)
end
theorem said_run {t:List Nd} (ht:Fine t) {a:Tr} {i:Nat} {s:S} {m:Nat} (hi:Qjc t a i) (hs:s.Good m) (hm:m+3*a.size < big):ioO B0 sh54 54 (tl t :: I (i:Int) :: s.pv)=some (qtd a s).pv :=
 Qqf hi hs hm (Qgu ht a hi hs hm)
end Go.Ab.Core


namespace Go.Ab.Core
open Go Go.Ab
noncomputable def qp1 (t:List Nd):Option Tr:=if h:qdj t=true then some (Classical.choose (Qdg h)) else none
theorem qfy {t:List Nd} (h:qdj t=true):∃ a,qp1 t=some a∧Qjc t a (t.length - 1)∧a.Ok∧a.size=t.length∧1≤t.length∧t.length≤400:=by
 refine⟨_,dif_pos h,Classical.choose_spec (Qdg h)⟩
theorem qlu {t:List Nd} (h:qdj t=false):qp1 t=none:=dif_neg (by simp[h])
noncomputable def qdh (s:S) (t:List Nd):S :=
 match qp1 t with
 | some a=>qtd a {s with means:=[]}
 | none=>{s with means:=[]}
noncomputable def qqe:List St→S→S
 | [],s=>s
 | x :: l,s=>qqe l (qdh s x.t)
noncomputable def qhs:List St→S→List (List Int)
 | [],_=>[]
 | x :: l,s=>(qdh s x.t).means :: qhs l (qdh s x.t)
def S0:S:=⟨[],[],[],[],0⟩
theorem S.Good.clear {m:Nat} {s:S} (h:s.Good m):({s with means:=[]}:S).Good m:=⟨⟨h.fine.texts,Nat.zero_le _,h.fine.nown,h.fine.own,h.fine.ahead⟩,h.cnt⟩
theorem S0_good:S0.Good 0:=⟨⟨Nat.le_refl _,Nat.le_refl _,Nat.le_refl _,Nat.le_refl _,fun _=>Nat.le_refl _⟩,fun _=>Nat.le_refl _⟩
theorem qsk {s:S} {m:Nat} (h:s.Good m) (t:List Nd):(qdh s t).Good (m+1200):=by
 unfold qdh
 cases hr:qdj t with
 | false=>rw[qlu hr];exact h.clear.mono (by omega)
 | true =>
  obtain⟨a,h1,_,_,h2,_,h3⟩:=qfy hr
  rw[h1]
  exact (Qc6 a h.clear).1.mono (by omega)
noncomputable def Qgf:List PV×Unit→Option (Sum (List PV×Unit) (PV×Unit)):=Qq8 B0
theorem load4 (a b c d:PV):qbd (.load 4 true (.c (.ptr [a,b,c,d] 0)))=some (.agg [a,b,c,d]):=rfl
theorem pv_sl (s:S):slO 1 1 (qbc (nth s.pv 5)) 0 (qbi (nth s.pv 1))=il s.means:=by rw[S.pv_def,qgr,qc4,qb2,qcg,qmu]
def resSt (l:List St) (j:Nat) (s:S) (v:PV) (outs:List (List Int)):List PV×Unit :=
 ([I (outs.length:Nat),sl4 l,I (l.length:Nat),I (j:Nat),.sl 1 (outs.map il) false,.imap (qfh s.ahead),I (s.texts.length:Nat),v,I (s.nown:Nat),.sl 1 (qhg s.texts) false,.sl 1 (qhg s.ownX) false],())
theorem res_step {l:List St} {j:Nat} {s:S} {v:PV} {outs:List (List Int)} {m:Nat} (hj:j < l.length) (hf:∀ x∈l,Fine x.t) (hl:l.length≤100) (ho:outs.length=j) (hs:s.Good m) (hm:m+1200 < big) :
  Qgf (resSt l j s v outs)=some (.inl (resSt l (j+1) (qdh s l[j].t) (il (qdh s l[j].t).means) (outs++[(qdh s l[j].t).means]))):=by
 have hbl:=qhq
 have hfj:=hf _ (List.getElem_mem hj)
 unfold Qgf Qq8 resSt
 simp only[qc8,qc4,qc2,qde,qfg,qgr,qh1,qjl,ql3,qmo,qlc,qb2,qgd,qby,qcg,qgm,qgl,qdi,qdk,qba]
 rw[show decide ((j:Int) < (l.length:Nat))=true by simp;omega,qb5,idx_sl4 hj,qba,load4,qba]
 rw[show qcu (.agg [I l[j].line,.nilS,tl l[j].t,I l[j].e]) 4=true from rfl,qbg,show qbl (.agg [I l[j].line,.nilS,tl l[j].t,I l[j].e]) 2=tl l[j].t from rfl,qtm hfj,qba,qb1]
 have hmap:(outs.map il).take outs.length=outs.map il:=List.take_of_length_le (by simp)
 have hsn:∀ q:List Int,outs.map il++[il q]=(outs++[q]).map il:=fun q=>by simp
 cases hr:qdj l[j].t with
 | false =>
  rw[if_neg (by simp)]
  have e:slO 1 1 [] 0 0=il []:=rfl
  rw[e,show qdd 1 [il []]=true from rfl,qbg]
  simp only[qbg,qdq,List.length_singleton,List.length_map,qdb,Nat.zero_add,qgy,Nat.le_refl,decide_true,qcy,qdn,List.drop_zero,List.take_succ_cons,List.take_zero,qfa,Bool.true_and,qd9,hmap,hsn]
  rw[show decide (outs.length+1≤2147483648)=true by simp;omega,qbg]
  simp only[qf3,qba]
  rw[qg1 (by omega)]
  unfold qdh
  rw[qlu hr]
  simp
 | true =>
  obtain⟨a,h1,h2,_,h3,h4,h5⟩:=qfy hr
  rw[if_pos rfl,qld,qba,Qjb,qba,Qf2 (by omega) (by omega)]
  have h6:m+3*a.size < big:=by rw[h3];omega
  have h8:=hs.clear
  have h7:=said_run (m:=m) hfj h2 h8 h6
  have hn:ioO B0 sh54 54 [tl l[j].t,I ((l[j].t.length - 1:Nat):Int),I s.texts.length,I ((0:Nat):Int),I s.nown,.sl 1 (qhg s.texts) false,.imap (qfh s.ahead),.sl 1 [] false,.sl 1 (qhg s.ownX) false]=some (qtd a {s with means:=[]}).pv:=h7
  rw[show ioO B0 sh54 54 _=_ from hn,qba]
  have er:qdh s l[j].t=qtd a {s with means:=[]}:=by unfold qdh;rw[h1]
  rw[←er,pv_sl,show qdd 1 [il (qdh s l[j].t).means]=true from rfl,qbg]
  simp only[qbg,qdq,List.length_singleton,List.length_map,qdb,Nat.zero_add,qgy,Nat.le_refl,decide_true,qcy,qdn,List.drop_zero,List.take_succ_cons,List.take_zero,qfa,Bool.true_and,qd9,hmap,hsn]
  rw[show decide (outs.length+1≤2147483648)=true by simp;omega,qbg]
  simp only[qf3,qba]
  rw[qg1 (by omega),←qgd (qbi _),←qgd (qbi _),pv_0,pv_2,pv_3,pv_4,pv_6]
  simp
theorem Qqm {l:List St} (hf:∀ x∈l,Fine x.t) (hl:l.length≤100):∀ (rest:List St) {j:Nat} {s:S} {v:PV} {outs:List (List Int)} {m:Nat},l.drop j=rest→j≤l.length→outs.length=j→s.Good m→okV v=true→m+1200*rest.length < big →
  ∃ w,okV w=true∧qcf Qgf (resSt l j s v outs)=some (.tup [.ptr [.sl 1 (qhg (qqe rest s).texts) false,.imap (qfh (qqe rest s).ahead),w,.sl 1 (qhg ((qqe rest s).ownX.take (qqe rest s).nown)) false] 0,.sl 1 ((outs++qhs rest s).map il) false],())
 | [],j,s,v,outs,m,hd,hj,ho,hs,hv,hm=>by
  have e:j=l.length:=by have:=List.drop_eq_nil_iff.1 hd;omega
  refine⟨v,hv,qc3 ?_⟩
  subst e
  unfold Qgf Qq8 resSt
  simp only[qc8,qc4,qc2,qde,qfg,qgr,qh1,qjl,ql3,qmo,qlc,qb2,qgd,qby,qcg,qgm,qgl,qdi,qdk,qba]
  rw[show decide ((l.length:Int) < (l.length:Nat))=false by simp,qbv]
  have hown:slO 1 1 (qhg s.ownX) 0 s.nown=.sl 1 (qhg (s.ownX.take s.nown)) false:=by
   simp only[slO,true_and,Nat.zero_add,List.drop_zero,qmt]
   rw[if_pos hs.fine.own]
   simp[qhg,List.map_take]
  have hout:slO 1 1 (outs.map il) 0 outs.length=.sl 1 (outs.map il) false:=by
   have:=qly 1 (outs.map il)
   rwa [List.length_map] at this
  rw[Qga,hown,hout]
  rw[show ptrO [.sl 1 (qhg s.texts) false,.imap (qfh s.ahead),v,.sl 1 (qhg (s.ownX.take s.nown)) false] 0=.ptr [.sl 1 (qhg s.texts) false,.imap (qfh s.ahead),v,.sl 1 (qhg (s.ownX.take s.nown)) false] 0 from rfl]
  have hok:okU (.tup [.ptr [.sl 1 (qhg s.texts) false,.imap (qfh s.ahead),v,.sl 1 (qhg (s.ownX.take s.nown)) false] 0,.sl 1 (outs.map il) false])=true:=by
   have h1:∀ q:List (List Int),qb8 (q.map il)=true:=fun q=>by
    induction q with
    | nil=>rfl
    | cons a q ih=>simp[qb8,ih]
   simp[okU,okV,qb8,qkp,qnn,hv,h1]
  rw[hok,qbg]
  simp[qhs,qqe]
 | x :: rest,j,s,v,outs,m,hd,hj,ho,hs,hv,hm=>by
  obtain⟨hj',h1,h2⟩:=qmb hd
  subst h1
  simp only[List.length_cons] at hm
  have h6:m+1200 < big:=Nat.lt_of_le_of_lt (by rw[Nat.mul_add];exact Nat.add_le_add_left (Nat.le_add_left _ _) m) hm
  have h9:m+1200+1200*rest.length < big:=by rw[Nat.mul_add,Nat.mul_one,Nat.add_comm (1200*_),←Nat.add_assoc] at hm;exact hm
  obtain⟨w,hw,h⟩:=Qqm hf hl rest (j:=j+1) (s:=qdh s l[j].t) (v:=il (qdh s l[j].t).means) (outs:=outs++[(qdh s l[j].t).means]) (m:=m+1200) h2 (by omega) (by simp[ho]) (qsk hs _) (by simp) h9
  refine⟨w,hw,?_⟩
  have h7:=res_step (v:=v) hj' hf hl ho hs h6
  rw[qc9 h7,h]
  simp[qhs,qqe]
structure qvt (l:List St):Prop where
 fine:∀ x∈l,Fine x.t
 len:l.length≤100
theorem Qnh {l:List St} (hl:qvt l):∃ w,okV w=true∧qb6 B0 .cl (.fn 32 []) [sl4 l]=some (.tup [.ptr [.sl 1 (qhg (qqe l S0).texts) false,.imap (qfh (qqe l S0).ahead),w,.sl 1 (qhg ((qqe l S0).ownX.take (qqe l S0).nown)) false] 0,.sl 1 ((qhs l S0).map il) false]):=by
 obtain⟨w,hw,h⟩:=Qqm hl.fine hl.len l (j:=0) (s:=S0) (v:=.nilS) (outs:=[]) (m:=0) rfl (Nat.zero_le _) rfl S0_good rfl (by have:=hl.len;unfold big;omega)
 refine⟨w,hw,?_⟩
 refine call (d:=fun _=>.cl) rfl (by decide) (by simp[qb8]) rfl ?_
 rw[List.map_cons,List.map_nil,run32,len_sl4,qba]
 rw[show qbo [nI 0,sl4 l,I (l.length:Nat),.int .i64 0]=true from rfl,qbg]
 exact h
theorem means_run {l:List St} (hl:qvt l):qb6 B0 .cl (.fn 17 []) [sl4 l]=some (.sl 1 ((qhs l S0).map il) false):=by
 obtain⟨w,hw,h⟩:=Qnh hl
 refine call (d:=fun _=>.cl) rfl (by decide) (by simp[qb8]) rfl ?_
 rw[List.map_cons,List.map_nil,run17,h,qba]
 rfl
end Go.Ab.Core


namespace Go.Ab.Core
open Go Go.Ab
def ql7 (k:Int):Bool:=k==3||k==14||k==8
theorem index_run (k:Int):qb6 B0 .cl (.fn 88 []) [il [3,14,8],I k]=some (I (if k=3 then 0 else if k=14 then 1 else if k=8 then 2 else -1)):=by
 refine call (d:=fun _=>.cl) rfl (by decide) rfl rfl ?_
 rw[List.map_cons,List.map_cons,List.map_nil,run88,qhi,qba]
 rw[show qbo [il [3,14,8],I k,I (([3,14,8]:List Int).length:Nat),.int .i64 0]=true from rfl,qbg]
 by_cases h3:k=3
 ·subst h3
  rw[if_pos rfl]
  exact qc3 rfl
 ·rw[if_neg h3]
  by_cases h14:k=14
  ·subst h14
   rw[if_pos rfl]
   rw[qc9 (s':=([il [3,14,8],I 14,I 3,I 1],())) rfl]
   exact qc3 rfl
  ·rw[if_neg h14]
   by_cases h8:k=8
   ·subst h8
    rw[if_pos rfl]
    rw[qc9 (s':=([il [3,14,8],I 8,I 3,I 1],())) rfl,qc9 (s':=([il [3,14,8],I 8,I 3,I 2],())) rfl]
    exact qc3 rfl
   ·rw[if_neg h8]
    have one:∀ (i:Nat) (h:i < 3) (hk:¬ k=([3,14,8]:List Int)[i]),(fun z2:List PV×Unit=>(qbb (qbd (.bin .lss .num false (.c (nth z2.1 3)) (.c (nth z2.1 2)))) (fun z3=>qdu z3 (qbb (qbd (.idxAddr 1 (.c (nth z2.1 0)) (.c (nth z2.1 3)))) (fun z4=>qbb (qbd (.load 1 false (.c z4))) (fun z5=>qbb (qbd (.bin .eql .num false (.c (nth z2.1 1)) (.c z5))) (fun z6=>qdu z6 (qbb (some (nth z2.1 3,z2.2)) (fun z7=>some (.inr z7))) (qbb (qbd (.bin .add .num true (.c (nth z2.1 3)) (.c (.int .i64 1)))) (fun z8=>some (.inl ([nth z2.1 0,nth z2.1 1,nth z2.1 2,z8],z2.2)))))))) (qbb (some (.int .i64 (-1),z2.2)) (fun z9=>some (.inr z9)))):Option (Sum (List PV×Unit) (PV×Unit)))) ([il [3,14,8],I k,I 3,I (i:Nat)],())=some (.inl ([il [3,14,8],I k,I 3,I ((i+1:Nat):Int)],())):=fun i h hk=>by
     simp only[qc8,qc4,qc2,qde,qdk,qba,qdi]
     rw[show decide ((i:Int) < 3)=true by simp;omega,qb5,qr8 (by simpa using h),qba,qmx,qba,Qmw,qba]
     rw[show (k==([3,14,8]:List Int)[i])=false by simpa using hk,qbv,qf3,qba,qg1 (by omega)]
    rw[qc9 (one 0 (by omega) h3),qc9 (one 1 (by omega) h14),qc9 (one 2 (by omega) h8)]
    exact qc3 rfl
theorem Qmf (k:Int):qh2 B0 .cl true 61 [il [3,14,8],I k]=some (.bool (ql7 k)):=by
 refine qgj (qf1 fun _=>.cl) (fn:=fn61) rfl rfl (Nat.le_of_ble_eq_true rfl) ?_ rfl
 rw[List.map_cons,List.map_cons,List.map_nil,run61,index_run,qba,qdi,Qp6,qba]
 unfold ql7
 by_cases h3:k=3
 ·subst h3;rfl
 ·by_cases h14:k=14
  ·subst h14;rfl
  ·by_cases h8:k=8
   ·subst h8;rfl
   ·rw[if_neg h3,if_neg h14,if_neg h8]
    have e3:(k==3)=false:=by simpa using h3
    have e14:(k==14)=false:=by simpa using h14
    have e8:(k==8)=false:=by simpa using h8
    rw[e3,e14,e8]
    rfl
theorem isName_run (n:Nd):qb6 B0 .cl (.fn 37 []) [nd n]=some (.bool (ql7 n.kind)):=by
 refine call (d:=fun _=>.cl) rfl (by decide) (by simp[qb8,Qqx]) rfl ?_
 rw[List.map_cons,List.map_nil,run37,show valO (nd n)=true from rfl,qbg]
 rw[show qdd 1 [.int .i64 3,.int .i64 14,.int .i64 8]=true from rfl,qbg]
 simp only[nd,selO_eq,qpd,sel3_0,qba]
 rw[show slO 1 1 [.int .i64 3,.int .i64 14,.int .i64 8] 0 (qbs [.int .i64 3,.int .i64 14,.int .i64 8])=il [3,14,8] from rfl,Qmf,qba]
def qqk (n:Int):Tx:=if n < 0 then [63] else Qcu n
def mk2 (t:List Nd) (ms:List Int):PV:=.agg [tl t,il ms]
theorem Qk9 {n:Int} (h0 : -9223372036854775808≤n) (h1:n≤9223372036854775807):qb6 B0 .cl (.fn 79 []) [I n]=some (.str (Qcu n)):=by
 refine Qfu (qf1 fun _=>.cl) (cap:=[]) ?_ rfl
 show Qjm [.int .i64 n]=_
 unfold Qjm
 simp only
 rw[if_pos ⟨h0,h1⟩]
theorem text_run (t:List Nd) (m:Int) (ms:List Int) (h0 : -9223372036854775808≤m) (h1:m≤9223372036854775807):ioO B0 sh58 58 [mk2 t (m :: ms)]=some [.str (qqk m),mk2 t ms]:=by
 refine qfv (qf1 fun _=>.cl) (fn:=fn58) rfl (Pf:=shs58) rfl (xs:=[]) (obs:=[]) rfl rfl (by simp[qb8,mk2,okV]) ?_
 rw[show shs58 [] []=sh58 from rfl,run58]
 rw[show Qmy (mk2 t (m :: ms)) 1 1 false=some (il (m :: ms)) from rfl,qba]
 rw[show qbd (.idxAddr 1 (.c (il (m :: ms))) (.c (.int .i64 0)))=some (.ptr [I m] 0) from rfl,qba,qmx,qba,qba]
 have hs:qbd (.slice 1 (.c (il (m :: ms))) (some (.c (.int .i64 1))) none none)=some (il ms):=by
  simp[qbd,exec,RX.ev,evO,qkc,qj2,chk,qhy,il,qgk]
  exact List.take_of_length_le (by simp)
 rw[hs,qba,show okSto (il ms) (mk2 t (m :: ms)) 1 1=true from rfl,qbg]
 simp only[qdi,qdk,qba,qb1]
 rw[show PV.agg (qg0 (stoP (il ms) (mk2 t (m :: ms)) 1))=mk2 t ms from rfl]
 unfold qqk
 by_cases hm:m < 0
 ·rw[if_pos (by simpa using hm),if_pos hm]
 ·rw[if_neg (by simpa using hm),if_neg hm,Qk9 h0 h1,qba]
end Go.Ab.Core


namespace Go.Ab.Core
open Go Go.Ab
def byL (s:Tx):List PV:=qcl s
theorem qmi (s:Tx):(byL s).length=s.length:=by simp[byL,qcl]
theorem byL_app (s t:Tx):byL (s++t)=byL s++byL t:=by simp[byL,qcl]
theorem Qpy (b:UInt8):Qcg (.int .u8 b.toNat)=some b:=by
 have h:(b.toNat:Int) < 256:=by have:=b.toNat_lt;omega
 simp only[Qcg]
 rw[if_pos ⟨Int.natCast_nonneg _,h⟩]
 simp
theorem qkb:∀ s:Tx,qhd (byL s)=some s
 | []=>rfl
 | b :: s=>by
  have ih:=qkb s
  unfold byL qcl at ih ⊢
  rw[List.map_cons]
  simp only[qhd,Qpy,ih]
theorem Qnq (s:Tx):qbd (.ofBytes (.c (.sl 1 (byL s) false)))=some (.str s):=by
 simp only[qbd,exec,RX.ev,isStr,Bool.not_false,chk,if_true,qk8,beq_self_eq_true,qkb]
theorem Qgn:∀ s:Tx,qb8 (byL s)=true
 | []=>rfl
 | b :: s=>Qgn s
abbrev bs (t:Tx):PV:=.sl 1 (byL t) false
theorem qfu (t:Tx):qbc (bs t)=byL t:=rfl
theorem ws_used (s t:Tx) (h:t.length+s.length≤2147483648):ioO B0 qqc 30 [.str s,I (t.length:Nat),bs t]=some [I (s.length:Nat),.nilI,I ((t++s).length:Nat),bs (t++s)]:=by
 refine qfv (qf1 fun _=>.cl) (fn:=fn30) rfl (Pf:=Qjq) rfl (xs:=[]) (obs:=[.cells 64 [.ref (0,0) 0,.cv (.bool false)],.arr 1 5 []]) rfl rfl (by simp[qb8,okV,bs,Qgn,I]) ?_
 rw[show Qjq [] [.cells 64 [.ref (0,0) 0,.cv (.bool false)],.arr 1 5 []]=qqc from rfl,run30_0]
 rw[show qjr 1 (.str s)=some (byL s) from rfl,qba,qb2,qfu]
 simp only[qdq,qmi,qgy,qdb,qfa,Nat.le_refl,decide_true,Bool.true_and,qcy,qd9]
 rw[show decide (t.length+s.length≤2147483648)=true by simpa using h,qbg,qze,qba]
 rw[List.take_of_length_le (by rw[qmi];exact Nat.le_refl _)]
 simp[bs,byL_app,I]
theorem ws_new (s:Tx) (h:s.length≤2147483648):ioO B0 qnj 30 [.str s,.nilP,.nilS]=some [I (s.length:Nat),.nilI,I (s.length:Nat),bs s]:=by
 refine qfv (qf1 fun _=>.cl) (fn:=fn30) rfl (Pf:=Qjq) rfl (xs:=[]) (obs:=[]) rfl rfl (by simp[qb8,okV]) ?_
 rw[show Qjq [] []=qnj from rfl,run30_1]
 rw[show Qbc .nilP=true from rfl,qbg,show qjr 1 (.str s)=some (byL s) from rfl,qba]
 rw[show appO 1 .nilS (byL s)=some (byL s) by simp[appO,qmi,qdp,qbw,h],qba,qze,qba]
 simp[bs,qmi,I,qdq]
theorem wb_used (b:UInt8) (t:Tx) (h:t.length+1≤2147483648):ioO B0 qv3 116 [.int .u8 b.toNat,I (t.length:Nat),bs t]=some [.nilI,I ((t++[b]).length:Nat),bs (t++[b])]:=by
 refine qfv (qf1 fun _=>.cl) (fn:=fn116) rfl (Pf:=qw8) rfl (xs:=[]) (obs:=[.cells 64 [.ref (0,0) 0,.cv (.bool false)],.arr 1 5 []]) rfl rfl (by simp[qb8,okV,bs,Qgn,I]) ?_
 rw[show qw8 [] [.cells 64 [.ref (0,0) 0,.cv (.bool false)],.arr 1 5 []]=qv3 from rfl,run116_0]
 rw[show qdd 1 [.int .u8 b.toNat]=true from rfl,qbg,qb2,qfu]
 simp only[qdq,qmi,qgy,qdb,qfa,Nat.le_refl,decide_true,Bool.true_and,qcy,qd9,qdn,List.drop_zero,List.length_singleton,Nat.zero_add,qbg,List.take_succ_cons,List.take_zero]
 rw[show decide (t.length+1≤2147483648)=true by simpa using h,qbg]
 rw[List.take_of_length_le (by rw[qmi];exact Nat.le_refl _)]
 simp[bs,byL_app,I,nI,byL,qcl]
theorem wb_new (b:UInt8):ioO B0 qv2 116 [.int .u8 b.toNat,.nilP,.nilS]=some [.nilI,I ((1:Nat):Int),bs [b]]:=by
 refine qfv (qf1 fun _=>.cl) (fn:=fn116) rfl (Pf:=qw8) rfl (xs:=[]) (obs:=[]) rfl rfl (by simp[qb8,okV]) ?_
 rw[show qw8 [] []=qv2 from rfl,run116_1]
 rfl
def hexT:Tx:=[48,49,50,51,52,53,54,55,56,57,97,98,99,100,101,102]
theorem hex_idx {n:Int} (h0:0≤n) (h1:n < 16):∃ b:UInt8,qbd (.strIdx (.c (.str hexT)) (.c (.int .u8 n)))=some (.int .u8 b.toNat):=by
 obtain⟨m,rfl⟩:=Int.eq_ofNat_of_zero_le h0
 have hm:m < hexT.length:=by show m < 16;omega
 refine⟨hexT[m],?_⟩
 simp only[qbd,exec,RX.ev,qj2]
 rw[if_pos h0,Int.toNat_natCast]
 dsimp only
 rw[List.getElem?_eq_getElem hm]
theorem esc_chain {β:Type} {c:Int} (h0:0≤c) (h1:c < 256) (K:PV→Option β):∃ x:Tx,x.length=3 ∧
  qbb (qbd (.bin .shr .num true (.c (.int .u8 c)) (.c (.int .u64 4)))) (fun z7=>qbb (qbd (.strIdx (.c (.str [48,49,50,51,52,53,54,55,56,57,97,98,99,100,101,102])) (.c z7))) (fun z8=>qbb (qbd (.bin .and .num true (.c (.int .u8 c)) (.c (.int .u8 15)))) (fun z9=>qbb (qbd (.strIdx (.c (.str [48,49,50,51,52,53,54,55,56,57,97,98,99,100,101,102])) (.c z9))) (fun z10=>qbw (qdd 1 [.int .u8 37,z8,z10]) (qbw (leN (qcq 0 (qbs [.int .u8 37,z8,z10])) (qbs [.int .u8 37,z8,z10])) (qbb (qbd (.ofBytes (.c (.sl 1 (qbu (qbs [.int .u8 37,z8,z10]) (qb4 0 [.int .u8 37,z8,z10])) false)))) K))))))=K (.str x):=by
 have e1:qbd (.bin .shr .num true (.c (.int .u8 c)) (.c (.int .u64 4)))=some (.int .u8 (c.fdiv 16)):=rfl
 have hq0:0≤c.fdiv 16:=Int.fdiv_nonneg h0 (by decide)
 have hq1:c.fdiv 16 < 16:=by
  rw[Int.fdiv_eq_ediv_of_nonneg _ (by decide)]
  omega
 have e2:∃ r:Int,qbd (.bin .and .num true (.c (.int .u8 c)) (.c (.int .u8 15)))=some (.int .u8 r)∧0≤r∧r < 16:=by
  have hb:(BitVec.ofInt 8 c &&& BitVec.ofInt 8 15).toNat < 16:=by
   rw[BitVec.toNat_and]
   exact Nat.lt_of_le_of_lt Nat.and_le_right (by decide)
  refine⟨IntKind.u8.wrap ((BitVec.ofInt 8 c &&& BitVec.ofInt 8 15).toNat:Int),rfl,?_,?_⟩ <;>
  ·unfold IntKind.wrap
   simp only[IntKind.bits,IntKind.signed,Bool.false_and,Bool.false_eq_true,if_false]
   omega
 obtain⟨r,e2,r0,r1⟩:=e2
 obtain⟨a,e3⟩:=hex_idx hq0 hq1
 obtain⟨b,e4⟩:=hex_idx r0 r1
 unfold hexT at e3 e4
 refine⟨[37,a,b],rfl,?_⟩
 rw[e1,qba,e3,qba,e2,qba,e4,qba]
 rw[show qdd 1 [.int .u8 37,.int .u8 a.toNat,.int .u8 b.toNat]=true from rfl,qbg]
 rw[show leN (qcq 0 (qbs [.int .u8 37,.int .u8 a.toNat,.int .u8 b.toNat])) (qbs [.int .u8 37,.int .u8 a.toNat,.int .u8 b.toNat])=true from rfl,qbg]
 have e5:[PV.int .u8 37,.int .u8 a.toNat,.int .u8 b.toNat]=byL [37,a,b]:=by simp[byL,qcl]
 rw[e5]
 simp only[qdq,qdn,qcy,List.drop_zero,List.take_length]
 rw[Qnq,qba]
theorem Qr2 (c:Int) (h0:0≤c) (h1:c < 256):∃ r:Int,qb6 B0 .cl (.fn 115 []) [.str [37,40,41,58],.int .u8 c]=some (.int .i64 r):=by
 refine⟨Lib.indexByte [37,40,41,58] (UInt8.ofNat c.toNat),?_⟩
 refine call (d:=fun _=>.cl) rfl (by decide) rfl rfl ?_
 rw[List.map_cons,List.map_cons,List.map_nil,run115]
 rw[show qb6 B0 .cl (.fn 151 []) [.str [37,40,41,58],.int .u8 c]=some (.int .i64 (Lib.indexByte [37,40,41,58] (UInt8.ofNat c.toNat))) from Qfu (qf1 fun _=>.cl) (by
  show spIdx [.str [37,40,41,58],.int .u8 c]=_
  simp only[spIdx]
  rw[if_pos ⟨h0,h1⟩]) rfl,qba]
theorem qru {β:Type} {c:Int} (h0:0≤c) (h1:c < 256) {K:PV→Option β} {Q:Option β→Prop} (h:∀ x:Tx,x.length=3→Q (K (.str x))) :
  Q (qbb (qbd (.bin .shr .num true (.c (.int .u8 c)) (.c (.int .u64 4)))) (fun z7=>qbb (qbd (.strIdx (.c (.str [48,49,50,51,52,53,54,55,56,57,97,98,99,100,101,102])) (.c z7))) (fun z8=>qbb (qbd (.bin .and .num true (.c (.int .u8 c)) (.c (.int .u8 15)))) (fun z9=>qbb (qbd (.strIdx (.c (.str [48,49,50,51,52,53,54,55,56,57,97,98,99,100,101,102])) (.c z9))) (fun z10=>qbw (qdd 1 [.int .u8 37,z8,z10]) (qbw (leN (qcq 0 (qbs [.int .u8 37,z8,z10])) (qbs [.int .u8 37,z8,z10])) (qbb (qbd (.ofBytes (.c (.sl 1 (qbu (qbs [.int .u8 37,z8,z10]) (qb4 0 [.int .u8 37,z8,z10])) false)))) K))))))):=by
 obtain⟨x,hx,e⟩:=esc_chain h0 h1 K
 rw[e]
 exact h x hx
theorem Qf1 (s t:Tx) (h:t.length+s.length≤2147483648):ioO B0 qqc 30 [.str s,I (t.length:Nat),bs t]=some [I (s.length:Nat),.nilI,I ((t++s).length:Nat),bs (t++s)]:=ws_used s t h
theorem Qm1 (s:Tx) (h:s.length≤2147483648):ioO B0 qnj 30 [.str s,.nilP,.nilS]=some [I (s.length:Nat),.nilI,I (s.length:Nat),bs s]:=ws_new s h
theorem wb_used' (b:UInt8) (t:Tx) (h:t.length+1≤2147483648):ioO B0 qv3 116 [.int .u8 b.toNat,I (t.length:Nat),bs t]=some [.nilI,I ((t++[b]).length:Nat),bs (t++[b])]:=wb_used b t h
theorem wb_new' (b:UInt8):ioO B0 qv2 116 [.int .u8 b.toNat,.nilP,.nilS]=some [.nilI,I ((1:Nat):Int),bs [b]]:=wb_new b
end Go.Ab.Core


namespace Go.Ab.Core
open Go Go.Ab
noncomputable def wStep:List PV×Unit→Option (Sum (List PV×Unit) (PV×Unit)):=qzw B0
def wSt (s:Tx) (k:Nat) (t:Tx):List PV×Unit:=([bs s,I (s.length:Nat),I (k:Nat),I (t.length:Nat),bs t],())
theorem idx_bs {s:Tx} {k:Nat} (h:k < s.length):qbd (.idxAddr 1 (.c (bs s)) (.c (I (k:Int))))=some (.ptr [.int .u8 s[k].toNat] 0) :=
 qhm (by omega) (show (byL s)[k]?=some (.int .u8 s[k].toNat) by simp[byL,qcl,h])
theorem load_b (c:Int):qbd (.load 1 false (.c (.ptr [PV.int .u8 c] 0)))=some (.int .u8 c):=rfl
theorem lss_b (c n:Int):qbd (.bin .lss .num true (.c (.int .u8 c)) (.c (.int .u8 n)))=some (.bool (decide (c < n))):=Qqr c n
theorem gtr_b (c n:Int):qbd (.bin .gtr .num true (.c (.int .u8 c)) (.c (.int .u8 n)))=some (.bool (decide (n < c))):=Qqs c n
noncomputable def wK (s t:Tx) (k:Nat) (z:PV):Option (Sum (List PV×Unit) (PV×Unit)):=qbb (ioO B0 qqc 30 [z,I (t.length:Nat),bs t]) (fun z24=>qbb (qbd (.bin .add .num true (.c (I (k:Int))) (.c (.int .i64 1)))) (fun z25=>some (Sum.inl ([bs s,I (s.length:Nat),z25,nI (qbi (nth z24 2)),.sl 1 (qbc (nth z24 3)) false],()))))
def wQ (s t:Tx) (k:Nat) (o:Option (Sum (List PV×Unit) (PV×Unit))):Prop:=∃ t':Tx,(t'.length≤t.length+3∧0 < t'.length)∧o=some (.inl (wSt s (k+1) t'))
theorem w_step {s:Tx} {k:Nat} {t:Tx} (hk:k < s.length) (hs:s.length≤big) (ht:t.length≤4000000):∃ t':Tx,(t'.length≤t.length+3∧0 < t'.length)∧wStep (wSt s k t)=some (.inl (wSt s (k+1) t')):=by
 have hb:big=1000000:=rfl
 have c0:0≤(s[k].toNat:Int):=Int.natCast_nonneg _
 have c1:(s[k].toNat:Int) < 256:=by have:=s[k].toNat_lt;omega
 obtain⟨r,hr⟩:=Qr2 _ c0 c1
 have done:∀ x:Tx,x.length=3→wQ s t k (wK s t k (.str x)):=fun x hx=>by
  refine⟨t++x,⟨by simp[hx],by simp[hx]⟩,?_⟩
  unfold wK
  rw[Qf1 x t (by omega),qba]
  simp only[qdi,qf3,qba,qc2,qde,qb2,qgd,qfu]
  rw[qg1 (by omega)]
  rfl
 unfold wStep qzw wSt
 simp only[qc8,qc4,qc2,qde,qfg,qdk,qba,qb2,qgd,qfu]
 rw[show decide ((k:Int) < (s.length:Nat))=true by simp;omega,qb5,idx_bs hk,qba,load_b,qba,lss_b,qba,qb1]
 by_cases h1:(s[k].toNat:Int) < 33
 ·rw[if_pos (by simpa using h1)]
  exact qru (K:=wK s t k) (Q:=wQ s t k) c0 c1 done
 ·rw[if_neg (by simpa using h1),gtr_b,qba,qb1]
  by_cases h2:126 < (s[k].toNat:Int)
  ·rw[if_pos (by simpa using h2)]
   exact qru (K:=wK s t k) (Q:=wQ s t k) c0 c1 done
  ·rw[if_neg (by simpa using h2),hr,qba]
   simp only[qdi,Qp6,qba,qb1]
   by_cases h3:0≤r
   ·rw[if_pos (by simpa using h3)]
    exact qru (K:=wK s t k) (Q:=wQ s t k) c0 c1 done
   ·rw[if_neg (by simpa using h3)]
    refine⟨t++[s[k]],⟨by simp,by simp⟩,?_⟩
    rw[wb_used' s[k] t (by omega),qba]
    simp only[qf3,qba,qc4,qc2,qb2,qgd,qfu]
    rw[qg1 (by omega)]
noncomputable def vK (s:Tx) (z:PV):Option (PV×Unit):=qbb (ioO B0 qnj 30 [z,.nilP,.nilS]) (fun z12=>qbb (qbd (.bin .add .num true (.c (.int .i64 0)) (.c (.int .i64 1)))) (fun z13=>qbw (qbo [bs s,I (s.length:Nat),z13]) (qcf wStep ([bs s,I (s.length:Nat),z13,nI (qbi (nth z12 2)),.sl 1 (qbc (nth z12 3)) false],()))))
def vQ (s:Tx) (o:Option (PV×Unit)):Prop:=∃ t:Tx,t.length≤3*s.length∧o=some (.str t,())
theorem w_loop {s:Tx} (hs:s.length≤big):∀ (m k:Nat) (t:Tx),k+m=s.length→t.length≤3*k→0 < t.length→∃ t':Tx,t'.length≤3*s.length∧qcf wStep (wSt s k t)=some (.str t',())
 | 0,k,t,hk,ht,h0=>by
  obtain rfl:k=s.length:=by omega
  have hb:big=1000000:=rfl
  refine⟨t,ht,qc3 ?_⟩
  unfold wStep qzw wSt
  simp only[qc8,qc4,qc2,qde,qfg,qdk,qba,qb2,qgd,qfu]
  rw[show decide ((s.length:Int) < (s.length:Nat))=false by simp,qbv]
  have e1:(byL t).take t.length=byL t:=List.take_of_length_le (by rw[qmi];exact Nat.le_refl _)
  rw[show qxb t.length (byL t)=true by
   unfold qxb
   rw[e1,qkb,qmi]
   simp only[Option.isSome_some,Bool.true_and,Bool.and_eq_true,decide_eq_true_eq]
   exact⟨h0,Nat.le_refl _,by unfold qdp;omega⟩,qbg]
  simp only[qcy,e1]
  rw[show qq2 (byL t)=.str t by unfold qq2;rw[qkb]]
  rfl
 | m+1,k,t,hk,ht,h0=>by
  have hb:big=1000000:=rfl
  obtain⟨t1,⟨q1,q2⟩,e⟩:=w_step (t:=t) (show k < s.length by omega) hs (by omega)
  rw[qc9 e]
  exact w_loop hs m (k+1) t1 (by omega) (by omega) q2
theorem word_run (s:Tx) (hs:s.length≤big):∃ t:Tx,t.length≤3*s.length∧qb6 B0 .cl (.fn 80 []) [.str s]=some (.str t):=by
 have hb:big=1000000:=rfl
 suffices h:∃ t:Tx,t.length≤3*s.length∧qmk (qjh B0 fun _=>.cl) fn80 .cl qbe 0 ([PV.str s].map KV.cv) ()=some (.str t,()) by
  obtain⟨t,h1,h2⟩:=h
  exact⟨t,h1,call (d:=fun _=>.cl) rfl (by decide) (by simp[qb8,okV]) rfl h2⟩
 have hby:qbd (.toBytes (.c (.str s)))=some (bs s):=by
  simp only[qbd,exec,RX.ev,chk]
  rw[show decide (s.length≤qp2)=true from decide_eq_true (by unfold qp2;omega)]
  rfl
 rw[List.map_cons,List.map_nil,run80,hby,qba,qg6,qmi,qba]
 cases s with
 | nil=>exact⟨[],Nat.le_refl _,rfl⟩
 | cons b s =>
  have hk:0 < (b :: s).length:=by simp
  have c0:0≤(b.toNat:Int):=Int.natCast_nonneg _
  have c1:(b.toNat:Int) < 256:=by have:=b.toNat_lt;omega
  obtain⟨r,hr⟩:=Qr2 _ c0 c1
  have hidx:qbd (.idxAddr 1 (.c (bs (b :: s))) (.c (.int .i64 0)))=some (.ptr [.int .u8 b.toNat] 0):=idx_bs hk
  simp only[qdi,qdk,qba]
  rw[show decide ((0:Int) < ((b :: s).length:Nat))=true from decide_eq_true (by omega),qb5]
  rw[show qbd (.idxAddr 1 (.c (bs (b :: s))) (.c (I 0)))=some (.ptr [.int .u8 b.toNat] 0) from hidx,qba,load_b,qba,lss_b,qba,qb1]
  have one:∀ x:Tx,x.length≤3→0 < x.length→∃ t:Tx,t.length≤3*(b :: s).length∧qcf wStep ([bs (b :: s),I ((b :: s).length:Nat),I ((1:Nat):Int),I (x.length:Nat),bs x],())=some (.str t,()):=fun x hx h0 =>
   w_loop hs s.length 1 x (by simp;omega) (by omega) h0
  have done:∀ x:Tx,x.length=3→vQ (b :: s) (vK (b :: s) (.str x)):=fun x hx=>by
   unfold vK
   rw[Qm1 x (by omega),qba]
   simp only[qdi,qf3,qba,qc2,qde,qb2,qgd,qfu]
   rw[show qbo [bs (b :: s),I ((b :: s).length:Nat),I (IntKind.i64.wrap (0+1))]=true from rfl,qbg]
   exact one x (by omega) (by omega)
  by_cases h1:(b.toNat:Int) < 33
  ·rw[if_pos (by simpa using h1)]
   exact qru (K:=vK (b :: s)) (Q:=vQ (b :: s)) c0 c1 done
  ·rw[if_neg (by simpa using h1),gtr_b,qba,qb1]
   by_cases h2:126 < (b.toNat:Int)
   ·rw[if_pos (by simpa using h2)]
    exact qru (K:=vK (b :: s)) (Q:=vQ (b :: s)) c0 c1 done
   ·rw[if_neg (by simpa using h2),hr,qba]
    simp only[qdi,Qp6,qba,qb1]
    by_cases h3:0≤r
    ·rw[if_pos (by simpa using h3)]
     exact qru (K:=vK (b :: s)) (Q:=vQ (b :: s)) c0 c1 done
    ·rw[if_neg (by simpa using h3),wb_new' b,qba]
     simp only[qf3,qba,qc4,qc2,qb2,qgd,qfu]
     rw[show qbo [bs (b :: s),I ((b :: s).length:Nat),I (IntKind.i64.wrap (0+1))]=true from rfl,qbg]
     exact one [b] (by simp) (by simp)
end Go.Ab.Core


namespace Go.Ab.Core
open Go Go.Ab
def qci:List Tr→Nat→List Int
 | [],_=>[]
 | a :: ks,o=>((o+a.size - 1:Nat):Int) :: qci ks (o+a.size)
mutual
def flat:Tr→Nat→List Nd
 | .mk k x ks,o=>qcz ks o++[⟨k,x,qci ks o⟩]
def qcz:List Tr→Nat→List Nd
 | [],_=>[]
 | a :: ks,o=>flat a o++qcz ks (o+a.size)
end
theorem qjz:∀ (ks:List Tr) (o:Nat),(qci ks o).length=ks.length
 | [],_=>rfl
 | a :: ks,o=>by simp[qci,qjz ks]
mutual
theorem qki:∀ (a:Tr) (o:Nat),(flat a o).length=a.size
 | .mk k x ks,o=>by simp[flat,Tr.size,qgs ks]
theorem qgs:∀ (ks:List Tr) (o:Nat),(qcz ks o).length=qcc ks
 | [],_=>rfl
 | a :: ks,o=>by simp[qcz,qcc,qki a,qgs ks]
end
theorem qjm:∀ ks:List Tr,ks.length≤qcc ks
 | []=>Nat.le_refl _
 | a :: ks=>by have:=qjm ks;have:=qke a;simp only[List.length_cons,qcc];omega
def qfq (d:Nat) (n:Nd):Nd:=⟨n.kind,n.text,n.kids.map (·+(d:Int))⟩
theorem qy6 (d:Nat):∀ (ks:List Tr) (o:Nat),(qci ks o).map (·+(d:Int))=qci ks (o+d)
 | [],_=>rfl
 | a :: ks,o=>by
  have:=qke a
  simp only[qci,List.map_cons,qy6 d ks]
  rw[show o+a.size+d=o+d+a.size by omega]
  congr 1
  omega
mutual
theorem qwp (d:Nat):∀ (a:Tr) (o:Nat),(flat a o).map (qfq d)=flat a (o+d)
 | .mk k x ks,o=>by simp[flat,qfq,Qbq d ks,qy6]
theorem Qbq (d:Nat):∀ (ks:List Tr) (o:Nat),(qcz ks o).map (qfq d)=qcz ks (o+d)
 | [],_=>rfl
 | a :: ks,o=>by
  simp only[qcz,List.map_append,qwp d a,Qbq d ks]
  rw[show o+a.size+d=o+d+a.size by omega]
end
def Qqa:List Tr→List Int
 | []=>[]
 | a :: ks=>List.replicate (a.size - 1) 1++0 :: Qqa ks
theorem Qd4:∀ (ks:List Tr) (i:Int) (last:Int) (o:Nat),last < o→(o:Int)+qcc ks≤i→qt1 i last (qci ks o)=true
 | [],_,_,_,_,_=>rfl
 | a :: ks,i,last,o,h1,h2=>by
  have:=qke a
  simp only[qcc] at h2
  simp only[qci,qt1,Bool.and_eq_true,decide_eq_true_eq]
  refine⟨⟨by omega,by omega⟩,Qd4 ks i _ _ (by omega) (by omega)⟩
theorem Qfw:∀ (ks:List Tr) (P Z:List Int),bump (P++Qqa ks++Z) (qci ks P.length)=P++List.replicate (qcc ks) 1++Z
 | [],P,Z=>by simp[Qqa,qci,bump,qcc]
 | a :: ks,P,Z=>by
  have hz:=qke a
  have e1:P++Qqa (a :: ks)++Z=(P++List.replicate (a.size - 1) 1)++0 :: (Qqa ks++Z):=by simp[Qqa]
  have hl:(P++List.replicate (a.size - 1) (1:Int)).length=P.length+a.size - 1:=by simp;omega
  show bump ((P++Qqa (a :: ks)++Z).set (((P.length+a.size - 1:Nat):Int)).toNat ((P++Qqa (a :: ks)++Z).getD (((P.length+a.size - 1:Nat):Int)).toNat 0+1)) (qci ks (P.length+a.size))=_
  rw[Int.toNat_natCast,e1,←hl]
  rw[show ((P++List.replicate (a.size - 1) (1:Int))++0 :: (Qqa ks++Z)).getD (P++List.replicate (a.size - 1) (1:Int)).length 0=0 by simp[List.getD_eq_getElem?_getD]]
  rw[show ((P++List.replicate (a.size - 1) (1:Int))++0 :: (Qqa ks++Z)).set (P++List.replicate (a.size - 1) (1:Int)).length (0+1)=(P++List.replicate a.size 1)++Qqa ks++Z by
   rw[List.set_append_right _ _ (Nat.le_refl _),Nat.sub_self]
   have:List.replicate a.size (1:Int)=List.replicate (a.size - 1) 1++[1]:=by
    rw[←List.replicate_succ'];congr 1;omega
   rw[this]
   simp]
  have h2:=Qfw ks (P++List.replicate a.size 1) Z
  rw[show (P++List.replicate a.size (1:Int)).length=P.length+a.size by simp] at h2
  rw[h2]
  simp[qcc,←List.replicate_append_replicate]
mutual
theorem Qdh:∀ (a:Tr) (P:List Int) (n:Nat) (rest:List Nd),a.Ok→a.size≤n→qdv P.length (P++List.replicate n 0) (flat a P.length++rest)=qdv (P.length+a.size) (P++(List.replicate (a.size - 1) 1++0 :: List.replicate (n - a.size) 0)) rest
 | .mk k x ks,P,n,rest,hok,hn=>by
  simp only[Tr.size] at hn
  have h1:=qy7 ks P n (⟨k,x,qci ks P.length⟩ :: rest) hok.2 (by omega)
  simp only[flat,List.append_assoc,List.singleton_append,Tr.size]
  rw[h1]
  simp only[qdv]
  rw[Qd4 ks _ _ _ (by omega) (by omega),Qlo (l':=List.replicate ks.length 0) (by simp[qjz]),hok.1]
  simp only[Bool.and_self,if_true]
  have h2:=Qfw ks P (List.replicate (n - qcc ks) 0)
  rw[List.append_assoc] at h2
  rw[h2]
  have e:List.replicate (n - qcc ks) (0:Int)=0 :: List.replicate (n - (qcc ks+1)) 0:=by
   rw[←List.replicate_succ];congr 1;omega
  rw[e,List.append_assoc]
  rfl
theorem qy7:∀ (ks:List Tr) (P:List Int) (n:Nat) (rest:List Nd),OkL ks→qcc ks≤n→qdv P.length (P++List.replicate n 0) (qcz ks P.length++rest)=qdv (P.length+qcc ks) (P++(Qqa ks++List.replicate (n - qcc ks) 0)) rest
 | [],P,n,rest,_,_=>by simp[qcz,qcc,Qqa]
 | a :: ks,P,n,rest,hok,hn=>by
  simp only[qcc] at hn
  have hz:=qke a
  simp only[qcz,List.append_assoc]
  rw[Qdh a P n _ hok.1 (by omega)]
  have e:P++(List.replicate (a.size - 1) 1++0 :: List.replicate (n - a.size) 0)=(P++(List.replicate (a.size - 1) 1++[0]))++List.replicate (n - a.size) 0:=by simp
  have hl:(P++(List.replicate (a.size - 1) (1:Int)++[0])).length=P.length+a.size:=by simp;omega
  have h2:=qy7 ks (P++(List.replicate (a.size - 1) 1++[0])) (n - a.size) rest hok.2 (by omega)
  rw[hl] at h2
  rw[e,h2]
  simp only[qcc,Qqa]
  rw[show P.length+(a.size+qcc ks)=P.length+a.size+qcc ks by omega,show n - (a.size+qcc ks)=n - a.size - qcc ks by omega]
  simp
end
theorem qlt {a:Tr} (h:a.Ok) (hs:a.size≤400):qdj (flat a 0)=true:=by
 have hz:=qke a
 have h1:=Qdh a [] a.size [] h (Nat.le_refl _)
 simp only[List.append_nil,List.nil_append,List.length_nil,Nat.sub_self,List.replicate_zero,qdv,Nat.zero_add] at h1
 unfold qdj
 rw[qki,h1]
 simp only[Bool.and_eq_true,decide_eq_true_eq]
 refine⟨⟨hz,hs⟩,?_⟩
 rw[List.all_eq_true]
 intro u hu
 unfold qnr at hu
 have hl:(List.replicate (a.size - 1) (1:Int)++[0]).length - 1=(List.replicate (a.size - 1) (1:Int)).length:=by simp
 rw[hl,List.set_append_right _ _ (Nat.le_refl _),Nat.sub_self] at hu
 have hg:(List.replicate (a.size - 1) (1:Int)++[0]).getD (List.replicate (a.size - 1) (1:Int)).length (0:Int)=(0:Int):=by simp[List.getD_eq_getElem?_getD]
 rw[hg] at hu
 rcases List.mem_append.1 hu with hu | hu
 ·have:=List.eq_of_mem_replicate hu
  simp[this]
 ·have:u=1:=by simpa using hu
  simp[this]
mutual
theorem Qlb (A B:List Nd):∀ (a:Tr),Qjc (A++flat a A.length++B) a (A.length+a.size - 1)
 | .mk k x ks=>by
  refine⟨qci ks A.length,?_,?_⟩
  ·simp only[flat,Tr.size]
   have e:A++(qcz ks A.length++[⟨k,x,qci ks A.length⟩])++B=(A++qcz ks A.length)++⟨k,x,qci ks A.length⟩ :: B:=by simp
   have hl:A.length+(qcc ks+1) - 1=(A++qcz ks A.length).length:=by simp[qgs]
   rw[e,hl,List.getElem?_append_right (Nat.le_refl _),Nat.sub_self]
   rfl
  ·have h:=Qfc A (⟨k,x,qci ks A.length⟩ :: B) ks
   have e:A++flat (.mk k x ks) A.length++B=A++qcz ks A.length++⟨k,x,qci ks A.length⟩ :: B:=by simp[flat]
   rw[e]
   exact h
theorem Qfc (A B:List Nd):∀ (ks:List Tr),qvs (A++qcz ks A.length++B) ks (qci ks A.length)
 | []=>rfl
 | a :: ks=>by
  refine⟨A.length+a.size - 1,qci ks (A.length+a.size),rfl,?_,?_⟩
  ·have h:=Qlb A (qcz ks (A.length+a.size)++B) a
   have e:A++qcz (a :: ks) A.length++B=A++flat a A.length++(qcz ks (A.length+a.size)++B):=by simp[qcz]
   rw[e];exact h
  ·have h:=Qfc (A++flat a A.length) B ks
   rw[List.length_append,qki] at h
   have e:A++qcz (a :: ks) A.length++B=A++flat a A.length++qcz ks (A.length+a.size)++B:=by simp[qcz]
   rw[e];exact h
end
mutual
theorem Qrr {t:List Nd}:∀ {a b:Tr} {i:Nat},Qjc t a i→Qjc t b i→a=b
 | .mk k x ks,.mk k' x' ks',i,h,h'=>by
  obtain⟨l,h1,h2⟩:=h
  obtain⟨l',h3,h4⟩:=h'
  rw[h1] at h3
  injection h3 with h3
  injection h3 with e1 e2 e3
  subst e1;subst e2;subst e3
  rw[Qlc h2 h4]
theorem Qlc {t:List Nd}:∀ {ks ks':List Tr} {l:List Int},qvs t ks l→qvs t ks' l→ks=ks'
 | [],[],_,_,_=>rfl
 | [],b :: ks',l,h,h'=>by
  obtain⟨k,l',h1,_⟩:=h'
  have h:l=[]:=h
  subst h
  cases h1
 | a :: ks,[],l,h,h'=>by
  obtain⟨k,l',h1,_⟩:=h
  have h':l=[]:=h'
  subst h'
  cases h1
 | a :: ks,b :: ks',l,h,h'=>by
  obtain⟨k,m,h1,h2,h3⟩:=h
  obtain⟨k',m',h4,h5,h6⟩:=h'
  rw[h1] at h4
  injection h4 with e1 e2
  have e1:k=k':=by omega
  subst e1;subst e2
  rw[Qrr h2 h5,Qlc h3 h6]
end
theorem Qm4 {a:Tr} (h:a.Ok) (hs:a.size≤400):qp1 (flat a 0)=some a:=by
 obtain⟨b,h1,h2,_⟩:=qfy (qlt h hs)
 have h3:=Qlb [] [] a
 simp only[List.append_nil,List.nil_append,List.length_nil,Nat.zero_add] at h3
 rw[qki] at h2
 rw[h1,Qrr h2 h3]
end Go.Ab.Core


namespace Go.Ab.Core
open Go Go.Ab
theorem Qhs:∀ (f n:Nat),(digs f n).length≤f+1
 | 0,n=>by simp[digs]
 | f+1,n=>by
  have:=Qhs f (n / 10)
  unfold digs
  split
  ·simp
  ·simp;omega
theorem Qrp (n:Int):(Qcu n).length≤30:=by
 unfold Qcu
 have h1:=Qhs 20 n.natAbs
 have h2:=Qhs 20 n.toNat
 split
 ·simp;omega
 ·omega
theorem kind_small {n:Nd} (h:qfm n=true):1≤n.kind∧n.kind≤14:=by
 unfold qfm at h
 split at h
 ·rename_i p hp
  have h1:=List.mem_of_find?_eq_some hp
  have h2:=List.find?_some hp
  have key:∀ p∈Qbj,1≤p.1∧p.1≤14:=by decide
  have:=key p h1
  have e:p.1=n.kind:=by simpa using h2
  omega
 ·cases h
theorem qng {c:Bool} {a b:Tx} (h:a.length+b.length≤qp2):qbd (.bin .add .str c (.c (.str a)) (.c (.str b)))=some (.str (a++b)):=by
 simp only[qbd,exec,RX.ev,qnf,qxx,chk]
 rw[show decide (a.length+b.length≤qp2)=true from decide_eq_true h]
 rfl
def qvr (t:List Nd):Prop:=∀ n∈t,n.text.length≤100
noncomputable def Qjs:List PV×Unit→Option (Sum (List PV×Unit) (PV×Unit)):=Qkl B0
def shSt (t:List Nd) (s:Tx) (l:List Int) (j:Nat) (k:Int) (x:Tx):List PV×Unit:=([.ptr [tl t] 0,.str s,il l,I (l.length:Nat),I (j:Nat),I k,.str x,il l],())
mutual
theorem Qqg {t:List Nd} (hf:Fine t) (hx:qvr t):∀ (a:Tr) (i:Nat),Qjc t a i→a.Ok→a.size≤400→∃ s:Tx,s.length≤800*a.size∧qmk (qjh B0 fun _=>.cl) fn52 .cl qbe 0 ([PV.ptr [tl t] 0,I (i:Int)].map KV.cv) ()=some (.str s,())
 | .mk k x ks,i,ha,hok,hz=>by
  obtain⟨l,hl,hks⟩:=ha
  have hi:i < t.length:=(List.getElem?_eq_some_iff.1 hl).1
  have hn:t[i]=⟨k,x,l⟩:=(List.getElem?_eq_some_iff.1 hl).2
  have hmax:qp2=9223372036854775807:=rfl
  have hxl:x.length≤100:=by have:=hx _ (List.getElem_mem hi);rw[hn] at this;exact this
  have hkr:=kind_small hok.1
  have hlb:l.length≤big:=by have:=(hf.nd _ (List.getElem_mem hi)).kids;rw[hn] at this;exact this
  obtain⟨w,w1,w2⟩:=word_run x (by unfold big;omega)
  have hil:=Qrp k
  simp only[Tr.size] at hz
  rw[List.map_cons,List.map_cons,List.map_nil,run52]
  rw[show qbd (.nilck (.c (.ptr [tl t] 0)))=some (.ptr [tl t] 0) from rfl,qba,show qbd (.fieldAddr 0 (.c (.ptr [tl t] 0)))=some (.ptr [tl t] 0) from rfl,qba,show qbd (.load 1 false (.c (.ptr [tl t] 0)))=some (tl t) from rfl,qba,qks hi,qba,Qkn,qba]
  rw[hn,qj1,qbg]
  simp only[qhx,qhw,qhv]
  have hk0:(1:Int)≤k:=hkr.1
  have hk1:k≤14:=hkr.2
  rw[Qk9 (by omega) (by omega),qba,qng (by simp;omega),qba,w2,qba,qng (by simp;omega),qba,qhi,qba]
  rw[show qbo [.ptr [tl t] 0,.str (Qcu k++[58]++w),il l,I (l.length:Nat),.int .i64 0]=true from rfl,qbg]
  obtain⟨s,s1,s2⟩:=Qjr hf hx ks l 0 k x hks hlb hok.2 (by omega) (Qcu k++[58]++w) 340 (by simp;omega) (by have:=qjm ks;omega)
  refine⟨s,?_,s2⟩
  have:=qjm ks
  simp only[Tr.size]
  omega
theorem Qjr {t:List Nd} (hf:Fine t) (hx:qvr t):∀ (ks:List Tr) (l:List Int) (j:Nat) (k:Int) (x:Tx),qvs t ks (l.drop j)→l.length≤big→OkL ks→qcc ks≤400→∀ (s:Tx) (m:Nat),s.length≤m→m+800*qcc ks+ks.length≤1000000 →
  ∃ s':Tx,s'.length≤m+800*qcc ks+ks.length+2∧qcf Qjs (shSt t s l j k x)=some (.str s',())
 | [],l,j,k,x,hks,hb,hok,hzz,s,m,hs,hm=>by
  simp only[qcc,List.length_nil] at hm ⊢
  have hks:l.drop j=[]:=hks
  have hj:=List.drop_eq_nil_iff.1 hks
  have hmax:qp2=9223372036854775807:=rfl
  have hbb:big=1000000:=rfl
  by_cases h0:0 < l.length
  ·refine⟨[40]++s++[41],by simp only[List.length_append,List.length_cons,List.length_nil];omega,qc3 ?_⟩
   unfold Qjs Qkl shSt
   simp only[qc8,qc4,qc2,qde,qfg,qgr,qh1,qjl,qdk,qba,qhi,qdi,I_gtr,qb1]
   rw[if_neg (by simp;omega),if_pos (by simp;omega),qng (by simp;omega),qba,qng (by simp;omega),qba]
   rfl
  ·refine⟨s,by omega,qc3 ?_⟩
   unfold Qjs Qkl shSt
   simp only[qc8,qc4,qc2,qde,qfg,qgr,qh1,qjl,qdk,qba,qhi,qdi,I_gtr,qb1]
   rw[if_neg (by simp;omega),if_neg (by rw[decide_eq_true_eq];omega)]
   rfl
 | a :: ks,l,j,k,x,hks,hb,hok,hzz,s,m,hs,hm=>by
  obtain⟨kk,l',h1,h2,h3⟩:=hks
  have hj:j < l.length:=by
   rcases Nat.lt_or_ge j l.length with hj | hj
   ·exact hj
   ·rw[List.drop_eq_nil_of_le hj] at h1;cases h1
  rw[List.drop_eq_getElem_cons hj] at h1
  injection h1 with h4 h5
  have hbb:big=1000000:=rfl
  have hmax:qp2=9223372036854775807:=rfl
  simp only[qcc,List.length_cons] at hm hzz ⊢
  have hsz:a.size≤400:=by
   have:=Nat.zero_le (qcc ks)
   omega
  obtain⟨u,u1,u2⟩:=Qqg hf hx a kk h2 hok.1 hsz
  have hc:qb6 B0 .cl (.fn 52 []) [.ptr [tl t] 0,I (kk:Int)]=some (.str u):=call (d:=fun _=>.cl) rfl (by decide) (by simp[qb8,okV]) rfl u2
  have hst:Qjs (shSt t s l j k x)=some (.inl (shSt t (s++([32]++u)) l (j+1) k x)):=by
   unfold Qjs Qkl shSt
   simp only[qc8,qc4,qc2,qde,qfg,qgr,qh1,qjl,qdk,qba]
   rw[show decide ((j:Int) < (l.length:Nat))=true from decide_eq_true (by omega),qb5,qr8 hj,qba,qmx,qba,h4,hc,qba,qng (by simp;omega),qba,qng (by simp;omega),qba]
   simp only[qdi,qf3,qba]
   rw[qg1 (by omega)]
  rw[qc9 hst]
  obtain⟨s',q1,q2⟩:=Qjr hf hx ks l (j+1) k x (by rw[h5];exact h3) hb hok.2 (by omega) (s++([32]++u)) (m+1+800*a.size) (by simp;omega) (by omega)
  exact⟨s',by omega,q2⟩
end
end Go.Ab.Core


namespace Go.Ab.Core
open Go Go.Ab
noncomputable def addIn:List PV×Unit→Option (Sum (List PV×Unit) (Sum (List PV×Unit) (List PV))):=(fun z9=>qbb (qbd (.bin .lss .num false (.c (nth z9.1 6)) (.c (nth z9.1 5)))) (fun z10=>qdu z10 (qbb (qr6 (nth z9.1 6)) (fun z11=>qbw (ltN z11 (qbi (nth z9.1 1))) (qbb (qkz (qbc (nth z9.1 15)) (qcq 0 z11) 0 1 false) (fun z12=>qbb (qbd (.bin .add .num false (.c z12) (.c (nth z9.1 0)))) (fun z13=>qbb (qr6 (nth z9.1 6)) (fun z14=>qbw (ltN z14 (qbi (nth z9.1 1))) (qbb (setO 1 (qbc (nth z9.1 15)) (qcq 0 z14) 0 1 z13) (fun z15=>qbb (qbd (.bin .add .num true (.c (nth z9.1 6)) (.c (.int .i64 1)))) (fun z16=>some (.inl ([nth z9.1 0,nI (qbi (nth z9.1 1)),nth z9.1 2,nth z9.1 3,nth z9.1 4,nth z9.1 5,z16,nI (qbi (nth z9.1 7)),nI (qbi (nth z9.1 8)),nth z9.1 9,.sl 3 (qbc (nth z9.1 10)) false,.sl 1 (qbc (nth z9.1 11)) false,nth z9.1 12,nth z9.1 13,nth z9.1 14,.sl 1 z15 false],z9.2))))))))))) (qbb (qbw (qcu (nth z9.1 12) 1) (qbw (qcu (nth z9.1 13) 1) (qbw (qdd 3 [.agg [qbl (nth z9.1 12) 0,qbl (nth z9.1 13) 0,slO 1 1 (qbc (nth z9.1 15)) 0 (qbi (nth z9.1 1))]]) (qbw (leN (qcq 0 (qbs [.agg [qbl (nth z9.1 12) 0,qbl (nth z9.1 13) 0,slO 1 1 (qbc (nth z9.1 15)) 0 (qbi (nth z9.1 1))]])) (qbs [.agg [qbl (nth z9.1 12) 0,qbl (nth z9.1 13) 0,slO 1 1 (qbc (nth z9.1 15)) 0 (qbi (nth z9.1 1))]])) (qbw (qrx (leN (qbi (nth z9.1 7)) (qbs (qbc (nth z9.1 10)))) (leN (qcq (qbi (nth z9.1 7)) (qbs (qbu (qbs [.agg [qbl (nth z9.1 12) 0,qbl (nth z9.1 13) 0,slO 1 1 (qbc (nth z9.1 15)) 0 (qbi (nth z9.1 1))]]) (qb4 0 [.agg [qbl (nth z9.1 12) 0,qbl (nth z9.1 13) 0,slO 1 1 (qbc (nth z9.1 15)) 0 (qbi (nth z9.1 1))]])))) 2147483648)) (qbb (qbd (.bin .add .num true (.c (nth z9.1 4)) (.c (.int .i64 1)))) (fun z17=>some (.inl ([nth z9.1 0,nth z9.1 2,nth z9.1 3,z17,nI (qcq (qbi (nth z9.1 7)) (qbs (qbu (qbs [.agg [qbl (nth z9.1 12) 0,qbl (nth z9.1 13) 0,slO 1 1 (qbc (nth z9.1 15)) 0 (qbi (nth z9.1 1))]]) (qb4 0 [.agg [qbl (nth z9.1 12) 0,qbl (nth z9.1 13) 0,slO 1 1 (qbc (nth z9.1 15)) 0 (qbi (nth z9.1 1))]])))),nI (qbi (nth z9.1 8)),nth z9.1 9,.sl 3 (qmh (qbu (qbi (nth z9.1 7)) (qbc (nth z9.1 10))) (qbu (qbs [.agg [qbl (nth z9.1 12) 0,qbl (nth z9.1 13) 0,slO 1 1 (qbc (nth z9.1 15)) 0 (qbi (nth z9.1 1))]]) (qb4 0 [.agg [qbl (nth z9.1 12) 0,qbl (nth z9.1 13) 0,slO 1 1 (qbc (nth z9.1 15)) 0 (qbi (nth z9.1 1))]]))) false,.sl 1 (qbc (nth z9.1 11)) false],z9.2))))))))) (fun z18=>some (.inr z18)))))
noncomputable def addOut:List PV×Unit→Option (Sum (List PV×Unit) (List PV)):=(fun z2=>qbb (qbd (.bin .lss .num false (.c (nth z2.1 3)) (.c (nth z2.1 2)))) (fun z3=>qdu z3 (qbb (qbd (.idxAddr 3 (.c (nth z2.1 1)) (.c (nth z2.1 3)))) (fun z4=>qbb (qbd (.load 3 true (.c z4))) (fun z5=>qbw (qcu z5 3) (qbb (qbd (.len .slice (.c (qbl z5 2)))) (fun z6=>qbb (mkSO z6 z6) (fun z7=>qbb (qjr 1 (qbl z5 2)) (fun z8=>qbw (leN (qcq 0 z7) (qbs (qmn z7 (.int .i64 0)))) (qbw (qbo [nth z2.1 0,nI z7,nth z2.1 1,nth z2.1 2,nth z2.1 3,nI z7,.int .i64 0]) (qcf addIn ([nth z2.1 0,nI z7,nth z2.1 1,nth z2.1 2,nth z2.1 3,nI z7,.int .i64 0,nI (qbi (nth z2.1 4)),nI (qbi (nth z2.1 5)),nth z2.1 6,.sl 3 (qbc (nth z2.1 7)) false,.sl 1 (qbc (nth z2.1 8)) false,qbl z5 0,qbl z5 1,qbl z5 2,.sl 1 (qmh (qmh (qbu 0 (qmn z7 (.int .i64 0))) (qbu z7 z8)) (qb4 (qcq 0 (qbs (qbu z7 z8))) (qmn z7 (.int .i64 0)))) false],z2.2)))))))))) (qbb (some [nI (qbi (nth z2.1 4)),nI (qbi (nth z2.1 5)),nth z2.1 6,.sl 3 (qbc (nth z2.1 7)) false,.sl 1 (qbc (nth z2.1 8)) false]) (fun z19=>some (.inr z19)))))
noncomputable def Qhc:List PV×Unit→Option (Sum (List PV×Unit) (PV×Unit)):=Qq6 B0
@[simp] theorem nth_14 (a b c d e f g h i j k m n o x:PV) (l:List PV):nth (a :: b :: c :: d :: e :: f :: g :: h :: i :: j :: k :: m :: n :: o :: x :: l) 14=x:=rfl
@[simp] theorem nth_15 (a b c d e f g h i j k m n o p x:PV) (l:List PV):nth (a :: b :: c :: d :: e :: f :: g :: h :: i :: j :: k :: m :: n :: o :: p :: x :: l) 15=x:=rfl
def Low (t:List Nd):Prop:=∀ n∈t,n.kids.length≤big∧∀ k∈n.kids,0≤k∧k≤big
theorem qx5 (l:List Nd):(nds l).take l.length=nds l:=List.take_of_length_le (by simp)
theorem qx6 (l:List Nd) (x:Nd):nds l++[nd x]=nds (l++[x]):=by simp[nds]
theorem Qm9 (l:List Nd):slO 3 3 (nds l) 0 l.length=tl l:=by
 have:=qly 3 (nds l)
 rwa [qrk] at this
theorem Ql5 (l:List Int):qjr 1 (il l)=some (qgk l):=by simp[qjr,qk8,il,chk]
theorem Qmd (l:List Int):List.take 0 (qgk (List.replicate l.length 0))++List.take l.length (qgk l)++List.drop (0+(List.take l.length (qgk l)).length) (qgk (List.replicate l.length 0))=qgk l:=by
 rw[qp6]
 simp
theorem set_map {α:Type} (f:α→α) {l:List α} {j:Nat} (hj:j < l.length):((l.take j).map f++l.drop j).set j (f l[j])=(l.take (j+1)).map f++l.drop (j+1):=by
 have hl:((l.take j).map f).length=j:=by simp;omega
 rw[List.set_append_right _ _ (by omega),hl,Nat.sub_self,List.drop_eq_getElem_cons hj,List.set_cons_zero,List.take_succ_eq_append_getElem hj,List.map_append]
 simp only[List.map_cons,List.map_nil,List.append_assoc,List.singleton_append]
theorem Qq1 (n:Nd):qdd 3 [nd n]=true:=rfl
theorem addIn_loop {t:List Nd} {i off nb nk:Nat} {err:PV} {bs ks:List PV} {n:Nd} (hn:n.kids.length≤big) (hk:∀ k∈n.kids,0≤k∧k≤big) (ho:off≤big) (hi:i < t.length) (ht:t.length≤big) (hb:bs.length=nb) (hnb:nb≤big) :
  qcf addIn ([I (off:Nat),I (n.kids.length:Nat),tl t,I (t.length:Nat),I (i:Nat),I (n.kids.length:Nat),I ((0:Nat):Int),I (nb:Nat),I (nk:Nat),err,.sl 3 bs false,.sl 1 ks false,I n.kind,.str n.text,il n.kids,il n.kids],()) =
   some (.inl ([I (off:Nat),tl t,I (t.length:Nat),I ((i+1:Nat):Int),I ((nb+1:Nat):Int),I (nk:Nat),err,.sl 3 (bs++[nd (qfq off n)]) false,.sl 1 ks false],())):=by
 have hbl:=qhq
 refine qrh (fun j=>([I (off:Nat),I (n.kids.length:Nat),tl t,I (t.length:Nat),I (i:Nat),I (n.kids.length:Nat),I (j:Nat),I (nb:Nat),I (nk:Nat),err,.sl 3 bs false,.sl 1 ks false,I n.kind,.str n.text,il n.kids,il ((n.kids.take j).map (·+(off:Int))++n.kids.drop j)],())) n.kids.length rfl (fun j hj=>?_) ?_
 ·have hl:((n.kids.take j).map (·+(off:Int))++n.kids.drop j).length=n.kids.length:=by simp;omega
  have hlt:j < ((n.kids.take j).map (·+(off:Int))++n.kids.drop j).length:=by omega
  have hget:((n.kids.take j).map (·+(off:Int))++n.kids.drop j)[j]=n.kids[j]:=by
   rw[List.getElem_append_right (by simp;omega)]
   simp[Nat.min_eq_left (Nat.le_of_lt hj)]
  have hkj:=hk _ (List.getElem_mem hj)
  unfold addIn
  simp only[qc8,qc4,qc2,qde,qfg,qgr,qh1,qjl,ql3,qmo,qlc,qtt,Qkd,Qkc,nth_14,nth_15,qb2,qgd,qby,qcg,qgl,qdi,qdk,qba]
  rw[show decide ((j:Int) < (n.kids.length:Nat))=true by simp;omega,qb5]
  simp only[qtv,qba,qqm,qdb,Nat.zero_add,show decide (j < n.kids.length)=true by simpa using hj,qbg]
  rw[qn7 hlt,qba,hget,qf3,qba,w64 (by omega) (by omega),qx7 hlt,qba,qf3,qba,qg1 (by omega)]
  rw[set_map (·+(off:Int)) hj]
  rfl
 ·have hfin:(n.kids.take n.kids.length).map (·+(off:Int))++n.kids.drop n.kids.length=n.kids.map (·+(off:Int)):=by simp
  unfold addIn
  simp only[qc8,qc4,qc2,qde,qfg,qgr,qh1,qjl,ql3,qmo,qlc,qtt,Qkd,Qkc,nth_14,nth_15,qb2,qgd,qby,qcg,qgl,qdi,qdk,qba,hfin]
  rw[show decide ((n.kids.length:Int) < (n.kids.length:Nat))=false by simp,qbv]
  have e1:slO 1 1 (qgk (n.kids.map (·+(off:Int)))) 0 n.kids.length=il (n.kids.map (·+(off:Int))):=by
   have:=qmu (n.kids.map (·+(off:Int)))
   rwa [List.length_map] at this
  have e2:PV.agg [qbl (I n.kind) 0,qbl (.str n.text) 0,il (n.kids.map (·+(off:Int)))]=nd (qfq off n):=rfl
  rw[e1,e2,show qcu (I n.kind) 1=true from rfl,show qcu (.str n.text) 1=true from rfl,Qq1]
  simp only[qbg,qdq,List.length_singleton,qdb,Nat.zero_add,qgy,Nat.le_refl,decide_true,qcy,qdn,List.drop_zero,List.take_succ_cons,List.take_zero,qfa,Bool.true_and,qd9,hb]
  rw[show decide (nb+1≤2147483648)=true by simp;omega,qbg,List.take_of_length_le (by omega)]
  simp only[qf3,qba]
  rw[qg1 (by omega)]
theorem Qck {t:List Nd} {off nk:Nat} {err:PV} {ks:List PV} (hlow:Low t) (ht:t.length≤big) (ho:off≤big):∀ (rest:List Nd) (i:Nat) (b:List Nd),t.drop i=rest→i≤t.length→b.length+rest.length≤big →
  qcf addOut ([I (off:Nat),tl t,I (t.length:Nat),I (i:Nat),I (b.length:Nat),I (nk:Nat),err,.sl 3 (nds b) false,.sl 1 ks false],()) =
   some [I ((b++rest.map (qfq off)).length:Nat),I (nk:Nat),err,.sl 3 (nds (b++rest.map (qfq off))) false,.sl 1 ks false]
 | [],i,b,hd,hi,hb=>by
  have e:i=t.length:=by have:=List.drop_eq_nil_iff.1 hd;omega
  subst e
  refine qc3 ?_
  unfold addOut
  simp only[qc8,qc4,qc2,qde,qfg,qgr,qh1,qjl,ql3,qb2,qgd,qby,qdi,qdk,qba]
  rw[show decide ((t.length:Int) < (t.length:Nat))=false by simp,qbv]
  simp
 | n :: rest,i,b,hd,hi,hb=>by
  obtain⟨hi',h1,h2⟩:=qmb hd
  have hbl:=qhq
  have hln:=hlow n (by rw[←h1];exact List.getElem_mem hi')
  simp only[List.length_cons] at hb
  have hin:=addIn_loop (t:=t) (i:=i) (off:=off) (nb:=b.length) (nk:=nk) (err:=err) (bs:=nds b) (ks:=ks) hln.1 hln.2 ho hi' ht (by simp) (by omega)
  rw[qc9 (s':=([I (off:Nat),tl t,I (t.length:Nat),I ((i+1:Nat):Int),I ((b++[qfq off n]).length:Nat),I (nk:Nat),err,.sl 3 (nds (b++[qfq off n])) false,.sl 1 ks false],()))]
  ·have h3:=Qck (nk:=nk) (err:=err) (ks:=ks) hlow ht ho rest (i+1) (b++[qfq off n]) h2 (by omega) (by simp;omega)
   simp only[List.map_cons]
   rw[h3]
   simp
  ·unfold addOut
   simp only[qc8,qc4,qc2,qde,qfg,qgr,qh1,qjl,ql3,qb2,qgd,qby,qdi,qdk,qba]
   rw[show decide ((i:Int) < (t.length:Nat))=true by simp;omega,qb5,qks hi',h1]
   simp only[qba,Qkn,qj1,qbg,qhx,qhw,qhv,qhi,Ql5]
   rw[Qq4 (by unfold qdp;omega)]
   simp only[qba,qto,qdq,qcr,List.length_replicate,qdb,Nat.zero_add,qgy,Nat.le_refl,decide_true,qbg,qcy,qdn,qd9]
   rw[show qbo [I (off:Nat),I (n.kids.length:Nat),tl t,I (t.length:Nat),I (i:Nat),I (n.kids.length:Nat),I 0]=true from rfl,qbg]
   have hc:=Qmd n.kids
   rw[Nat.zero_add] at hc
   rw[hc,qgl]
   have hin':=hin
   rw[show I ((0:Nat):Int)=I 0 from rfl] at hin'
   rw[hin']
   rw[show nds b++[nd (qfq off n)]=nds (b++[qfq off n]) from qx6 b _]
   simp
theorem add_run {t b:List Nd} {off nk:Nat} {err:PV} {kk:List Int} (hlow:Low t) (ho:off≤big) (hb:b.length+t.length≤big) (he:okV err=true) :
  ioO B0 Qnb 119 [I (off:Nat),tl t,I (b.length:Nat),I (nk:Nat),err,.sl 3 (nds b) false,.sl 1 (qgk kk) false] =
   some [I ((b++t.map (qfq off)).length:Nat),I (nk:Nat),err,.sl 3 (nds (b++t.map (qfq off))) false,.sl 1 (qgk kk) false]:=by
 refine qfv (qf1 fun _=>.cl) (fn:=fn119) rfl (Pf:=shs119) rfl (xs:=[]) (obs:=[]) rfl rfl (by simp[qb8,he,okV,Qgm,qts]) ?_
 rw[show shs119 [] []=Qnb from rfl,run119,qld,qba]
 simp only[qb2,qgd,qby,qdi]
 rw[show qbo [I (off:Nat),tl t,I (t.length:Nat),I 0]=true from rfl,qbg]
 exact Qck hlow (by omega) ho t 0 b rfl (Nat.zero_le _) hb
theorem kid_run {t b:List Nd} {err:PV} {kk:List Int} (hf:Fine t) (hr:qdj t=true) (hlow:Low t) (hb:b.length+t.length≤big) (hk:kk.length≤big) (he:okV err=true) :
  ioO B0 sh86 86 [tl t,I (b.length:Nat),I (kk.length:Nat),err,.sl 3 (nds b) false,.sl 1 (qgk kk) false] =
   some [I ((b++t.map (qfq b.length)).length:Nat),I ((kk++[((b.length+t.length - 1:Nat):Int)]).length:Nat),err,.sl 3 (nds (b++t.map (qfq b.length))) false,.sl 1 (qgk (kk++[((b.length+t.length - 1:Nat):Int)])) false]:=by
 have hbl:=qhq
 have h1:1≤t.length:=(qfy hr).choose_spec.2.2.2.2.1
 refine qfv (qf1 fun _=>.cl) (fn:=fn86) rfl (Pf:=shs86) rfl (xs:=[]) (obs:=[]) rfl rfl (by simp[qb8,he,okV,Qgm,qts]) ?_
 rw[show shs86 [] []=sh86 from rfl,run86,qtm hf,qba,hr]
 simp only[qmv,qba,qb2,qgd,qby,qdi]
 rw[show (!true)=false from rfl,qbv]
 have ha:=add_run (t:=t) (b:=b) (off:=b.length) (nk:=kk.length) (err:=err) (kk:=kk) hlow (by omega) hb he
 rw[show ioO B0 Qnb 119 _=_ from ha,qba]
 simp only[qc8,qc4,qc2,qde,qfg,qb2,qby,Qjb,qba]
 have hl:(b++t.map (qfq b.length)).length=b.length+t.length:=by simp
 rw[hl,Qf2 (by omega) (by omega)]
 rw[show qdd 1 [I ((b.length+t.length - 1:Nat):Int)]=true from rfl]
 simp only[qbg,qdq,List.length_singleton,qcr,qdb,Nat.zero_add,qgy,Nat.le_refl,decide_true,qcy,qdn,List.drop_zero,List.take_succ_cons,List.take_zero,qfa,Bool.true_and,qd9,qp6,qtk]
 rw[show decide (kk.length+1≤2147483648)=true by simp;omega,qbg]
 simp
theorem Qjw:∀ (ks:List Tr) (o:Nat),∀ k∈qci ks o,0≤k∧k < ((o+qcc ks:Nat):Int)
 | [],_,k,h=>by cases h
 | a :: ks,o,k,h=>by
  have hz:=qke a
  simp only[qci,List.mem_cons] at h
  simp only[qcc]
  rcases h with rfl | h
  ·omega
  ·have:=Qjw ks _ k h
   omega
mutual
theorem qyj:∀ (a:Tr) (o:Nat),o+a.size≤big→Low (flat a o)
 | .mk k x ks,o,h,n,hn=>by
  simp only[Tr.size] at h
  simp only[flat,List.mem_append,List.mem_singleton] at hn
  rcases hn with hn | rfl
  ·exact Qlq ks o (by omega) n hn
  ·have:=qjm ks
   refine⟨by simp only[qjz];omega,fun j hj=>?_⟩
   have:=Qjw ks o j hj
   omega
theorem Qlq:∀ (ks:List Tr) (o:Nat),o+qcc ks≤big→Low (qcz ks o)
 | [],_,_,n,hn=>by cases hn
 | a :: ks,o,h,n,hn=>by
  simp only[qcc] at h
  simp only[qcz,List.mem_append] at hn
  rcases hn with hn | hn
  ·exact qyj a o (by omega) n hn
  ·exact Qlq ks _ (by omega) n hn
end
theorem qn0 {a:Tr} (h:a.size≤400):Fine (flat a 0):=⟨by rw[qki];unfold big;omega,fun n hn=>⟨(qyj a 0 (by unfold big;omega) n hn).1⟩⟩
theorem qwq (a:Tr):∀ (ks:List Tr) (o:Nat),qcz (ks++[a]) o=qcz ks o++flat a (o+qcc ks)
 | [],o=>by simp[qcz,qcc]
 | b :: ks,o=>by simp only[List.cons_append,qcz,qwq a ks,qcc,List.append_assoc];rw[Nat.add_assoc]
theorem qsj (a:Tr):∀ (ks:List Tr) (o:Nat),qci (ks++[a]) o=qci ks o++[((o+qcc ks+a.size - 1:Nat):Int)]
 | [],o=>by simp[qci,qcc]
 | b :: ks,o=>by simp only[List.cons_append,qci,qsj a ks,qcc];rw[Nat.add_assoc o]
theorem qv1 (a:Tr):∀ (ks:List Tr),qcc (ks++[a])=qcc ks+a.size
 | []=>by simp[qcc]
 | b :: ks=>by simp only[List.cons_append,qcc,qv1 a ks];omega
def qd7 (ks:List Tr):List PV:=ks.map fun a=>tl (flat a 0)
theorem Qdo (ks:List Tr):qb8 (qd7 ks)=true:=by
 induction ks with
 | nil=>rfl
 | cons a ks ih=>simp only[qd7,List.map_cons,qb8,Qj9,Bool.true_and];exact ih
theorem Qk8 {k:Int} {x:Tx} {ks:List Tr} (hok:OkL ks) (hfm:qfm ⟨k,x,List.replicate ks.length 0⟩=true) (hs:qcc ks+1≤400):∀ (rest pre:List Tr),ks=pre++rest→OkL rest →
  qcf Qhc ([I k,.str x,.sl 1 (qd7 ks) false,I (ks.length:Nat),I (pre.length:Nat),I ((qcz pre 0).length:Nat),I ((qci pre 0).length:Nat),.nilI,.sl 3 (nds (qcz pre 0)) false,.sl 1 (qgk (qci pre 0)) false],()) =
   some (.tup [tl (flat (.mk k x ks) 0),I 0],())
 | [],pre,he,_=>by
  have he:ks=pre:=by simpa using he
  subst he
  have hbl:=qhq
  have hokT:Tr.Ok (.mk k x ks):=⟨hfm,hok⟩
  have hsT:Tr.size (.mk k x ks)≤400:=by simpa[Tr.size] using hs
  have hl1:=qgs ks 0
  have hl2:=qjz ks 0
  have hl3:=qjm ks
  refine qc3 ?_
  unfold Qhc Qq6
  simp only[qc8,qc4,qc2,qde,qfg,qgr,qh1,qjl,ql3,qmo,qb2,qgd,qby,qdi,qdk,qba]
  rw[show decide ((ks.length:Int) < (ks.length:Nat))=false by simp,qbv]
  have e1:slO 1 1 (qgk (qci ks 0)) 0 (qci ks 0).length=il (qci ks 0):=qmu _
  have e2:PV.agg [qbl (I k) 0,qbl (.str x) 0,il (qci ks 0)]=nd ⟨k,x,qci ks 0⟩:=rfl
  rw[e1,e2,show qcu (I k) 1=true from rfl,show qcu (.str x) 1=true from rfl,Qq1]
  simp only[qbg,qdq,List.length_singleton,qrk,qdb,Nat.zero_add,qgy,Nat.le_refl,decide_true,qcy,qdn,List.drop_zero,List.take_succ_cons,List.take_zero,qfa,Bool.true_and,qd9,qx5,qx6]
  rw[show decide ((qcz ks 0).length+1≤2147483648)=true by simp;omega,qbg]
  have e3:qcz ks 0++[⟨k,x,qci ks 0⟩]=flat (.mk k x ks) 0:=rfl
  have e4:(qcz ks 0).length+1=(flat (.mk k x ks) 0).length:=by rw[←e3];simp
  rw[e3,e4,Qm9,right_lend (qn0 hsT),qlt hokT hsT,qba,qb5]
  rw[show okU (.tup [tl (flat (.mk k x ks) 0),I 0])=true by simp[okU,okV,qb8],qbg]
  rfl
 | a :: rest,pre,he,ho=>by
  have hbl:=qhq
  have hsz:qcc ks=qcc pre+a.size+qcc rest:=by
   rw[he,show pre++a :: rest=(pre++[a])++rest by simp]
   have:∀ (u v:List Tr),qcc (u++v)=qcc u+qcc v:=fun u v=>by
    induction u with
    | nil=>simp[qcc]
    | cons b u ih=>simp only[List.cons_append,qcc,ih];omega
   rw[this,qv1]
  have hlt:pre.length < ks.length:=by rw[he];simp
  have hsa:a.size≤400:=by omega
  have hk:=kid_run (t:=flat a 0) (b:=qcz pre 0) (err:=.nilI) (kk:=qci pre 0) (qn0 hsa) (qlt ho.1 hsa) (qyj a 0 (by unfold big;omega)) (by rw[qgs,qki];unfold big;omega) (by rw[qjz];have:=qjm pre;unfold big;omega) rfl
  rw[qwp,Nat.zero_add] at hk
  have e1:qcz pre 0++flat a (qcz pre 0).length=qcz (pre++[a]) 0:=by rw[qwq,qgs,Nat.zero_add]
  have e2:qci pre 0++[(((qcz pre 0).length+(flat a 0).length - 1:Nat):Int)]=qci (pre++[a]) 0:=by rw[qsj,qgs,qki,Nat.zero_add]
  rw[e1,e2] at hk
  rw[qc9 (s':=([I k,.str x,.sl 1 (qd7 ks) false,I (ks.length:Nat),I ((pre++[a]).length:Nat),I ((qcz (pre++[a]) 0).length:Nat),I ((qci (pre++[a]) 0).length:Nat),.nilI,.sl 3 (nds (qcz (pre++[a]) 0)) false,.sl 1 (qgk (qci (pre++[a]) 0)) false],()))]
  ·exact Qk8 hok hfm hs rest (pre++[a]) (by rw[he];simp) ho.2
  ·unfold Qhc Qq6
   simp only[qc8,qc4,qc2,qde,qfg,qgr,qh1,qjl,ql3,qmo,qb2,qgd,qby,qdi,qdk,qba]
   rw[show decide ((pre.length:Int) < (ks.length:Nat))=true by simp;omega,qb5]
   have hidx:qbd (.idxAddr 1 (.c (.sl 1 (qd7 ks) false)) (.c (I (pre.length:Int))))=some (.ptr [tl (flat a 0)] 0) :=
    qhm (by omega) (show (qd7 ks)[pre.length]?=some (tl (flat a 0)) by rw[he];simp[qd7])
   rw[hidx,qba,show qbd (.load 1 false (.c (.ptr [tl (flat a 0)] 0)))=some (tl (flat a 0)) from rfl,qba]
   rw[show ioO B0 sh86 86 _=_ from hk,qba]
   simp only[qc8,qc4,qc2,qde,qfg,qb2,qby]
   rw[show qbd (.bin .neq .iface true (.c .nilI) (.c .nilI))=some (.bool false) from rfl,qba,qbv,qf3,qba,qg1 (by have:=qjm ks;omega)]
   simp
theorem join_run {k:Int} {x:Tx} {ks:List Tr} (h:Tr.Ok (.mk k x ks)) (hs:Tr.size (.mk k x ks)≤400):qh2 B0 .cl false 59 [I k,.str x,.sl 1 (qd7 ks) false]=some (.tup [tl (flat (.mk k x ks) 0),I 0]):=by
 refine qgj (qf1 fun _=>.cl) (fn:=fn59) rfl (by simp[qb8,okV,Qdo]) (Nat.le_of_ble_eq_true rfl) ?_ rfl
 rw[List.map_cons,List.map_cons,List.map_cons,List.map_nil,run59,qg6,qba]
 rw[show (qd7 ks).length=ks.length by simp[qd7]]
 simp only[qdi]
 rw[show qbo [I k,.str x,.sl 1 (qd7 ks) false,I (ks.length:Nat),I 0]=true from rfl,qbg]
 exact Qk8 h.2 h.1 (by simpa[Tr.size] using hs) ks [] rfl h.2
end Go.Ab.Core


namespace Go.Ab.Core
open Go Go.Ab
mutual
def ofT:Tr→List Int→Tr×List Int
 | .mk k x ks,ms =>
  if k=5 then Qdr ks ms
  else if ql7 k=true then (.mk k (qqk (ms.headD 0)) (ofL ks ms.tail).1,(ofL ks ms.tail).2)
  else (.mk k x (ofL ks ms).1,(ofL ks ms).2)
def Qdr:List Tr→List Int→Tr×List Int
 | [],ms=>(.mk 0 [] [],ms)
 | a :: _,ms=>ofT a ms
def ofL:List Tr→List Int→List Tr×List Int
 | [],ms=>([],ms)
 | a :: ks,ms=>((ofT a ms).1 :: (ofL ks (ofT a ms).2).1,(ofL ks (ofT a ms).2).2)
end
mutual
def cntT:Tr→Nat
 | .mk k _ ks=>(if ql7 k=true then 1 else 0)+cntL ks
def cntL:List Tr→Nat
 | []=>0
 | a :: ks=>cntT a+cntL ks
end
theorem Qkh (n:Int):qqk n≠[]:=by
 unfold qqk Qcu
 split
 ·simp
 ·rw[digs]
  split<;>simp
theorem Qfe {k:Int} {x x':Tx} {l:List Int} (h:(x != [])=(x' != [])):qfm ⟨k,x,l⟩=qfm ⟨k,x',l⟩:=by
 unfold qfm
 simp only[h]
theorem Qln {k:Int} {x:Tx} {l:List Int} (hk:ql7 k=true) (h:qfm ⟨k,x,l⟩=true):x≠[]:=by
 unfold qfm at h
 simp only[ql7,Bool.or_eq_true,beq_iff_eq] at hk
 intro e
 subst e
 rcases hk with (rfl | rfl) | rfl<;>simp[Qbj,List.find?] at h
theorem qje {x:Tx} {ks:List Tr} (h:qfm ⟨5,x,List.replicate ks.length 0⟩=true):∃ a,ks=[a]:=by
 unfold qfm at h
 simp only[Qbj,List.find?] at h
 have:ks.length=1:=by
  simp at h
  omega
 match ks,this with
 | [a],_=>exact⟨a,rfl⟩
theorem qzs:∀ (ks:List Tr) (ms:List Int),(ofL ks ms).1.length=ks.length
 | [],_=>rfl
 | a :: ks,ms=>by simp[ofL,qzs ks]
mutual
theorem ofT_ok:∀ (a:Tr) (ms:List Int),a.Ok→(ofT a ms).1.Ok∧(ofT a ms).1.size≤a.size
 | .mk k x ks,ms,h=>by
  simp only[ofT]
  split
  ·rename_i e
   subst e
   obtain⟨a,rfl⟩:=qje h.1
   obtain⟨h1,h2⟩:=ofT_ok a ms h.2.1
   simp only[Qdr,Tr.size,qcc]
   exact⟨h1,by omega⟩
  ·split
   ·rename_i hk
    obtain⟨h1,h2⟩:=qzr ks ms.tail h.2
    have hx:=Qln hk h.1
    refine⟨⟨?_,h1⟩,by simp only[Tr.size];omega⟩
    rw[qzs,Qfe (x':=x) (by rw[bne_iff_ne.2 (Qkh _),bne_iff_ne.2 hx])]
    exact h.1
   ·obtain⟨h1,h2⟩:=qzr ks ms h.2
    refine⟨⟨?_,h1⟩,by simp only[Tr.size];omega⟩
    rw[qzs]
    exact h.1
theorem qzr:∀ (ks:List Tr) (ms:List Int),OkL ks→OkL (ofL ks ms).1∧qcc (ofL ks ms).1≤qcc ks
 | [],_,_=>⟨trivial,Nat.le_refl _⟩
 | a :: ks,ms,h=>by
  obtain⟨h1,h2⟩:=ofT_ok a ms h.1
  obtain⟨h3,h4⟩:=qzr ks (ofT a ms).2 h.2
  simp only[ofL,qcc]
  exact⟨⟨h1,h3⟩,by omega⟩
end
mutual
theorem Qgp:∀ (a:Tr) (ms:List Int),a.Ok→(ofT a ms).2=ms.drop (cntT a)
 | .mk k x ks,ms,h=>by
  simp only[ofT,cntT]
  split
  ·rename_i e
   subst e
   obtain⟨a,rfl⟩:=qje h.1
   simp only[Qdr,cntL]
   rw[Qgp a ms h.2.1]
   simp[ql7]
  ·split
   ·rw[Qgr ks _ h.2,←List.drop_one,List.drop_drop]
   ·rw[Qgr ks _ h.2,Nat.zero_add]
theorem Qgr:∀ (ks:List Tr) (ms:List Int),OkL ks→(ofL ks ms).2=ms.drop (cntL ks)
 | [],_,_=>rfl
 | a :: ks,ms,h=>by
  simp only[ofL,cntL]
  rw[Qgr ks _ h.2,Qgp a ms h.1,List.drop_drop]
end
noncomputable def qzq:List PV×Unit→Option (Sum (List PV×Unit) (List PV)):=(fun z13=>qbb (qbd (.bin .lss .num false (.c (nth z13.1 3)) (.c (nth z13.1 2)))) (fun z14=>qdu z14 (qbb (qr6 (nth z13.1 3)) (fun z15=>qbw (ltN z15 (qbi (nth z13.1 1))) (qbb (qkz (qbc (nth z13.1 9)) (qcq 0 z15) 0 1 false) (fun z16=>qbb (ioO B0 Qqh 34 [z16,nth z13.1 4]) (fun z17=>qbw (qdd 1 [nth z17 0]) (qbw (leN (qcq 0 (qbs [nth z17 0])) (qbs [nth z17 0])) (qbw (qrx (leN (qbi (nth z13.1 0)) (qbs (qbc (nth z13.1 8)))) (leN (qcq (qbi (nth z13.1 0)) (qbs (qbu (qbs [nth z17 0]) (qb4 0 [nth z17 0])))) 2147483648)) (qbb (qbd (.bin .add .num true (.c (nth z13.1 3)) (.c (.int .i64 1)))) (fun z18=>some (.inl ([nI (qcq (qbi (nth z13.1 0)) (qbs (qbu (qbs [nth z17 0]) (qb4 0 [nth z17 0])))),nI (qbi (nth z13.1 1)),nth z13.1 2,z18,nth z17 1,nth z13.1 5,nth z13.1 6,nth z13.1 7,.sl 1 (qmh (qbu (qbi (nth z13.1 0)) (qbc (nth z13.1 8))) (qbu (qbs [nth z17 0]) (qb4 0 [nth z17 0]))) false,.sl 1 (qbc (nth z13.1 9)) false],z13.2))))))))))) (qbb (qbb (qh2 B0 .cl false 59 [nth z13.1 5,nth z13.1 6,slO 1 1 (qbc (nth z13.1 8)) 0 (qbi (nth z13.1 0))]) (fun z19=>qbb (qbd (.extract 0 (.c z19))) (fun z20=>qbb (qbd (.extract 1 (.c z19))) (fun z21=>some [z20,.agg (qg0 (nth z13.1 4))])))) (fun z22=>some (.inr z22)))))
def I64 (ms:List Int):Prop:=∀ m∈ms, -9223372036854775808≤m∧m≤9223372036854775807
theorem I64.drop {ms:List Int} (h:I64 ms) (n:Nat):I64 (ms.drop n):=fun m hm=>h m (List.mem_of_mem_drop hm)
theorem okV_mk2 (t:List Nd) (ms:List Int):okV (mk2 t ms)=true:=by simp[mk2,okV,qb8]
theorem of_step {t:List Nd} {l ms ms':List Int} {k:Int} {x:Tx} {b:Tr} {j i:Nat} {kv:PV} {outs:List Tr} (hj:j < l.length) (hi:l[j]=(i:Int)) (hl:l.length≤big) (ho:outs.length=j)
  (h:ioO B0 Qqh 34 [I (i:Int),mk2 t ms]=some [tl (flat b 0),mk2 t ms']) :
  qzq ([I (outs.length:Nat),I (l.length:Nat),I (l.length:Nat),I (j:Nat),mk2 t ms,I k,.str x,kv,.sl 1 (qd7 outs) false,il l],()) =
   some (.inl ([I ((outs++[b]).length:Nat),I (l.length:Nat),I (l.length:Nat),I ((j+1:Nat):Int),mk2 t ms',I k,.str x,kv,.sl 1 (qd7 (outs++[b])) false,il l],())):=by
 have hbl:=qhq
 unfold qzq
 simp only[qc8,qc4,qc2,qde,qfg,qgr,qh1,qjl,ql3,qmo,qb2,qgd,qby,qcg,qgl,qdi,qdk,qba]
 rw[show decide ((j:Int) < (l.length:Nat))=true by simp;omega,qb5]
 simp only[qtv,qba,qqm,qdb,Nat.zero_add,show decide (j < l.length)=true by simpa using hj,qbg]
 rw[qn7 hj,qba,hi,h,qba]
 simp only[qc8,qc4]
 rw[show qdd 1 [tl (flat b 0)]=true from rfl]
 have hfl:(qd7 outs).length=outs.length:=by simp[qd7]
 have hsn:qd7 outs++[tl (flat b 0)]=qd7 (outs++[b]):=by simp[qd7]
 simp only[qbg,qdq,List.length_singleton,hfl,qdb,Nat.zero_add,qgy,Nat.le_refl,decide_true,qcy,qdn,List.drop_zero,List.take_succ_cons,List.take_zero,qfa,Bool.true_and,qd9]
 rw[show decide (outs.length+1≤2147483648)=true by simp;omega,qbg,List.take_of_length_le (by omega),hsn]
 simp only[qf3,qba]
 rw[qg1 (by omega)]
 simp
theorem of_end {t:List Nd} {l ms:List Int} {k:Int} {x:Tx} {kv:PV} {outs:List Tr} (h:Tr.Ok (.mk k x outs)) (hs:Tr.size (.mk k x outs)≤400) :
  qzq ([I (outs.length:Nat),I (l.length:Nat),I (l.length:Nat),I (l.length:Nat),mk2 t ms,I k,.str x,kv,.sl 1 (qd7 outs) false,il l],())=some (.inr [tl (flat (.mk k x outs) 0),mk2 t ms]):=by
 unfold qzq
 simp only[qc8,qc4,qc2,qde,qfg,qgr,qh1,qjl,ql3,qmo,qb2,qgd,qby,qcg,qgl,qdi,qdk,qba]
 rw[show decide ((l.length:Int) < (l.length:Nat))=false by simp,qbv]
 have hfl:slO 1 1 (qd7 outs) 0 outs.length=.sl 1 (qd7 outs) false:=by
  have:=qly 1 (qd7 outs)
  rwa [show (qd7 outs).length=outs.length by simp[qd7]] at this
 rw[hfl,join_run h hs,qba]
 rfl
theorem of_case {t:List Nd} (ht:Fine t) {k:Int} {x:Tx} {ks:List Tr} {i:Nat} {ms:List Int} {l:List Int} (hl:t[i]?=some ⟨k,x,l⟩) (hok:Tr.Ok (.mk k x ks)) (hc:cntT (.mk k x ks)≤ms.length) (hm:I64 ms) (h5:k≠5) (hlen:l.length≤big)
  (hk:∀ (x':Tx) (ms':List Int) (kv:PV),Tr.Ok (.mk k x' (ofL ks ms').1)→cntL ks≤ms'.length→I64 ms'→qcf qzq ([I (([]:List Tr).length:Nat),I (l.length:Nat),I (l.length:Nat),I ((0:Nat):Int),mk2 t ms',I k,.str x',kv,.sl 1 (qd7 []) false,il l],())=some [tl (flat (.mk k x' (ofL ks ms').1) 0),mk2 t (ofL ks ms').2]) :
  ioO B0 Qqh 34 [I (i:Int),mk2 t ms]=some [tl (flat (ofT (.mk k x ks) ms).1 0),mk2 t (ofT (.mk k x ks) ms).2]:=by
 have hbl:=qhq
 refine qfv (qf1 fun _=>.cl) (fn:=fn34) rfl (Pf:=shs34) rfl (xs:=[]) (obs:=[]) rfl rfl (by simp[qb8,okV_mk2]) ?_
 rw[show shs34 [] []=Qqh from rfl]
 obtain⟨hlt,hti⟩:=getE hl
 rw[run34,show Qmy (mk2 t ms) 0 1 false=some (tl t) from rfl,qba,qks hlt,hti]
 simp only[qba,Qkn,qj1,qbg,qhx,qhw,qhv,qdi,Qmw]
 rw[show (k==5)=false by simpa using h5,qbv]
 rw[show qb6 B0 .cl (.fn 37 []) [.agg [I k,.str x,il l]]=some (.bool (ql7 k)) from isName_run ⟨k,x,l⟩,qba,qb1]
 have hc2:∀ (x':Tx) (ms':List Int),Tr.Ok (.mk k x' (ofL ks ms').1)→cntL ks≤ms'.length→I64 ms'→qbb (qbd (.len .slice (.c (il l)))) (fun z10=>qbb (mkSO z10 z10) (fun z11=>qbb (qjr 1 (il l)) (fun z12=>qbw (leN (qcq 0 z11) (qbs (qmn z11 (I 0)))) (qbw (qbo [nI 0,nI z11,nI z11,I 0]) (qcf qzq ([nI 0,nI z11,nI z11,I 0,mk2 t ms',I k,.str x',il l,.sl 1 [] false,.sl 1 (qmh (qmh (qbu 0 (qmn z11 (I 0))) (qbu z11 z12)) (qb4 (qcq 0 (qbs (qbu z11 z12))) (qmn z11 (I 0)))) false],()))))))=some [tl (flat (.mk k x' (ofL ks ms').1) 0),mk2 t (ofL ks ms').2]:=fun x' ms' g1 g2 g3=>by
  rw[qhi,qba,Qq4 (by unfold qdp;omega),qba,Ql5,qba]
  simp only[qto,qdq,qcr,List.length_replicate,qdb,qgy,qcy,qdn,qd9]
  rw[show decide (0+l.length≤l.length)=true by simp,qbg]
  rw[show qbo [nI 0,nI l.length,nI l.length,I 0]=true from rfl,qbg,Qmd l,qgl]
  exact hk x' ms' (il l) g1 g2 g3
 simp only[ofT,if_neg h5]
 by_cases hn:ql7 k=true
 ·rw[if_pos hn,if_pos hn]
  match ms,hc,hm with
  | [],hc,_=>simp only[cntT,if_pos hn,List.length_nil] at hc;omega
  | m :: ms,hc,hm =>
   have hm0:=hm m (by simp)
   rw[show ioO B0 sh58 58 _=_ from text_run t m ms hm0.1 hm0.2,qba]
   simp only[qc8,qc4]
   rw[show qcu (.str (qqk m)) 1=true from rfl,qbg,show qbl (.str (qqk m)) 0=.str (qqk m) from rfl]
   have hokL:=qzr ks ms hok.2
   simp only[cntT,if_pos hn,List.length_cons] at hc
   refine hc2 (qqk m) ms ⟨?_,hokL.1⟩ (by omega) fun q hq=>hm q (by simp[hq])
   rw[qzs,Qfe (x':=x) (by rw[bne_iff_ne.2 (Qkh _),bne_iff_ne.2 (Qln hn hok.1)])]
   exact hok.1
 ·rw[if_neg hn,if_neg hn]
  have hokL:=qzr ks ms hok.2
  simp only[cntT,if_neg hn,Nat.zero_add] at hc
  exact hc2 x ms ⟨by rw[qzs];exact hok.1,hokL.1⟩ hc hm
mutual
theorem of_run {t:List Nd} (ht:Fine t):∀ (a:Tr) {i:Nat} {ms:List Int},Qjc t a i→a.Ok→a.size≤400→cntT a≤ms.length→I64 ms→ioO B0 Qqh 34 [I (i:Int),mk2 t ms]=some [tl (flat (ofT a ms).1 0),mk2 t (ofT a ms).2]
 | .mk k x ks,i,ms,hi,hok,hs,hc,hm=>by
  obtain⟨l,hl,hL⟩:=hi
  have hlen:l.length≤big:=by
   obtain⟨hlt,hti⟩:=getE hl
   have:=(ht.nd _ (List.getElem_mem hlt)).kids
   rw[hti] at this
   exact this
  simp only[Tr.size] at hs
  by_cases h5:k=5
  ·subst h5
   obtain⟨hlt,hti⟩:=getE hl
   match ks,qje hok.1,hL,hok,hs,hc with
   | [b],_,hL,hok,hs,hc =>
    obtain⟨kk,l',e,h2,h3⟩:=hL
    have h3:l'=[]:=h3
    subst h3
    simp only[qcc] at hs
    have hb:=of_run ht b h2 hok.2.1 (by omega) (by simpa[cntT,cntL,ql7] using hc) hm
    refine qfv (qf1 fun _=>.cl) (fn:=fn34) rfl (Pf:=shs34) rfl (xs:=[]) (obs:=[]) rfl rfl (by simp[qb8,okV_mk2]) ?_
    rw[show shs34 [] []=Qqh from rfl]
    rw[run34,show Qmy (mk2 t ms) 0 1 false=some (tl t) from rfl,qba,qks hlt,hti]
    simp only[qba,Qkn,qj1,qbg,qhx,qhw,qhv,qdi,Qmw]
    rw[show ((5:Int)==5)=true from rfl,qb5,e]
    rw[show qbd (.idxAddr 1 (.c (il [(kk:Int)])) (.c (I 0)))=some (.ptr [I kk] 0) from rfl,qba,qmx,qba]
    rw[show ioO B0 Qqh 34 _=_ from hb,qba]
    simp only[ofT,Qdr,if_true]
    rfl
  ·have hokL:=qzr ks
   refine of_case ht hl hok hc hm h5 hlen fun x' ms' kv g1 g2 g3=>?_
   have hsz:=(qzr ks ms' hok.2).2
   exact ofL_run ht ks (l:=l) (j:=0) (outs:=[]) (F:=(ofL ks ms').1) hL (Nat.zero_le _) hlen rfl hok.2 (by omega) g2 g3 rfl g1 (by simp only[Tr.size];omega)
theorem ofL_run {t:List Nd} (ht:Fine t):∀ (ks:List Tr) {l:List Int} {j:Nat} {ms:List Int} {k:Int} {x:Tx} {kv:PV} {outs F:List Tr},qvs t ks (l.drop j)→j≤l.length→l.length≤big→outs.length=j→OkL ks→qcc ks≤400→cntL ks≤ms.length→I64 ms →
  F=outs++(ofL ks ms).1→Tr.Ok (.mk k x F)→Tr.size (.mk k x F)≤400 →
  qcf qzq ([I (outs.length:Nat),I (l.length:Nat),I (l.length:Nat),I (j:Nat),mk2 t ms,I k,.str x,kv,.sl 1 (qd7 outs) false,il l],())=some [tl (flat (.mk k x F) 0),mk2 t (ofL ks ms).2]
 | [],l,j,ms,k,x,kv,outs,F,hL,hj,hl,ho,hok,hs,hc,hm,hF,h1,h2=>by
  have e:j=l.length:=by have:=List.drop_eq_nil_iff.1 (Qbb hL);omega
  subst e
  simp only[ofL,List.append_nil] at hF
  subst hF
  exact qc3 (of_end h1 h2)
 | a :: ks,l,j,ms,k,x,kv,outs,F,hL,hj,hl,ho,hok,hs,hc,hm,hF,h1,h2=>by
  obtain⟨kk,l',e1,e2,e3⟩:=hL
  obtain⟨hj',e4,e5⟩:=qmb e1
  simp only[qcc] at hs
  simp only[cntL] at hc
  have hr:=Qgp a ms hok.1
  rw[qc9 (of_step hj' e4 hl ho (of_run ht a e2 hok.1 (by omega) (by omega) hm))]
  rw[←e5] at e3
  exact ofL_run ht ks e3 (by omega) hl (by simp[ho]) hok.2 (by omega) (by rw[hr,List.length_drop];omega) (by rw[hr];exact hm.drop _) (by rw[hF];simp[ofL]) h1 h2
end
end Go.Ab.Core


namespace Go.Ab.Core
open Go Go.Ab
mutual
def nmT:Tr→List Tx
 | .mk k x ks=>(if ql7 k=true then [x] else [])++nmL ks
def nmL:List Tr→List Tx
 | []=>[]
 | a :: ks=>nmT a++nmL ks
end
mutual
theorem nmT_len:∀ a:Tr,(nmT a).length=cntT a
 | .mk k x ks=>by simp only[nmT,cntT,List.length_append,nmL_len ks];split<;>simp
theorem nmL_len:∀ ks:List Tr,(nmL ks).length=cntL ks
 | []=>rfl
 | a :: ks=>by simp only[nmL,cntL,List.length_append,nmT_len a,nmL_len ks]
end
mutual
def setT:Tr→Nat
 | .mk k _ ks=>(if k=8 then 1 else 0)+setL ks
def setL:List Tr→Nat
 | []=>0
 | a :: ks=>setT a+setL ks
end
inductive Qm0 (texts:List Tx):List Int→List Tx→Prop
 | nil:Qm0 texts [] []
 | cons {v:Int} {x:Tx} {vs:List Int} {xs:List Tx} (h:v = -1∨∃ n:Nat,v=n∧texts[n]?=some x) (hs:Qm0 texts vs xs):Qm0 texts (v :: vs) (x :: xs)
theorem Qm0.append {texts:List Tx} {vs vs':List Int} {xs xs':List Tx} (h:Qm0 texts vs xs) (h':Qm0 texts vs' xs'):Qm0 texts (vs++vs') (xs++xs'):=by
 induction h with
 | nil=>exact h'
 | cons h _ ih=>exact .cons h ih
theorem Qpd {α:Type} {l l':List α} {n:Nat} {x:α} (h:l[n]?=some x):(l++l')[n]?=some x:=by
 rw[List.getElem?_append_left (List.getElem?_eq_some_iff.1 h).1]
 exact h
theorem Qm0.more {texts more:List Tx} {vs:List Int} {xs:List Tx} (h:Qm0 texts vs xs):Qm0 (texts++more) vs xs:=by
 induction h with
 | nil=>exact .nil
 | cons h _ ih =>
  refine .cons ?_ ih
  rcases h with h | ⟨n,h1,h2⟩
  ·exact .inl h
  ·exact .inr ⟨n,h1,Qpd h2⟩
theorem Qm0.length {texts:List Tx} {vs:List Int} {xs:List Tx} (h:Qm0 texts vs xs):vs.length=xs.length:=by induction h<;>simp_all
def S.Tied (s:S):Prop:=∀ k,∀ v∈qjt s.ahead k,∃ n:Nat,v=n∧s.texts[n]?=some k
structure Qcn (s r:S) (names:List Tx) (sets:Nat):Prop where
 tied:r.Tied
 texts:∃ more,r.texts=s.texts++more∧more.length=sets
 means:∃ new,r.means=s.means++new∧Qm0 r.texts new names
theorem Qcn.trans {s r q:S} {a b:List Tx} {m n:Nat} (h:Qcn s r a m) (h':Qcn r q b n):Qcn s q (a++b) (m+n) where
 tied:=h'.tied
 texts:=by
  obtain⟨x,h1,h2⟩:=h.texts
  obtain⟨y,h3,h4⟩:=h'.texts
  exact⟨x++y,by rw[h3,h1,List.append_assoc],by simp[h2,h4]⟩
 means:=by
  obtain⟨x,h1,h2⟩:=h.means
  obtain⟨y,h3,h4⟩:=h'.means
  obtain⟨z,h5,_⟩:=h'.texts
  refine⟨x++y,by rw[h3,h1,List.append_assoc],Qm0.append ?_ h4⟩
  rw[h5]
  exact h2.more
theorem Qcn.refl {s:S} (h:s.Tied):Qcn s s [] 0:=⟨h,⟨[],by simp,rfl⟩,⟨[],by simp,.nil⟩⟩
theorem popN_mem {a:Env} {x k:Tx} {v:Int} (h:v∈qjt (popN a x) k):v∈qjt a k:=by
 unfold popN at h
 rw[qmj] at h
 split at h
 ·rename_i e
  subst e
  exact List.dropLast_subset _ h
 ·exact h
theorem Qqt:∀ (ks:List Tx) {a:Env} {k:Tx} {v:Int},v∈qjt (ks.foldl popN a) k→v∈qjt a k
 | [],_,_,_,h=>h
 | x :: ks,_,_,_,h=>popN_mem (Qqt ks h)
theorem Qcn.leave {s r:S} {a:List Tx} {m:Nat} (h:Qcn s r a m) (n:Nat):Qcn s (r.leave n) a m :=
 ⟨fun k v hv=>h.tied k v (Qqt _ hv),h.texts,h.means⟩
theorem Qcn.bind {s r:S} {a:List Tx} {m:Nat} (h:Qcn s r a m) {n:Nat} {x:Tx} (hx:r.texts[n]?=some x):Qcn s (r.bind n x) a m:=by
 refine⟨fun k v hv=>?_,h.texts,h.means⟩
 simp only[S.bind,qmj] at hv
 split at hv
 ·rename_i e
  subst e
  rcases List.mem_append.1 hv with hv | hv
  ·exact h.tied _ v hv
  ·have:v=n:=by simpa using hv
   exact⟨n,this,hx⟩
 ·exact h.tied k v hv
theorem came_last {s:S} (h:s.Tied) (x:Tx):Qcn s {s with means:=s.means++[qns s.ahead x]} [x] 0:=by
 refine⟨h,⟨[],by simp,rfl⟩,⟨[qns s.ahead x],rfl,.cons ?_ .nil⟩⟩
 unfold qns
 cases hq:(qjt s.ahead x).getLast? with
 | none=>exact .inl rfl
 | some v =>
  obtain⟨n,h1,h2⟩:=h x v (List.mem_of_getLast? hq)
  exact .inr ⟨n,h1,h2⟩
theorem Qsp {s:S} (h:s.Tied) (x:Tx):Qcn s {s with means:=s.means++[(s.texts.length:Int)],texts:=s.texts++[x]} [x] 1:=by
 refine⟨fun k v hv=>?_,⟨[x],rfl,rfl⟩,⟨[(s.texts.length:Int)],rfl,.cons (.inr ⟨s.texts.length,rfl,by simp⟩) .nil⟩⟩
 obtain⟨n,h1,h2⟩:=h k v hv
 exact⟨n,h1,Qpd h2⟩
mutual
theorem Qdu:∀ (a:Tr) {s:S},s.Tied→Qcn s (qgh a s) (nmT a) (setT a)
 | .mk k x ks,s,h=>by
  simp only[qgh,nmT,setT]
  by_cases h11:k=11
  ·subst h11
   rw[if_pos rfl]
   have:=(qq6 ks h).leave s.nown
   simpa[ql7] using this
  ·rw[if_neg h11]
   by_cases h8:k=8
   ·subst h8
    rw[if_pos rfl]
    have h1:=Qsp h x
    have:=h1.trans (qnp ks h1.tied)
    simpa[ql7] using this
   ·rw[if_neg h8,if_neg h8]
    by_cases h3:k=3∨k=14
    ·rw[if_pos h3]
     have h1:=came_last h x
     have:=h1.trans (qnp ks h1.tied)
     rw[if_pos (by rcases h3 with rfl | rfl<;>rfl)]
     exact this
    ·rw[if_neg h3,if_neg (by simp only[ql7,Bool.or_eq_true,beq_iff_eq];intro e;rcases e with e | e;exact h3 e;exact h8 e)]
     simpa using qnp ks h
theorem qnp:∀ (ks:List Tr) {s:S},s.Tied→Qcn s (qtu ks s) (nmL ks) (setL ks)
 | [],_,h=>Qcn.refl h
 | a :: ks,s,h=>by
  have h1:=Qdu a h
  exact h1.trans (qnp ks h1.tied)
theorem qq6:∀ (ks:List Tr) {s:S},s.Tied→Qcn s (qxz ks s) (nmL ks) (setL ks)
 | [],_,h=>Qcn.refl h
 | a :: ks,s,h=>by
  have h1:=Qdu a h
  simp only[qxz,nmL,setL]
  split
  ·rename_i e
   have hx:(qgh a s).texts[s.texts.length]?=some a.text:=by
    match a,e with
    | .mk k x ks',e =>
     have e:k=8:=e
     subst e
     simp only[qgh]
     rw[if_neg (by decide),if_pos trivial]
     obtain⟨more,h5,_⟩:=(qnp ks' (Qsp h x).tied).texts
     rw[h5]
     exact Qpd (by simp[Tr.text])
   have h2:=h1.bind hx
   exact h2.trans (qq6 ks h2.tied)
  ·exact h1.trans (qq6 ks h1.tied)
end
theorem stmtT_came (a:Tr) {s:S} (h:s.Tied):Qcn s (qtd a s) (nmT a) (setT a):=by
 have:=qq6 [a] h
 simp only[nmL,setL,List.append_nil,Nat.add_zero] at this
 exact this
theorem Qm0.i64 {texts:List Tx} {vs:List Int} {xs:List Tx} (h:Qm0 texts vs xs) (ht:texts.length≤big):I64 vs:=by
 have hb:=qhq
 induction h with
 | nil=>intro m hm;cases hm
 | cons h _ ih =>
  intro m hm
  rcases List.mem_cons.1 hm with rfl | hm
  ·rcases h with rfl | ⟨n,rfl,h2⟩
   ·omega
   ·have:=(List.getElem?_eq_some_iff.1 h2).1
    omega
  ·exact ih m hm
end Go.Ab.Core


namespace Go.Ab.Core
open Go Go.Ab
noncomputable def qgn (t:List Nd) (ms:List Int):PV :=
 match qp1 t with
 | some a=>tl (flat (ofT a ms).1 0)
 | none=>.nilS
noncomputable def qhb:List St→S→List PV
 | [],_=>[]
 | x :: l,s=>qgn x.t (qdh s x.t).means :: qhb l (qdh s x.t)
noncomputable def Qgw (t:List Nd):List Tx :=
 match qp1 t with
 | some a=>nmT a
 | none=>[]
noncomputable def setsOf (t:List Nd):Nat :=
 match qp1 t with
 | some a=>setT a
 | none=>0
theorem Tied.clear {s:S} (h:s.Tied):({s with means:=[]}:S).Tied:=h
theorem qza {s:S} (h:s.Tied) (t:List Nd):Qcn {s with means:=[]} (qdh s t) (Qgw t) (setsOf t):=by
 unfold qdh Qgw setsOf
 cases qp1 t with
 | none=>exact Qcn.refl h
 | some a=>exact stmtT_came a h
theorem S0_tied:S0.Tied:=fun k v hv=>by cases hv
theorem Qfr (t:List Nd) (ms:List Int):okV (qgn t ms)=true∧qdd 1 [qgn t ms]=true:=by
 unfold qgn
 cases qp1 t with
 | none=>exact⟨rfl,rfl⟩
 | some a=>exact⟨Qj9 _,rfl⟩
theorem qpz:∀ (l:List St) (s:S),(qhb l s).length=l.length
 | [],_=>rfl
 | x :: l,s=>by simp[qhb,qpz l]
theorem qxe:∀ (l:List St) (s:S),(qhs l s).length=l.length
 | [],_=>rfl
 | x :: l,s=>by simp[qhs,qxe l]
noncomputable def qyl:List PV×Unit→Option (Sum (List PV×Unit) (PV×Unit)):=Qra B0
theorem core_step {l:List St} {j:Nat} {s:S} {outs:List PV} {M:List (List Int)} {m:Nat} (hj:j < l.length) (hf:qvt l) (hM:M[j]?=some (qdh s l[j].t).means) (ho:outs.length=j) (hs:s.Good m) (hm:m+1200 < big) (ht:s.Tied) :
  qyl ([sl4 l,I (outs.length:Nat),.sl 1 (M.map il) false,I (l.length:Nat),I (j:Nat),.sl 1 outs false],()) =
   some (.inl ([sl4 l,I ((outs++[qgn l[j].t (qdh s l[j].t).means]).length:Nat),.sl 1 (M.map il) false,I (l.length:Nat),I ((j+1:Nat):Int),.sl 1 (outs++[qgn l[j].t (qdh s l[j].t).means]) false],())):=by
 have hbl:=qhq
 have hfj:=hf.fine _ (List.getElem_mem hj)
 have hll:=hf.len
 have hgood:=qsk hs l[j].t
 have hcame:=qza ht l[j].t
 unfold qyl Qra
 simp only[qc8,qc4,qc2,qde,qfg,qgr,qb2,qgd,qby,qdi,qdk,qba]
 have hidx:qbd (.idxAddr 1 (.c (.sl 1 (M.map il) false)) (.c (I (j:Int))))=some (.ptr [il (qdh s l[j].t).means] 0) :=
  qhm (by omega) (show (M.map il)[j]?=some (il (qdh s l[j].t).means) by rw[List.getElem?_map,hM];rfl)
 rw[show decide ((j:Int) < (l.length:Nat))=true by simp;omega,qb5,hidx,qba,show ∀ v:List Int,qbd (.load 1 false (.c (.ptr [il v] 0)))=some (il v) from fun _=>rfl,qba,idx_sl4 hj]
 simp only[qba,fa4_2,Qnz]
 rw[qtm hfj,qba,qb1]
 have hout:outs.take outs.length=outs:=List.take_of_length_le (Nat.le_refl _)
 cases hr:qdj l[j].t with
 | false =>
  have hc:qgn l[j].t (qdh s l[j].t).means=.nilS:=by unfold qgn;rw[qlu hr]
  rw[if_neg (by simp),hc,show qdd 1 [PV.nilS]=true from rfl]
  simp only[qbg,qdq,List.length_singleton,qdb,Nat.zero_add,qgy,Nat.le_refl,decide_true,qcy,qdn,List.drop_zero,List.take_succ_cons,List.take_zero,qfa,Bool.true_and,qd9,hout]
  rw[show decide (outs.length+1≤2147483648)=true by simp;omega,qbg]
  simp only[qf3,qba]
  rw[qg1 (by omega)]
  simp
 | true =>
  obtain⟨a,h1,h2,h3,h4,h5,h6⟩:=qfy hr
  have hc:qgn l[j].t (qdh s l[j].t).means=tl (flat (ofT a (qdh s l[j].t).means).1 0):=by unfold qgn;rw[h1]
  obtain⟨new,n1,n2⟩:=hcame.means
  have n1:(qdh s l[j].t).means=new:=n1
  have hnm:Qgw l[j].t=nmT a:=by unfold Qgw;rw[h1]
  rw[hnm] at n2
  have hcnt:cntT a≤(qdh s l[j].t).means.length:=by rw[n1,n2.length,nmT_len];exact Nat.le_refl _
  have hi64:I64 (qdh s l[j].t).means:=by rw[n1];exact n2.i64 (by have:=hgood.fine.texts;omega)
  rw[if_pos rfl,show qbd (.build [.nilS,.nilS] [(0,(1,.c (tl l[j].t))),(1,(1,.c (il (qdh s l[j].t).means)))])=some (mk2 l[j].t (qdh s l[j].t).means) from rfl,qba]
  rw[show valO (mk2 l[j].t (qdh s l[j].t).means)=true from rfl,qbg,qld,qba,Qjb,qba,Qf2 (by omega) (by omega)]
  rw[show ioO B0 Qqh 34 _=_ from of_run hfj a h2 h3 (by omega) hcnt hi64,qba]
  simp only[qc8]
  rw[←hc,(Qfr _ _).2]
  simp only[qbg,qdq,List.length_singleton,qdb,Nat.zero_add,qgy,Nat.le_refl,decide_true,qcy,qdn,List.drop_zero,List.take_succ_cons,List.take_zero,qfa,Bool.true_and,qd9,hout]
  rw[show decide (outs.length+1≤2147483648)=true by simp;omega,qbg]
  simp only[qf3,qba]
  rw[qg1 (by omega)]
  simp
theorem Qmb {l:List St} (hf:qvt l) {M:List (List Int)}:∀ (rest:List St) {j:Nat} {s:S} {outs:List PV} {m:Nat},l.drop j=rest→j≤l.length→M.drop j=qhs rest s→outs.length=j→qb8 outs=true→s.Good m→s.Tied→m+1200*rest.length < big →
  qcf qyl ([sl4 l,I (outs.length:Nat),.sl 1 (M.map il) false,I (l.length:Nat),I (j:Nat),.sl 1 outs false],())=some (.sl 1 (outs++qhb rest s) false,())
 | [],j,s,outs,m,hd,hj,hM,ho,hok,hs,ht,hm=>by
  have e:j=l.length:=by have:=List.drop_eq_nil_iff.1 hd;omega
  refine qc3 ?_
  subst e
  unfold qyl Qra
  simp only[qc8,qc4,qc2,qde,qfg,qgr,qb2,qgd,qby,qdi,qdk,qba]
  rw[show decide ((l.length:Int) < (l.length:Nat))=false by simp,qbv,qly]
  rw[show okU (.sl 1 outs false)=true by simp[okU,okV,hok],qbg]
  simp[qhb]
 | x :: rest,j,s,outs,m,hd,hj,hM,ho,hok,hs,ht,hm=>by
  obtain⟨hj',h1,h2⟩:=qmb hd
  subst h1
  simp only[List.length_cons] at hm
  have h6:m+1200 < big:=Nat.lt_of_le_of_lt (by rw[Nat.mul_add];exact Nat.add_le_add_left (Nat.le_add_left _ _) m) hm
  have h9:m+1200+1200*rest.length < big:=by rw[Nat.mul_add,Nat.mul_one,Nat.add_comm (1200*_),←Nat.add_assoc] at hm;exact hm
  obtain⟨hM1,hM2,hM3⟩:=qmb (show M.drop j=(qdh s l[j].t).means :: qhs rest (qdh s l[j].t) from hM)
  have h7:=core_step (outs:=outs) (M:=M) hj' hf (by rw[List.getElem?_eq_getElem hM1,hM2]) ho hs h6 ht
  rw[qc9 h7]
  have h8:=Qmb hf rest (j:=j+1) (s:=qdh s l[j].t) (outs:=outs++[qgn l[j].t (qdh s l[j].t).means]) h2 (by omega) hM3 (by simp[ho]) (qd4 hok (by simp[qb8,Qfr])) (qsk hs _) (qza ht _).tied h9
  rw[h8]
  simp[qhb]
theorem core_raw {l:List St} (hf:qvt l):qmk (qjh B0 fun _=>.cl) fn15 .cl qbe 0 ([sl4 l].map KV.cv) ()=some (.sl 1 (qhb l S0) false,()):=by
 rw[List.map_cons,List.map_nil,run15,means_run hf,qba,qg6,qba]
 rw[show ((qhs l S0).map il).length=l.length by simp[qxe]]
 simp only[qdi]
 rw[show qbo [sl4 l,nI 0,.sl 1 ((qhs l S0).map il) false,I (l.length:Nat),I 0]=true from rfl,qbg]
 exact Qmb hf l (j:=0) (s:=S0) (outs:=[]) (m:=0) rfl (Nat.zero_le _) rfl rfl rfl S0_good S0_tied (by have:=hf.len;unfold big;omega)
theorem core_run {l:List St} (hf:qvt l):qb6 B0 .cl (.fn 15 []) [sl4 l]=some (.sl 1 (qhb l S0) false) :=
 call (d:=fun _=>.cl) rfl (by decide) (by simp[qb8]) rfl (core_raw hf)
end Go.Ab.Core


namespace Go.Ab.Core
open Go Go.Ab
mutual
def Tr.Sh:Tr→Prop
 | .mk _ x ks=>x.length≤100∧ShL ks
def ShL:List Tr→Prop
 | []=>True
 | a :: ks=>a.Sh∧ShL ks
end
mutual
theorem isTr_sh {t:List Nd} (hx:qvr t):∀ (a:Tr) (i:Nat),Qjc t a i→a.Sh
 | .mk k x ks,i,h=>by
  obtain⟨l,hl,hks⟩:=h
  have:=hx _ (List.mem_of_getElem? hl)
  exact⟨this,Qrs hx ks l hks⟩
theorem Qrs {t:List Nd} (hx:qvr t):∀ (ks:List Tr) (l:List Int),qvs t ks l→ShL ks
 | [],_,_=>trivial
 | a :: ks,l,h=>by
  obtain⟨k,l',_,h2,h3⟩:=h
  exact⟨isTr_sh hx a k h2,Qrs hx ks l' h3⟩
end
theorem nameOf_len (n:Int):(qqk n).length≤100:=by
 unfold qqk
 have:=Qrp n
 split
 ·simp
 ·omega
mutual
theorem ofT_sh:∀ (a:Tr) (ms:List Int),a.Sh→(ofT a ms).1.Sh
 | .mk k x ks,ms,h=>by
  simp only[ofT]
  split
  ·exact ofHead_sh ks ms h.2
  ·split
   ·exact⟨nameOf_len _,ofL_sh ks _ h.2⟩
   ·exact⟨h.1,ofL_sh ks _ h.2⟩
theorem ofHead_sh:∀ (ks:List Tr) (ms:List Int),ShL ks→(Qdr ks ms).1.Sh
 | [],_,_=>⟨Nat.zero_le _,trivial⟩
 | a :: _,ms,h=>ofT_sh a ms h.1
theorem ofL_sh:∀ (ks:List Tr) (ms:List Int),ShL ks→ShL (ofL ks ms).1
 | [],_,_=>trivial
 | a :: ks,ms,h=>⟨ofT_sh a ms h.1,ofL_sh ks _ h.2⟩
end
mutual
theorem flat_sh:∀ (a:Tr) (o:Nat),a.Sh→qvr (flat a o)
 | .mk k x ks,o,h=>by
  intro n hn
  simp only[flat,List.mem_append,List.mem_singleton] at hn
  rcases hn with hn | rfl
  ·exact Qr6 ks o h.2 n hn
  ·exact h.1
theorem Qr6:∀ (ks:List Tr) (o:Nat),ShL ks→qvr (qcz ks o)
 | [],_,_=>fun n hn=>by simp[qcz] at hn
 | a :: ks,o,h=>by
  intro n hn
  simp only[qcz,List.mem_append] at hn
  rcases hn with hn | hn
  ·exact flat_sh a o h.1 n hn
  ·exact Qr6 ks _ h.2 n hn
end
def Shows (c:PV):Prop:=∃ s:Tx,s.length≤400000∧qb6 B0 .cl (.fn 29 []) [c]=some (.str s)
theorem shows_nil:Shows .nilS:=by
 refine⟨[],Nat.zero_le _,?_⟩
 have h:qb6 B0 .cl (.fn 33 []) [.nilS]=some (.bool false):=by
  refine call (d:=fun _=>.cl) rfl (by decide) rfl rfl ?_
  rw[List.map_cons,List.map_nil,run33]
  rfl
 refine call (d:=fun _=>.cl) rfl (by decide) rfl rfl ?_
 rw[List.map_cons,List.map_nil,run29,h]
 rfl
theorem shows_tree {t:List Nd} (hf:Fine t) (hx:qvr t) (hr:qdj t=true):Shows (tl t):=by
 obtain⟨a,h1,h2,h3,h4,h5,h6⟩:=qfy hr
 obtain⟨s,s1,s2⟩:=Qqg hf hx a _ h2 h3 (by omega)
 refine⟨s,by omega,?_⟩
 refine call (d:=fun _=>.cl) rfl (by decide) (by simp[qb8]) rfl ?_
 rw[List.map_cons,List.map_nil,run29,qtm hf,hr,qba,qmv,qba]
 rw[show (!true)=false from rfl,qbv,show qbd (.build [.nilS] [(0,(1,.c (tl t)))])=some (.agg [tl t]) from rfl,qba]
 rw[show valO (.agg [tl t])=true from rfl,qbg,qld,qba]
 simp only[qdi,Qjb,qba]
 rw[Qf2 (by omega) (by omega),show ptrO (qg0 (.agg [tl t])) 0=.ptr [tl t] 0 from rfl]
 rw[show qh2 B0 .cl true 52 [.ptr [tl t] 0,I ((t.length - 1:Nat):Int)]=some (.str s) from qgj (qf1 fun _=>.cl) (fn:=fn52) rfl (by simp[qb8,okV]) (Nat.le_of_ble_eq_true rfl) s2 rfl,qba]
theorem shows_core {t:List Nd} (hx:qvr t) (ms:List Int):Shows (qgn t ms):=by
 unfold qgn
 cases hr:qdj t with
 | false=>rw[qlu hr];exact shows_nil
 | true =>
  obtain⟨a,h1,h2,h3,h4,h5,h6⟩:=qfy hr
  rw[h1]
  have ho:=ofT_ok a ms h3
  exact shows_tree (qn0 (by omega)) (flat_sh _ 0 (ofT_sh a ms (isTr_sh hx a _ h2))) (qlt ho.1 (by omega))
noncomputable def Qma:List PV×Unit→Option (Sum (List PV×Unit) (PV×Unit)):=qzx B0
noncomputable def csK (z1:PV):Option (PV×Unit):=qbb (qbd (.len .slice (.c z1))) (fun z2=>qbb (qbd (.bin .lss .num false (.c (.int .i64 0)) (.c z2))) (fun z3=>qdu z3 (qbb (qbd (.idxAddr 1 (.c z1) (.c (.int .i64 0)))) (fun z4=>qbb (qbd (.load 1 false (.c z4))) (fun z5=>qbb (qb6 B0 .cl (.fn 29 []) [z5]) (fun z6=>qbb (qbd (.bin .eql .str true (.c z6) (.c (.str [])))) (fun z7=>qdu z7 (qbb (qbd (.bin .add .str true (.c (.str [33])) (.c (.str [10])))) (fun z8=>qbb (ioO B0 qnj 30 [z8,.nilP,.nilS]) (fun z9=>qbb (qbd (.bin .add .num true (.c (.int .i64 0)) (.c (.int .i64 1)))) (fun z10=>qbw (qbo [z1,z2,z10]) (qcf (qzx B0) ([z1,z2,z10,nI (qbi (nth z9 2)),.sl 1 (qbc (nth z9 3)) false],())))))) (qbb (qbd (.bin .add .str true (.c z6) (.c (.str [10])))) (fun z24=>qbb (ioO B0 qnj 30 [z24,.nilP,.nilS]) (fun z25=>qbb (qbd (.bin .add .num true (.c (.int .i64 0)) (.c (.int .i64 1)))) (fun z26=>qbw (qbo [z1,z2,z26]) (qcf (qzx B0) ([z1,z2,z26,nI (qbi (nth z25 2)),.sl 1 (qbc (nth z25 3)) false],()))))))))))) (some (.str [],()))))
theorem show_split (v:PV):qmk (qjh B0 fun _=>.cl) fn13 .cl qbe 0 ([v].map KV.cv) ()=qbb (qb6 B0 .cl (.fn 15 []) [v]) csK:=by
 rw[List.map_cons,List.map_nil,run13]
 rfl
theorem eq_str (s u:Tx):qbd (.bin .eql .str true (.c (.str s)) (.c (.str u)))=some (.bool (s==u)):=rfl
theorem cs_step {cs:List PV} {j:Nat} {t:Tx} (hj:j < cs.length) (hl:cs.length≤100) (hc:∀ c∈cs,c.cells=[c]∧Shows c) (ht:t.length≤100000000) :
  ∃ t':Tx,(t'.length≤t.length+400002∧0 < t'.length)∧Qma ([.sl 1 cs false,I (cs.length:Nat),I (j:Nat),I (t.length:Nat),bs t],())=some (.inl ([.sl 1 cs false,I (cs.length:Nat),I ((j+1:Nat):Int),I (t'.length:Nat),bs t'],())):=by
 obtain⟨h1,s,s1,s2⟩:=hc _ (List.getElem_mem hj)
 have hmax:qp2=9223372036854775807:=rfl
 have hidx:qbd (.idxAddr 1 (.c (.sl 1 cs false)) (.c (I (j:Int))))=some (.ptr [cs[j]] 0):=by
  have:qbd (.idxAddr 1 (.c (.sl 1 cs false)) (.c (I (j:Int))))=some (.ptr (cs[j]).cells 0):=qhm (by omega) (List.getElem?_eq_getElem hj)
  rw[h1] at this
  exact this
 unfold Qma qzx
 simp only[qc8,qc4,qc2,qde,qfg,qdk,qba,qb2,qgd,qfu]
 rw[show decide ((j:Int) < (cs.length:Nat))=true from decide_eq_true (by omega),qb5,hidx,qba,show qbd (.load 1 false (.c (.ptr [cs[j]] 0)))=some cs[j] from rfl,qba,s2,qba,eq_str,qba,qb1]
 by_cases he:(s==[])=true
 ·rw[if_pos he,qng (by simp;omega),qba]
  refine⟨t++([33]++[10]),⟨by simp,by simp⟩,?_⟩
  rw[Qf1 ([33]++[10]) t (by simp;omega),qba]
  simp only[qdi,qf3,qba,qc2,qde,qb2,qgd,qfu]
  rw[qg1 (by omega)]
 ·rw[if_neg he,qng (by simp;omega),qba]
  refine⟨t++(s++[10]),⟨by simp;omega,by simp;omega⟩,?_⟩
  rw[Qf1 (s++[10]) t (by simp;omega),qba]
  simp only[qdi,qf3,qba,qc2,qde,qb2,qgd,qfu]
  rw[qg1 (by omega)]
theorem cs_loop {cs:List PV} (hl:cs.length≤100) (hc:∀ c∈cs,c.cells=[c]∧Shows c):∀ (m j:Nat) (t:Tx),j+m=cs.length→t.length≤400002*j→0 < t.length→∃ t':Tx,qcf Qma ([.sl 1 cs false,I (cs.length:Nat),I (j:Nat),I (t.length:Nat),bs t],())=some (.str t',())
 | 0,j,t,hj,ht,h0=>by
  obtain rfl:j=cs.length:=by omega
  refine⟨t,qc3 ?_⟩
  unfold Qma qzx
  simp only[qc8,qc4,qc2,qde,qfg,qdk,qba,qb2,qgd,qfu]
  rw[show decide ((cs.length:Int) < (cs.length:Nat))=false by simp,qbv]
  have e1:(byL t).take t.length=byL t:=List.take_of_length_le (by rw[qmi];exact Nat.le_refl _)
  rw[show qxb t.length (byL t)=true by
   unfold qxb
   rw[e1,qkb,qmi]
   simp only[Option.isSome_some,Bool.true_and,Bool.and_eq_true,decide_eq_true_eq]
   exact⟨h0,Nat.le_refl _,by unfold qdp;omega⟩,qbg]
  simp only[qcy,e1]
  rw[show qq2 (byL t)=.str t by unfold qq2;rw[qkb]]
  rfl
 | m+1,j,t,hj,ht,h0=>by
  obtain⟨t1,⟨q1,q2⟩,e⟩:=cs_step (t:=t) (show j < cs.length by omega) hl hc (by omega)
  rw[qc9 e]
  exact cs_loop hl hc m (j+1) t1 (by omega) (by omega) q2
theorem csK_some {cs:List PV} (hl:cs.length≤100) (hc:∀ c∈cs,c.cells=[c]∧Shows c):∃ t:Tx,csK (.sl 1 cs false)=some (.str t,()):=by
 have hmax:qp2=9223372036854775807:=rfl
 unfold csK
 rw[qg6,qba]
 cases cs with
 | nil=>exact⟨[],rfl⟩
 | cons c cs =>
  obtain⟨h1,s,s1,s2⟩:=hc c List.mem_cons_self
  have hidx:qbd (.idxAddr 1 (.c (.sl 1 (c :: cs) false)) (.c (.int .i64 0)))=some (.ptr [c] 0):=by
   have:qbd (.idxAddr 1 (.c (.sl 1 (c :: cs) false)) (.c (I ((0:Nat):Int))))=some (.ptr c.cells 0):=qhm (by omega) rfl
   rw[h1] at this
   exact this
  have one:∀ x:Tx,x.length≤400002→0 < x.length→∃ t:Tx,qcf Qma ([.sl 1 (c :: cs) false,I ((c :: cs).length:Nat),I ((1:Nat):Int),I (x.length:Nat),bs x],())=some (.str t,()):=fun x hx h0 =>
   cs_loop hl hc cs.length 1 x (by simp;omega) (by omega) h0
  simp only[qdi,qdk,qba]
  rw[show decide ((0:Int) < ((c :: cs).length:Nat))=true from decide_eq_true (by simp only[List.length_cons];omega),qb5]
  rw[show qbd (.idxAddr 1 (.c (.sl 1 (c :: cs) false)) (.c (I 0)))=some (.ptr [c] 0) from hidx,qba,show qbd (.load 1 false (.c (.ptr [c] 0)))=some c from rfl,qba,s2,qba,eq_str,qba,qb1]
  by_cases he:(s==[])=true
  ·rw[if_pos he,qng (by simp;omega),qba,Qm1 ([33]++[10]) (by simp),qba]
   simp only[qf3,qba,qc2,qde,qb2,qgd,qfu]
   rw[show qbo [.sl 1 (c :: cs) false,I ((c :: cs).length:Nat),I (IntKind.i64.wrap (0+1))]=true from rfl,qbg]
   exact one ([33]++[10]) (by simp) (by simp)
  ·rw[if_neg he,qng (by simp;omega),qba,Qm1 (s++[10]) (by simp;omega),qba]
   simp only[qf3,qba,qc2,qde,qb2,qgd,qfu]
   rw[show qbo [.sl 1 (c :: cs) false,I ((c :: cs).length:Nat),I (IntKind.i64.wrap (0+1))]=true from rfl,qbg]
   exact one (s++[10]) (by simp;omega) (by simp)
end Go.Ab.Core


namespace Go.Ab.Core
open Go Go.Ab
noncomputable def fmT (c t:Bool):Option (PV×Unit):=qbb (qdu (.bool c) (some (.bool t)) (some (.bool false))) fun z=>some (z,())
theorem qm2 (c t:Bool):fmT c t=some (.bool (c&&t),()):=by cases c<;>cases t<;>rfl
noncomputable def r27 (k:Int) (x:List UInt8) (ks:List Int):Option (PV×Unit):=qmk (qjh B0 fun _=>.cl) fn27 .cl qbe 0 [.cv (.agg [.int .i64 k,.str x,.sl 1 (qgk ks) false])] ()
theorem r27_1 (x:List UInt8) (ks:List Int):r27 1 x ks=fmT (((qgk ks).length:Int)==0) (!(x==[])):=by kernel_rfl
theorem r27_2 (x:List UInt8) (ks:List Int):r27 2 x ks=fmT (((qgk ks).length:Int)==0) (!(x==[])):=by kernel_rfl
theorem r27_3 (x:List UInt8) (ks:List Int):r27 3 x ks=fmT (((qgk ks).length:Int)==0) (!(x==[])):=by kernel_rfl
theorem r27_4 (x:List UInt8) (ks:List Int):r27 4 x ks=fmT (((qgk ks).length:Int)==0) (!(x==[])):=by kernel_rfl
theorem r27_5 (x:List UInt8) (ks:List Int):r27 5 x ks=fmT (((qgk ks).length:Int)==1) (x==[]):=by kernel_rfl
theorem r27_6 (x:List UInt8) (ks:List Int):r27 6 x ks=fmT (((qgk ks).length:Int)==2) (x==[]):=by kernel_rfl
theorem r27_7 (x:List UInt8) (ks:List Int):r27 7 x ks=fmT (((qgk ks).length:Int)==3) (x==[]):=by kernel_rfl
theorem r27_8 (x:List UInt8) (ks:List Int):r27 8 x ks=fmT (((qgk ks).length:Int)==1) (!(x==[])):=by kernel_rfl
theorem r27_9 (x:List UInt8) (ks:List Int):r27 9 x ks=fmT (((qgk ks).length:Int)==0) (!(x==[])):=by kernel_rfl
theorem r27_10 (x:List UInt8) (ks:List Int):r27 10 x ks=fmT (((qgk ks).length:Int)==1) (!(x==[])):=by kernel_rfl
theorem r27_11 (x:List UInt8) (ks:List Int):r27 11 x ks=fmT (decide (((qgk ks).length:Int)≥1)) (x==[]):=by kernel_rfl
theorem r27_12 (x:List UInt8) (ks:List Int):r27 12 x ks=fmT (((qgk ks).length:Int)==2) (x==[]):=by kernel_rfl
theorem r27_13 (x:List UInt8) (ks:List Int):r27 13 x ks=fmT (((qgk ks).length:Int)==0) (!(x==[])):=by kernel_rfl
theorem r27_14 (x:List UInt8) (ks:List Int):r27 14 x ks=fmT (((qgk ks).length:Int)==0) (!(x==[])):=by kernel_rfl
theorem r27_0 (x:List UInt8) (ks:List Int):r27 0 x ks=some (.bool false,()):=by kernel_rfl
theorem r27_neg (m:Nat) (x:List UInt8) (ks:List Int):r27 (.negSucc m) x ks=some (.bool false,()):=by kernel_rfl
theorem r27_15 (m:Nat) (x:List UInt8) (ks:List Int):r27 (.ofNat (m+15)) x ks=some (.bool false,()):=by kernel_rfl
theorem formRef (n:Nd) (hn:n.Fine):r27 n.kind n.text n.kids=some (.bool (qfm n),()):=by
 obtain⟨k,x,ks⟩:=n
 have hk:ks.length≤1000000:=hn.kids
 match k with
 | .negSucc m=>exact r27_neg m x ks
 | .ofNat 0=>exact r27_0 x ks
 | .ofNat 1 =>
  show r27 1 x ks=_
  rw[r27_1,qm2,show qfm ⟨Int.ofNat 1,x,ks⟩=(decide ((0:Int)≤(ks.length:Int))&&decide ((ks.length:Int)≤0)&&((x != [])==true)) from rfl]
  refine congrArg (fun b=>some (PV.bool b,())) ?_
  rw[Bool.eq_iff_iff]
  cases x<;>simp[qcr]<;>omega
 | .ofNat 2 =>
  show r27 2 x ks=_
  rw[r27_2,qm2,show qfm ⟨Int.ofNat 2,x,ks⟩=(decide ((0:Int)≤(ks.length:Int))&&decide ((ks.length:Int)≤0)&&((x != [])==true)) from rfl]
  refine congrArg (fun b=>some (PV.bool b,())) ?_
  rw[Bool.eq_iff_iff]
  cases x<;>simp[qcr]<;>omega
 | .ofNat 3 =>
  show r27 3 x ks=_
  rw[r27_3,qm2,show qfm ⟨Int.ofNat 3,x,ks⟩=(decide ((0:Int)≤(ks.length:Int))&&decide ((ks.length:Int)≤0)&&((x != [])==true)) from rfl]
  refine congrArg (fun b=>some (PV.bool b,())) ?_
  rw[Bool.eq_iff_iff]
  cases x<;>simp[qcr]<;>omega
 | .ofNat 4 =>
  show r27 4 x ks=_
  rw[r27_4,qm2,show qfm ⟨Int.ofNat 4,x,ks⟩=(decide ((0:Int)≤(ks.length:Int))&&decide ((ks.length:Int)≤0)&&((x != [])==true)) from rfl]
  refine congrArg (fun b=>some (PV.bool b,())) ?_
  rw[Bool.eq_iff_iff]
  cases x<;>simp[qcr]<;>omega
 | .ofNat 5 =>
  show r27 5 x ks=_
  rw[r27_5,qm2,show qfm ⟨Int.ofNat 5,x,ks⟩=(decide ((1:Int)≤(ks.length:Int))&&decide ((ks.length:Int)≤1)&&((x != [])==false)) from rfl]
  refine congrArg (fun b=>some (PV.bool b,())) ?_
  rw[Bool.eq_iff_iff]
  cases x<;>simp[qcr]<;>omega
 | .ofNat 6 =>
  show r27 6 x ks=_
  rw[r27_6,qm2,show qfm ⟨Int.ofNat 6,x,ks⟩=(decide ((2:Int)≤(ks.length:Int))&&decide ((ks.length:Int)≤2)&&((x != [])==false)) from rfl]
  refine congrArg (fun b=>some (PV.bool b,())) ?_
  rw[Bool.eq_iff_iff]
  cases x<;>simp[qcr]<;>omega
 | .ofNat 7 =>
  show r27 7 x ks=_
  rw[r27_7,qm2,show qfm ⟨Int.ofNat 7,x,ks⟩=(decide ((3:Int)≤(ks.length:Int))&&decide ((ks.length:Int)≤3)&&((x != [])==false)) from rfl]
  refine congrArg (fun b=>some (PV.bool b,())) ?_
  rw[Bool.eq_iff_iff]
  cases x<;>simp[qcr]<;>omega
 | .ofNat 8 =>
  show r27 8 x ks=_
  rw[r27_8,qm2,show qfm ⟨Int.ofNat 8,x,ks⟩=(decide ((1:Int)≤(ks.length:Int))&&decide ((ks.length:Int)≤1)&&((x != [])==true)) from rfl]
  refine congrArg (fun b=>some (PV.bool b,())) ?_
  rw[Bool.eq_iff_iff]
  cases x<;>simp[qcr]<;>omega
 | .ofNat 9 =>
  show r27 9 x ks=_
  rw[r27_9,qm2,show qfm ⟨Int.ofNat 9,x,ks⟩=(decide ((0:Int)≤(ks.length:Int))&&decide ((ks.length:Int)≤0)&&((x != [])==true)) from rfl]
  refine congrArg (fun b=>some (PV.bool b,())) ?_
  rw[Bool.eq_iff_iff]
  cases x<;>simp[qcr]<;>omega
 | .ofNat 10 =>
  show r27 10 x ks=_
  rw[r27_10,qm2,show qfm ⟨Int.ofNat 10,x,ks⟩=(decide ((1:Int)≤(ks.length:Int))&&decide ((ks.length:Int)≤1)&&((x != [])==true)) from rfl]
  refine congrArg (fun b=>some (PV.bool b,())) ?_
  rw[Bool.eq_iff_iff]
  cases x<;>simp[qcr]<;>omega
 | .ofNat 11 =>
  show r27 11 x ks=_
  rw[r27_11,qm2,show qfm ⟨Int.ofNat 11,x,ks⟩=(decide ((1:Int)≤(ks.length:Int))&&decide ((ks.length:Int)≤1048576)&&((x != [])==false)) from rfl]
  refine congrArg (fun b=>some (PV.bool b,())) ?_
  rw[Bool.eq_iff_iff]
  cases x<;>simp[qcr]<;>omega
 | .ofNat 12 =>
  show r27 12 x ks=_
  rw[r27_12,qm2,show qfm ⟨Int.ofNat 12,x,ks⟩=(decide ((2:Int)≤(ks.length:Int))&&decide ((ks.length:Int)≤2)&&((x != [])==false)) from rfl]
  refine congrArg (fun b=>some (PV.bool b,())) ?_
  rw[Bool.eq_iff_iff]
  cases x<;>simp[qcr]<;>omega
 | .ofNat 13 =>
  show r27 13 x ks=_
  rw[r27_13,qm2,show qfm ⟨Int.ofNat 13,x,ks⟩=(decide ((0:Int)≤(ks.length:Int))&&decide ((ks.length:Int)≤0)&&((x != [])==true)) from rfl]
  refine congrArg (fun b=>some (PV.bool b,())) ?_
  rw[Bool.eq_iff_iff]
  cases x<;>simp[qcr]<;>omega
 | .ofNat 14 =>
  show r27 14 x ks=_
  rw[r27_14,qm2,show qfm ⟨Int.ofNat 14,x,ks⟩=(decide ((0:Int)≤(ks.length:Int))&&decide ((ks.length:Int)≤0)&&((x != [])==true)) from rfl]
  refine congrArg (fun b=>some (PV.bool b,())) ?_
  rw[Bool.eq_iff_iff]
  cases x<;>simp[qcr]<;>omega
 | .ofNat (m+15)=>exact r27_15 m x ks
theorem Qpe (n:Nd) (hn:n.Fine):qb6 B0 .cl (.fn 27 []) [nd n]=some (.bool (qfm n)) :=
 call (d:=fun _=>.cl) rfl (by decide) (by simp[qb8,Qqx]) rfl (formRef n hn)
end Go.Ab.Core


namespace Go.Ab.Core
open Go Go.Ab
theorem last_loop {t:List Nd} (ht:Fine t) {ups:List Int} (hu:ups.length=t.length) (h1:1≤t.length) {step:List PV×Unit→Option (Sum (List PV×Unit) (PV×Unit))}
  (hs:∀ i,i+1 < t.length→step ([tl t,I (t.length:Nat),I (i:Nat),il ups],())=some (if ups.getD i 0=1 then .inl ([tl t,I (t.length:Nat),I ((i+1:Nat):Int),il ups],()) else .inr (.bool false,())))
  (he:step ([tl t,I (t.length:Nat),I ((t.length - 1:Nat):Int),il ups],())=some (.inr (.bool true,()))) :
  qcf step ([tl t,I (t.length:Nat),I ((0:Nat):Int),il ups],())=some (.bool ((ups.take (t.length - 1)).all (·==1)),()):=by
 refine Eq.trans (qri (fun i (_:Unit)=>([tl t,I (t.length:Nat),I (i:Int),il ups],())) (t.length - 1) (fun _ _=>True)
  (fun i _=>(PV.bool (((ups.take (t.length - 1)).drop i).all (·==1)),())) (fun i _ hi _=>?_) (fun _ _=>?_) (a0:=()) trivial) (by simp)
 ·have hlt:i < (ups.take (t.length - 1)).length:=by rw[List.length_take];omega
  have hl2:i < ups.length:=by omega
  rw[List.drop_eq_getElem_cons hlt,List.all_cons]
  have hg:ups.getD i 0=(ups.take (t.length - 1))[i]:=by
   rw[List.getElem_take,List.getD_eq_getElem?_getD,List.getElem?_eq_getElem hl2];rfl
  rw[hs i (by omega),hg]
  by_cases h:(ups.take (t.length - 1))[i]=1
  ·left
   refine⟨(),by rw[if_pos h],trivial,?_⟩
   simp only[h]
   simp
  ·right
   rw[if_neg h,show ((ups.take (t.length - 1))[i]==1)=false by simpa using h]
   rfl
 ·rw[he,List.drop_eq_nil_of_le (by rw[List.length_take];omega)]
  rfl
theorem lastUp_all {ups:List Int} (h1:1≤ups.length) (h0:ups.getD (ups.length - 1) 0=0):(qnr ups).all (·==1)=(ups.take (ups.length - 1)).all (·==1):=by
 unfold qnr
 rw[h0]
 have e:ups.set (ups.length - 1) (0+1)=ups.take (ups.length - 1)++[1]:=by
  apply List.ext_getElem?
  intro i
  rw[List.getElem?_set]
  by_cases hi:ups.length - 1=i
  ·subst hi
   rw[if_pos rfl,if_pos (by omega),List.getElem?_append_right (by rw[List.length_take];omega)]
   simp[Nat.min_eq_left (Nat.sub_le _ _)]
  ·rw[if_neg hi]
   by_cases h2:i < ups.length - 1
   ·rw[List.getElem?_append_left (by rw[List.length_take];omega),List.getElem?_take_of_lt h2]
   ·rw[List.getElem?_eq_none (by omega),List.getElem?_eq_none (by simp;omega)]
 rw[e,List.all_append]
 simp
theorem qy9 {t:List Nd} (ht:Fine t):qmk (qjh B0 fun _=>.cl) fn10 .cl qbe 0 ([tl t].map KV.cv) ()=some (.bool (qdj t),()):=by
 have hlt:=ht.len
 have hb:=qhq
 rw[List.map_cons,List.map_nil,run10]
 simp only[qld,qba,qdi,qdk,I_gtr,qb1]
 by_cases h1:t.length < 1
 ·have:qdj t=false:=by unfold qdj;simp[show ¬ 1≤t.length by omega]
  simp[show ((t.length:Nat):Int) < 1 by omega,this]
 have h1':¬ ((t.length:Nat):Int) < 1:=by omega
 by_cases h2:400 < t.length
 ·have:qdj t=false:=by unfold qdj;simp[show ¬ t.length≤400 by omega]
  simp[h1',show (400:Int) < ((t.length:Nat):Int) by omega,this]
 have h2':¬ (400:Int) < ((t.length:Nat):Int):=by omega
 simp only[h1',h2',decide_false,Bool.false_eq_true,if_false,qba,qbv]
 rw[Qq4 (by unfold qdp;omega)]
 simp only[qba,qgd]
 rw[show qbo [tl t,I t.length,I 0]=true from rfl,qbg,qto]
 have hrb:qdj t=(match qdv 0 (List.replicate t.length 0) t with | some ups=>(qnr ups).all (·==1) | none=>false):=by
  unfold qdj;simp[show 1≤t.length by omega,show t.length≤400 by omega]<;>rfl
 rw[hrb]
 refine Eq.trans (Qnt (fun i (ups:List Int)=>([tl t,I t.length,I (i:Int),il ups],())) t.length (fun i ups=>ups.length=t.length∧qx4 (i*big) ups∧∀ j,i≤j+1→ups.getD j 0=0)
  (fun i ups=>(PV.bool (match qdv i ups (t.drop i) with | some ups=>(qnr ups).all (·==1) | none=>false),())) (fun i ups hi hu=>?_) (fun ups hu=>?_) (a0:=List.replicate t.length 0) ⟨by simp,fun u hu=>by
   have:=List.eq_of_mem_replicate hu;omega,fun j _=>by simp[List.getD_eq_getElem?_getD,List.getElem?_replicate];split<;>rfl⟩) (by simp only[List.drop_zero]<;>rfl)
 ·simp only[qc8,qc4,qc2,qde,qld,qdk,qba]
  rw[show decide ((i:Int) < (t.length:Nat))=true by simpa using hi,qb5,qks hi]
  have hnf:=ht.nd t[i] (List.getElem_mem hi)
  simp only[qba,Qkn,qb2,qgd,qcg]
  rw[show qb6 B0 .cl (.fn 27 []) [.agg [I t[i].kind,.str t[i].text,il t[i].kids]]=some (.bool (qfm t[i])) from Qpe t[i] hnf]
  simp only[qba,qmv,qb1]
  rw[List.drop_eq_getElem_cons hi]
  cases hfm:qfm t[i] with
  | false=>exact⟨_,rfl,.inr (by simp[qdv,hfm])⟩
  | true =>
   rw[if_neg (by simp)]
   rw[show qbo [tl t,I t.length,I i,I (-1),I 0]=true from rfl,qbg]
   refine⟨_,Qrk ht hi hu.1 hu.2.1 (fun ups=>.inl ([tl t,I t.length,I ((i+1:Nat):Int),il ups],()))
    (fun j last ups=>([tl t,I t.length,I i,I last,I (j:Int),il ups],())) (fun j last ups hj hu' hle=>?_) (fun last ups hu'=>?_),?_⟩
   ·simp only[qc8,qc4,qc2,qde,qfg,qgr,qks hi,qba,Qpj,qss,qhi,qdk]
    rw[show decide ((j:Int) < (t[i].kids.length:Nat))=true by simpa using hj,qb5,qr8 hj]
    simp only[qba,qmx,I_leq,Qp6,qb1]
    by_cases g1:t[i].kids[j]≤last
    ·simp[g1]
    by_cases g2:(i:Int)≤t[i].kids[j]
    ·simp[g1,g2]
    simp only[g1,g2,decide_false,Bool.false_eq_true,if_false,qba,qbv,Bool.or_self]
    by_cases g3:0≤t[i].kids[j]
    ·obtain⟨m,hm⟩:=Int.eq_ofNat_of_zero_le g3
     rw[if_pos g3,hm]
     have hmt:m < t.length:=by rw[hm] at g2;omega
     have hmu:m < ups.length:=by omega
     have hub:=hle _ (List.getElem_mem hmu)
     have hjb:=hnf.kids
     have hib:i*big≤1000000*1000000:=Nat.mul_le_mul (by unfold big at hlt;omega) (by decide)
     simp only[qtv,qba,qb2,qqm,qdb,Nat.zero_add,qcg,show decide (m < t.length)=true by simpa using hmt,qbg,qn7 hmu,qf3,qx7 hmu,Int.toNat_natCast]
     rw[qg1 (i:=j) (by omega),w64 (n:=ups[m]+1) (by omega) (by omega)]
     simp[List.getD_eq_getElem?_getD,hmu]
     rfl
    ·rw[if_neg g3]
     have:qr6 (I t[i].kids[j])=none:=by simp[qr6,qj2,I,g3]
     rw[this];rfl
   ·simp only[qc8,qc4,qc2,qde,qfg,qgr,qks hi,qba,Qpj,qss,qhi,qdk]
    rw[show decide (((t[i].kids.length:Nat):Int) < (t[i].kids.length:Nat))=false by simp,qbv]
    simp only[qf3,qba,qb2,qgd,qcg]
    rw[qg1 (by omega)]
    rfl
   ·cases hk:qt1 (i:Int) (-1) t[i].kids with
    | false=>right;simp[qdv,hk]
    | true =>
     left
     refine⟨bump ups t[i].kids,by simp,⟨by rw[qvq];exact hu.1,fun u hu'=>?_,fun j hj=>?_⟩,by simp[qdv,hk,hfm]⟩
     ·have:=hu.2.1.bump u hu'
      have hk':=hnf.kids
      rw[Nat.add_mul]
      omega
     ·rw[qym i _ _ (fun k hk2=>Qg9 hk (by omega) k hk2) j (by omega)]
      exact hu.2.2 j (by omega)
 ·simp only[qc8,qc4,qc2,qde,qld,qdk,qba]
  rw[show decide (((t.length:Nat):Int) < (t.length:Nat))=false by simp,qbv]
  simp only[qb2,qgd,qcg]
  rw[show qbo [tl t,I t.length,I 0]=true from rfl,qbg]
  have hl0:=hu.2.2 (t.length - 1) (by omega)
  have hll:=last_loop ht hu.1 (by omega) (step:=(fun z40=>qbb (qbd (.bin .add .num true (.c (nth z40.1 2)) (.c (I 1)))) (fun z41=>qbb (qbd (.len .slice (.c (nth z40.1 0)))) (fun z42=>qbb (qbd (.bin .lss .num false (.c z41) (.c z42))) (fun z43=>qdu z43 (qbb (qr6 (nth z40.1 2)) (fun z44=>qbw (ltN z44 (qbi (nth z40.1 1))) (qbb (qkz (qbc (nth z40.1 3)) (qcq 0 z44) 0 1 false) (fun z45=>qbb (qbd (.bin .neq .num true (.c z45) (.c (I 1)))) (fun z46=>qdu z46 (qbb (some (.bool false,z40.2)) (fun z47=>some (.inr z47))) (qbb (qbd (.bin .add .num true (.c (nth z40.1 2)) (.c (I 1)))) (fun z48=>some (.inl ([nth z40.1 0,nI (qbi (nth z40.1 1)),z48,.sl 1 (qbc (nth z40.1 3)) false],z40.2))))))))) (qbb (some (.bool true,z40.2)) (fun z49=>some (.inr z49)))))))) (fun i hi=>?_) ?_
  ·rw[show ∀ X:Option (PV×Unit),X=some (.bool ((ups.take (t.length - 1)).all (·==1)),())→qbb X (fun z=>some (Sum.inr z))=some (.inr (.bool ((ups.take (t.length - 1)).all (·==1)),())) from fun X hX=>by rw[hX];rfl]
   ·rw[List.drop_length]
    simp only[qdv]
    rw[lastUp_all (by omega) (by rw[hu.1];exact hl0),hu.1]
   ·exact hll
  ·have hiu:i < ups.length:=by have:=hu.1;omega
   simp only[qc8,qc4,qc2,qde,qf3,qld,qdk,qba]
   rw[qg1 (by omega),show decide (((i+1:Nat):Int) < (t.length:Nat))=true by simp;omega,qb5,qtv,qba]
   simp only[qb2,qqm,qdb,Nat.zero_add,qcg,qgd]
   rw[show decide (i < t.length)=true by simp;omega,qbg,qn7 hiu,qba,I_neq,qba,qb1,List.getD_eq_getElem?_getD,List.getElem?_eq_getElem hiu]
   by_cases hq:ups[i]=1
   ·simp[hq]
    rfl
   ·simp[hq]
  ·simp only[qc8,qc4,qc2,qde,qf3,qld,qdk,qba]
   rw[qg1 (by omega),show t.length - 1+1=t.length by omega,show decide (((t.length:Nat):Int) < (t.length:Nat))=false by simp,qbv]
theorem qy8 {t:List Nd} (ht:Fine t):qb6 B0 .cl (.fn 10 []) [tl t]=some (.bool (qdj t)) :=
 call (d:=fun _=>.cl) rfl (by decide) (by simp[qb8]) rfl (qy9 ht)
end Go.Ab.Core


namespace Go.Ab.Core
open Go Go.Ab
noncomputable def movIn:List PV×Unit→Option (Sum (List PV×Unit) (Sum (List PV×Unit) (PV×Unit))):=Qq7 B0
theorem Qc4 (l:List Int):(qgk l).take l.length=qgk l:=List.take_of_length_le (by simp)
theorem Qdb (l:List Int) (k:Int):qgk l++[I k]=qgk (l++[k]):=by simp[qgk]
theorem mov_in {u:List Nd} {i d:Nat} (hi:i < u.length) (hu:u.length≤big) (hd:d≤big) (hk:u[i].kids.length≤big) (hb:∀ k∈u[i].kids,0≤k∧k≤big) (out:List Nd) (ho:out.length≤big) :
  qcf movIn ([tl u,I (d:Nat),I (out.length:Nat),I (i:Nat),I ((0:Nat):Int),.sl 3 (nds out) false,I u[i].kind,.str u[i].text,I ((0:Nat):Int),.sl 1 [] false],()) =
   some (.inl ([tl u,I (d:Nat),I ((out++[qfq d u[i]]).length:Nat),I ((i+1:Nat):Int),.sl 3 (nds (out++[qfq d u[i]])) false],())):=by
 have hbb:big=1000000:=rfl
 refine qrh (fun j=>([tl u,I (d:Nat),I (out.length:Nat),I (i:Nat),I (j:Nat),.sl 3 (nds out) false,I u[i].kind,.str u[i].text,I (((u[i].kids.take j).map (·+(d:Int))).length:Nat),.sl 1 (qgk ((u[i].kids.take j).map (·+(d:Int)))) false],())) u[i].kids.length rfl (fun j hj=>?_) ?_
 ·have hkj:=hb _ (List.getElem_mem hj)
  unfold movIn Qq7
  simp only[qc8,qc4,qc2,qde,qfg,qgr,qh1,qjl,ql3,qmo,qks hi,qba,Qpj,qss,qhi,qdk,qb2,qgd,qby]
  rw[show decide ((j:Int) < (u[i].kids.length:Nat))=true from decide_eq_true (by omega),qb5,qr8 hj]
  simp only[qba,qmx,qf3,qdi]
  rw[w64 (by omega) (by omega),show qdd 1 [I (u[i].kids[j]+(d:Int))]=true from rfl]
  simp only[qbg,qdq,List.length_singleton,qcr,qdb,Nat.zero_add,qgy,Nat.le_refl,decide_true,qcy,qdn,List.drop_zero,List.take_succ_cons,List.take_zero,qfa,Bool.true_and,qd9,Qc4,Qdb]
  rw[show decide (((u[i].kids.take j).map (·+(d:Int))).length+1≤2147483648)=true from decide_eq_true (by simp;omega),qbg,qg1 (by omega)]
  rw[List.take_succ_eq_append_getElem hj]
  simp only[List.map_append,List.map_cons,List.map_nil,List.length_append,List.length_singleton,qgd]
 ·unfold movIn Qq7
  simp only[qc8,qc4,qc2,qde,qfg,qgr,qh1,qjl,ql3,qmo,qks hi,qba,Qpj,qss,qhi,qdk,qb2,qgd,qby]
  rw[show decide ((u[i].kids.length:Int) < (u[i].kids.length:Nat))=false by simp,qbv,List.take_length]
  rw[qmu (u[i].kids.map (·+(d:Int))),show PV.agg [I u[i].kind,.str u[i].text,il (u[i].kids.map (·+(d:Int)))]=nd (qfq d u[i]) from rfl,Qq1]
  simp only[qbg,qdq,List.length_singleton,qrk,qdb,Nat.zero_add,qgy,Nat.le_refl,decide_true,qcy,qdn,List.drop_zero,List.take_succ_cons,List.take_zero,qfa,Bool.true_and,qd9,qx5,qx6]
  rw[show decide (out.length+1≤2147483648)=true from decide_eq_true (by omega),qbg]
  simp only[qdi,qf3,qba]
  rw[qg1 (by omega)]
  simp
theorem moved_run {u:List Nd} {d:Nat} (hu:u.length≤big) (hd:d≤big) (hk:∀ n∈u,n.kids.length≤big) (hb:∀ n∈u,∀ k∈n.kids,0≤k∧k≤big):qb6 B0 .cl (.fn 51 []) [tl u,I (d:Nat)]=some (tl (u.map (qfq d))):=by
 have hbb:big=1000000:=rfl
 refine call (d:=fun _=>.cl) rfl (by decide) (by simp[qb8]) rfl ?_
 rw[List.map_cons,List.map_cons,List.map_nil,run51]
 rw[show qbo [tl u,I (d:Nat),nI 0,.int .i64 0]=true from rfl,qbg]
 refine qrh (fun i=>([tl u,I (d:Nat),I (((u.take i).map (qfq d)).length:Nat),I (i:Nat),.sl 3 (nds ((u.take i).map (qfq d))) false],())) u.length rfl (fun i hi=>?_) ?_
 ·unfold lp51_1
  simp only[qc8,qc4,qc2,qde,qfg,qld,qba,qdk,qb2,qgd,qby]
  rw[show decide ((i:Int) < (u.length:Nat))=true from decide_eq_true (by omega),qb5,qks hi]
  simp only[qba,fa3_0,fa3_1,qzz,Qn0]
  rw[show qbd (.build [.int .i64 0,.str [],.nilS] [(0,(1,.c (I u[i].kind))),(1,(1,.c (.str u[i].text)))])=some (.agg [I u[i].kind,.str u[i].text,.nilS]) from rfl,qba]
  rw[show qcu (.agg [I u[i].kind,.str u[i].text,.nilS]) 3=true from rfl,qbg]
  simp only[qhx,qhw,qhv]
  rw[show ∀ X:Option (Sum (List PV×Unit) (PV×Unit)),nilO PV.nilS X=X from fun _=>rfl]
  rw[show qbo [tl u,I (d:Nat),I (((u.take i).map (qfq d)).length:Nat),I (i:Nat),.int .i64 0]=true from rfl,qbg]
  have hm:=mov_in hi hu hd (hk _ (List.getElem_mem hi)) (hb _ (List.getElem_mem hi)) ((u.take i).map (qfq d)) (by simp;omega)
  have e:(u.take i).map (qfq d)++[qfq d u[i]]=(u.take (i+1)).map (qfq d):=by rw[List.take_succ_eq_append_getElem hi,List.map_append];rfl
  rw[e] at hm
  exact hm
 ·unfold lp51_1
  simp only[qc8,qc4,qc2,qde,qfg,qld,qba,qdk,qb2,qgd,qby]
  rw[show decide ((u.length:Int) < (u.length:Nat))=false by simp,qbv,List.take_length,Qm9]
  rw[show okU (tl (u.map (qfq d)))=true by simp[okU],qbg]
  rfl
theorem Qjz {t:List Nd} (ht:Fine t):qh2 B0 .cl true 10 [tl t]=some (.bool (qdj t)) :=
 qgj (qf1 fun _=>.cl) (fn:=fn10) rfl (by simp[qb8]) (Nat.le_of_ble_eq_true rfl) (qy9 ht) rfl
noncomputable def rjStep:List PV×Unit→Option (Sum (List PV×Unit) (PV×Unit)):=Qq9 B0
theorem rj_loop {k:Int} {x:Tx} {ks:List Tr} (hok:OkL ks) (hfm:qfm ⟨k,x,List.replicate ks.length 0⟩=true) (hs:qcc ks+1≤400):∀ (rest pre:List Tr),ks=pre++rest→OkL rest →
  qcf rjStep ([.sl 1 (qd7 ks) false,I ((qcz pre 0).length:Nat),I (pre.length:Nat),I k,.str x,I ((qci pre 0).length:Nat),.sl 1 (qgk (qci pre 0)) false,.sl 3 (nds (qcz pre 0)) false],()) =
   some (.tup [tl (flat (.mk k x ks) 0),I 0],())
 | [],pre,he,_=>by
  have he:ks=pre:=by simpa using he
  subst he
  have hbl:=qhq
  have hokT:Tr.Ok (.mk k x ks):=⟨hfm,hok⟩
  have hsT:Tr.size (.mk k x ks)≤400:=by simpa[Tr.size] using hs
  have hl1:=qgs ks 0
  have hl2:=qjz ks 0
  have hl3:=qjm ks
  refine qc3 ?_
  unfold rjStep Qq9
  simp only[qc8,qc4,qc2,qde,qfg,qgr,qh1,qjl,qb2,qgd,qby,qg6,qdi,qdk,qba]
  rw[show (qd7 ks).length=ks.length by simp[qd7],show decide ((ks.length:Int) < (ks.length:Nat))=false by simp,qbv]
  have e1:slO 1 1 (qgk (qci ks 0)) 0 (qci ks 0).length=il (qci ks 0):=qmu _
  have e2:PV.agg [I k,.str x,il (qci ks 0)]=nd ⟨k,x,qci ks 0⟩:=rfl
  rw[e1,e2,Qq1]
  simp only[qbg,qdq,List.length_singleton,qrk,qdb,Nat.zero_add,qgy,Nat.le_refl,decide_true,qcy,qdn,List.drop_zero,List.take_succ_cons,List.take_zero,qfa,Bool.true_and,qd9,qx5,qx6]
  rw[show decide ((qcz ks 0).length+1≤2147483648)=true by simp;omega,qbg]
  have e3:qcz ks 0++[⟨k,x,qci ks 0⟩]=flat (.mk k x ks) 0:=rfl
  have e4:(qcz ks 0).length+1=(flat (.mk k x ks) 0).length:=by rw[←e3];simp
  rw[e3,e4,Qm9,Qjz (qn0 hsT),qlt hokT hsT,qba,qmv,qba]
  rw[show (!true)=false from rfl,qbv,show okU (.tup [tl (flat (.mk k x ks) 0),I 0])=true by simp[okU,okV,qb8],qbg]
  rfl
 | a :: rest,pre,he,ho=>by
  have hbb:big=1000000:=rfl
  have hsz:qcc ks=qcc pre+a.size+qcc rest:=by
   rw[he,show pre++a :: rest=(pre++[a])++rest by simp]
   have:∀ (u v:List Tr),qcc (u++v)=qcc u+qcc v:=fun u v=>by
    induction u with
    | nil=>simp[qcc]
    | cons b u ih=>simp only[List.cons_append,qcc,ih];omega
   rw[this,qv1]
  have hlt:pre.length < ks.length:=by rw[he];simp
  have hsa:a.size≤400:=by omega
  have hsp:=qke a
  have hlow:=qyj a 0 (by unfold big;omega)
  have hmv:=moved_run (u:=flat a 0) (d:=(qcz pre 0).length) (by rw[qki];omega) (by rw[qgs];omega) (fun n hn=>(hlow n hn).1) (fun n hn=>(hlow n hn).2)
  rw[qwp,Nat.zero_add] at hmv
  have e1:qcz pre 0++flat a (qcz pre 0).length=qcz (pre++[a]) 0:=by rw[qwq,qgs,Nat.zero_add]
  have e2:qci pre 0++[(((qcz pre 0).length+(flat a (qcz pre 0).length).length - 1:Nat):Int)]=qci (pre++[a]) 0:=by rw[qsj,qgs,qki,Nat.zero_add]
  have hl1:=qgs pre 0
  have hl2:=qjz pre 0
  have hl3:=qjm pre
  have hl4:=qki a (qcz pre 0).length
  rw[qc9 (s':=([.sl 1 (qd7 ks) false,I ((qcz (pre++[a]) 0).length:Nat),I ((pre++[a]).length:Nat),I k,.str x,I ((qci (pre++[a]) 0).length:Nat),.sl 1 (qgk (qci (pre++[a]) 0)) false,.sl 3 (nds (qcz (pre++[a]) 0)) false],()))]
  ·exact rj_loop hok hfm hs rest (pre++[a]) (by rw[he];simp) ho.2
  ·unfold rjStep Qq9
   simp only[qc8,qc4,qc2,qde,qfg,qgr,qh1,qjl,qb2,qgd,qby,qg6,qdi,qdk,qba]
   rw[show (qd7 ks).length=ks.length by simp[qd7],show decide ((pre.length:Int) < (ks.length:Nat))=true by simp;omega,qb5]
   have hidx:qbd (.idxAddr 1 (.c (.sl 1 (qd7 ks) false)) (.c (I (pre.length:Int))))=some (.ptr [tl (flat a 0)] 0) :=
    qhm (by omega) (show (qd7 ks)[pre.length]?=some (tl (flat a 0)) by rw[he];simp[qd7])
   rw[hidx]
   simp only[qba,show qbd (.load 1 false (.c (.ptr [tl (flat a 0)] 0)))=some (tl (flat a 0)) from rfl]
   rw[qy8 (qn0 hsa),qlt ho.1 hsa,qba,qmv,qba,show (!true)=false from rfl,qbv,hmv,qba]
   rw[show qjr 3 (tl (flat a (qcz pre 0).length))=some (nds (flat a (qcz pre 0).length)) from rfl,qba]
   simp only[qdq,qrk,qcr,qgy,qdb,qfa,Nat.le_refl,decide_true,Bool.true_and]
   rw[show decide ((qcz pre 0).length+(flat a (qcz pre 0).length).length≤2147483648)=true from decide_eq_true (by omega),qbg]
   simp only[qgd,Qjb,qba]
   rw[Qf2 (by omega) (by omega)]
   rw[show qdd 1 [I (((qcz pre 0).length+(flat a (qcz pre 0).length).length - 1:Nat):Int)]=true from rfl]
   simp only[qbg,List.length_singleton,Nat.zero_add,Nat.le_refl,decide_true,qcy,qdn,List.drop_zero,List.take_succ_cons,List.take_zero,Bool.true_and,qd9,qx5,Qc4,Qdb]
   rw[show decide ((qci pre 0).length+1≤2147483648)=true from decide_eq_true (by omega),qbg]
   simp only[qf3,qba]
   rw[qg1 (by omega),e2]
   rw[show nds (qcz pre 0)++nds (flat a (qcz pre 0).length)=nds (qcz (pre++[a]) 0) by rw[←e1];simp[nds]]
   rw[show (qcz pre 0).length+(flat a (qcz pre 0).length).length=(qcz (pre++[a]) 0).length by rw[←e1];simp]
   rw[show (qci pre 0).length+1=(qci (pre++[a]) 0).length by rw[←e2];simp]
   simp
theorem rjoin_run {k:Int} {x:Tx} {ks:List Tr} (h:Tr.Ok (.mk k x ks)) (hs:Tr.size (.mk k x ks)≤400):qh2 B0 .cl false 28 [I k,.str x,.sl 1 (qd7 ks) false]=some (.tup [tl (flat (.mk k x ks) 0),I 0]):=by
 refine qgj (qf1 fun _=>.cl) (fn:=fn28) rfl (by simp[qb8,okV,Qdo]) (Nat.le_of_ble_eq_true rfl) ?_ rfl
 rw[List.map_cons,List.map_cons,List.map_cons,List.map_nil,run28]
 rw[show qbd (.build [.int .i64 0,.str [],.nilS] [(0,(1,.c (I k))),(1,(1,.c (.str x)))])=some (.agg [I k,.str x,.nilS]) from rfl,qba]
 rw[show qcu (.agg [I k,.str x,.nilS]) 3=true from rfl,qbg]
 simp only[qhx,qhw,qhv]
 rw[show ∀ X:Option (PV×Unit),nilO PV.nilS X=X from fun _=>rfl]
 rw[show qbo [.sl 1 (qd7 ks) false,nI 0,.int .i64 0]=true from rfl,qbg]
 exact rj_loop h.2 h.1 (by simpa[Tr.size] using hs) ks [] rfl h.2
end Go.Ab.Core


namespace Go.Ab.Core
open Go Go.Ab
mutual
def qkd:Tr→Tr
 | .mk k x ks=>if k=5 then qrw ks else .mk k x (qhr ks)
def qrw:List Tr→Tr
 | []=>.mk 0 [] []
 | a :: _=>qkd a
def qhr:List Tr→List Tr
 | []=>[]
 | a :: ks=>qkd a :: qhr ks
end
theorem qq3:∀ ks:List Tr,(qhr ks).length=ks.length
 | []=>rfl
 | a :: ks=>by simp[qhr,qq3 ks]
mutual
theorem Qh4:∀ a:Tr,a.Ok→(qkd a).Ok∧(qkd a).size≤a.size
 | .mk k x ks,h=>by
  simp only[qkd]
  split
  ·rename_i e
   subst e
   obtain⟨a,rfl⟩:=qje h.1
   obtain⟨h1,h2⟩:=Qh4 a h.2.1
   simp only[qrw,Tr.size,qcc]
   exact⟨h1,by omega⟩
  ·obtain⟨h1,h2⟩:=Qh6 ks h.2
   refine⟨⟨?_,h1⟩,by simp only[Tr.size];omega⟩
   rw[qq3]
   exact h.1
theorem Qh6:∀ ks:List Tr,OkL ks→OkL (qhr ks)∧qcc (qhr ks)≤qcc ks
 | [],_=>⟨trivial,Nat.le_refl _⟩
 | a :: ks,h=>by
  obtain⟨h1,h2⟩:=Qh4 a h.1
  obtain⟨h3,h4⟩:=Qh6 ks h.2
  simp only[qhr,qcc]
  exact⟨⟨h1,h3⟩,by omega⟩
end
mutual
theorem Qgq:∀ (a:Tr) (ms:List Int),a.Ok→ofT (qkd a) ms=ofT a ms
 | .mk k x ks,ms,h=>by
  simp only[qkd]
  by_cases e:k=5
  ·subst e
   obtain⟨a,rfl⟩:=qje h.1
   simp only[if_true,qrw,ofT,Qdr]
   exact Qgq a ms h.2.1
  ·rw[if_neg e]
   simp only[ofT,if_neg e]
   rw[Qgs ks ms h.2,Qgs ks ms.tail h.2]
theorem Qgs:∀ (ks:List Tr) (ms:List Int),OkL ks→ofL (qhr ks) ms=ofL ks ms
 | [],_,_=>rfl
 | a :: ks,ms,h=>by
  simp only[qhr,ofL]
  rw[Qgq a ms h.1,Qgs ks _ h.2]
end
def headNe:List Tr→Prop
 | []=>True
 | a :: _=>a.kind≠8
mutual
def Tr.NW:Tr→Prop
 | .mk k _ ks=>(k=5→headNe ks)∧NWL ks
def NWL:List Tr→Prop
 | []=>True
 | a :: ks=>a.NW∧NWL ks
end
theorem Qkz:∀ a:Tr,a.Ok→a.NW→(a.kind≠8→(qkd a).kind≠8)∧(a.kind=8→(qkd a).kind=8∧(qkd a).text=a.text)
 | .mk k x ks,h,hw=>by
  simp only[qkd]
  by_cases e:k=5
  ·subst e
   obtain⟨a,rfl⟩:=qje h.1
   have h1:=hw.1 rfl
   have h2:=Qkz a h.2.1 hw.2.1
   refine⟨fun _=>?_,fun h8=>by simp[Tr.kind] at h8⟩
   simp only[if_true,qrw]
   exact h2.1 h1
  ·rw[if_neg e]
   exact⟨fun h8=>h8,fun h8=>⟨h8,rfl⟩⟩
mutual
theorem qv9:∀ (a:Tr) (s:S),a.Ok→a.NW→qgh (qkd a) s=qgh a s
 | .mk k x ks,s,h,hw=>by
  simp only[qkd]
  by_cases e:k=5
  ·subst e
   obtain⟨a,rfl⟩:=qje h.1
   simp only[if_true,qrw,qgh,qtu]
   rw[qv9 a s h.2.1 hw.2.1]
   simp
  ·rw[if_neg e]
   simp only[qgh]
   rw[qq7 ks s h.2 hw.2]
   simp only[Qdv ks _ h.2 hw.2]
theorem Qdv:∀ (ks:List Tr) (s:S),OkL ks→NWL ks→qtu (qhr ks) s=qtu ks s
 | [],_,_,_=>rfl
 | a :: ks,s,h,hw=>by
  simp only[qhr,qtu]
  rw[qv9 a s h.1 hw.1,Qdv ks _ h.2 hw.2]
theorem qq7:∀ (ks:List Tr) (s:S),OkL ks→NWL ks→qxz (qhr ks) s=qxz ks s
 | [],_,_,_=>rfl
 | a :: ks,s,h,hw=>by
  simp only[qhr,qxz]
  obtain⟨k1,k2⟩:=Qkz a h.1 hw.1
  rw[qv9 a s h.1 hw.1]
  by_cases e:a.kind=8
  ·rw[if_pos e,if_pos (k2 e).1,(k2 e).2,qq7 ks _ h.2 hw.2]
  ·rw[if_neg e,if_neg (k1 e),qq7 ks _ h.2 hw.2]
end
theorem stmtT_bare (a:Tr) (s:S) (h:a.Ok) (hw:a.NW):qtd (qkd a) s=qtd a s:=by
 have:=qq7 [a] s ⟨h,trivial⟩ ⟨hw,trivial⟩
 exact this
noncomputable def Qt7:List PV×Unit→Option (Sum (List PV×Unit) (PV×Unit)):=Qrb B0
theorem okSls1_tl (u:List Nd):qdd 1 [tl u]=true:=rfl
theorem flats_snoc (ks:List Tr) (a:Tr):qd7 ks++[tl (flat a 0)]=qd7 (ks++[a]):=by simp[qd7]
theorem Qbp (ks:List Tr):(qd7 ks).length=ks.length:=by simp[qd7]
theorem Qfx (a:Tr):∀ ks:List Tr,qhr (ks++[a])=qhr ks++[qkd a]
 | []=>rfl
 | b :: ks=>by simp[qhr,Qfx a ks]
mutual
theorem Qh3 {t:List Nd} (hf:Fine t):∀ (a:Tr) (i:Nat),Qjc t a i→a.Ok→a.size≤400→qmk (qjh B0 fun _=>.cl) fn12 .cl qbe 0 ([tl t,I (i:Int)].map KV.cv) ()=some (tl (flat (qkd a) 0),())
 | .mk k x ks,i,ha,hok,hz=>by
  obtain⟨l,hl,hks⟩:=ha
  have hi:i < t.length:=(List.getElem?_eq_some_iff.1 hl).1
  have hn:t[i]=⟨k,x,l⟩:=(List.getElem?_eq_some_iff.1 hl).2
  have hlb:l.length≤big:=by have:=(hf.nd _ (List.getElem_mem hi)).kids;rw[hn] at this;exact this
  simp only[Tr.size] at hz
  rw[List.map_cons,List.map_cons,List.map_nil,run12,qks hi,qba,Qkn,qba,hn,qj1,qbg]
  simp only[qhx,qhw,qhv,qdi,Qmw,qba,qb1]
  by_cases e:k=5
  ·subst e
   obtain⟨a,rfl⟩:=qje hok.1
   obtain⟨kk,l',h1,h2,h3⟩:=hks
   subst h1
   simp only[qcc] at hz
   rw[if_pos (by simp),show qbd (.idxAddr 1 (.c (il ((kk:Int) :: l'))) (.c (I 0)))=some (.ptr [I (kk:Int)] 0) from rfl,qba,qmx,qba]
   rw[show qb6 B0 .cl (.fn 12 []) [tl t,I (kk:Int)]=some (tl (flat (qkd a) 0)) from call (d:=fun _=>.cl) rfl (by decide) (by simp[qb8]) rfl (Qh3 hf a kk h2 hok.2.1 (by omega)),qba]
   simp[qkd,qrw]
  ·rw[if_neg (by simpa using e)]
   rw[show qbo [tl t,nI 0,I 0]=true from rfl,qbg]
   have:=Qmo hf ks l [] ks k x hks hlb rfl hok.2 e hok.1 hok.2 (by omega) (by omega)
   simp only[qkd,if_neg e]
   exact this
theorem Qmo {t:List Nd} (hf:Fine t):∀ (rest:List Tr) (l:List Int) (pre ks:List Tr) (k:Int) (x:Tx),qvs t rest (l.drop pre.length)→l.length≤big→ks=pre++rest→OkL rest→k≠5→qfm ⟨k,x,List.replicate ks.length 0⟩=true→OkL ks→qcc ks+1≤400→qcc rest≤400 →
  qcf Qt7 ([tl t,I ((qhr pre).length:Nat),I (pre.length:Nat),I k,.str x,il l,.sl 1 (qd7 (qhr pre)) false],())=some (tl (flat (.mk k x (qhr ks)) 0),())
 | [],l,pre,ks,k,x,hks,hb,he,hor,h5,hfm,hok,hz,hzr=>by
  have he:ks=pre:=by simpa using he
  subst he
  have hks:l.drop ks.length=[]:=hks
  have hj:=List.drop_eq_nil_iff.1 hks
  have hbo:=Qh6 ks hok
  refine qc3 ?_
  unfold Qt7 Qrb
  simp only[qc8,qc4,qc2,qde,qfg,qgr,qh1,qb2,qgd,qby,qhi,qdk,qba]
  rw[show decide ((ks.length:Int) < (l.length:Nat))=false from decide_eq_false (by omega),qbv]
  rw[show slO 1 1 (qd7 (qhr ks)) 0 (qhr ks).length=.sl 1 (qd7 (qhr ks)) false by
   have:=qly 1 (qd7 (qhr ks))
   rwa [Qbp] at this]
  rw[rjoin_run (k:=k) (x:=x) (ks:=qhr ks) ⟨by rw[qq3];exact hfm,hbo.1⟩ (by simp only[Tr.size];omega),qba]
  rfl
 | a :: rest,l,pre,ks,k,x,hks,hb,he,hor,h5,hfm,hok,hz,hzr=>by
  obtain⟨kk,l',h1,h2,h3⟩:=hks
  have hbb:big=1000000:=rfl
  have hj:pre.length < l.length:=by
   rcases Nat.lt_or_ge pre.length l.length with hj | hj
   ·exact hj
   ·rw[List.drop_eq_nil_of_le hj] at h1;cases h1
  rw[List.drop_eq_getElem_cons hj] at h1
  injection h1 with h4 h5'
  simp only[qcc] at hzr
  have hc:qb6 B0 .cl (.fn 12 []) [tl t,I (kk:Int)]=some (tl (flat (qkd a) 0)):=call (d:=fun _=>.cl) rfl (by decide) (by simp[qb8]) rfl (Qh3 hf a kk h2 hor.1 (by omega))
  have hst:Qt7 ([tl t,I ((qhr pre).length:Nat),I (pre.length:Nat),I k,.str x,il l,.sl 1 (qd7 (qhr pre)) false],())=some (.inl ([tl t,I ((qhr (pre++[a])).length:Nat),I ((pre++[a]).length:Nat),I k,.str x,il l,.sl 1 (qd7 (qhr (pre++[a]))) false],())):=by
   unfold Qt7 Qrb
   simp only[qc8,qc4,qc2,qde,qfg,qgr,qh1,qb2,qgd,qby,qhi,qdk,qba]
   rw[show decide ((pre.length:Int) < (l.length:Nat))=true from decide_eq_true (by omega),qb5,qr8 hj,qba,qmx,qba,h4,hc,qba,okSls1_tl]
   simp only[qbg,qdq,List.length_singleton,Qbp,qdb,Nat.zero_add,qgy,Nat.le_refl,decide_true,qcy,qdn,List.drop_zero,List.take_succ_cons,List.take_zero,qfa,Bool.true_and,qd9]
   rw[show (qd7 (qhr pre)).take (qhr pre).length=qd7 (qhr pre) from List.take_of_length_le (by rw[Qbp];exact Nat.le_refl _),flats_snoc,←Qfx]
   rw[show decide ((qhr pre).length+1≤2147483648)=true from decide_eq_true (by rw[qq3];omega),qbg]
   simp only[qdi,qf3,qba]
   rw[qg1 (by omega)]
   simp[qq3]
  rw[qc9 hst]
  exact Qmo hf rest l (pre++[a]) ks k x (by rw[List.length_append,List.length_singleton,h5'];exact h3) hb (by rw[he];simp) hor.2 h5 hfm hok hz (by omega)
end
theorem bare_run {t:List Nd} (hf:Fine t) {a:Tr} {i:Nat} (ha:Qjc t a i) (hok:a.Ok) (hz:a.size≤400):qb6 B0 .cl (.fn 12 []) [tl t,I (i:Int)]=some (tl (flat (qkd a) 0)) :=
 call (d:=fun _=>.cl) rfl (by decide) (by simp[qb8]) rfl (Qh3 hf a i ha hok hz)
end Go.Ab.Core


namespace Go.Ab.Core
open Go Go.Ab
theorem fewL_fine (l:List St):qvt (Qcx l) where
 fine x hx:=by
  obtain⟨y,_,rfl⟩:=List.mem_map.1 hx
  exact fewT_fine y.t
 len:=by simp[Qcx];omega
theorem qvt.take {l:List St} (h:qvt l) (n:Nat):qvt (l.take n):=⟨fun x hx=>h.fine x (List.mem_of_mem_take hx),by have:=h.len;simp;omega⟩
end Go.Ab.Core


namespace Go.Ab.Core
open Go Go.Ab
theorem few_raw {v:PV} {xs:List PV} {l:List St} (hv:IsR 4 v xs) (hx:Qp4 RawS xs l) (hok:okV v=true):qmk (qjh B0 fun _=>.cl) fn9 (.opt 4) qbe 0 ([v].map KV.cv) ()=some (sl4 (Qcx l),()):=by
 rw[List.map_cons,List.map_nil,run9]
 rw[show qbo [v,nI 0,.int .i64 0]=true by simp only[qbo,List.all_cons,hv.und];rfl,qbg]
 have hlen:=hx.length
 have hN:min l.length 12≤xs.length:=by omega
 refine qrh (fun i=>([v,I (i:Int),I (i:Int),sl4 ((l.take i).map St.few)],())) (min l.length 12) rfl (fun i hi=>?_) ?_
 ·have hi1:i < xs.length:=by omega
  have hi2:i < l.length:=by omega
  obtain⟨u,w,hxi,hu,hw⟩:=hx.get hi1 hi2
  simp only[qc8,qc4,qc2,qde,hv.len,qba,qdk,qb1,qdi]
  rw[show decide ((i:Int) < (xs.length:Nat))=true by simpa using hi1,if_pos rfl,show decide ((i:Int) < 12)=true by simp;omega]
  simp only[qba,qb5,hv.idx (k:=4) (by decide) hi1,hxi,qpd,fa4_0,fa4_2,fa4_3,load4_0,Qnz,load4_3,Qsc hw]
  rw[show qbd (.build [I 0,.nilS,.nilS,I 0] [(0,(1,.c (I l[i].line))),(2,(1,.c (tl (fewT l[i].t)))),(3,(1,.c (I l[i].e)))])=some (sv l[i].few) from rfl,qba]
  rw[show qdd 4 [sv l[i].few]=true from rfl,qbg]
  have h1:(svs ((l.take i).map St.few)).length=i:=by simp;omega
  simp only[qdq,List.length_singleton,qcy,qdn,List.drop_zero,List.take_succ_cons,List.take_zero,qdb,qgy,qb2,qrp,h1,Nat.zero_add,Nat.le_refl,decide_true,qbg,qfa,Bool.true_and,qd9]
  rw[show decide (i+1≤2147483648)=true by simp;omega,qbg]
  simp only[qf3,qba,qgd]
  rw[qg1 (by omega)]
  have h2:(l.take (i+1)).map St.few=(l.take i).map St.few++[l[i].few]:=by
   rw[List.take_succ_eq_append_getElem hi2,List.map_append];rfl
  rw[h2]
  have h3:(svs ((l.take i).map St.few)).take i++[sv l[i].few]=svs ((l.take i).map St.few++[l[i].few]):=by
   rw[List.take_of_length_le (by omega)];simp[svs]
  rw[h3]
  rfl
 ·simp only[qc8,qc4,qc2,qde,hv.len,qba,qdk,qb1,qdi]
  have hc:¬ (((min l.length 12:Nat):Int) < (xs.length:Nat)∧((min l.length 12:Nat):Int) < 12):=by omega
  have e:l.take (min l.length 12)=l.take 12:=by
   rcases Nat.le_total l.length 12 with h | h
   ·rw[Nat.min_eq_left h,List.take_length,List.take_of_length_le h]
   ·rw[Nat.min_eq_right h]
  have hfin:eqN (qbi (I ((min l.length 12:Nat):Int))) (qbs (qbc (sl4 ((l.take (min l.length 12)).map St.few))))=true∧PV.sl 4 (qbc (sl4 ((l.take (min l.length 12)).map St.few))) false=sl4 (Qcx l):=by
   rw[e]
   exact⟨by simp[Nat.min_comm],rfl⟩
  by_cases g:((min l.length 12:Nat):Int) < (xs.length:Nat)
  ·have g2:¬ ((min l.length 12:Nat):Int) < 12:=fun h=>hc ⟨g,h⟩
   simp only[g,decide_true,if_true,g2,decide_false,qba,qbv,hfin.1,hfin.2,qbg]
  ·simp only[g,decide_false,Bool.false_eq_true,if_false,qba,qbv,hfin.1,hfin.2,qbg]
theorem few_lend {v:PV} {xs:List PV} {l:List St} (hv:IsR 4 v xs) (hx:Qp4 RawS xs l) (hok:okV v=true):qh2 B0 (.opt 4) false 9 [v]=some (sl4 (Qcx l)):=by
 have hc:=qf1 fun _=>.cl
 obtain⟨r,obs,h1,h2⟩:=Qge hc (show qc7 9=some fn9 from rfl) (hn:=fun _=>qbe) noH (Qsj (vs:=[v]) (by simp[qb8,hok])) Qsi (Nat.le_of_ble_eq_true rfl) (few_raw hv hx hok)
 rw[Ql9] at h2
 have hL:(qjh B0 fun _=>.cl).b.L Unit qbe 0 9 [v] ()=some (r,obs,()):=by rw[hc.L];exact Qdz h2
 have hL:B0.L Unit qbe 0 9 [v] ()=some (r,obs,()):=hL
 have ha:qb8 [v]=true:=by simp[qb8,hok]
 unfold qh2
 rw[(qb9 ha).2]
 have hl:(qjh B0 fun _=>.cl).b.leans 9=true:=by rw[hc.leans];rfl
 have hl:B0.leans 9=true:=hl
 simp only[Bool.false_eq_true,if_false,hL,hl,Bool.not_true,Bool.and_false,beq_self_eq_true,qbw]
 exact h1
def headK (t:List Nd):List Int→Int
 | k :: _=>(t.getD k.toNat ⟨0,[],[]⟩).kind
 | []=>0
def wrN (t:List Nd) (n:Nd):Bool:=n.kind==5&&headK t n.kids==8
def qyn (t:List Nd):Bool:=t.any (wrN t)
theorem qtn:∀ (ns:List Nd) (i:Nat) (us us':List Int),qdv i us ns=some us'→∀ j (hj:j < ns.length),qfm ns[j]=true∧qt1 ((i+j:Nat):Int) (-1) ns[j].kids=true
 | [],_,_,_,_,j,hj=>by simp at hj
 | n :: ns,i,us,us',h,j,hj=>by
  simp only[qdv] at h
  split at h
  ·rename_i hc
   simp only[Bool.and_eq_true] at hc
   cases j with
   | zero=>exact⟨hc.2,hc.1⟩
   | succ j =>
    have:=qtn ns (i+1) _ us' h j (by simpa using hj)
    rw[show i+1+j=i+(j+1) by omega] at this
    exact this
  ·cases h
theorem Qng {t:List Nd} (h:qdj t=true) {i:Nat} (hi:i < t.length):qfm t[i]=true∧∀ k∈t[i].kids,0≤k∧k < i:=by
 unfold qdj at h
 cases hg:qdv 0 (List.replicate t.length 0) t with
 | none=>rw[hg] at h;simp at h
 | some us =>
  have:=qtn t 0 _ us hg i hi
  rw[Nat.zero_add] at this
  exact⟨this.1,fun k hk=>Qg9 this.2 (by omega) k hk⟩
theorem paren_kid {n:Nd} (h:qfm n=true) (h5:n.kind=5):∃ k l,n.kids=k :: l:=by
 obtain⟨k,x,ks⟩:=n
 have h5:k=5:=h5
 subst h5
 unfold qfm at h
 simp only[Qbj,List.find?] at h
 cases ks with
 | nil=>simp at h
 | cons k l=>exact⟨k,l,rfl⟩
theorem wraps_run {t:List Nd} (hf:Fine t) (hr:qdj t=true):qb6 B0 .cl (.fn 11 []) [tl t]=some (.bool (qyn t)):=by
 have hb:big=1000000:=rfl
 have hl:=hf.len
 refine call (d:=fun _=>.cl) rfl (by decide) (by simp[qb8]) rfl ?_
 rw[List.map_cons,List.map_nil,run11,show qbo [tl t,.int .i64 0]=true from rfl,qbg]
 refine Eq.trans (qri (fun i (_:Unit)=>([tl t,I (i:Int)],())) t.length (fun _ _=>True) (fun i _=>(PV.bool ((t.drop i).any (wrN t)),())) (fun i _ hi _=>?_) (fun _ _=>?_) (a0:=()) trivial) (by simp only[List.drop_zero]<;>rfl)
 ·obtain⟨hfm,hks⟩:=Qng hr hi
  rw[List.drop_eq_getElem_cons hi,List.any_cons]
  unfold lp11_0
  simp only[qc8,qc4,qld,qba,qdk]
  rw[show decide ((i:Int) < (t.length:Nat))=true from decide_eq_true (by omega),qb5,qks hi]
  simp only[qba,fa3_0,qzz,Qpj,qss,qdi,I_neq,qb1]
  by_cases h5:t[i].kind=5
  ·obtain⟨k,l,hkl⟩:=paren_kid hfm h5
   obtain⟨k0,k1⟩:=hks k (by rw[hkl];exact List.mem_cons_self)
   obtain⟨m,rfl⟩:=Int.eq_ofNat_of_zero_le k0
   have hm:m < t.length:=by omega
   rw[if_neg (by simp[h5]),hkl,show qbd (.idxAddr 1 (.c (il ((m:Int) :: l))) (.c (I 0)))=some (.ptr [I (m:Int)] 0) from rfl,qba,qmx,qba,qks hm]
   simp only[qba,fa3_0,qzz,Qmw,qb1]
   have hh:wrN t t[i]=(t[m].kind==8):=by
    unfold wrN
    rw[h5,hkl]
    simp[headK,List.getD_eq_getElem?_getD,List.getElem?_eq_getElem hm]
   rw[hh]
   by_cases h8:t[m].kind=8
   ·right
    rw[if_pos (by simp[h8])]
    simp[h8]
   ·left
    rw[if_neg (by simp[h8])]
    refine⟨(),?_,trivial,by simp[h8]⟩
    simp only[qf3,qba]
    rw[qg1 (by omega)]
  ·left
   rw[if_pos (by simp[h5])]
   have hh:wrN t t[i]=false:=by unfold wrN;simp[h5]
   refine⟨(),?_,trivial,by simp[hh]⟩
   simp only[qf3,qba]
   rw[qg1 (by omega)]
 ·unfold lp11_0
  simp only[qc8,qc4,qld,qba,qdk]
  rw[show decide ((t.length:Int) < (t.length:Nat))=false by simp,qbv,List.drop_length]
  rfl
mutual
theorem isTr_nw {t:List Nd} (hw:qyn t=false):∀ (a:Tr) (i:Nat),Qjc t a i→a.NW
 | .mk k x ks,i,h=>by
  obtain⟨l,hl,hks⟩:=h
  refine⟨fun h5=>?_,Qrt hw ks l hks⟩
  subst h5
  match ks,hks with
  | [],_=>trivial
  | b :: ks,hks =>
   obtain⟨kk,l',rfl,hb,_⟩:=hks
   have hn:wrN t ⟨5,x,(kk:Int) :: l'⟩=false:=by
    have:=List.any_eq_false.1 hw _ (List.mem_of_getElem? hl)
    simpa using this
   match b,hb with
   | .mk k2 x2 ks2,hb =>
    obtain⟨l2,hl2,_⟩:=hb
    show k2≠8
    intro h8
    subst h8
    simp[wrN,headK,List.getD_eq_getElem?_getD,hl2] at hn
theorem Qrt {t:List Nd} (hw:qyn t=false):∀ (ks:List Tr) (l:List Int),qvs t ks l→NWL ks
 | [],_,_=>trivial
 | a :: ks,l,h=>by
  obtain⟨k,l',_,h2,h3⟩:=h
  exact⟨isTr_nw hw a k h2,Qrt hw ks l' h3⟩
end
noncomputable def qmq (s:St):St:=match qp1 s.t with
 | some a=>⟨s.line,flat (qkd a) 0,s.e⟩
 | none=>s
theorem Qch {s:St} (h:qdj s.t=false):qmq s=s:=by unfold qmq;rw[qlu h]
theorem bareS_res {x:St} (h:qdj x.t=true→qyn x.t=false) (s:S):qdh s (qmq x).t=qdh s x.t∧∀ ms,qgn (qmq x).t ms=qgn x.t ms:=by
 cases hr:qdj x.t with
 | false=>rw[Qch hr];exact⟨rfl,fun _=>rfl⟩
 | true =>
  obtain⟨a,h1,h2,h3,h4,h5,h6⟩:=qfy hr
  have hw:=isTr_nw (h hr) a _ h2
  obtain⟨b1,b2⟩:=Qh4 a h3
  have hb:qp1 (flat (qkd a) 0)=some (qkd a):=Qm4 b1 (by omega)
  have e:(qmq x).t=flat (qkd a) 0:=by unfold qmq;rw[h1]
  rw[e]
  unfold qdh qgn
  rw[hb,h1]
  exact⟨stmtT_bare a _ h3 hw,fun ms=>by dsimp only;rw[Qgq a ms h3]⟩
theorem Qmc:∀ (l:List St) (s:S),(∀ x∈l,qdj x.t=true→qyn x.t=false)→qhb (l.map qmq) s=qhb l s
 | [],_,_=>rfl
 | x :: l,s,h=>by
  obtain⟨h1,h2⟩:=bareS_res (h x List.mem_cons_self) s
  simp only[List.map_cons,qhb]
  rw[h1,h2,Qmc l _ fun y hy=>h y (List.mem_cons_of_mem _ hy)]
theorem bareS_fine {x:St} (h:Fine x.t):Fine (qmq x).t:=by
 cases hr:qdj x.t with
 | false=>rw[Qch hr];exact h
 | true =>
  obtain⟨a,h1,h2,h3,h4,h5,h6⟩:=qfy hr
  have e:(qmq x).t=flat (qkd a) 0:=by unfold qmq;rw[h1]
  rw[e]
  exact qn0 (by have:=(Qh4 a h3).2;omega)
theorem few_short (t:List Nd):qvr (fewT t):=fun n hn=>by
 obtain⟨m,_,rfl⟩:=List.mem_map.1 hn
 simp[Nd.few];omega
theorem few_few (l:List St):Qcx (Qcx l)=Qcx l:=by
 have h1:∀ t,fewT (fewT t)=fewT t:=fun t=>by
  unfold fewT
  rw[←List.map_take,List.take_take,Nat.min_self,List.map_map]
  congr 1
  funext n
  simp[Nd.few,List.take_take]
 unfold Qcx
 rw[←List.map_take,List.take_take,Nat.min_self,List.map_map]
 congr 1
 funext s
 simp[St.few,h1]
theorem raw_nd (n:Nd):RawN (nd n) n:=⟨il n.kids,rfl,.sl _,okV_il _⟩
theorem raw_tl (t:List Nd):RawT (tl t) t:=by
 refine⟨nds t,.sl _,?_,Qj9 t⟩
 induction t with
 | nil=>exact .nil
 | cons n t ih=>exact .cons (raw_nd n) ih
theorem raw_sl4:∀ l:List St,Qp4 RawS (svs l) l
 | []=>.nil
 | s :: l=>.cons ⟨.nilS,tl s.t,rfl,rfl,raw_tl s.t⟩ (raw_sl4 l)
theorem elem_svs {l:List St} {i:Nat} (h:i < l.length):qkz (svs l) i 2 1 false=some (tl l[i].t):=by
 simp[qkz,svs,h,sv]
 rfl
theorem set_svs {l:List St} {i:Nat} (h:i < l.length) (u:List Nd):setO 4 (svs l) i 2 1 (tl u)=some (svs (l.set i ⟨l[i].line,u,l[i].e⟩)):=by
 simp only[setO,svs,List.getElem?_map,List.getElem?_eq_getElem h,Option.map_some,sv]
 rw[show ((tl u).isVal&&decide ((tl u).cells.length=1)&&decide (2+1≤[I l[i].line,.nilS,tl l[i].t,I l[i].e].length))=true from rfl,qbg]
 rw[show splice [I l[i].line,.nilS,tl l[i].t,I l[i].e] 2 (tl u).cells=[I l[i].line,.nilS,tl u,I l[i].e] from rfl]
 rw[List.map_set]
 rfl
theorem core_some {l:List St} (hf:qvt l) (hx:∀ x∈l,qvr x.t):∃ s:Tx,csK (.sl 1 (qhb l S0) false)=some (.str s,()):=by
 refine csK_some (by rw[qpz];exact hf.len) fun c hc=>?_
 obtain⟨i,hi,rfl⟩:=List.getElem_of_mem hc
 rw[qpz] at hi
 have key:∀ (l:List St) (s:S) (i:Nat),(∀ x∈l,qvr x.t)→i < l.length→∃ (t:List Nd) (ms:List Int),qvr t∧(qhb l s)[i]?=some (qgn t ms):=by
  intro l
  induction l with
  | nil=>intro s i _ h;simp at h
  | cons x l ih =>
   intro s i hx h
   cases i with
   | zero=>exact⟨x.t,(qdh s x.t).means,hx x List.mem_cons_self,rfl⟩
   | succ i =>
    obtain⟨t,ms,h1,h2⟩:=ih (qdh s x.t) i (fun y hy=>hx y (List.mem_cons_of_mem _ hy)) (by simpa using h)
    exact⟨t,ms,h1,by simpa[qhb] using h2⟩
 obtain⟨t,ms,h1,h2⟩:=key l S0 i hx hi
 have e:(qhb l S0)[i]=qgn t ms:=by
  rw[List.getElem?_eq_getElem (by rw[qpz];exact hi)] at h2
  exact Option.some.inj h2
 rw[e]
 refine⟨?_,shows_core h1 ms⟩
 unfold qgn
 cases qp1 t<;>rfl
theorem Qdc {l:List St} (hf:qvt l) {s:Tx} (hs:csK (.sl 1 (qhb l S0) false)=some (.str s,())):qmk (qjh B0 fun _=>.cl) fn13 .cl qbe 0 ([sl4 l].map KV.cv) ()=some (.str s,()):=by
 rw[show_split,core_run hf,qba,hs]
noncomputable def mix (L:List St) (i:Nat):List St:=(L.take i).map qmq++L.drop i
theorem mix_len (L:List St) {i:Nat} (h:i≤L.length):(mix L i).length=L.length:=by simp[mix];omega
theorem mix_get {L:List St} {i:Nat} (h:i < L.length):(mix L i)[i]?=some L[i]:=by
 unfold mix
 rw[List.getElem?_append_right (by simp;omega)]
 simp[Nat.min_eq_left (Nat.le_of_lt h),h]
theorem Qq5 {L:List St} {i:Nat} (h:i < L.length):(mix L i).set i (qmq L[i])=mix L (i+1):=by
 unfold mix
 rw[List.set_append_right _ _ (by simp;omega),List.take_succ_eq_append_getElem h,List.map_append]
 have hq:i - ((L.take i).map qmq).length=0:=by simp;omega
 rw[hq,List.drop_eq_getElem_cons h,List.set_cons_zero]
 simp
noncomputable def Qh5:List PV×Unit→Option (Sum (List PV×Unit) (PV×Unit)):=lp3_0 B0
theorem bare_law {L:List St} (hf:qvt L) (hx:∀ x∈L,qvr x.t):qcf Qh5 ([sl4 L,.bool true,I (L.length:Nat),I ((0:Nat):Int),.sl 4 (svs L) false],())=some (.bool true,()):=by
 have hb:big=1000000:=rfl
 have hll:=hf.len
 refine Eq.trans (qri (fun i (_:Unit)=>([sl4 L,.bool true,I (L.length:Nat),I (i:Int),.sl 4 (svs (mix L i)) false],())) L.length (fun i _=>∀ x∈L.take i,qdj x.t=true→qyn x.t=false) (fun _ _=>(PV.bool true,())) (fun i _ hi hp=>?_) (fun _ hp=>?_) (a0:=()) (fun x hx=>by simp at hx)) rfl
 ·have hfi:=hf.fine _ (List.getElem_mem hi)
  have hml:=mix_len L (Nat.le_of_lt hi)
  have hmi:i < (mix L i).length:=by omega
  have hmg:(mix L i)[i]=L[i]:=by have:=mix_get hi;rw[List.getElem?_eq_getElem hmi] at this;exact Option.some.inj this
  have hel:qkz (svs (mix L i)) i 2 1 false=some (tl L[i].t):=by rw[elem_svs hmi,hmg]
  unfold Qh5 lp3_0
  simp only[qc8,qc4,qc2,qde,qfg,qb2,qgd,qby,qdk,qba,qtv,qqm,qdb,Nat.zero_add]
  rw[show decide ((i:Int) < (L.length:Nat))=true from decide_eq_true (by omega),qb5,show decide (i < L.length)=true from decide_eq_true hi,qbg,hel,qba,qy8 hfi,qba,qmv,qba,qb1]
  cases hr:qdj L[i].t with
  | false =>
   left
   refine⟨(),?_,fun x hx=>?_,trivial⟩
   ·rw[if_pos (show (!false)=true from rfl)]
    simp only[qdi,qf3,qba]
    rw[qg1 (by omega),←Qq5 hi,Qch hr]
    congr 4
    have:(mix L i).set i L[i]=mix L i:=by
     rw[←hmg];simp
    rw[this]
   ·rw[List.take_succ_eq_append_getElem hi] at hx
    rcases List.mem_append.1 hx with hx | hx
    ·exact hp x hx
    ·rw[List.mem_singleton.1 hx]
     intro h
     rw[hr] at h
     cases h
  | true =>
   obtain⟨a,h1,h2,h3,h4,h5,h6⟩:=qfy hr
   rw[if_neg (by simp)]
   simp only[qbg,hel,qba,wraps_run hfi hr,qb1]
   cases hw:qyn L[i].t with
   | true=>right;rfl
   | false =>
    left
    rw[if_neg (by simp)]
    simp only[qld,qba,qdi,Qjb]
    rw[Qf2 (by omega) (by omega),bare_run hfi h2 h3 (by omega),qba,set_svs hmi,qba]
    refine⟨(),?_,fun x hx=>?_,trivial⟩
    ·simp only[qf3,qba]
     rw[qg1 (by omega),hmg]
     have:(⟨L[i].line,flat (qkd a) 0,L[i].e⟩:St)=qmq L[i]:=by unfold qmq;rw[h1]
     rw[this,Qq5 hi]
    ·rw[List.take_succ_eq_append_getElem hi] at hx
     rcases List.mem_append.1 hx with hx | hx
     ·exact hp x hx
     ·rw[List.mem_singleton.1 hx]
      exact fun _=>hw
 ·rw[List.take_length] at hp
  obtain⟨s,hs⟩:=core_some hf hx
  have hM:mix L L.length=L.map qmq:=by simp[mix]
  have hfM:qvt (L.map qmq):=⟨fun x hx=>by
   obtain⟨y,hy,rfl⟩:=List.mem_map.1 hx
   exact bareS_fine (hf.fine y hy),by simpa using hll⟩
  have hs2:csK (.sl 1 (qhb (L.map qmq) S0) false)=some (.str s,()):=by rw[Qmc L S0 hp];exact hs
  unfold Qh5 lp3_0
  simp only[qc8,qc4,qc2,qde,qfg,qb2,qgd,qby,qdk,qba]
  rw[show decide ((L.length:Int) < (L.length:Nat))=false by simp,qbv,qb5,hM]
  rw[show qb6 B0 .cl (.fn 13 []) [sl4 L]=some (.str s) from call (d:=fun _=>.cl) rfl (by decide) (by simp[qb8]) rfl (Qdc hf hs),qba]
  rw[show slO 4 4 (svs (L.map qmq)) 0 L.length=sl4 (L.map qmq) by
   have:=qly 4 (svs (L.map qmq))
   rw[qyv,List.length_map] at this
   exact this]
  rw[show qh2 B0 .cl true 13 [sl4 (L.map qmq)]=some (.str s) from qgj (qf1 fun _=>.cl) (fn:=fn13) rfl (by simp[qb8]) (Nat.le_of_ble_eq_true rfl) (Qdc hfM hs2) rfl,qba]
  rw[show qbd (.bin .eql .str false (.c (.str s)) (.c (.str s)))=some (.bool (s==s)) from rfl,qba]
  simp
theorem Qp1 (hsh:qb6 B0 .cl (.fn 8 []) []=some (.bool true)) {v:PV} {xs:List PV} {l:List St} (hv:IsR 4 v xs) (hx:Qp4 RawS xs l) (hok:okV v=true) :
  qmk (qjh B0 fun _=>.cl) fn3 .cl qbe 0 ([v].map KV.cv) ()=some (.bool true,()):=by
 have hf:=fewL_fine l
 have hsx:∀ x∈Qcx l,qvr x.t:=fun x hx=>by
  obtain⟨y,_,rfl⟩:=List.mem_map.1 hx
  exact few_short y.t
 rw[List.map_cons,List.map_nil,run3,hsh,qba,few_run hv hx hok,qba]
 rw[show ∀ A B:Option (PV×Unit),nilB (sl4 (Qcx l)) A B=B from fun _ _=>rfl]
 simp only[qrp,qdq,qyv]
 have hsl:slO 4 4 (svs (Qcx l)) 0 (Qcx l).length=sl4 (Qcx l):=by
  have:=qly 4 (svs (Qcx l))
  rwa [qyv] at this
 rw[hsl,few_lend (v:=sl4 (Qcx l)) (.sl _) (raw_sl4 (Qcx l)) (okV_sl4 _),few_few,qba]
 rw[show ∀ A B:Option (PV×Unit),nilB (sl4 (Qcx l)) A B=B from fun _ _=>rfl]
 simp only[qrp,qdq,qyv]
 generalize Qcx l=L at *
 rw[show qbo [sl4 L,.bool true,nI L.length,.int .i64 0]=true from rfl,qbg]
 exact bare_law hf hsx
end Go.Ab.Core


namespace Go.Proofs.AbIsC
open Go.RowKit Go.Extern.Stop Go.Stop Go.Extern Go.Proofs
theorem Qrq (v:Value) (w:World):(Extern.ReflectliteType.typeOf #[.iface 407 v]).run Tryz.prog w=.ok (.iface 229 (.agg #[.pointer (some ⟨12,407,none⟩)])) w:=by kernel_rfl
theorem qxl (w:World):((Extern.ReflectliteType.method fun t=>do Extern.Rtype.noPackHeld "Comparable" t;(fun a=>Value.bool a.comparable) <$> typeInfo t) #[.agg #[.pointer (some ⟨12,407,none⟩)]]).run Tryz.prog w=.ok (.bool true) w:=by kernel_rfl
theorem qm0 (v:Value) (w:World):(Go.method 537 229 v "Comparable").run Tryz.prog w=.ok (325,v) w:=by kernel_rfl
theorem isComp:(Tryz.prog.info? 407).map (·.comparable)=some true:=by kernel_rfl
theorem isSize:(Tryz.prog.info? 425).map (·.size)=some 1:=by kernel_rfl
theorem noIs407 (v:Value) (xT:TypeId) (w:World):(Instr.typeAssert (.iface 407 v) xT 231 true).run Tryz.prog w=.ok (.tuple #[.nilIface,.bool false]) w:=run_typeAssert_lacksB Tryz.underlying231 (by kernel_rfl) (by kernel_rfl) v xT w
theorem noUn407 (v:Value) (xT:TypeId) (w:World):(Instr.typeAssert (.iface 407 v) xT 234 true).run Tryz.prog w=.ok (.tuple #[.nilIface,.bool false]) w:=run_typeAssert_lacksB Tryz.underlying234 (by kernel_rfl) (by kernel_rfl) v xT w
theorem noUs407 (v:Value) (xT:TypeId) (w:World):(Instr.typeAssert (.iface 407 v) xT 236 true).run Tryz.prog w=.ok (.tuple #[.nilIface,.bool false]) w:=run_typeAssert_lacksB Tryz.underlying236 (by kernel_rfl) (by kernel_rfl) v xT w
set_option maxHeartbeats 1000000 in
set_option maxRecDepth 100000 in
theorem is_same (a:Addr) (w:World) :
  Calls Tryz.prog 89 #[.iface 407 (.pointer (some a)),.iface 407 (.pointer (some a))] w fun e w'=>e=.returned (.bool true)∧w'=w:=by
 obtain⟨i,hi,hcmp⟩:=Option.map_eq_some_iff.1 isComp
 obtain⟨j,hj,hjs⟩:=Option.map_eq_some_iff.1 isSize
 have h8:=@run_callFunc_extern Tryz.prog 120 _ Extern.ReflectliteType.typeOf Tryz.func120 (by kernel_rfl) (by kernel_rfl) (by kernel_rfl) (by kernel_rfl)
 have h32:=@run_callFunc_extern Tryz.prog 325 _ (Extern.ReflectliteType.method fun t=>do Extern.Rtype.noPackHeld "Comparable" t;pure (.bool (←typeInfo t).comparable)) Tryz.func325 (by kernel_rfl) (by kernel_rfl) (by kernel_rfl) (by kernel_rfl)
 have tT:=Qrq
 have cT:=qxl
 have mR:=qm0
 have heq:=run_eql_iface_ptr_same (P:=Tryz.prog) w a Tryz.underlying67 Tryz.underlying407 hi hcmp hj
 go_enter Tryz.func89,Tryz.ntmps89
 go_wp2
 refine wp_loop_rounds 1 ?_
 rw[rounds_succ]
 go_wp2
 go_ret
 exact⟨rfl,rfl⟩
set_option maxHeartbeats 1000000 in
set_option maxRecDepth 100000 in
theorem is_nil (b:Addr) (w:World) :
  Calls Tryz.prog 89 #[.nilIface,.iface 407 (.pointer (some b))] w fun e w'=>e=.returned (.bool false)∧w'=w:=by
 have hn:=run_eql_iface_nil_left (P:=Tryz.prog) w 407 (.pointer (some b)) Tryz.underlying67
 go_enter Tryz.func89,Tryz.ntmps89
 go_wp2
 go_ret
 exact⟨rfl,rfl⟩
set_option maxHeartbeats 1000000 in
set_option maxRecDepth 100000 in
theorem is_other (a b:Addr) (ca cb:Array Value) (ta tb:TypeId) (w:World) (hne:a≠b) (ha:w.heap[a.block]?=some (.cells ca ta (0,0))) (hb:w.heap[b.block]?=some (.cells cb tb (0,0))) :
  Calls Tryz.prog 89 #[.iface 407 (.pointer (some a)),.iface 407 (.pointer (some b))] w fun e w'=>e=.returned (.bool false)∧w'=w:=by
 obtain⟨i,hi,hcmp⟩:=Option.map_eq_some_iff.1 isComp
 obtain⟨j,hj,hjs⟩:=Option.map_eq_some_iff.1 isSize
 have h8:=@run_callFunc_extern Tryz.prog 120 _ Extern.ReflectliteType.typeOf Tryz.func120 (by kernel_rfl) (by kernel_rfl) (by kernel_rfl) (by kernel_rfl)
 have h32:=@run_callFunc_extern Tryz.prog 325 _ (Extern.ReflectliteType.method fun t=>do Extern.Rtype.noPackHeld "Comparable" t;pure (.bool (←typeInfo t).comparable)) Tryz.func325 (by kernel_rfl) (by kernel_rfl) (by kernel_rfl) (by kernel_rfl)
 have tT:=Qrq
 have cT:=qxl
 have mR:=qm0
 have nE:=noIs407
 have uE:=noUn407
 have vE:=noUs407
 have heq:=run_eql_iface_ptr_other (P:=Tryz.prog) w Tryz.underlying67 Tryz.underlying407 hi hcmp hj (by rw[hjs];decide) hne ha hb
 go_enter Tryz.func89,Tryz.ntmps89
 go_wp2
 refine wp_loop_rounds 1 ?_
 rw[rounds_succ]
 go_wp2
 go_ret
 exact⟨rfl,rfl⟩
end Go.Proofs.AbIsC


namespace Go.Proofs.AbCS
open Go.RowKit Go.Proofs
theorem lies_b:liesAt Tryz.prog Tryz.prog.depth 64 (2 / Tryz.prog.cellsOf 64) 0 64 1=true:=by kernel_rfl
theorem info_b':(Tryz.prog.info? 64).map (·.size)=some 2:=by kernel_rfl
theorem info_b:∃ j,Tryz.prog.info? 64=some j∧j.size=2:=Option.map_eq_some_iff.1 info_b'
theorem cells5:Tryz.prog.cellsOf 5=1:=by kernel_rfl
set_option maxHeartbeats 1000000 in
set_option maxRecDepth 100000 in
theorem check_used (b:Nat) (w:World) (h0:w.cell? ⟨b,0,none⟩=some (.pointer (some ⟨b,0,none⟩))) :
  Calls Tryz.prog 53 #[.pointer (some ⟨b,0,none⟩)] w fun e w'=>e=.returned (.tuple #[])∧w'=w:=by
 obtain⟨j,hj,_⟩:=info_b
 go_enter Tryz.func53,Tryz.ntmps53
 go_wp2
 rw[Lib.run_neq_ptr_same w _ Tryz.underlying61 hj]
 go_wp2
 go_end0
 exact⟨rfl,rfl⟩
set_option maxHeartbeats 1000000 in
set_option maxRecDepth 100000 in
theorem check_fresh (b:Nat) (w:World) (h0:w.cell? ⟨b,0,none⟩=some (.pointer none)) (hsh:w.shape? b=some (64,2)) (hfz:w.frozen? ⟨b,0,none⟩=false) :
  Calls Tryz.prog 53 #[.pointer (some ⟨b,0,none⟩)] w fun e w'=>e=.returned (.tuple #[])∧w'=w.setCell ⟨b,0,none⟩ (.pointer (some ⟨b,0,none⟩)):=by
 obtain⟨j,hj,hjs⟩:=info_b
 go_enter Tryz.func53,Tryz.ntmps53
 go_wp2
 rw[Lib.run_to_unsafe w ⟨b,0,none⟩ Tryz.underlying61 Tryz.underlying151 hj (by rw[hjs];decide) hsh (Nat.zero_lt_succ 1)]
 simp only[Result.andThen]
 rw[Oper.upon_value]
 go_wp2
 rw[run_callFunc_extern Tryz.func81 (by kernel_rfl) (by kernel_rfl) (by kernel_rfl) (e:=Extern.AbiNoEscape.same) (by kernel_rfl)]
 rw[Lib.run_noEscape]
 simp only[Result.andThen]
 rw[Oper.upon_value]
 go_wp2
 rw[Lib.run_from_unsafe w ⟨b,0,none⟩ Tryz.underlying151 Tryz.underlying61 hj hsh lies_b]
 simp only[Result.andThen]
 rw[Oper.upon_value]
 go_wp2
 go_end0
 exact⟨rfl,rfl⟩
set_option maxHeartbeats 1000000 in
set_option maxRecDepth 100000 in
theorem string_some (b g cap:Nat) (p:Value) (cur:Array Value) (l:List UInt8) (w:World) (hbk:w.heap[b]?=some (.cells #[p,.slice (some ⟨g,0,none⟩) l.length cap] 64 (0,0)))
  (hg:w.heap[g]?=some (.cells cur 5 (0,0))) (h0:l≠[]) (hcap:l.length≤cap) (hcs:l.length≤cur.size) (h63:l.length≤9223372036854775807) (hl:∀ (j:Nat) (x:UInt8),l[j]?=some x→cur[j]?=some (Value.int .u8 (x.toNat:Int))) :
  Calls Tryz.prog 31 #[.pointer (some ⟨b,0,none⟩)] w fun e w'=>e=.returned (.string ⟨l.toArray⟩)∧w'=w.drew.freeze ⟨g,0,none⟩ l.length:=by
 have hl0:l.length≠0:=by simpa using h0
 have c1:w.drew.cell? ⟨b,1,none⟩=some (.slice (some ⟨g,0,none⟩) l.length cap):=by
  have:w.drew.heap[b]?=some (.cells #[p,.slice (some ⟨g,0,none⟩) l.length cap] 64 (0,0)):=hbk
  rw[Lib.cell_of_heap this];rfl
 have hSD:(Builtin.unsafeSliceData_ #[62] 117 #[.slice (some ⟨g,0,none⟩) l.length cap]).run Tryz.prog w.drew=.ok (.pointer (some ⟨g,0,none⟩)) w.drew :=
  Lib.run_unsafeSliceData_row _ _ _ _ _ _ (by omega)
 have hUS:(Builtin.unsafeString_ #[117,3] 9 #[.pointer (some ⟨g,0,none⟩),.int .i64 l.length]).run Tryz.prog w.drew=.ok (.string ⟨l.toArray⟩) (w.drew.freeze ⟨g,0,none⟩ l.length):=by
  refine Lib.run_unsafeString_row w.drew 117 3 9 5 Tryz.underlying117 cells5 g cur.size (by have hg':w.drew.heap[g]?=some (.cells cur 5 (0,0)):=hg;simp[World.shape?,hg']) l h0 hcs h63 ?_
  intro j x hx
  have hg':w.drew.heap[g]?=some (.cells cur 5 (0,0)):=hg
  have e:((⟨g,0,none⟩:Addr).add j)=⟨g,j,none⟩:=by cases j<;>simp[Addr.add]
  rw[e,Lib.cell_of_heap hg']
  exact hl j x hx
 have mixed:Tryz.prog.follows .mixedOrders=true:=by kernel_rfl
 go_enter Tryz.func31,Tryz.ntmps31
 go_wp2
 go_region_o
 all_goals (go_wp2;go_ret;exact⟨rfl,rfl⟩)
set_option maxHeartbeats 1000000 in
set_option maxRecDepth 100000 in
theorem string_nil (b:Nat) (p:Value) (w:World) (hbk:w.heap[b]?=some (.cells #[p,.slice none 0 0] 64 (0,0))) :
  Calls Tryz.prog 31 #[.pointer (some ⟨b,0,none⟩)] w fun e w'=>e=.returned (.string ⟨#[]⟩)∧w'=w.drew:=by
 have hUS:∀ W q,(Builtin.unsafeString_ #[117,3] 9 #[.pointer q,.int .i64 0]).run Tryz.prog W=.ok (.string .empty) W:=fun W q=>Lib.run_unsafeString_none W _ _ _ q
 have c1:w.drew.cell? ⟨b,1,none⟩=some (.slice none 0 0):=by
  have:w.drew.heap[b]?=some (.cells #[p,.slice none 0 0] 64 (0,0)):=hbk
  rw[Lib.cell_of_heap this];rfl
 have hSD:(Builtin.unsafeSliceData_ #[62] 117 #[.slice none 0 0]).run Tryz.prog w.drew=.ok (.pointer none) w.drew:=rfl
 have mixed:Tryz.prog.follows .mixedOrders=true:=by kernel_rfl
 go_enter Tryz.func31,Tryz.ntmps31
 go_wp2
 go_region_o
 all_goals (go_wp2;go_ret;exact⟨rfl,rfl⟩)
end Go.Proofs.AbCS


namespace Go.Proofs
open Go.Shelf Go.RowKit Go.Sort Go.Lib
def Tryz.lays171_ren:Go.Shelf.Ren:=⟨fun | 171=>79 | 243=>114 | 246=>150 | 283=>180 | 284=>181 | 285=>182 | 286=>183 | 129=>216 | 317=>215 | 318=>217 | 319=>218 | 320=>219 | 337=>248 | 338=>249 | n=>n,fun | 3=>3 | 9=>9 | 2=>2 | 4=>4 | 171=>262 | 0=>0 | 53=>263 | 37=>62 | 5=>5 | 173=>266 | 212=>294 | 51=>295 | 20=>20 | 213=>296 | 46=>191 | 232=>377 | 233=>378 | n=>n,fun | 17=>6 | 18=>10 | 19=>11 | n=>n⟩
theorem Tryz.lays171:Go.Proofs.LaysM.n171 Tryz.prog Tryz.lays171_ren:={
 mixed:=by kernel_rfl
 f129:=Tryz.func216.trans (congrArg some (by kernel_rfl))
 f171:=Tryz.func79.trans (congrArg some (by kernel_rfl))
 f243:=Tryz.func114.trans (congrArg some (by kernel_rfl))
 f246:=Tryz.func150.trans (congrArg some (by kernel_rfl))
 f283:=Tryz.func180.trans (congrArg some (by kernel_rfl))
 f284:=Tryz.func181.trans (congrArg some (by kernel_rfl))
 f285:=Tryz.func182.trans (congrArg some (by kernel_rfl))
 f286:=Tryz.func183.trans (congrArg some (by kernel_rfl))
 f317:=Tryz.func215.trans (congrArg some (by kernel_rfl))
 f318:=Tryz.func217.trans (congrArg some (by kernel_rfl))
 f319:=Tryz.func218.trans (congrArg some (by kernel_rfl))
 f320:=Tryz.func219.trans (congrArg some (by kernel_rfl))
 f337:=Tryz.func248.trans (congrArg some (by kernel_rfl))
 f338:=Tryz.func249.trans (congrArg some (by kernel_rfl))
 t0:=Tryz.underlying0
 a0:=Tryz.isAgg0
 z0:=Tryz.sizeOf0
 v0:=Tryz.zeroValue0
 t2:=Tryz.underlying2
 a2:=Tryz.isAgg2
 z2:=Tryz.sizeOf2
 v2:=Tryz.zeroValue2
 t3:=Tryz.underlying3
 a3:=Tryz.isAgg3
 z3:=Tryz.sizeOf3
 v3:=Tryz.zeroValue3
 t4:=Tryz.underlying4
 a4:=Tryz.isAgg4
 z4:=Tryz.sizeOf4
 v4:=Tryz.zeroValue4
 t5:=Tryz.underlying5
 a5:=Tryz.isAgg5
 z5:=Tryz.sizeOf5
 v5:=Tryz.zeroValue5
 t9:=Tryz.underlying9
 a9:=Tryz.isAgg9
 z9:=Tryz.sizeOf9
 v9:=Tryz.zeroValue9
 t20:=Tryz.underlying20
 a20:=Tryz.isAgg20
 z20:=Tryz.sizeOf20
 v20:=Tryz.zeroValue20
 t37:=Tryz.underlying62
 a37:=Tryz.isAgg62
 z37:=Tryz.sizeOf62
 v37:=Tryz.zeroValue62
 t46:=Tryz.underlying191
 a46:=Tryz.isAgg191
 z46:=Tryz.sizeOf191
 v46:=Tryz.zeroValue191
 t51:=Tryz.underlying295
 a51:=Tryz.isAgg295
 z51:=Tryz.sizeOf295
 v51:=Tryz.zeroValue295
 t53:=Tryz.underlying263
 a53:=Tryz.isAgg263
 z53:=Tryz.sizeOf263
 v53:=Tryz.zeroValue263
 t171:=Tryz.underlying262
 a171:=Tryz.isAgg262
 z171:=Tryz.sizeOf262
 v171:=Tryz.zeroValue262
 t173:=Tryz.underlying266
 a173:=Tryz.isAgg266
 z173:=Tryz.sizeOf266
 v173:=Tryz.zeroValue266
 t212:=Tryz.underlying294
 a212:=Tryz.isAgg294
 z212:=Tryz.sizeOf294
 v212:=Tryz.zeroValue294
 t213:=Tryz.underlying296
 a213:=Tryz.isAgg296
 z213:=Tryz.sizeOf296
 t232:=Tryz.underlying377
 a232:=Tryz.isAgg377
 z232:=Tryz.sizeOf377
 v232:=Tryz.zeroValue377
 t233:=Tryz.underlying378
 a233:=Tryz.isAgg378
 z233:=Tryz.sizeOf378
 v233:=Tryz.zeroValue378
 g17:=by kernel_rfl
 g18:=by kernel_rfl
 g19:=by kernel_rfl
 i0:=by kernel_rfl
 i2:=by kernel_rfl
 i3:=by kernel_rfl
 i4:=by kernel_rfl
 i5:=by kernel_rfl
 i9:=by kernel_rfl
 i20:=by kernel_rfl
 i37:=by kernel_rfl
 i46:=by kernel_rfl
 i51:=by kernel_rfl
 i53:=by kernel_rfl
 i171:=by kernel_rfl
 i173:=by kernel_rfl
 i212:=by kernel_rfl
 i232:=by kernel_rfl
 i233:=by kernel_rfl
 m17:=by kernel_rfl
 m18:=by kernel_rfl
 m19:=by kernel_rfl}
namespace AbShC
theorem itoa_run (n:Int) (h0 : -9223372036854775808≤n) (h1:n≤9223372036854775807) (w:World) (ht:Lib.TabIs Tryz.prog w "internal/strconv.uint64pow10" .u64 Lib.pow10Tab) :
  Calls Tryz.prog 79 #[.int .i64 n] w fun e w'=>e=.returned (.string ⟨(Lib.itoa n).toArray⟩)∧∃ k os,w'=grow (w.drewN k) os :=
 Any.strconv_Itoa Tryz.lays171 n h0 h1 w ht
set_option maxHeartbeats 1000000 in
set_option maxRecDepth 100000 in
theorem index_run (s:ByteArray) (c:Int) (w:World) :
  Calls Tryz.prog 151 #[.string s,.int .u8 c] w fun e w'=>e=.returned (.int .i64 (Lib.indexByte s.data.toList c.toNat.toUInt8))∧w'=w:=by
 go_enter Tryz.func151,Tryz.ntmps151
 go_wp2
 rw[run_callFunc_extern Tryz.func184 (by kernel_rfl) (by kernel_rfl) (by kernel_rfl) (e:=Extern.BytealgIndexByte.indexByte) (by kernel_rfl),Lib.run_indexByteString]
 simp only[Result.andThen]
 rw[Oper.upon_value]
 go_wp2
 go_ret
 exact⟨rfl,rfl⟩
end AbShC
end Go.Proofs


namespace Go.Ab.Core
open Go Go.Ab Go.Proofs
def tabs0:List (Nat×Array Value):=[(6,(Lib.pow10Tab.map fun z=>Value.int .u64 z).toArray)]
noncomputable def cx0:Cx:=cxOf Tryz.prog (by kernel_rfl) [1] 407 [] tabs0 []
theorem enters89:qhj Tryz.prog 89:=⟨_,Tryz.func89,by rfl,by rfl⟩
theorem enters151:qhj Tryz.prog 151:=⟨_,Tryz.func151,by rfl,by rfl⟩
theorem enters79:qhj Tryz.prog 79:=⟨_,Tryz.func79,by rfl,by rfl⟩
theorem enters53:qhj Tryz.prog 53:=⟨_,Tryz.func53,by rfl,by rfl⟩
theorem enters31:qhj Tryz.prog 31:=⟨_,Tryz.func31,by rfl,by rfl⟩
theorem is_ok:IsOK Tryz.prog 89 407 [] where
 enters:=enters89
 none a w:=Go.Proofs.AbIsC.is_nil a w
 same a w:=Go.Proofs.AbIsC.is_same a w
 other a b ca cb ta tb w h h1 h2:=Go.Proofs.AbIsC.is_other a b ca cb ta tb w h h1 h2
 type s hs v b w:=by
  simp only[List.mem_cons,List.not_mem_nil,or_false] at hs
theorem bld_ok:BldOK Tryz.prog 53 31 64 5 where
 entersC:=enters53
 entersS:=enters31
 nzT:=by decide
 nzU:=by decide
 used:=Go.Proofs.AbCS.check_used
 fresh b w h0 h1 h2:=Go.Proofs.AbCS.check_fresh b w h0 h1 h2
 strNil b p w h:=Go.Proofs.AbCS.string_nil b p w h
 strSome b g cap p cur l w h1 h2 h3 h4 h5 h6 h7:=Go.Proofs.AbCS.string_some b g cap p cur l w h1 h2 h3 h4 h5 h6 h7
theorem sp_ok:SpOK cx0 sp0:=by
 intro g st vs out h
 unfold sp0 at h
 split at h
 ·rename_i hg
  subst hg
  exact .inr (is_at is_ok h)
 split at h
 ·rename_i hg
  subst hg
  exact .inr (idx_at enters151 Go.Proofs.AbShC.index_run h)
 split at h
 ·rename_i hg
  subst hg
  exact .inr (itoa_at enters79 (gt:=6) (List.mem_singleton.2 rfl) (by kernel_rfl) (fun n h0 h1 w ht=>Go.Proofs.AbShC.itoa_run n h0 h1 w ht) h)
 split at h
 ·rename_i hg
  subst hg
  exact .inr (check_at bld_ok h)
 split at h
 ·rename_i hg
  subst hg
  exact .inr (str_at bld_ok h)
 cases h
end Go.Ab.Core


namespace Go.Ab.Core
open Go Go.Ab Go.Proofs
theorem sp_loc:Qja sp0:=fun g=>sp_here g
theorem tab_ok:Qp2 cx0 qc7 (deadH Qlh Tryz.prog):=by
 intro f fn h
 unfold qc7 at h
 split at h
 ·cases h;exact qbj (by kernel_rfl)
 ·cases h;exact qbj (by kernel_rfl)
 ·cases h;exact qbj (by kernel_rfl)
 ·cases h;exact qbj (by kernel_rfl)
 ·cases h;exact qbj (by kernel_rfl)
 ·cases h;exact qbj (by kernel_rfl)
 ·cases h;exact qbj (by kernel_rfl)
 ·cases h;exact qbj (by kernel_rfl)
 ·cases h;exact qbj (by kernel_rfl)
 ·cases h;exact qbj (by kernel_rfl)
 ·cases h;exact qbj (by kernel_rfl)
 ·cases h;exact qbj (by kernel_rfl)
 ·cases h;exact qbj (by kernel_rfl)
 ·cases h;exact qbj (by kernel_rfl)
 ·cases h;exact qbj (by kernel_rfl)
 ·cases h;exact qbj (by kernel_rfl)
 ·cases h;exact qbj (by kernel_rfl)
 ·cases h;exact qbj (by kernel_rfl)
 ·cases h;exact qbj (by kernel_rfl)
 ·cases h;exact qbj (by kernel_rfl)
 ·cases h;exact qbj (by kernel_rfl)
 ·cases h;exact qbj (by kernel_rfl)
 ·cases h;exact qbj (by kernel_rfl)
 ·cases h;exact qbj (by kernel_rfl)
 ·cases h;exact qbj (by kernel_rfl)
 ·cases h;exact qbj (by kernel_rfl)
 ·cases h;exact qbj (by kernel_rfl)
 ·cases h;exact qbj (by kernel_rfl)
 ·cases h;exact qbj (by kernel_rfl)
 ·cases h;exact qbj (by kernel_rfl)
 ·cases h;exact qbj (by kernel_rfl)
 ·cases h;exact qbj (by kernel_rfl)
 ·cases h;exact qbj (by kernel_rfl)
 ·cases h;exact qbj (by kernel_rfl)
 ·cases h;exact qbj (by kernel_rfl)
 ·cases h;exact qbj (by kernel_rfl)
 ·cases h;exact qbj (by kernel_rfl)
 ·cases h;exact qbj (by kernel_rfl)
 ·cases h;exact qbj (by kernel_rfl)
 ·cases h;exact qbj (by kernel_rfl)
 ·cases h;exact qbj (by kernel_rfl)
 ·cases h;exact qbj (by kernel_rfl)
 ·cases h;exact qbj (by kernel_rfl)
 ·cases h;exact qbj (by kernel_rfl)
 ·cases h;exact qbj (by kernel_rfl)
 ·cases h;exact qbj (by kernel_rfl)
 ·cases h;exact qbj (by kernel_rfl)
 ·cases h;exact qbj (by kernel_rfl)
 ·cases h;exact qbj (by kernel_rfl)
 ·cases h;exact qbj (by kernel_rfl)
 ·cases h;exact qbj (by kernel_rfl)
 ·cases h;exact qbj (by kernel_rfl)
 ·cases h;exact qbj (by kernel_rfl)
 ·cases h;exact qbj (by kernel_rfl)
 ·cases h;exact qbj (by kernel_rfl)
 ·cases h;exact qbj (by kernel_rfl)
 ·cases h;exact qbj (by kernel_rfl)
 ·cases h;exact qbj (by kernel_rfl)
 ·cases h;exact qbj (by kernel_rfl)
 ·cases h;exact qbj (by kernel_rfl)
 ·cases h;exact qbj (by kernel_rfl)
 ·cases h;exact qbj (by kernel_rfl)
 ·cases h;exact qbj (by kernel_rfl)
 ·cases h;exact qbj (by kernel_rfl)
 ·cases h;exact qbj (by kernel_rfl)
 ·cases h;exact qbj (by kernel_rfl)
 ·cases h;exact qbj (by kernel_rfl)
 ·cases h;exact qbj (by kernel_rfl)
 ·cases h;exact qbj (by kernel_rfl)
 ·cases h;exact qbj (by kernel_rfl)
 ·cases h;exact qbj (by kernel_rfl)
 ·cases h;exact qbj (by kernel_rfl)
 ·cases h;exact qbj (by kernel_rfl)
 ·cases h;exact qbj (by kernel_rfl)
 ·cases h;exact qbj (by kernel_rfl)
 ·cases h;exact qbj (by kernel_rfl)
 ·cases h;exact qbj (by kernel_rfl)
 ·cases h;exact qbj (by kernel_rfl)
 ·cases h;exact qbj (by kernel_rfl)
 ·cases h;exact qbj (by kernel_rfl)
 ·cases h;exact qbj (by kernel_rfl)
 ·cases h;exact qbj (by kernel_rfl)
 ·cases h;exact qbj (by kernel_rfl)
 ·cases h;exact qbj (by kernel_rfl)
 ·cases h;exact qbj (by kernel_rfl)
 ·cases h;exact qbj (by kernel_rfl)
 ·cases h;exact qbj (by kernel_rfl)
 ·cases h;exact qbj (by kernel_rfl)
 ·cases h;exact qbj (by kernel_rfl)
 ·cases h;exact qbj (by kernel_rfl)
 ·cases h;exact qbj (by kernel_rfl)
 ·cases h;exact qbj (by kernel_rfl)
 ·cases h;exact qbj (by kernel_rfl)
 ·cases h;exact qbj (by kernel_rfl)
 ·cases h;exact qbj (by kernel_rfl)
 ·cases h;exact qbj (by kernel_rfl)
 ·cases h;exact qbj (by kernel_rfl)
 ·cases h;exact qbj (by kernel_rfl)
 ·cases h;exact qbj (by kernel_rfl)
 ·cases h;exact qbj (by kernel_rfl)
 ·cases h;exact qbj (by kernel_rfl)
 ·cases h
theorem law_done {g:FuncId} {fn:RFn} (ht:qc7 g=some fn) {args:List PV} (ha:qb8 args=true) (hl:args.length≤fn.nt)
  (hr:qmk (qjh B0 fun _=>.cl) fn .cl qbe 0 (args.map KV.cv) ()=some (.bool true,())) {I:Nat→Prop} {w:World} {vs:List Value}
  (hI:∀ b,I b→b < w.heap.size) (hw:cx0.Wd I w) (hrep:qb0 w I (fun _=>none) none args vs) :
  Calls cx0.P g vs.toArray w fun e w'=>e=.returned (.bool true)∧Qmv w w':=by
 obtain⟨n,hn⟩:=law_of_run (qf1 fun _=>.cl) ht ha hl hr
 exact law_calls (fn_ok sp_ok sp_loc tab_ok n) hn hI hw hrep
def Told (fn:RFn) (Ds:List DTy):Prop:=∀ us,HasVs Ds us→qb8 us=true∧us.length≤fn.nt∧qmk (qjh B0 fun _=>.cl) fn .cl qbe 0 (us.map KV.cv) ()=some (.bool true,())
end Go.Ab.Core


namespace Go.Ab
def Qgx (memo:FuncId→List PV→Option PV) (c:qvu):qvu:=fun E h dep g args e =>
 match dep,memo g args with
 | 0,some r=>some (r,[],e)
 | _,_=>c E h dep g args e
def Qb4 (memo:FuncId→List PV→Option PV) (sp:FuncId→(Nm→Option Ob)→List PV→Option Out) (tab:FuncId→Option RFn):Nat→qf2
 | 0=>qmp sp tab 0
 | n+1=>{qmp sp tab 0 with call:=Qgx memo (qq1 (Qb4 memo sp tab n) n tab),io:=Qmz (Qb4 memo sp tab n) n tab}
def evalFm (memo:FuncId→List PV→Option PV) (sp:FuncId→(Nm→Option Ob)→List PV→Option Out) (tab:FuncId→Option RFn) (n:Nat):qvu:=(Qb4 memo sp tab n).call
section memo
variable {memo:FuncId→List PV→Option PV} {sp:FuncId→(Nm→Option Ob)→List PV→Option Out} {tab:FuncId→Option RFn}
 (hm:∀ g args r,memo g args=some r→∃ n,qbm sp tab n Unit qbe 0 g args ()=some (r,[],()))
include hm
theorem evalMm_le:∀ n,MLe (Qb4 memo sp tab n) (qmp sp tab):=by
 intro n
 induction n with
 | zero=>exact Qsf 0
 | succ n ih =>
  have hk:=Qfv ih n tab
  refine MLe.of_tail ⟨fun k=>rfl,?_,fun k=>rfl,fun k=>rfl,fun k=>rfl,fun g dst σ vs out h=>Qru ih n tab g dst σ vs out h⟩ rfl rfl rfl rfl
  intro E1 E2 RE h1 h2 hh dep g args e1 e2 he r obs e1' h
  simp only[Qb4,Qgx] at h
  split at h
  ·rename_i r' hr
   cases h
   obtain⟨m,hm'⟩:=hm g args r hr
   obtain⟨_,rfl,a,ha⟩:=qww m Unit E2 (fun _ e=>e2=e) qbe (fun k=>h2 (k - 1)) (fun _ _ _ _ _ _ _ h=>by cases h) 0 g args () e2 rfl r [] () hm'
   exact⟨e2,he,a,fun k hk=>ha (k+1) (by omega)⟩
  ·exact hk E1 E2 RE h1 h2 hh _ g args e1 e2 he r obs e1' h
theorem ev_memo {n:Nat} {g:FuncId} {args:List PV} {r:PV} (h:evalFm memo sp tab n Unit qbe 0 g args ()=some (r,[],())):∃ m,qbm sp tab m Unit qbe 0 g args ()=some (r,[],()):=by
 obtain⟨m,hm'⟩:=qys (evalMm_le hm n) g args h
 exact⟨m,hm' m (Nat.le_refl _)⟩
end memo
mutual
def sameV:PV→PV→Bool
 | .bool a,.bool b=>a==b
 | .int k n,.int k' n'=>decide (k=k')&&decide (n=n')
 | .str s,.str s'=>decide (s=s')
 | .nilS,.nilS=>true
 | .nilI,.nilI=>true
 | .agg cs,.agg cs'=>sameL cs cs'
 | .sl k xs f,.sl k' xs' f'=>decide (k=k')&&(f==f')&&sameL xs xs'
 | _,_=>false
def sameL:List PV→List PV→Bool
 | [],[]=>true
 | x :: xs,y :: ys=>sameV x y&&sameL xs ys
 | _,_=>false
end
mutual
theorem sameV_eq:∀ (x y:PV),sameV x y=true→x=y
 | x,y,h=>by
  unfold sameV at h
  split at h
  ·simpa using h
  ·simp only[Bool.and_eq_true,decide_eq_true_eq] at h;rw[h.1,h.2]
  ·simp only[decide_eq_true_eq] at h;rw[h]
  ·rfl
  ·rfl
  ·rename_i cs cs';rw[qx8 cs cs' h]
  ·rename_i k xs f k' xs' f'
   simp only[Bool.and_eq_true,decide_eq_true_eq,beq_iff_eq] at h
   rw[h.1.1,h.1.2,qx8 xs xs' h.2]
  ·cases h
theorem qx8:∀ (xs ys:List PV),sameL xs ys=true→xs=ys
 | xs,ys,h=>by
  unfold sameL at h
  split at h
  ·rfl
  ·rename_i x xs y ys
   simp only[Bool.and_eq_true] at h
   rw[sameV_eq x y h.1,qx8 xs ys h.2]
  ·cases h
end
abbrev qr2:=List (FuncId×List PV×PV)
def Qki:qr2→FuncId→List PV→Option PV
 | [],_,_=>none
 | p :: l,g,args=>if p.1=g∧sameL p.2.1 args=true then some p.2.2 else Qki l g args
def qli (sp:FuncId→(Nm→Option Ob)→List PV→Option Out) (tab:FuncId→Option RFn) (l:qr2):Prop :=
 ∀ p∈l,∃ n,qbm sp tab n Unit qbe 0 p.1 p.2.1 ()=some (p.2.2,[],())
theorem Qdf {sp:FuncId→(Nm→Option Ob)→List PV→Option Out} {tab:FuncId→Option RFn}:qli sp tab []:=fun _ h=>by cases h
theorem qbf {sp:FuncId→(Nm→Option Ob)→List PV→Option Out} {tab:FuncId→Option RFn} {g:FuncId} {args:List PV} {r:PV} {l:qr2}
  (h:∃ n,qbm sp tab n Unit qbe 0 g args ()=some (r,[],())) (hl:qli sp tab l):qli sp tab ((g,args,r) :: l):=fun p hp=>by
 rcases List.mem_cons.1 hp with rfl | hp
 ·exact h
 ·exact hl p hp
theorem Qdw {sp:FuncId→(Nm→Option Ob)→List PV→Option Out} {tab:FuncId→Option RFn}:∀ {l:qr2},qli sp tab l→∀ g args r,Qki l g args=some r→∃ n,qbm sp tab n Unit qbe 0 g args ()=some (r,[],())
 | [],_,_,_,_,h=>by cases h
 | p :: l,hl,g,args,r,h=>by
  unfold Qki at h
  split at h
  ·rename_i hp
   cases h
   have:=hl p List.mem_cons_self
   rwa [hp.1,qx8 _ _ hp.2] at this
  ·exact Qdw (fun q hq=>hl q (List.mem_cons_of_mem _ hq)) g args r h
theorem ev_known {sp:FuncId→(Nm→Option Ob)→List PV→Option Out} {tab:FuncId→Option RFn} {l:qr2} (hl:qli sp tab l) {n:Nat} {g:FuncId} {args:List PV} {r:PV}
  (h:evalFm (Qki l) sp tab n Unit qbe 0 g args ()=some (r,[],())):∃ m,qbm sp tab m Unit qbe 0 g args ()=some (r,[],()):=ev_memo (Qdw hl) h
end Go.Ab


namespace Go.Ab
noncomputable section
section qj5
variable {R:Type}
def fN (n:Nat) (K:Nat→R):R:=match n with
 | 0=>K 0
 | m+1=>K (Nat.succ m)
def fI (n:Int) (K:Int→R):R:=match n with
 | .ofNat m=>fN m fun m=>K (.ofNat m)
 | .negSucc m=>fN m fun m=>K (.negSucc m)
def fB (b:Bool) (K:Bool→R):R:=match b with
 | true=>K true
 | false=>K false
def fKd (k:IntKind) (K:IntKind→R):R:=match k with
 | .i8=>K .i8 | .i16=>K .i16 | .i32=>K .i32 | .i64=>K .i64
 | .u8=>K .u8 | .u16=>K .u16 | .u32=>K .u32 | .u64=>K .u64
def fS:List UInt8→(List UInt8→R)→R
 | [],K=>K []
 | x :: xs,K=>fS xs fun xs=>K (x :: xs)
def fP {α β:Type} (p:α×β) (K:α×β→R):R:=match p with
 |(a,b)=>K (a,b)
def fSp {α:Type}:List α→(List α→R)→R
 | [],K=>K []
 | x :: xs,K=>fSp xs fun xs=>K (x :: xs)
mutual
def fV (d:Bool):PV→(PV→R)→R
 | .undef,K=>K .undef
 | .bool b,K=>fB b fun b=>K (.bool b)
 | .int k n,K=>fKd k fun k=>fI n fun n=>K (.int k n)
 | .str s,K=>fS s fun s=>K (.str s)
 | .nilS,K=>K .nilS | .nilP,K=>K .nilP | .nilF,K=>K .nilF | .nilI,K=>K .nilI | .nilM,K=>K .nilM
 | .sl k xs f,K=>match d with
  | true=>fVL true xs fun xs=>K (.sl k xs f)
  | false=>fSp xs fun xs=>K (.sl k xs f)
 | .ptr cs o,K=>match d with
  | true=>fVL true cs fun cs=>K (.ptr cs o)
  | false=>fSp cs fun cs=>K (.ptr cs o)
 | .agg cs,K=>fVL d cs fun cs=>K (.agg cs)
 | .iface t x,K=>fV d x fun x=>K (.iface t x)
 | .fn f cap,K=>fVL d cap fun cap=>K (.fn f cap)
 | .yld l,K=>K (.yld l)
 | .tup xs,K=>fVL d xs fun xs=>K (.tup xs)
 | .imap es,K=>match d with
  | true=>fVL true es fun es=>K (.imap es)
  | false=>fSp es fun es=>K (.imap es)
 | .glob g t,K=>K (.glob g t)
 | .ref nm o,K=>fP nm fun nm=>fN o fun o=>K (.ref nm o)
 | .aref nm k i o,K=>fP nm fun nm=>fN i fun i=>fN o fun o=>K (.aref nm k i o)
 | .arr nm k o n,K=>fP nm fun nm=>fN o fun o=>fN n fun n=>K (.arr nm k o n)
 | .mp nm,K=>fP nm fun nm=>K (.mp nm)
 | .it nm,K=>fP nm fun nm=>K (.it nm)
def fVL (d:Bool):List PV→(List PV→R)→R
 | [],K=>K []
 | x :: xs,K=>fV d x fun x=>fVL d xs fun xs=>K (x :: xs)
end
def fH:PV→(PV→R)→R
 | .undef,K=>K .undef
 | .bool b,K=>K (.bool b) | .int k n,K=>K (.int k n) | .str s,K=>K (.str s)
 | .nilS,K=>K .nilS | .nilP,K=>K .nilP | .nilF,K=>K .nilF | .nilI,K=>K .nilI | .nilM,K=>K .nilM
 | .sl k xs f,K=>K (.sl k xs f)
 | .ptr cs o,K=>K (.ptr cs o)
 | .agg cs,K=>fVL false cs fun cs=>K (.agg cs)
 | .iface t x,K=>fV false x fun x=>K (.iface t x)
 | .fn f cap,K=>fVL false cap fun cap=>K (.fn f cap)
 | .yld l,K=>K (.yld l)
 | .tup xs,K=>fVL false xs fun xs=>K (.tup xs)
 | .imap es,K=>K (.imap es)
 | .glob g t,K=>K (.glob g t)
 | .ref nm o,K=>fP nm fun nm=>K (.ref nm o)
 | .aref nm k i o,K=>fP nm fun nm=>K (.aref nm k i o)
 | .arr nm k o n,K=>fP nm fun nm=>K (.arr nm k o n)
 | .mp nm,K=>fP nm fun nm=>K (.mp nm)
 | .it nm,K=>fP nm fun nm=>K (.it nm)
def fHL (l:List PV):(List PV→R)→R:=List.rec (motive:=fun _=>(List PV→R)→R) (fun K=>K []) (fun x _ ih K=>fH x fun x=>ih fun xs=>K (x :: xs)) l
def fOb (d:Bool):Ob→(Ob→R)→R
 | .cells ty cs,K=>fVL d cs fun cs=>K (.cells ty cs)
 | .arr k ty xs,K=>match d with
  | true=>fVL true xs fun xs=>K (.arr k ty xs)
  | false=>fSp xs fun xs=>K (.arr k ty xs)
 | .map es,K=>fSp es fun es=>K (.map es)
 | .siter s p,K=>fN p fun p=>K (.siter s p)
def fObs (d:Bool):List Ob→(List Ob→R)→R
 | [],K=>K []
 | x :: xs,K=>fOb d x fun x=>fObs d xs fun xs=>K (x :: xs)
def fObH:Ob→(Ob→R)→R
 | .cells ty cs,K=>fVL false cs fun cs=>K (.cells ty cs)
 | .arr k ty xs,K=>K (.arr k ty xs)
 | .map es,K=>K (.map es)
 | .siter s p,K=>K (.siter s p)
def fObHs:List Ob→(List Ob→R)→R
 | [],K=>K []
 | x :: xs,K=>fObH x fun x=>fObHs xs fun xs=>K (x :: xs)
def fOL:List (List Ob)→(List (List Ob)→R)→R
 | [],K=>K []
 | x :: xs,K=>fObHs x fun x=>fOL xs fun xs=>K (x :: xs)
def fSt (st:St) (K:St→R):R:=match st with
 | ⟨tmps,objs,keep⟩=>fHL tmps fun tmps=>fOL objs fun objs=>fHL keep fun keep=>K ⟨tmps,objs,keep⟩
def fTm (st:St) (K:St→R):R:=match st with
 | ⟨tmps,objs,keep⟩=>fHL tmps fun tmps=>K ⟨tmps,objs,keep⟩
def fUpd (u:Option (Nm×Ob)) (K:Option (Nm×Ob)→R):R:=match u with
 | none=>K none
 | some (nm,o)=>fP nm fun nm=>fOb false o fun o=>K (some (nm,o))
def deepOp:ROp→Bool
 | .call _ _=>true
 | .toBytes _=>true
 | _=>false
def fOut (d:Bool) (o:Out) (K:Out→R):R:=match o with
 | ⟨v,new,upd,kill,frz,gone,ups,io,slot⟩=>fV d v fun v=>fObs d new fun new=>fUpd upd fun upd=>K ⟨v,new,upd,kill,frz,gone,ups,io,slot⟩
end qj5
def getR {α:Type} (l:List α):Nat→Option α:=List.rec (motive:=fun _=>Nat→Option α) (fun _=>none) (fun x _ ih n=>Nat.rec (motive:=fun _=>Option α) (some x) (fun m _=>ih m) n) l
def nthR (l:List PV):Nat→PV:=List.rec (motive:=fun _=>Nat→PV) (fun _=>.undef) (fun x _ ih n=>Nat.rec (motive:=fun _=>PV) x (fun m _=>ih m) n) l
def setR (l:List PV):Nat→PV→List PV:=List.rec (motive:=fun _=>Nat→PV→List PV) (fun _ _=>[]) (fun x xs ih n v=>Nat.rec (motive:=fun _=>List PV) (v :: xs) (fun m _=>x :: ih m v) n) l
def lookR (σ:List (List Ob)) (nm:Nm):Option Ob:=match getR σ nm.1 with
 | some l=>getR l nm.2
 | none=>none
def RX.evR (tm:List PV):RX→RX
 | .t i=>.c (nthR tm i)
 | .c v=>.c v
def RX.evF (tm:List PV):RX→PV
 | .t i=>nthR tm i
 | .c v=>v
def Qmm (m i:Nat):Bool:=Nat.beq (Nat.land (Nat.shiftRight m i) 1) 1
def qwb:List Nat→Nat
 | []=>0
 | d :: ds=>Nat.lor (Nat.shiftLeft 1 d) (qwb ds)
def Qk6 (m:Nat) (b:Bool):Nat→List PV→List PV
 | _,[]=>[]
 | i,v :: vs=>(match Qmm m i with
  | true=>bif b then v else .undef
  | false=>bif b then .undef else v) :: Qk6 m b (Nat.succ i) vs
def qyt:Nat→List PV→List Nat
 | _,[]=>[]
 | i,v :: vs=>match v with
  | .undef=>i :: qyt (Nat.succ i) vs
  | _=>qyt (Nat.succ i) vs
def qg3 (R:List Nm):Nat→List (List Ob)→List Nat
 | _,[]=>[]
 | i,l :: ls=>match l with
  | []=>qg3 R (Nat.succ i) ls
  | _ :: _=>match R.all fun nm=>nm.1 != i with
   | true=>i :: qg3 R (Nat.succ i) ls
   | false=>qg3 R (Nat.succ i) ls
def Qf4 (ds:List Nat) (st:St):St:={st with tmps:=Qk6 (qwb ds) false 0 st.tmps}
def qz7 (ks:List Nat) (st:St):St:={st with tmps:=Qk6 (qwb ks) true 0 st.tmps}
def Qf3 (st:St):List Nat:=qg3 (qbn st.tmps++qbn st.keep++st.objs.flatMap fun l=>l.flatMap Ob.names) 0 st.objs
def undefsQ (st:St):List Nat:=qyt 0 st.tmps
def Qhr (m:Nat):Nat→List (List Ob)→List (List Ob)
 | _,[]=>[]
 | i,l :: ls=>(match Qmm m i with
  | true=>[]
  | false=>l) :: Qhr m (Nat.succ i) ls
def Qva (objs:List (List Ob)):List Nat→Bool
 | []=>true
 | d :: ds=>match getR objs d with
  | some (_ :: _)=>false
  | _=>Qva objs ds
def Qsn (ds:List Nat) (st:St):St :=
 let st:=qlv (fun m=>match Qmm (qwb ds) m.1 with | true=>some none | false=>none) st
 {st with objs:=Qhr (qwb ds) 0 st.objs}
def Qmh (ds:List Nat) (st:St):St:=match Qva st.objs ds with
 | true=>st
 | false=>Qsn ds st
def Qsm (st:St):St:=match Qf3 st with
 | []=>st
 | d :: ds=>Qsn (d :: ds) st
def dropQ (ds:List Nat) (st:St):St:=Qsm (Qf4 ds st)
def Qbg (m:Nat):Nat→List PV→Bool
 | _,[]=>true
 | i,v :: vs=>match v with
  | .arr nm _ _ _=>(match Qmm m i with
   | true=>(match nm with
    |(a,b)=>(match Nat.beq a i with
     | true=>(match b with
      | 0=>Qbg m (Nat.succ i) vs
      | _+1=>false)
     | false=>false))
   | false=>Qbg m (Nat.succ i) vs)
  | _=>Qbg m (Nat.succ i) vs
def qtp {R:Type}:List Nat→St→(St→R)→R
 | [],st,K=>K st
 | t :: asg,st,K=>match nthR st.tmps t with
  | .arr nm k o n=>fSt (qk5 t st) fun st=>qtp asg st K
  | _=>qtp asg st K
def norm0K {R:Type} (asg:List Nat) (grow:List (Nat×Nat)) (st:St) (K:St→R):R:=match Qbg (qwb asg) 0 st.tmps with
 | true=>K (grow.foldl (fun st (t,k)=>Qhf t k st) st)
 | false=>qtp asg st fun st=>K (grow.foldl (fun st (t,k)=>Qhf t k st) st)
def normQ (asg:List Nat) (grow:List (Nat×Nat)) (st:St):St:=norm0K asg grow st fun st=>fSt st fun st=>dropQ (undefsQ st) st
def tidyQ (live:Option (List Nat)) (st:St):St :=
 match live with
 | none=>st
 | some ks=>Qsm (qz7 ks st)
def stillO (o:Out):Bool:=qce o&&o.new.isEmpty
def Qfy (st:St) (dst:Option Nat) (o:Out):St:=match stillO o with
 | true=>(match dst with
  | some d=>{st with tmps:=setR st.tmps d o.v}
  | none=>st)
 | false=>apply st dst o
def freshQ (o:qb3) (st:St):Bool :=
 if Qkk o.op then
  match o.dst with
  | some d=>match getR st.objs d with
   | some []=>true
   | _=>false
  | none=>match o.op with
   | .call _ _=>true
   | _=>false
 else true
def outQ (M:qf2) {E:Type} (h:qbk E) (dep:Nat) (o:qb3) (st:St) (e:E):Option (Out×E) :=
 chk (freshQ o st) (match o.op with
  | .call f args=>match qct M h dep (o.dst.getD 0) (lookR st.objs) [] (f.evR st.tmps) (args.map (RX.evR st.tmps)) e with
   | some (out,e)=>chk (qqs o.dst out) (some (out,e))
   | none=>none
  | op=>match exec (o.dst.getD 0) (lookR st.objs) [] (op.mapX (RX.evR st.tmps)) with
   | some out=>some (out,e)
   | none=>none)
def Qp9 (ops:List qb3) (o:qb3) (tm:List PV):Option Bool :=
 match o.guard with
 | none=>some true
 | some (j,want) =>
  match getR ops j with
  | some p=>match p.dst with
   | some d=>match nthR tm d with
    | .bool b=>some (b==want)
    | .tup []=>some false
    | _=>none
   | none=>none
  | none=>none
def stepQ (M:qf2) {E:Type} (h:qbk E) (dep:Nat) (ops:List qb3) (o:qb3) (st:St) (e:E):Option (St×E) :=
 match Qp9 ops o st.tmps with
 | some true=>match outQ M h dep o st e with
  | some (out,e)=>fOut (deepOp o.op) out fun out=>some (Qfy st o.dst out,e)
  | none=>none
 | some false=>some (Qfy st o.dst {v:=.tup []},e)
 | none=>none
def runQ (M:qf2) {E:Type} (h:qbk E) (dep:Nat) (ops:List qb3):List qb3→St→E→Option (St×E)
 | [],st,e=>some (st,e)
 | o :: rest,st,e=>match stepQ M h dep ops o st e with
  | some (st,e)=>runQ M h dep ops rest st e
  | none=>none
def rnQ (o:qb3) (st:St) (out:Out):List Nm :=
 if qx3 o.op&&qce out then [] else qcv (lookR st.objs) (qlj o.op (qce out)) (qbn (o.op.xs.map (RX.evF st.tmps))++out.frz)
def yldQ (op:ROp) (tm:List PV):Bool :=
 match op with
 | .call f args=>match f.evF tm with
  | .yld _=>(qbn (args.map (RX.evF tm))).isEmpty
  | _=>false
 | _=>false
def infoQ (ops:List qb3) (i:Nat) (o:qb3) (st:St) (out:Out):qta :=
 let vs:=o.op.xs.map (RX.evF st.tmps)
 {i,dst:=o.dst,reads:=qv0 o.op.xs++qdt ops o,rn:=rnQ o st out,rv:=if qkr o.op then [] else Qhe (lookR st.objs) (rnQ o st out),
  cls:=if qjy o.op&&qd1 vs then (if yldQ o.op st.tmps then .calls else .other) else if qce out then .quiet else if qd3 out then .turns else .other,
  on:=out.v.names++out.new.flatMap Ob.names,tch:=qfp out++(out.frz++out.kill.toList),frz:=!(out.frz++out.kill.toList).isEmpty,
  vn:=(qv0 o.op.xs++qdt ops o).flatMap fun s=>(nthR st.tmps s).names}
def outDQ (M:qf2) {E:Type} (h:qbk E) (dep:Nat) (ops:List qb3) (i:Nat) (o:qb3) (st:St) (e:E):Option (St×E×qta) :=
 match Qp9 ops o st.tmps with
 | some true=>match outQ M h dep o st e with
  | some (out,e)=>fOut (deepOp o.op) out fun out=>some (Qfy st o.dst out,e,infoQ ops i o st out)
  | none=>none
 | some false=>some (Qfy st o.dst {v:=.tup []},e,{i,cls:=.quiet,dst:=o.dst,reads:=qdt ops o,rn:=[],vn:=(qdt ops o).flatMap fun s=>(nthR st.tmps s).names})
 | none=>none
def runDQ (M:qf2) {E:Type} (h:qbk E) (dep:Nat) (ops:List qb3):List (Nat×Nat)→List qta→St→E→Option (St×E)
 | [],_,st,e=>some (st,e)
 |(i,bef) :: rest,infos,st,e=>match getR ops i with
  | some o=>match outDQ M h dep ops i o st e with
   | some (st,e,info)=>chk (infos.all fun j=>bef.testBit j.i||Qcv j info) (runDQ M h dep ops rest (info :: infos) st e)
   | none=>none
  | none=>none
def qn6 (M:qf2) (fuel:Nat):qdr→{E:Type}→qbk E→Nat→St→E→Option (Ex×St×E)
 | .skip,_,_,_,st,e=>some (.normal,st,e)
 | .region ops none qjj,_,h,dep,st,e=>match runQ M h dep ops ops (Qmh (qs7 ops) st) e with
  | some (st,e)=>fTm (tidyQ qjj st) fun st=>some (.normal,st,e)
  | none=>none
 | .region ops (some bef) qjj,_,h,dep,st,e=>match runDQ M h dep ops bef [] (Qmh (qs7 ops) st) e with
  | some (st,e)=>fTm (tidyQ qjj st) fun st=>some (.normal,st,e)
  | none=>none
 | .seq a b,_,h,dep,st,e=>match qn6 M fuel a h dep st e with
  | some (.normal,st,e)=>qn6 M fuel b h dep st e
  | r=>r
 | .cond c a b,_,h,dep,st,e=>match c.ev st.tmps with
  | .bool true=>qn6 M fuel a h dep st e
  | .bool false=>qn6 M fuel b h dep st e
  | _=>none
 | .block id body,_,h,dep,st,e=>match qn6 M fuel body h dep st e with
  | some (.exit id',st,e)=>if id'=id then some (.normal,st,e) else some (.exit id',st,e)
  | r=>r
 | .loop asg grow body,E,h,dep,st,e=>fSt (normQ asg grow st) fun st =>
  match qhz (fun (s:St×E)=>match qn6 M fuel body h dep s.1 s.2 with
   | some (.normal,st1,e)=>fSt (dropQ (undefs st) st1) fun st1=>fSt (normQ asg grow st1) fun st=>some (.inl (st,e))
   | some (x,st,e)=>some (.inr (x,st,e))
   | none=>none) fuel (st,e) with
  | some (x,st,e)=>some (x,st,e)
  | none=>none
 | .scope body,_,h,dep,st,e=>match qn6 M fuel body h dep st e with
  | some (.exit id,st,e)=>if id < qh5 then some (.exit id,st,e) else none
  | r=>r
 | .norm grow,_,_,_,st,e=>fSt (normQ [] grow (trim st)) fun st=>some (.normal,st,e)
 | .rangeFunc f ps a b,_,h,dep,st,e=>qbz M fuel (.rangeFunc f ps a b) h dep st e
 | .exit id,_,_,_,st,e=>some (.exit id,st,e)
 | .ret,_,_,_,st,e=>some (.ret,st,e)
 | .dreg _ _ _ _,_,_,_,_,_=>none
 | .bad,_,_,_,_,_=>none
def callQ (M:qf2) (n:Nat) (tab:FuncId→Option RFn):qvu:=fun _ h dep f args e =>
 match tab f with
 | none=>none
 | some fn=>fVL false args fun args =>
  match qn6 M n fn.code h dep {tmps:=args++List.replicate (fn.nt - args.length) .undef,objs:=List.replicate fn.nt [],keep:=[]} e with
  | some (x,st,e) =>
   match x with
   | .exit _=>none
   | _=>match qpn st fn.res with
    | some vs=>match qlm fn.shut st (qso vs) with
     | some (v,obs)=>fV true v fun v=>fObs true obs fun obs=>some (v,obs,e)
     | none=>none
    | none=>none
  | none=>none
def qm4 (M:qf2) (fuel nt:Nat):qdr→St→Option (Ex×St×List Nat)
 | .dreg ops f args live,st=>match runQ M qbe 0 ops ops (Qmh (qs7 ops) st) () with
  | some (st,_)=>chk (decide (args.length+1≤nt)&&isFn (f.ev st.tmps))
    (fTm (tidyQ live (pushD nt (f.ev st.tmps :: args.map (RX.ev st.tmps)) st)) fun st=>some (.normal,st,[args.length]))
  | none=>none
 | .seq a b,st=>match qm4 M fuel nt a st with
  | some (.normal,st,l)=>match qm4 M fuel nt b st with
   | some (x,st,l')=>some (x,st,l'++l)
   | none=>none
  | r=>r
 | .cond c a b,st=>match c.ev st.tmps with
  | .bool true=>qm4 M fuel nt a st
  | .bool false=>qm4 M fuel nt b st
  | _=>none
 | .block id body,st=>match qm4 M fuel nt body st with
  | some (.exit id',st,l)=>if id'=id then some (.normal,st,l) else some (.exit id',st,l)
  | r=>r
 | .scope body,st=>if qyc body then none else match qm4 M fuel nt body st with
  | some (.exit id,st,l)=>if id < qh5 then some (.exit id,st,l) else none
  | r=>r
 | c,st=>qst (qn6 M fuel c qbe 0 st ())
def ioRawQ (M:qf2) (n:Nat) (fn:RFn) (ins:List Ob) (vs:List PV):Option (St×PV) :=
 if noD fn.code then fSt (ioSt fn.gone fn.nt ins vs) fun st0=>match qn6 M n fn.code qbe 0 st0 () with
  | some (x,st,_) =>
   match x with
   | .exit _=>none
   | _=>match qpn st fn.res with
    | some rs=>some (st,qso rs)
    | none=>none
  | none=>none
 else fSt (ioSt fn.gone fn.nt ins vs) fun st0=>match qm4 M n fn.nt fn.code st0 with
  | some (x,st,l) =>
   match x with
   | .exit _=>none
   | _=>match Qsh M fn.nt l st with
    | some st=>match qpn st fn.res with
     | some rs=>some (st,qso rs)
     | none=>none
    | none=>none
  | none=>none
def fObD {R:Type}:Ob→(Ob→R)→R
 | .cells ty cs,K=>fVL false cs fun cs=>K (.cells ty cs)
 | .arr k ty xs,K=>fVL false xs fun xs=>K (.arr k ty xs)
 | .map es,K=>fSp es fun es=>K (.map es)
 | .siter s p,K=>K (.siter s p)
def fObDs {R:Type}:List Ob→(List Ob→R)→R
 | [],K=>K []
 | x :: xs,K=>fObD x fun x=>fObDs xs fun xs=>K (x :: xs)
def ioOfQ (M:qf2) (n:Nat) (tab:FuncId→Option RFn) (f:FuncId) (dst:Nat) (σ:Nm→Option Ob) (vs:List PV):Option Out :=
 match tab f with
 | none=>none
 | some fn =>
  fSp (qgz (qcv σ qbp (qbn vs))) fun R =>
  match R.mapM σ with
  | none=>none
  | some ins =>
   chk (!qd1 vs&&qkm σ R&&ins.all (fun o=>!o.hasY)&&(decide (vs.length≤fn.nt)&&decide (R.length≤fn.nt)&&decide (0 < fn.nt))) (
    fObDs (ins.map (Ob.ren fun m=>(0,R.idxOf m))) fun ins=>fVL false (qjv (fun m=>(0,R.idxOf m)) vs) fun vs =>
    match ioRawQ M n fn ins vs with
    | some (st,v)=>fSt st fun st=>qsy σ dst R st v
    | none=>none)
def Ql2 (memo:FuncId→List PV→Option PV) (sp:FuncId→(Nm→Option Ob)→List PV→Option Out) (tab:FuncId→Option RFn):Nat→qf2
 | 0=>qmp sp tab 0
 | n+1=>{qmp sp tab 0 with call:=Qgx memo (callQ (Ql2 memo sp tab n) n tab),io:=ioOfQ (Ql2 memo sp tab n) n tab}
def evalFq (memo:FuncId→List PV→Option PV) (sp:FuncId→(Nm→Option Ob)→List PV→Option Out) (tab:FuncId→Option RFn) (n:Nat):qvu:=(Ql2 memo sp tab n).call
section qdm
variable {R:Type}
theorem fN_eq (n:Nat) (K:Nat→R):fN n K=K n:=by cases n<;>rfl
theorem fI_eq (n:Int) (K:Int→R):fI n K=K n:=by cases n<;>simp only[fI,fN_eq]
theorem fB_eq (b:Bool) (K:Bool→R):fB b K=K b:=by cases b<;>rfl
theorem fKd_eq (k:IntKind) (K:IntKind→R):fKd k K=K k:=by cases k<;>rfl
theorem fS_eq:∀ (s:List UInt8) (K:List UInt8→R),fS s K=K s
 | [],_=>rfl
 | x :: xs,K=>by simp only[fS];rw[fS_eq xs]
theorem Qpk {α β:Type} (p:α×β) (K:α×β→R):fP p K=K p:=rfl
theorem Qb2 {α:Type}:∀ (s:List α) (K:List α→R),fSp s K=K s
 | [],_=>rfl
 | x :: xs,K=>by simp only[fSp];rw[Qb2 xs]
mutual
theorem fV_eq (d:Bool):∀ (v:PV) (K:PV→R),fV d v K=K v
 | .undef,K | .nilS,K | .nilP,K | .nilF,K | .nilI,K | .nilM,K | .yld _,K | .glob _ _,K=>by simp only[fV]
 | .bool b,K=>by simp only[fV,fB_eq]
 | .int k n,K=>by simp only[fV,fKd_eq,fI_eq]
 | .str s,K=>by simp only[fV,fS_eq]
 | .sl k xs f,K=>by cases d<;>simp only[fV,Qb2];rw[qn5 true xs]
 | .ptr cs o,K=>by cases d<;>simp only[fV,Qb2];rw[qn5 true cs]
 | .imap es,K=>by cases d<;>simp only[fV,Qb2];rw[qn5 true es]
 | .agg cs,K=>by simp only[fV];rw[qn5 d cs]
 | .iface t x,K=>by simp only[fV];rw[fV_eq d x]
 | .fn f cap,K=>by simp only[fV];rw[qn5 d cap]
 | .tup xs,K=>by simp only[fV];rw[qn5 d xs]
 | .ref nm o,K=>by simp only[fV,Qpk,fN_eq]
 | .aref nm k i o,K=>by simp only[fV,Qpk,fN_eq]
 | .arr nm k o n,K=>by simp only[fV,Qpk,fN_eq]
 | .mp nm,K=>by simp only[fV,Qpk]
 | .it nm,K=>by simp only[fV,Qpk]
theorem qn5 (d:Bool):∀ (xs:List PV) (K:List PV→R),fVL d xs K=K xs
 | [],K=>by simp only[fVL]
 | x :: xs,K=>by simp only[fVL];rw[fV_eq d x,qn5 d xs]
end
theorem fH_eq (v:PV) (K:PV→R):fH v K=K v:=by cases v<;>simp only[fH,qn5,fV_eq,Qpk]
theorem fHL_eq:∀ (xs:List PV) (K:List PV→R),fHL xs K=K xs
 | [],_=>rfl
 | x :: xs,K=>by
  show fH x (fun x=>fHL xs fun xs=>K (x :: xs))=_
  rw[fH_eq,fHL_eq xs]
theorem fOb_eq (d:Bool) (o:Ob) (K:Ob→R):fOb d o K=K o:=by cases o<;>cases d<;>simp only[fOb,qn5,Qb2,fN_eq]
theorem Qpl (d:Bool):∀ (xs:List Ob) (K:List Ob→R),fObs d xs K=K xs
 | [],_=>rfl
 | x :: xs,K=>by simp only[fObs];rw[fOb_eq,Qpl d xs]
theorem fObH_eq (o:Ob) (K:Ob→R):fObH o K=K o:=by cases o<;>simp only[fObH,qn5]
theorem Qsd:∀ (xs:List Ob) (K:List Ob→R),fObHs xs K=K xs
 | [],_=>rfl
 | x :: xs,K=>by simp only[fObHs];rw[fObH_eq,Qsd xs]
theorem fOL_eq:∀ (xs:List (List Ob)) (K:List (List Ob)→R),fOL xs K=K xs
 | [],_=>rfl
 | x :: xs,K=>by simp only[fOL];rw[Qsd,fOL_eq xs]
theorem qxq (st:St) (K:St→R):fSt st K=K st:=by cases st;simp only[fSt,fHL_eq,fOL_eq]
theorem Qly (st:St) (K:St→R):fTm st K=K st:=by cases st;simp only[fTm,fHL_eq]
theorem fUpd_eq (u:Option (Nm×Ob)) (K:Option (Nm×Ob)→R):fUpd u K=K u:=by
 cases u with
 | none=>rfl
 | some p=>simp only[fUpd,Qpk,fOb_eq]
theorem fOut_eq (d:Bool) (o:Out) (K:Out→R):fOut d o K=K o:=by cases o;simp only[fOut,fV_eq,Qpl,fUpd_eq]
end qdm
theorem qs0 {α:Type}:∀ (l:List α) (n:Nat),getR l n=l[n]?
 | [],_=>by simp[getR]
 | x :: xs,0=>rfl
 | x :: xs,n+1=>by rw[List.getElem?_cons_succ,←qs0 xs n];rfl
theorem qsq:∀ (l:List PV) (n:Nat),nthR l n=l.getD n .undef
 | [],_=>by simp[nthR]
 | x :: xs,0=>rfl
 | x :: xs,n+1=>by rw[List.getD_cons_succ,←qsq xs n];rfl
theorem setR_eq:∀ (l:List PV) (n:Nat) (v:PV),setR l n v=l.set n v
 | [],_,_=>by simp[setR]
 | x :: xs,0,_=>rfl
 | x :: xs,n+1,v=>by rw[List.set_cons_succ,←setR_eq xs n];rfl
theorem evR_eq (tm:List PV):RX.evR tm=fun x=>.c (x.ev tm):=by
 funext x
 cases x with
 | t i=>simp only[RX.evR,RX.ev,qsq]
 | c v=>rfl
theorem Qrd (σ:List (List Ob)):lookR σ=qbq σ:=by
 funext nm
 unfold lookR qbq
 rw[qs0]
 cases σ[nm.1]? with
 | none=>rfl
 | some l=>exact qs0 l nm.2
theorem evF_eq (tm:List PV):RX.evF tm=RX.ev tm:=by
 funext x
 cases x with
 | t i=>exact qsq tm i
 | c v=>rfl
theorem Qt8 (m i:Nat):Qmm m i=m.testBit i:=by
 unfold Qmm
 rw[Nat.testBit_eq_decide_div_mod_eq]
 show ((m >>> i) &&& 1).beq 1=_
 rw[Nat.and_one_is_mod,Nat.shiftRight_eq_div_pow]
 by_cases h:m / 2 ^ i%2=1
 ·rw[h];rfl
 ·cases hb:(m / 2 ^ i%2).beq 1 with
  | false=>simp[h]
  | true=>exact absurd (Nat.eq_of_beq_eq_true hb) h
theorem qzu (i:Nat):∀ ds:List Nat,Qmm (qwb ds) i=ds.contains i
 | []=>by rw[Qt8];simp[qwb]
 | d :: ds=>by
  have ih:=qzu i ds
  rw[Qt8] at ih ⊢
  show (1 <<< d ||| qwb ds).testBit i=_
  rw[Nat.testBit_or,ih,Nat.one_shiftLeft,Nat.testBit_two_pow,List.contains_cons]
  congr 1
  by_cases h:i=d
  ·simp[h]
  ·have h2:¬d=i:=fun e=>h e.symm
   simp[h,h2]
theorem qz8 (ds:List Nat) (b:Bool):∀ (l:List PV) (i:Nat),Qk6 (qwb ds) b i l=(l.zipIdx i).map fun (v,j)=>if ds.contains j=b then v else .undef
 | [],_=>rfl
 | v :: vs,i=>by
  simp only[Qk6,List.zipIdx_cons,List.map_cons,qz8 ds b vs,qzu]
  congr 1
  cases ds.contains i<;>cases b<;>simp
theorem Qm2 (ds:List Nat) (st:St):Qf4 ds st=qpg ds st:=by
 unfold Qf4 qpg
 rw[qz8]
 congr 2
 funext p
 cases ds.contains p.2<;>simp
theorem Qk5 (ds:List Nat) (st:St):qz7 ds st=qll ds st:=by
 unfold qz7 qll
 rw[qz8]
theorem Qc1:∀ (l:List PV) (i:Nat),qyt i l=((l.zipIdx i).filter fun (v,_)=>qhl v).map (·.2)
 | [],_=>rfl
 | v :: vs,i=>by
  simp only[qyt,List.zipIdx_cons,List.filter_cons,Qc1 vs]
  cases v<;>simp[qhl]
theorem undefsQ_eq (st:St):undefsQ st=undefs st:=Qc1 _ _
theorem qw5 (R:List Nm):∀ (objs:List (List Ob)) (i:Nat) (f:Nat→List Ob),(∀ j,j < objs.length→f (i+j)=objs.getD j []) →
  (List.range' i objs.length).filter (fun d=>!(f d).isEmpty&&R.all fun nm=>nm.1 != d)=qg3 R i objs
 | [],_,_,_=>rfl
 | l :: ls,i,f,hf=>by
  have ih:=qw5 R ls (i+1) f fun j hj=>by
   have:=hf (j+1) (by simpa using hj)
   rw[show i+1+j=i+(j+1) by omega,this]
   rfl
  have h0:f i=l:=hf 0 (by simp)
  simp only[List.length_cons,List.range'_succ,List.filter_cons,h0,qg3]
  rw[ih]
  cases l with
  | nil=>simp
  | cons a l=>cases (R.all fun nm=>nm.1 != i)<;>simp
theorem qyr (st:St):Qf3 st=qsa st:=by
 unfold Qf3 qsa
 rw[←qw5 _ st.objs 0 (fun d=>st.objs.getD d []) (fun j _=>by rw[Nat.zero_add]),List.range_eq_range']
theorem Qfo (ds:List Nat):∀ (l:List (List Ob)) (i:Nat),Qhr (qwb ds) i l=(l.zipIdx i).map fun (v,j)=>if ds.contains j then [] else v
 | [],_=>rfl
 | v :: vs,i=>by
  simp only[Qhr,List.zipIdx_cons,List.map_cons,Qfo ds vs,qzu]
  congr 1
  cases ds.contains i<;>simp
theorem Qms (objs:List (List Ob)):∀ ds:List Nat,Qva objs ds=ds.all fun d=>(objs.getD d []).isEmpty
 | []=>rfl
 | d :: ds=>by
  simp only[Qva,List.all_cons,Qms objs ds,qs0,List.getD_eq_getElem?_getD]
  cases objs[d]? with
  | none=>simp
  | some l=>cases l<;>simp
theorem Qmi (ds:List Nat) (st:St) (h:(ds.all fun d=>(st.objs.getD d []).isEmpty)=false):Qsn ds st=qmg ds st:=by
 unfold qmg
 rw[if_neg (by rw[h];decide)]
 unfold Qsn
 rw[show (fun m:Nm=>match Qmm (qwb ds) m.1 with | true=>some (none:Option Ob) | false=>none)=fun m=>if ds.contains m.1 then some none else none by
  funext m
  rw[qzu]
  cases ds.contains m.1<;>rfl]
 simp only[Qfo]
theorem qqz (ds:List Nat) (st:St):Qmh ds st=qmg ds st:=by
 unfold Qmh
 rw[Qms]
 split
 ·rename_i h;unfold qmg;rw[if_pos h]
 ·rename_i h;exact Qmi ds st h
theorem qw4 (R:List Nm):∀ (objs:List (List Ob)) (i d:Nat),d∈qg3 R i objs→i≤d∧∃ a l,objs[d - i]?=some (a :: l)
 | [],_,_,h=>by simp[qg3] at h
 | l :: ls,i,d,h=>by
  have ih:=qw4 R ls (i+1) d
  have step:d∈qg3 R (i+1) ls→i≤d∧∃ a l',(l :: ls)[d - i]?=some (a :: l'):=fun h=>by
   obtain⟨h1,a,l',h2⟩:=ih h
   refine⟨by omega,a,l',?_⟩
   rw[show d - i=d - (i+1)+1 by omega,List.getElem?_cons_succ]
   exact h2
  simp only[qg3] at h
  split at h
  ·exact step h
  ·split at h
   ·rcases List.mem_cons.1 h with rfl | h
    ·exact⟨Nat.le_refl _,_,_,by rw[Nat.sub_self];rfl⟩
    ·exact step h
   ·exact step h
theorem Qmg (st:St):Qsm st=qmg (qsa st) st:=by
 unfold Qsm
 split
 ·rename_i h;rw[←qyr,h];rfl
 ·rename_i d ds h
  rw[←qyr,h]
  refine Qmi _ _ ?_
  obtain⟨_,a,l,h2⟩:=qw4 _ st.objs 0 d (by rw[show qg3 _ 0 st.objs=d :: ds from h];exact List.mem_cons_self)
  rw[List.all_cons,List.getD_eq_getElem?_getD,show st.objs[d]?=some (a :: l) from h2]
  rfl
theorem qvg (ds:List Nat) (st:St):dropQ ds st=drop ds st:=by unfold dropQ drop;rw[Qmg,Qm2]
theorem Qfd (asg:List Nat):∀ (l:List PV) (i t:Nat),Qbg (qwb asg) i l=true→asg.contains (i+t)=true→∀ nm k o n,l.getD t .undef=.arr nm k o n→nm=(i+t,0)
 | [],_,_,_,_,_,_,_,_=>by simp
 | x :: xs,i,0,h,hc,nm,k,o,n=>by
  intro e
  simp only[List.getD_cons_zero] at e
  subst e
  simp only[Qbg,qzu] at h
  rw[show asg.contains i=true from hc] at h
  obtain⟨a,b⟩:=nm
  dsimp only at h
  cases hb:Nat.beq a i with
  | false=>rw[hb] at h;cases h
  | true =>
   rw[hb] at h
   cases b with
   | zero=>rw[Nat.eq_of_beq_eq_true hb];rfl
   | succ b=>cases h
 | x :: xs,i,t+1,h,hc,nm,k,o,n=>by
  rw[List.getD_cons_succ,show i+(t+1)=i+1+t by omega]
  rw[show i+(t+1)=i+1+t by omega] at hc
  refine Qfd asg xs (i+1) t ?_ hc nm k o n
  simp only[Qbg] at h
  repeat' split at h
  all_goals first | exact h | cases h
theorem Qdk (t:Nat) (st:St) (h:∀ nm k o n,st.tmps.getD t .undef=.arr nm k o n→nm=(t,0)):qk5 t st=st:=by
 unfold qk5
 split
 ·rename_i nm k o n e
  rw[if_neg]
  exact fun hh=>hh.1 (h nm k o n e)
 ·rfl
theorem Qdj (st:St):∀ (asg:List Nat),(∀ t∈asg,∀ nm k o n,st.tmps.getD t .undef=.arr nm k o n→nm=(t,0))→asg.foldl (fun st t=>qk5 t st) st=st
 | [],_=>rfl
 | t :: asg,h=>by rw[List.foldl_cons,Qdk t st (h t List.mem_cons_self)];exact Qdj st asg fun u hu=>h u (List.mem_cons_of_mem _ hu)
theorem qsl {R:Type}:∀ (asg:List Nat) (st:St) (K:St→R),qtp asg st K=K (asg.foldl (fun st t=>qk5 t st) st)
 | [],_,_=>rfl
 | t :: asg,st,K=>by
  rw[List.foldl_cons]
  simp only[qtp]
  split
  ·rw[qxq];exact qsl asg _ K
  ·rename_i h
   rw[Qdk t st (fun nm k o n e=>absurd (by rw[qsq];exact e) (h nm k o n))]
   exact qsl asg st K
theorem norm0K_eq {R:Type} (asg:List Nat) (grow:List (Nat×Nat)) (st:St) (K:St→R):norm0K asg grow st K=K (norm0 asg grow st):=by
 unfold norm0K norm0
 split
 ·rename_i h;rw[Qdj st asg fun t ht nm k o n e=>by have:=Qfd asg st.tmps 0 t h (by simpa using ht) nm k o n e;simpa using this]
 ·rw[qsl]
theorem qya (asg:List Nat) (grow:List (Nat×Nat)) (st:St):normQ asg grow st=norm asg grow st:=by unfold normQ norm;rw[norm0K_eq,qxq,qvg,undefsQ_eq]
theorem qtb (live:Option (List Nat)) (st:St):tidyQ live st=Qqd live st:=by
 unfold tidyQ Qqd
 split
 ·rfl
 ·rw[Qmg,Qk5]
theorem evRs_eq (tm tm':List PV) (xs:List RX):(xs.map fun x=>RX.c (x.ev tm)).map (RX.ev tm')=xs.map (RX.ev tm):=by
 rw[List.map_map];rfl
theorem exec_instA (d:Nat) (σ:Nm→Option Ob) (T:List PV) (op:ROp):exec d σ [] (op.mapX fun x=>.c (x.ev T))=exec d σ T op:=by
 cases op with
 | build z ps=>simp only[ROp.mapX,exec];rw[Qr9 T]
 | slice k x lo hi mx=>simp only[ROp.mapX,exec];rw[qnc,qnc,qnc];rfl
 | strSlice x lo hi=>simp only[ROp.mapX,exec];rw[qnc,qnc];rfl
 | minmax mx xs=>simp only[ROp.mapX,exec,List.map_map];rfl
 | mkSl k xs=>simp only[ROp.mapX,exec,List.map_map];rfl
 | mkF f xs=>simp only[ROp.mapX,exec,List.map_map];rfl
 | _=>rfl
theorem Qcj (st:St) (dst:Option Nat) (o:Out):Qfy st dst o=apply st dst o:=by
 unfold Qfy
 split
 ·rename_i h
  obtain⟨v,new,upd,kill,frz,gone,ups,io,slot⟩:=o
  simp only[stillO,qce,Bool.and_eq_true,Option.isNone_iff_eq_none,List.isEmpty_iff] at h
  obtain⟨⟨⟨⟨⟨⟨rfl,rfl⟩,rfl⟩,rfl⟩,rfl⟩,rfl⟩,rfl⟩:=h
  unfold apply
  cases dst<;>simp[setR_eq]
 ·rfl
section eval_eq
variable (M:qf2) {E:Type} (h:qbk E) (dep:Nat) (ops:List qb3)
theorem Qhm (dst:Nat) (σ:Nm→Option Ob) (tm:List PV) (f:RX) (args:List RX) (e:E):qct M h dep dst σ [] (.c (f.ev tm)) (args.map fun x=>.c (x.ev tm)) e=qct M h dep dst σ tm f args e:=by
 have hv:=evRs_eq tm [] args
 unfold qct
 simp only[hv]
 rfl
theorem outQ_eq (o:qb3) (st:St) (e:E):outQ M h dep o st e=qj0 M h dep o st e:=by
 unfold outQ qj0
 rw[show freshQ o st=qgv o st by unfold freshQ qgv;simp only[qs0]<;>rfl,Qrd,evR_eq]
 congr 1
 cases o.op with
 | call f args=>have hc:=Qhm M h dep (o.dst.getD 0) (qbq st.objs) st.tmps f args e;simp only[hc]<;>rfl
 | _=>simp only[exec_instA]<;>rfl
theorem Qje (o:qb3) (tm:List PV):Qp9 ops o tm=qkk ops o tm:=by
 unfold Qp9 qkk
 simp only[qs0,qsq]<;>rfl
theorem stepQ_eq (o:qb3) (st:St) (e:E):stepQ M h dep ops o st e=stepG M h dep ops o st e:=by
 unfold stepQ stepG qte
 rw[Qje]
 split<;>rename_i hw<;>simp only[hw,fOut_eq,outQ_eq,Qcj]<;>rfl
theorem Qne:∀ (l:List qb3) (st:St) (e:E),runQ M h dep ops l st e=qjb M h dep ops l st e
 | [],_,_=>rfl
 | o :: l,st,e=>by
  simp only[runQ,qjb,stepQ_eq,Qne l]<;>rfl
theorem infoQ_eq (i:Nat) (o:qb3) (st:St) (out:Out):infoQ ops i o st out=ql8 ops i o st out:=by
 unfold infoQ ql8 rnQ Qjx yldQ qwg
 simp only[evF_eq,Qrd,qsq]<;>rfl
theorem outDQ_eq (i:Nat) (o:qb3) (st:St) (e:E):outDQ M h dep ops i o st e=Qjk M h dep ops i o st e:=by
 unfold outDQ Qjk qpf
 rw[Qje,outQ_eq]
 cases qkk ops o st.tmps with
 | none=>rfl
 | some b =>
  cases b with
  | true =>
   cases qj0 M h dep o st e with
   | none=>rfl
   | some p=>simp only[fOut_eq,Qcj,infoQ_eq]
  | false=>simp only[Qcj,qsq]
theorem Qqk:∀ (l:List (Nat×Nat)) (infos:List qta) (st:St) (e:E),runDQ M h dep ops l infos st e=Qql M h dep ops l infos st e
 | [],_,_,_=>rfl
 |(i,bef) :: l,infos,st,e=>by
  simp only[runDQ,Qql,qs0,outDQ_eq,Qqk l]<;>rfl
end eval_eq
theorem qkj (M:qf2) (fuel:Nat):∀ (c:qdr) {E:Type} (h:qbk E) (dep:Nat) (st:St) (e:E),qn6 M fuel c h dep st e=qbz M fuel c h dep st e
 | .skip,_,_,_,_,_ | .exit _,_,_,_,_,_ | .ret,_,_,_,_,_ | .bad,_,_,_,_,_ | .dreg _ _ _ _,_,_,_,_,_ | .rangeFunc _ _ _ _,_,_,_,_,_=>by simp only[qn6,qbz]<;>rfl
 | .norm _,_,_,_,_,_=>by simp only[qn6,qbz,qxq,Qly,qqz,qtb,qya,qvg]<;>rfl
 | .region ops none qjj,_,h,dep,st,e=>by simp only[qn6,qbz,qxq,Qly,qqz,qtb,qya,qvg,Qne]<;>rfl
 | .region ops (some bef) qjj,_,h,dep,st,e=>by simp only[qn6,qbz,qxq,Qly,qqz,qtb,qya,qvg,Qqk]<;>rfl
 | .seq a b,_,h,dep,st,e=>by simp only[qn6,qbz,qkj M fuel a,qkj M fuel b]<;>rfl
 | .cond c a b,_,h,dep,st,e=>by simp only[qn6,qbz,qkj M fuel a,qkj M fuel b]<;>rfl
 | .block id b,_,h,dep,st,e=>by simp only[qn6,qbz,qkj M fuel b]<;>rfl
 | .scope b,_,h,dep,st,e=>by simp only[qn6,qbz,qkj M fuel b]<;>rfl
 | .loop asg grow b,_,h,dep,st,e=>by simp only[qn6,qbz,qxq,Qly,qqz,qtb,qya,qvg,qkj M fuel b]<;>rfl
theorem callQ_eq (M:qf2) (n:Nat) (tab:FuncId→Option RFn):callQ M n tab=qq1 M n tab:=by
 funext E h dep f args e
 simp only[callQ,qq1,qn5,qkj,fV_eq,Qpl]<;>rfl
theorem qma (M:qf2) (fuel nt:Nat):∀ (c:qdr) (st:St),qm4 M fuel nt c st=qcw M fuel nt c st
 | .dreg ops f args live,st=>by simp only[qm4,qcw,Qne,qqz,Qly,qtb]<;>rfl
 | .seq a b,st=>by simp only[qm4,qcw,qma M fuel nt a,qma M fuel nt b]<;>rfl
 | .cond c a b,st=>by simp only[qm4,qcw,qma M fuel nt a,qma M fuel nt b]<;>rfl
 | .block id b,st=>by simp only[qm4,qcw,qma M fuel nt b]<;>rfl
 | .scope b,st=>by simp only[qm4,qcw,qma M fuel nt b]<;>rfl
 | .skip,_ | .region _ _ _,_ | .loop _ _ _,_ | .rangeFunc _ _ _ _,_ | .exit _,_ | .ret,_ | .norm _,_ | .bad,_=>by simp only[qm4,qcw,qkj]<;>rfl
theorem ioRawQ_eq (M:qf2) (n:Nat) (fn:RFn) (ins:List Ob) (vs:List PV):ioRawQ M n fn ins vs=qwh M n fn ins vs:=by
 unfold ioRawQ qwh
 simp only[qxq,qkj,qma]<;>rfl
theorem fObD_eq {R:Type} (o:Ob) (K:Ob→R):fObD o K=K o:=by cases o<;>simp only[fObD,qn5,Qb2]
theorem Qse {R:Type}:∀ (xs:List Ob) (K:List Ob→R),fObDs xs K=K xs
 | [],_=>rfl
 | x :: xs,K=>by simp only[fObDs];rw[fObD_eq,Qse xs]
theorem ioOfQ_eq (M:qf2) (n:Nat) (tab:FuncId→Option RFn):ioOfQ M n tab=Qmz M n tab:=by
 funext f dst σ vs
 unfold ioOfQ Qmz
 simp only[Qb2,Qse,qn5,ioRawQ_eq,qxq]<;>rfl
theorem Ql1 (memo:FuncId→List PV→Option PV) (sp:FuncId→(Nm→Option Ob)→List PV→Option Out) (tab:FuncId→Option RFn):∀ n,Ql2 memo sp tab n=Qb4 memo sp tab n
 | 0=>rfl
 | n+1=>by simp only[Ql2,Qb4,Ql1 memo sp tab n,callQ_eq,ioOfQ_eq]
theorem qbh {sp:FuncId→(Nm→Option Ob)→List PV→Option Out} {tab:FuncId→Option RFn} {l:qr2} (hl:qli sp tab l) {n:Nat} {g:FuncId} {args:List PV} {r:PV}
  (h:evalFq (Qki l) sp tab n Unit qbe 0 g args ()=some (r,[],())):∃ m,qbm sp tab m Unit qbe 0 g args ()=some (r,[],()) :=
 ev_known hl (n:=n) (by unfold evalFm;rw[←Ql1];exact h)
end
end Go.Ab

