/- Part 39 of a proof: laws of a machine. -/
import Derived.Test.YtekfceoganklgaaGreatDoorK08
set_option linter.all false

namespace Go.Ab
variable{args A:lS} {fn:Ah} {g:lL} {ins:lY} {n:Nat} {r v:PV} {s:Ss}
mutual
def S8:PV->PV->Bool
 | .bool a,.bool b=>a==b
 | .int k n,.int k' n'=>decide (k=k')&&decide (n=n')
 | .str s,.str s'=>decide (s=s')
 | .mu,.mu=>true
 | .mB,.mB=>true
 | .ni,.ni=>true
 | .mJ,.mJ=>true
 | .nn,.nn=>true
 | .ref J o,.ref nr o'=>decide (J=nr)&&decide (o=o')
 | .arr J k o n,.arr nr k' o' n'=>decide (J=nr)&&decide (k=k')&&decide (o=o')&&decide (n=n')
 | .mp J,.mp nr=>decide (J=nr)
 | .mY g t,.mY g' t'=>decide (g=g')&&decide (t=t')
 | .iface t x,.iface t' x'=>decide (t=t')&&S8 x x'
 | .ptr cs o,.ptr og o'=>decide (o=o')&&G7 cs og
 | .agg cs,.agg og=>G7 cs og
 | .fn g cs,.fn g' og=>decide (g=g')&&G7 cs og
 | .nb cs,.nb og=>G7 cs og
 | .sl k Z f,.sl k' yI f'=>decide (k=k')&&(f==f')&&G7 Z yI
 | _,_=>false
def G7:lS->lS->Bool
 | [],[]=>true
 | x :: Z,y :: ys=>S8 x y&&G7 Z ys
 | _,_=>false
end
mutual
theorem ZS:∀ (x y:PV),S8 x y=true->x=y
 | x,y,h=>by
  unfold S8 at h;split at h;{simpa using h};{simp only[ie,lw] at h;rw[h.1,h.2]};{simp only[lw] at h;rw[h]};{rfl};{rfl};{rfl};{rfl};{rfl};{simp only[ie,lw] at h;rw[h.1,h.2]};{simp only[ie,lw] at h;rw[h.1.1.1,h.1.1.2,h.1.2,h.2]};{simp only[lw] at h;rw[h]};{simp only[ie,lw] at h;rw[h.1,h.2]};{rename_i t x t' x';simp only[ie,lw] at h;rw[h.1,ZS x x' h.2]};{rename_i cs o og o';simp only[ie,lw] at h;rw[h.1,Ip cs og h.2]};{rename_i cs og;rw[Ip cs og h]};{rename_i g cs g' og;simp only[ie,lw] at h;rw[h.1,Ip cs og h.2]};{rename_i cs og;rw[Ip cs og h]};{rename_i k Z f k' yI f';simp only[ie,lw,ly] at h;rw[h.1.1,h.1.2,Ip Z yI h.2]};{cases h}
theorem Ip:∀ (Z ys:lS),G7 Z ys=true->Z=ys
 | Z,ys,h=>by
  unfold G7 at h;split at h;{rfl};{rename_i x Z y ys;simp only[ie] at h;rw[ZS x y h.1,Ip Z ys h.2]};{cases h}
end
def zfD:Ob->Ob->Bool
 | .cells t cs,.cells t' og=>decide (t=t')&&G7 cs og
 | .arr k t Z,.arr k' t' yI=>decide (k=k')&&(decide (t=t')&&G7 Z yI)
 | .map es,.map pq=>G7 es pq
 | _,_=>false
def Sw:lY->lY->Bool
 | [],[]=>true
 | x :: Z,y :: ys=>zfD x y&&Sw Z ys
 | _,_=>false
theorem zfE (x y:Ob) (h:zfD x y=true):x=y:=by unfold zfD at h;split at h;{simp only[ie,lw] at h;rw[h.1,Ip _ _ h.2]};{simp only[ie,lw] at h;rw[h.1,h.2.1,Ip _ _ h.2.2]};{rw[Ip _ _ h]};·cases h
theorem YK:∀ (Z ys:lY),Sw Z ys=true->Z=ys
 | Z,ys,h=>by
  unfold Sw at h;split at h;{rfl};{rename_i x Z y ys;simp only[ie] at h;rw[zfE x y h.1,YK Z ys h.2]};{cases h}
def Oe:FL->Jh
 | [],_,_,_=>none
 | p :: l,g,ins,A=>if p.1=g/\(G7 p.2.2.1 A&&Sw p.2.1 ins)=true then some p.2.2.2 else Oe l g ins A
section
variable {sp:lL->(Nm->lV)->lS->l5} {mq:lL->l6} {l:DS} {li:FL}
theorem UZ:∀ {li:FL},EU sp mq li->Tr sp mq (Oe li)
 | [],_,g,ins,A,s,v,fn,_,h=>by cases h
 | p :: li,hl,g,ins,A,s,v,fn,ht,h=>by
  unfold Oe at h;split at h;{rename_i hc;obtain⟨U,H⟩:=hc;simp only[ie] at H;have e1:=YK _ _ H.2;have e2:=Ip _ _ H.1;obtain⟨n,hn⟩:=hl p iw fn (by rw[U];exact ht);have h3:p.2.2.2=(s,v):=ic h;rw[e1,e2,h3] at hn;exact⟨n,hn⟩};{exact UZ (fun q hq=>hl q (iA _ hq)) g ins A s v fn ht h}
theorem Mo (hl:Dk sp mq l) (hi:EU sp mq li) 
  (h:(Dg (DM l) (Oe li) sp mq n).call Unit AL 0 g args ()=some (r,[],())):∃ m,Ei sp mq m Unit AL 0 g args ()=some (r,[],()):=by
 rw[MZ] at h;obtain⟨m,qn⟩:=Q3 (O4 (MX hl) (UZ hi) n) g args h;exact⟨m,qn m (ik _)⟩
theorem IC (hl:Dk sp mq l) (hi:EU sp mq li) 
  (h:(NX (Dg (DM l) (Oe li) sp mq n) n fn ins A).map (fun q=>(Ss.of q.1.V,q.2))=some (s,v)):∃ m,Db (Cb sp mq m) m fn ins A=some (s.V,v):=by
 have H:=Uv (Dg (DM l) (Oe li) sp mq n) n fn ins A;obtain⟨q,hq,hs⟩:=ij.1 h;obtain⟨rfl,rfl⟩:=Prod.mk.inj hs;rw[hq,MZ] at H;obtain⟨m,qn⟩:=M9 (O4 (MX hl) (UZ hi) n) n fn ins A H.symm;rw[HQ];exact⟨m,qn m (ik _)⟩
end
end Go.Ab

