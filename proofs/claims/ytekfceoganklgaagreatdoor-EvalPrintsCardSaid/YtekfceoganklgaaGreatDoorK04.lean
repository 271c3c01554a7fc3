/- Part 4 of a proof: laws of a machine. -/
import Derived.Test.YtekfceoganklgaaGreatDoorK03
import Derived.Test.YtekfceoganklgaaGreatDoorK02
import Derived.Test.YtekfceoganklgaaGreatDoorK01
set_option linter.all false

namespace Go.Ab
variable{E R α β ρ σ:Type} {n:Nat} {a:α} {f:Nat->Option α} {r:ρ} {s:σ} {step:σ->Option (Sum σ ρ)}
def Aa (x:Option α) (f:α->Option β):Option β :=
 match x with
 | some a=>f a
 | none=>none
def AH (v:PV) (a b:Option β):Option β :=
 match v with
 | .bool true=>a
 | .bool false=>b
 | _=>none
def J6 (v:Bool) (a b:Option β):Option β :=
 match v with
 | true=>a
 | false=>b
def AC (v:Bool) (a:Option β):Option β :=
 match v with
 | true=>a
 | false=>none
mutual
def Ax:PV->Bool
 | .undef | .bool _ | .int _ _ | .str _ | .mu | .mJ | .nn | .mB | .ni | .mY _ _=>true
 | .sl _ Z _=>AB Z | .ptr cs _=>AB cs | .agg cs=>AB cs | .iface _ x=>Ax x | .fn _ cap=>AB cap | .mn Z=>AB Z | .nb es=>AB es
 | .mF _ | .ref _ _ | .my _ _ _ _ | .arr _ _ _ _ | .mp _ | .it _=>false
def AB:lS->Bool
 | []=>true
 | x :: Z=>Ax x&&AB Z
end
def Ae (op:An):mc :=
 match exec 0 (fun _=>none) [] op with
 | some out=>some out.v
 | none=>none
def ptrO (cs:lS) (o:Nat):PV:=if o < cs.length then .ptr cs o else .undef
def zaF (k k':Nat) (Z:lS) (i o:Nat):PV:=if k=k' then (match Z[i]? with | some x=>if o < x.cells.length then .ptr x.cells o else .undef | none=>.undef) else .undef
def slO (k k':Nat) (Z:lS) (o n:Nat):PV:=if k=k'/\o+n<=Z.length then .sl k ((Z.drop o).take n) false else .undef
def BD (v:PV) (i:Nat):PV:=v.cells.getD i .undef
def FH (v:PV) (n:Nat):Bool:=v.isVal&&v.cells.length==n
def AN (v:PV) (o n:Nat) (ag:Bool):mc:=Cd v.cells o n ag
def elemO (Z:lS) (i o n:Nat) (ag:Bool):mc :=
 match Z[i]? with
 | some e=>Cd e.cells o n ag
 | none=>none
def setO (k:Nat) (Z:lS) (i o n:Nat) (v:PV):Option lS :=
 match Z[i]? with
 | some (.agg es)=>AC (v.isVal&&decide (v.cells.length=n)&&decide (o+n<=es.length)) (some (Z.set i (.agg (nc es o v.cells))))
 | some _=>AC (k==1&&o==0&&n==1&&v.o5) (some (Z.set i v))
 | none=>none
def natO (v:PV):lT:=Fk v
def P0 (x:mc) (d top:Nat):lT:=DQ x d top
def N3 (k:Nat) (v:PV):Option lS:=DD (fun _=>none) k v
def wo (k:Nat) (v:PV) (ys:lS):Option lS :=
 match v with
 | .mu=>AC (decide (ys.length<=EH)) (some ys)
 | .sl k' Z true=>match ys with
  | []=>none
  | y :: ys=>AC (k==k'&&decide (Z.length+(ys.length+1)<=EH)) (some (Z++y :: ys))
 | _=>none
def insO (c:TC) (es:lS) (k v:PV):Option lS :=
 match EP k v es with
 | some pq=>AC (GN c k&&v.isVal) (some pq)
 | none=>none
def lookO (c:TC) (z:PV) (ok:Bool) (es:lS) (k:PV):mc :=
 match G8 k es with
 | none=>none
 | some r=>AC (GN c k) (some (if ok then .mn [r.getD z,.bool r.isSome] else r.getD z))
def mkSO (l c:PV):lT :=
 match Fk l,Fk c with
 | some l,some c=>AC (decide (l<=c)&&decide (c<=EH)) (some l)
 | _,_=>none
def strO (v:PV):Option l4 :=
 match v with
 | .str s=>some s
 | _=>none
def zaG (s:l4) (pos:Nat):PV:=.int .i32 (Utf8.decode ⟨s.toArray⟩ pos).1
def zaH (s:l4) (pos:Nat):Nat:=(Utf8.decode ⟨s.toArray⟩ pos).2
def asP (e:lP) (v:PV) (f:PV->Option β) (g:Option β):Option β :=
 match v with
 | .mB=>g
 | .iface t x=>if t=e then f x else none
 | _=>none
def notNil (v:PV) (a:Option β):Option β :=
 match v with
 | .mu=>none
 | _=>a
def nilO (v:PV) (a:Option β):Option β :=
 match v with
 | .mu=>a
 | _=>none
def nilB (v:PV) (a b:Option β):Option β :=
 match v with
 | .mu=>a
 | _=>b
def UX (v:PV) (i:Nat):Bool :=
 match v.cells[i]? with
 | some .mu=>false
 | _=>true
def Af (A:lS) (i:Nat):PV:=A.getD i .undef
def Bj (v:PV):Nat :=
 match v with
 | .int _ n=>n.toNat
 | _=>0
def Bl (v:PV):lS :=
 match v with
 | .sl _ Z _=>Z
 | _=>[]
def Mx (v:PV):lS :=
 match v with
 | .nb es=>es
 | _=>[]
def strP (v:PV):l4 :=
 match v with
 | .str s=>s
 | _=>[]
def HX (v:PV) (i:Nat):PV :=
 match v with
 | .mn Z=>Z.getD i .undef
 | .agg Z=>Z.getD i .undef
 | _=>.undef
def BR (a b:Nat):Nat:=a+b
def subN (a b:Nat):Nat:=a - b
def minN (a b:Nat):Nat:=min a b
def Dd (a b:Nat):Bool:=Nat.ble a b
def ltN (a b:Nat):Bool:=Nat.blt a b
def yG (a b:Nat):Bool:=Nat.beq a b
def zaI (a b:Nat):Bool:=Nat.beq a b
def zaJ (a:Nat):Nat:=a / 2
def J8 (a b:Bool):Bool:=a&&b
def nI (n:Nat):PV:=.int .i64 (n:Int)
def AT (l:lS):Nat:=l.length
def B9 (n:Nat) (l:lS):lS:=l.take n
def Et (n:Nat) (l:lS):lS:=l.drop n
def J7 (l l':lS):lS:=l++l'
def S2 (n:Nat) (v:PV):lS:=List.replicate n v
def lenS (s:l4):Nat:=s.length
def FP (v:PV):lS:=v.cells
def zaK (l:lS) (n:Nat):Bool:=l.length==n&&AB l
def Ep (k:Nat) (l:lS):Bool:=l.all fun x=>x.isVal&&x.cells.length==k
def okSto (u w:PV) (o n:Nat):Bool:=u.isVal&&decide (u.cells.length=n)&&decide (o+n<=w.cells.length)
def stoP (u w:PV) (o:Nat):PV:=.agg (nc w.cells o u.cells)
def isNoneE (p:Option Ex):Bool :=
 match p with
 | none=>true
 | _=>false
def zaL (p:Option Ex):Bool :=
 match p with
 | some .ret=>true
 | _=>false
def bj (p:Option Ex) (id:Nat):Bool :=
 match p with
 | some (.exit pw)=>Nat.beq pw id
 | _=>false
def Fy (v:PV):Bool:=v.isVal
def okU (v:PV):Bool:=Ax v
def BF (A:lS):Bool:=A.all fun v=>!B2 v
def noYL (A:lS):Bool:=!A5 A
def PA (v:PV):Bool :=
 match v with
 | .mJ=>true
 | _=>false
def bi (v:PV):Bool :=
 match v with
 | .mu=>true
 | _=>false
def IG (Z:lS):PV :=
 match Ef Z with
 | some s=>.str s
 | none=>.undef
def Mc (k:Nat) (Z:lS):Bool:=(Ef (Z.take k)).isSome&&(decide (0 < k)&&(decide (k<=Z.length)&&decide (k<=EH)))
open Classical in
noncomputable def lim (f:Nat->Option α):Option α:=if h:∃ a,AZ fun n=>f n=some a then some h.choose else none
theorem Pe (h:lim f=some a):AZ fun n=>f n=some a:=by unfold lim at h;split at h;{rename_i O;have:=O.choose_spec;cases h;exact this};{cases h}
theorem AZ.unique {b:α} (h:AZ fun n=>f n=some a) (h':AZ fun n=>f n=some b):a=b:=by obtain⟨m,hm⟩:=h.and h';have:=hm m (ik _);exact ic (this.1.symm.trans this.2)
theorem Sv (h:AZ fun n=>f n=some a):lim f=some a:=by unfold lim;have O:∃ a,AZ fun n=>f n=some a:=⟨a,h⟩;rw[dif_pos O];exact lD some (AZ.unique O.choose_spec h)
def GQ {σ ρ:Type} (step:σ->Option (Sum σ ρ)):Nat->σ->Option ρ
 | 0,_=>none
 | n+1,s=>KH (GQ step n) some (step s)
noncomputable def Bz (step:σ->Option (Sum σ ρ)) (s:σ):Option ρ:=lim fun n=>GQ step n s
theorem wq:∀ {n m:Nat} {s:σ} {r:ρ},n<=m->GQ step n s=some r->GQ step m s=some r:=by
 intro n;induction n with
 | zero=>intro m s r _ h;cases h
 | succ n ih =>
  intro m s r hm h;obtain⟨m,rfl⟩:∃ k,m=k+1:=⟨m - 1,by omega⟩;unfold GQ at h |-;revert h;rcases step s with _ | (s1 | r1)<;>intro h;{exact h};{exact ih (by omega) h};{exact h}
theorem QW (h:Bz step s=some r):∃ n,GQ step n s=some r:=by obtain⟨m,hm⟩:=Pe h;exact⟨m,hm m (ik _)⟩
theorem U1 (h:GQ step n s=some r):Bz step s=some r :=
 Sv ⟨n,fun _ hk=>wq hk h⟩
theorem ZO (step:σ->Option (Sum σ ρ)) (s:σ):Bz step s=KH (Bz step) some (step s):=by
 cases hs:step s with
 | none =>
  cases hl:Bz step s with
  | none=>rfl
  | some r =>
   obtain⟨n,hn⟩:=QW hl;cases n with
   | zero=>cases hn
   | succ n=>unfold GQ at hn;rw[hs] at hn;cases hn
 | some q =>
  cases q with
  | inl s1 =>
   show Bz step s=Bz step s1;cases hl:Bz step s with
   | some r =>
    obtain⟨n,hn⟩:=QW hl;cases n with
    | zero=>cases hn
    | succ n=>unfold GQ at hn;rw[hs] at hn;exact (U1 hn).symm
   | none =>
    cases hl1:Bz step s1 with
    | none=>rfl
    | some r =>
     obtain⟨n,hn⟩:=QW hl1;have:Bz step s=some r:=U1 (n:=n+1) (by unfold GQ;rw[hs];exact hn);rw[hl] at this;cases this
  | inr r=>exact U1 (n:=1) (by unfold GQ;rw[hs];rfl)
theorem Hs {s':σ} (h:step s=some (.inl s')):Bz step s=Bz step s':=by rw[ZO,h];rfl
theorem EC (h:step s=some (.inr r)):Bz step s=some r:=by rw[ZO,h];rfl
inductive KV where
 | un | sk
 | lit (b:Bool)
 | nz
 | cv (v:PV)
 | mF (d:Nat)
 | ref (J:Nm) (o:Nat)
 | my (J:Nm) (k i o:Nat)
 | arr (J:Nm) (k o n:Nat)
 | mp (J:Nm)
 | it (J:Nm)
 | oh (J:Nm)
 | agg (cs:List KV)
 | iface (t:lP) (x:KV)
 | fn (f:lL) (cap:List KV)
 | mn (Z:List KV)
 deriving Inhabited
abbrev lX:=List KV
mutual
def KV.pv:KV->PV
 | .un=>.undef | .sk=>.mn [] | .lit b=>.bool b | .nz=>.mu | .cv v=>v | .mF d=>.mF d
 | .ref J o=>.ref J o | .my J k i o=>.my J k i o | .arr J k o n=>.arr J k o n | .mp J=>.mp J | .it J=>.it J | .oh J=>.arr J 1 0 0
 | .agg cs=>.agg (AE cs) | .iface t x=>.iface t x.pv | .fn f cap=>.fn f (AE cap) | .mn Z=>.mn (AE Z)
def AE:lX->lS
 | []=>[]
 | x :: Z=>x.pv :: AE Z
end
mutual
def KV.names:KV->lW
 | .un | .sk | .lit _ | .nz | .cv _ | .mF _=>[]
 | .ref J _=>[J] | .my J _ _ _=>[J] | .arr J _ _ _=>[J] | .mp J=>[J] | .it J=>[J] | .oh J=>[J]
 | .agg cs=>CY cs | .iface _ x=>x.names | .fn _ cap=>CY cap | .mn Z=>CY Z
def CY:lX->lW
 | []=>[]
 | x :: Z=>x.names++CY Z
end
mutual
def KV.mV:KV->Bool
 | .mF _=>true
 | .agg cs=>EZ cs | .iface _ x=>x.mV | .fn _ cap=>EZ cap | .mn Z=>EZ Z
 | .un | .sk | .lit _ | .nz | .cv _ | .ref _ _ | .my _ _ _ _ | .arr _ _ _ _ | .mp _ | .it _ | .oh _=>false
def EZ:lX->Bool
 | []=>false
 | x :: Z=>x.mV||EZ Z
end
mutual
def KV.cl:KV->mc
 | .lit b=>some (.bool b) | .nz=>some .mu | .cv v=>some v
 | .agg cs=>(Du cs).map .agg | .iface t x=>x.cl.map (.iface t) | .fn f cap=>(Du cap).map (.fn f)
 | .un | .sk | .mF _ | .ref _ _ | .my _ _ _ _ | .arr _ _ _ _ | .mp _ | .it _ | .oh _ | .mn _=>none
def Du:lX->Option lS
 | []=>some []
 | x :: Z=>match x.cl,Du Z with
  | some v,some A=>some (v :: A)
  | _,_=>none
end
mutual
def KV.off (p:Nm->Bool):KV->KV
 | .ref J o=>if p J then .un else .ref J o
 | .my J k i o=>if p J then .un else .my J k i o
 | .arr J k o n=>if p J then .un else .arr J k o n
 | .mp J=>if p J then .un else .mp J
 | .it J=>if p J then .un else .it J
 | .oh J=>if p J then .un else .oh J
 | .agg cs=>.agg (Ly p cs) | .iface t x=>.iface t (x.off p) | .fn f cap=>.fn f (Ly p cap) | .mn Z=>.mn (Ly p Z)
 | .un=>.un | .sk=>.sk | .lit b=>.lit b | .nz=>.nz | .cv v=>.cv v | .mF d=>.mF d
def Ly (p:Nm->Bool):lX->lX
 | []=>[]
 | x :: Z=>x.off p :: Ly p Z
end
mutual
def KV.mz (f:Nm->Nm):KV->KV
 | .ref J o=>.ref (f J) o | .my J k i o=>.my (f J) k i o | .arr J k o n=>.arr (f J) k o n | .mp J=>.mp (f J) | .it J=>.it (f J) | .oh J=>.oh (f J)
 | .agg cs=>.agg (EN f cs) | .iface t x=>.iface t (x.mz f) | .fn g cap=>.fn g (EN f cap) | .mn Z=>.mn (EN f Z)
 | .un=>.un | .sk=>.sk | .lit b=>.lit b | .nz=>.nz | .cv v=>.cv v | .mF d=>.mF d
def EN (f:Nm->Nm):lX->lX
 | []=>[]
 | x :: Z=>x.mz f :: EN f Z
end
inductive Ad where
 | cells (ty:Nat) (cs:lX)
 | whole (ty:Nat) (v:PV)
 | arr (k ty:Nat) (Z:lS)
 | map (es:lS)
 | mD (s:l4) (pos:Nat)
 deriving Inhabited
abbrev me:=Option Ad
abbrev lZ:=List Ad
def Ad.ob:Ad->Ob
 | .cells ty cs=>.cells ty (AE cs)
 | .whole ty v=>.cells ty (FP v)
 | .arr k kt Z=>.arr k kt Z
 | .map es=>.map es
 | .mD s pos=>.mD s pos
def Ad.names:Ad->lW
 | .cells _ cs=>CY cs
 | _=>[]
def Ad.off (p:Nm->Bool):Ad->Ad
 | .cells ty cs=>.cells ty (Ly p cs)
 | o=>o
def Ad.mz (f:Nm->Nm):Ad->Ad
 | .cells ty cs=>.cells ty (EN f cs)
 | o=>o
abbrev Sp:=List (Nat×KV)
abbrev mg:=List Sp
abbrev AV:=List (Nat×lZ)
def AS:Sp->Nat->KV
 | [],_=>.un
 |(j,v) :: l,i=>match Nat.beq i j with
  | true=>v
  | false=>AS l i
def CP (i:Nat) (v:KV):Sp->Sp
 | []=>[(i,v)]
 |(j,u) :: l=>match Nat.beq i j with
  | true=>(i,v) :: l
  | false=>match Nat.blt i j with
   | true=>(i,v) :: (j,u) :: l
   | false=>(j,u) :: CP i v l
def K6 (i:Nat):Sp->Sp
 | []=>[]
 |(j,u) :: l=>match Nat.beq i j with
  | true=>K6 i l
  | false=>(j,u) :: K6 i l
def N8 (i:Nat) (v:KV) (l:Sp):Sp :=
 match v with
 | .un=>K6 i l
 | v=>CP i v l
def Dz (f:KV->KV):Sp->Sp
 | []=>[]
 |(j,u) :: l=>match f u with
  | .un=>Dz f l
  | u=>(j,u) :: Dz f l
def FM (p:Nat->Bool):Sp->Sp
 | []=>[]
 |(j,u) :: l=>match p j with
  | true=>(j,u) :: FM p l
  | false=>FM p l
def Gi:Sp->Nat->Bool
 | [],_=>false
 |(j,_) :: l,i=>match Nat.beq i j with
  | true=>true
  | false=>Gi l i
def Fe:Sp->lW
 | []=>[]
 |(_,u) :: l=>u.names++Fe l
def A2:AV->Nat->lZ
 | [],_=>[]
 |(j,v) :: l,i=>match Nat.beq i j with
  | true=>v
  | false=>A2 l i
def Eo (i:Nat) (v:lZ):AV->AV
 | []=>[(i,v)]
 |(j,u) :: l=>match Nat.beq i j with
  | true=>(i,v) :: l
  | false=>match Nat.blt i j with
   | true=>(i,v) :: (j,u) :: l
   | false=>(j,u) :: Eo i v l
def E6 (f:Ad->Ad):AV->AV
 | []=>[]
 |(j,u) :: l=>(j,u.map f) :: E6 f l
def KF (p:Nat->Bool):AV->AV
 | []=>[]
 |(j,u) :: l=>match p j with
  | true=>(j,u) :: KF p l
  | false=>KF p l
def Hw:AV->lW
 | []=>[]
 |(_,u) :: l=>u.flatMap Ad.names++Hw l
structure Aw where
 nt:Nat
 tmps:Sp
 mi:AV
 mj:mg
 deriving Inhabited
def Bi (nt:Nat) (l:Sp):lS:=(List.range nt).map fun i=>(AS l i).pv
def Co (nt:Nat) (l:AV):List lY:=(List.range nt).map fun i=>(A2 l i).map Ad.ob
def Aw.V (ks:Aw):St:={tmps:=Bi ks.nt ks.tmps,mi:=Co ks.nt ks.mi,mj:=ks.mj.flatMap (Bi ks.nt)}
def A4 (σ:AV) (J:Nm):me:=(A2 σ J.1)[J.2]?
def pg (σ:AV) (J:Nm) (o:Ad):AV :=
 match A4 σ J with
 | some _=>Eo J.1 ((A2 σ J.1).set J.2 o) σ
 | none=>σ
def GH (σ:Nm->me):Nat->lW->lW
 | 0,l=>l
 | d+1,l=>l++GH σ d (l.flatMap fun J=>((σ J).map Ad.names).getD [])
def K9 (σ:Nm->me) (R:lW):Bool:=R.all fun J=>(((σ J).map Ad.names).getD []).all fun m=>R.contains m
mutual
def KV.close (g:Nm->lV):KV->PV
 | .ref J o=>match g J with
  | some (.cells _ cs)=>ptrO cs o
  | _=>.undef
 | .my J k i o=>match g J with
  | some (.arr k' kt Z)=>zaF k k' Z i o
  | _=>.undef
 | .arr J k o n=>match g J with
  | some (.arr k' kt Z)=>slO k k' Z o n
  | _=>.undef
 | .mp J=>match g J with
  | some (.map es)=>.nb es
  | _=>.undef
 | .it _=>.undef
 | .oh J=>match g J with
  | some (.arr k' kt Z)=>slO 1 k' Z 0 0
  | _=>.undef
 | .agg cs=>.agg (FO g cs) | .iface t x=>.iface t (x.close g) | .fn f cap=>.fn f (FO g cap) | .mn Z=>.mn (FO g Z)
 | .un=>.undef | .sk=>.mn [] | .lit b=>.bool b | .nz=>.mu | .cv v=>v | .mF d=>.mF d
def FO (g:Nm->lV):lX->lS
 | []=>[]
 | x :: Z=>x.close g :: FO g Z
end
def Ad.close (g:Nm->lV):Ad->Ob
 | .cells ty cs=>.cells ty (FO g cs)
 | o=>o.ob
def CZ (σ:Nm->me):Nat->Nm->lV
 | 0,J=>(σ J).map (Ad.close fun _=>none)
 | d+1,J=>(σ J).map (Ad.close (CZ σ d))
mutual
def KV.mX (p:Nm->Bool) (g:Nm->lV):KV->KV
 | .ref J o=>if p J then .cv ((KV.ref J o).close g) else .ref J o
 | .my J k i o=>if p J then .cv ((KV.my J k i o).close g) else .my J k i o
 | .arr J k o n=>if p J then .cv ((KV.arr J k o n).close g) else .arr J k o n
 | .mp J=>if p J then .cv ((KV.mp J).close g) else .mp J
 | .it J=>if p J then .un else .it J
 | .oh J=>if p J then .cv ((KV.oh J).close g) else .oh J
 | .agg cs=>.agg (LC p g cs) | .iface t x=>.iface t (x.mX p g) | .fn f cap=>.fn f (LC p g cap) | .mn Z=>.mn (LC p g Z)
 | .un=>.un | .sk=>.sk | .lit b=>.lit b | .nz=>.nz | .cv v=>.cv v | .mF d=>.mF d
def LC (p:Nm->Bool) (g:Nm->lV):lX->lX
 | []=>[]
 | x :: Z=>x.mX p g :: LC p g Z
end
def Ad.mX (p:Nm->Bool) (g:Nm->lV):Ad->Ad
 | .cells ty cs=>.cells ty (LC p g cs)
 | o=>o
def Fl:Ad:=.arr 0 0 []
def NU (p:Nm->Bool) (ks:Aw):Aw:={ks with tmps:=Dz (KV.off p) ks.tmps,mi:=E6 (Ad.off p) ks.mi,mj:=ks.mj.map (Dz (KV.off p))}
def R2 (σ:Nm->me) (R:lW) (ks:Aw):Aw :=
 let p:=fun m=>R.contains m
 let g:=CZ σ AG
 {ks with tmps:=Dz (KV.mX p g) ks.tmps,mi:=R.foldl (fun mi J=>pg mi J Fl) (E6 (Ad.mX p g) ks.mi),mj:=ks.mj.map (Dz (KV.mX p g))}
mutual
def KQ {R:Type}:KV->(KV->R)->R
 | .un,K=>K .un | .sk,K=>K .sk | .lit b,K=>(match b with | true=>K (.lit true) | false=>K (.lit false)) | .nz,K=>K .nz | .cv v,K=>K (.cv v) | .mF d,K=>K (.mF d)
 | .ref J o,K=>(match J with | (a,b)=>K (.ref (a,b) o)) | .my J k i o,K=>(match J with | (a,b)=>K (.my (a,b) k i o)) | .arr J k o n,K=>(match J with | (a,b)=>K (.arr (a,b) k o n))
 | .mp J,K=>(match J with | (a,b)=>K (.mp (a,b))) | .it J,K=>(match J with | (a,b)=>K (.it (a,b))) | .oh J,K=>(match J with | (a,b)=>K (.oh (a,b)))
 | .agg cs,K=>Mj cs fun cs=>K (.agg cs) | .iface t x,K=>KQ x fun x=>K (.iface t x) | .fn f cap,K=>Mj cap fun cap=>K (.fn f cap) | .mn Z,K=>Mj Z fun Z=>K (.mn Z)
def Mj {R:Type}:lX->(lX->R)->R
 | [],K=>K []
 | x :: Z,K=>KQ x fun x=>Mj Z fun Z=>K (x :: Z)
end
def Vw:Ad->(Ad->R)->R
 | .cells ty cs,K=>Mj cs fun cs=>K (.cells ty cs)
 | .whole ty v,K=>K (.whole ty v) | .arr k kt Z,K=>K (.arr k kt Z) | .map es,K=>K (.map es) | .mD s pos,K=>K (.mD s pos)
def RM {R:Type}:lZ->(lZ->R)->R
 | [],K=>K []
 | x :: Z,K=>Vw x fun x=>RM Z fun Z=>K (x :: Z)
def PD {R:Type}:Sp->(Sp->R)->R
 | [],K=>K []
 |(j,x) :: Z,K=>KQ x fun x=>PD Z fun Z=>K ((j,x) :: Z)
def R3 {R:Type}:AV->(AV->R)->R
 | [],K=>K []
 |(j,x) :: Z,K=>RM x fun x=>R3 Z fun Z=>K ((j,x) :: Z)
def R4 {R:Type}:mg->(mg->R)->R
 | [],K=>K []
 | x :: Z,K=>PD x fun x=>R4 Z fun Z=>K (x :: Z)
def Cp (ks:Aw) (K:Aw->R):R :=
 match ks with
 | ⟨nt,tmps,mi,mj⟩=>PD tmps fun a=>R3 mi fun b=>R4 mj fun c=>K {nt,tmps:=a,mi:=b,mj:=c}
def Id (v:PV):KV :=
 match v with
 | .bool b=>.lit b
 | .mu=>.nz
 | .fn f []=>.fn f []
 | v=>.cv v
def RX.kv (tm:Sp):RX->KV
 | .t i=>AS tm i
 | .c v=>Id v
def Ey:RX->Bool
 | .t _=>true
 | .c v=>Ax v
def An.oB (g:RX->RX):An->An
 | .mov x=>.mov (g x) | .pick c a b=>.pick (g c) (g a) (g b) | .box x=>.box (g x) | .alloc ty z=>.alloc ty z
 | .build z ps=>.build z (ps.map fun p=>(p.1,p.2.1,g p.2.2)) | .qf k ps=>.qf k (ps.map g) | .load n ag x=>.load n ag (g x) | .store n x v=>.store n (g x) (g v)
 | .nilck x=>.nilck (g x) | .bin op c pU x y=>.bin op c pU (g x) (g y) | .un op x=>.un op (g x) | .conv k x=>.conv k (g x) | .nS x=>.nS (g x) | .ofBytes x=>.ofBytes (g x)
 | .oe x=>.oe (g x) | .pt x=>.pt (g x) | .mkI t x=>.mkI t (g x) | .mkF f cap=>.mkF f (cap.map g) | .mkMap=>.mkMap | .insert c x k v=>.insert c (g x) (g k) (g v)
 | .lookup c z ok x k=>.lookup c z ok (g x) (g k) | .uN k z l c=>.uN k z (g l) (g c) | .slice k x lo hi mx=>.slice k (g x) (lo.map g) (hi.map g) (mx.map g) | .nB x lo hi=>.nB (g x) (lo.map g) (hi.map g)
 | .fieldAddr off x=>.fieldAddr off (g x) | .field off n ag x=>.field off n ag (g x) | .mw k x i=>.mw k (g x) (g i) | .nL k l x i=>.nL k l (g x) (g i) | .oE x i=>.oE (g x) (g i)
 | .extract j x=>.extract j (g x) | .len c x=>.len c (g x) | .append k ty s x=>.append k ty (g s) (g x) | .copy k d s=>.copy k (g d) (g s) | .nQ mx Z=>.nQ mx (Z.map g) | .call f args=>.call (g f) (args.map g)
 | .iter x=>.iter (g x) | .next x=>.next (g x) | .nJ t z ok x=>.nJ t z ok (g x) | .bad=>.bad
def zaM (tm:Sp) (x:RX):RX:=.c (((x.kv tm).cl).getD .undef)
structure Au where
 v:KV
 new:lZ:=[]
 nf:Option (Nm×Ad):=none
 kill:Option Nm:=none
 mX:lW:=[]
 gone:lW:=[]
 nh:List (Nm×Ad):=[]
 io:Bool:=false
 slot:lT:=none
def isG:An->Bool
 | .build _ _ | .load _ _ _ | .nilck _ | .bin _ _ _ _ _ | .un _ _ | .conv _ _ | .nS _ | .ofBytes _ | .oe _ | .pt _ | .lookup _ _ _ _ _ | .slice _ _ _ _ _ | .nB _ _ _
 | .fieldAddr _ _ | .field _ _ _ _ | .mw _ _ _ | .nL _ _ _ _ | .oE _ _ | .extract _ _ | .len _ _ | .nQ _ _ | .nJ _ _ _ _=>true
 | _=>false
def okOp:An->Bool
 | .build z _=>AB z
 | .lookup _ z _ _ _=>Ax z
 | .nJ _ z _ _=>Ax z
 | _=>true
def gO (tm:Sp) (op:An) (K:Au->Option R):Option R :=
 if (isG op&&okOp op&&op.Z.all fun x=>((x.kv tm).cl).isSome) then Aa (Ae (op.oB (zaM tm))) fun z=>K {v:=.cv z} else none
def SO (n:Nat) (x:KV) (K:lX->Option R):Option R :=
 match x with
 | .agg cs=>if cs.length=n then K cs else none
 | .cv v=>AC (FH v n) (K ((List.range n).map fun i=>.cv (BD v i)))
 | .un | .sk | .mn _=>none
 | y=>if n=1 then K [y] else none
def Tc {R:Type} (tm:Sp):lX->List (Nat×Nat×RX)->(lX->Option R)->Option R
 | z,[],K=>K z
 | z,(off,n,x) :: ps,K=>SO n (x.kv tm) fun cs=>if off+n<=z.length then Tc tm (z.take off++cs++z.drop (off+n)) ps K else none
def PY (σ:Nm->me) (k:Nat) (x:KV) (K:lS->Option R):Option R :=
 match x with
 | .arr J k' o n=>match σ J with
  | some (.arr qg kt Z)=>if k=k'/\k'=qg then AC (Dd (BR o n) (AT Z)) (K (B9 n (Et o Z))) else none
  | _=>none
 | x=>match x.cl with
  | some v=>Aa (N3 k v) K
  | none=>none
def zaN:KV->Bool
 | .fn f _=>Nat.ble Dj f
 | _=>false
def Cq (d:Nat) (σ:Nm->me) (tm:Sp) (op:An) (K:Au->Option R):Option R :=
 match op with
 | .mov x=>K {v:=x.kv tm}
 | .pick c a b=>match c.kv tm with
  | .lit true=>K {v:=a.kv tm}
  | .lit false=>K {v:=b.kv tm}
  | .cv v=>AH v (K {v:=a.kv tm}) (K {v:=b.kv tm})
  | _=>none
 | .box x=>match x.kv tm with
  | .cv v=>AC (Fy v) (K {v:=.ref (d,0) 0,new:=[.whole 0 v]})
  | .agg cs=>K {v:=.ref (d,0) 0,new:=[.cells 0 cs]}
  | .un | .sk | .mn _=>none
  | y=>K {v:=.ref (d,0) 0,new:=[.cells 0 [y]]}
 | .alloc ty z=>if AB z then K {v:=.ref (d,0) 0,new:=[.cells ty (z.map Id)]} else none
 | .build z ps =>
  if !ps.isEmpty&&((ps.all fun p=>((p.2.2.kv tm).cl).isSome)&&Nat.ble z.length 6) then gO tm (.build z ps) K
  else if AB z then Tc tm (z.map Id) ps fun cs=>K {v:=.agg cs} else none
 | .qf k ps =>
  let Z:=ps.map (RX.kv tm)
  match Du Z with
  | some A=>AC (Ep k A) (K {v:=.arr (d,0) k 0 (AT A),new:=[.arr k 0 A]})
  | none =>
   let R:=GH σ AG (CY Z)
   if (CY Z).isEmpty then none
   else if K9 σ R/\EZ Z=false then
    let ys:=FO (CZ σ AG) Z
    AC (Ep k ys) (K {v:=.arr (d,0) k 0 (AT ys),new:=[.arr k 0 ys],mX:=R})
   else none
 | .load n ag x=>match x.kv tm with
  | .ref J o=>match σ J with
   | some (.cells _ cs)=>if ag then (if o+n<=cs.length then K {v:=.agg ((cs.drop o).take n)} else none) else (match cs[o]? with | some c=>K {v:=c} | none=>none)
   | some (.whole _ v)=>Aa (AN v o n ag) fun z=>K {v:=.cv z}
   | _=>none
  | .my J k i o=>match σ J with
   | some (.arr k' kt Z)=>if k=k' then Aa (elemO Z i o n ag) fun z=>K {v:=.cv z} else none
   | _=>none
  | _=>gO tm op K
 | .store n x v=>match x.kv tm with
  | .ref J o=>match σ J with
   | some (.cells ty cs)=>SO n (v.kv tm) fun A=>if o+n<=cs.length then K {v:=.un,nf:=some (J,.cells ty (cs.take o++A++cs.drop (o+n)))} else none
   | some (.whole ty w)=>match (v.kv tm).cl with
    | some u=>AC (okSto u w o n) (K {v:=.un,nf:=some (J,.whole ty (stoP u w o))})
    | none=>none
   | _=>none
  | .my J k i o=>match σ J with
   | some (.arr k' kt Z)=>match (v.kv tm).cl with
    | some u=>if k=k' then Aa (setO k Z i o n u) fun ys=>K {v:=.un,nf:=some (J,.arr k kt ys)} else none
    | none=>none
   | _=>none
  | _=>none
 | .nilck x=>match x.kv tm with
  | .ref J o=>K {v:=.ref J o}
  | .my J k i o=>K {v:=.my J k i o}
  | .fn f cap=>K {v:=.fn f cap}
  | .mF l=>K {v:=.mF l}
  | _=>gO tm op K
 | .bin o c pU x y=>match x.kv tm,y.kv tm with
  | .ref _ _,.cv v=>match o with
   | .eql=>J6 (match c,v with | .ptr,.mJ=>true | _,_=>false) (K {v:=.lit false}) none
   | .neq=>J6 (match c,v with | .ptr,.mJ=>true | _,_=>false) (K {v:=.lit true}) none
   | _=>none
  | _,_=>gO tm op K
 | .un .not x=>match x.kv tm with
  | .lit b=>K {v:=.lit (!b)}
  | _=>gO tm op K
 | .mkI t x=>match (x.kv tm).cl with
  | some v=>K {v:=.cv (.iface t v)}
  | none=>match x.kv tm with
   | .un | .sk | .mn _ | .mF _=>none
   | y=>K {v:=.iface t y}
 | .mkF f cap=>if (cap.map (RX.kv tm)).all fun | .un | .sk | .mn _ | .mF _=>false | _=>true then K {v:=.fn f (cap.map (RX.kv tm))} else none
 | .mkMap=>K {v:=.mp (d,0),new:=[.map []]}
 | .insert c x k v=>match x.kv tm with
  | .mp J=>match σ J,(k.kv tm).cl,(v.kv tm).cl with
   | some (.map es),some kk,some vv=>Aa (insO c es kk vv) fun pq=>K {v:=.un,nf:=some (J,.map pq)}
   | some (.map es),some kk,none =>
    let R:=GH σ AG (CY [v.kv tm])
    if (CY [v.kv tm]).isEmpty||zaN (v.kv tm) then none
    else if K9 σ R/\EZ [v.kv tm]=false/\R.contains J=false then
     Aa (insO c es kk (Af (FO (CZ σ AG) [v.kv tm]) 0)) fun pq=>K {v:=.un,nf:=some (J,.map pq),mX:=R}
    else none
   | _,_,_=>none
  | _=>none
 | .lookup c z ok x k=>match x.kv tm with
  | .mp J=>match σ J,(k.kv tm).cl with
   | some (.map es),some kk=>if Ax z=true then Aa (lookO c z ok es kk) fun v=>K {v:=.cv v} else none
   | _,_=>none
  | _=>gO tm op K
 | .uN k z l c=>match (l.kv tm).cl,(c.kv tm).cl with
  | some l,some c=>if z.cells.length=k/\Ax z=true then Aa (mkSO l c) fun n=>K {v:=.arr (d,0) k 0 n,new:=[.arr k 0 (S2 n z)]} else none
  | _,_=>none
 | .slice k x lo hi mx=>match x.kv tm with
  | .arr J k' o n =>
   if k=k'/\(mx.isNone\/hi.isSome)/\(lo.toList++hi.toList++mx.toList).all fun y=>((y.kv tm).cl).isSome then
    let ev:=fun (y:RX)=>((y.kv tm).cl).getD .undef
    Aa (P0 (mx.map ev) n n) fun m=>Aa (P0 (hi.map ev) n m) fun h =>
     match lo with
     | none=>K {v:=.arr J k o h}
     | some lo=>Aa (P0 (some (ev lo)) 0 h) fun l=>J6 (J8 (yG h l) (ltN 0 l)) (K {v:=.cv (.sl k [] false)}) (K {v:=.arr J k (BR o l) (subN h l)})
   else none
  | _=>gO tm op K
 | .fieldAddr off x=>match x.kv tm with
  | .ref J o=>K {v:=.ref J (o+off)}
  | .my J k i o=>K {v:=.my J k i (o+off)}
  | _=>gO tm op K
 | .field off n ag x=>match x.kv tm with
  | .agg cs=>if ag then (if off+n<=cs.length then K {v:=.agg ((cs.drop off).take n)} else none) else (match cs[off]? with | some c=>K {v:=c} | none=>none)
  | _=>gO tm op K
 | .mw k x i=>match x.kv tm with
  | .arr J k' o n=>match (i.kv tm).cl with
   | some i=>if k=k' then Aa (natO i) fun j=>AC (ltN j n) (K {v:=.my J k (BR o j) 0}) else none
   | none=>none
  | _=>gO tm op K
 | .extract j x=>match x.kv tm with
  | .mn Z=>match Z[j]? with
   | some v=>K {v}
   | none=>none
  | _=>gO tm op K
 | .len c x=>match x.kv tm with
  | .arr _ _ _ n=>match c with
   | .slice=>K {v:=.cv (nI n)}
   | _=>none
  | .mp J=>match c,σ J with
   | .map,some (.map es)=>K {v:=.cv (nI (zaJ (AT es)))}
   | _,_=>none
  | _=>gO tm op K
 | .ofBytes x=>match x.kv tm with
  | .arr J k o n=>PY σ 1 (.arr J k o n) fun ys=>Aa (Ae (.ofBytes (.c (.sl 1 ys false)))) fun z=>K {v:=.cv z}
  | _=>gO tm op K
 | .append k ty s x=>PY σ k (x.kv tm) fun ys =>
  match s.kv tm with
  | .arr J k' o n=>match σ J with
   | some (.arr qg kt Z)=>if k=k'/\k'=qg/\o=0 then AC (J8 (Dd n (AT Z)) (Dd (BR n (AT ys)) EH)) (K {v:=.arr J k 0 (BR n (AT ys)),nf:=some (J,.arr k (if kt=ty then ty else 0) (J7 (B9 n Z) ys)),kill:=some J}) else none
   | _=>none
  | .nz=>AC (Dd (AT ys) EH) (K {v:=.arr (d,0) k 0 (AT ys),new:=[.arr k ty ys]})
  | .cv v=>Aa (wo k v ys) fun zs=>K {v:=.arr (d,0) k 0 (AT zs),new:=[.arr k ty zs]}
  | _=>none
 | .copy k x s=>PY σ k (s.kv tm) fun ys =>
  match x.kv tm with
  | .arr J k' o n=>match σ J with
   | some (.arr qg kt Z)=>if k=k'/\k'=qg then AC (Dd (BR o n) (AT Z)) (K {v:=.cv (nI (minN (AT ys) n)),nf:=some (J,.arr k kt (J7 (J7 (B9 o Z) (B9 n ys)) (Et (BR o (AT (B9 n ys))) Z)))}) else none
   | _=>none
  | .nz=>K {v:=.cv (nI 0)}
  | _=>none
 | .iter x=>match (x.kv tm).cl with
  | some v=>Aa (strO v) fun s=>K {v:=.it (d,0),new:=[.mD s 0]}
  | none=>none
 | .next x=>match x.kv tm with
  | .it J=>match σ J with
   | some (.mD s pos)=>J6 (ltN pos (lenS s)) (K {v:=.mn [.lit true,.cv (nI pos),.cv (zaG s pos)],nf:=some (J,.mD s (BR pos (zaH s pos)))}) (K {v:=.mn [.lit false]})
   | _=>none
  | _=>none
 | .nJ t z ok x=>match x.kv tm with
  | .iface u y=>if u=t then K {v:=if ok then .mn [y,.lit true] else y} else if ok=true/\Ax z=true then K {v:=.mn [.cv z,.lit false]} else none
  | _=>gO tm op K
 | .call _ _=>none
 | .bad=>none
 | _=>gO tm op K
def wu (u:Option (Nm×Ad)) (ks:Aw):Aw :=
 match u with
 | some (J,ob)=>{ks with mi:=pg ks.mi J ob}
 | none=>ks
def Ol (k:Option Nm) (ks:Aw):Aw :=
 match k with
 | some J=>NU (fun m=>m==J) ks
 | none=>ks
def Qp (σ:Nm->me) (R:lW) (ks:Aw):Aw :=
 match R with
 | []=>ks
 | J :: R=>R2 σ (J :: R) ks
def Om (l:lW) (ks:Aw):Aw :=
 match l with
 | []=>ks
 | J :: l=>NU (fun m=>(J :: l).contains m) ks
def kups:List (Nm×Ad)->AV->AV
 | [],σ=>σ
 |(J,o) :: l,σ=>kups l (pg σ J o)
def kset (dst:lT) (v:KV) (new:lZ) (ks:Aw):Aw :=
 match dst with
 | some d=>match Nat.blt d ks.nt with
  | true=>{ks with tmps:=N8 d v ks.tmps,mi:=match new with | []=>ks.mi | x :: Z=>Eo d (x :: Z) ks.mi}
  | false=>ks
 | none=>ks
def Oi (l:List (Nm×Ad)) (ks:Aw):Aw:={ks with mi:=kups l ks.mi}
def wx (sl:lT) (new:lZ) (ks:Aw):Aw :=
 match sl with
 | some r=>match Nat.blt r ks.nt with
  | true=>{ks with mi:=Eo r (A2 ks.mi r++new) ks.mi}
  | false=>ks
 | none=>ks
def Qh (sl:lT) (new:lZ):lZ :=
 match sl with
 | some _=>[]
 | none=>new
def GI (ks:Aw) (dst:lT) (o:Au):Aw:=kset dst o.v (Qh o.slot o.new) (wx o.slot o.new<|Oi o.nh (Om o.gone (Qp (A4 ks.mi) o.mX (Ol o.kill (wu o.nf ks)))))
mutual
def A8:KV->KV->Bool
 | .un,x=>match x with | .un=>true | _=>false
 | .sk,x=>match x with | .sk=>true | _=>false
 | .mF _,x=>match x with | .mF _=>true | _=>false
 | .ref J o,x=>match x with | .ref nr o'=>J==nr&&o==o' | _=>false
 | .my _ _ _ _,_=>false
 | .arr J k o _,x=>match x with | .arr nr k' o' _=>J==nr&&k==k'&&Nat.beq o o' | _=>false
 | .mp J,x=>match x with | .mp nr=>J==nr | _=>false
 | .it J,x=>match x with | .it nr=>J==nr | _=>false
 | .oh J,x=>match x with | .oh nr=>J==nr | _=>false
 | .fn f cap,x=>match x with | .fn f' qC=>f==f'&&Dq cap qC | _=>false
 | .mn Z,x=>match x with | .mn ys=>Dq Z ys | _=>false
 | .lit _,x=>x.cl.isSome
 | .nz,x=>x.cl.isSome
 | .cv _,x=>x.cl.isSome
 | .agg cs,x=>if (Du cs).isSome then x.cl.isSome else match x with | .agg og=>Dq cs og | _=>false
 | .iface t y,x=>if y.cl.isSome then x.cl.isSome else match x with | .iface t' y'=>t==t'&&A8 y y' | _=>false
def Dq:lX->lX->Bool
 | [],l=>match l with | []=>true | _=>false
 | x :: Z,l=>match l with | y :: ys=>A8 x y&&Dq Z ys | _=>false
end
mutual
def BU:KV->KV->lS
 | .un,_=>[] | .sk,_=>[] | .mF _,x=>(match x with | .mF d=>[nI d] | _=>[]) | .ref _ _,_=>[] | .my _ _ _ _,_=>[] | .mp _,_=>[] | .it _,_=>[] | .oh _,_=>[]
 | .arr _ _ _ _,x=>match x with | .arr _ _ _ n=>[nI n] | _=>[]
 | .fn _ cap,x=>match x with | .fn _ qC=>Gf cap qC | _=>[]
 | .mn Z,x=>match x with | .mn ys=>Gf Z ys | _=>[]
 | .lit _,x=>[x.cl.getD .undef]
 | .nz,x=>[x.cl.getD .undef]
 | .cv _,x=>[x.cl.getD .undef]
 | .agg cs,x=>if (Du cs).isSome then [x.cl.getD .undef] else match x with | .agg og=>Gf cs og | _=>[]
 | .iface _ y,x=>if y.cl.isSome then [x.cl.getD .undef] else match x with | .iface _ y'=>BU y y' | _=>[]
def Gf:lX->lX->lS
 | [],_=>[]
 | x :: Z,l=>match l with | y :: ys=>BU x y++Gf Z ys | _=>[]
end
mutual
def fill:KV->lS->Nat->KV×Nat
 | .un,_,i=>(.un,i) | .sk,_,i=>(.sk,i) | .mF _,A,i=>(.mF (Bj (Af A i)),i+1) | .ref J o,_,i=>(.ref J o,i) | .my J k j o,_,i=>(.my J k j o,i) | .mp J,_,i=>(.mp J,i) | .it J,_,i=>(.it J,i) | .oh J,_,i=>(.oh J,i)
 | .arr J k o _,A,i=>(.arr J k o (Bj (Af A i)),i+1)
 | .fn f cap,A,i=>let p:=CG cap A i;(.fn f p.1,p.2)
 | .mn Z,A,i=>let p:=CG Z A i;(.mn p.1,p.2)
 | .lit _,A,i=>(.cv (Af A i),i+1)
 | .nz,A,i=>(.cv (Af A i),i+1)
 | .cv _,A,i=>(.cv (Af A i),i+1)
 | .agg cs,A,i=>if (Du cs).isSome then (.cv (Af A i),i+1) else let p:=CG cs A i;(.agg p.1,p.2)
 | .iface t y,A,i=>if y.cl.isSome then (.cv (Af A i),i+1) else let p:=fill y A i;(.iface t p.1,p.2)
def CG:lX->lS->Nat->lX×Nat
 | [],_,i=>([],i)
 | x :: Z,A,i=>let p:=fill x A i;let q:=CG Z A p.2;(p.1 :: q.1,q.2)
end
def C5:Ad->Ad->Bool
 | .cells ty cs,x=>match x with | .cells uF og=>ty==uF&&Dq cs og | _=>false
 | .whole ty _,x=>match x with | .whole uF _=>ty==uF | _=>false
 | .arr k t _,x=>match x with | .arr k' t' _=>k==k'&&t==t' | _=>false
 | .map _,x=>match x with | .map _=>true | _=>false
 | .mD _ _,x=>match x with | .mD _ _=>true | _=>false
def GY:Ad->Ad->lS
 | .cells _ cs,x=>match x with | .cells _ og=>Gf cs og | _=>[]
 | .whole _ _,x=>match x with | .whole _ v=>[v] | _=>[]
 | .arr k _ _,x=>match x with | .arr _ _ Z=>[.sl k Z false] | _=>[]
 | .map _,x=>match x with | .map es=>[.nb es] | _=>[]
 | .mD _ _,x=>match x with | .mD s pos=>[.str s,nI pos] | _=>[]
def B8:Ad->lS->Nat->Ad×Nat
 | .cells ty cs,A,i=>let p:=CG cs A i;(.cells ty p.1,p.2)
 | .whole ty _,A,i=>(.whole ty (Af A i),i+1)
 | .arr k t _,A,i=>(.arr k t (Bl (Af A i)),i+1)
 | .map _,A,i=>(.map (Mx (Af A i)),i+1)
 | .mD _ _,A,i=>(.mD (strP (Af A i)) (Bj (Af A (i+1))),i+2)
def Eh:lZ->lZ->Bool
 | [],[]=>true
 | x :: Z,y :: ys=>C5 x y&&Eh Z ys
 | _,_=>false
def Jm:lZ->lZ->lS
 | x :: Z,y :: ys=>GY x y++Jm Z ys
 | _,_=>[]
def CE:lZ->lS->Nat->lZ×Nat
 | [],_,i=>([],i)
 | x :: Z,A,i=>let p:=B8 x A i;let q:=CE Z A p.2;(p.1 :: q.1,q.2)
def JW:Sp->Sp->Bool
 | [],[]=>true
 |(i,x) :: Z,(j,y) :: ys=>Nat.beq i j&&(A8 x y&&JW Z ys)
 | _,_=>false
def GX:Sp->Sp->lS
 |(_,x) :: Z,(_,y) :: ys=>BU x y++GX Z ys
 | _,_=>[]
def E5:Sp->lS->Nat->Sp×Nat
 | [],_,i=>([],i)
 |(j,x) :: Z,A,i=>let p:=fill x A i;let q:=E5 Z A p.2;((j,p.1) :: q.1,q.2)
def Le:AV->AV->Bool
 | [],[]=>true
 |(i,x) :: Z,(j,y) :: ys=>Nat.beq i j&&(Eh x y&&Le Z ys)
 | _,_=>false
def Ni:AV->AV->lS
 |(_,x) :: Z,(_,y) :: ys=>Jm x y++Ni Z ys
 | _,_=>[]
def GJ:AV->lS->Nat->AV×Nat
 | [],_,i=>([],i)
 |(j,x) :: Z,A,i=>let p:=CE x A i;let q:=GJ Z A p.2;((j,p.1) :: q.1,q.2)
def Lg:mg->mg->Bool
 | [],[]=>true
 | x :: Z,y :: ys=>JW x y&&Lg Z ys
 | _,_=>false
def RF:mg->mg->lS
 | x :: Z,y :: ys=>GX x y++RF Z ys
 | _,_=>[]
def Mm:mg->lS->Nat->mg×Nat
 | [],_,i=>([],i)
 | x :: Z,A,i=>let p:=E5 x A i;let q:=Mm Z A p.2;(p.1 :: q.1,q.2)
def Ou (p x:Aw):Bool:=Nat.beq p.nt x.nt&&(JW p.tmps x.tmps&&(Le p.mi x.mi&&Lg p.mj x.mj))
def ET (p x:Aw):lS:=GX p.tmps x.tmps++Ni p.mi x.mi++RF p.mj x.mj
def Cn (p:Aw) (A:lS):Aw :=
 let a:=E5 p.tmps A 0
 let b:=GJ p.mi A a.2
 let c:=Mm p.mj A b.2
 {nt:=p.nt,tmps:=a.1,mi:=b.1,mj:=c.1}
mutual
def D5:KV->KV->Bool
 | .un,x=>match x with | .un=>true | _=>false
 | .sk,x=>match x with | .sk=>true | _=>false
 | .mF _,x=>match x with | .mF _=>true | _=>false
 | .ref J o,x=>match x with | .ref nr o'=>J==nr&&o==o' | _=>false
 | .my _ _ _ _,_=>false
 | .arr J k _ _,x=>match x with | .arr nr k' _ _=>J==nr&&k==k' | _=>false
 | .mp J,x=>match x with | .mp nr=>J==nr | _=>false
 | .it J,x=>match x with | .it nr=>J==nr | _=>false
 | .oh J,x=>match x with | .oh nr=>J==nr | _=>false
 | .fn f cap,x=>match x with | .fn f' qC=>f==f'&&JX cap qC | _=>false
 | .mn Z,x=>match x with | .mn ys=>JX Z ys | _=>false
 | .lit _,x=>x.cl.isSome
 | .nz,x=>x.cl.isSome
 | .cv _,x=>x.cl.isSome
 | .agg cs,x=>if (Du cs).isSome then x.cl.isSome else match x with | .agg og=>JX cs og | _=>false
 | .iface t y,x=>if y.cl.isSome then x.cl.isSome else match x with | .iface t' y'=>t==t'&&D5 y y' | _=>false
def JX:lX->lX->Bool
 | [],l=>match l with | []=>true | _=>false
 | x :: Z,l=>match l with | y :: ys=>D5 x y&&JX Z ys | _=>false
end
mutual
def HP:KV->KV->List Bool
 | .arr _ _ o _,x=>match x with | .arr _ _ o' _=>[zaI o o'] | _=>[]
 | .fn _ cap,x=>match x with | .fn _ qC=>JQ cap qC | _=>[]
 | .mn Z,x=>match x with | .mn ys=>JQ Z ys | _=>[]
 | .agg cs,x=>match x with | .agg og=>JQ cs og | _=>[]
 | .iface _ y,x=>match x with | .iface _ y'=>HP y y' | _=>[]
 | .un,_ | .sk,_ | .mF _,_ | .ref _ _,_ | .my _ _ _ _,_ | .mp _,_ | .it _,_ | .oh _,_ | .lit _,_ | .nz,_ | .cv _,_=>[]
def JQ:lX->lX->List Bool
 | [],_=>[]
 | x :: Z,l=>match l with | y :: ys=>HP x y++JQ Z ys | _=>[]
end
def Wc:Ad->Ad->Bool
 | .cells ty cs,x=>match x with | .cells uF og=>ty==uF&&JX cs og | _=>false
 | .whole ty v,x=>C5 (.whole ty v) x | .arr k t Z,x=>C5 (.arr k t Z) x | .map es,x=>C5 (.map es) x | .mD s p,x=>C5 (.mD s p) x
def VS:Ad->Ad->List Bool
 | .cells _ cs,x=>match x with | .cells _ og=>JQ cs og | _=>[]
 | _,_=>[]
def NA:lZ->lZ->Bool
 | [],[]=>true
 | x :: Z,y :: ys=>Wc x y&&NA Z ys
 | _,_=>false
def Nu:lZ->lZ->List Bool
 | x :: Z,y :: ys=>VS x y++Nu Z ys
 | _,_=>[]
def Ml:Sp->Sp->Bool
 | [],[]=>true
 |(i,x) :: Z,(j,y) :: ys=>Nat.beq i j&&(D5 x y&&Ml Z ys)
 | _,_=>false
def Md:Sp->Sp->List Bool
 |(_,x) :: Z,(_,y) :: ys=>HP x y++Md Z ys
 | _,_=>[]
def N1:AV->AV->Bool
 | [],[]=>true
 |(i,x) :: Z,(j,y) :: ys=>Nat.beq i j&&(NA x y&&N1 Z ys)
 | _,_=>false
def NN:AV->AV->List Bool
 |(_,x) :: Z,(_,y) :: ys=>Nu x y++NN Z ys
 | _,_=>[]
def N2:mg->mg->Bool
 | [],[]=>true
 | x :: Z,y :: ys=>Ml x y&&N2 Z ys
 | _,_=>false
def NO:mg->mg->List Bool
 | x :: Z,y :: ys=>Md x y++NO Z ys
 | _,_=>[]
def Mk (p x:Aw):Bool:=Nat.beq p.nt x.nt&&(Ml p.tmps x.tmps&&(N1 p.mi x.mi&&N2 p.mj x.mj))
def PN (p x:Aw):List Bool:=Md p.tmps x.tmps++(NN p.mi x.mi++NO p.mj x.mj)
def chks {β:Type}:List Bool->Option β->Option β
 | [],a=>a
 | b :: l,a=>AC b (chks l a)
mutual
def B1:KV->PV->Option lS
 | .un,x=>match x with | .undef=>some [] | _=>none
 | .sk,x=>match x with | .mn []=>some [] | _=>none
 | .mF _,x=>match x with | .mF d=>some [nI d] | _=>none
 | .my _ _ _ _,_=>none
 | .oh J,x=>match x with | .arr nr 1 0 0=>AC (J==nr) (some []) | _=>none
 | .ref J o,x=>match x with | .ref nr o'=>AC (J==nr&&o==o') (some []) | _=>none
 | .mp J,x=>match x with | .mp nr=>AC (J==nr) (some []) | _=>none
 | .it J,x=>match x with | .it nr=>AC (J==nr) (some []) | _=>none
 | .arr J k o _,x=>match x with | .arr nr k' o' n=>AC (J==nr&&k==k'&&Nat.beq o o') (some [nI n]) | _=>none
 | .lit _,x=>AC (Ax x) (some [x])
 | .nz,x=>AC (Ax x) (some [x])
 | .cv _,x=>AC (Ax x) (some [x])
 | .fn f cap,x=>match x with | .fn f' qC=>if f=f' then HT cap qC else none | _=>none
 | .mn Z,x=>match x with | .mn ys=>HT Z ys | _=>none
 | .agg cs,x=>if (Du cs).isSome then AC (Ax x) (some [x]) else match x with | .agg og=>HT cs og | _=>none
 | .iface t y,x=>if y.cl.isSome then AC (Ax x) (some [x]) else match x with | .iface t' y'=>if t=t' then B1 y y' else none | _=>none
def HT:lX->lS->Option lS
 | [],l=>match l with | []=>some [] | _=>none
 | x :: Z,l=>match l with
  | y :: ys=>match B1 x y,HT Z ys with
   | some a,some b=>some (a++b)
   | _,_=>none
  | _=>none
end
def E4:Ad->Ob->Option lS
 | .cells ty cs,x=>match x with | .cells uF og=>if ty=uF then HT cs og else none | _=>none
 | .whole ty _,x=>match x with | .cells uF og=>AC (ty==uF&&AB og) (some [.agg og]) | _=>none
 | .arr k t _,x=>match x with | .arr k' t' Z=>AC (k==k'&&t==t'&&AB Z) (some [.sl k Z false]) | _=>none
 | .map _,x=>match x with | .map es=>AC (AB es) (some [.nb es]) | _=>none
 | .mD _ _,x=>match x with | .mD s pos=>some [.str s,nI pos] | _=>none
def Jw:lZ->lY->Option lS
 | [],l=>match l with | []=>some [] | _=>none
 | x :: Z,l=>match l with
  | y :: ys=>match E4 x y,Jw Z ys with
   | some a,some b=>some (a++b)
   | _,_=>none
  | _=>none
structure AA where
 args:lX
 ins:lZ
 res:KV
 outs:lZ
 news:lZ
 gone:lU
 deriving Inhabited
def Tf (P:AA) (out:Al):Option lS :=
 if out.gone=P.gone.map (fun j=>(0,j)) then
  match B1 P.res out.v,Jw P.outs (out.nh.map (·.2)),Jw P.news out.new with
  | some a,some b,some c=>some (a++(b++c))
  | _,_,_=>none
 else none
def El (k:Nat):lW:=(List.range k).map fun j=>(0,j)
inductive Bn where
 | cl
 | own (k:Nat)
 | opt (k:Nat)
 | mn (l:List Bn)
 | agg (l:List Bn)
 deriving Inhabited
mutual
def Cv (obs:lY):Bn->Nat->PV->Option (PV×Nat)
 | .cl,j,v=>AC (Ax v) (some (v,j))
 | .own k,j,v=>match v,obs[j]? with
  | .arr J k' o n,some (.arr qg kt Z)=>AC (J==(0,j)&&k==k'&&k==qg&&o==0&&n==Z.length&&kt==0&&AB Z) (some (.sl k Z false,j+1))
  | _,_=>none
 | .opt k,j,v=>match v,obs[j]? with
  | .mu,_=>some (.mu,j)
  | .arr J k' o n,some (.arr qg kt Z)=>AC (J==(0,j)&&k==k'&&k==qg&&o==0&&n==Z.length&&kt==0&&AB Z) (some (.sl k Z false,j+1))
  | _,_=>none
 | .mn l,j,v=>match v with
  | .mn A=>(FN obs l j A).map fun p=>(.mn p.1,p.2)
  | _=>none
 | .agg l,j,v=>match v with
  | .agg A=>(FN obs l j A).map fun p=>(.agg p.1,p.2)
  | _=>none
def FN (obs:lY):List Bn->Nat->lS->Option (lS×Nat)
 | [],j,[]=>some ([],j)
 | s :: l,j,v :: A=>match Cv obs s j v with
  | some (u,j)=>(FN obs l j A).map fun p=>(u :: p.1,p.2)
  | none=>none
 | _,_,_=>none
end
def D6 (sh:Bn) (v:PV) (obs:lY):mc :=
 match Cv obs sh 0 v with
 | some (r,j)=>AC (j==obs.length) (some r)
 | none=>none
mutual
def Dp (d:Nat):Bn->Nat->PV->KV×lZ×Nat
 | .cl,j,r=>(.cv r,[],j)
 | .own k,j,r=>(.arr (d,j) k 0 (AT (Bl r)),[.arr k 0 (Bl r)],j+1)
 | .opt _,j,r=>(.cv r,[],j)
 | .mn l,j,r=>let p:=IP d l j r 0;(.mn p.1,p.2)
 | .agg l,j,r=>let p:=IP d l j r 0;(.agg p.1,p.2)
def IP (d:Nat):List Bn->Nat->PV->Nat->lX×lZ×Nat
 | [],j,_,_=>([],[],j)
 | s :: l,j,r,i =>
  let p:=Dp d s j (HX r i)
  let q:=IP d l p.2.2 r (i+1)
  (p.1 :: q.1,p.2.1++q.2.1,q.2.2)
end
mutual
def Js {R:Type}:Bn->PV->(Bn->Option R)->Option R
 | .cl,_,K=>K .cl
 | .own k,_,K=>K (.own k)
 | .opt k,u,K=>nilB u (K .cl) (K (.own k))
 | .mn l,u,K=>Pa l u 0 fun l=>K (.mn l)
 | .agg l,u,K=>Pa l u 0 fun l=>K (.agg l)
def Pa {R:Type}:List Bn->PV->Nat->(List Bn->Option R)->Option R
 | [],_,_,K=>K []
 | s :: l,u,i,K=>Js s (HX u i) fun s=>Pa l u (i+1) fun l=>K (s :: l)
end
mutual
def Bn.fix:Bn->Bool
 | .opt _=>false
 | .cl | .own _=>true
 | .mn l | .agg l=>wy l
def wy:List Bn->Bool
 | []=>true
 | s :: l=>s.fix&&wy l
end
structure KB where
 sp:lL->(Nm->lV)->lS->l5
 L:Ha
 I:lL->lY->lS->Option (St×PV)
 ow:lL->Bool
 nC:lL->Bool
structure Dr where
 b:KB
 yH:lL->Bool
 asT:lL->lP->Option (lP×Nat)
 rsh:lL->Bn×Bool
 dsh:Nat->Bn
 uG:lL->Option (lX->lZ->AA)
 spK:lL->Option ((Nm->me)->lX->Option (Bool×Au)):=fun _=>none
 flatF:lL->Bool:=fun _=>false
def spO (sp:lL->(Nm->lV)->lS->l5) (g:lL) (A:lS):Option (Option (PV×lY)) :=
 match sp g (fun _=>none) A with
 | some out=>AC (out.nf.isNone&&out.kill.isNone&&out.mX.isEmpty&&out.gone.isEmpty&&out.nh.isEmpty&&!out.io&&out.slot.isNone) (some (some (out.v,out.new)))
 | none=>some none
noncomputable def AJ (B:KB) (sh:Bn) (f:PV) (args:lS):mc :=
 match f with
 | .fn g cap=>match spO B.sp (AO g) (Bc g args cap) with
  | some (some (v,obs))=>D6 sh v obs
  | some none=>if B.ow (AO g) then none else match B.L Unit AL 0 (AO g) (Bc g args cap) () with
   | some (r,obs,_)=>D6 sh r obs
   | none=>none
  | none=>none
 | _=>none
noncomputable def Qk (B:KB) (sh:Bn) (fr:Bool) (g:lL) (args:lS):mc :=
 if A5 args then none
 else match B.L Unit AL 0 g args () with
  | some (r,obs,_)=>AC ((r.free&&obs.all Ob.free&&!B.nC g)==fr) (D6 sh r obs)
  | none=>none
noncomputable def zaO (B:KB) (h:AF E) (dep:Nat) (f:PV) (e:E):Option E :=
 match f with
 | .fn g cap=>match B.L E h (dep+1) (AO g) (Bc g [.mF dep] cap) e with
  | some (_,_,e)=>some e
  | none=>none
 | _=>none
noncomputable def Cs (B:KB) (P:AA) (g:lL) (A:lS):Option lS :=
 match B.I g ((CE P.ins A (CG P.args A 0).2).1.map Ad.ob) (AE (CG P.args A 0).1) with
 | some (V,v)=>match Gj none 1 0 (El P.ins.length) V v with
  | some out=>Tf P out
  | none=>none
 | none=>none
def BZ (R:lW) (d i0:Nat) (m:Nm):Nm:=if m.1=0 then R.getD m.2 (0,0) else (d,i0+m.2)
def Oo (P:AA) (R:lW) (sl:lT) (d i0:Nat) (rs:lS):Au :=
 let v:=fill P.res rs 0
 let o:=CE P.outs rs v.2
 let w:=CE P.news rs o.2
 {v:=v.1.mz (BZ R d i0),new:=w.1.map (Ad.mz (BZ R d i0)),gone:=P.gone.map fun j=>R.getD j (0,0),nh:=R.zip (o.1.map (Ad.mz (BZ R d i0))),io:=true,slot:=sl}
noncomputable def Pz (cfg:Dr) (Pf:lX->lZ->AA) (g:lL) (d:Nat) (σ:Nm->me) (Z:lX) (K:Au->Option R):Option R :=
 let S:=Bt (GH σ AG (CY Z))
 match S.mapM σ with
 | none=>none
 | some ins =>
  let f:Nm->Nm:=fun m=>(0,S.idxOf m)
  let P:=Pf Z ins
  if K9 σ S=true/\EZ Z=false/\cfg.yH g=false/\(Dq P.args (EN f Z)&&Eh P.ins (ins.map (Ad.mz f)))=true then
   Aa (Cs cfg.b P g (Gf P.args (EN f Z)++Jm P.ins (ins.map (Ad.mz f)))) fun rs=>match S with
    | []=>K (Oo P S none d 0 rs)
    | r :: _=>match Hx σ r.1 with
     | some i0=>K (Oo P S (some r.1) r.1 i0 rs)
     | none=>none
  else none
def Iv (f:lL) (A cap:lX):lX:=match Nat.blt f Dj with
 | true=>A++cap
 | false=>cap.take (Fa f)++(A++cap.drop (Fa f))
noncomputable def zaP (cfg:Dr) (h:AF E) (d:Nat) (σ:Nm->me) (tm:Sp) (f:RX) (args:md) (e:E) (K:Au->E->Option R):Option R :=
 match f.kv tm with
 | .mF l =>
  let Z:=args.map (RX.kv tm)
  match Du Z with
  | some A=>Aa (h l A e) fun p=>K {v:=.cv (.bool p.1)} p.2
  | none =>
   let R:=GH σ AG (CY Z)
   if (CY Z).isEmpty then none
   else if K9 σ R then
    let ys:=FO (CZ σ AG) Z
    AC (noYL ys) (Aa (h l ys e) fun p=>K {v:=.cv (.bool p.1),mX:=R} p.2)
   else none
 | .fn f mO =>
  let g:=AO f
  let Z:=Iv f (args.map (RX.kv tm)) mO
  match cfg.spK g with
  | some s=>(match s σ Z with
   | some p=>AC p.1 (K p.2 e)
   | none=>none)
  | none =>
  match cfg.uG g with
  | some P=>Pz cfg P g d σ Z fun out=>K out e
  | none =>
  match Z with
  | [ex,.iface p (.ref J 0)]=>match cfg.asT g p,ex.cl,σ J with
   | some (t,n),some err,some (.cells ty cs)=>AC (yG cs.length n) (asP t err (fun x=>AC (FH x n) (K {v:=.lit true,nf:=some (J,.whole ty x)} e)) (K {v:=.lit false} e))
   | _,_,_=>none
  | _=>match Du Z with
   | some A=>Aa (AJ cfg.b (cfg.rsh g).1 (.fn g []) A) fun r=>Js (cfg.rsh g).1 r fun sh=>let p:=Dp d sh 0 r;K {v:=p.1,new:=p.2.1} e
   | none =>
    let R:=GH σ AG (CY Z)
    if (CY Z).isEmpty\/cfg.yH g=true then none
    else if K9 σ R then
     Aa (Qk cfg.b (cfg.rsh g).1 (cfg.rsh g).2 g (FO (CZ σ AG) Z)) fun r=>Js (cfg.rsh g).1 r fun sh=>let p:=Dp d sh 0 r;K {v:=p.1,new:=p.2.1,mX:=if (cfg.rsh g).2 then [] else R} e
    else none
 | .cv v=>match Du (args.map (RX.kv tm)) with
  | some A=>Aa (AJ cfg.b (cfg.dsh d) v A) fun r=>Js (cfg.dsh d) r fun sh=>let p:=Dp d sh 0 r;K {v:=p.1,new:=p.2.1} e
  | none=>none
 | _=>none
def V2 (o:AD) (ks:Aw):Bool :=
 if DO o.op then
  match o.dst with
  | some d=>Nat.blt d ks.nt&&(A2 ks.mi d).isEmpty
  | none=>match o.op with
   | .call _ _=>true
   | _=>false
 else true
def EX:AV->Bool
 | []=>true
 |(_,u) :: l=>(u.all fun o=>match o with | .cells _ cs=>!EZ cs | _=>true)&&EX l
def Ow (cfg:Dr) (op:An) (tm:Sp):Bool :=
 match op with
 | .qf _ _=>false
 | .insert _ _ _ _=>false
 | .call f _=>match f.kv tm with
  | .fn g _=>(cfg.uG (AO g)).isNone
  | _=>true
 | _=>true
noncomputable def NT (cfg:Dr) (h:AF E) (o:AD) (ks:Aw) (e:E) (K:Au->E->Option R):Option R :=
 if V2 o ks/\o.op.Z.all Ey/\(EX ks.mi||Ow cfg o.op ks.tmps)=true then
  match o.op with
  | .call f args=>zaP cfg h (o.dst.getD 0) (A4 ks.mi) ks.tmps f args e fun out e=>if ((!out.io||o.dst.isSome||out.new.isEmpty||out.slot.isSome)&&(out.mX.isEmpty||EX ks.mi))=true then K out e else none
  | op=>Cq (o.dst.getD 0) (A4 ks.mi) ks.tmps op fun out=>if (out.mX.isEmpty||EX ks.mi)=true then K out e else none
 else none
def Sy (ops:l8) (o:AD) (ks:Aw) (K:Bool->Aw->Option R):Option R :=
 match o.guard with
 | none=>K true ks
 | some (j,want) =>
  match ops[j]? with
  | some p=>match p.dst with
   | some d=>match AS ks.tmps d with
    | .lit b=>K (b==want) ks
    | .sk=>K false ks
    | .cv v=>AH v (K (true==want) {ks with tmps:=CP d (.lit true) ks.tmps}) (K (false==want) {ks with tmps:=CP d (.lit false) ks.tmps})
    | _=>none
   | none=>none
  | none=>none
noncomputable def zaQ (cfg:Dr) (h:AF E) (ops:l8) (o:AD) (ks:Aw) (e:E) (K:Aw->E->Option R):Option R :=
 Sy ops o ks fun b ks=>match b with
  | true=>NT cfg h o ks e fun out e=>Cp (GI ks o.dst out) fun ks=>K ks e
  | false=>Cp (GI ks o.dst {v:=.sk}) fun ks=>K ks e
noncomputable def Oj {E R:Type} (cfg:Dr) (h:AF E) (ops:l8):l8->Aw->E->(Aw->E->Option R)->Option R
 | [],ks,e,K=>K ks e
 | o :: rest,ks,e,K=>zaQ cfg h ops o ks e fun ks e=>Oj cfg h ops rest ks e K
def PR (o:Au):Bool:=o.nf.isNone&&o.kill.isNone&&o.mX.isEmpty&&o.gone.isEmpty&&o.nh.isEmpty&&o.slot.isNone
def VV (o:Au):Bool:=o.gone.isEmpty&&o.nh.isEmpty&&o.slot.isNone&&!o.io
def Uq (o:Au):lW :=
 match o.nf with
 | some (J,_)=>[J]
 | none=>[]
def wA (ks:Aw) (s:Nat):KV :=
 match Nat.blt s ks.nt with
 | true=>AS ks.tmps s
 | false=>.un
def VY (op:An) (tm:Sp):Bool :=
 match op with
 | .call f args=>match f.kv tm with
  | .mF _=>(CY (args.map (RX.kv tm))).isEmpty
  | _=>false
 | _=>false
def VZ (σ:Nm->me) (l:lW):lW:=l.flatMap fun J=>((σ J).map Ad.names).getD []
def Ta (o:AD) (ks:Aw) (out:Au):lW :=
 if D7 o.op&&PR out then [] else GH (A4 ks.mi) (FG o.op (PR out)) (CY (o.op.Z.map (RX.kv ks.tmps))++out.mX)
def Au.out (o:Au):Al:={v:=o.v.pv,new:=o.new.map Ad.ob,nf:=o.nf.map fun p=>(p.1,p.2.ob),kill:=o.kill,mX:=o.mX,gone:=o.gone,nh:=o.nh.map fun p=>(p.1,p.2.ob),io:=o.io,slot:=o.slot}
def zaR (ops:l8) (i:Nat) (o:AD) (ks:Aw) (out:Au):Bk :=
 let A:=o.op.Z.map (RX.kv ks.tmps)
 {i,dst:=o.dst,reads:=Jt o.op.Z++CB ops o,rn:=Ta o ks out,rv:=if KR o.op then [] else VZ (A4 ks.mi) (Ta o ks out),
  cls:=if C4 o.op&&EZ A then (if VY o.op ks.tmps then .calls else .other) else if PR out then .quiet else if VV out then .turns else if FR out.out then .ios else .other,
  on:=out.v.names++out.new.flatMap Ad.names,tch:=Uq out++(out.mX++out.kill.toList),mX:=!(out.mX++out.kill.toList).isEmpty,
  vn:=(Jt o.op.Z++CB ops o).flatMap fun s=>(wA ks s).names
  nw:=out.out.new.isEmpty&&!DO o.op,ld:=Hl o.op ks.V.tmps out.out.v,pr:=out.out.nh.map fun p=>(p.1,Ac ks.V.mi p.1),aft:=out.out.nh,V:=I5 o.dst o.op ks.V.tmps,sl:=out.out.slot.map fun r=>(r,(ks.V.mi.getD r []).length)}
noncomputable def VW (cfg:Dr) (h:AF E) (ops:l8) (i:Nat) (o:AD) (ks:Aw) (e:E) (K:Aw->E->Bk->Option R):Option R :=
 Sy ops o ks fun b ks=>match b with
  | true=>NT cfg h o ks e fun out e=>Cp (GI ks o.dst out) fun k1=>K k1 e (zaR ops i o ks out)
  | false=>Cp (GI ks o.dst {v:=.sk}) fun k1=>K k1 e {i,cls:=.quiet,dst:=o.dst,reads:=CB ops o,rn:=[],vn:=(CB ops o).flatMap fun s=>(wA ks s).names,nw:=!DO o.op}
noncomputable def Sz {E R:Type} (cfg:Dr) (h:AF E) (ops:l8):List (Nat×Nat)->List Bk->Aw->E->(Aw->E->Option R)->Option R
 | [],_,ks,e,K=>K ks e
 |(i,pr) :: rest,infos,ks,e,K=>match ops[i]? with
  | some o=>VW cfg h ops i o ks e fun ks e info=>if (infos.all fun j=>pr.testBit j.i||HS j info) then Sz cfg h ops rest (info :: infos) ks e K else none
  | none=>none
def DN (ds:lU) (ks:Aw):Aw :=
 if ds.all fun d=>(A2 ks.mi d).isEmpty then ks
 else
  let ks:=NU (fun m=>ds.contains m.1) ks
  {ks with mi:=KF (fun i=>!ds.contains i) ks.mi}
def KL (ks:Aw) (t:Nat):Bool:=Nat.blt t ks.nt&&(A2 ks.mi t).isEmpty
def M6 (t:Nat) (ks:Aw) (J:Nm):Aw :=
  if J≠(t,0)/\KL ks t=true then
   match A4 ks.mi J with
   | some ob =>
    let f:Nm->Nm:=fun m=>if m=J then (t,0) else m
    let mi:=E6 (Ad.mz f) ks.mi
    {ks with tmps:=Dz (KV.mz f) ks.tmps,mi:=Eo t [ob.mz f] (pg mi J Fl),mj:=ks.mj.map (Dz (KV.mz f))}
   | none=>ks
  else ks
def Kr (t:Nat) (ks:Aw):Aw :=
 match AS ks.tmps t with
 | .arr J _ _ _=>M6 t ks J
 | .oh J=>M6 t ks J
 | _=>ks
def NW (J:Nm) (ty:Nat) (cs:lX) (i k:Nat) (ks:Aw):Aw :=
 let l:=A2 ks.mi J.1
 {ks with mi:=Eo J.1 (l.set J.2 (.cells ty (cs.set i (.arr (J.1,l.length) k 0 0)))++[.arr k 0 []]) ks.mi}
def M7 (J m:Nm) (ks:Aw):Aw :=
 let l:=A2 ks.mi J.1
 if m.1≠J.1 then
  match A4 ks.mi m with
  | some ob =>
   let f:Nm->Nm:=fun x=>if x=m then (J.1,l.length) else x
   let mi:=pg (E6 (Ad.mz f) ks.mi) m Fl
   {ks with tmps:=Dz (KV.mz f) ks.tmps,mi:=Eo J.1 (A2 mi J.1++[ob.mz f]) mi,mj:=ks.mj.map (Dz (KV.mz f))}
  | none=>ks
 else ks
def Us (J:Nm) (ty:Nat) (cs:lX) (i k:Nat) (ks:Aw) (K:Aw->Option R):Option R :=
 match cs[i]? with
 | some .nz=>K (NW J ty cs i k ks)
 | some (.cv v)=>nilO v (K (NW J ty cs i k ks))
 | some (.arr m _ _ _)=>K (M7 J m ks)
 | some (.oh m)=>K (M7 J m ks)
 | _=>K ks
def V0 (x off k:Nat) (ks:Aw) (K:Aw->Option R):Option R :=
 match AS ks.tmps x with
 | .ref J o=>match A4 ks.mi J with
  | some (.cells ty cs)=>Us J ty cs (o+off) k ks K
  | some (.whole _ v)=>AC (UX v (o+off)) (K ks)
  | _=>K ks
 | _=>K ks
def V1 (t k:Nat) (ks:Aw) (K:Aw->Option R):Option R :=
 if Fh<=t then V0 (t%Fh) (t / Fh - 1) k ks K
 else match AS ks.tmps t with
 | .nz=>K (if KL ks t then {ks with tmps:=CP t (.arr (t,0) k 0 0) ks.tmps,mi:=Eo t [.arr k 0 []] ks.mi} else ks)
 | .cv v=>notNil v (K ks)
 | _=>K ks
def SB {R:Type}:List (Nat×Nat)->Aw->(Aw->Option R)->Option R
 | [],ks,K=>K ks
 |(t,k) :: l,ks,K=>V1 t k ks fun ks=>SB l ks K
def Jo (ks:Aw):lU :=
 let R:=Fe ks.tmps++ks.mj.flatMap Fe++Hw ks.mi
 (ks.mi.filter fun p=>!p.2.isEmpty&&R.all fun J=>J.1 != p.1).map (·.1)
def Qn (mT:lU) (grow:List (Nat×Nat)) (ks:Aw) (K:Aw->Option R):Option R :=
 SB grow (mT.foldl (fun ks t=>Kr t ks) ks) fun ks=>K (DN (Jo ks) ks)
def HG (R:lW):AV->AV
 | []=>[]
 |(j,u) :: l=>match u.take (HU R j u.length) with
  | []=>HG R l
  | v :: A=>(j,v :: A) :: HG R l
def Ql (ks:Aw):Aw:={ks with mi:=HG (Fe ks.tmps++ks.mj.flatMap Fe++Hw ks.mi) ks.mi}
def Lb (k0:Aw) (ks:Aw):Aw :=
 let ks:={ks with tmps:=FM (Gi k0.tmps) ks.tmps}
 DN (Jo ks) ks
def Mv (live:Option lU) (ks:Aw):Aw :=
 match live with
 | none=>ks
 | some l =>
  let ks:={ks with tmps:=FM (fun i=>l.contains i) ks.tmps}
  DN (Jo ks) ks
def NM:An->Bool
 | .mov _ | .pick _ _ _ | .build _ _ | .nilck _ | .bin _ _ _ _ _ | .un _ _ | .conv _ _ | .nS _ | .ofBytes _ | .oe _ | .pt _ | .mkI _ _ | .lookup _ _ _ _ _ | .slice _ _ _ _ _ | .nB _ _ _
 | .fieldAddr _ _ | .field _ _ _ _ | .mw _ _ _ | .nL _ _ _ _ | .oE _ _ | .extract _ _ | .len _ _ | .nQ _ _ | .nJ _ _ _ _ | .load _ _ _=>true
 | _=>false
def am (ops:l8) (lv:Option lU):lT :=
 if (ops.any fun o=>o.guard.isSome)&&(ops.all fun o=>NM o.op) then
  match lv with
  | some l=>match l.filter fun t=>(ops.filterMap (·.dst)).contains t with
   | [t]=>some t
   | _=>none
  | none=>none
 else none
def JB:lU->lS->Nat->Sp->Sp
 | p :: ps,A,i,tm=>JB ps A (i+1) (CP p (.cv (Af A i)) tm)
 | [],_,_,tm=>tm
def zaS:Ex->Bool
 | .normal=>true
 | _=>false
def zaT:Ex->Option Ex
 | .normal=>none
 | x=>some x
def Jx:A1->lU
 | .seq a b=>Jx a++Jx b
 | .cond _ a b=>Jx a++Jx b
 | .block id b=>(Jx b).filter fun i=>i != id
 | .loop _ _ b=>Jx b
 | .rangeFunc _ _ _ b=>Jx b
 | .scope b=>Jx b
 | .exit id=>[id]
 | _=>[]
def Tb {R:Type}:lU->Option Ex->(Nat->Option R)->Option R
 | [],_,_=>none
 | id :: l,p,K=>J6 (bj p id) (K id) (Tb l p K)
abbrev KRec (E:Type):=lS×Option Ex×E
def aV (dep:Nat) (h:AF E) (body:lS->lS->E->Option (Bool×KRec E)):AF (KRec E):=fun l args r =>
 if l=dep then
  match r with
  |(A,none,e)=>body A args e
  | _=>none
 else
  match r with
  |(A,p,e)=>match h l args e with
   | some (b,e)=>some (b,(A,p,e))
   | none=>none
def Sr (mT:lU) (grow:List (Nat×Nat)) (k0:Aw) (K:Ex->Aw->E->Option R) (x:Ex) (ks:Aw) (e:E):Option (Sum (lS×E) R) :=
 match x with
 | .normal=>Qn mT grow (Lb k0 ks) fun k1=>Cp k1 fun k1=>if Mk k0 k1 then chks (PN k0 k1) (some (.inl (ET k0 k1,e))) else none
 | x=>Aa (K x ks e) fun r=>some (.inr r)
noncomputable def CS (cfg:Dr):A1->{E R:Type}->AF E->Nat->Aw->E->(Ex->Aw->E->Option R)->Option R
 | .skip,_,_,_,_,ks,e,K=>K .normal ks e
 | .region ops none lv,E,_,h,_,ks,e,K =>
  Cp (DN (BI ops) ks) fun ks =>
  match am ops lv with
  | some t=>Aa (Oj (E:=E) cfg h ops ops ks e fun ks _=>(AS ks.tmps t).cl) fun z=>Cp (Mv lv {ks with tmps:=CP t (.cv z) ks.tmps}) fun ks=>K .normal ks e
  | none=>Oj cfg h ops ops ks e fun ks e=>Cp (Mv lv ks) fun ks=>K .normal ks e
 | .region ops (some pr) lv,_,_,h,_,ks,e,K=>Cp (DN (BI ops) ks) fun ks=>Sz cfg h ops pr [] ks e fun ks e=>Cp (Mv lv ks) fun ks=>K .normal ks e
 | .seq a b,_,_,h,dep,ks,e,K=>CS cfg a h dep ks e fun x ks e=>match x with
  | .normal=>CS cfg b h dep ks e K
  | x=>K x ks e
 | .cond c a b,_,_,h,dep,ks,e,K=>match c.kv ks.tmps with
  | .lit true=>CS cfg a h dep ks e K
  | .lit false=>CS cfg b h dep ks e K
  | .cv v=>AH v (CS cfg a h dep ks e K) (CS cfg b h dep ks e K)
  | _=>none
 | .block id body,_,_,h,dep,ks,e,K=>CS cfg body h dep ks e fun x ks e=>match x with
  | .exit pw=>if pw=id then K .normal ks e else K (.exit pw) ks e
  | x=>K x ks e
 | .loop mT grow body,E,R,h,dep,ks,e,K=>Qn mT grow ks fun k0=>Cp k0 fun k0=>AC (BF (GX k0.tmps k0.tmps))<|if Mk k0 k0=false then none else
  Bz (σ:=lS×E) (ρ:=R) (fun s=>Cp (Cn k0 s.1) fun ks=>CS cfg body h dep ks s.2 (Sr mT grow k0 K)) (ET k0 k0,e)
 | .rangeFunc f ps assign body,E,R,h,dep,ks,e,K =>
  match (f.kv ks.tmps).cl with
  | some fv=>if (ps.all fun p=>Nat.blt p ks.nt)&&Mk ks ks&&Ey f then Aa (zaO (E:=KRec E) cfg.b (aV dep h fun A args e =>
    AC (zaK args ps.length) (
     Cp (Cn ks A) fun k0 =>
     Cp {k0 with tmps:=JB ps args 0 k0.tmps,mj:=k0.tmps :: k0.mj} fun k1 =>
     CS cfg assign (R:=Bool×KRec E) h (dep+1) k1 e fun x k1 e=>match x with
      | .normal=>CS cfg body h (dep+1) k1 e fun x k2 e =>
       match k2.mj with
       | []=>none
       | sp :: kp =>
        Cp {k2 with tmps:=sp,mj:=kp} fun k3 =>
        if Mk ks k3 then chks (PN ks k3) (some (zaS x,(ET ks k3,zaT x,e))) else none
      | _=>none)) dep fv (ET ks ks,none,e)) fun r=>Cp (Cn ks r.1) fun k1 =>
    J6 (isNoneE r.2.1) (K .normal k1 r.2.2) (J6 (zaL r.2.1) (K .ret k1 r.2.2)
     (Tb (Jx body) r.2.1 fun id=>K (.exit id) k1 r.2.2)) else none
  | none=>none
 | .exit id,_,_,_,_,ks,e,K=>K (.exit id) ks e
 | .scope b,_,_,h,dep,ks,e,K=>CS cfg b h dep ks e fun x ks e=>match x with
  | .exit id=>if id < B4 then K (.exit id) ks e else none
  | x=>K x ks e
 | .ret,_,_,_,_,ks,e,K=>K .ret ks e
 | .norm grow,_,_,_,_,ks,e,K=>Qn [] grow (Ql ks) fun k0=>Cp k0 fun k0=>K .normal k0 e
 | .pZ _ _ _ _,_,_,_,_,_,_,_=>none
 | .bad,_,_,_,_,_,_,_=>none
def kisFn:KV->Bool
 | .fn _ _=>true
 | _=>false
def kisUn:KV->Bool
 | .un=>true
 | _=>false
noncomputable def Fi (cfg:Dr) (nt:Nat):A1->{R:Type}->Aw->(Ex->Aw->lU->Option R)->Option R
 | .pZ ops f args live,_,ks,K=>Cp (DN (BI ops) ks) fun ks=>Oj (E:=Unit) cfg AL ops ops ks () fun ks _ =>
  if kisFn (f.kv ks.tmps)=true/\(Nat.ble (args.length+1) nt&&Nat.beq ks.nt nt)=true/\(f :: args).all Ey=true/\(f.kv ks.tmps :: args.map (RX.kv ks.tmps)).any kisUn=false then
   Cp (Mv live {ks with mj:=((f.kv ks.tmps :: args.map (RX.kv ks.tmps)).zipIdx.map fun p=>(p.2,p.1)) :: ks.mj}) fun ks=>K .normal ks [args.length]
  else none
 | .seq a b,_,ks,K=>Fi cfg nt a ks fun x ks l=>match x with
  | .normal=>Fi cfg nt b ks fun x ks l'=>K x ks (l'++l)
  | x=>K x ks l
 | .cond c a b,_,ks,K=>match c.kv ks.tmps with
  | .lit true=>Fi cfg nt a ks K
  | .lit false=>Fi cfg nt b ks K
  | .cv v=>AH v (Fi cfg nt a ks K) (Fi cfg nt b ks K)
  | _=>none
 | .block id body,_,ks,K=>Fi cfg nt body ks fun x ks l=>match x with
  | .exit pw=>if pw=id then K .normal ks l else K (.exit pw) ks l
  | x=>K x ks l
 | .scope body,_,ks,K=>if RG body then none else Fi cfg nt body ks fun x ks l=>match x with
  | .exit id=>if id < B4 then K (.exit id) ks l else none
  | x=>K x ks l
 | c,_,ks,K=>CS cfg c (E:=Unit) AL 0 ks () fun x ks _=>K x ks []
noncomputable def Tl (cfg:Dr) (nt:Nat) {R:Type}:lU->Aw->(Aw->Option R)->Option R
 | [],ks,K=>K ks
 | n :: l,ks,K=>match ks.mj with
  | []=>none
  | sp :: kp=>match AS sp 0 with
   | .fn f mO=>match cfg.uG (AO f) with
    | some P =>
     let Z:=Iv f ((List.range n).map fun j=>AS sp (j+1)) mO
     if cfg.flatF (AO f)=true/\(Nat.ble (n+1) nt&&Nat.beq ks.nt nt)=true/\EX ks.mi=true then
      Pz cfg P (AO f) 0 (A4 ks.mi) Z fun out=>if out.new.isEmpty||out.slot.isSome then Cp (GI {ks with mj:=kp} none out) fun ks=>Tl cfg nt l ks K else none
     else none
    | none=>none
   | _=>none
def zaU (ks:Aw) (r:F7) (K:KV->Option R):Option R :=
 match r with
 | .tmp t=>K (AS ks.tmps t)
 | .cell t n ag=>match AS ks.tmps t with
  | .ref J o=>match A4 ks.mi J with
   | some (.cells _ cs)=>if ag then (if o+n<=cs.length then K (.agg ((cs.drop o).take n)) else none) else (match cs[o]? with | some c=>K c | none=>none)
   | some (.whole _ v)=>Aa (AN v o n ag) fun z=>K (.cv z)
   | _=>none
  | _=>none
def KI {R:Type} (ks:Aw):List F7->(lX->Option R)->Option R
 | [],K=>K []
 | r :: rs,K=>zaU ks r fun v=>KI ks rs fun A=>K (v :: A)
def KJ:lX->KV
 | [v]=>v
 | A=>.mn A
def IB:Nat->Bool
 | 0=>true
 | _=>false
def S9:KV->lW
 | .arr J _ o _=>if IB o then [J] else []
 | .oh J=>[J]
 | .agg cs=>cs.flatMap fun | .arr J _ o _=>if IB o then [J] else [] | .oh J=>[J] | _=>[]
 | .mn Z=>Z.flatMap fun | .arr J _ o _=>if IB o then [J] else [] | .oh J=>[J] | .agg cs=>cs.flatMap (fun | .arr J _ o _=>if IB o then [J] else [] | .oh J=>[J] | _=>[]) | _=>[]
 | _=>[]
mutual
def Cy:Bn->KV->lW
 | .own _,x=>match x with | .arr J _ _ _=>[J] | _=>[]
 | .opt _,x=>match x with | .arr J _ _ _=>[J] | _=>[]
 | .mn l,x=>match x with | .mn Z=>G6 l Z | _=>[]
 | .agg l,x=>match x with | .agg Z=>G6 l Z | _=>[]
 | .cl,_=>[]
def G6:List Bn->lX->lW
 | s :: l,x :: Z=>Cy s x++G6 l Z
 | _,_=>[]
end
mutual
def FT {R:Type} (σ:Nm->me) (S:lW):Bn->KV->(PV->Option R)->Option R
 | .cl,x,K=>match x.cl with
  | some u=>K u
  | none=>match x with
   | .mn Z=>match Du Z with
    | some us=>K (.mn us)
    | none=>if x.names.all fun J=>!S.contains J then AC (okU (x.close (CZ σ AG))) (K (x.close (CZ σ AG))) else none
   | _=>if x.names.all fun J=>!S.contains J then AC (okU (x.close (CZ σ AG))) (K (x.close (CZ σ AG))) else none
 | .own k,x,K=>match x with
  | .arr J k' o n=>match σ J with
   | some (.arr qg kt Z)=>if k=k'/\k=qg/\IB o=true then AC (yG n (AT Z)) (K (.sl k Z false)) else none
   | _=>none
  | _=>none
 | .opt k,x,K=>match x with
  | .arr J k' o n=>match σ J with
   | some (.arr qg kt Z)=>if k=k'/\k=qg/\IB o=true then AC (yG n (AT Z)) (K (.sl k Z false)) else none
   | _=>none
  | .nz=>K .mu
  | .cv v=>nilO v (K .mu)
  | _=>none
 | .mn l,x,K=>match x with
  | .mn Z=>HJ σ S l Z fun us=>K (.mn us)
  | _=>none
 | .agg l,x,K=>match x with
  | .agg Z=>HJ σ S l Z fun us=>K (.agg us)
  | _=>none
def HJ {R:Type} (σ:Nm->me) (S:lW):List Bn->lX->(lS->Option R)->Option R
 | [],[],K=>K []
 | s :: l,x :: Z,K=>FT σ S s x fun u=>HJ σ S l Z fun us=>K (u :: us)
 | _,_,_=>none
end
def Nw (shut:Bool) (v:KV):lW :=
 match shut with
 | true=>[]
 | false=>S9 v
def Rb (ks:Aw) (shut:Bool) (sh:Bn) (v:KV) (K:PV->Option R):Option R :=
 let σ:=A4 ks.mi
 let S:=Nw shut v
 let R:=GH σ AG (v.names.filter fun J=>!S.contains J)
 if S=Cy sh v/\C0 S=true/\(S.all fun J=>!R.contains J)=true/\K9 σ R=true then FT σ S sh v K else none
noncomputable def BV (cfg:Dr) (fn:Ah) (sh:Bn) (h:AF E) (dep:Nat) (args:lX) (e:E):Option (PV×E) :=
 Cp {nt:=fn.nt,tmps:=args.zipIdx.map fun p=>(p.2,p.1),mi:=[],mj:=[]} fun ks=>CS cfg fn.code h dep ks e fun x ks e=>match x with
  | .exit _=>none
  | _=>KI ks fn.res fun A=>Rb ks fn.shut sh (KJ A) fun v=>some (v,e)
def NS:KV->Option Nm
 | .oh J=>some J
 | .arr J k o n=>if k=1/\o=0/\n=0 then some J else none
 | _=>none
def Mw (σ:Nm->me) (B:List (Nm×Nm)) (J:Nm):Ad :=
 (((σ J).getD Fl).off fun m=>!(B.map (·.1)).contains m).mz fun m=>(B.lookup m).getD m
def RZ (σ:Nm->me) (zzc:List (Nm×Nm)) (v:KV):lW :=
 Bt ((GH σ AG (v.names++zzc.flatMap fun p=>((σ p.1).map Ad.names).getD [])).filter fun m=>!(zzc.map (·.1)).contains m)
def Ks (k:Nat) (sp:Sp):List (Nm×Nm):=(El k).zipIdx.map fun p=>((NS (AS sp p.2)).getD (0,p.2),p.1)
def R0 (k:Nat) (sp:Sp):lW:=((El k).zipIdx.filter fun p=>(NS (AS sp p.2)).isNone).map (·.1)
def O1 (p x:Ad):lS :=
 match x with
 | .whole _ v=>[.agg (FP v)]
 | x=>GY p x
def OR:lZ->lZ->lS
 | x :: Z,y :: ys=>O1 x y++OR Z ys
 | _,_=>[]
def PS (P:AA) (ks:Aw) (v:KV):Option lS :=
 match ks.mj with
 | [sp] =>
  let zzc:=Ks P.ins.length sp
  let N:=RZ (A4 ks.mi) zzc v
  let B:=zzc++N.zipIdx.map fun p=>(p.1,(1,0+p.2))
  let u:=(v.off fun m=>!(B.map (·.1)).contains m).mz fun m=>(B.lookup m).getD m
  let os:=zzc.map fun p=>Mw (A4 ks.mi) B p.1
  let ns:=N.map (Mw (A4 ks.mi) B)
  if C0 (B.map (·.1))=true/\R0 P.ins.length sp=P.gone.map (fun j=>(0,j))/\(A8 P.res u&&(Eh P.outs os&&Eh P.news ns))=true then
   some (BU P.res u++(OR P.outs os++OR P.news ns))
  else none
 | _=>none
noncomputable def NK (cfg:Dr) (fn:Ah) (P:AA) (A:lS):Option lS :=
 let a:=CG P.args A 0
 let b:=CE P.ins A a.2
 Cp {nt:=fn.nt,tmps:=a.1.zipIdx.map fun p=>(p.2,p.1),mi:=[(0,b.1)],mj:=[((List.range P.ins.length).filter fun j=>!fn.gone.contains j).map fun j=>(j,.oh (0,j))]} fun ks =>
 if CU fn.code then CS (E:=Unit) cfg fn.code AL 0 ks () fun x ks _=>match x with
  | .exit _=>none
  | _=>KI ks fn.res fun A=>PS P ks (KJ A)
 else Fi cfg fn.nt fn.code ks fun x ks l=>match x with
  | .exit _=>none
  | _=>Tl cfg fn.nt l ks fun ks=>KI ks fn.res fun A=>PS P ks (KJ A)
end Go.Ab


namespace Go.Ab
variable{i:Nat} {v x:PV} {ys:lS}
theorem EF {Z:lS}:AB Z=true↔∀ x∈Z,Ax x=true:=by
 induction Z with
 | nil=>simp[AB]
 | cons x Z ih=>simp[AB,ih]
mutual
theorem EG:∀ {v:PV},Ax v=true->v.names=[]/\v.mV=false
 | .undef,_ | .bool _,_ | .int _ _,_ | .str _,_ | .mu,_ | .mJ,_ | .nn,_ | .mB,_ | .ni,_ | .mY _ _,_=>by simp[PV.names,PV.mV]
 | .sl _ Z _,h=>by simp only[Ax] at h;simp[PV.names,PV.mV,(Ch h).2]
 | .ptr cs _,h=>by simp only[Ax] at h;simp[PV.names,PV.mV,(Ch h).2]
 | .nb es,h=>by simp only[Ax] at h;simp[PV.names,PV.mV,(Ch h).2]
 | .agg cs,h=>by simp only[Ax] at h;simp[PV.names,PV.mV,Ch h]
 | .fn _ cap,h=>by simp only[Ax] at h;simp[PV.names,PV.mV,Ch h]
 | .mn Z,h=>by simp only[Ax] at h;simp[PV.names,PV.mV,Ch h]
 | .iface _ x,h=>by simp only[Ax] at h;simp[PV.names,PV.mV,EG h]
 | .mF _,h | .ref _ _,h | .my _ _ _ _,h | .arr _ _ _ _,h | .mp _,h | .it _,h=>by simp[Ax] at h
theorem Ch:∀ {Z:lS},AB Z=true->Ar Z=[]/\A5 Z=false
 | [],_=>by simp[Ar,A5]
 | x :: Z,h=>by
  simp only[AB,ie] at h;simp[Ar,A5,EG h.1,Ch h.2]
end
theorem Kp (h:v.names=[]) (f:Nm->Option lV):v.sub f=v:=by rw[PV.sub_congr (g:=fun _=>none) v (by rw[h];simp)];exact oG v
where
 oG:∀ (x:PV),x.sub (fun _=>none)=x
  | .undef | .bool _ | .int _ _ | .str _ | .mu | .mJ | .nn | .mB | .ni | .sl _ _ _ | .ptr _ _ | .mF _ | .nb _ | .mY _ _ | .ref _ _ | .my _ _ _ _ | .arr _ _ _ _ | .mp _ | .it _=>by simp[PV.sub]
  | .agg cs=>by simp[PV.sub,nV cs]
  | .iface t x=>by simp[PV.sub,oG x]
  | .fn g cap=>by simp[PV.sub,nV cap]
  | .mn Z=>by simp[PV.sub,nV Z]
 nV:∀ (Z:lS),AM (fun _=>none) Z=Z
  | []=>rfl
  | x :: Z=>by simp[AM,oG x,nV Z]
mutual
theorem LX:∀ {v:PV},v.names=[]->∀ (f:Nm->Nm),v.mz f=v
 | .undef,_,_ | .bool _,_,_ | .int _ _,_,_ | .str _,_,_ | .mu,_,_ | .mJ,_,_ | .nn,_,_ | .mB,_,_ | .ni,_,_ | .sl _ _ _,_,_ | .ptr _ _,_,_ | .mF _,_,_ | .nb _,_,_ | .mY _ _,_,_=>by simp[PV.mz]
 | .agg cs,h,f=>by simp[PV.names] at h;simp[PV.mz,M4 h f]
 | .iface t x,h,f=>by simp[PV.names] at h;simp[PV.mz,LX h f]
 | .fn g cap,h,f=>by simp[PV.names] at h;simp[PV.mz,M4 h f]
 | .mn Z,h,f=>by simp[PV.names] at h;simp[PV.mz,M4 h f]
 | .ref _ _,h,_ | .my _ _ _ _,h,_ | .arr _ _ _ _,h,_ | .mp _,h,_ | .it _,h,_=>by simp[PV.names] at h
theorem M4:∀ {Z:lS},Ar Z=[]->∀ (f:Nm->Nm),AY f Z=Z
 | [],_,_=>rfl
 | x :: Z,h,f=>by simp[Ar] at h;simp[AY,LX h.1 f,M4 h.2 f]
end
mutual
def KV.ok:KV->Prop
 | .cv v=>Ax v=true
 | .agg cs=>AW cs
 | .iface _ x=>x.ok
 | .fn _ cap=>AW cap
 | .mn Z=>AW Z
 | .un | .sk | .lit _ | .nz | .mF _ | .ref _ _ | .my _ _ _ _ | .arr _ _ _ _ | .mp _ | .it _ | .oh _=>True
def AW:lX->Prop
 | []=>True
 | x :: Z=>x.ok/\AW Z
end
theorem C8 {Z:lX}:AW Z↔∀ x∈Z,x.ok:=by
 induction Z with
 | nil=>simp[AW]
 | cons x Z ih=>simp[AW,ih]
theorem EV (Z:lX):AE Z=Z.map KV.pv:=by
 induction Z with
 | nil=>rfl
 | cons x Z ih=>simp[AE,ih]
mutual
theorem KV.nY:∀ {x:KV},x.ok->x.pv.names=x.names
 | .un,_ | .sk,_ | .lit _,_ | .nz,_ | .mF _,_ | .ref _ _,_ | .my _ _ _ _,_ | .arr _ _ _ _,_ | .mp _,_ | .it _,_ | .oh _,_=>by simp[KV.pv,PV.names,KV.names,Ar]
 | .cv v,h=>by simp[KV.pv,KV.names,(EG h).1]
 | .agg cs,h=>by simp[KV.pv,PV.names,KV.names,FE h]
 | .iface t x,h=>by simp[KV.pv,PV.names,KV.names,KV.nY (x:=x) h]
 | .fn f cap,h=>by simp[KV.pv,PV.names,KV.names,FE h]
 | .mn Z,h=>by simp[KV.pv,PV.names,KV.names,FE h]
theorem FE:∀ {Z:lX},AW Z->Ar (AE Z)=CY Z
 | [],_=>rfl
 | x :: Z,h=>by simp[AE,Ar,CY,KV.nY h.1,FE h.2]
end
mutual
theorem KV.u5:∀ {x:KV},x.ok->x.pv.mV=x.mV
 | .un,_ | .sk,_ | .lit _,_ | .nz,_ | .mF _,_ | .ref _ _,_ | .my _ _ _ _,_ | .arr _ _ _ _,_ | .mp _,_ | .it _,_ | .oh _,_=>by simp[KV.pv,PV.mV,KV.mV,A5]
 | .cv v,h=>by simp[KV.pv,KV.mV,(EG h).2]
 | .agg cs,h=>by simp[KV.pv,PV.mV,KV.mV,LY h]
 | .iface t x,h=>by simp[KV.pv,PV.mV,KV.mV,KV.u5 (x:=x) h]
 | .fn f cap,h=>by simp[KV.pv,PV.mV,KV.mV,LY h]
 | .mn Z,h=>by simp[KV.pv,PV.mV,KV.mV,LY h]
theorem LY:∀ {Z:lX},AW Z->A5 (AE Z)=EZ Z
 | [],_=>rfl
 | x :: Z,h=>by simp[AE,A5,EZ,KV.u5 h.1,LY h.2]
end
mutual
theorem KV.od:∀ {x:KV} {v:PV},x.cl=some v->x.pv=v
 | .lit b,v,h=>by simp[KV.cl] at h;simp[KV.pv,h]
 | .nz,v,h=>by simp[KV.cl] at h;simp[KV.pv,h]
 | .cv u,v,h=>by simp[KV.cl] at h;simp[KV.pv,h]
 | .agg cs,v,h=>by
  simp only[KV.cl,ij] at h;obtain⟨A,hv,rfl⟩:=h;simp[KV.pv,KU hv]
 | .iface t x,v,h=>by
  simp only[KV.cl,ij] at h;obtain⟨u,hv,rfl⟩:=h;simp[KV.pv,KV.od hv]
 | .fn f cap,v,h=>by
  simp only[KV.cl,ij] at h;obtain⟨A,hv,rfl⟩:=h;simp[KV.pv,KU hv]
 | .un,v,h | .sk,v,h | .mF _,v,h | .ref _ _,v,h | .my _ _ _ _,v,h | .arr _ _ _ _,v,h | .mp _,v,h | .it _,v,h | .oh _,v,h | .mn _,v,h=>by simp[KV.cl] at h
theorem KU:∀ {Z:lX} {A:lS},Du Z=some A->AE Z=A
 | [],A,h=>by simp[Du] at h;simp[AE,h]
 | x :: Z,A,h=>by
  simp only[Du] at h;split at h;{rename_i v us U H;cases h;simp[AE,KV.od U,KU H]};{cases h}
end
mutual
theorem KV.oQ:∀ {x:KV} {v:PV},x.ok->x.cl=some v->Ax v=true
 | .lit b,v,_,h=>by simp[KV.cl] at h;subst h;rfl
 | .nz,v,_,h=>by simp[KV.cl] at h;subst h;rfl
 | .cv u,v,O,h=>by simp[KV.cl] at h;subst h;exact O
 | .agg cs,v,O,h=>by
  simp only[KV.cl,ij] at h;obtain⟨A,hv,rfl⟩:=h;simpa[Ax] using JF (Z:=cs) O hv
 | .iface t x,v,O,h=>by
  simp only[KV.cl,ij] at h;obtain⟨u,hv,rfl⟩:=h;simpa[Ax] using KV.oQ (x:=x) O hv
 | .fn f cap,v,O,h=>by
  simp only[KV.cl,ij] at h;obtain⟨A,hv,rfl⟩:=h;simpa[Ax] using JF (Z:=cap) O hv
 | .un,v,_,h | .sk,v,_,h | .mF _,v,_,h | .ref _ _,v,_,h | .my _ _ _ _,v,_,h | .arr _ _ _ _,v,_,h | .mp _,v,_,h | .it _,v,_,h | .oh _,v,_,h | .mn _,v,_,h=>by simp[KV.cl] at h
theorem JF:∀ {Z:lX} {A:lS},AW Z->Du Z=some A->AB A=true
 | [],A,_,h=>by simp[Du] at h;subst h;rfl
 | x :: Z,A,O,h=>by
  simp only[Du] at h;split at h;{rename_i v us U H;cases h;simp[AB,KV.oQ O.1 U,JF O.2 H]};{cases h}
end
def Iz (p:Nm->Bool):Nm->Option lV:=fun m=>if p m=true then some none else none
mutual
theorem KV.r6 (p:Nm->Bool):∀ {x:KV},x.ok->(x.off p).pv=x.pv.sub (Iz p)
 | .un,_ | .sk,_ | .lit _,_ | .nz,_ | .mF _,_=>by simp[KV.off,KV.pv,PV.sub,AM]
 | .cv v,h=>by simp[KV.off,KV.pv,Kp (EG h).1]
 | .ref J _,_ | .my J _ _ _,_ | .arr J _ _ _,_ | .mp J,_ | .it J,_ | .oh J,_=>by
  simp only[KV.off,KV.pv,PV.sub,Iz];cases hp:p J<;>simp[KV.pv]
 | .agg cs,h=>by simp[KV.off,KV.pv,PV.sub,Ps p h]
 | .iface t x,h=>by simp[KV.off,KV.pv,PV.sub,KV.r6 p (x:=x) h]
 | .fn f cap,h=>by simp[KV.off,KV.pv,PV.sub,Ps p h]
 | .mn Z,h=>by simp[KV.off,KV.pv,PV.sub,Ps p h]
theorem Ps (p:Nm->Bool):∀ {Z:lX},AW Z->AE (Ly p Z)=AM (Iz p) (AE Z)
 | [],_=>rfl
 | x :: Z,h=>by simp[Ly,AE,AM,KV.r6 p h.1,Ps p h.2]
end
mutual
theorem KV.po (p:Nm->Bool):∀ {x:KV},x.ok->(x.off p).ok
 | .un,_ | .sk,_ | .lit _,_ | .nz,_ | .mF _,_=>by simp[KV.off,KV.ok]
 | .cv v,h=>by simpa[KV.off,KV.ok] using h
 | .ref J _,_ | .my J _ _ _,_ | .arr J _ _ _,_ | .mp J,_ | .it J,_ | .oh J,_=>by
  simp only[KV.off];cases hp:p J<;>simp[KV.ok]
 | .agg cs,h=>by simpa[KV.off,KV.ok] using Pt p h
 | .iface t x,h=>by simpa[KV.off,KV.ok] using KV.po p (x:=x) h
 | .fn f cap,h=>by simpa[KV.off,KV.ok] using Pt p h
 | .mn Z,h=>by simpa[KV.off,KV.ok] using Pt p h
theorem Pt (p:Nm->Bool):∀ {Z:lX},AW Z->AW (Ly p Z)
 | [],_=>trivial
 | x :: Z,h=>⟨KV.po p h.1,Pt p h.2⟩
end
mutual
theorem KV.r7 (f:Nm->Nm):∀ {x:KV},x.ok->(x.mz f).pv=x.pv.mz f
 | .un,_ | .sk,_ | .lit _,_ | .nz,_ | .mF _,_ | .ref _ _,_ | .my _ _ _ _,_ | .arr _ _ _ _,_ | .mp _,_ | .it _,_ | .oh _,_=>by simp[KV.mz,KV.pv,PV.mz,AY]
 | .cv v,h=>by simp[KV.mz,KV.pv,LX (EG h).1]
 | .agg cs,h=>by simp[KV.mz,KV.pv,PV.mz,Nt f h]
 | .iface t x,h=>by simp[KV.mz,KV.pv,PV.mz,KV.r7 f (x:=x) h]
 | .fn g cap,h=>by simp[KV.mz,KV.pv,PV.mz,Nt f h]
 | .mn Z,h=>by simp[KV.mz,KV.pv,PV.mz,Nt f h]
theorem Nt (f:Nm->Nm):∀ {Z:lX},AW Z->AE (EN f Z)=AY f (AE Z)
 | [],_=>rfl
 | x :: Z,h=>by simp[EN,AE,AY,KV.r7 f h.1,Nt f h.2]
end
mutual
theorem KV.nZ (f:Nm->Nm):∀ {x:KV},x.ok->(x.mz f).ok
 | .un,_ | .sk,_ | .lit _,_ | .nz,_ | .mF _,_ | .ref _ _,_ | .my _ _ _ _,_ | .arr _ _ _ _,_ | .mp _,_ | .it _,_ | .oh _,_=>by simp[KV.mz,KV.ok]
 | .cv v,h=>by simpa[KV.mz,KV.ok] using h
 | .agg cs,h=>by simpa[KV.mz,KV.ok] using Nl f h
 | .iface t x,h=>by simpa[KV.mz,KV.ok] using KV.nZ f (x:=x) h
 | .fn g cap,h=>by simpa[KV.mz,KV.ok] using Nl f h
 | .mn Z,h=>by simpa[KV.mz,KV.ok] using Nl f h
theorem Nl (f:Nm->Nm):∀ {Z:lX},AW Z->AW (EN f Z)
 | [],_=>trivial
 | x :: Z,h=>⟨KV.nZ f h.1,Nl f h.2⟩
end
def En (g:Nm->lV):Nm->Option lV:=fun m=>some (g m)
mutual
theorem KV.oR (g:Nm->lV):∀ {x:KV},x.ok->x.close g=x.pv.sub (En g)
 | .un,_ | .sk,_ | .lit _,_ | .nz,_ | .mF _,_=>by simp[KV.close,KV.pv,PV.sub,AM]
 | .cv v,h=>by simp[KV.close,KV.pv,Kp (EG h).1]
 | .ref J o,_=>by
  simp only[KV.close,KV.pv,PV.sub,En];cases g J with
  | none=>rfl
  | some ob=>cases ob<;>simp[ptrO]
 | .my J k i o,_=>by
  simp only[KV.close,KV.pv,PV.sub,En];cases g J with
  | none=>rfl
  | some ob =>
   cases ob with
   | arr k' kt Z =>
    simp only[zaF];by_cases hk:k=k';{simp only[hk,lq];cases Z[i]?<;>rfl};{simp[hk]}
   | _=>rfl
 | .arr J k o n,_=>by
  simp only[KV.close,KV.pv,PV.sub,En];cases g J with
  | none=>rfl
  | some ob=>cases ob<;>simp[slO]
 | .mp J,_=>by
  simp only[KV.close,KV.pv,PV.sub,En];cases g J with
  | none=>rfl
  | some ob=>cases ob<;>rfl
 | .it J,_=>by simp[KV.close,KV.pv,PV.sub,En]
 | .oh J,_=>by
  simp only[KV.close,KV.pv,PV.sub,En];cases g J with
  | none=>rfl
  | some ob=>cases ob<;>simp[slO]
 | .agg cs,h=>by simp[KV.close,KV.pv,PV.sub,Nc g h]
 | .iface t x,h=>by simp[KV.close,KV.pv,PV.sub,KV.oR g (x:=x) h]
 | .fn f cap,h=>by simp[KV.close,KV.pv,PV.sub,Nc g h]
 | .mn Z,h=>by simp[KV.close,KV.pv,PV.sub,Nc g h]
theorem Nc (g:Nm->lV):∀ {Z:lX},AW Z->FO g Z=AM (En g) (AE Z)
 | [],_=>rfl
 | x :: Z,h=>by simp[FO,AE,AM,KV.oR g h.1,Nc g h.2]
end
def DY (p:Nm->Bool) (g:Nm->lV):Nm->Option lV:=fun m=>if p m=true then some (g m) else none
mutual
theorem KV.td (p:Nm->Bool) (g:Nm->lV):∀ {x:KV},x.ok->(x.mX p g).pv=x.pv.sub (DY p g)
 | .un,_ | .sk,_ | .lit _,_ | .nz,_ | .mF _,_=>by simp[KV.mX,KV.pv,PV.sub,AM]
 | .cv v,h=>by simp[KV.mX,KV.pv,Kp (EG h).1]
 | .ref J o,_=>by
  cases hp:p J with
  | false=>simp[KV.mX,hp,KV.pv,PV.sub,DY]
  | true =>
   have:=KV.oR g (x:=.ref J o) trivial;simp only[KV.mX,hp,lq,KV.pv];rw[this];simp[KV.pv,PV.sub,DY,En,hp]
 | .my J k i o,_=>by
  cases hp:p J with
  | false=>simp[KV.mX,hp,KV.pv,PV.sub,DY]
  | true =>
   have:=KV.oR g (x:=.my J k i o) trivial;simp only[KV.mX,hp,lq,KV.pv];rw[this];simp[KV.pv,PV.sub,DY,En,hp]
 | .arr J k o n,_=>by
  cases hp:p J with
  | false=>simp[KV.mX,hp,KV.pv,PV.sub,DY]
  | true =>
   have:=KV.oR g (x:=.arr J k o n) trivial;simp only[KV.mX,hp,lq,KV.pv];rw[this];simp[KV.pv,PV.sub,DY,En,hp]
 | .mp J,_=>by
  cases hp:p J with
  | false=>simp[KV.mX,hp,KV.pv,PV.sub,DY]
  | true =>
   have:=KV.oR g (x:=.mp J) trivial;simp only[KV.mX,hp,lq,KV.pv];rw[this];simp[KV.pv,PV.sub,DY,En,hp]
 | .it J,_=>by
  cases hp:p J with
  | false=>simp[KV.mX,hp,KV.pv,PV.sub,DY]
  | true=>simp[KV.mX,hp,KV.pv,PV.sub,DY]
 | .oh J,_=>by
  cases hp:p J with
  | false=>simp[KV.mX,hp,KV.pv,PV.sub,DY]
  | true =>
   have:=KV.oR g (x:=.oh J) trivial;simp only[KV.mX,hp,lq,KV.pv];rw[this];simp[KV.pv,PV.sub,DY,En,hp]
 | .agg cs,h=>by simp[KV.mX,KV.pv,PV.sub,PB p g h]
 | .iface t x,h=>by simp[KV.mX,KV.pv,PV.sub,KV.td p g (x:=x) h]
 | .fn f cap,h=>by simp[KV.mX,KV.pv,PV.sub,PB p g h]
 | .mn Z,h=>by simp[KV.mX,KV.pv,PV.sub,PB p g h]
theorem PB (p:Nm->Bool) (g:Nm->lV):∀ {Z:lX},AW Z->AE (LC p g Z)=AM (DY p g) (AE Z)
 | [],_=>rfl
 | x :: Z,h=>by simp[LC,AE,AM,KV.td p g h.1,PB p g h.2]
end
def Ob.shut (o:Ob):Prop :=
 match o with
 | .cells _ cs=>AB cs=true
 | .arr _ _ Z=>AB Z=true
 | .map es=>AB es=true
 | .mD _ _=>True
theorem Df (h:Ax v=true):AB v.cells=true:=by cases v<;>simp_all [PV.cells,AB,Ax]
theorem RV {Z:lS} (h:AB Z=true) (hs:∀ y∈ys,y∈Z):AB ys=true:=EF.2 fun y hy=>EF.1 h y (hs y hy)
theorem Hr {Z:lS} (h:AB Z=true) (n:Nat):AB (Z.take n)=true:=RV h fun _ hy=>ja hy
theorem Jl {Z:lS} (h:AB Z=true) (n:Nat):AB (Z.drop n)=true:=RV h fun _ hy=>jH hy
theorem Ii {Z:lS} (h:AB Z=true) (h':AB ys=true):AB (Z++ys)=true :=
 EF.2 fun y hy=>(iH.1 hy).elim (EF.1 h y) (EF.1 h' y)
theorem Io {Z:lS} (h:AB Z=true) (O:Z[i]?=some x):Ax x=true:=EF.1 h x (iz O)
theorem ZL {Z:lS} (h:AB Z=true) (i:Nat) (O:Ax x=true):AB (Z.set i x)=true :=
 EF.2 fun y hy=>(kw hy).elim (EF.1 h y) fun e=>e ▸ O
mutual
theorem KV.oA {g:Nm->lV} (hg:∀ J ob,g J=some ob->ob.shut):∀ {x:KV},x.ok->x.mV=false->Ax (x.close g)=true
 | .un,_,_ | .sk,_,_ | .lit _,_,_ | .nz,_,_=>by simp[KV.close,Ax,AB]
 | .mF _,_,h=>by simp[KV.mV] at h
 | .cv v,h,_=>by have:Ax v=true:=h;simpa[KV.close] using this
 | .ref J o,_,_=>by
  simp only[KV.close];cases hn:g J with
  | none=>rfl
  | some ob =>
   cases ob with
   | cells ty cs =>
    have:AB cs=true:=hg _ _ hn;simp only[ptrO];split;{simpa[Ax] using this};{rfl}
   | _=>rfl
 | .my J k i o,_,_=>by
  simp only[KV.close];cases hn:g J with
  | none=>rfl
  | some ob =>
   cases ob with
   | arr k' kt Z =>
    have:AB Z=true:=hg _ _ hn;simp only[zaF];split;{split;{rename_i x O;split;{simpa[Ax] using Df (Io this O)};{rfl}};{rfl}};{rfl}
   | _=>rfl
 | .arr J k o n,_,_=>by
  simp only[KV.close];cases hn:g J with
  | none=>rfl
  | some ob =>
   cases ob with
   | arr k' kt Z =>
    have:AB Z=true:=hg _ _ hn;simp only[slO];split;{simpa[Ax] using Hr (Jl this o) n};{rfl}
   | _=>rfl
 | .mp J,_,_=>by
  simp only[KV.close];cases hn:g J with
  | none=>rfl
  | some ob =>
   cases ob with
   | map es =>
    have:AB es=true:=hg _ _ hn;simpa[Ax] using this
   | _=>rfl
 | .it J,_,_=>by simp[KV.close,Ax,PV.names,PV.mV]
 | .oh J,_,_=>by
  simp only[KV.close];cases hn:g J with
  | none=>rfl
  | some ob =>
   cases ob with
   | arr k' kt Z =>
    have:AB Z=true:=hg _ _ hn;simp only[slO];split;{simpa[Ax] using Hr (Jl this 0) 0};{rfl}
   | _=>rfl
 | .agg cs,h,hy=>by simpa[KV.close,Ax] using Kl hg (Z:=cs) h (by simpa[KV.mV] using hy)
 | .iface t x,h,hy=>by simpa[KV.close,Ax] using KV.oA hg (x:=x) h (by simpa[KV.mV] using hy)
 | .fn f cap,h,hy=>by simpa[KV.close,Ax] using Kl hg (Z:=cap) h (by simpa[KV.mV] using hy)
 | .mn Z,h,hy=>by simpa[KV.close,Ax] using Kl hg (Z:=Z) h (by simpa[KV.mV] using hy)
theorem Kl {g:Nm->lV} (hg:∀ J ob,g J=some ob->ob.shut):∀ {Z:lX},AW Z->EZ Z=false->AB (FO g Z)=true
 | [],_,_=>rfl
 | x :: Z,h,hy=>by
  simp only[EZ,jX] at hy;simp[FO,AB,KV.oA hg h.1 hy.1,Kl hg h.2 hy.2]
end
mutual
theorem KV.qD {p:Nm->Bool} {g:Nm->lV} (hg:∀ J ob,g J=some ob->ob.shut):∀ {x:KV},x.ok->(x.mX p g).ok
 | .un,_ | .sk,_ | .lit _,_ | .nz,_ | .mF _,_=>by simp[KV.mX,KV.ok]
 | .cv v,h=>by simpa[KV.mX,KV.ok] using h
 | .ref J o,_=>by
  simp only[KV.mX];split;{exact KV.oA hg (x:=.ref J o) trivial rfl};{trivial}
 | .my J k i o,_=>by
  simp only[KV.mX];split;{exact KV.oA hg (x:=.my J k i o) trivial rfl};{trivial}
 | .arr J k o n,_=>by
  simp only[KV.mX];split;{exact KV.oA hg (x:=.arr J k o n) trivial rfl};{trivial}
 | .mp J,_=>by
  simp only[KV.mX];split;{exact KV.oA hg (x:=.mp J) trivial rfl};{trivial}
 | .it J,_=>by
  simp only[KV.mX];split<;>trivial
 | .oh J,_=>by
  simp only[KV.mX];split;{exact KV.oA hg (x:=.oh J) trivial rfl};{trivial}
 | .agg cs,h=>by simpa[KV.mX,KV.ok] using PC hg h
 | .iface t x,h=>by simpa[KV.mX,KV.ok] using KV.qD hg (x:=x) h
 | .fn f cap,h=>by simpa[KV.mX,KV.ok] using PC hg h
 | .mn Z,h=>by simpa[KV.mX,KV.ok] using PC hg h
theorem PC {p:Nm->Bool} {g:Nm->lV} (hg:∀ J ob,g J=some ob->ob.shut):∀ {Z:lX},AW Z->AW (LC p g Z)
 | [],_=>trivial
 | x :: Z,h=>⟨KV.qD hg h.1,PC hg h.2⟩
end
end Go.Ab


namespace Go.Ab
variable{f:KV->KV} {g:Nm->Option lV} {i j nt:Nat} {l:Sp} {J:Nm} {p:Nat×KV} {v:KV}
theorem CC (h:Nat.beq i j=true):i=j:=i7 h
theorem GD (h:Nat.beq i j=false):i≠j:=kS h
theorem Ug (i:Nat) (v:KV):∀ (l:Sp) (j:Nat),AS (CP i v l) j=if j=i then v else AS l j:=by
 intro l;induction l with
 | nil =>
  intro j;simp only[CP,AS];cases h:Nat.beq j i with
  | true=>simp[CC h]
  | false=>simp[GD h]
 | cons p l ih =>
  obtain⟨k,u⟩:=p;intro j;simp only[CP];cases h:Nat.beq i k with
  | true =>
   have:=CC h;subst this;simp only[AS];cases H:Nat.beq j i with
   | true=>simp[CC H]
   | false=>simp[GD H]
  | false =>
   cases h3:Nat.blt i k with
   | true =>
    simp only[AS];cases H:Nat.beq j i with
    | true=>simp[CC H]
    | false=>simp[GD H]
   | false =>
    simp only[AS];cases H:Nat.beq j k with
    | true =>
     have h4:=CC H;have h5:=GD h;subst h4;simp[iN h5]
    | false=>exact ih j
theorem wB (i:Nat):∀ (l:Sp) (j:Nat),AS (K6 i l) j=if j=i then .un else AS l j:=by
 intro l;induction l with
 | nil=>intro j;simp[K6,AS]
 | cons p l ih =>
  obtain⟨k,u⟩:=p;intro j;simp only[K6];cases h:Nat.beq i k with
  | true =>
   have:=CC h;subst this;simp only[AS];rw[ih j];cases H:Nat.beq j i with
   | true=>simp[CC H]
   | false=>simp[GD H]
  | false =>
   simp only[AS];cases H:Nat.beq j k with
   | true =>
    have h4:=CC H;have h5:=GD h;subst h4;simp[iN h5]
   | false=>exact ih j
theorem wC (i:Nat) (v:KV) (l:Sp) (j:Nat):AS (N8 i v l) j=if j=i then v else AS l j:=by unfold N8;split;{exact wB i l j};{exact Ug i v l j}
theorem eZ (p:Nat->Bool):∀ (l:Sp) (j:Nat),AS (FM p l) j=if p j=true then AS l j else .un:=by
 intro l;induction l with
 | nil=>intro j;simp[FM,AS]
 | cons q l ih =>
  obtain⟨k,u⟩:=q;intro j;simp only[FM];cases hp:p k with
  | true =>
   simp only[AS];cases H:Nat.beq j k with
   | true=>have:=CC H;subst this;simp[hp]
   | false=>exact ih j
  | false =>
   simp only[AS];rw[ih j];cases H:Nat.beq j k with
   | true=>have:=CC H;subst this;simp[hp]
   | false=>rfl
def FV:KV->Bool
 | .un=>true
 | _=>false
structure Bu (nt:Nat) (l:Sp):Prop where
 sv:(l.map (·.1)).Pairwise (· < ·)
 lt:∀ p∈l,p.1 < nt
 ok:∀ p∈l,p.2.ok
 nu:∀ p∈l,FV p.2=false
theorem Bu.nil (nt:Nat):Bu nt []:=⟨.nil,by simp,by simp,by simp⟩
theorem Bu.tail (h:Bu nt (p :: l)):Bu nt l :=
 ⟨(jm.1 h.sv).2,fun q hq=>h.lt q (by simp[hq]),fun q hq=>h.ok q (by simp[hq]),fun q hq=>h.nu q (by simp[hq])⟩
theorem Uh (h:∀ p∈l,p.1≠i):AS l i=.un:=by
 induction l with
 | nil=>rfl
 | cons p l ih =>
  obtain⟨k,u⟩:=p;simp only[AS];cases H:Nat.beq i k with
  | true=>exact lH (CC H).symm (h (k,u) (by simp))
  | false=>exact ih fun q hq=>h q (by simp[hq])
theorem Bu.get_mem (h:Bu nt l) (hp:p∈l):AS l p.1=p.2:=by
 induction l with
 | nil=>cases hp
 | cons q l ih =>
  obtain⟨k,u⟩:=q;simp only[AS];rcases im.1 hp with rfl | hp';{simp}
  ·have U:=(jm.1 h.sv).1 p.1 (ii.2 ⟨p,hp',rfl⟩);simp only at U;cases H:Nat.beq p.1 k with
   | true=>have:=CC H;omega
   | false=>exact ih h.tail hp'
theorem OU (h:AS l i≠.un):(i,AS l i)∈l:=by
 induction l with
 | nil=>exact lH rfl h
 | cons p l ih =>
  obtain⟨k,u⟩:=p;simp only[AS] at h |-;cases H:Nat.beq i k with
  | true=>have:=CC H;subst this;simp
  | false=>rw[H] at h;simp only at h |-;exact iA _ (ih h)
theorem Zn (x:KV):x=.un\/x≠.un:=by cases x<;>simp
theorem Bu.nN (h:Bu nt l) (i:Nat):(AS l i).ok:=by rcases Zn (AS l i) with U | U;{rw[U];trivial};{exact h.ok _ (OU U)}
theorem Bu.qE (h:Bu nt l) (hi:nt<=i):AS l i=.un:=by rcases Zn (AS l i) with U | U;{exact U};{have:=h.lt _ (OU U);simp only at this;omega}
theorem Q4:∀ {l:Sp} {p:Nat×KV},p∈CP i v l->p=(i,v)\/p∈l:=by
 intro l;induction l with
 | nil=>intro p hp;simp[CP] at hp;exact .inl hp
 | cons q l ih =>
  obtain⟨k,u⟩:=q;intro p hp;simp only[CP] at hp;cases h:Nat.beq i k with
  | true =>
   rw[h] at hp;simp only[im] at hp |-;rcases hp with rfl | hp;{exact .inl rfl};{exact .inr (.inr hp)}
  | false =>
   rw[h] at hp;cases h3:Nat.blt i k with
   | true =>
    rw[h3] at hp;simp only[im] at hp |-;rcases hp with rfl | hp | hp;{exact .inl rfl};{exact .inr (.inl hp)};{exact .inr (.inr hp)}
   | false =>
    rw[h3] at hp;simp only[im] at hp |-;rcases hp with rfl | hp;{exact .inr (.inl rfl)};{exact (ih hp).imp id .inr}
theorem wD:∀ {l:Sp},(l.map (·.1)).Pairwise (· < ·)->((CP i v l).map (·.1)).Pairwise (· < ·):=by
 intro l;induction l with
 | nil=>intro _;simp[CP]
 | cons q l ih =>
  obtain⟨k,u⟩:=q;intro h;have U:=jm.1 h;simp only[CP];cases H:Nat.beq i k with
  | true =>
   have:=CC H;subst this;exact jm.2 ⟨U.1,U.2⟩
  | false =>
   cases h3:Nat.blt i k with
   | true =>
    have h4:i < k:=by simpa[jk] using h3
    refine jm.2 ⟨fun a ha=>?_,h⟩;simp only[iE,im] at ha;rcases ha with rfl | ha;{exact h4};{exact Nat.lt_trans h4 (U.1 a ha)}
   | false =>
    have h5:=GD H;have h4:¬ i < k:=by intro h6;rw[show Nat.blt i k=true by simpa[jk] using h6] at h3;cases h3
    refine jm.2 ⟨fun a ha=>?_,ih U.2⟩;obtain⟨p,hp,rfl⟩:=ii.1 ha;rcases Q4 hp with rfl | hp;{simp only;omega};{exact U.1 _ (ii.2 ⟨p,hp,rfl⟩)}
theorem Bu.put (h:Bu nt l) (hi:i < nt) (hv:v.ok) (hu:FV v=false):Bu nt (CP i v l) where
 sv:=wD h.sv
 lt p hp:=(Q4 hp).elim (fun e=>by rw[e];exact hi) (h.lt p)
 ok p hp:=(Q4 hp).elim (fun e=>by rw[e];exact hv) (h.ok p)
 nu p hp:=(Q4 hp).elim (fun e=>by rw[e];exact hu) (h.nu p)
theorem wE (i:Nat):∀ (l:Sp),(K6 i l).Sublist l:=by
 intro l;induction l with
 | nil=>exact .slnil
 | cons q l ih =>
  obtain⟨k,u⟩:=q;simp only[K6];cases Nat.beq i k with
  | true=>exact .cons _ ih
  | false=>exact .cons_cons _ ih
theorem eY (p:Nat->Bool):∀ (l:Sp),(FM p l).Sublist l:=by
 intro l;induction l with
 | nil=>exact .slnil
 | cons q l ih =>
  obtain⟨k,u⟩:=q;simp only[FM];cases p k with
  | true=>exact .cons_cons _ ih
  | false=>exact .cons _ ih
theorem Bu.sub {l':Sp} (h:Bu nt l) (hs:l'.Sublist l):Bu nt l' :=
 ⟨h.sv.sublist (hs.map _),fun p hp=>h.lt p (hs.subset hp),fun p hp=>h.ok p (hs.subset hp),fun p hp=>h.nu p (hs.subset hp)⟩
theorem Bu.set (h:Bu nt l) (hi:i < nt) (hv:v.ok):Bu nt (N8 i v l):=by unfold N8;split;{exact h.sub (wE i l)};{rename_i hu;refine h.put hi hv ?_;cases v<;>simp_all [FV]}
theorem eX (f:KV->KV):∀ (l:Sp),((Dz f l).map (·.1)).Sublist (l.map (·.1)):=by
 intro l;induction l with
 | nil=>exact .slnil
 | cons q l ih =>
  obtain⟨k,u⟩:=q;simp only[Dz];split;{exact .cons _ ih};{exact .cons_cons _ ih}
theorem Q5:∀ {l:Sp} {p:Nat×KV},p∈Dz f l->∃ q∈l,p=(q.1,f q.2)/\FV p.2=false:=by
 intro l;induction l with
 | nil=>intro p hp;cases hp
 | cons q l ih =>
  obtain⟨k,u⟩:=q;intro p hp;simp only[Dz] at hp;split at hp;{obtain⟨q,hq,h⟩:=ih hp;exact⟨q,by simp[hq],h⟩};{rename_i mP;rcases im.1 hp with rfl | hp;{exact⟨(k,u),by simp,rfl,by cases hf:f u<;>simp_all [FV]⟩};{obtain⟨q,hq,h⟩:=ih hp;exact⟨q,by simp[hq],h⟩}}
theorem Bu.map (h:Bu nt l) (hf:∀ x:KV,x.ok->(f x).ok):Bu nt (Dz f l) where
 sv:=h.sv.sublist (eX f l)
 lt p hp:=by obtain⟨q,hq,rfl,_⟩:=Q5 hp;exact h.lt q hq
 ok p hp:=by obtain⟨q,hq,rfl,_⟩:=Q5 hp;exact hf _ (h.ok q hq)
 nu p hp:=by obtain⟨q,hq,_,h⟩:=Q5 hp;exact h
theorem Yl (hf:f .un=.un):∀ {l:Sp} (_:Bu nt l) (i:Nat),AS (Dz f l) i=f (AS l i):=by
 intro l;induction l with
 | nil=>intro _ i;simp[Dz,AS,hf]
 | cons q l ih =>
  obtain⟨k,u⟩:=q;intro h i;have U:=jm.1 h.sv;simp only[Dz,AS];split
  ·rename_i hu;cases H:Nat.beq i k with
   | true =>
    have:=CC H;subst this;simp only
    rw[hu];refine Uh fun p hp=>?_;obtain⟨q,hq,rfl,_⟩:=Q5 hp;have:=U.1 q.1 (ii.2 ⟨q,hq,rfl⟩);simp only at this |-;omega
   | false=>exact ih h.tail i
  ·simp only[AS];cases H:Nat.beq i k with
   | true=>rfl
   | false=>exact ih h.tail i
theorem wF:Gi l i=true↔∃ p∈l,p.1=i:=by
 induction l with
 | nil=>simp[Gi]
 | cons q l ih =>
  obtain⟨k,u⟩:=q;simp only[Gi];cases H:Nat.beq i k with
  | true=>simp[CC H]
  | false=>simp[ih,iN (GD H)]
theorem dU:J∈Fe l↔∃ p∈l,J∈p.2.names:=by
 induction l with
 | nil=>simp[Fe]
 | cons q l ih=>obtain⟨k,u⟩:=q;simp[Fe,ih]
theorem Bu.u6 (h:Bu nt l) (i:Nat):Gi l i=true↔AS l i≠.un:=by rw[wF];constructor;{rintro ⟨p,hp,rfl⟩ hu;rw[h.get_mem hp] at hu;have:=h.nu p hp;rw[hu] at this;cases this};{intro hu;exact⟨_,OU hu,rfl⟩}
theorem mZ (nt:Nat) (l:Sp) (i:Nat):(Bi nt l)[i]?=if i < nt then some (AS l i).pv else none:=by unfold Bi;rw[iC];split;{rename_i h;rw[jG h];rfl};{rename_i h;rw[i6 (by simpa using h)];rfl}
theorem DV (nt:Nat) (l:Sp):(Bi nt l).length=nt:=by simp[Bi]
theorem LN (h:Bu nt l) (i:Nat):(Bi nt l).getD i .undef=(AS l i).pv:=by rw[ip,mZ];split;{rfl};{rename_i hi;rw[h.qE (by omega)];rfl}
theorem LV {Z:lS} (hl:Z.length=nt) (h:∀ i,i < nt->Z[i]?=some (AS l i).pv):Bi nt l=Z:=by apply jc;intro i;rw[mZ];split;{rename_i hi;exact (h i hi).symm};{rename_i hi;rw[i6 (by omega)]}
theorem Y9 (d:Nat) (v:KV):Bi nt (N8 d v l)=(Bi nt l).set d v.pv:=by refine LV (by simp[DV]) fun i hi=>?_;rw[kK,DV,mZ,wC];by_cases h:d=i;{subst h;simp[hi]};{simp[h,iN h,hi]}
theorem Rp (d:Nat) (v:KV):Bi nt (CP d v l)=(Bi nt l).set d v.pv:=by refine LV (by simp[DV]) fun i hi=>?_;rw[kK,DV,mZ,Ug];by_cases h:d=i;{subst h;simp[hi]};{simp[h,iN h,hi]}
theorem Rq (h:Bu nt l) (hu:f .un=.un) (hf:∀ x:KV,x.ok->(f x).pv=x.pv.sub g) :
  Bi nt (Dz f l)=AM g (Bi nt l):=by
 refine LV (by rw[QG,DV]) fun i hi=>?_;rw[sj,mZ,Yl hu h,lu hi,hf _ (h.nN i)];rfl
theorem d9 (f:Nm->Nm) (Z:lS):(AY f Z).length=Z.length:=by
 induction Z with
 | nil=>rfl
 | cons x Z ih=>simp[AY,ih]
theorem sw (f:Nm->Nm) (Z:lS) (i:Nat):(AY f Z)[i]?=(Z[i]?).map (PV.mz f):=by
 induction Z generalizing i with
 | nil=>rfl
 | cons x Z ih=>cases i<;>simp[AY,ih]
theorem Ro (h:Bu nt l) (f:Nm->Nm):Bi nt (Dz (KV.mz f) l)=AY f (Bi nt l):=by refine LV (by rw[d9,DV]) fun i hi=>?_;rw[sw,mZ,Yl (by simp[KV.mz]) h,lu hi,KV.r7 f (h.nN i)];rfl
theorem QL (h:Bu nt l) (J:Nm):J∈Ar (Bi nt l)↔J∈Fe l:=by
 have hm:∀ (Z:lS),J∈Ar Z↔∃ x∈Z,J∈x.names:=by
  intro Z;induction Z with
  | nil=>simp[Ar]
  | cons x Z ih=>simp[Ar,ih]
 rw[hm,dU];constructor
 ·rintro ⟨x,O,hn⟩;obtain⟨i,hi⟩:=List.getElem?_of_mem O;rw[mZ] at hi;split at hi
  ·cases hi;rw[KV.nY (h.nN i)] at hn;have mP:AS l i≠.un:=by intro hu;rw[hu] at hn;simp[KV.names] at hn
   exact⟨_,OU mP,hn⟩
  {cases hi}
 {rintro ⟨p,hp,hn⟩;have:=h.get_mem hp;refine⟨p.2.pv,iz (i:=p.1) ?_,?_⟩;{rw[mZ,lu (h.lt p hp),this]};{rw[KV.nY (h.ok p hp)];exact hn}}
def Ad.ok:Ad->Prop
 | .cells _ cs=>AW cs
 | .whole _ v=>Ax v=true
 | .arr _ _ Z=>AB Z=true
 | .map es=>AB es=true
 | .mD _ _=>True
structure Bm (nt:Nat) (l:AV):Prop where
 sv:(l.map (·.1)).Pairwise (· < ·)
 lt:∀ p∈l,p.1 < nt
 ok:∀ p∈l,∀ o∈p.2,o.ok
theorem Bm.nil (nt:Nat):Bm nt []:=⟨.nil,by simp,by simp⟩
variable{l:AV} {p:Nat×lZ}
theorem Bm.tail (h:Bm nt (p :: l)):Bm nt l :=
 ⟨(jm.1 h.sv).2,fun q hq=>h.lt q (by simp[hq]),fun q hq=>h.ok q (by simp[hq])⟩
theorem Ad.pc {o:Ad} (h:o.ok):o.ob.names=o.names:=by
 cases o with
 | cells ty cs=>exact FE h
 | whole ty v=>exact (Ch (Df h)).1
 | map es=>exact (Ch h).1
 | _=>rfl
theorem wG (i:Nat) (v:lZ):∀ (l:AV) (j:Nat),A2 (Eo i v l) j=if j=i then v else A2 l j:=by
 intro l;induction l with
 | nil =>
  intro j;simp only[Eo,A2];cases h:Nat.beq j i with
  | true=>simp[CC h]
  | false=>simp[GD h]
 | cons p l ih =>
  obtain⟨k,u⟩:=p;intro j;simp only[Eo];cases h:Nat.beq i k with
  | true =>
   have:=CC h;subst this;simp only[A2];cases H:Nat.beq j i with
   | true=>simp[CC H]
   | false=>simp[GD H]
  | false =>
   cases h3:Nat.blt i k with
   | true =>
    simp only[A2];cases H:Nat.beq j i with
    | true=>simp[CC H]
    | false=>simp[GD H]
   | false =>
    simp only[A2];cases H:Nat.beq j k with
    | true =>
     have h4:=CC H;have h5:=GD h;subst h4;simp[iN h5]
    | false=>exact ih j
theorem fa (p:Nat->Bool):∀ (l:AV) (j:Nat),A2 (KF p l) j=if p j=true then A2 l j else []:=by
 intro l;induction l with
 | nil=>intro j;simp[KF,A2]
 | cons q l ih =>
  obtain⟨k,u⟩:=q;intro j;simp only[KF];cases hp:p k with
  | true =>
   simp only[A2];cases H:Nat.beq j k with
   | true=>have:=CC H;subst this;simp[hp]
   | false=>exact ih j
  | false =>
   simp only[A2];rw[ih j];cases H:Nat.beq j k with
   | true=>have:=CC H;subst this;simp[hp]
   | false=>rfl
theorem wH (f:Ad->Ad):∀ (l:AV) (j:Nat),A2 (E6 f l) j=(A2 l j).map f:=by
 intro l;induction l with
 | nil=>intro j;simp[E6,A2]
 | cons q l ih =>
  obtain⟨k,u⟩:=q;intro j;simp only[E6,A2];cases H:Nat.beq j k with
  | true=>rfl
  | false=>exact ih j
theorem M3 (h:A2 l i≠[]):(i,A2 l i)∈l:=by
 induction l with
 | nil=>exact lH rfl h
 | cons p l ih =>
  obtain⟨k,u⟩:=p;simp only[A2] at h |-;cases H:Nat.beq i k with
  | true=>have:=CC H;subst this;simp
  | false=>rw[H] at h;simp only at h |-;exact iA _ (ih h)
theorem Bm.get_mem (h:Bm nt l) (hp:p∈l):A2 l p.1=p.2:=by
 induction l with
 | nil=>cases hp
 | cons q l ih =>
  obtain⟨k,u⟩:=q;simp only[A2];rcases im.1 hp with rfl | hp';{simp}
  ·have U:=(jm.1 h.sv).1 p.1 (ii.2 ⟨p,hp',rfl⟩);simp only at U;cases H:Nat.beq p.1 k with
   | true=>have:=CC H;omega
   | false=>exact ih h.tail hp'
theorem Bm.nN (h:Bm nt l) {o:Ad} (ho:o∈A2 l i):o.ok:=by
 have:A2 l i≠[]:=by intro U;rw[U] at ho;cases ho
 exact h.ok _ (M3 this) o ho
theorem Bm.qE (h:Bm nt l) (hi:nt<=i):A2 l i=[]:=by by_cases U:A2 l i=[];{exact U};{have:=h.lt _ (M3 U);simp only at this;omega}
variable{v:lZ}
theorem Ui:∀ {l:AV} {p:Nat×lZ},p∈Eo i v l->p=(i,v)\/p∈l:=by
 intro l;induction l with
 | nil=>intro p hp;simp[Eo] at hp;exact .inl hp
 | cons q l ih =>
  obtain⟨k,u⟩:=q;intro p hp;simp only[Eo] at hp;cases h:Nat.beq i k with
  | true =>
   rw[h] at hp;simp only[im] at hp |-;rcases hp with rfl | hp;{exact .inl rfl};{exact .inr (.inr hp)}
  | false =>
   rw[h] at hp;cases h3:Nat.blt i k with
   | true =>
    rw[h3] at hp;simp only[im] at hp |-;rcases hp with rfl | hp | hp;{exact .inl rfl};{exact .inr (.inl hp)};{exact .inr (.inr hp)}
   | false =>
    rw[h3] at hp;simp only[im] at hp |-;rcases hp with rfl | hp;{exact .inr (.inl rfl)};{exact (ih hp).imp id .inr}
theorem wI:∀ {l:AV},(l.map (·.1)).Pairwise (· < ·)->((Eo i v l).map (·.1)).Pairwise (· < ·):=by
 intro l;induction l with
 | nil=>intro _;simp[Eo]
 | cons q l ih =>
  obtain⟨k,u⟩:=q;intro h;have U:=jm.1 h;simp only[Eo];cases H:Nat.beq i k with
  | true =>
   have:=CC H;subst this;exact jm.2 ⟨U.1,U.2⟩
  | false =>
   cases h3:Nat.blt i k with
   | true =>
    have h4:i < k:=by simpa[jk] using h3
    refine jm.2 ⟨fun a ha=>?_,h⟩;simp only[iE,im] at ha;rcases ha with rfl | ha;{exact h4};{exact Nat.lt_trans h4 (U.1 a ha)}
   | false =>
    have h5:=GD H;have h4:¬ i < k:=by intro h6;rw[show Nat.blt i k=true by simpa[jk] using h6] at h3;cases h3
    refine jm.2 ⟨fun a ha=>?_,ih U.2⟩;obtain⟨p,hp,rfl⟩:=ii.1 ha;rcases Ui hp with rfl | hp;{simp only;omega};{exact U.1 _ (ii.2 ⟨p,hp,rfl⟩)}
theorem Bm.put (h:Bm nt l) (hi:i < nt) (hv:∀ o∈v,o.ok):Bm nt (Eo i v l) where
 sv:=wI h.sv
 lt p hp:=(Ui hp).elim (fun e=>by rw[e];exact hi) (h.lt p)
 ok p hp:=(Ui hp).elim (fun e=>by rw[e];exact hv) (h.ok p)
theorem e8 (p:Nat->Bool):∀ (l:AV),(KF p l).Sublist l:=by
 intro l;induction l with
 | nil=>exact .slnil
 | cons q l ih =>
  obtain⟨k,u⟩:=q;simp only[KF];cases p k with
  | true=>exact .cons_cons _ ih
  | false=>exact .cons _ ih
theorem Bm.sub {l':AV} (h:Bm nt l) (hs:l'.Sublist l):Bm nt l' :=
 ⟨h.sv.sublist (hs.map _),fun p hp=>h.lt p (hs.subset hp),fun p hp=>h.ok p (hs.subset hp)⟩
theorem e7 (f:Ad->Ad):∀ (l:AV),(E6 f l).map (·.1)=l.map (·.1):=by
 intro l;induction l with
 | nil=>rfl
 | cons q l ih=>obtain⟨k,u⟩:=q;simp[E6,ih]
variable{f:Ad->Ad}
theorem Ym:∀ {l:AV} {p:Nat×lZ},p∈E6 f l->∃ q∈l,p=(q.1,q.2.map f):=by
 intro l;induction l with
 | nil=>intro p hp;cases hp
 | cons q l ih =>
  obtain⟨k,u⟩:=q;intro p hp;rcases im.1 hp with rfl | hp;{exact⟨(k,u),by simp,rfl⟩};{obtain⟨q,hq,h⟩:=ih hp;exact⟨q,by simp[hq],h⟩}
theorem Bm.map (h:Bm nt l) (hf:∀ x:Ad,x.ok->(f x).ok):Bm nt (E6 f l) where
 sv:=by rw[e7];exact h.sv
 lt p hp:=by obtain⟨q,hq,rfl⟩:=Ym hp;exact h.lt q hq
 ok p hp o ho:=by obtain⟨q,hq,rfl⟩:=Ym hp;obtain⟨o',sf,rfl⟩:=ii.1 ho;exact hf _ (h.ok q hq o' sf)
theorem dW:J∈Hw l↔∃ p∈l,∃ o∈p.2,J∈o.names:=by
 induction l with
 | nil=>simp[Hw]
 | cons q l ih=>obtain⟨k,u⟩:=q;simp[Hw,ih]
theorem mW (nt:Nat) (l:AV) (i:Nat):(Co nt l)[i]?=if i < nt then some ((A2 l i).map Ad.ob) else none:=by unfold Co;rw[iC];split;{rename_i h;rw[jG h];rfl};{rename_i h;rw[i6 (by simpa using h)];rfl}
theorem If (nt:Nat) (l:AV):(Co nt l).length=nt:=by simp[Co]
theorem LP {Z:List lY} (hl:Z.length=nt) (h:∀ i,i < nt->Z[i]?=some ((A2 l i).map Ad.ob)):Co nt l=Z:=by apply jc;intro i;rw[mW];split;{rename_i hi;exact (h i hi).symm};{rename_i hi;rw[i6 (by omega)]}
theorem LO (d:Nat) (v:lZ):Co nt (Eo d v l)=(Co nt l).set d (v.map Ad.ob):=by refine LP (by simp[If]) fun i hi=>?_;rw[kK,If,mW,wG];by_cases h:d=i;{subst h;simp[hi]};{simp[h,iN h,hi]}
theorem Q2 (h:Bm nt l) {g:Ob->Ob} (hf:∀ x:Ad,x.ok->(f x).ob=g x.ob):Co nt (E6 f l)=(Co nt l).map (·.map g):=by refine LP (by simp[If]) fun i hi=>?_;rw[iC,mW,lu hi,wH];simp only[iu,iK,il];apply iV;intro o ho;simp[hf o (h.nN ho)]
theorem eI (h:Bm nt l) (J:Nm):Ac (Co nt l) J=(A4 l J).map Ad.ob:=by
 unfold Ac A4;rw[mW];split
 ·rename_i x O;split at O;·cases O;rw[iC]
  {cases O}
 ·rename_i O;split at O;·cases O
  {rw[h.qE (by omega)];rfl}
theorem RI (h:Bm nt l) {o:Ad} (ho:A4 l J=some o):J.1 < nt:=by apply kb;intro hn;unfold A4 at ho;rw[h.qE (by omega)] at ho;cases ho
theorem Dv (h:Bm nt l) {o:Ad} (ho:A4 l J=some o):o.ok:=h.nN (iz ho)
theorem OK (h:Bm nt l) (J:Nm) (o:Ad):Co nt (pg l J o)=AR (Co nt l) J o.ob:=by
 unfold pg AR;cases hk:A4 l J with
 | some o' =>
  have mL:=RI h hk;simp only
  rw[LO,mW,lu mL];simp[kf]
 | none =>
  simp only
  rw[mW];split
  ·rename_i x O;split at O
   ·cases O;have U:((A2 l J.1).map Ad.ob).set J.2 o.ob=(A2 l J.1).map Ad.ob:=by rw[kT];have:=iR.1 hk;simpa using this
    rw[U];refine LP (by simp[If]) fun i hi=>?_;rw[kK,If,mW];by_cases H:J.1=i;{subst H;simp[hi]};{simp[H,hi]}
   {cases O}
  {rfl}
theorem Bm.pg (h:Bm nt l) (J:Nm) {o:Ad} (ho:o.ok):Bm nt (pg l J o):=by
 unfold Go.Ab.pg;cases hk:A4 l J with
 | some o' =>
  refine h.put (RI h hk) fun x O=>?_;rcases kw O with U | rfl;{exact h.nN U};{exact ho}
 | none=>exact h
theorem WH (h:Bm nt l) (J:Nm):J∈(Co nt l).flatMap (fun l=>l.flatMap Ob.names)↔J∈Hw l:=by
 rw[dW];simp only[ji];constructor
 ·rintro ⟨x,O,ob,oI,hn⟩;obtain⟨i,hi⟩:=List.getElem?_of_mem O;rw[mW] at hi;split at hi
  ·cases hi;obtain⟨o,ho,rfl⟩:=ii.1 oI;rw[Ad.pc (h.nN ho)] at hn;have:A2 l i≠[]:=by intro U;rw[U] at ho;cases ho
   exact⟨_,M3 this,o,ho,hn⟩
  {cases hi}
 {rintro ⟨p,hp,o,ho,hn⟩;have:=h.get_mem hp;refine⟨p.2.map Ad.ob,iz (i:=p.1) ?_,o.ob,ii.2 ⟨o,ho,rfl⟩,?_⟩;{rw[mW,lu (h.lt p hp),this]};{rw[Ad.pc (h.ok p hp o ho)];exact hn}}
end Go.Ab


namespace Go.Ab
variable{R:Type} {f:KV->KV} {g:lS->lS} {l:mg} {nt:Nat} {p:Nm->Bool} {v:PV} {x:RX} {σ:Nm->me}
mutual
theorem Uw {R:Type}:∀ (x:KV) (K:KV->R),KQ x K=K x
 | .un,_ | .sk,_ | .nz,_ | .cv _,_ | .mF _,_=>rfl
 | .lit b,K=>by cases b<;>rfl
 | .ref J _,_ | .my J _ _ _,_ | .arr J _ _ _,_ | .mp J,_ | .it J,_ | .oh J,_=>by cases J;rfl
 | .agg cs,K=>by simp only[KQ];rw[O2 cs]
 | .iface t x,K=>by simp only[KQ];rw[Uw x]
 | .fn f cap,K=>by simp only[KQ];rw[O2 cap]
 | .mn Z,K=>by simp only[KQ];rw[O2 Z]
theorem O2 {R:Type}:∀ (Z:lX) (K:lX->R),Mj Z K=K Z
 | [],_=>rfl
 | x :: Z,K=>by simp only[Mj];rw[Uw x,O2 Z]
end
theorem gP (x:Ad) (K:Ad->R):Vw x K=K x:=by cases x<;>simp[Vw,O2]
theorem WX {R:Type}:∀ (Z:lZ) (K:lZ->R),RM Z K=K Z
 | [],_=>rfl
 | x :: Z,K=>by simp only[RM];rw[gP x,WX Z]
theorem TZ {R:Type}:∀ (Z:Sp) (K:Sp->R),PD Z K=K Z
 | [],_=>rfl
 |(j,x) :: Z,K=>by simp only[PD];rw[Uw x,TZ Z]
theorem XN {R:Type}:∀ (Z:AV) (K:AV->R),R3 Z K=K Z
 | [],_=>rfl
 |(j,x) :: Z,K=>by simp only[R3];rw[WX x,XN Z]
theorem XO {R:Type}:∀ (Z:mg) (K:mg->R),R4 Z K=K Z
 | [],_=>rfl
 | x :: Z,K=>by simp only[R4];rw[TZ x,XO Z]
theorem C9 (ks:Aw) (K:Aw->R):Cp ks K=K ks:=by cases ks;simp only[Cp];rw[TZ,XN,XO]
structure Aw.Ok (ks:Aw):Prop where
 tm:Bu ks.nt ks.tmps
 ob:Bm ks.nt ks.mi
 kp:∀ sp∈ks.mj,Bu ks.nt sp
theorem bI (v:PV):(Id v).pv=v:=by unfold Id;split<;>simp[KV.pv,AE]
theorem bJ (h:Ax v=true):(Id v).ok:=by unfold Id;split;{trivial};{trivial};{trivial};{exact h}
variable {ks:Aw}
theorem GL (h:ks.Ok) (x:RX):x.ev ks.V.tmps=(x.kv ks.tmps).pv:=by
 cases x with
 | t i=>exact LN h.tm i
 | c v=>exact (bI v).symm
theorem Oh (h:ks.Ok) (O:Ey x=true):(x.kv ks.tmps).ok:=by
 cases x with
 | t i=>exact h.tm.nN i
 | c v=>exact bJ O
theorem G1 (h:ks.Ok) (J:Nm):Ac ks.V.mi J=(A4 ks.mi J).map Ad.ob:=eI h.ob J
theorem Ed (h:ks.Ok):Ac ks.V.mi=fun J=>(A4 ks.mi J).map Ad.ob:=funext (G1 h)
theorem Ad.zaV (p:Nm->Bool) {o:Ad} (h:o.ok):(o.off p).ob=o.ob.sub (Iz p):=by
 cases o with
 | cells ty cs=>simp[Ad.off,Ad.ob,Ob.sub,Ps p h]
 | whole ty v =>
  have:=(Ch (Df h)).1;simp only[Ad.off,Ad.ob,Ob.sub,FP];rw[ou this]
 | map es =>
  simp only[Ad.off,Ad.ob,Ob.sub];rw[ou (Ch h).1]
 | _=>rfl
where
 ou {Z:lS} (h:Ar Z=[]):AM (Iz p) Z=Z:=by
  induction Z with
  | nil=>rfl
  | cons x Z ih =>
   simp[Ar] at h;simp[AM,Kp h.1,ih h.2]
theorem Ad.po (p:Nm->Bool) {o:Ad} (h:o.ok):(o.off p).ok:=by
 cases o with
 | cells ty cs=>exact Pt p h
 | _=>exact h
theorem WN (f:Nm->Option lV) (Z ys:lS):AM f (Z++ys)=AM f Z++AM f ys:=by
 induction Z with
 | nil=>rfl
 | cons x Z ih=>simp[AM,ih]
theorem RN (hg:g []=[]) (ha:∀ Z ys,g (Z++ys)=g Z++g ys) (h:∀ sp∈l,Bi nt (Dz f sp)=g (Bi nt sp)) :
  (l.map (Dz f)).flatMap (Bi nt)=g (l.flatMap (Bi nt)):=by
 induction l with
 | nil=>simp[hg]
 | cons x l ih =>
  simp only[iE,jJ,ha];rw[h x (by simp),ih fun sp ny=>h sp (by simp[ny])]
theorem Vm (p:Nm->Bool) (h:ks.Ok):(NU p ks).V=CF (Iz p) ks.V:=by
 unfold NU Aw.V CF;simp only
 rw[Rq h.tm (by simp[KV.off]) (fun x O=>KV.r6 p O),Q2 h.ob (fun o ho=>Ad.zaV p ho),
  RN (g:=AM (Iz p)) rfl (WN _) fun sp ny=>Rq (h.kp sp ny) (by simp[KV.off]) fun x O=>KV.r6 p O]
theorem Vn (p:Nm->Bool) (h:ks.Ok):(NU p ks).Ok where
 tm:=h.tm.map fun x O=>KV.po p O
 ob:=h.ob.map fun x O=>Ad.po p O
 kp sp ny:=by obtain⟨q,hq,rfl⟩:=ii.1 ny;exact (h.kp q hq).map fun x O=>KV.po p O
theorem Ad.tS (g:Nm->lV) {o:Ad} (h:o.ok):o.close g=o.ob.sub (En g):=by
 cases o with
 | cells ty cs=>simp[Ad.close,Ad.ob,Ob.sub,Nc g h]
 | whole ty v =>
  have:=(Ch (Df h)).1;simp only[Ad.close,Ad.ob,Ob.sub,FP];rw[ou this]
 | map es =>
  simp only[Ad.close,Ad.ob,Ob.sub];rw[ou (Ch h).1]
 | _=>rfl
where
 ou {Z:lS} (h:Ar Z=[]):AM (En g) Z=Z:=by
  induction Z with
  | nil=>rfl
  | cons x Z ih =>
   simp[Ar] at h;simp[AM,Kp h.1,ih h.2]
theorem TY (hσ:∀ J o,σ J=some o->o.ok):∀ (d:Nat) (J:Nm),CZ σ d J=(σ J).map fun o=>FK (fun J=>(σ J).map Ad.ob) d o.ob:=by
 intro d;induction d with
 | zero =>
  intro J;unfold CZ;cases h:σ J with
  | none=>rfl
  | some o=>simp only[iu];rw[Ad.tS _ (hσ _ _ h)];rfl
 | succ d ih =>
  intro J;unfold CZ;cases h:σ J with
  | none=>rfl
  | some o =>
   simp only[iu];rw[Ad.tS _ (hσ _ _ h)];congr 1;unfold FK;congr 1;funext m;unfold En;rw[ih m,kx];rfl
def So (σ:Nm->me):Prop:=∀ J ty cs,σ J=some (.cells ty cs)->EZ cs=false
theorem MR (hσ:∀ J o,σ J=some o->o.ok) (hq:So σ):∀ (d:Nat) (J:Nm) (ob:Ob),CZ σ d J=some ob->ob.shut:=by
 intro d;induction d with
 | zero =>
  intro J ob h;unfold CZ at h;cases ho:σ J with
  | none=>rw[ho] at h;cases h
  | some o =>
   rw[ho] at h;cases h;have oS:=hσ _ _ ho;cases o with
   | cells ty cs=>exact (Kl (fun _ _ h=>by cases h) oS (hq _ _ _ ho))
   | whole ty v=>exact (Df oS)
   | arr k kt Z=>exact oS
   | map es=>exact oS
   | mD s pos=>trivial
 | succ d ih =>
  intro J ob h;unfold CZ at h;cases ho:σ J with
  | none=>rw[ho] at h;cases h
  | some o =>
   rw[ho] at h;cases h;have oS:=hσ _ _ ho;cases o with
   | cells ty cs=>exact (Kl ih oS (hq _ _ _ ho))
   | whole ty v=>exact (Df oS)
   | arr k kt Z=>exact oS
   | map es=>exact oS
   | mD s pos=>trivial
theorem Ad.frz_ob (p:Nm->Bool) (g:Nm->lV) {o:Ad} (h:o.ok):(o.mX p g).ob=o.ob.sub (DY p g):=by
 cases o with
 | cells ty cs=>simp[Ad.mX,Ad.ob,Ob.sub,PB p g h]
 | whole ty v =>
  have:=(Ch (Df h)).1;simp only[Ad.mX,Ad.ob,Ob.sub,FP];rw[ou this]
 | map es =>
  simp only[Ad.mX,Ad.ob,Ob.sub];rw[ou (Ch h).1]
 | _=>rfl
where
 ou {Z:lS} (h:Ar Z=[]):AM (DY p g) Z=Z:=by
  induction Z with
  | nil=>rfl
  | cons x Z ih =>
   simp[Ar] at h;simp[AM,Kp h.1,ih h.2]
theorem Ad.qD {g:Nm->lV} (hg:∀ J ob,g J=some ob->ob.shut) {o:Ad} (h:o.ok):(o.mX p g).ok:=by
 cases o with
 | cells ty cs=>exact PC hg h
 | _=>exact h
theorem zaW:∀ (R:lW) {l:AV},Bm nt l->Bm nt (R.foldl (fun mi J=>pg mi J Fl) l):=by
 intro R;induction R with
 | nil=>intro l h;exact h
 | cons J R ih=>intro l h;exact ih (h.pg J (o:=Fl) rfl)
theorem zaX:∀ (R:lW) {l:AV},Bm nt l->Co nt (R.foldl (fun mi J=>pg mi J Fl) l)=R.foldl (fun mi J=>AR mi J AP) (Co nt l):=by
 intro R;induction R with
 | nil=>intro l _;rfl
 | cons J R ih =>
  intro l h;simp only[jy];rw[ih (h.pg J (o:=Fl) rfl),OK h];rfl
theorem C7 (h:ks.Ok):∀ J o,A4 ks.mi J=some o->o.ok:=fun _ _ ho=>Dv h.ob ho
theorem f8 (h:ks.Ok) (J:Nm):En (CZ (A4 ks.mi) AG) J=A7 (Ac ks.V.mi) J:=by unfold En A7;rw[TY (C7 h),Ed h,kx];rfl
theorem wJ {l:AV} (h:EX l=true):∀ p∈l,∀ ty cs,Ad.cells ty cs∈p.2->EZ cs=false:=by
 induction l with
 | nil=>intro p hp;cases hp
 | cons q l ih =>
  obtain⟨k,u⟩:=q;simp only[EX,ie] at h;intro p hp ty cs oJ;rcases im.1 hp with rfl | hp
  {have:=iy.1 h.1 _ oJ;simpa using this};{exact ih h.2 p hp ty cs oJ}
theorem OO {l:AV} (h:EX l=true):So (A4 l):=by
 intro J ty cs ho;have hm:A2 l J.1≠[]:=by intro U;unfold A4 at ho;rw[U] at ho;cases ho
 exact wJ h _ (M3 hm) ty cs (iz ho)
theorem eA {l:Aw} (hl:l.Ok) (hσ:∀ J o,σ J=some o->o.ok) (hq:So σ) (R:lW) :
  (R2 σ R l).V=B7 (fun J=>(σ J).map Ad.ob) R l.V:=by
 have hf:DY (fun m=>R.contains m) (CZ σ AG)=fun m=>if R.contains m=true then A7 (fun J=>(σ J).map Ad.ob) m else none:=by funext m;unfold DY A7;rw[TY hσ,kx];rfl
 unfold R2 B7 CF Aw.V;simp only
 rw[Rq hl.tm (g:=DY (fun m=>R.contains m) (CZ σ AG)) (by simp[KV.mX]) (fun x O=>KV.td _ _ O),
  zaX R (hl.ob.map fun x O=>Ad.qD (MR hσ hq AG) O),Q2 hl.ob (fun o ho=>Ad.frz_ob _ _ ho),
  RN (g:=AM (DY (fun m=>R.contains m) (CZ σ AG))) rfl (WN _) fun sp ny=>Rq (hl.kp sp ny) (by simp[KV.mX]) fun x O=>KV.td _ _ O,hf]
theorem fZ {l:Aw} (hl:l.Ok) (hσ:∀ J o,σ J=some o->o.ok) (hq:So σ) (R:lW):(R2 σ R l).Ok where
 tm:=hl.tm.map fun x O=>KV.qD (MR hσ hq AG) O
 ob:=zaW R (hl.ob.map fun x O=>Ad.qD (MR hσ hq AG) O)
 kp sp ny:=by obtain⟨q,hq',rfl⟩:=ii.1 ny;exact (hl.kp q hq').map fun x O=>KV.qD (MR hσ hq AG) O
structure Au.Ok (o:Au):Prop where
 v:o.v.ok
 new:∀ x∈o.new,x.ok
 nf:∀ J x,o.nf=some (J,x)->x.ok
 nh:∀ p∈o.nh,p.2.ok:=by simp
def MO (u:Option (Nm×Ob)) (V:St):St :=
 match u with
 | some (J,ob)=>{V with mi:=AR V.mi J ob}
 | none=>V
def MB (k:Option Nm) (V:St):St :=
 match k with
 | some J=>CF (fun m=>if m=J then some none else none) V
 | none=>V
def LF (dst:lT) (v:PV) (new:lY) (V:St):St :=
 match dst with
 | some d=>{V with tmps:=V.tmps.set d v,mi:=if new.isEmpty then V.mi else V.mi.set d new}
 | none=>V
def Ox (l:lW) (V:St):St:=if l.isEmpty then V else CF (fun m=>if l.contains m then some none else none) V
def MA (l:List (Nm×Ob)) (V:St):St:=if l.isEmpty then V else {V with mi:=Bp l V.mi}
def wK (sl:lT) (new:lY) (V:St):St :=
 match sl with
 | some r=>{V with mi:=V.mi.set r (V.mi.getD r []++new)}
 | none=>V
def PO (sl:lT) (new:lY):lY :=
 match sl with
 | some _=>[]
 | none=>new
theorem Vd (V:St) (dst:lT) (o:Al):apply V dst o=LF dst o.v (PO o.slot o.new) (wK o.slot o.new<|MA o.nh (Ox o.gone (if o.mX.isEmpty then MB o.kill (MO o.nf V) else B7 (Ac V.mi) o.mX (MB o.kill (MO o.nf V))))):=by unfold apply LF MB MO Ox MA wK PO;cases dst<;>cases o.nf<;>cases o.kill<;>cases o.slot<;>rfl
theorem kups_ok:∀ (l:List (Nm×Ad)) {σ:AV},(∀ p∈l,p.2.ok)->Bm nt σ->Bm nt (kups l σ):=by
 intro l;induction l with
 | nil=>intro σ _ h;exact h
 | cons p l ih =>
  obtain⟨J,o⟩:=p;intro σ hl h;exact ih (fun q hq=>hl q (iA _ hq)) (h.pg J (hl (J,o) iw))
theorem kups_st:∀ (l:List (Nm×Ad)) {σ:AV},(∀ p∈l,p.2.ok)->Bm nt σ->Co nt (kups l σ)=Bp (l.map fun p=>(p.1,p.2.ob)) (Co nt σ):=by
 intro l;induction l with
 | nil=>intro σ _ h;rfl
 | cons p l ih =>
  obtain⟨J,o⟩:=p;intro σ hl h;show Co nt (kups l (pg σ J o))=Bp (l.map fun p=>(p.1,p.2.ob)) (AR (Co nt σ) J o.ob);rw[ih (fun q hq=>hl q (iA _ hq)) (h.pg J (hl (J,o) iw)),OK h]
theorem TL (h:ks.Ok) {o:Au} (hq:(o.mX.isEmpty||EX ks.mi)=true) (dst:lT) (ho:o.Ok):(GI ks dst o).V=apply ks.V dst o.out/\(GI ks dst o).Ok:=by
 rw[Vd];unfold GI Au.out;simp only
 have U:(wu o.nf ks).Ok/\(wu o.nf ks).V=MO (o.nf.map fun p=>(p.1,p.2.ob)) ks.V:=by
  cases hu:o.nf with
  | none=>exact⟨h,rfl⟩
  | some p =>
   obtain⟨J,ob⟩:=p;refine⟨⟨h.tm,h.ob.pg J (ho.nf _ _ hu),h.kp⟩,?_⟩;simp only[iu,wu,MO,Aw.V];rw[OK h.ob]
 rw[<-U.2];generalize wu o.nf ks=k1 at U |-
 have H:(Ol o.kill k1).Ok/\(Ol o.kill k1).V=MB o.kill k1.V:=by
  cases hu:o.kill with
  | none=>exact⟨U.1,rfl⟩
  | some J =>
   refine⟨Vn _ U.1,?_⟩;simp only[Ol,MB];rw[Vm _ U.1];congr 1;funext m;unfold Iz;by_cases hm:m=J;{simp[hm]};{simp[hm]}
 rw[<-H.2];generalize Ol o.kill k1=k2 at H |-
 have h3:(Qp (A4 ks.mi) o.mX k2).Ok/\(Qp (A4 ks.mi) o.mX k2).V=(if o.mX.isEmpty=true then k2.V else B7 (Ac ks.V.mi) o.mX k2.V):=by
  cases hf:o.mX with
  | nil=>exact⟨H.1,rfl⟩
  | cons J R =>
   have hq:EX ks.mi=true:=by rw[hf] at hq;simpa using hq
   refine⟨fZ H.1 (C7 h) (OO hq) _,?_⟩;rw[Ed h];exact eA H.1 (C7 h) (OO hq) _
 rw[<-h3.2];generalize Qp (A4 ks.mi) o.mX k2=k4 at h3 |-
 have h5:(Om o.gone k4).Ok/\(Om o.gone k4).V=Ox o.gone k4.V:=by
  cases hg:o.gone with
  | nil=>exact⟨h3.1,rfl⟩
  | cons J l =>
   refine⟨Vn _ h3.1,?_⟩;simp only[Om,Ox,List.isEmpty_cons,iq,lm];rw[Vm _ h3.1];congr 1
 rw[<-h5.2];generalize Om o.gone k4=k5 at h5 |-
 have h6:(Oi o.nh k5).Ok/\(Oi o.nh k5).V=MA (o.nh.map fun p=>(p.1,p.2.ob)) k5.V:=by
  refine⟨⟨h5.1.tm,kups_ok _ ho.nh h5.1.ob,h5.1.kp⟩,?_⟩;have:∀ (l:List (Nm×Ob)) (s:St),MA l s={s with mi:=Bp l s.mi}:=by intro l s;unfold MA;split;{rename_i hl;rw[iS.1 hl];rfl};{rfl}
  rw[this];simp only[Oi,Aw.V];rw[kups_st _ ho.nh h5.1.ob]
 rw[<-h6.2];generalize Oi o.nh k5=k6 at h6 |-
 have h7:(wx o.slot o.new k6).Ok/\(wx o.slot o.new k6).V=wK o.slot (o.new.map Ad.ob) k6.V:=by
  cases hs:o.slot with
  | none=>exact⟨h6.1,rfl⟩
  | some r =>
   simp only[wx,wK];cases hr:Nat.blt r k6.nt with
   | true =>
    have wb:r < k6.nt:=by simpa[jk] using hr
    refine⟨⟨h6.1.tm,h6.1.ob.put wb fun x O=>?_,h6.1.kp⟩,?_⟩;{rcases iH.1 O with O | O;{exact h6.1.ob.nN O};{exact ho.new x O}}
    ·unfold Aw.V;simp only
     rw[LO,jE];congr 3;rw[ip,mW,lu wb];rfl
   | false =>
    have wb:¬ r < k6.nt:=by intro h;rw[show Nat.blt r k6.nt=true by simpa[jk] using h] at hr;cases hr
    refine⟨h6.1,?_⟩;unfold Aw.V;simp only
    rw[kT (by rw[If];omega)]
 rw[<-h7.2];have hnew2:PO o.slot (o.new.map Ad.ob)=(Qh o.slot o.new).map Ad.ob:=by cases o.slot<;>rfl
 rw[hnew2]
 have zaY:∀ x∈Qh o.slot o.new,x.ok:=by
  cases o.slot with
  | none=>exact ho.new
  | some r=>intro x O;cases O
 generalize Qh o.slot o.new=nw at zaY |-;generalize wx o.slot o.new k6=k3 at h7 |-;obtain⟨ok3,_⟩:=h7;cases dst with
 | none=>exact⟨rfl,ok3⟩
 | some d =>
  simp only[kset,LF];cases hd:Nat.blt d k3.nt with
  | true =>
   have qq:d < k3.nt:=by simpa[jk] using hd
   refine⟨?_,?_⟩
   ·unfold Aw.V;simp only
    rw[Y9];cases hn:nw with
    | nil=>simp
    | cons x Z=>simp[LO]
   ·refine⟨ok3.tm.set qq ho.v,?_,ok3.kp⟩;simp only
    cases hn:nw with
    | nil=>exact ok3.ob
    | cons x Z=>rw[hn] at zaY;exact ok3.ob.put qq zaY
  | false =>
   have qq:¬ d < k3.nt:=by intro h;rw[show Nat.blt d k3.nt=true by simpa[jk] using h] at hd;cases hd
   refine⟨?_,ok3⟩;unfold Aw.V;simp only
   rw[kT (by rw[DV];omega)];split;{rfl};{rw[kT (by rw[If];omega)]}
end Go.Ab


namespace Go.Ab
variable{T cs:lS} {ag pU:Bool} {c:TC} {d k:Nat} {f g:RX->RX} {op:An} {v x:PV} {σ:Nm->lV}
theorem aa (T:lS):∀ (ps:List (Nat×Nat×RX)) (z:lS),EK [] z (ps.map fun p=>(p.1,p.2.1,.c (p.2.2.ev T)))=EK T z ps:=by
 intro ps;induction ps with
 | nil=>intro z;rfl
 | cons p ps ih =>
  obtain⟨off,n,x⟩:=p;intro z;simp only[iE,EK];rw[ih];rfl
theorem Iw (T:lS) (x:mh):Cz [] (x.map fun y=>.c (y.ev T))=Cz T x:=by cases x<;>rfl
theorem wL (d:Nat) (σ:Nm->lV) (T:lS) (op:An) (hg:isG op=true):exec d σ [] (op.oB fun x=>.c (x.ev T))=exec d σ T op:=by
 cases op with
 | build z ps=>simp only[An.oB,exec];rw[aa T]
 | slice k x lo hi mx=>simp only[An.oB,exec];rw[Iw,Iw,Iw];rfl
 | nB x lo hi=>simp only[An.oB,exec];rw[Iw,Iw];rfl
 | nQ mx Z=>simp only[An.oB,exec,iK];rfl
 | mov | pick | box | alloc | qf | store | mkI | mkF | mkMap | insert | uN | append | copy | call | iter | next | bad=>simp[isG] at hg
 | _=>rfl
theorem OC {o:mh} (h:∀ a∈o.toList,f a=g a):o.map f=o.map g:=by
 cases o with
 | none=>rfl
 | some a=>simp[h a (by simp)]
theorem fL (op:An) (hg:isG op=true) (h:∀ x∈op.Z,f x=g x):op.oB f=op.oB g:=by
 cases op with
 | build z ps =>
  simp only[An.oB];congr 1;apply iV;intro p hp;rw[h p.2.2 (ii.2 ⟨p,hp,rfl⟩)]
 | slice k x lo hi mx =>
  simp only[An.oB,An.Z] at h |-;rw[h x (by simp),OC (o:=lo) fun a ha=>h a (by simp[ha]),OC (o:=hi) fun a ha=>h a (by simp[ha]),OC (o:=mx) fun a ha=>h a (by simp[ha])]
 | nB x lo hi =>
  simp only[An.oB,An.Z] at h |-;rw[h x (by simp),OC (o:=lo) fun a ha=>h a (by simp[ha]),OC (o:=hi) fun a ha=>h a (by simp[ha])]
 | nQ mx Z=>simp only[An.oB];congr 1;exact iV h
 | mov | pick | box | alloc | qf | store | mkI | mkF | mkMap | insert | uN | append | copy | call | iter | next | bad=>simp[isG] at hg
 | bin op c pU x y=>simp only[An.oB,An.Z] at h |-;rw[h x (by simp),h y (by simp)]
 | lookup c z ok x k=>simp only[An.oB,An.Z] at h |-;rw[h x (by simp),h k (by simp)]
 | mw k x i=>simp only[An.oB,An.Z] at h |-;rw[h x (by simp),h i (by simp)]
 | nL k l x i=>simp only[An.oB,An.Z] at h |-;rw[h x (by simp),h i (by simp)]
 | oE x i=>simp only[An.oB,An.Z] at h |-;rw[h x (by simp),h i (by simp)]
 | load n ag x | nilck x | un op x | conv k x | nS x | ofBytes x | oe x | pt x | fieldAddr off x | field off n ag x | extract j x | len c x | nJ t z ok x=>simp only[An.oB,An.Z] at h |-;rw[h x (by simp)]
theorem fq (σ:Nm->lV):∀ d,AI σ d []=[]:=by
 intro d;induction d with
 | zero=>rfl
 | succ d ih=>simp[AI,ih]
theorem dL (hg:isG op=true) (O:∀ x∈op.Z,Ax (x.ev T)=true):exec d σ T op=exec 0 (fun _=>none) T op:=by
 have U:exec d σ T op=exec 0 σ T op:=by cases op<;>simp[isG] at hg<;>rfl
 rw[U];refine T3 op (fun _ _=>rfl) ?_;have:Ar (op.Z.map (RX.ev T))=[]:=(Ch (EF.2 fun v hv=>by obtain⟨x,p9,rfl⟩:=ii.1 hv;exact O x p9)).1;rw[this];intro J sP;rw[fq] at sP;cases sP
theorem zaZ:∀ (ps:List (Nat×Nat×RX)) (z cs:lS),AB z=true->(∀ x∈ps.map (·.2.2),Ax (x.ev T)=true)->EK T z ps=some cs->AB cs=true:=by
 intro ps;induction ps with
 | nil=>intro z cs hz _ h;simp[EK] at h;subst h;exact hz
 | cons p ps ih =>
  obtain⟨off,n,y⟩:=p;intro z cs hz hp h;simp only[EK] at h;obtain⟨_,h⟩:=Dh h;refine ih _ cs ?_ (fun x O=>hp x (by simp only[iE,im];exact .inr O)) h;exact Ii (Ii (Hr hz _) (Df (hp y (by simp)))) (Jl hz _)
theorem Pr (h:AB cs=true) {o n:Nat} (hs:Cd cs o n ag=some v):Ax v=true:=by unfold Cd at hs;split at hs;{obtain⟨_,hs⟩:=Dh hs;cases hs;simpa[Ax] using Hr (Jl h o) n};{exact Io h hs}
theorem UV {k:PV}:∀ {es:lS} {v:PV},G8 k es=some (some v)->AB es=true->Ax v=true
 | [],v,h,_=>by simp[G8] at h
 | [_],v,h,_=>by simp[G8] at h
 | a :: u :: es,v,h,he=>by
  simp only[AB,ie] at he;simp only[G8] at h;split at h;·cases h;exact he.2.1
  {exact UV h he.2.2};·cases h
theorem ei {lo hi mx:mc} (O:Ax x=true) (h:Hy k x lo hi mx=some v):Ax v=true:=by
 cases x with
 | sl k' Z full =>
  simp only[Hy] at h;split at h;·cases h
  split at h;·cases h
  split at h;·cases h
  obtain⟨_,h⟩:=Dh h;cases h;simp only[Ax] at O |-;exact Jl (Hr O _) _
 | mu =>
  simp only[Hy] at h;split at h;·cases h
  split at h;·cases h
  split at h;·cases h
  obtain⟨_,h⟩:=Dh h;cases h;rfl
 | arr J k' o n=>simp[Ax] at O
 | _=>simp[Hy] at h
theorem YF (s:l4):AB (Cm s)=true:=EF.2 fun x O=>by obtain⟨b,_,rfl⟩:=ii.1 O;rfl
theorem wM {op:BinOp} {y:PV} (h:DF op c pU x y=some v):Ax v=true:=by
 have hI:∀ {op k a b v},Fj op k a b=some v->Ax v=true:=by
  intro op k a b v h;unfold Fj at h;split at h
  all_goals first
   |(cases h;rfl)
   |(obtain⟨_,h⟩:=Dh h;cases h;rfl)
   |(obtain⟨b,_,rfl⟩:=ij.1 h;rfl)
 have hS:∀ {op a b v},KX op a b=some v->Ax v=true:=by
  intro op a b v h;unfold KX at h;split at h
  all_goals first
   |(cases h;rfl)
   |(obtain⟨_,h⟩:=Dh h;cases h;rfl)
   | cases h
 unfold DF at h;split at h;{split at h;{obtain⟨_,h⟩:=Dh h;cases h;rfl};{obtain⟨_,h⟩:=Dh h;cases h;rfl};{obtain⟨_,h⟩:=Dh h;exact hI h}};{exact hS h};{split at h;{obtain⟨b,_,rfl⟩:=ij.1 h;rfl};{obtain⟨b,_,rfl⟩:=ij.1 h;rfl};·cases h}
structure Tp (o:Al):Prop where
 eq:o={v:=o.v}
 ok:Ax o.v=true
theorem Tp.mk' (h:Ax v=true):Tp {v:=v}:=⟨rfl,h⟩
theorem Ra {x:mc} {out:Al} (h:(x.map fun v=>({v:=v}:Al))=some out) (hv:∀ v,x=some v->Ax v=true):Tp out:=by obtain⟨v,O,rfl⟩:=ij.1 h;exact .mk' (hv v O)
theorem gV (hg:isG op=true) (O:∀ x∈op.Z,Ax (x.ev T)=true) (hz:∀ z ps,op=.build z ps->AB z=true) (hl:∀ c z ok x k,op=.lookup c z ok x k->Ax z=true)
  (ht:∀ t z ok x,op=.nJ t z ok x->Ax z=true) {out:Al} (h:exec 0 (fun _=>none) T op=some out):Tp out:=by
 cases op with
 | mov | pick | box | alloc | qf | store | mkI | mkF | mkMap | insert | uN | append | copy | call | iter | next | bad=>simp[isG] at hg
 | build z ps =>
  simp only[exec] at h;split at h;{rename_i cs hc;cases h;exact .mk' (by simpa[Ax] using zaZ ps z cs (hz z ps rfl) O hc)};{cases h}
 | load n ag x =>
  have hv:=O x (by simp[An.Z]);simp only[exec] at h;split at h;{rename_i e;rw[e] at hv;simp[Ax] at hv};{rename_i e;rw[e] at hv;exact Ra h fun v hs=>Pr (by simpa[Ax] using hv) hs};{rename_i e;rw[e] at hv;simp[Ax] at hv};·cases h
 | nilck x =>
  have hv:=O x (by simp[An.Z]);simp only[exec] at h;split at h
  all_goals first
   |(rename_i e;rw[e] at hv;cases h;exact .mk' hv)
   | cases h
 | bin op c pU x y=>simp only[exec] at h;exact Ra h fun v=>wM
 | un op x =>
  simp only[exec] at h;split at h;·cases h;exact .mk' rfl
  {cases h;exact .mk' rfl};{cases h}
 | conv k x=>simp only[exec] at h;split at h;(cases h;exact .mk' rfl);cases h
 | nS x =>
  simp only[exec] at h;split at h;{obtain⟨_,h⟩:=Dh h;cases h;exact .mk' (by simpa[Ax] using YF _)};·cases h
 | ofBytes x =>
  simp only[exec] at h;split at h
  ·split at h;·cases h;exact .mk' rfl
   {cases h}
  {cases h}
 | oe x=>simp only[exec] at h;split at h;(cases h;exact .mk' rfl);cases h
 | pt x=>simp only[exec] at h;split at h;(cases h;exact .mk' rfl);cases h
 | lookup c z ok x k =>
  have hv:=O x (by simp[An.Z]);have hz:=hl c z ok x k rfl;simp only[exec] at h;have qY:∀ es,(match x.ev T with | .mp J=>(none:Option lS) | .nb es=>some es | .ni=>some [] | _=>none)=some es->AB es=true:=by intro es he;cases hq:x.ev T<;>rw[hq] at he hv<;>simp only[reduceCtorEq,il] at he;{subst he;rfl};{subst he;simpa[Ax] using hv}
  split at h;·cases h
  ·rename_i es he;split at h;·cases h
   ·rename_i r hr;obtain⟨_,h⟩:=Dh h;cases h;have hes':AB es=true:=qY es (by revert he;cases x.ev T<;>exact id)
    have hrz:Ax (r.getD z)=true:=by
     cases r with
     | none=>exact hz
     | some v=>exact UV hr hes'
    refine .mk' ?_;split;{simp[Ax,AB,hrz]};{exact hrz}
 | slice k x lo hi mx=>simp only[exec] at h;exact Ra h fun v hs=>ei (O x (by simp[An.Z])) hs
 | nB x lo hi =>
  simp only[exec] at h;split at h
  ·split at h;·cases h
   ·split at h;·cases h
    {cases h;exact .mk' rfl}
  {cases h}
 | fieldAddr off x =>
  have hv:=O x (by simp[An.Z]);simp only[exec] at h;split at h;{rename_i e;rw[e] at hv;simp[Ax] at hv};{rename_i e;rw[e] at hv;obtain⟨_,h⟩:=Dh h;cases h;exact .mk' (by simpa[Ax] using hv)};{rename_i e;rw[e] at hv;simp[Ax] at hv};·cases h
 | field off n ag x =>
  have hv:=O x (by simp[An.Z]);simp only[exec] at h;split at h;{rename_i e;rw[e] at hv;exact Ra h fun v hs=>Pr (by simpa[Ax] using hv) hs};·cases h
 | mw k x i =>
  have hv:=O x (by simp[An.Z]);simp only[exec] at h;split at h;{rename_i e;rw[e] at hv;split at h;{rename_i y hy;obtain⟨_,h⟩:=Dh h;cases h;exact .mk' (by simpa[Ax] using Df (Io (by simpa[Ax] using hv) hy))};{cases h}};{rename_i e;rw[e] at hv;simp[Ax] at hv};·cases h
 | nL k l x i =>
  have hv:=O x (by simp[An.Z]);simp only[exec] at h;split at h;{rename_i e;rw[e] at hv;obtain⟨_,h⟩:=Dh h;cases h;exact .mk' (by simpa[Ax] using hv)};{rename_i e;rw[e] at hv;simp[Ax] at hv};·cases h
 | oE x i =>
  simp only[exec] at h;split at h
  ·split at h;·cases h;exact .mk' rfl
   {cases h}
  {cases h}
 | extract j x =>
  have hv:=O x (by simp[An.Z]);simp only[exec] at h;split at h;{rename_i e;rw[e] at hv;split at h;{rename_i v yE;cases h;exact .mk' (Io (by simpa[Ax] using hv) yE)};{cases h}};{cases h}
 | len c x=>simp only[exec] at h;obtain⟨n,_,rfl⟩:=ij.1 h;exact .mk' rfl
 | nQ mx Z =>
  simp only[exec] at h;split at h;{obtain⟨n,_,rfl⟩:=ij.1 h;exact .mk' rfl};·cases h
 | nJ t z ok x =>
  have hv:=O x (by simp[An.Z]);have hz:=ht t z ok x rfl;simp only[exec] at h;split at h;{rename_i e;rw[e] at hv;split at h;{cases h;refine .mk' ?_;simp only[Ax] at hv;split;{simp[Ax,AB,hv]};{exact hv}};{obtain⟨_,h⟩:=Dh h;cases h;exact .mk' (by simp[Ax,AB,hz])}};{obtain⟨_,h⟩:=Dh h;cases h;exact .mk' (by simp[Ax,AB,hz])};·cases h
end Go.Ab


namespace Go.Ab
variable{β:Type} {a k n:Nat} {b:Bool} {l:lX} {J:Nm} {op:An} {ps:md} {v z:PV} {x:RX} {σ:Nm->me} {y:Option β}
theorem CL {α:Type} {x:Option α} {f:α->Option β} {r:β} (h:Aa x f=some r):∃ a,x=some a/\f a=some r:=by
 cases x with
 | none=>cases h
 | some a=>exact⟨a,rfl,h⟩
theorem Bd {a:Option β} {r:β} (h:AC b a=some r):b=true/\a=some r:=by
 cases b with
 | false=>cases h
 | true=>exact⟨rfl,h⟩
theorem LS {x:Option β} {r:β} (h:J6 b x y=some r):(b=true/\x=some r)\/(b=false/\y=some r):=by
 cases b with
 | false=>exact .inr ⟨rfl,h⟩
 | true=>exact .inl ⟨rfl,h⟩
theorem Re {x:Option β} {r:β} (h:AH v x y=some r):(v=.bool true/\x=some r)\/(v=.bool false/\y=some r):=by unfold AH at h;split at h;{exact .inl ⟨rfl,h⟩};{exact .inr ⟨rfl,h⟩};·cases h
theorem Px {b:Nat}:Dd a b=true↔a<=b:=by unfold Dd;rw[Nat.ble_eq]
theorem Nv {b:Nat}:ltN a b=true↔a < b:=by unfold ltN;rw[jk]
theorem PE {b:Nat}:yG a b=true↔a=b:=by unfold yG;rw[Nat.beq_eq]
def Tells {R:Type} (K:Au->Option R) (r:R) (x:l5):Prop:=∃ out:Au,K out=some r/\out.Ok/\x=some out.out
variable{v:KV}
theorem Au.plain (h:v.ok):Au.Ok {v}:=⟨h,by simp,by simp,by simp⟩
theorem Au.one {o:Ad} (h:v.ok) (ho:o.ok):Au.Ok {v,new:=[o]}:=⟨h,by simpa using ho,by simp,by simp⟩
theorem Au.turn {o:Ad} (h:v.ok) (ho:o.ok):Au.Ok {v,nf:=some (J,o)}:=⟨h,by simp,fun _ _ e=>(by cases e;exact ho),by simp⟩
variable {ks:Aw} {d:Nat} {R:Type} {K:Au->Option R} {r:R}
theorem VQ (h:ks.Ok) {Z:md} (O:Z.all Ey=true) (hm:x∈Z):(x.kv ks.tmps).ok:=Oh h (iy.1 O x hm)
theorem cl_ev (h:ks.Ok) {v:PV} (hv:(x.kv ks.tmps).cl=some v):x.ev ks.V.tmps=v:=by rw[GL h,KV.od hv]
theorem Dm (h:ks.Ok) (O:op.Z.all Ey=true) (hk:gO ks.tmps op K=some r):Tells K r (exec d (Ac ks.V.mi) ks.V.tmps op):=by
 unfold gO at hk;split at hk
 ·rename_i hc;simp only[ie] at hc;obtain⟨⟨hg,qk⟩,oi⟩:=hc;obtain⟨z,hz,hk⟩:=CL hk;have nX:∀ x∈op.Z,∃ v,(x.kv ks.tmps).cl=some v:=fun x hm=>jR.1 (iy.1 oi x hm);have mo:∀ x∈op.Z,Ax (x.ev ks.V.tmps)=true:=fun x hm=>by obtain⟨v,hv⟩:=nX x hm;rw[cl_ev h hv];exact KV.oQ (VQ h O hm) hv
  have sq:op.oB (zaM ks.tmps)=op.oB (fun x=>.c (x.ev ks.V.tmps)):=fL op hg fun x hm=>by obtain⟨v,hv⟩:=nX x hm;unfold zaM;rw[hv,cl_ev h hv];rfl
  unfold Ae at hz;rw[sq,wL _ _ _ _ hg] at hz;split at hz;{rename_i out ho;cases hz;have hp:=gV hg mo (fun z ps e=>by subst e;exact qk) (fun c z ok x k e=>by subst e;exact qk) (fun t z ok x e=>by subst e;exact qk) ho;refine⟨{v:=.cv out.v},hk,Au.plain hp.ok,?_⟩;rw[dL hg mo,ho,hp.eq];rfl};{cases hz}
 {cases hk}
theorem Zg {x:KV} (O:x.ok) {K:lX->Option R} (hk:SO n x K=some r):∃ cs,K cs=some r/\AW cs/\AE cs=x.pv.cells/\cs.length=n/\x.pv.isVal=true:=by
 unfold SO at hk;split at hk;{split at hk;{rename_i hn;exact⟨_,hk,O,rfl,hn,rfl⟩};·cases hk}
 ·rename_i v;obtain⟨U,H⟩:=Bd hk;unfold FH at U;simp only[ie,ly] at U;refine⟨_,H,?_,?_,by simp,U.1⟩
  ·refine C8.2 fun y hy=>?_;obtain⟨i,hi,rfl⟩:=ii.1 hy;have hv:Ax v=true:=O;show Ax (BD v i)=true;unfold BD;rw[ip];cases hg:v.cells[i]? with
   | none=>rfl
   | some c=>exact Io (Df hv) hg
  ·rw[EV,iK];show _=v.cells;apply jc;intro i;rw[iC];by_cases hi:i < n
   ·rw[jG hi];show some (BD v i)=_;unfold BD;rw[ip];have:i < v.cells.length:=by omega
    simp[iG this]
   {rw[i6 (by simpa using hi),i6 (by omega)];rfl}
 {cases hk};{cases hk};{cases hk};{rename_i U H h3 h4 h5;split at hk;{rename_i hn;refine⟨_,hk,⟨O,trivial⟩,?_,by simp[hn],?_⟩;{simp only[AE];cases x<;>simp_all [KV.pv,PV.cells]};{cases x<;>simp_all [KV.pv,PV.isVal]}};{cases hk}}
theorem OX (h:AW l) (n:Nat):AW (l.take n):=C8.2 fun x O=>C8.1 h x (ja O)
theorem OY (h:AW l) (n:Nat):AW (l.drop n):=C8.2 fun x O=>C8.1 h x (jH O)
theorem LM {m:lX} (h:AW l) (h':AW m):AW (l++m):=C8.2 fun x O=>(iH.1 O).elim (C8.1 h x) (C8.1 h' x)
theorem Nd (l:lX) (n:Nat):AE (l.take n)=(AE l).take n:=by rw[EV,EV,List.map_take]
theorem Nf (l:lX) (n:Nat):AE (l.drop n)=(AE l).drop n:=by rw[EV,EV,List.map_drop]
theorem QS (l m:lX):AE (l++m)=AE l++AE m:=by rw[EV,EV,EV,jE]
theorem GW (l:lX):(AE l).length=l.length:=by rw[EV,iW]
theorem pD (l:lX) (i:Nat):(AE l)[i]?=(l[i]?).map KV.pv:=by rw[EV,iC]
theorem za0 (h:ks.Ok):∀ (ps:List (Nat×Nat×RX)) {z:lX} {K:lX->Option R},(∀ x∈ps.map (·.2.2),Ey x=true)->AW z->Tc ks.tmps z ps K=some r->∃ cs,K cs=some r/\AW cs/\EK ks.V.tmps (AE z) ps=some (AE cs):=by
 intro ps;induction ps with
 | nil=>intro z K _ hz hk;exact⟨z,hk,hz,rfl⟩
 | cons p ps ih =>
  obtain⟨off,n,x⟩:=p;intro z K O hz hk;simp only[Tc] at hk;obtain⟨cs,hk,oJ,um,hlen,qj⟩:=Zg (Oh h (O x (by simp))) hk;split at hk
  ·rename_i hle;obtain⟨og,U,H,h3⟩:=ih (fun y hy=>O y (by simp only[iE,im];exact .inr hy)) (LM (LM (OX hz _) oJ) (OY hz _)) hk;refine⟨og,U,H,?_⟩;have hl2:(AE cs).length=n:=by rw[GW,hlen]
   have hval':(x.ev ks.V.tmps).isVal=true:=by rw[GL h];exact qj
   have hcl':(x.ev ks.V.tmps).cells=AE cs:=by rw[GL h];exact um.symm
   simp only[EK];rw[hcl'];unfold Av nc;simp only[hval',hl2,GW,lz,iZ,jr,hle,lq];rw[QS,QS,Nd,Nf] at h3;exact h3
  {cases hk}
theorem UB (h:ks.Ok) {x:KV} (O:x.ok) {K:lS->Option R} (hk:PY (A4 ks.mi) k x K=some r):∃ ys,K ys=some r/\AB ys=true/\DD (Ac ks.V.mi) k x.pv=some ys:=by
 unfold PY at hk;split at hk
 ·rename_i J k' o n;split at hk
  ·rename_i qg kt Z hl;split at hk
   ·rename_i sC;obtain⟨U,H⟩:=Bd hk;rw[Px] at U;have oS:AB Z=true:=Dv h.ob hl;refine⟨_,H,Hr (Jl oS _) _,?_⟩;have si:Ac ks.V.mi J=some (.arr qg kt Z):=by rw[G1 h,hl];rfl
    unfold BR AT at U;simp[KV.pv,DD,si,Av,sC.1,sC.2,U,B9,Et]
   {cases hk}
  {cases hk}
 ·split at hk
  ·rename_i v hv;obtain⟨ys,U,H⟩:=CL hk;have oS:=KV.oQ O hv;have um:=KV.od hv;unfold N3 at U;have h3:DD (Ac ks.V.mi) k v=some ys:=by rw[<-U];exact QK (by rw[(EG oS).1];simp)
   refine⟨ys,H,?_,by rw[um];exact h3⟩;cases v with
   | sl k' Z f=>simp only[DD] at U;obtain⟨_,U⟩:=Dh U;cases U;simpa[Ax] using oS
   | mu=>cases U;rfl
   | str s=>simp only[DD] at U;obtain⟨_,U⟩:=Dh U;cases U;exact YF _
   | arr J k' o n=>simp[Ax] at oS
   | _=>simp[DD] at U
  {cases hk}
theorem UC {Z:lX} (O:AW Z):(Ar (AE Z)).isEmpty=(CY Z).isEmpty:=by rw[FE O]
theorem Ht (hσ:∀ J o,σ J=some o->o.ok):∀ (d:Nat) (l:lW),GH σ d l=AI (fun J=>(σ J).map Ad.ob) d l:=by
 intro d;induction d with
 | zero=>intro l;rfl
 | succ d ih =>
  intro l;simp only[GH,AI]
  have e:(l.flatMap fun J=>((σ J).map Ad.names).getD [])=l.flatMap fun J=>(((σ J).map Ad.ob).map Ob.names).getD []:=by
   congr 1;funext J;cases ho:σ J with
   | none=>rfl
   | some o=>simp[Ad.pc (hσ _ _ ho)]
  rw[ih,e]
theorem za1 (hσ:∀ J o,σ J=some o->o.ok) (J:Nm):((σ J).map Ad.names).getD []=(((σ J).map Ad.ob).map Ob.names).getD []:=by
 cases ho:σ J with
 | none=>rfl
 | some o=>simp[Ad.pc (hσ _ _ ho)]
theorem Nk (hσ:∀ J o,σ J=some o->o.ok) (R:lW):K9 σ R=B3 (fun J=>(σ J).map Ad.ob) R:=by
 unfold K9 B3;congr 1;funext J;simp only
 rw[za1 hσ]
theorem O7 (h:ks.Ok) {Z:lX} (O:AW Z):FO (CZ (A4 ks.mi) AG) Z=AM (A7 (Ac ks.V.mi)) (AE Z):=by rw[Nc _ O];congr 1;funext J;exact f8 h J
theorem HI (h:ks.Ok) (ps:md):ps.map (RX.ev ks.V.tmps)=AE (ps.map (RX.kv ks.tmps)):=by rw[EV,iK];exact iV fun x _=>GL h x
theorem Me (h:ks.Ok) (O:ps.all Ey=true):AW (ps.map (RX.kv ks.tmps)):=C8.2 fun v hv=>by obtain⟨x,hm,rfl⟩:=ii.1 hv;exact VQ h O hm
theorem dg (hz:Ax z=true) (n:Nat):AB (List.replicate n z)=true:=EF.2 fun x O=>by rw[(List.mem_replicate.1 O).2];exact hz
theorem ZM {z:lS} (hz:AB z=true):AW (z.map Id):=C8.2 fun v hv=>by obtain⟨x,hm,rfl⟩:=ii.1 hv;exact bJ (EF.1 hz x hm)
theorem aR (z:lS):AE (z.map Id)=z:=by rw[EV,iK];have:KV.pv∘Id=id:=funext fun v=>bI v;rw[this,List.map_id]
theorem Um {k v:PV}:∀ {es pq:lS},EP k v es=some pq->AB es=true->Ax k=true->Ax v=true->AB pq=true
 | [],pq,h,_,hk,hv=>by simp[EP] at h;subst h;simp[AB,hk,hv]
 | [_],pq,h,_,_,_=>by simp[EP] at h
 | a :: u :: es,pq,h,he,hk,hv=>by
  simp only[AB,ie] at he;simp only[EP] at h;split at h;·cases h;simp[AB,hk,hv,he.2.2]
  {obtain⟨l,hl,rfl⟩:=ij.1 h;simp[AB,he.1,he.2.1,Um hl he.2.2 hk hv]};{cases h}
end Go.Ab


namespace Go.Ab
variable{cfg:Dr} {op:An} {x:KV}
variable {ks:Aw} {d:Nat} {R:Type} {K:Au->Option R} {r:R}
theorem wN (h:x.cl=none) (hb:zaN x=false):SP x.pv=false:=by
 cases x<;>first | rfl | (simp[KV.cl] at h;done) | skip
 exact hb
theorem wO (cs:lS):(PV.agg cs).cells=cs:=rfl
theorem za2 (h:ks.Ok) (hq:(EX ks.mi||Ow cfg op ks.tmps)=true) (O:op.Z.all Ey=true) (hk:Cq d (A4 ks.mi) ks.tmps op K=some r):Tells K r (exec d (Ac ks.V.mi) ks.V.tmps op):=by
 have ev:=GL h;have lk:=G1 h;have sg:∀ {x:RX},x∈op.Z->(x.kv ks.tmps).ok:=fun hm=>VQ h O hm;cases op with
 | mov x =>
  refine⟨_,hk,Au.plain (sg (by simp[An.Z])),?_⟩;simp[exec,Au.out,ev]
 | pick c a b =>
  have ha:=sg (x:=a) (by simp[An.Z]);have hb:=sg (x:=b) (by simp[An.Z]);simp only[Cq] at hk;split at hk;{rename_i hc;exact⟨_,hk,Au.plain ha,by simp[exec,Au.out,ev,hc,KV.pv]⟩};{rename_i hc;exact⟨_,hk,Au.plain hb,by simp[exec,Au.out,ev,hc,KV.pv]⟩};{rename_i v hc;rcases Re hk with ⟨rfl,hk⟩ | ⟨rfl,hk⟩;{exact⟨_,hk,Au.plain ha,by simp[exec,Au.out,ev,hc,KV.pv]⟩};{exact⟨_,hk,Au.plain hb,by simp[exec,Au.out,ev,hc,KV.pv]⟩}};{cases hk}
 | box x =>
  have ha:=sg (x:=x) (by simp[An.Z]);simp only[Cq] at hk;split at hk;{rename_i v hv;obtain⟨U,hk⟩:=Bd hk;rw[hv] at ha;unfold Fy at U;exact⟨_,hk,Au.one (o:=.whole 0 v) trivial ha,by simp[exec,Au.out,ev,hv,KV.pv,Av,U,Ad.ob,FP]⟩};{rename_i cs hv;rw[hv] at ha;exact⟨_,hk,Au.one (o:=.cells 0 cs) trivial ha,by simp[exec,Au.out,ev,hv,KV.pv,Av,PV.isVal,Ad.ob,PV.cells]⟩};{cases hk};{cases hk};{cases hk};{refine⟨_,hk,Au.one (v:=.ref (d,0) 0) (o:=.cells 0 [x.kv ks.tmps]) trivial ⟨ha,trivial⟩,?_⟩;simp only[exec,Au.out,ev];cases hy:x.kv ks.tmps<;>simp_all [KV.pv,Av,PV.isVal,Ad.ob,PV.cells,AE]}
 | alloc ty z =>
  simp only[Cq] at hk;split at hk;{rename_i hz;exact⟨_,hk,Au.one (o:=.cells _ (z.map Id)) trivial (ZM hz),by simp[exec,Au.out,KV.pv,Ad.ob,aR]⟩};{cases hk}
 | build z ps =>
  simp only[Cq] at hk;split at hk;{exact Dm h O hk};{split at hk;{rename_i hz;obtain⟨cs,U,H,h3⟩:=za0 h ps (fun x hm=>iy.1 O x hm) (ZM hz) hk;rw[aR] at h3;exact⟨_,U,Au.plain (v:=.agg cs) H,by simp[exec,Au.out,h3,KV.pv]⟩};{cases hk}}
 | qf k ps =>
  have oS:=Me h (ps:=ps) O;simp only[Cq] at hk;split at hk
  ·rename_i A hv;obtain⟨U,hk⟩:=Bd hk;have um:=KU hv;refine⟨_,hk,Au.one (o:=.arr k 0 A) trivial (JF oS hv),?_⟩;have hn:(Ar A).isEmpty=true:=by rw[(Ch (JF oS hv)).1];rfl
   unfold Ep at U;simp only[exec,HI h,um,hn,lq,Au.out,KV.pv,Ad.ob,Av,U,AT,iE,jj,jL]
  ·split at hk;·cases hk
   ·rename_i mP;split at hk
    ·rename_i hc;obtain⟨U,hk⟩:=Bd hk;refine⟨_,hk,⟨trivial,?_,by simp,by simp⟩,?_⟩;{intro o ho;simp only[iU] at ho;subst ho;exact Kl (MR (C7 h) (OO (by simpa[Ow] using hq)) AG) oS hc.2}
     ·have hne':(Ar (AE (ps.map (RX.kv ks.tmps)))).isEmpty=false:=by rw[UC oS];simpa using mP
      unfold Ep at U;rw[O7 h oS] at U;have oD:=hc.1;rw[Ht (C7 h),Nk (C7 h),<-Ed h,<-FE oS] at oD;simp only[exec,HI h,hne',iq,lm,Au.out,KV.pv,Ad.ob,AT,iE,jj,jL];rw[O7 h oS,Ht (C7 h),<-Ed h,<-FE oS];unfold Av;rw[U,oD];rfl
    {cases hk}
 | load n ag x =>
  have ha:=sg (x:=x) (by simp[An.Z]);simp only[Cq] at hk;split at hk;{rename_i J o hv;split at hk;{rename_i cs hl;have oJ:AW cs:=Dv h.ob hl;split at hk;{rename_i uv;split at hk;{rename_i hle;refine⟨_,hk,Au.plain (v:=.agg ((cs.drop o).take n)) (OX (OY oJ _) _),?_⟩;simp[exec,ev,hv,KV.pv,lk,hl,Ad.ob,Cd,uv,Av,GW,hle,Au.out,Nd,Nf]};{cases hk}};{rename_i uv;split at hk;{rename_i c hc;refine⟨_,hk,Au.plain (C8.1 oJ c (iz hc)),?_⟩;simp[exec,ev,hv,KV.pv,lk,hl,Ad.ob,Cd,uv,pD,hc,Au.out]};{cases hk}}};{rename_i v hl;obtain⟨z,hz,hk⟩:=CL hk;have hv':Ax v=true:=Dv h.ob hl;unfold AN at hz;refine⟨_,hk,Au.plain (v:=.cv z) (Pr (Df hv') hz),?_⟩;simp[exec,ev,hv,KV.pv,lk,hl,Ad.ob,FP,hz,Au.out]};{cases hk}};{rename_i J k i o hv;split at hk;{rename_i k' kt Z hl;split at hk;{rename_i sC;obtain⟨z,hz,hk⟩:=CL hk;have n6:AB Z=true:=Dv h.ob hl;unfold elemO at hz;split at hz;{rename_i e he;refine⟨_,hk,Au.plain (v:=.cv z) (Pr (Df (Io n6 he)) hz),?_⟩;simp[exec,ev,hv,KV.pv,lk,hl,Ad.ob,he,hz,Av,sC,Au.out]};{cases hz}};{cases hk}};{cases hk}};{exact Dm h O hk}
 | store n x v =>
  have ha:=sg (x:=x) (by simp[An.Z]);have hb:=sg (x:=v) (by simp[An.Z]);simp only[Cq] at hk;split at hk
  ·rename_i J o hv;split at hk
   ·rename_i cs hl;have oJ:AW cs:=Dv h.ob hl;obtain⟨A,hk,qz,um,hlen,qj⟩:=Zg hb hk;split at hk
    ·rename_i hle;refine⟨_,hk,Au.turn (o:=.cells _ (cs.take o++A++cs.drop (o+n))) trivial (LM (LM (OX oJ _) qz) (OY oJ _)),?_⟩;have hl2:(AE A).length=n:=by rw[GW,hlen]
     simp[exec,ev,hv,KV.pv,lk,hl,Ad.ob,<-um,qj,hl2,Av,GW,hle,Au.out,nc,QS,Nd,Nf]
    {cases hk}
   {rename_i w hl;split at hk;{rename_i u hu;obtain⟨U,hk⟩:=Bd hk;have hw:Ax w=true:=Dv h.ob hl;have huo:=KV.oQ hb hu;unfold okSto at U;simp only[ie,lw] at U;refine⟨_,hk,Au.turn (o:=.whole _ (stoP u w o)) trivial ?_,?_⟩;{show Ax (stoP u w o)=true;simpa[stoP,Ax,nc] using Ii (Hr (Df hw) o) (Ii (Df huo) (Jl (Df hw) _))};{have um:=KV.od hu;simp[exec,ev,hv,KV.pv,lk,hl,Ad.ob,FP,um,U.1.1,U.1.2,U.2,Av,Au.out,stoP,wO]}};{cases hk}};{cases hk}
  ·rename_i J k i o hv;split at hk
   ·rename_i k' kt Z hl;split at hk
    ·rename_i u hu;split at hk
     ·rename_i sC;obtain⟨ys,qI,hk⟩:=CL hk;have n6:AB Z=true:=Dv h.ob hl;have huo:=KV.oQ hb hu;have um:=KV.od hu;unfold setO at qI;split at qI
      ·rename_i es he;obtain⟨U,H⟩:=Bd qI;cases H;simp only[ie,lw] at U;have heo:AB es=true:=by simpa[Ax] using Io n6 he
       refine⟨_,hk,Au.turn (o:=.arr k kt _) trivial ?_,?_⟩;{refine ZL n6 i ?_;simpa[Ax,nc] using Ii (Hr heo o) (Ii (Df huo) (Jl heo _))}
       ·have hn:(Ar u.cells).isEmpty=true:=by rw[(Ch (Df huo)).1];rfl
        simp[exec,ev,hv,KV.pv,lk,hl,Ad.ob,he,um,U.1.1,U.1.2,U.2,Av,sC,Au.out];rw[(Ch (Df huo)).1]
      {rename_i e mP he;obtain⟨U,H⟩:=Bd qI;cases H;simp only[ie,ly] at U;refine⟨_,hk,Au.turn (o:=.arr k kt _) trivial (ZL n6 i huo),?_⟩;have hn:u.names=[]:=(EG huo).1;simp only[exec,ev,hv,KV.pv,lk,hl,iu,Ad.ob,he,um];subst sC;simp[Av,U.1.1.1,U.1.1.2,U.1.2,U.2,hn,Au.out,Ad.ob,KV.pv]};{cases qI}
     {cases hk}
    {cases hk}
   {cases hk}
  {cases hk}
 | nilck x =>
  have ha:=sg (x:=x) (by simp[An.Z]);simp only[Cq] at hk;split at hk;{rename_i hv;exact⟨_,hk,Au.plain (by trivial),by simp[exec,ev,hv,KV.pv,Au.out]⟩};{rename_i hv;exact⟨_,hk,Au.plain (by trivial),by simp[exec,ev,hv,KV.pv,Au.out]⟩};{rename_i hv;rw[hv] at ha;exact⟨_,hk,Au.plain ha,by simp[exec,ev,hv,KV.pv,Au.out]⟩};{rename_i hv;exact⟨_,hk,Au.plain (by trivial),by simp[exec,ev,hv,KV.pv,Au.out]⟩};{exact Dm h O hk}
 | bin o c pU x y =>
  simp only[Cq] at hk;split at hk
  ·rename_i J o' v U H;split at hk
   ·rcases LS hk with ⟨hc,hk⟩ | ⟨_,hk⟩
    {split at hc;{refine⟨_,hk,Au.plain (v:=.lit false) trivial,?_⟩;simp[exec,ev,U,H,KV.pv,DF,Li,Au.out]};{cases hc}};{cases hk}
   ·rcases LS hk with ⟨hc,hk⟩ | ⟨_,hk⟩
    {split at hc;{refine⟨_,hk,Au.plain (v:=.lit true) trivial,?_⟩;simp[exec,ev,U,H,KV.pv,DF,Li,Au.out]};{cases hc}};{cases hk}
   {cases hk}
  {exact Dm h O hk}
 | un o x =>
  cases o with
  | not =>
   simp only[Cq] at hk;split at hk;{rename_i b hv;exact⟨_,hk,Au.plain (v:=.lit (!b)) trivial,by simp[exec,ev,hv,KV.pv,Au.out]⟩};{exact Dm h O hk}
  | _=>exact Dm h O hk
 | mkI t x =>
  have ha:=sg (x:=x) (by simp[An.Z]);simp only[Cq] at hk;split at hk;{rename_i v hv;refine⟨_,hk,Au.plain (v:=.cv (.iface t v)) ?_,?_⟩;{show Ax (.iface t v)=true;simpa[Ax] using KV.oQ ha hv};{simp[exec,ev,KV.od hv,KV.pv,Au.out]}}
  ·split at hk;·cases hk
   {cases hk};{cases hk};{cases hk};{exact⟨_,hk,Au.plain (v:=.iface t (x.kv ks.tmps)) ha,by simp[exec,ev,KV.pv,Au.out]⟩}
 | mkF f cap =>
  simp only[Cq] at hk;split at hk;{refine⟨_,hk,Au.plain (v:=.fn f (cap.map (RX.kv ks.tmps))) (Me h O),?_⟩;simp[exec,Au.out,KV.pv,HI h]};{cases hk}
 | mkMap=>exact⟨_,hk,Au.one (o:=.map []) trivial rfl,by simp[exec,Au.out,KV.pv,Ad.ob]⟩
 | insert c x k v =>
  have hb:=sg (x:=k) (by simp[An.Z]);have hc:=sg (x:=v) (by simp[An.Z]);simp only[Cq] at hk;split at hk
  ·rename_i J hv;split at hk;{rename_i es kk vv hl U H;obtain⟨pq,he,hk⟩:=CL hk;have qY:AB es=true:=Dv h.ob hl;have hko:=KV.oQ hb U;have hvo:=KV.oQ hc H;unfold insO at he;split at he;{rename_i es2 hs;obtain⟨h3,h4⟩:=Bd he;cases h4;simp only[ie] at h3;refine⟨_,hk,Au.turn (o:=.map pq) trivial (Um hs qY hko hvo),?_⟩;have hn:vv.names=[]:=(EG hvo).1;simp[exec,ev,hv,KV.pv,lk,hl,Ad.ob,KV.od U,KV.od H,hs,Av,h3.1,h3.2,hn,Au.out]};{cases he}}
   ·rename_i es kk hl U H;split at hk;·cases hk
    ·rename_i mP;simp only[kg,not_or,Bool.not_eq_true] at mP;have hnb:=wN H mP.2;replace mP:=mP.1;split at hk
     ·rename_i qt;obtain⟨oD,hy,hcn⟩:=qt;obtain⟨pq,he,hk⟩:=CL hk;have qY:AB es=true:=Dv h.ob hl;have hko:=KV.oQ hb U;have hok1:AW [v.kv ks.tmps]:=⟨hc,trivial⟩;have oi:=O7 h hok1;have tE:=Kl (MR (C7 h) (OO (by simpa[Ow] using hq)) AG) hok1 hy;have e1:Af (FO (CZ (A4 ks.mi) AG) [v.kv ks.tmps]) 0=((v.kv ks.tmps).pv).sub (A7 (Ac ks.V.mi)):=by rw[oi];simp[AE,AM,Af]
      have hvo:Ax (((v.kv ks.tmps).pv).sub (A7 (Ac ks.V.mi)))=true:=by rw[<-e1];rw[oi] at tE |-;exact (jB.1 tE).1
      rw[e1] at he;have hn2:((v.kv ks.tmps).pv).names.isEmpty=false:=by rw[KV.nY hc];simpa[CY] using mP
      have hrch:GH (A4 ks.mi) AG (CY [v.kv ks.tmps])=AI (Ac ks.V.mi) AG ((v.kv ks.tmps).pv).names:=by rw[Ht (C7 h),<-Ed h,KV.nY hc];simp[CY]
      rw[hrch,Nk (C7 h),<-Ed h] at oD;rw[hrch] at hcn hk;have hcn':¬ J∈AI (Ac ks.V.mi) AG ((v.kv ks.tmps).pv).names:=fun hm=>by rw[jl.2 hm] at hcn;cases hcn
      unfold insO at he;split at he;{rename_i es2 hs;obtain⟨h3,h4⟩:=Bd he;cases h4;simp only[ie] at h3;refine⟨_,hk,⟨trivial,by simp,fun m o' e=>by cases e;exact Um hs qY hko hvo,by simp⟩,?_⟩;simp[exec,ev,hv,KV.pv,lk,hl,Ad.ob,KV.od U,hn2,hnb,(Ch qY).1,hs,Av,h3.1,h3.2,oD,hcn',Au.out]};{cases he}
     {cases hk}
   {cases hk}
  {cases hk}
 | lookup c z ok x k =>
  have hb:=sg (x:=k) (by simp[An.Z]);simp only[Cq] at hk;split at hk
  ·rename_i J hv;split at hk
   ·rename_i es kk hl U;split at hk
    case isFalse=>cases hk
    rename_i hz;obtain⟨u,hu,hk⟩:=CL hk;have qY:AB es=true:=Dv h.ob hl;unfold lookO at hu;split at hu;·cases hu
    ·rename_i r' hr;obtain⟨h3,h4⟩:=Bd hu;cases h4
     have hrz:Ax (r'.getD z)=true:=by
      cases r' with
      | none=>exact hz
      | some v=>exact UV hr qY
     refine⟨_,hk,Au.plain (v:=.cv _) ?_,?_⟩;{show Ax _=true;split;{simp[Ax,AB,hrz]};{exact hrz}};{simp[exec,ev,hv,KV.pv,lk,hl,Ad.ob,KV.od U,hr,Av,h3,Au.out]}
   {cases hk}
  {exact Dm h O hk}
 | uN k z l c =>
  simp only[Cq] at hk;split at hk;{rename_i lv cv hl hc;split at hk;{rename_i hz;obtain⟨n,hn,hk⟩:=CL hk;unfold mkSO at hn;split at hn;{rename_i a b U H;obtain⟨h3,h4⟩:=Bd hn;cases h4;refine⟨_,hk,Au.one (o:=.arr k 0 (S2 _ z)) trivial (dg hz.2 _),?_⟩;simp only[ie,lw] at h3;simp[exec,ev,KV.od hl,KV.od hc,U,H,Av,h3.1,h3.2,hz.1,Au.out,KV.pv,Ad.ob,S2]};{cases hn}};{cases hk}};{cases hk}
 | slice k x lo hi mx =>
  simp only[Cq] at hk;split at hk
  ·rename_i J k' o n hv;split at hk
   ·rename_i hc;obtain⟨sC,hmx,nX⟩:=hc;obtain⟨m,hm,hk⟩:=CL hk;obtain⟨hh,hhi,hk⟩:=CL hk
    have mo:∀ (y:mh),(∀ z∈y.toList,z∈lo.toList++hi.toList++mx.toList)->(y.map fun z=>((z.kv ks.tmps).cl).getD .undef)=Cz ks.V.tmps y:=by
     intro y hy;cases y with
     | none=>rfl
     | some z =>
      have:=iy.1 nX z (hy z (by simp));obtain⟨v,hv⟩:=jR.1 this;simp[Cz,hv,ev,KV.od hv]
    rw[mo mx fun z hz=>by simp only[iH];exact .inr hz] at hm;rw[mo hi fun z hz=>by simp only[iH];exact .inl (.inr hz)] at hhi;unfold P0 at hm hhi;subst sC
    have hmx':((mx.map (RX.ev ks.V.tmps)).isNone||(hi.map (RX.ev ks.V.tmps)).isSome)=true:=by
     rcases hmx with e | e
     ·cases mx with
      | none=>rfl
      | some _=>cases e
     ·cases hi with
      | none=>cases e
      | some _=>simp
    have hevO:∀ y:mh,Cz ks.V.tmps y=y.map (RX.ev ks.V.tmps):=fun y=>by cases y<;>rfl
    rw[hevO] at hm hhi;cases lo with
    | none =>
     refine⟨_,hk,Au.plain (v:=.arr J k o hh) trivial,?_⟩;have hb0:DQ (none:mc) 0 hh=some 0:=rfl;simp only[exec,ev,hv,KV.pv,Hy,hevO,hm,hhi,jL,hb0,Av,lF,jr,hmx',lq,Au.out];simp
    | some lo' =>
     obtain⟨l,hl,hk⟩:=CL hk;have hlo:=mo (some lo') (by simp);simp only[iu] at hlo;rw[hlo] at hl;unfold P0 at hl;rw[hevO] at hl;rcases LS hk with ⟨U,hk⟩ | ⟨U,hk⟩
     {unfold J8 at U;simp only[ie,PE,Nv] at U;refine⟨_,hk,Au.plain (v:=.cv (.sl k [] false)) rfl,?_⟩;have H:hh=l/\0 < l:=U;simp only[exec,ev,hv,KV.pv,Hy,hevO,hm,hhi,hl,Av,lF,jr,hmx',lq,Au.out,lu H];rfl}
     ·unfold J8 at U;simp only[Bool.and_eq_false_iff] at U;have H:¬ (hh=l/\0 < l):=by rintro ⟨a,b⟩;rcases U with U | U;{rw[show yG hh l=true from PE.2 a] at U;cases U};{rw[show ltN 0 l=true from Nv.2 b] at U;cases U}
      refine⟨_,hk,Au.plain (v:=.arr J k (BR o l) (subN hh l)) trivial,?_⟩;simp only[exec,ev,hv,KV.pv,Hy,hevO,hm,hhi,hl,Av,lF,jr,hmx',lq,Au.out,lr H,BR,subN];rfl
   {cases hk}
  {exact Dm h O hk}
 | fieldAddr off x =>
  simp only[Cq] at hk;split at hk;{rename_i hv;exact⟨_,hk,Au.plain (by trivial),by simp[exec,ev,hv,KV.pv,Au.out]⟩};{rename_i hv;exact⟨_,hk,Au.plain (by trivial),by simp[exec,ev,hv,KV.pv,Au.out]⟩};{exact Dm h O hk}
 | field off n ag x =>
  have ha:=sg (x:=x) (by simp[An.Z]);simp only[Cq] at hk;split at hk;{rename_i cs hv;rw[hv] at ha;have oJ:AW cs:=ha;split at hk;{rename_i uv;split at hk;{rename_i hle;refine⟨_,hk,Au.plain (v:=.agg ((cs.drop off).take n)) (OX (OY oJ _) _),?_⟩;simp[exec,ev,hv,KV.pv,Cd,uv,Av,GW,hle,Au.out,Nd,Nf]};{cases hk}};{rename_i uv;split at hk;{rename_i c hc;refine⟨_,hk,Au.plain (C8.1 oJ c (iz hc)),?_⟩;simp[exec,ev,hv,KV.pv,Cd,uv,pD,hc,Au.out]};{cases hk}}};{exact Dm h O hk}
 | mw k x i =>
  simp only[Cq] at hk;split at hk;{rename_i J k' o n hv;split at hk;{rename_i iv hi;split at hk;{rename_i sC;obtain⟨j,hj,hk⟩:=CL hk;obtain⟨U,hk⟩:=Bd hk;rw[Nv] at U;unfold natO at hj;refine⟨_,hk,Au.plain (v:=.my J k (BR o j) 0) trivial,?_⟩;simp[exec,ev,hv,KV.pv,KV.od hi,hj,Av,sC,U,Au.out,BR]};{cases hk}};{cases hk}};{exact Dm h O hk}
 | extract j x =>
  have ha:=sg (x:=x) (by simp[An.Z]);simp only[Cq] at hk;split at hk;{rename_i Z hv;rw[hv] at ha;have n6:AW Z:=ha;split at hk;{rename_i v hj;refine⟨_,hk,Au.plain (C8.1 n6 v (iz hj)),?_⟩;simp[exec,ev,hv,KV.pv,pD,hj,Au.out]};{cases hk}};{exact Dm h O hk}
 | len c x =>
  simp only[Cq] at hk;split at hk;{rename_i J k o n hv;split at hk;{exact⟨_,hk,Au.plain (v:=.cv (nI n)) rfl,by simp[exec,ev,hv,KV.pv,JS,Au.out,nI]⟩};·cases hk};{rename_i J hv;split at hk;{rename_i es hl;exact⟨_,hk,Au.plain (v:=.cv (nI (zaJ (AT es)))) rfl,by simp[exec,ev,hv,KV.pv,JS,lk,hl,Ad.ob,Au.out,nI,zaJ,AT]⟩};{cases hk}};{exact Dm h O hk}
 | append k ty s x =>
  have ha:=sg (x:=s) (by simp[An.Z]);have hb:=sg (x:=x) (by simp[An.Z]);simp only[Cq] at hk;obtain⟨ys,hk,hyo,qI⟩:=UB h hb hk;split at hk;{rename_i J k' o n hv;split at hk;{rename_i qg kt Z hl;split at hk;{rename_i sC;obtain⟨rfl,rfl,rfl⟩:=sC;obtain⟨U,hk⟩:=Bd hk;unfold J8 at U;simp only[ie,Px,AT,BR] at U;have n6:AB Z=true:=Dv h.ob hl;refine⟨_,hk,⟨trivial,by simp,?_,by simp⟩,?_⟩;{intro m o' e;cases e;exact Ii (Hr n6 n) hyo};{simp[exec,ev,qI,hv,KV.pv,lk,hl,Ad.ob,Av,U.1,U.2,Au.out,BR,AT,J7,B9]}};{cases hk}};{cases hk}};{rename_i hv;obtain⟨U,hk⟩:=Bd hk;simp only[Px,AT] at U;exact⟨_,hk,Au.one (o:=.arr k ty ys) trivial hyo,by simp[exec,ev,qI,hv,KV.pv,Av,U,Au.out,Ad.ob,AT]⟩}
  ·rename_i v hv;obtain⟨zs,hz,pX⟩:=CL hk;rw[hv] at ha;have hvo:Ax v=true:=ha;unfold wo at hz;split at hz;{obtain⟨U,H⟩:=Bd hz;cases H;exact⟨_,pX,Au.one (o:=.arr k ty ys) trivial hyo,by simp at U;simp[exec,ev,qI,hv,KV.pv,Av,U,Au.out,Ad.ob,AT]⟩}
   ·rename_i k' Z;split at hz;·cases hz
    {rename_i y ys';obtain⟨U,H⟩:=Bd hz;cases H;simp only[ie,ly,lw] at U;obtain⟨rfl,U⟩:=U;refine⟨_,pX,Au.one (o:=.arr k ty (Z++y :: ys')) trivial (Ii (by simpa[Ax] using hvo) hyo),?_⟩;simp[exec,ev,qI,hv,KV.pv,Av,U,Au.out,Ad.ob,AT]}
   {cases hz}
  {cases hk}
 | copy k x s =>
  have ha:=sg (x:=x) (by simp[An.Z]);have hb:=sg (x:=s) (by simp[An.Z]);simp only[Cq] at hk;obtain⟨ys,hk,hyo,qI⟩:=UB h hb hk;split at hk;{rename_i J k' o n hv;split at hk;{rename_i qg kt Z hl;split at hk;{rename_i sC;obtain⟨rfl,rfl⟩:=sC;obtain⟨U,hk⟩:=Bd hk;simp only[Px,AT,BR] at U;have n6:AB Z=true:=Dv h.ob hl;refine⟨_,hk,Au.turn (o:=.arr k kt _) rfl (Ii (Ii (Hr n6 o) (Hr hyo n)) (Jl n6 _)),?_⟩;simp[exec,ev,qI,hv,KV.pv,lk,hl,Ad.ob,Av,U,Au.out,BR,AT,J7,B9,Et,nI,minN];omega};{cases hk}};{cases hk}};{rename_i hv;exact⟨_,hk,Au.plain (v:=.cv (nI 0)) rfl,by simp[exec,ev,qI,hv,KV.pv,Au.out,nI]⟩};{cases hk}
 | iter x =>
  simp only[Cq] at hk;split at hk;{rename_i v hv;obtain⟨s,hs,hk⟩:=CL hk;unfold strO at hs;split at hs;{cases hs;exact⟨_,hk,Au.one (o:=.mD s 0) trivial trivial,by simp[exec,ev,KV.od hv,Au.out,KV.pv,Ad.ob]⟩};{cases hs}};{cases hk}
 | next x =>
  simp only[Cq] at hk;split at hk
  ·rename_i J hv;split at hk
   ·rename_i s pos hl;rcases LS hk with ⟨U,hk⟩ | ⟨U,hk⟩
    {rw[Nv] at U;unfold lenS at U;refine⟨_,hk,Au.turn (o:=.mD s (BR pos (zaH s pos))) (v:=.mn [.lit true,.cv (nI pos),.cv (zaG s pos)]) ⟨trivial,rfl,rfl,trivial⟩ trivial,?_⟩;simp[exec,ev,hv,KV.pv,lk,hl,Ad.ob,U,Au.out,AE,nI,zaG,zaH,BR]}
    ·have H:¬ pos < s.length:=by intro h3;rw[show ltN pos (lenS s)=true from Nv.2 h3] at U;cases U
     refine⟨_,hk,Au.plain (v:=.mn [.lit false]) ⟨trivial,trivial⟩,?_⟩;simp[exec,ev,hv,KV.pv,lk,hl,Ad.ob,H,Au.out,AE]
   {cases hk}
  {cases hk}
 | nJ t z ok x =>
  have ha:=sg (x:=x) (by simp[An.Z]);simp only[Cq] at hk;split at hk;{rename_i u y hv;rw[hv] at ha;have hy:y.ok:=ha;split at hk;{rename_i hut;refine⟨_,hk,Au.plain ?_,?_⟩;{split;{exact⟨hy,trivial,trivial⟩};{exact hy}};{simp only[exec,ev,hv,KV.pv,hut,lq,Au.out];cases ok<;>simp[KV.pv,AE]}};{rename_i hut;split at hk;{rename_i hz;refine⟨_,hk,Au.plain (v:=.mn [.cv z,.lit false]) ⟨hz.2,trivial,trivial⟩,?_⟩;simp[exec,ev,hv,KV.pv,hut,Av,hz.1,Au.out,AE]};{cases hk}}};{exact Dm h O hk}
 | call f args=>cases hk
 | bad=>cases hk
 | conv k x=>exact Dm h O hk
 | nS x=>exact Dm h O hk
 | ofBytes x =>
  have ha:=sg (x:=x) (by simp[An.Z]);simp only[Cq] at hk;split at hk
  ·rename_i J k o n hv;rw[hv] at ha;obtain⟨ys,hk,hyo,qI⟩:=UB h ha hk;obtain⟨z,hz,hk⟩:=CL hk;simp only[Ae,exec,RX.ev,Qq,kc,Av,lq,DD,lF] at hz;cases hb:Ef ys with
   | none=>rw[hb] at hz;cases hz
   | some s =>
    rw[hb] at hz;cases hz;refine⟨_,hk,Au.plain (v:=.cv (.str s)) rfl,?_⟩;have hys':DD (Ac ks.V.mi) 1 (.arr J k o n)=some ys:=qI;simp[exec,ev,hv,KV.pv,Qq,Av,hys',hb,Au.out]
  {exact Dm h O hk}
 | oe x=>exact Dm h O hk
 | pt x=>exact Dm h O hk
 | nB x lo hi=>exact Dm h O hk
 | nL k l x i=>exact Dm h O hk
 | oE x i=>exact Dm h O hk
 | nQ mx Z=>exact Dm h O hk
end Go.Ab


namespace Go.Ab
variable{B:List (Nm×Nm)} {R:lW} {a b l A:lS} {i:Nat} {m:Nm} {p:KV} {sl:lT} {v x:PV}
theorem Ad.qd (f:Nm->Nm) {o:Ad} (h:o.ok):(o.mz f).ob=o.ob.mz f:=by
 cases o with
 | cells ty cs=>simp[Ad.mz,Ad.ob,Ob.mz,Nt f h]
 | whole ty v =>
  have:=(Ch (Df h)).1;simp only[Ad.mz,Ad.ob,Ob.mz,FP];rw[M4 this]
 | map es =>
  simp only[Ad.mz,Ad.ob,Ob.mz];rw[M4 (Ch h).1]
 | _=>rfl
theorem Ad.nZ (f:Nm->Nm) {o:Ad} (h:o.ok):(o.mz f).ok:=by
 cases o with
 | cells ty cs=>exact Nl f h
 | _=>exact h
theorem WQ (f:Nm->Nm) (Z ys:lS):AY f (Z++ys)=AY f Z++AY f ys:=by
 induction Z with
 | nil=>rfl
 | cons x Z ih=>simp[AY,ih]
def CX (A:lS) (i:Nat) (l:lS):Prop:=∀ m v,l[m]?=some v->Af A (i+m)=v
theorem CX.left (h:CX A i (a++b)):CX A i a:=fun m v hm=>h m v (by
 rw[jd (ix.1 hm).1];exact hm)
theorem CX.right (h:CX A i (a++b)):CX A (i+a.length) b:=fun m v hm=>by have:=h (a.length+m) v (by rw[js (by omega)];simpa using hm);rw[<-this,ke]
theorem CX.head (h:CX A i (x :: l)):Af A i=x:=h 0 x rfl
theorem CX.all (A:lS):CX A 0 A:=fun m v hm=>by unfold Af;rw[ip,iO,hm];rfl
theorem Pw {x:KV} (O:x.ok) (hf:x.cl.isSome=true) (h:CX A i [x.cl.getD .undef]):(KV.cv (Af A i)).pv=x.pv/\(KV.cv (Af A i)).ok:=by obtain⟨v,hv⟩:=jR.1 hf;have:=h.head;rw[hv] at this;simp only[iT] at this;rw[this];exact⟨(KV.od hv).symm,KV.oQ O hv⟩
theorem aF (h:FV p=false):FV (fill p A i).1=false:=by cases p<;>simp[FV] at h<;>simp only[fill]<;>first | rfl | (split<;>rfl)
mutual
theorem Vx:∀ (p x:KV),A8 p x=true->x.ok->∀ (A:lS) (i:Nat),CX A i (BU p x)->(fill p A i).1.pv=x.pv/\(fill p A i).1.ok/\(fill p A i).2=i+(BU p x).length
 | .un,x,h,_,A,i,_=>by cases x<;>simp[A8] at h;exact⟨rfl,trivial,rfl⟩
 | .sk,x,h,_,A,i,_=>by cases x<;>simp[A8] at h;exact⟨rfl,trivial,rfl⟩
 | .mF d,x,h,_,A,i,hs=>by
  cases x with
  | mF d' =>
   have U:Af A i=nI d':=hs.head;simp[fill,KV.pv,U,nI,Bj,KV.ok,BU]
  | _=>simp[A8] at h
 | .ref J o,x,h,_,A,i,_=>by cases x<;>simp[A8] at h;obtain⟨rfl,rfl⟩:=h;exact⟨rfl,trivial,rfl⟩
 | .my _ _ _ _,x,h,_,A,i,_=>by simp[A8] at h
 | .mp J,x,h,_,A,i,_=>by cases x<;>simp[A8] at h;subst h;exact⟨rfl,trivial,rfl⟩
 | .it J,x,h,_,A,i,_=>by cases x<;>simp[A8] at h;subst h;exact⟨rfl,trivial,rfl⟩
 | .oh J,x,h,_,A,i,_=>by cases x<;>simp[A8] at h;subst h;exact⟨rfl,trivial,rfl⟩
 | .arr J k o n,x,h,_,A,i,hs=>by
  cases x with
  | arr nr k' o' n' =>
   simp only[A8,ie,ly] at h;obtain⟨⟨rfl,rfl⟩,ho⟩:=h;have:=i7 ho;subst this;have U:Af A i=nI n':=hs.head;simp[fill,KV.pv,U,nI,Bj,KV.ok,BU]
  | _=>simp[A8] at h
 | .lit b,x,h,O,A,i,hs=>by
  have:=Pw O (by simpa[A8] using h) (by simpa[BU] using hs);exact⟨this.1,this.2,by simp[fill,BU]⟩
 | .nz,x,h,O,A,i,hs=>by
  have:=Pw O (by simpa[A8] using h) (by simpa[BU] using hs);exact⟨this.1,this.2,by simp[fill,BU]⟩
 | .cv v,x,h,O,A,i,hs=>by
  have:=Pw O (by simpa[A8] using h) (by simpa[BU] using hs);exact⟨this.1,this.2,by simp[fill,BU]⟩
 | .fn f cap,x,h,O,A,i,hs=>by
  cases x with
  | fn f' qC =>
   simp only[A8,ie,ly] at h;obtain⟨rfl,h⟩:=h;obtain⟨a,b,c⟩:=Np cap qC h O A i (by simpa[BU] using hs);exact⟨by simp[fill,KV.pv,a],b,by simp[fill,BU,c]⟩
  | _=>simp[A8] at h
 | .mn Z,x,h,O,A,i,hs=>by
  cases x with
  | mn ys =>
   simp only[A8] at h;obtain⟨a,b,c⟩:=Np Z ys h O A i (by simpa[BU] using hs);exact⟨by simp[fill,KV.pv,a],b,by simp[fill,BU,c]⟩
  | _=>simp[A8] at h
 | .agg cs,x,h,O,A,i,hs=>by
  simp only[A8] at h;simp only[BU] at hs;by_cases hc:(Du cs).isSome=true;{rw[lu hc] at h hs;have:=Pw O h hs;simp only[fill,hc,lq];exact⟨this.1,this.2,by simp[BU,hc]⟩}
  ·rw[lr hc] at h hs;cases x with
   | agg og =>
    obtain⟨a,b,c⟩:=Np cs og h O A i hs;simp only[fill,lr hc];exact⟨by simp[KV.pv,a],b,by simp[BU,hc,c]⟩
   | _=>simp at h
 | .iface t y,x,h,O,A,i,hs=>by
  simp only[A8] at h;simp only[BU] at hs;by_cases hc:y.cl.isSome=true;{rw[lu hc] at h hs;have:=Pw O h hs;simp only[fill,hc,lq];exact⟨this.1,this.2,by simp[BU,hc]⟩}
  ·rw[lr hc] at h hs;cases x with
   | iface t' y' =>
    simp only[ie,ly] at h;obtain⟨rfl,h⟩:=h;obtain⟨a,b,c⟩:=Vx y y' h O A i hs;simp only[fill,lr hc];exact⟨by simp[KV.pv,a],b,by simp[BU,hc,c]⟩
   | _=>simp at h
theorem Np:∀ (ps Z:lX),Dq ps Z=true->AW Z->∀ (A:lS) (i:Nat),CX A i (Gf ps Z)->AE (CG ps A i).1=AE Z/\AW (CG ps A i).1/\(CG ps A i).2=i+(Gf ps Z).length
 | [],Z,h,_,A,i,_=>by cases Z<;>simp[Dq] at h;exact⟨rfl,trivial,rfl⟩
 | p :: ps,Z,h,O,A,i,hs=>by
  cases Z with
  | nil=>simp[Dq] at h
  | cons x Z =>
   simp only[Dq,ie] at h;simp only[Gf] at hs;obtain⟨a,b,c⟩:=Vx p x h.1 O.1 A i hs.left;obtain⟨a',b',c'⟩:=Np ps Z h.2 O.2 A (fill p A i).2 (by rw[c];exact hs.right);refine⟨by simp[CG,AE,a,a'],⟨b,b'⟩,?_⟩;simp only[CG,Gf,iQ];rw[c',c];omega
end
theorem wP (p x:Ad) (h:C5 p x=true) (O:x.ok) (A:lS) (i:Nat) (hs:CX A i (GY p x)):(B8 p A i).1.ob=x.ob/\(B8 p A i).1.ok/\(B8 p A i).2=i+(GY p x).length:=by
 cases p with
 | cells ty cs =>
  cases x with
  | cells uF og =>
   simp only[C5,ie,ly] at h;obtain⟨rfl,h⟩:=h;obtain⟨a,b,c⟩:=Np cs og h O A i (by simpa[GY] using hs);exact⟨by simp[B8,Ad.ob,a],b,by simp[B8,GY,c]⟩
  | _=>simp[C5] at h
 | whole ty w =>
  cases x with
  | whole uF v =>
   simp only[C5,ly] at h;subst h;have:Af A i=v:=hs.head;exact⟨by simp[B8,Ad.ob,this],by simp only[B8,this];exact O,by simp[B8,GY]⟩
  | _=>simp[C5] at h
 | arr k kt ws =>
  cases x with
  | arr k' kt' Z =>
   simp only[C5,ie,ly] at h;obtain⟨rfl,rfl⟩:=h;have:Af A i=.sl k Z false:=hs.head;exact⟨by simp[B8,Ad.ob,this,Bl],by simp only[B8,this,Bl];exact O,by simp[B8,GY]⟩
  | _=>simp[C5] at h
 | map ws =>
  cases x with
  | map es =>
   have:Af A i=.nb es:=hs.head;exact⟨by simp[B8,Ad.ob,this,Mx],by simp only[B8,this,Mx];exact O,by simp[B8,GY]⟩
  | _=>simp[C5] at h
 | mD s0 p0 =>
  cases x with
  | mD s pos =>
   have U:Af A i=.str s:=hs.head;have H:Af A (i+1)=nI pos:=hs 1 _ rfl;exact⟨by simp[B8,Ad.ob,U,H,strP,Bj,nI],trivial,by simp[B8,GY]⟩
  | _=>simp[C5] at h
theorem T2:∀ (ps Z:lZ),Eh ps Z=true->(∀ o∈Z,o.ok)->∀ (A:lS) (i:Nat),CX A i (Jm ps Z)->(CE ps A i).1.map Ad.ob=Z.map Ad.ob/\(∀ o∈(CE ps A i).1,o.ok)/\(CE ps A i).2=i+(Jm ps Z).length
 | [],[],_,_,A,i,_=>⟨rfl,by simp[CE],rfl⟩
 | [],_ :: _,h,_,_,_,_=>by simp[Eh] at h
 | _ :: _,[],h,_,_,_,_=>by simp[Eh] at h
 | p :: ps,x :: Z,h,O,A,i,hs=>by
  simp only[Eh,ie] at h;simp only[Jm] at hs;obtain⟨a,b,c⟩:=wP p x h.1 (O x (by simp)) A i hs.left;obtain⟨a',b',c'⟩:=T2 ps Z h.2 (fun o ho=>O o (by simp[ho])) A (B8 p A i).2 (by rw[c];exact hs.right);refine⟨by simp[CE,a,a'],?_,?_⟩;{intro o ho;simp only[CE,im] at ho;rcases ho with rfl | ho;{exact b};{exact b' o ho}};{simp only[CE,Jm,iQ];rw[c',c];omega}
mutual
theorem Ux:∀ (p:KV) (x:PV) {l:lS},B1 p x=some l->∀ (A:lS) (i:Nat),CX A i l->(fill p A i).1.pv=x/\(fill p A i).1.ok/\(fill p A i).2=i+l.length
 | .un,x,l,h,A,i,_=>by cases x<;>simp[B1] at h;subst h;exact⟨rfl,trivial,rfl⟩
 | .sk,x,l,h,A,i,_=>by
  simp only[B1] at h;split at h;·cases h;exact⟨rfl,trivial,rfl⟩
  {cases h}
 | .mF d,x,l,h,A,i,hs=>by
  cases x with
  | mF d' =>
   simp only[B1] at h;cases h;have U:Af A i=nI d':=hs.head;simp[fill,KV.pv,U,nI,Bj,KV.ok]
  | _=>simp[B1] at h
 | .my _ _ _ _,x,l,h,A,i,_=>by simp[B1] at h
 | .oh J,x,l,h,A,i,_=>by
  simp only[B1] at h;split at h;{obtain⟨U,H⟩:=Bd h;simp at U H;subst U;subst H;exact⟨rfl,trivial,rfl⟩};{cases h}
 | .ref J o,x,l,h,A,i,_=>by
  cases x<;>simp[B1] at h;obtain⟨U,H⟩:=Bd h;simp at U H;obtain⟨rfl,rfl⟩:=U;subst H;exact⟨rfl,trivial,rfl⟩
 | .mp J,x,l,h,A,i,_=>by
  cases x<;>simp[B1] at h;obtain⟨U,H⟩:=Bd h;simp at U H;subst U;subst H;exact⟨rfl,trivial,rfl⟩
 | .it J,x,l,h,A,i,_=>by
  cases x<;>simp[B1] at h;obtain⟨U,H⟩:=Bd h;simp at U H;subst U;subst H;exact⟨rfl,trivial,rfl⟩
 | .arr J k o n,x,l,h,A,i,hs=>by
  cases x with
  | arr nr k' o' n' =>
   simp only[B1] at h;obtain⟨U,H⟩:=Bd h;cases H;simp only[ie,ly] at U;obtain⟨⟨rfl,rfl⟩,ho⟩:=U;have:=i7 ho;subst this;have U:Af A i=nI n':=hs.head;simp[fill,KV.pv,U,nI,Bj,KV.ok]
  | _=>simp[B1] at h
 | .lit b,x,l,h,A,i,hs=>by
  simp only[B1] at h;obtain⟨U,H⟩:=Bd h;cases H;have:=hs.head;exact⟨this,by simp only[fill,KV.ok,this];exact U,rfl⟩
 | .nz,x,l,h,A,i,hs=>by
  simp only[B1] at h;obtain⟨U,H⟩:=Bd h;cases H;have:=hs.head;exact⟨this,by simp only[fill,KV.ok,this];exact U,rfl⟩
 | .cv v,x,l,h,A,i,hs=>by
  simp only[B1] at h;obtain⟨U,H⟩:=Bd h;cases H;have:=hs.head;exact⟨this,by simp only[fill,KV.ok,this];exact U,rfl⟩
 | .fn f cap,x,l,h,A,i,hs=>by
  cases x with
  | fn f' qC =>
   simp only[B1] at h;split at h;{rename_i hf;subst hf;obtain⟨a,b,c⟩:=OT cap qC h A i hs;exact⟨by simp[fill,KV.pv,a],b,c⟩};{cases h}
  | _=>simp[B1] at h
 | .mn Z,x,l,h,A,i,hs=>by
  cases x with
  | mn ys =>
   simp only[B1] at h;obtain⟨a,b,c⟩:=OT Z ys h A i hs;exact⟨by simp[fill,KV.pv,a],b,c⟩
  | _=>simp[B1] at h
 | .agg cs,x,l,h,A,i,hs=>by
  simp only[B1] at h;by_cases hc:(Du cs).isSome=true;{rw[lu hc] at h;obtain⟨U,H⟩:=Bd h;cases H;have:=hs.head;simp only[fill,hc,lq];exact⟨this,by simp only[KV.ok,this];exact U,rfl⟩}
  ·rw[lr hc] at h;cases x with
   | agg og =>
    obtain⟨a,b,c⟩:=OT cs og h A i hs;simp only[fill,lr hc];exact⟨by simp[KV.pv,a],b,c⟩
   | _=>simp at h
 | .iface t y,x,l,h,A,i,hs=>by
  simp only[B1] at h;by_cases hc:y.cl.isSome=true;{rw[lu hc] at h;obtain⟨U,H⟩:=Bd h;cases H;have:=hs.head;simp only[fill,hc,lq];exact⟨this,by simp only[KV.ok,this];exact U,rfl⟩}
  ·rw[lr hc] at h;cases x with
   | iface t' y' =>
    simp only at h;split at h;{rename_i ht;subst ht;obtain⟨a,b,c⟩:=Ux y y' h A i hs;simp only[fill,lr hc];exact⟨by simp[KV.pv,a],b,c⟩};{cases h}
   | _=>simp at h
theorem OT:∀ (ps:lX) (Z:lS) {l:lS},HT ps Z=some l->∀ (A:lS) (i:Nat),CX A i l->AE (CG ps A i).1=Z/\AW (CG ps A i).1/\(CG ps A i).2=i+l.length
 | [],Z,l,h,A,i,_=>by cases Z<;>simp[HT] at h;subst h;exact⟨rfl,trivial,rfl⟩
 | p :: ps,Z,l,h,A,i,hs=>by
  cases Z with
  | nil=>simp[HT] at h
  | cons y ys =>
   simp only[HT] at h;split at h;{rename_i a b ha hb;cases h;obtain⟨a1,a2,a3⟩:=Ux p y ha A i hs.left;obtain⟨b1,b2,b3⟩:=OT ps ys hb A (fill p A i).2 (by rw[a3];exact hs.right);refine⟨by simp[CG,AE,a1,b1],⟨a2,b2⟩,?_⟩;simp only[CG,iQ];rw[b3,a3];omega};{cases h}
end
theorem eD (p:Ad) (x:Ob) (h:E4 p x=some l) (A:lS) (i:Nat) (hs:CX A i l):(B8 p A i).1.ob=x/\(B8 p A i).1.ok/\(B8 p A i).2=i+l.length:=by
 cases p with
 | cells ty cs =>
  cases x with
  | cells uF og =>
   simp only[E4] at h;split at h
   case isFalse=>cases h
   rename_i hty;subst hty;obtain⟨a,b,c⟩:=OT cs og h A i hs;exact⟨by simp[B8,Ad.ob,a],b,c⟩
  | _=>simp[E4] at h
 | whole ty w =>
  cases x with
  | cells uF og =>
   simp only[E4] at h;obtain⟨U,H⟩:=Bd h;cases H;simp only[ie,ly] at U;obtain⟨rfl,U⟩:=U;have:Af A i=.agg og:=hs.head;exact⟨by simp[B8,Ad.ob,this,FP,PV.cells],by simp only[B8,this];simpa[Ad.ok,Ax] using U,rfl⟩
  | _=>simp[E4] at h
 | arr k kt ws =>
  cases x with
  | arr k' kt' Z =>
   simp only[E4] at h;obtain⟨U,H⟩:=Bd h;cases H;simp only[ie,ly] at U;obtain⟨⟨rfl,rfl⟩,U⟩:=U;have:Af A i=.sl k Z false:=hs.head;exact⟨by simp[B8,Ad.ob,this,Bl],by simp only[B8,this,Bl];exact U,rfl⟩
  | _=>simp[E4] at h
 | map ws =>
  cases x with
  | map es =>
   simp only[E4] at h;obtain⟨U,H⟩:=Bd h;cases H;have:Af A i=.nb es:=hs.head;exact⟨by simp[B8,Ad.ob,this,Mx],by simp only[B8,this,Mx];exact U,rfl⟩
  | _=>simp[E4] at h
 | mD s0 p0 =>
  cases x with
  | mD s pos =>
   simp only[E4] at h;cases h;have U:Af A i=.str s:=hs.head;have H:Af A (i+1)=nI pos:=hs 1 _ rfl;exact⟨by simp[B8,Ad.ob,U,H,strP,Bj,nI],trivial,rfl⟩
  | _=>simp[E4] at h
theorem Ty:∀ (ps:lZ) (Z:lY) {l:lS},Jw ps Z=some l->∀ (A:lS) (i:Nat),CX A i l->(CE ps A i).1.map Ad.ob=Z/\(∀ o∈(CE ps A i).1,o.ok)/\(CE ps A i).2=i+l.length
 | [],Z,l,h,A,i,_=>by cases Z<;>simp[Jw] at h;subst h;exact⟨rfl,by simp[CE],rfl⟩
 | p :: ps,Z,l,h,A,i,hs=>by
  cases Z with
  | nil=>simp[Jw] at h
  | cons y ys =>
   simp only[Jw] at h;split at h;{rename_i a b ha hb;cases h;obtain⟨a1,a2,a3⟩:=eD p y ha A i hs.left;obtain⟨b1,b2,b3⟩:=Ty ps ys hb A (B8 p A i).2 (by rw[a3];exact hs.right);refine⟨by simp[CE,a1,b1],?_,?_⟩;{intro o ho;simp only[CE,im] at ho;rcases ho with rfl | ho;{exact a2};{exact b2 o ho}};{simp only[CE,iQ];rw[b3,a3];omega}};{cases h}
mutual
theorem qP (f g:Nm->Nm):∀ (x:PV),(x.mz f).mz g=x.mz fun m=>g (f m)
 | .agg cs=>by simp[PV.mz,OW f g cs]
 | .iface t x=>by simp[PV.mz,qP f g x]
 | .fn h cap=>by simp[PV.mz,OW f g cap]
 | .mn Z=>by simp[PV.mz,OW f g Z]
 | .undef | .bool _ | .int _ _ | .str _ | .mu | .mJ | .nn | .mB | .ni | .sl _ _ _ | .ptr _ _ | .mF _ | .nb _ | .mY _ _ | .ref _ _ | .my _ _ _ _ | .arr _ _ _ _ | .mp _ | .it _=>by simp[PV.mz]
theorem OW (f g:Nm->Nm):∀ (Z:lS),AY g (AY f Z)=AY (fun m=>g (f m)) Z
 | []=>rfl
 | x :: Z=>by simp[AY,qP f g x,OW f g Z]
end
mutual
theorem pE {f g:Nm->Nm}:∀ {x:PV},(∀ m∈x.names,f m=g m)->x.mz f=x.mz g
 | .agg cs,h=>by simp only[PV.mz];rw[MV (Z:=cs) h]
 | .iface t x,h=>by simp only[PV.mz];rw[pE (x:=x) h]
 | .fn _ cap,h=>by simp only[PV.mz];rw[MV (Z:=cap) h]
 | .mn Z,h=>by simp only[PV.mz];rw[MV (Z:=Z) h]
 | .ref J _,h | .my J _ _ _,h | .arr J _ _ _,h | .mp J,h | .it J,h=>by simp only[PV.mz];rw[h J (by simp[PV.names])]
 | .undef,_ | .bool _,_ | .int _ _,_ | .str _,_ | .mu,_ | .mJ,_ | .nn,_ | .mB,_ | .ni,_ | .sl _ _ _,_ | .ptr _ _,_ | .mF _,_ | .nb _,_ | .mY _ _,_=>by simp[PV.mz]
theorem MV {f g:Nm->Nm}:∀ {Z:lS},(∀ m∈Ar Z,f m=g m)->AY f Z=AY g Z
 | [],_=>rfl
 | x :: Z,h=>by
  simp only[AY];rw[pE (x:=x) fun m hm=>h m (iF _ hm),MV (Z:=Z) fun m hm=>h m (iJ _ hm)]
end
mutual
theorem pF {p:Nm->Bool}:∀ {x:PV} {m:Nm},m∈(x.sub fun m=>if p m then none else some none).names->p m=true
 | .agg cs,m,h=>M0 (Z:=cs) (by simpa[PV.sub,PV.names] using h)
 | .iface t x,m,h=>pF (x:=x) (by simpa[PV.sub,PV.names] using h)
 | .fn _ cap,m,h=>M0 (Z:=cap) (by simpa[PV.sub,PV.names] using h)
 | .mn Z,m,h=>M0 (Z:=Z) (by simpa[PV.sub,PV.names] using h)
 | .ref J _,m,h | .my J _ _ _,m,h | .arr J _ _ _,m,h | .mp J,m,h | .it J,m,h=>by
  simp only[PV.sub] at h;cases hp:p J with
  | true=>simp[hp,PV.names] at h;rw[h];exact hp
  | false=>simp[hp,PV.names] at h
 | .undef,m,h | .bool _,m,h | .int _ _,m,h | .str _,m,h | .mu,m,h | .mJ,m,h | .nn,m,h | .mB,m,h | .ni,m,h | .sl _ _ _,m,h | .ptr _ _,m,h | .mF _,m,h | .nb _,m,h | .mY _ _,m,h=>by simp[PV.sub,PV.names] at h
theorem M0 {p:Nm->Bool}:∀ {Z:lS} {m:Nm},m∈Ar (AM (fun m=>if p m then none else some none) Z)->p m=true
 | [],m,h=>by simp[AM,Ar] at h
 | x :: Z,m,h=>by
  simp only[AM,Ar] at h;rcases iH.1 h with h | h;{exact pF h};{exact M0 h}
end
theorem Ob.qP (f g:Nm->Nm) (o:Ob):(o.mz f).mz g=o.mz fun m=>g (f m):=by cases o<;>simp[Ob.mz,OW]
theorem Ob.pE {f g:Nm->Nm} {o:Ob} (h:∀ m∈o.names,f m=g m):o.mz f=o.mz g:=by
 cases o with
 | cells ty cs=>simp only[Ob.mz];rw[MV h]
 | map es=>simp only[Ob.mz];rw[MV h]
 | _=>rfl
theorem Ob.pF {p:Nm->Bool} {o:Ob} (h:m∈(o.sub fun m=>if p m then none else some none).names):p m=true:=by
 cases o with
 | cells ty cs=>exact M0 h
 | map es=>exact M0 h
 | _=>simp[Ob.sub,Ob.names] at h
theorem eu (g:Nm->Nm):∀ (B:List (Nm×Nm)) (m:Nm),(B.map fun p=>(p.1,g p.2)).lookup m=(B.lookup m).map g:=by
 intro B;induction B with
 | nil=>intro m;rfl
 | cons p B ih =>
  obtain⟨a,b⟩:=p;intro m;simp only[iE,kQ];split<;>simp_all
theorem ep:∀ {m:Nm},(B.map (·.1)).contains m=true->∃ t,B.lookup m=some t:=by
 induction B with
 | nil=>intro m h;simp at h
 | cons p B ih =>
  obtain⟨a,b⟩:=p;intro m h;rw[kQ];split;{exact⟨_,rfl⟩};{rename_i mP;refine ih ?_;simp only[iE,List.contains_cons,mP,j9] at h;exact h}
theorem wQ {d i0:Nat} {V:St} {out:Al} (h:Gj none 1 0 (El R.length) V v=some out) :
  Gj sl d i0 R V v=some {v:=out.v.mz (BZ R d i0),new:=out.new.map (Ob.mz (BZ R d i0)),gone:=out.gone.map (BZ R d i0),nh:=R.zip (out.nh.map fun p=>p.2.mz (BZ R d i0)),io:=true,slot:=sl}:=by
 have oi:(El R.length).length=R.length:=by simp[El]
 have hA:FI R V.mj=(FI (El R.length) V.mj).map fun p=>(p.1,BZ R d i0 p.2):=by apply jc;intro i;simp only[FI,iC,jD,iO,El];by_cases hi:i < R.length;{rw[iG hi,jG hi];simp[BZ,ip,iG hi]};{rw[iR.2 (by omega),iR.2 (by simp;omega)];rfl}
 have hF:(FI R V.mj).map (·.1)=(FI (El R.length) V.mj).map (·.1):=by rw[hA,iK];rfl
 have hN:Mh (Ac V.mi) (FI R V.mj) v=Mh (Ac V.mi) (FI (El R.length) V.mj) v:=by
  unfold Mh;rw[hF]
  have:∀ zzc A':List (Nm×Nm),zzc.map (·.1)=A'.map (·.1)->(zzc.flatMap fun p=>((Ac V.mi p.1).map Ob.names).getD [])=A'.flatMap fun p=>((Ac V.mi p.1).map Ob.names).getD []:=by
   intro zzc A' h;have e:∀ zzc:List (Nm×Nm),(zzc.flatMap fun p=>((Ac V.mi p.1).map Ob.names).getD [])=(zzc.map (·.1)).flatMap fun m=>((Ac V.mi m).map Ob.names).getD []:=by intro zzc;rw[lc]
   rw[e,e,h]
  rw[this _ _ hF]
 unfold Gj at h |-;simp only at h |-;rw[hN];generalize Mh (Ac V.mi) (FI (El R.length) V.mj) v=N at h |-;generalize hA0:FI (El R.length) V.mj=A0 at h hA;generalize hB0:(A0++N.zipIdx.map fun p=>(p.1,(1,0+p.2)))=B0 at h;have hB:FI R V.mj++N.zipIdx.map (fun p=>(p.1,(d,i0+p.2)))=B0.map fun p=>(p.1,BZ R d i0 p.2):=by rw[<-hB0,jE,hA,iK];congr 1;exact iV fun p _=>by simp[BZ]
 rw[hB];have hBf:(B0.map fun p=>(p.1,BZ R d i0 p.2)).map (·.1)=B0.map (·.1):=by rw[iK];rfl
 rw[hBf];obtain⟨U,H⟩:=Dh h;cases H;have sP:∀ m,(B0.map (·.1)).contains m=true->((B0.map fun p=>(p.1,BZ R d i0 p.2)).lookup m).getD m=BZ R d i0 ((B0.lookup m).getD m):=by intro m hm;obtain⟨t,ht⟩:=ep hm;rw[eu,ht];rfl
 have oI:∀ J,GS (Ac V.mi) (B0.map fun p=>(p.1,BZ R d i0 p.2)) J=(GS (Ac V.mi) B0 J).mz (BZ R d i0):=by intro J;unfold GS;rw[hBf,Ob.qP];exact Ob.pE fun m hm=>sP m (Ob.pF hm)
 simp only[Av,U,lq,il,Al.mk.injEq,true_and,and_true];refine⟨?_,?_,?_,?_⟩;{rw[qP];exact pE fun m hm=>sP m (pF hm)};{rw[iK];exact iV fun m _=>oI m}
 ·simp only[ID];apply jc;intro i
  have e:(R.zipIdx.filter fun p=>(CO (V.mj.getD p.2 .undef)).isNone).map (·.1)=(((El R.length).zipIdx.filter fun p=>(CO (V.mj.getD p.2 .undef)).isNone).map (·.1)).map (BZ R d i0):=by
   have hz:R.zipIdx=(El R.length).zipIdx.map fun p=>(BZ R d i0 p.1,p.2):=by apply jc;intro i;simp only[iC,jD,iO,El];by_cases hi:i < R.length;{rw[iG hi,jG hi];simp[BZ,ip,iG hi]};{rw[iR.2 (by omega),iR.2 (by simp;omega)];rfl}
   rw[hz,List.filter_map,iK,iK];rfl
  rw[e]
 ·have hR2:A0.map (fun p=>BZ R d i0 p.2)=R:=by rw[<-hA0];apply jc;intro i;simp only[FI,iC,jD,iO,El];by_cases hi:i < R.length;{rw[iG hi,jG hi];simp[BZ,ip,iG hi]};{rw[iR.2 (by omega:R.length<=i),iR.2 (by simp;omega)];rfl}
  have hz:∀ (l:List (Nm×Nm)) (f:Nm×Nm->Nm) (g:Nm×Nm->Ob),l.map (fun p=>(f p,g p))=(l.map f).zip (l.map g):=by
   intro l f g;induction l with
   | nil=>rfl
   | cons p l ih=>simp[ih]
  have e1:(A0.map fun p=>(p.1,BZ R d i0 p.2)).map (fun p=>(p.2,GS (Ac V.mi) (B0.map fun p=>(p.1,BZ R d i0 p.2)) p.1))=A0.map fun p=>(BZ R d i0 p.2,(GS (Ac V.mi) B0 p.1).mz (BZ R d i0)):=by rw[iK];exact iV fun p _=>by simp only[Function.comp,oI]
  rw[hA,e1,hz,hR2,iK];rfl
end Go.Ab


namespace Go.Ab
variable{α:Type} {B:KB} {Pf:lX->lZ->AA} {args:md} {f u:PV} {fr:Bool} {g:lL} {obs:lY} {sh tU:Bn} {A:lS} {x:Option (PV×lY)} {σ:Nm->Option α}
noncomputable def bf (sp:lL->(Nm->lV)->lS->l5) (mq:lL->l6):Ha:=fun E h dep g args e=>lim fun n=>Ei sp mq n E h dep g args e
def CR (sp:lL->(Nm->lV)->lS->l5) (mq:lL->l6) (n:Nat):AK:=Cb sp mq n
theorem Kq (sp:lL->(Nm->lV)->lS->l5) (mq:lL->l6) (n:Nat):(CR sp mq n).sp=sp:=U9 sp mq n
theorem QV (sp:lL->(Nm->lV)->lS->l5) (mq:lL->l6) (n:Nat):(CR sp mq n).ow=E0 mq:=T4 sp mq n
theorem eo (sp:lL->(Nm->lV)->lS->l5) (mq:lL->l6) (n:Nat):(CR sp mq n).nC=Nj mq:=TN sp mq n
theorem fQ (sp:lL->(Nm->lV)->lS->l5) (mq:lL->l6) (n:Nat):(CR sp mq n).flat=Kt mq:=T5 sp mq n
theorem Xy (sp:lL->(Nm->lV)->lS->l5) (mq:lL->l6) (n:Nat):(CR sp mq n).call=Ei sp mq n:=rfl
noncomputable def S7 (sp:lL->(Nm->lV)->lS->l5) (mq:lL->l6) (g:lL) (ins:lY) (A:lS):Option (St×PV) :=
 match mq g with
 | some fn=>lim fun n=>Db (CR sp mq n) n fn ins A
 | none=>none
structure Eu (cfg:Dr) (mq:lL->l6):Prop where
 L:cfg.b.L=bf cfg.b.sp mq
 I:cfg.b.I=S7 cfg.b.sp mq
 ow:cfg.b.ow=E0 mq
 nC:cfg.b.nC=Nj mq
 flat:∀ g,cfg.flatF g=true->Kt mq g=true
 uG:∀ g,(cfg.uG g).isSome=E0 mq g
 ioP:∀ g P,cfg.uG g=some P->∃ fn,mq g=some fn/\(0 < fn.nt/\((fn.mX=false/\fn.shut=false)\/∀ Z os,(P Z os).args=[.mF 0]))/\∀ Z os,(P Z os).args.length<=fn.nt/\(P Z os).ins.length<=fn.nt
 yH:∀ g,cfg.yH g=false->∀ σ A,cfg.b.sp g σ A=none
 loc:∀ g σ A,AB A=true->cfg.b.sp g σ A=cfg.b.sp g (fun _=>none) A
 spK:∀ g s,cfg.spK g=some s->∀ σ Z out,AW Z->(∀ J o,σ J=some o->o.ok)->s σ Z=some (true,out)->out.Ok/\cfg.b.sp g (fun J=>(σ J).map Ad.ob) (AE Z)=some out.out/\∀ f,out.out.v.mz f=out.out.v
 asOk:∀ g p t n,cfg.asT g p=some (t,n)->∀ σ J ty cs,σ J=some (.cells ty cs)->cs.length=n->cfg.b.sp g σ [.mB,.iface p (.ref J 0)]=some {v:=.bool false} /\
  ∀ x,FH x n=true->cfg.b.sp g σ [.iface t x,.iface p (.ref J 0)]=some {v:=.bool true,nf:=some (J,.cells ty x.cells)}
def HOk {E:Type} (h:AF E) (hn:Nat->AF E):Prop:=∀ l args e r,h l args e=some r->AZ fun n=>hn n l args e=some r
mutual
theorem Zc (d:Nat) {obs:lY}:∀ (sh:Bn) (j:Nat) (v:PV) {u:PV} {j':Nat},sh.fix=true->Cv obs sh j v=some (u,j') ->
  (Dp d sh j u).1.pv=v.mz (EW d)/\(Dp d sh j u).2.1.map Ad.ob=(obs.drop j).take (j' - j)/\(Dp d sh j u).2.2=j'/\(Dp d sh j u).1.ok/\(∀ o∈(Dp d sh j u).2.1,o.ok)/\j<=j'
 | .opt k,j,v,u,j',hf,h=>by cases hf
 | .cl,j,v,u,j',_,h=>by
  simp only[Cv] at h;obtain⟨U,H⟩:=Bd h;cases H;refine⟨?_,by simp[Dp],rfl,U,by simp[Dp],ik _⟩;simp only[Dp,KV.pv];rw[LX (EG U).1]
 | .own k,j,v,u,j',_,h=>by
  simp only[Cv] at h;split at h
  ·rename_i J k' o n qg kt Z hj;obtain⟨U,H⟩:=Bd h;cases H;simp only[ie,ly] at U;obtain⟨⟨⟨⟨⟨⟨rfl,rfl⟩,rfl⟩,rfl⟩,rfl⟩,rfl⟩,oS⟩:=U;refine⟨by simp[Dp,KV.pv,PV.mz,EW,AT,Bl],?_,rfl,trivial,?_,by omega⟩
   ·have mL:=(ix.1 hj).1;have hd:obs.drop j=.arr k 0 Z :: obs.drop (j+1):=by obtain⟨hi,he⟩:=ix.1 hj;rw[<-he];exact ko hi
    rw[hd,show j+1 - j=1 by omega];simp[Dp,Ad.ob,Bl]
   {intro o ho;simp only[Dp,iU] at ho;subst ho;exact oS}
  {cases h}
 | .mn l,j,v,u,j',hf,h=>by
  simp only[Cv] at h;split at h;{rename_i A;obtain⟨p,hp,he⟩:=ij.1 h;cases he;obtain⟨U,H,h3,h4,h5,h6⟩:=T7 d l j A (us:=p.1) (j':=p.2) hf hp (.mn p.1) 0 (by intro i _;simp[HX]);simp only[Dp];exact⟨by simp[KV.pv,PV.mz,U],H,h3,h4,h5,h6⟩};{cases h}
 | .agg l,j,v,u,j',hf,h=>by
  simp only[Cv] at h;split at h;{rename_i A;obtain⟨p,hp,he⟩:=ij.1 h;cases he;obtain⟨U,H,h3,h4,h5,h6⟩:=T7 d l j A (us:=p.1) (j':=p.2) hf hp (.agg p.1) 0 (by intro i _;simp[HX]);simp only[Dp];exact⟨by simp[KV.pv,PV.mz,U],H,h3,h4,h5,h6⟩};{cases h}
theorem T7 (d:Nat) {obs:lY}:∀ (l:List Bn) (j:Nat) (A:lS) {us:lS} {j':Nat},wy l=true->FN obs l j A=some (us,j')->∀ (r:PV) (i:Nat),(∀ m,m < us.length->HX r (i+m)=us.getD m .undef) ->
  AE (IP d l j r i).1=AY (EW d) A/\(IP d l j r i).2.1.map Ad.ob=(obs.drop j).take (j' - j)/\(IP d l j r i).2.2=j'/\AW (IP d l j r i).1/\(∀ o∈(IP d l j r i).2.1,o.ok)/\j<=j'
 | [],j,A,us,j',_,h,r,i,_=>by
  cases A with
  | nil=>simp only[FN] at h;cases h;simp[IP,AE,AY,AW]
  | cons v A=>simp[FN] at h
 | s :: l,j,A,us,j',hf,h,r,i,hr=>by
  simp only[wy,ie] at hf;cases A with
  | nil=>simp[FN] at h
  | cons v A =>
   simp only[FN] at h;split at h
   ·rename_i u j1 hu;obtain⟨p,hp,he⟩:=ij.1 h;obtain⟨qb,j2⟩:=p;cases he;have h0:HX r i=u:=by have:=hr 0 (by simp);simpa using this
    obtain⟨a1,a2,a3,a4,a5,a6⟩:=Zc d s j v hf.1 hu;obtain⟨b1,b2,b3,b4,b5,b6⟩:=T7 d l j1 A hf.2 hp r (i+1) (fun m hm=>by have:=hr (m+1) (by simp;omega);rw[show i+(m+1)=i+1+m by omega] at this;simpa using this);simp only[IP,h0,a3];refine⟨by simp[AE,AY,a1,b1],?_,b3,⟨a4,b4⟩,?_,by omega⟩
    ·rw[jE,a2,b2];have e1:obs.drop j1=(obs.drop j).drop (j1 - j):=by rw[j0];congr 1;omega
     rw[e1,show j2 - j=(j1 - j)+(j2 - j1) by omega,List.take_add]
    {intro o ho;rcases iH.1 ho with ho | ho;{exact a5 o ho};{exact b5 o ho}}
   {cases h}
end
theorem UD (d:Nat) {v:PV} (hf:sh.fix=true) (h:D6 sh v obs=some u):(Dp d sh 0 u).1.pv=v.mz (EW d)/\(Dp d sh 0 u).2.1.map Ad.ob=obs/\(Dp d sh 0 u).1.ok/\∀ o∈(Dp d sh 0 u).2.1,o.ok:=by unfold D6 at h;split at h;{rename_i r j hr;obtain⟨U,H⟩:=Bd h;cases H;simp only[ly] at U;obtain⟨a1,a2,a3,a4,a5,a6⟩:=Zc d sh 0 v hf hr;refine⟨a1,?_,a4,a5⟩;rw[a2,U];simp};{cases h}
mutual
theorem Xf {R:Type} {r:R}:∀ (sh:Bn) (u:PV) {K:Bn->Option R},Js sh u K=some r ->
  ∃ tU,tU.fix=true/\K tU=some r/\∀ obs j v j',Cv obs sh j v=some (u,j')->Cv obs tU j v=some (u,j')
 | .cl,u,K,h=>⟨.cl,rfl,h,fun _ _ _ _ h=>h⟩
 | .own k,u,K,h=>⟨.own k,rfl,h,fun _ _ _ _ h=>h⟩
 | .opt k,u,K,h=>by
  simp only[Js] at h;unfold nilB at h;split at h
  ·refine⟨.cl,rfl,h,fun obs j v j' hc=>?_⟩;simp only[Cv] at hc;split at hc;·cases hc;rfl
   {obtain⟨_,hc⟩:=Bd hc;cases hc};{cases hc}
  ·rename_i hu;refine⟨.own k,rfl,h,fun obs j v j' hc=>?_⟩;simp only[Cv] at hc;split at hc;·cases hc;exact lH rfl hu
   {rename_i hj;simp only[Cv,hj];exact hc};{cases hc}
 | .mn l,u,K,h=>by
  simp only[Js] at h;obtain⟨l',U,H,h3⟩:=TD l u 0 h;refine⟨.mn l',U,H,fun obs j v j' hc=>?_⟩;simp only[Cv] at hc |-;split at hc;{obtain⟨p,hp,he⟩:=ij.1 hc;cases he;rw[h3 obs j _ p.1 p.2 hp (by intro i _;simp[HX])];rfl};{cases hc}
 | .agg l,u,K,h=>by
  simp only[Js] at h;obtain⟨l',U,H,h3⟩:=TD l u 0 h;refine⟨.agg l',U,H,fun obs j v j' hc=>?_⟩;simp only[Cv] at hc |-;split at hc;{obtain⟨p,hp,he⟩:=ij.1 hc;cases he;rw[h3 obs j _ p.1 p.2 hp (by intro i _;simp[HX])];rfl};{cases hc}
theorem TD {R:Type} {r:R}:∀ (l:List Bn) (u:PV) (i:Nat) {K:List Bn->Option R},Pa l u i K=some r ->
  ∃ l',wy l'=true/\K l'=some r/\∀ obs j A us j',FN obs l j A=some (us,j')->(∀ m,m < us.length->HX u (i+m)=us.getD m .undef)->FN obs l' j A=some (us,j')
 | [],u,i,K,h=>⟨[],rfl,h,fun _ _ _ _ _ h _=>h⟩
 | s :: l,u,i,K,h=>by
  simp only[Pa] at h;obtain⟨s',U,h,h3⟩:=Xf s (HX u i) h;obtain⟨l',g1,h,g3⟩:=TD l u (i+1) h;refine⟨s' :: l',by simp[wy,U,g1],h,fun obs j A us j' hc hu=>?_⟩;cases A with
  | nil=>simp[FN] at hc
  | cons v A =>
   simp only[FN] at hc |-;split at hc
   ·rename_i w j1 hw;obtain⟨p,hp,he⟩:=ij.1 hc;obtain⟨qb,j2⟩:=p;cases he;have h0:HX u i=w:=by have:=hu 0 (by simp);simpa using this
    rw[h3 obs j v j1 (by rw[h0];exact hw)];simp only
    rw[g3 obs j1 A qb j2 hp fun m hm=>by have:=hu (m+1) (by simp;omega);rw[show i+(m+1)=i+1+m by omega] at this;simpa using this];simp only[iu,h0]
   {cases hc}
end
theorem Uf {R:Type} {r:R} {K:Bn->Option R} (h:Js sh u K=some r) :
  ∃ tU,tU.fix=true/\K tU=some r/\∀ v obs,D6 sh v obs=some u->D6 tU v obs=some u:=by
 obtain⟨tU,U,H,h3⟩:=Xf sh u h;refine⟨tU,U,H,fun v obs hc=>?_⟩;unfold D6 at hc |-;split at hc;{rename_i w j hw;obtain⟨c1,c2⟩:=Bd hc;cases c2;rw[h3 obs 0 v j hw];simp only[c1,AC]};{cases hc}
section
variable {cfg:Dr} {mq:lL->l6} {ks:Aw} {E R:Type} {h:AF E} {hn:Nat->AF E} {K:Au->E->Option R} {r:R} {e:E} {d dep:Nat}
theorem za3 (hc:Eu cfg mq) (qz:AB A=true) (h:spO cfg.b.sp g A=some x) (σ:Nm->lV) :
  match x with | some p=>cfg.b.sp g σ A=some {v:=p.1,new:=p.2} | none=>cfg.b.sp g σ A=none:=by
 unfold spO at h;rw[hc.loc g σ A qz];split at h
 ·rename_i out ho;obtain⟨U,H⟩:=Bd h;cases H;simp only[ie,iS,jY,jt] at U;obtain⟨⟨⟨⟨⟨⟨b,c⟩,f⟩,a2⟩,a3⟩,a4⟩,a5⟩:=U;simp only
  rw[ho];obtain⟨v,new,nf,kill,mX,gone,nh,io,slot⟩:=out;simp only at b c f a2 a3 a4 a5;subst b;subst c;subst f;subst a2;subst a3;subst a4;subst a5;rfl
 {rename_i ho;cases h;exact ho}
theorem ao (hs:∀ v obs,D6 sh v obs=some u->D6 tU v obs=some u) (h:AJ cfg.b sh f A=some u):AJ cfg.b tU f A=some u:=by
 unfold AJ at h |-;split at h
 ·split at h;{exact hs _ _ h}
  ·split at h;·cases h
   {rename_i oV;rw[lr oV];split at h;{exact hs _ _ h};·cases h}
  {cases h}
 {cases h}
theorem za4 (hs:∀ v obs,D6 sh v obs=some u->D6 tU v obs=some u) (h:Qk cfg.b sh fr g A=some u):Qk cfg.b tU fr g A=some u:=by
 unfold Qk at h |-;split at h;·cases h
 {rename_i hy;rw[lr hy];split at h;{obtain⟨U,H⟩:=Bd h;simp only[U,AC];exact hs _ _ H};{cases h}}
theorem Z8:Nat.blt (AO g) Dj=true:=by unfold AO;split;{assumption};{exact Nat.blt_eq.mpr (Nat.mod_lt _ (by decide))}
theorem fnId_id:AO (AO g)=AO g:=by have h:=Z8 (g:=g);generalize AO g=x at h;simp[AO,h]
theorem wR:Bc (AO g) A []=A:=by have h:=Z8 (g:=g);simp[Bc,h]
theorem WY {f:lL} {cap:lS} {x:PV} (h:x∈A\/x∈cap):x∈Bc f A cap:=by
 unfold Bc;split;{exact iH.2 h}
 ·rcases h with h | h;{exact iJ _ (iF _ h)}
  {rw[<-List.take_append_drop (Fa f) cap] at h;rcases iH.1 h with h | h;{exact iF _ h};{exact iJ _ (iJ _ h)}}
theorem XD (f:lL) (A cap:lX):AE (Iv f A cap)=Bc f (AE A) (AE cap):=by unfold Iv Bc;cases Nat.blt f Dj<;>simp[QS,Nd,Nf]
theorem XE {f:lL} {A cap:lX} (U:AW A) (H:AW cap):AW (Iv f A cap):=by unfold Iv;split;{exact LM U H};{exact LM (C8.2 fun x O=>C8.1 H x (ja O)) (LM U (C8.2 fun x O=>C8.1 H x (jH O)))}
theorem wS {f:lL} {A cap:lS}:AJ B sh (.fn f cap) A=AJ B sh (.fn (AO f) []) (Bc f A cap):=by simp only[AJ,fnId_id,wR]
theorem aq (hc:Eu cfg mq) (tV:sh.fix=true) {f:PV} {A:lS} (qz:AB A=true) (hf:Ax f=true) (hu:AJ cfg.b sh f A=some u) (σ:Nm->lV) (T:lS) (fx:RX) (args:md) (hfx:fx.ev T=f) (nD:args.map (RX.ev T)=A) :
  ∃ out:Au,out.Ok/\out={v:=(Dp d sh 0 u).1,new:=(Dp d sh 0 u).2.1}/\AZ fun n=>Cj (CR cfg.b.sp mq n) (hn n) dep d σ T fx args e=some (out.out,e):=by
 unfold AJ at hu;split at hu
 ·rename_i g cap;have qJ:AB cap=true:=by simpa[Ax] using hf
  have nX:AB (Bc g A cap)=true:=EF.2 fun x O=>(T0 O).elim (EF.1 qz x) (EF.1 qJ x);have sP:(Ar (Bc g A cap)).isEmpty=true:=by rw[(Ch nX).1];rfl
  have hy:A5 (Bc g A cap)=false:=(Ch nX).2;split at hu;{rename_i v obs hs;have U:=za3 hc nX hs σ;simp only at U;obtain⟨a1,a2,a3,a4⟩:=UD d tV hu;refine⟨_,⟨a3,a4,by simp,by simp⟩,rfl,.of fun n=>?_⟩;simp only[Cj,hfx,nD,Kq,U,Au.out,a1,a2,jL,jj]}
  ·rename_i hs;have U:=za3 hc nX hs σ;split at hu;·cases hu
   rename_i oV;have oV:E0 mq (AO g)=false:=by rw[<-hc.ow];simpa using oV
   split at hu;{rename_i rr obs hL;rw[hc.L] at hL;have mo:=Pe hL;obtain⟨a1,a2,a3,a4⟩:=UD d tV hu;refine⟨_,⟨a3,a4,by simp,by simp⟩,rfl,mo.mono fun n nO=>?_⟩;simp only at U;simp only[Cj,hfx,nD,Kq,QV,Xy,oV,U,sP,lq,hy,iq,lm,nO,Au.out,a1,a2,jL,jj]};{cases hu}
  {cases hu}
 {cases hu}
theorem mapM_mem:∀ {S:lW} {l:List α},S.mapM σ=some l->l.length=S.length/\∀ x∈l,∃ J,σ J=some x:=by
 intro S;induction S with
 | nil=>intro l h;simp at h;subst h;exact⟨rfl,fun x h=>by cases h⟩
 | cons y S ih =>
  intro l h;rw[jv] at h;simp only[kr,jh,kE,il] at h;obtain⟨o,ho,l',hl,rfl⟩:=h;obtain⟨q1,q2⟩:=ih hl;refine⟨by simp[q1],fun x O=>?_⟩;rcases im.1 O with rfl | O;{exact⟨y,ho⟩};{exact q2 x O}
theorem wT {β:Type} (g:α->β):∀ {S:lW} {l:List α},S.mapM σ=some l->S.mapM (fun J=>(σ J).map g)=some (l.map g):=by
 intro S;induction S with
 | nil=>intro l h;simp at h;subst h;rfl
 | cons y S ih =>
  intro l h;rw[jv] at h;simp only[kr,jh,kE,il] at h;obtain⟨o,ho,l',hl,rfl⟩:=h;rw[jv,ih hl,ho];rfl
theorem XP:∀ {ps Z:lZ},Eh ps Z=true->ps.length=Z.length
 | [],[],_=>rfl
 | [],_ :: _,h=>by simp[Eh] at h
 | _ :: _,[],h=>by simp[Eh] at h
 | p :: ps,x :: Z,h=>by
  simp only[Eh,ie] at h;simp[XP h.2]
theorem Z9:∀ {ps Z:lX},Dq ps Z=true->ps.length=Z.length
 | [],[],_=>rfl
 | [],_ :: _,h=>by simp[Dq] at h
 | _ :: _,[],h=>by simp[Dq] at h
 | p :: ps,x :: Z,h=>by
  simp only[Dq,ie] at h;simp[Z9 h.2]
theorem ob_noY {o:Ad} (h:o.ok) (hq:∀ ty cs,o=.cells ty cs->EZ cs=false):o.ob.mV=false:=by
 cases o with
 | cells ty cs =>
  have h':AW cs:=h;show A5 (AE cs)=false;rw[LY h'];exact hq ty cs rfl
 | whole ty v=>exact (Ch (Df h)).2
 | arr k kt Z=>exact (Ch h).2
 | map es=>exact (Ch h).2
 | mD s p=>rfl
theorem XH (hc:Eu cfg mq) (hk:ks.Ok) (hq:EX ks.mi=true) {Z:lX} (n6:AW Z)
  {R:Type} {r:R} {K:Au->Option R} (hPf:cfg.uG g=some Pf) (hr:Pz cfg Pf g d (A4 ks.mi) Z K=some r) :
  ∃ out,K out=some r/\out.Ok/\cfg.yH g=false/\AZ fun n=>(CR cfg.b.sp mq n).io g d (Ac ks.V.mi) (AE Z)=some out.out:=by
 unfold Pz at hr;simp only at hr;generalize hS:Bt (GH (A4 ks.mi) AG (CY Z))=S at hr;split at hr;·cases hr
 rename_i ins vZ;generalize hP:Pf Z ins=P at hr;split at hr
 case isFalse=>cases hr
 rename_i qt;obtain⟨oD,hy,ny,qM⟩:=qt;simp only[ie] at qM;obtain⟨hfa,ui⟩:=qM;obtain⟨rs,oV,hr⟩:=CL hr
 have pa:∃ sl d1 i1,K (Oo P S sl d1 i1 rs)=some r/\∀ V v out,Gj sl d1 i1 S V v=some out->G4 (Ac ks.V.mi) d S V v=some out:=by
  unfold G4;cases S with
  | nil=>exact⟨none,d,0,hr,fun V v out h=>h⟩
  | cons s ss =>
   simp only at hr;split at hr
   ·rename_i i1 hi1;refine⟨some s.1,s.1,i1,hr,fun V v out h=>?_⟩;have:Hx (Ac ks.V.mi) s.1=some i1:=by rw[Ed hk,<-hi1];unfold Hx;congr 1;funext j;show ((A4 ks.mi (s.1,j)).map Ad.ob).isNone=_;cases A4 ks.mi (s.1,j)<;>rfl
    simp only[this];exact h
   {cases hr}
 obtain⟨sl,d1,i1,hr,pa⟩:=pa;have u7:E0 mq g=true:=by rw[<-hc.uG,hPf];rfl
 obtain⟨fn,pn,⟨qU,tq⟩,hll⟩:=hc.ioP g Pf hPf
 have hnf:fn.mX=false/\fn.shut=false:=by
  rcases tq with tq | tq;{exact tq}
  ·exfalso;have nD:P.args=[.mF 0]:=by rw[<-hP];exact tq _ _
   rw[nD] at hfa;cases Z with
   | nil=>simp[EN,Dq] at hfa
   | cons x Z =>
    cases x<;>simp[EN,KV.mz,Dq,A8] at hfa;simp[EZ,KV.mV] at hy
 have hla:=(hll Z ins).1;have tu:=(hll Z ins).2;rw[hP] at hla tu;obtain⟨m1,m2⟩:=mapM_mem vZ;have za5:∀ o∈ins,o.ok:=fun o ho=>let ⟨J,h⟩:=m2 o ho;C7 hk J o h;have hS':Bt (AI (Ac ks.V.mi) AG (Ar (AE Z)))=S:=by rw[<-hS,Ht (C7 hk),Ed hk,FE n6]
 have sq:S.mapM (Ac ks.V.mi)=some (ins.map Ad.ob):=by rw[Ed hk];exact wT Ad.ob vZ
 have hysok:AW (EN (fun m=>(0,S.idxOf m)) Z):=Nl _ n6;have hosok:∀ o∈ins.map (Ad.mz fun m=>(0,S.idxOf m)),o.ok:=by intro o ho;obtain⟨o0,h0,rfl⟩:=ii.1 ho;exact Ad.nZ _ (za5 o0 h0)
 have hlen:P.ins.length=S.length:=by rw[XP ui,iW,m1]
 have zl:∀ l:lX,(EN (fun m=>(0,S.idxOf m)) l).length=l.length:=by intro l;induction l with | nil=>rfl | cons x l ih=>simp[EN,ih]
 have hlena:(AE Z).length<=fn.nt:=by
  have U:=Z9 hfa;rw[zl] at U;have H:(AE Z).length=Z.length:=by rw[EV,iW]
  omega
 generalize hlv:Gf P.args (EN (fun m=>(0,S.idxOf m)) Z)++Jm P.ins (ins.map (Ad.mz fun m=>(0,S.idxOf m)))=lv at oV;have hseg:CX lv 0 (Gf P.args (EN (fun m=>(0,S.idxOf m)) Z)++Jm P.ins (ins.map (Ad.mz fun m=>(0,S.idxOf m)))):=by rw[hlv];exact CX.all lv
 obtain⟨p1,p2,p3⟩:=Np _ _ hfa hysok lv 0 hseg.left;obtain⟨q1,q2,q3⟩:=T2 _ _ ui hosok lv (CG P.args lv 0).2 (by rw[p3];exact hseg.right);have hvs2:AE (EN (fun m=>(0,S.idxOf m)) Z)=AY (fun m=>(0,S.idxOf m)) (AE Z):=Nt _ n6;have hos2:(ins.map (Ad.mz fun m=>(0,S.idxOf m))).map Ad.ob=(ins.map Ad.ob).map (Ob.mz fun m=>(0,S.idxOf m)):=by rw[iK,iK];exact iV fun o ho=>Ad.qd _ (za5 o ho)
 unfold Cs at oV;rw[p1,q1,hvs2,hos2] at oV;split at oV
 case h_2=>cases oV
 rename_i V v hI;rw[hc.I] at hI;unfold S7 at hI;rw[pn] at hI;have mo:=Pe hI;split at oV
 case h_2=>cases oV
 rename_i pb oX;rw[hlen] at oX;have zal:=wQ (sl:=sl) (d:=d1) (i0:=i1) oX;unfold Tf at oV;split at oV
 case isFalse=>cases oV
 rename_i sH;split at oV
 case h_2=>cases oV
 rename_i a b c ha hb hcc;cases oV;have hsr:=CX.all (a++(b++c));obtain⟨a1,a2,a3⟩:=Ux P.res pb.v ha _ 0 hsr.left;obtain⟨b1,b2,b3⟩:=Ty P.outs _ hb (a++(b++c)) (fill P.res (a++(b++c)) 0).2 (by rw[a3];exact hsr.right.left);obtain⟨c1,c2,c3⟩:=Ty P.news _ hcc (a++(b++c)) (CE P.outs (a++(b++c)) (fill P.res (a++(b++c)) 0).2).2 (by rw[b3,a3];exact hsr.right.right)
 have mC:(Oo P S sl d1 i1 (a++(b++c))).out={v:=pb.v.mz (BZ S d1 i1),new:=pb.new.map (Ob.mz (BZ S d1 i1)),gone:=pb.gone.map (BZ S d1 i1),nh:=S.zip (pb.nh.map fun p=>p.2.mz (BZ S d1 i1)),io:=true,slot:=sl}:=by
  simp only[Oo,Au.out,jL,Al.mk.injEq,true_and,and_true];refine⟨?_,?_,?_,?_⟩;{rw[KV.r7 _ a2,a1]};{rw[iK,<-c1,iK];exact iV fun o ho=>Ad.qd _ (c2 o ho)};{rw[sH,iK];exact iV fun j _=>by simp[BZ]}
  ·have e1:pb.nh.map (fun p=>p.2.mz (BZ S d1 i1))=(pb.nh.map (·.2)).map (Ob.mz (BZ S d1 i1)):=by rw[iK];rfl
   rw[e1,<-b1,iK]
   have key:∀ (T:lW) (l:lZ),(∀ o∈l,o.ok)->(T.zip (l.map (Ad.mz (BZ S d1 i1)))).map (fun p=>(p.1,p.2.ob))=T.zip (l.map (Ob.mz (BZ S d1 i1)∘Ad.ob)):=by
    intro T;induction T with
    | nil=>intro l _;rfl
    | cons s T ih =>
     intro l hl;cases l with
     | nil=>rfl
     | cons o l =>
      simp only[iE,List.zip_cons_cons,iE,Function.comp];rw[Ad.qd _ (hl o iw),ih l fun o ho=>hl o (iA _ ho)]
   exact key S _ b2
 refine⟨_,hr,⟨KV.nZ _ a2,?_,by simp[Oo],?_⟩,ny,mo.shift.mono ?_⟩;{intro o ho;obtain⟨o0,h0,rfl⟩:=ii.1 ho;exact Ad.nZ _ (c2 o0 h0)};{rintro ⟨s,o⟩ ho;have:=(List.of_mem_zip ho).2;obtain⟨o0,h0,rfl⟩:=ii.1 this;exact Ad.nZ _ (b2 o0 h0)}
 ·rintro k ⟨j,rfl,hj⟩;show Gx mq (F6 (Cb cfg.b.sp mq j) j mq) g d (Ac ks.V.mi) (AE Z)=_;have qo:KP mq g (Ac ks.V.mi) (AE Z)=[]:=by unfold KP;simp only[pn,hnf.1,iq,lm]
  unfold Gx;rw[qo];simp only
  unfold F6;rw[pn];simp only
  rw[hS',sq];have hcd:(!A5 (AE Z)&&B3 (Ac ks.V.mi) S&&(ins.map Ad.ob).all (fun o=>!o.mV)&&(decide ((AE Z).length<=fn.nt)&&decide (S.length<=fn.nt)&&decide (0 < fn.nt)))=true:=by simp only[ie,jt,lw];refine⟨⟨⟨by rw[LY n6];exact hy,?_⟩,?_⟩,⟨hlena,by omega⟩,qU⟩;{rw[Ed hk,<-Nk (C7 hk)];exact oD};{rw[iy];intro o ho;obtain⟨o0,h0,rfl⟩:=ii.1 ho;obtain⟨J,sP⟩:=m2 o0 h0;have:=ob_noY (za5 o0 h0) fun ty cs oJ=>OO hq J ty cs (by rw[sP,oJ]);simp[this]}
  simp only[Av,hcd,lq];have hj':Db (Cb cfg.b.sp mq j) j fn ((ins.map Ad.ob).map (Ob.mz fun m=>(0,S.idxOf m))) (AY (fun m=>(0,S.idxOf m)) (AE Z))=some (V,v):=hj;rw[hj'];have yz:JC fn (V,v)=some (V,v):=by unfold JC;rw[hnf.2];rfl
  simp only[yz];rw[mC];exact pa _ _ _ zal
theorem f9 (hc:Eu cfg mq) (hk:ks.Ok) (hq:EX ks.mi=true) {f0:lL} (hg0:AO f0=g) {cap:lS} {f:RX} {Z:lX} (n6:AW Z) (rV:f.ev ks.V.tmps=.fn f0 cap) (qz:Bc f0 (args.map (RX.ev ks.V.tmps)) cap=AE Z)
  (hPf:cfg.uG g=some Pf) (hr:Pz cfg Pf g d (A4 ks.mi) Z (fun out=>K out e)=some r) :
  ∃ out e',K out e'=some r/\out.Ok/\AZ fun n=>Cj (CR cfg.b.sp mq n) (hn n) dep d (Ac ks.V.mi) ks.V.tmps f args e=some (out.out,e'):=by
 obtain⟨out,hr,ho,ny,mo⟩:=XH (K:=fun out=>K out e) hc hk hq n6 hPf hr;have u7:E0 mq g=true:=by rw[<-hc.uG,hPf];rfl
 exact⟨out,e,hr,ho,mo.mono fun n nO=>by simp only[Cj,rV,hg0,qz,Kq,QV,hc.yH g ny,u7,lq,nO]⟩
theorem za6 (hc:Eu cfg mq) (hh:HOk h hn) (hk:ks.Ok) {f:RX} (hq:(EX ks.mi||Ow cfg (.call f args) ks.tmps)=true) (O:(f :: args).all Ey=true)
  (hr:zaP cfg h d (A4 ks.mi) ks.tmps f args e K=some r) :
  ∃ out e',K out e'=some r/\out.Ok/\AZ fun n=>Cj (CR cfg.b.sp mq n) (hn n) dep d (Ac ks.V.mi) ks.V.tmps f args e=some (out.out,e'):=by
 have hxf:Ey f=true:=iy.1 O f (by simp);have hxa:args.all Ey=true:=iy.2 fun x hm=>iy.1 O x (by simp[hm]);have ui:=Oh hk hxf;have hao:=Me hk hxa;unfold zaP at hr;split at hr
 ·rename_i l hf;have rV:f.ev ks.V.tmps=.mF l:=by rw[GL hk,hf];rfl
  simp only at hr;split at hr
  ·rename_i A hv;obtain⟨p,hp,hr⟩:=CL hr;have oS:=JF hao hv;have sP:(Ar A).isEmpty=true:=by rw[(Ch oS).1];rfl
   refine⟨_,_,hr,Au.plain (v:=.cv (.bool p.1)) rfl,(hh _ _ _ _ hp).mono fun n nO=>?_⟩;simp[Cj,rV,HI hk,KU hv,sP,(Ch oS).2,Av,nO,Au.out,KV.pv]
  ·split at hr;·cases hr
   ·rename_i mP;split at hr
    ·rename_i oD;obtain⟨U,hr⟩:=Bd hr;obtain⟨p,hp,hr⟩:=CL hr;have hne':(Ar (AE (args.map (RX.kv ks.tmps)))).isEmpty=false:=by rw[UC hao];simpa using mP
     rw[Ht (C7 hk),Nk (C7 hk),<-Ed hk,<-FE hao] at oD;rw[O7 hk hao] at U hp;unfold noYL at U;refine⟨_,_,hr,⟨rfl,by simp,by simp,by simp⟩,(hh _ _ _ _ hp).mono fun n nO=>?_⟩;simp only[Cj,rV,HI hk,hne',iq,lm,oD,U,iZ,Av,lq,nO,Au.out,KV.pv];rw[Ht (C7 hk),<-Ed hk,<-FE hao];rfl
    {cases hr}
 ·rename_i f0 mO hf;rw[hf] at ui;have rZ:AW mO:=ui;have rV:f.ev ks.V.tmps=.fn f0 (AE mO):=by rw[GL hk,hf];rfl
  have n6:AW (Iv f0 (args.map (RX.kv ks.tmps)) mO):=XE hao rZ;have qz:Bc f0 (args.map (RX.ev ks.V.tmps)) (AE mO)=AE (Iv f0 (args.map (RX.kv ks.tmps)) mO):=by rw[XD,HI hk]
  have nX:∀ sh,AJ cfg.b sh (.fn f0 (AE mO)) (args.map (RX.ev ks.V.tmps))=AJ cfg.b sh (.fn (AO f0) []) (Bc f0 (args.map (RX.ev ks.V.tmps)) (AE mO)):=fun sh=>wS;simp only at hr;generalize Iv f0 (args.map (RX.kv ks.tmps)) mO=Z at hr n6 qz;generalize hg:AO f0=g at hr nX;split at hr
  ·rename_i s hs;split at hr
   case h_2=>cases hr
   rename_i p hso;obtain⟨b,out⟩:=p;obtain⟨hb,hr⟩:=Bd hr;have hb:b=true:=hb;subst hb;obtain⟨a1,a2,a3⟩:=hc.spK g s hs _ Z out n6 (C7 hk) hso;rw[<-Ed hk] at a2;exact⟨out,e,hr,a1,.of fun n=>by simp only[Cj,rV,hg,qz,Kq,a2,a3]⟩
  split at hr
  ·rename_i P hP
   have hq:EX ks.mi=true:=by
    rcases jW.1 hq with U | U;{exact U}
    {unfold Ow at U;simp only[hf,hg,hP] at U;cases U}
   exact f9 hc hk hq hg n6 rV qz hP hr
  rename_i hP;have oV:E0 mq g=false:=by rw[<-hc.uG,hP];rfl
  split at hr
  ·rename_i ex p J;split at hr
   ·rename_i t n err ty cs ht herr nq;have hq:=Bd hr;clear hr;obtain⟨oJ,hr⟩:=hq;have oJ:cs.length=n:=i7 oJ;have hlk':Ac ks.V.mi J=some (.cells ty (AE cs)):=by rw[G1 hk,nq];rfl
    have hcs':(AE cs).length=n:=by rw[<-oJ,GW]
    have hero:=KV.oQ n6.1 herr;have um:AE [ex,.iface p (.ref J 0)]=[err,.iface p (.ref J 0)]:=by simp[AE,KV.pv,KV.od herr]
    rw[um] at qz;obtain⟨s1,s2⟩:=hc.asOk g p t n ht (Ac ks.V.mi) J _ _ hlk' hcs';unfold asP at hr;split at hr;{refine⟨_,_,hr,Au.plain (v:=.lit false) trivial,.of fun n=>?_⟩;simp only[Cj,rV,hg,qz,Kq,s1];rfl};{rename_i t' x;split at hr;{rename_i htt;subst htt;have hq:=Bd hr;clear hr;obtain⟨sd,hr⟩:=hq;refine⟨_,_,hr,Au.turn (v:=.lit true) (o:=.whole _ x) trivial (show Ax x=true by simpa[Ax] using hero),.of fun n=>?_⟩;simp only[Cj,rV,hg,qz,Kq,s2 x sd];rfl};{cases hr}};{cases hr}
   {cases hr}
  ·split at hr
   ·rename_i A hv;obtain⟨u,hu,hr⟩:=CL hr;have oS:=JF n6 hv;rw[KU hv] at qz;have oC:AJ cfg.b (cfg.rsh g).1 (.fn g []) (Bc f0 (args.map (RX.ev ks.V.tmps)) (AE mO))=some u:=by rw[qz];exact hu
    have hcv:AB (AE mO)=true:=RV (ys:=AE mO) oS fun y hy=>by rw[<-qz];exact WY (.inr hy)
    have hav:AB (args.map (RX.ev ks.V.tmps))=true:=RV oS fun y hy=>by rw[<-qz];exact WY (.inl hy)
    have oU:AJ cfg.b (cfg.rsh g).1 (.fn f0 (AE mO)) (args.map (RX.ev ks.V.tmps))=some u:=by rw[nX];exact oC
    obtain⟨tU,tV,hr,oD⟩:=Uf hr;have oU:=ao oD oU;obtain⟨out,U,H,h3⟩:=aq (d:=d) (dep:=dep) (e:=e) (hn:=hn) hc tV hav (by simpa[Ax] using hcv) oU (Ac ks.V.mi) ks.V.tmps f args rV rfl;subst H;exact⟨_,_,hr,U,h3⟩
   ·split at hr;·cases hr
    ·rename_i mP;split at hr
     ·rename_i oD;obtain⟨u,hu,hr⟩:=CL hr
      have hne1:(CY Z).isEmpty=false:=by
       cases hq:(CY Z).isEmpty with
       | false=>rfl
       | true=>exact lH (.inl hq) mP
      have ny:cfg.yH g=false:=by
       cases hq:cfg.yH g with
       | false=>rfl
       | true=>exact lH (.inr hq) mP
      have hne':(Ar (AE Z)).isEmpty=false:=by rw[UC n6];exact hne1
      rw[Ht (C7 hk),Nk (C7 hk),<-Ed hk,<-FE n6] at oD;rw[O7 hk n6] at hu;obtain⟨tU,tV,hr,hshs⟩:=Uf hr;have hu:=za4 hshs hu;unfold Qk at hu;split at hu;·cases hu
      ·rename_i hy;split at hu
       ·rename_i rr obs hL;obtain⟨qo,hu⟩:=Bd hu;rw[hc.L] at hL;have mo:=Pe hL;obtain⟨a1,a2,a3,a4⟩:=UD d tV hu;refine⟨_,_,hr,⟨a3,a4,by simp,by simp⟩,mo.mono fun n nO=>?_⟩;simp only[ly] at qo;rw[hc.nC] at qo;have vA:A5 (AM (A7 (Ac ks.V.mi)) (AE Z))=false:=by simpa using hy
        simp only[Cj,rV,hg,qz,Kq,QV,eo,Xy,oV,hc.yH g ny,hne',iq,lm,oD,vA,kc,iZ,Av,lq,nO,Au.out,a1,a2,qo,jL,jj];rw[Ht (C7 hk),<-Ed hk,<-FE n6]
       {cases hu}
     {cases hr}
 ·rename_i v hf;rw[hf] at ui;have rV:f.ev ks.V.tmps=v:=by rw[GL hk,hf];rfl
  split at hr;{rename_i A hv;obtain⟨u,hu,hr⟩:=CL hr;obtain⟨tU,tV,hr,oD⟩:=Uf hr;obtain⟨out,U,H,h3⟩:=aq (d:=d) (dep:=dep) (e:=e) (hn:=hn) hc tV (JF hao hv) ui (ao oD hu) (Ac ks.V.mi) ks.V.tmps f args rV (by rw[HI hk,KU hv]);subst H;exact⟨_,_,hr,U,h3⟩};{cases hr}
 {cases hr}
end
end Go.Ab


namespace Go.Ab
variable{b:Bool} {i:Nat} {op:An} {ops:l8} {v:PV}
variable {cfg:Dr} {mq:lL->l6} {ks:Aw} {E R:Type} {h:AF E} {hn:Nat->AF E} {r:R} {e:E} {d dep:Nat}
theorem wU (hk:ks.Ok) {o:AD} (hf:V2 o ks=true):Ce o ks.V=true:=by
 unfold V2 at hf;unfold Ce;split
 ·rename_i hm;rw[lu hm] at hf;split
  ·rename_i d' hd;rw[hd] at hf;simp only[ie,jk,iS] at hf;have:ks.V.mi[d']?=some []:=by show (Co ks.nt ks.mi)[d']?=_;rw[mW,lu hf.1,hf.2];rfl
   rw[this]
  {rename_i hd;rw[hd] at hf;exact hf}
 {rfl}
theorem YQ (hc:Eu cfg mq) (hh:HOk h hn) (hk:ks.Ok) {o:AD} {K:Au->E->Option R} (hr:NT cfg h o ks e K=some r) :
  ∃ out e',(out.mX.isEmpty||EX ks.mi)=true/\K out e'=some r/\out.Ok/\AZ fun n=>By (CR cfg.b.sp mq n) (hn n) dep o ks.V e=some (out.out,e'):=by
 unfold NT at hr;split at hr
 ·rename_i qt;obtain⟨U,H,h3⟩:=qt;have hf:=wU hk U;split at hr
  ·rename_i f args qk;rw[qk] at H h3;obtain⟨out,e',a1,a2,a3⟩:=za6 (dep:=dep) hc hh hk h3 H hr;split at a1
   case isFalse=>cases a1
   rename_i hgq;obtain⟨hg,hqq⟩:=jB.1 hgq
   have se:Jv o.dst out.out=true:=by
    simp only[Jv,Au.out];have:(out.new.map Ad.ob).isEmpty=out.new.isEmpty:=by cases out.new<;>rfl
    rw[this];exact hg
   refine⟨out,e',hqq,a1,a2,a3.mono fun n nO=>?_⟩;simp only[By,Av,hf,lq,qk,nO,se]
  ·rename_i qk;obtain⟨out,a1,a2,a3⟩:=za2 hk h3 H hr;simp only at a1;split at a1
   case isFalse=>cases a1
   rename_i hqq;refine⟨out,e,hqq,a1,a2,.of fun n=>?_⟩;simp only[By,Av,hf,lq];cases hq:o.op with
   | call f args=>exact (qk f args hq).elim
   | _=>rw[hq] at a3;simp only[a3]
 {cases hr}
theorem Wo (hk:ks.Ok) (hg:AS ks.tmps i=.cv v) (hv:v=.bool b):({ks with tmps:=CP i (.lit b) ks.tmps}:Aw).V=ks.V/\({ks with tmps:=CP i (.lit b) ks.tmps}:Aw).Ok:=by
 have mL:i < ks.nt:=by apply kb;intro mL;rw[hk.tm.qE (by omega)] at hg;cases hg
 refine⟨?_,hk.tm.put mL trivial rfl,hk.ob,hk.kp⟩;unfold Aw.V;simp only
 rw[Rp];congr 1;apply jc;intro j;rw[kK,DV];by_cases hj:i=j;{subst hj;simp only[lq];rw[lu mL,mZ,lu mL,hg,hv];rfl};{rw[lr hj]}
theorem YN (hk:ks.Ok) {o:AD} {K:Bool->Aw->Option R} (hr:Sy ops o ks K=some r):∃ b k',K b k'=some r/\k'.Ok/\k'.V=ks.V/\BO ops o ks.V.tmps=some b /\
  k'.mi=ks.mi/\(∀ x:RX,(x.kv k'.tmps).names=(x.kv ks.tmps).names/\(x.kv k'.tmps).mV=(x.kv ks.tmps).mV):=by
 unfold Sy at hr;unfold BO;split at hr;{rename_i hg;rw[hg];exact⟨_,_,hr,hk,rfl,rfl,rfl,fun _=>⟨rfl,rfl⟩⟩}
 ·rename_i j want hg;rw[hg];split at hr
  ·rename_i p hp;split at hr
   ·rename_i d' hd;have nM:ks.V.tmps.getD d' .undef=(AS ks.tmps d').pv:=LN hk.tm d';simp only[hp,hd,nM];split at hr;{rename_i b hb;rw[hb];exact⟨_,_,hr,hk,rfl,rfl,rfl,fun _=>⟨rfl,rfl⟩⟩};{rename_i hb;rw[hb];exact⟨_,_,hr,hk,rfl,rfl,rfl,fun _=>⟨rfl,rfl⟩⟩}
    ·rename_i v hb;rw[hb]
     have hsame:∀ b,∀ x:RX,(x.kv (CP d' (.lit b) ks.tmps)).names=(x.kv ks.tmps).names/\(x.kv (CP d' (.lit b) ks.tmps)).mV=(x.kv ks.tmps).mV:=by
      intro b x;cases x with
      | c v=>exact⟨rfl,rfl⟩
      | t i =>
       simp only[RX.kv,Ug];by_cases hi:i=d';{subst hi;rw[lu rfl,hb];exact⟨rfl,rfl⟩};{rw[lr hi];exact⟨rfl,rfl⟩}
     rcases Re hr with ⟨hv,hr⟩ | ⟨hv,hr⟩
     {obtain⟨s1,s2⟩:=Wo hk hb hv;subst hv;exact⟨_,_,hr,s2,s1,rfl,rfl,hsame true⟩};{obtain⟨s1,s2⟩:=Wo hk hb hv;subst hv;exact⟨_,_,hr,s2,s1,rfl,rfl,hsame false⟩}
    {cases hr}
   {cases hr}
  {cases hr}
theorem ZT (hc:Eu cfg mq) (hh:HOk h hn) (hk:ks.Ok) {o:AD} {K:Aw->E->Option R} (hr:zaQ cfg h ops o ks e K=some r) :
  ∃ k' e',K k' e'=some r/\k'.Ok/\AZ fun n=>stepG (CR cfg.b.sp mq n) (hn n) dep ops o ks.V e=some (k'.V,e'):=by
 unfold zaQ at hr;obtain⟨b,k1,hr,nA,nK,hw,_,_⟩:=YN hk hr;cases b with
 | true =>
  simp only at hr;obtain⟨out,e',hq,U,H,h3⟩:=YQ (dep:=dep) hc hh nA hr;rw[C9] at U;obtain⟨s1,s2⟩:=TL nA hq o.dst H;refine⟨_,_,U,s2,h3.mono fun n nO=>?_⟩;rw[nK] at nO s1;simp only[stepG,hw,IA,nO,s1]
 | false =>
  simp only at hr;rw[C9] at hr;have:(GI k1 o.dst {v:=.sk}).V=apply k1.V o.dst {v:=.mn []}/\(GI k1 o.dst {v:=.sk}).Ok:=by exact sJ nA o.dst
  refine⟨_,_,hr,this.2,.of fun n=>?_⟩;simp only[stepG,hw,this.1,nK]
where
 sJ {ks:Aw} (hk:ks.Ok) (dst:lT):(GI ks dst {v:=.sk}).V=apply ks.V dst {v:=.mn []}/\(GI ks dst {v:=.sk}).Ok:=by
  unfold GI;rw[Vd];simp only[wu,Ol,Qp,MO,MB,jV,lq,Ox,MA,Om];have hkt:Oi [] ks=ks:=rfl;have tB:wx none [] ks=ks:=rfl;have hkn:Qh none []=[]:=rfl;rw[hkt,tB,hkn];simp only[wK,PO];cases dst with
  | none=>exact⟨rfl,hk⟩
  | some d =>
   simp only[kset,LF];cases hd:Nat.blt d ks.nt with
   | true =>
    have qq:d < ks.nt:=by simpa[jk] using hd
    refine⟨?_,hk.tm.set (v:=.sk) qq trivial,hk.ob,hk.kp⟩;unfold Aw.V;simp only
    rw[Y9];rfl
   | false =>
    have qq:¬ d < ks.nt:=by intro h;rw[show Nat.blt d ks.nt=true by simpa[jk] using h] at hd;cases hd
    refine⟨?_,hk⟩;unfold Aw.V;simp only
    rw[kT (by rw[DV];omega)];rfl
theorem U3 (hc:Eu cfg mq) (hh:HOk h hn):∀ (l:l8) {ks:Aw} {e:E} {K:Aw->E->Option R},ks.Ok->Oj cfg h ops l ks e K=some r ->
  ∃ k' e',K k' e'=some r/\k'.Ok/\AZ fun n=>Dy (CR cfg.b.sp mq n) (hn n) dep ops l ks.V e=some (k'.V,e'):=by
 intro l;induction l with
 | nil=>intro ks e K hk hr;exact⟨ks,e,hr,hk,.of fun n=>rfl⟩
 | cons o rest ih =>
  intro ks e K hk hr;simp only[Oj] at hr;obtain⟨k1,e1,hr,nA,U⟩:=ZT (dep:=dep) hc hh hk hr;obtain⟨k2,e2,hr,pX,H⟩:=ih nA hr;exact⟨k2,e2,hr,pX,U.oP H fun n a b=>by simp only[Dy,a,b]⟩
theorem YO (o:Au):PR o=Bb o.out:=by unfold PR Bb Au.out;cases o.nf<;>cases o.nh<;>rfl
theorem wV (o:Au):VV o=CM o.out:=by unfold VV CM Au.out;cases o.nh<;>rfl
theorem dC (o:Au):Uq o=EE o.out:=by
 unfold Uq EE Au.out;cases o.nf with
 | none=>rfl
 | some p=>rfl
theorem spAt_pv (ks:Aw) (s:Nat):ks.V.tmps.getD s .undef=(wA ks s).pv:=by
 unfold wA;show (Bi ks.nt ks.tmps).getD s .undef=_;unfold Bi;rw[ip,iC];cases hb:Nat.blt s ks.nt with
 | true =>
  have:s < ks.nt:=Nat.blt_eq.mp hb;rw[jG this];rfl
 | false =>
  have:¬ s < ks.nt:=fun h=>by rw[Nat.blt_eq.mpr h] at hb;cases hb
  rw[i6 (by simpa using this)];rfl
theorem Xg (hk:ks.Ok) (s:Nat):(ks.V.tmps.getD s .undef).names=(wA ks s).names:=by
 rw[spAt_pv];refine KV.nY ?_;unfold wA;cases Nat.blt s ks.nt with
 | true=>exact hk.tm.nN s
 | false=>trivial
theorem za7 (hk:ks.Ok) (l:lW):VZ (A4 ks.mi) l=Gk (Ac ks.V.mi) l:=by
 unfold VZ Gk;congr 1;funext J;rw[Ed hk];cases hq:A4 ks.mi J with
 | none=>simp[hq]
 | some o =>
  simp only[hq,iu,iT];exact (Ad.pc (C7 hk J o hq)).symm
theorem krn_eq (hk:ks.Ok) {o:AD} (O:o.op.Z.all Ey=true) (out:Au):Ta o ks out=CI o ks.V out.out:=by have oS:=Me hk O;unfold Ta CI;rw[HI hk,Ht (C7 hk),<-Ed hk,<-FE oS,YO];rfl
theorem wW (hk:ks.Ok) (O:op.Z.all Ey=true):VY op ks.tmps=FU op ks.V.tmps:=by
 cases op<;>try rfl
 rename_i f args;have hxa:args.all Ey=true:=iy.2 fun x hm=>iy.1 O x (by simp[An.Z,hm]);have hxf:(f.kv ks.tmps).ok:=Oh hk (iy.1 O f (by simp[An.Z]));unfold VY FU;simp only
 rw[GL hk,HI hk,FE (Me hk hxa)];cases hf:f.kv ks.tmps with
 | cv v =>
  rw[hf] at hxf;simp only[KV.pv];cases v<;>first | rfl | (simp[KV.ok,Ax] at hxf)
 | _=>rfl
theorem za8 (hk:ks.Ok) {o:AD} (O:o.op.Z.all Ey=true) {out:Au} (ho:out.Ok):zaR ops i o ks out=CN ops i o ks.V out.out:=by
 unfold zaR CN;have oS:=Me hk O;simp only
 have hn:out.out.new.flatMap Ob.names=out.new.flatMap Ad.names:=by
  show (out.new.map Ad.ob).flatMap Ob.names=_;rw[lc]
  have:∀ l:lZ,(∀ x∈l,x.ok)->l.flatMap (fun a=>a.ob.names)=l.flatMap Ad.names:=by
   intro l;induction l with
   | nil=>intro _;rfl
   | cons x l ih =>
    intro h;rw[jJ,jJ,Ad.pc (h x iw),ih fun y hy=>h y (iA _ hy)]
  exact this _ ho.new
 have hv:out.out.v.names=out.v.names:=KV.nY ho.v;simp only[<-Xg hk];rw[krn_eq hk O,za7 hk,wW hk O,HI hk,<-LY oS,YO,wV,dC,hn,hv];rfl
theorem za9 {o:AD} {K:Au->E->Option R} (hr:NT cfg h o ks e K=some r):o.op.Z.all Ey=true:=by unfold NT at hr;split at hr;{rename_i qt;exact qt.2.1};·cases hr
theorem wX (hc:Eu cfg mq) (hh:HOk h hn) (hk:ks.Ok) {o:AD} {K:Aw->E->Bk->Option R} (hr:VW cfg h ops i o ks e K=some r) :
  ∃ k' e' inf,K k' e' inf=some r/\k'.Ok/\AZ fun n=>IL (CR cfg.b.sp mq n) (hn n) dep ops i o ks.V e=some (k'.V,e',inf):=by
 unfold VW at hr;obtain⟨b,k1,hr,nA,nK,hw,_,_⟩:=YN hk hr;cases b with
 | true =>
  simp only at hr;have n6:=za9 hr;obtain⟨out,e',hq,U,H,h3⟩:=YQ (dep:=dep) hc hh nA hr;rw[C9] at U;obtain⟨s1,s2⟩:=TL nA hq o.dst H;refine⟨_,_,_,U,s2,h3.mono fun n nO=>?_⟩;rw[nK] at nO s1;simp only[IL,A3,hw,nO,s1];rw[za8 nA n6 H,nK]
 | false =>
  simp only at hr;rw[C9] at hr;have:=ZT.sJ nA o.dst;refine⟨_,_,_,hr,this.2,.of fun n=>?_⟩;simp only[IL,A3,hw,this.1,nK,<-Xg nA]
theorem wY (hc:Eu cfg mq) (hh:HOk h hn):∀ (l:List (Nat×Nat)) (infos:List Bk) {ks:Aw} {e:E} {K:Aw->E->Option R},ks.Ok->Sz cfg h ops l infos ks e K=some r ->
  ∃ k' e',K k' e'=some r/\k'.Ok/\AZ fun n=>FA (CR cfg.b.sp mq n) (hn n) dep ops l infos ks.V e=some (k'.V,e'):=by
 intro l;induction l with
 | nil=>intro infos ks e K hk hr;exact⟨ks,e,hr,hk,.of fun n=>rfl⟩
 | cons p rest ih =>
  obtain⟨i,pr⟩:=p;intro infos ks e K hk hr;simp only[Sz] at hr;split at hr;{rename_i o ho;obtain⟨k1,e1,inf,hr,nA,U⟩:=wX (dep:=dep) hc hh hk hr;split at hr;{rename_i nX;obtain⟨k2,e2,hr,pX,H⟩:=ih _ nA hr;exact⟨k2,e2,hr,pX,U.oP H fun n a b=>by simp only[FA,ho,a,Av,nX,lq,b]⟩};{cases hr}};{cases hr}
end Go.Ab


namespace Go.Ab
variable{R:lW} {mT:lU} {cs:lX} {grow:List (Nat×Nat)} {i k nt ty:Nat} {l:AV} {J:Nm} {p x:Aw} {v:PV}
variable {ks:Aw}
theorem QM (h:Bm nt l) (d:Nat):(Co nt l).getD d []=(A2 l d).map Ad.ob:=by rw[ip,mW];split;{rfl};{rw[h.qE (by omega)];rfl}
theorem M8 (h:ks.Ok) (ds:lU):(DN ds ks).V=Cf ds ks.V/\(DN ds ks).Ok/\(DN ds ks).nt=ks.nt:=by
 have nX:(ds.all fun d=>(ks.V.mi.getD d []).isEmpty)=ds.all fun d=>(A2 ks.mi d).isEmpty:=by congr 1;funext d;show ((Co ks.nt ks.mi).getD d []).isEmpty=_;rw[QM h.ob];cases A2 ks.mi d<;>rfl
 unfold DN Cf;rw[nX];split;{exact⟨rfl,h,rfl⟩}
 ·have U:=Vn (fun m=>ds.contains m.1) h;have H:=Vm (fun m=>ds.contains m.1) h;refine⟨?_,⟨U.tm,U.ob.sub (e8 _ _),U.kp⟩,rfl⟩;have e:Iz (fun m=>ds.contains m.1)=fun m=>if ds.contains m.1=true then some none else none:=rfl
  rw[e] at H;simp only
  rw[<-H];unfold Aw.V;simp only
  congr 1;refine LP (by simp[If]) fun i hi=>?_;rw[iC,jD,mW,lu hi,fa];simp only[iu,iO];cases ds.contains i<;>simp
theorem TO {ds ds':lU} (h:∀ d,d∈ds↔d∈ds') (V:St):Cf ds V=Cf ds' V:=by
 have U:∀ p:Nat->Bool,ds.all p=ds'.all p:=fun p=>by rw[jN,iy,iy];exact⟨fun a x O=>a x ((h x).2 O),fun a x O=>a x ((h x).1 O)⟩
 have H:∀ i,ds.contains i=ds'.contains i:=fun i=>by rw[jN,jl,jl];exact h i
 unfold Cf;simp only[U,H]
theorem TJ {Z:lS}:J∈Ar Z↔∃ x∈Z,J∈x.names:=by
 induction Z with
 | nil=>simp[Ar]
 | cons x Z ih=>simp[Ar,ih]
theorem XF (h:ks.Ok) (J:Nm):J∈Ar ks.V.mj↔J∈ks.mj.flatMap Fe:=by rw[TJ];show (∃ x∈ks.mj.flatMap (Bi ks.nt),J∈x.names)↔_;simp only[ji];constructor;{rintro ⟨x,⟨sp,ny,O⟩,hn⟩;exact⟨sp,ny,(QL (h.kp sp ny) J).1 (TJ.2 ⟨x,O,hn⟩)⟩};{rintro ⟨sp,ny,hn⟩;obtain⟨x,O,hn⟩:=TJ.1 ((QL (h.kp sp ny) J).2 hn);exact⟨x,⟨sp,ny,O⟩,hn⟩}
theorem Tw (h:ks.Ok) (d:Nat):d∈G0 ks.V↔d∈Jo ks:=by
 have hR:∀ p:Nm->Bool,(Ar ks.V.tmps++Ar ks.V.mj++ks.V.mi.flatMap fun l=>l.flatMap Ob.names).all p=(Fe ks.tmps++ks.mj.flatMap Fe++Hw ks.mi).all p:=by intro p;have e1:∀ J,J∈Ar ks.V.tmps↔J∈Fe ks.tmps:=fun J=>QL h.tm J;have e2:=XF h;have e3:∀ J,J∈(ks.V.mi.flatMap fun l=>l.flatMap Ob.names)↔J∈Hw ks.mi:=fun J=>WH h.ob J;rw[jN,iy,iy];refine⟨fun a x O=>a x ?_,fun a x O=>a x ?_⟩;{simp only[iH] at O |-;rw[e1,e2,e3];exact O};{simp only[iH] at O |-;rw[<-e1,<-e2,<-e3];exact O}
 unfold G0 Jo;simp only[ju,jS,ii,hR,ie];have nM:ks.V.mi.getD d []=(A2 ks.mi d).map Ad.ob:=QM h.ob d;rw[nM];constructor
 ·rintro ⟨_,U,H⟩;have mP:A2 ks.mi d≠[]:=by intro e;rw[e] at U;simp at U
  refine⟨_,⟨M3 mP,?_,H⟩,rfl⟩;simpa using mP
 {rintro ⟨p,⟨hp,U,H⟩,rfl⟩;have:=h.ob.get_mem hp;have mL:=h.ob.lt p hp;refine⟨?_,?_,H⟩;{show p.1 < (Co ks.nt ks.mi).length;rw[If];exact mL};{rw[this];simpa using U}}
theorem W3 {R R':lW} (h:∀ J,J∈R↔J∈R') (d:Nat):∀ n,HU R d n=HU R' d n
 | 0=>rfl
 | n+1=>by
  have e:R.contains (d,n)=R'.contains (d,n):=by rw[jN,jl,jl];exact h _
  simp only[HU,e,W3 h d n]
theorem Xh:∀ {l:AV} {p:Nat×lZ},p∈HG R l->∃ q∈l,p.1=q.1/\∀ o∈p.2,o∈q.2:=by
 intro l;induction l with
 | nil=>intro p hp;cases hp
 | cons q l ih =>
  obtain⟨j,u⟩:=q;intro p hp;simp only[HG] at hp;split at hp;{obtain⟨q,hq,h⟩:=ih hp;exact⟨q,by simp[hq],h⟩}
  ·rename_i v A hv;rcases im.1 hp with rfl | hp
   {refine⟨(j,u),by simp,rfl,fun o ho=>?_⟩;simp only at ho;rw[<-hv] at ho;exact ja ho};{obtain⟨q,hq,h⟩:=ih hp;exact⟨q,by simp[hq],h⟩}
theorem dV:∀ (l:AV),((HG R l).map (·.1)).Sublist (l.map (·.1)):=by
 intro l;induction l with
 | nil=>exact .slnil
 | cons q l ih =>
  obtain⟨j,u⟩:=q;simp only[HG];split;{exact .cons _ ih};{exact .cons_cons _ ih}
theorem Bm.trim (h:Bm nt l):Bm nt (HG R l) where
 sv:=h.sv.sublist (dV l)
 lt p hp:=by obtain⟨q,hq,e,_⟩:=Xh hp;rw[e];exact h.lt q hq
 ok p hp o ho:=by obtain⟨q,hq,_,e⟩:=Xh hp;exact h.ok q hq o (e o ho)
theorem e9:∀ {l:AV},Bm nt l->∀ (i:Nat),A2 (HG R l) i=(A2 l i).take (HU R i (A2 l i).length):=by
 intro l;induction l with
 | nil=>intro _ i;simp[HG,A2]
 | cons q l ih =>
  obtain⟨j,u⟩:=q;intro h i;simp only[HG];cases vq:Nat.beq i j with
  | true =>
   have hb:=i7 vq;subst hb
   have zax:A2 l i=[]:=by
    cases hq:A2 l i with
    | nil=>rfl
    | cons x Z =>
     have hm:=M3 (l:=l) (i:=i) (by rw[hq];simp);have U:=(jm.1 h.sv).1 i (ii.2 ⟨_,hm,rfl⟩);exact lH U (Nat.lt_irrefl i)
   have nM:A2 ((i,u) :: l) i=u:=by simp[A2,vq]
   rw[nM];split;{rename_i hv;rw[ih h.tail i,zax,hv];rfl};{rename_i v A hv;rw[hv];simp[A2,vq]}
  | false =>
   have nM:A2 ((j,u) :: l) i=A2 l i:=by simp[A2,vq]
   rw[nM,<-ih h.tail i];split;{rfl};{simp[A2,vq]}
theorem zba (h:ks.Ok):(Ql ks).V=trim ks.V/\(Ql ks).Ok/\(Ql ks).nt=ks.nt:=by
 refine⟨?_,⟨h.tm,h.ob.trim,h.kp⟩,rfl⟩;have hR:∀ J,J∈(Ar ks.V.tmps++Ar ks.V.mj++ks.V.mi.flatMap fun l=>l.flatMap Ob.names)↔J∈(Fe ks.tmps++ks.mj.flatMap Fe++Hw ks.mi):=by intro J;have e1:J∈Ar ks.V.tmps↔J∈Fe ks.tmps:=QL h.tm J;have e2:=XF h J;have e3:J∈(ks.V.mi.flatMap fun l=>l.flatMap Ob.names)↔J∈Hw ks.mi:=WH h.ob J;simp only[iH];rw[e1,e2,e3]
 unfold Ql trim;show ({tmps:=_,mi:=Co ks.nt _,mj:=_}:St)={tmps:=_,mi:=_,mj:=_};congr 1;refine LP (by simp[Aw.V,If]) fun i hi=>?_;rw[iC,jD];show (((Co ks.nt ks.mi)[i]?).map _).map _=_;rw[mW,lu hi,e9 h.ob];simp only[iu,iO,il,iW,List.map_take];rw[W3 hR]
theorem U5 (h:ks.Ok) (p:Nat->Bool):({ks with tmps:=FM p ks.tmps}:Aw).V={ks.V with tmps:=ks.V.tmps.zipIdx.map fun (v,i)=>if p i then v else .undef}/\({ks with tmps:=FM p ks.tmps}:Aw).Ok:=by
 refine⟨?_,h.tm.sub (eY _ _),h.ob,h.kp⟩;unfold Aw.V;simp only
 congr 1;refine LV (by simp[DV]) fun i hi=>?_;rw[iC,jD,mZ,lu hi,eZ];simp only[iu,iO];cases p i<;>rfl
theorem RH (h:ks.Ok) (lv:Option lU):(Mv lv ks).V=Fz lv ks.V/\(Mv lv ks).Ok:=by
 cases lv with
 | none=>exact⟨rfl,h⟩
 | some l =>
  unfold Mv Fz GE;simp only
  obtain⟨U,H⟩:=U5 h (fun i=>l.contains i);obtain⟨h3,h4,_⟩:=M8 H (Jo {ks with tmps:=FM (fun i=>l.contains i) ks.tmps});refine⟨?_,h4⟩;rw[h3,<-U];exact TO (fun d=>(Tw H d).symm) _
theorem dh:BU (.cv v) (.cv v)=[v]:=rfl
theorem ek {l:Sp} (h:BF (GX l l)=true) (hm:(i,KV.cv v)∈l):B2 v=false:=by
 unfold BF at h;induction l with
 | nil=>cases hm
 | cons p l ih =>
  obtain⟨k,u⟩:=p;simp only[GX,jn,ie] at h;rcases im.1 hm with e | hm
  {cases e;have:=h.1;rw[dh] at this;simpa using this};{exact ih h.2 hm}
theorem eO {k0:Aw} (h0:k0.Ok) (hu:BF (GX k0.tmps k0.tmps)=true) (hi:i < k0.nt):(mQ k0.V).contains i=!Gi k0.tmps i:=by
 have o6:i∈mQ k0.V↔B2 (AS k0.tmps i).pv=true:=by unfold mQ;simp only[ii,ju];constructor;{rintro ⟨⟨v,j⟩,⟨hv,hq⟩,rfl⟩;have:=List.mem_zipIdx hv;rw[iY] at hv;simp only at hv;have e:(Bi k0.nt k0.tmps)[j]?=some v:=hv;rw[mZ,lu hi] at e;cases e;exact hq};{intro hq;refine⟨((AS k0.tmps i).pv,i),⟨?_,hq⟩,rfl⟩;rw[iY];show (Bi k0.nt k0.tmps)[i]?=_;rw[mZ,lu hi]}
 rw[jN,jl,o6];cases hh:Gi k0.tmps i with
 | false =>
  have:AS k0.tmps i=.un:=by apply kb;intro mP;rw[(h0.tm.u6 i).2 mP] at hh;cases hh
  simp[this,KV.pv,B2]
 | true =>
  have mP:=(h0.tm.u6 i).1 hh;have hm:=OU mP;simp only[jC,iq,iff_false];intro hq;cases hg:AS k0.tmps i with
  | un=>exact mP hg
  | cv v =>
   rw[hg] at hm hq;have:=ek hu hm;simp only[KV.pv] at hq;rw[this] at hq;cases hq
  | _=>rw[hg] at hq;simp[KV.pv,B2] at hq
theorem zbb {k0:Aw} (h0:k0.Ok) (hu:BF (GX k0.tmps k0.tmps)=true) (h:ks.Ok) (qU:ks.nt=k0.nt):(Lb k0 ks).V=drop (mQ k0.V) ks.V/\(Lb k0 ks).Ok/\(Lb k0 ks).nt=ks.nt:=by
 unfold Lb drop;simp only
 obtain⟨U,H⟩:=U5 h (Gi k0.tmps);obtain⟨h3,h4,h5⟩:=M8 H (Jo {ks with tmps:=FM (Gi k0.tmps) ks.tmps});refine⟨?_,h4,h5⟩
 have h6:GG (mQ k0.V) ks.V=({ks with tmps:=FM (Gi k0.tmps) ks.tmps}:Aw).V:=by
  rw[U];unfold GG;congr 1;apply iV;rintro ⟨v,i⟩ hm;have hi:i < k0.nt:=by rw[iY] at hm;have e:(Bi ks.nt ks.tmps)[i]?=some v:=hm;rw[mZ] at e;split at e;{omega};·cases e
  simp only[eO h0 hu hi];cases Gi k0.tmps i<;>rfl
 rw[h3,h6];exact TO (fun d=>(Tw H d).symm) _
theorem YT (h:ks.Ok) (t:Nat):Ma ks.V t=KL ks t:=by
 unfold Ma KL;show (match (Co ks.nt ks.mi)[t]? with | some []=>true | _=>false)=_;rw[mW];by_cases ht:t < ks.nt
 ·rw[lu ht];have:Nat.blt t ks.nt=true:=by simpa[jk] using ht
  rw[this];cases A2 ks.mi t<;>rfl
 ·rw[lr ht]
  have:Nat.blt t ks.nt=false:=by
   cases hb:Nat.blt t ks.nt with
   | false=>rfl
   | true=>exact lH (by simpa[jk] using hb) ht
  rw[this];rfl
theorem YU {t:Nat} (h:KL ks t=true):t < ks.nt:=by unfold KL at h;simp only[ie,jk] at h;exact h.1
theorem Wz (h:ks.Ok) (t:Nat) (J:Nm):(M6 t ks J).V=(if J≠(t,0)/\Ma ks.V t=true then
   match Ac ks.V.mi J with
   | some ob =>
    let f:Nm->Nm:=fun m=>if m=J then (t,0) else m
    let mi:=ks.V.mi.map (·.map (Ob.mz f))
    {tmps:=AY f ks.V.tmps,mi:=(AR mi J AP).set t [ob.mz f],mj:=AY f ks.V.mj}
   | none=>ks.V
  else ks.V)/\(M6 t ks J).Ok/\(M6 t ks J).nt=ks.nt:=by
 unfold M6;rw[YT h];by_cases hc:J≠(t,0)/\KL ks t=true
 ·rw[lu hc,lu hc,G1 h];cases hl:A4 ks.mi J with
  | none=>exact⟨rfl,h,rfl⟩
  | some ob =>
   simp only[iu];have hoo:=Dv h.ob hl;have ht:=YU hc.2
   let f:Nm->Nm:=fun m=>if m=J then (t,0) else m
   have hm:Bm ks.nt (E6 (Ad.mz f) ks.mi):=h.ob.map fun x O=>Ad.nZ f O;refine⟨?_,⟨h.tm.map fun x O=>KV.nZ f O,(hm.pg J (o:=Fl) rfl).put ht fun o ho=>by simp only[iU] at ho;subst ho;exact Ad.nZ f hoo,fun sp ny=>?_⟩,by trivial⟩
   ·unfold Aw.V;simp only
    rw[Ro h.tm,LO,OK hm,Q2 h.ob (fun o ho=>Ad.qd f ho),
     RN (g:=AY f) rfl (WQ f) fun sp ny=>Ro (h.kp sp ny) f]
    have pf:=Ad.qd (fun m=>if m=J then (t,0) else m) hoo;simp only[iE,jj,pf];rfl
   {obtain⟨q,hq,rfl⟩:=ii.1 ny;exact (h.kp q hq).map fun x O=>KV.nZ f O}
 {rw[lr hc,lr hc];exact⟨rfl,h,rfl⟩}
theorem fW (h:ks.Ok) (t:Nat):(Kr t ks).V=G3 t ks.V/\(Kr t ks).Ok/\(Kr t ks).nt=ks.nt:=by
 have nM:ks.V.tmps.getD t .undef=(AS ks.tmps t).pv:=LN h.tm t;have hokt:=h.tm.nN t;unfold Kr G3;rw[nM];cases hg:AS ks.tmps t with
 | arr J k o n=>exact Wz h t J
 | oh J=>exact Wz h t J
 | cv v =>
  rw[hg] at hokt;have hv:Ax v=true:=hokt;simp only[KV.pv];cases v<;>first | (simp[Ax] at hv;done) | exact⟨rfl,h,trivial⟩
 | _=>exact⟨rfl,h,rfl⟩
theorem Wv (h:ks.Ok) (d:Nat):ks.V.mi.getD d []=(A2 ks.mi d).map Ad.ob:=QM h.ob d
theorem YS (h:ks.Ok) (hl:A4 ks.mi J=some (.cells ty cs)) (i k:Nat):(NW J ty cs i k ks).Ok/\(NW J ty cs i k ks).nt=ks.nt/\(NW J ty cs i k ks).V={ks.V with mi:=ks.V.mi.set J.1 ((ks.V.mi.getD J.1 []).set J.2 (.cells ty ((AE cs).set i (.arr (J.1,(ks.V.mi.getD J.1 []).length) k 0 0)))++[.arr k 0 []])}:=by
 have mL:=RI h.ob hl;have oJ:AW cs:=Dv h.ob hl;have sO:AW (cs.set i (.arr (J.1,(A2 ks.mi J.1).length) k 0 0)):=C8.2 fun x O=>by rcases kw O with O | O;{exact C8.1 oJ x O};{subst O;trivial}
 unfold NW;refine⟨⟨h.tm,h.ob.put mL fun o ho=>?_,h.kp⟩,rfl,?_⟩
 ·rcases iH.1 ho with ho | ho
  {rcases kw ho with ho | ho;{exact h.ob.nN ho};{subst ho;exact sO}};{simp only[iU] at ho;subst ho;rfl}
 ·rw[Wv h];unfold Aw.V;simp only
  rw[LO,jE,kf];simp only[iE,jj,Ad.ob,EV,kf,KV.pv,iW]
theorem WA (h:ks.Ok) (J m:Nm) (mL:J.1 < ks.nt):(M7 J m ks).Ok/\(M7 J m ks).nt=ks.nt/\(M7 J m ks).V=(if m.1≠J.1 then
   match Ac ks.V.mi m with
   | some ob =>
    let f:Nm->Nm:=fun x=>if x=m then (J.1,(ks.V.mi.getD J.1 []).length) else x
    let mi:=AR (ks.V.mi.map (·.map (Ob.mz f))) m AP
    {tmps:=AY f ks.V.tmps,mi:=mi.set J.1 (mi.getD J.1 []++[ob.mz f]),mj:=AY f ks.V.mj}
   | none=>ks.V
  else ks.V):=by
 unfold M7;by_cases hm:m.1≠J.1
 ·rw[lu hm,lu hm,G1 h];cases hl:A4 ks.mi m with
  | none=>exact⟨h,rfl,rfl⟩
  | some ob =>
   simp only[iu];have hoo:=Dv h.ob hl;rw[Wv h,iW];generalize hf:(fun x:Nm=>if x=m then (J.1,(A2 ks.mi J.1).length) else x)=f;have hmp:Bm ks.nt (E6 (Ad.mz f) ks.mi):=h.ob.map fun x O=>Ad.nZ f O;have tM:Bm ks.nt (pg (E6 (Ad.mz f) ks.mi) m Fl):=hmp.pg m (o:=Fl) rfl;refine⟨⟨h.tm.map fun x O=>KV.nZ f O,tM.put mL fun o ho=>?_,fun sp ny=>?_⟩,by trivial,?_⟩;{rcases iH.1 ho with ho | ho;{exact tM.nN ho};{simp only[iU] at ho;subst ho;exact Ad.nZ f hoo}};{obtain⟨q,hq,rfl⟩:=ii.1 ny;exact (h.kp q hq).map fun x O=>KV.nZ f O}
   ·have oN:Co ks.nt (pg (E6 (Ad.mz f) ks.mi) m Fl)=AR (ks.V.mi.map (·.map (Ob.mz f))) m AP:=by rw[OK hmp,Q2 h.ob fun o ho=>Ad.qd f ho];rfl
    rw[<-oN,QM tM];unfold Aw.V;simp only
    rw[Ro h.tm,LO,RN (g:=AY f) rfl (WQ f) fun sp ny=>Ro (h.kp sp ny) f];have pf:=Ad.qd f hoo;simp only[jE,iE,jj,pf]
 {rw[lr hm,lr hm];exact⟨h,rfl,rfl⟩}
variable{R:Type}
theorem dE {r:R} (h:ks.Ok) (hl:A4 ks.mi J=some (.cells ty cs)) {K:Aw->Option R} (hr:Us J ty cs i k ks K=some r):∃ k',K k'=some r/\k'.Ok/\k'.nt=ks.nt/\k'.V=Nn J ty (AE cs) i k ks.V:=by
 have mL:=RI h.ob hl;have oJ:AW cs:=Dv h.ob hl;unfold Us at hr;unfold Nn;simp only[pD];cases hc:cs[i]? with
 | none=>rw[hc] at hr;exact⟨_,hr,h,rfl,rfl⟩
 | some x =>
  rw[hc] at hr;cases x with
  | nz =>
   obtain⟨a,b,c⟩:=YS h hl i k;exact⟨_,hr,a,b,c⟩
  | arr m _ _ _ =>
   obtain⟨a,b,c⟩:=WA h J m mL;exact⟨_,hr,a,b,c⟩
  | oh m =>
   obtain⟨a,b,c⟩:=WA h J m mL;exact⟨_,hr,a,b,c⟩
  | cv v =>
   have hv:Ax v=true:=C8.1 oJ _ (iz hc);simp only[iu,KV.pv];unfold nilO at hr;obtain⟨a,b,c⟩:=YS h hl i k;cases v<;>first | (simp[Ax] at hv;done) | exact⟨_,hr,a,b,c⟩ | (cases hr;done)
  | _=>exact⟨_,hr,h,rfl,rfl⟩
theorem wZ {r:R} (h:ks.Ok) {x off:Nat} {K:Aw->Option R} (hr:V0 x off k ks K=some r):∃ k',K k'=some r/\k'.Ok/\k'.nt=ks.nt/\k'.V=Oq x off k ks.V:=by
 have nM:ks.V.tmps.getD x .undef=(AS ks.tmps x).pv:=LN h.tm x;have hokt:=h.tm.nN x;unfold V0 at hr;unfold Oq;rw[nM];cases hg:AS ks.tmps x with
 | ref J o =>
  rw[hg] at hr;simp only[KV.pv] at hr |-;rw[G1 h];cases hl:A4 ks.mi J with
  | none=>rw[hl] at hr;exact⟨_,hr,h,rfl,rfl⟩
  | some ob =>
   rw[hl] at hr;cases ob with
   | cells ty cs=>exact dE h hl hr
   | whole ty v =>
    have hv:Ax v=true:=Dv h.ob hl;have hvl:AB (FP v)=true:=Df hv;simp only[iu,Ad.ob] at hr |-;unfold AC at hr;cases hn:UX v (o+off) with
    | false=>rw[hn] at hr;cases hr
    | true =>
     rw[hn] at hr;refine⟨_,hr,h,rfl,?_⟩;unfold UX at hn;unfold Nn;show ks.V=match (FP v)[o+off]? with | some .mu=>_ | some (.arr m _ _ _)=>_ | _=>_
     have e:FP v=v.cells:=rfl;rw[e] at hvl |-;cases hc:v.cells[o+off]? with
     | none=>rfl
     | some y =>
      rw[hc] at hn;have hy:=Io hvl hc;cases y<;>first | (simp at hn;done) | (simp[Ax] at hy;done) | rfl
   | _=>exact⟨_,hr,h,rfl,rfl⟩
 | cv v =>
  rw[hg] at hr hokt;have hv:Ax v=true:=hokt;simp only[KV.pv];cases v<;>first | (simp[Ax] at hv;done) | exact⟨_,hr,h,rfl,rfl⟩
 | _=>rw[hg] at hr;exact⟨_,hr,h,rfl,rfl⟩
theorem zbc {r:R} (h:ks.Ok) {t:Nat} {K:Aw->Option R} (hr:V1 t k ks K=some r):∃ k',K k'=some r/\k'.Ok/\k'.nt=ks.nt/\k'.V=GO t k ks.V:=by
 have nM:ks.V.tmps.getD t .undef=(AS ks.tmps t).pv:=LN h.tm t;unfold V1 at hr;unfold GO;by_cases hb:Fh<=t;{rw[lu hb] at hr |-;exact wZ h hr};rw[lr hb] at hr |-;rw[nM];cases hg:AS ks.tmps t with
 | nz =>
  rw[hg] at hr;simp only[KV.pv];rw[YT h];by_cases hc:KL ks t=true
  ·rw[lu hc] at hr;rw[lu hc];have ht:=YU hc;refine⟨_,hr,⟨h.tm.put ht trivial rfl,h.ob.put ht fun o ho=>?_,h.kp⟩,rfl,?_⟩;{simp only[iU] at ho;subst ho;rfl}
   ·unfold Aw.V;simp only
    rw[Rp,LO];rfl
  {rw[lr hc] at hr;rw[lr hc];exact⟨_,hr,h,rfl,rfl⟩}
 | cv v =>
  rw[hg] at hr;simp only at hr;unfold notNil at hr;simp only[KV.pv];cases v<;>first | exact⟨_,hr,h,rfl,rfl⟩ | cases hr
 | _=>rw[hg] at hr;exact⟨_,hr,h,rfl,rfl⟩
theorem w5 {r:R}:∀ (l:List (Nat×Nat)) {ks:Aw} {K:Aw->Option R},ks.Ok->SB l ks K=some r->∃ k',K k'=some r/\k'.Ok/\k'.nt=ks.nt/\k'.V=l.foldl (fun V (p:Nat×Nat)=>GO p.1 p.2 V) ks.V:=by
 intro l;induction l with
 | nil=>intro ks K h hr;exact⟨ks,hr,h,rfl,rfl⟩
 | cons p l ih =>
  obtain⟨t,k⟩:=p;intro ks K h hr;simp only[SB] at hr;obtain⟨k1,hr,U,n1,s1⟩:=zbc h hr;obtain⟨k2,hr,H,n2,s2⟩:=ih U hr;exact⟨k2,hr,H,n2.trans n1,by rw[s2,s1];rfl⟩
theorem ez:∀ (l:lU) {ks:Aw},ks.Ok->(l.foldl (fun ks t=>Kr t ks) ks).Ok/\(l.foldl (fun ks t=>Kr t ks) ks).nt=ks.nt/\(l.foldl (fun ks t=>Kr t ks) ks).V=l.foldl (fun V t=>G3 t V) ks.V:=by
 intro l;induction l with
 | nil=>intro ks h;exact⟨h,rfl,rfl⟩
 | cons t l ih =>
  intro ks h;simp only[jy];obtain⟨a,b,c⟩:=fW h t;obtain⟨d,e,f⟩:=ih b;exact⟨d,e.trans c,by rw[f,a]⟩
theorem dw (V:St):GG (mQ V) V=V:=by
 obtain⟨t,o,k⟩:=V;unfold GG;congr 1;apply jc;intro i;rw[iC,jD];cases hg:t[i]? with
 | none=>rfl
 | some v =>
  simp only[iu,iO,il];split;{rename_i hc;rw[jl] at hc;unfold mQ at hc;simp only[ii,ju] at hc;obtain⟨⟨u,j⟩,⟨hm,hu⟩,he⟩:=hc;rw[iY] at hm;simp only at he hm hu;subst he;rw[hg] at hm;cases hm;cases v<;>simp_all [B2]};{rfl}
theorem U4 {r:R} (h:ks.Ok) {K:Aw->Option R} (hr:Qn mT grow ks K=some r):∃ k',K k'=some r/\k'.Ok/\k'.nt=ks.nt/\k'.V=norm mT grow ks.V:=by
 unfold Qn at hr;obtain⟨a,b,c⟩:=ez mT h;obtain⟨k',hr,U,n1,s1⟩:=w5 grow a hr;obtain⟨d1,d2,d3⟩:=M8 U (Jo k');refine⟨_,hr,d2,d3.trans (n1.trans b),?_⟩;have e:k'.V=JR mT grow ks.V:=by rw[s1,c];rfl
 unfold norm drop;rw[d1,<-e,dw];exact TO (fun d=>(Tw U d).symm) _
theorem UA:∀ {nt:Nat} (ps Z:Sp),JW ps Z=true->Bu nt ps->Bu nt Z->∀ (A:lS) (i:Nat),CX A i (GX ps Z) ->
  (∀ j,(AS (E5 ps A i).1 j).pv=(AS Z j).pv)/\Bu nt (E5 ps A i).1/\(E5 ps A i).1.map (·.1)=ps.map (·.1)/\(E5 ps A i).2=i+(GX ps Z).length
 | nt,[],[],_,_,_,A,i,_=>⟨fun _=>rfl,.nil nt,rfl,rfl⟩
 | _,[],_ :: _,h,_,_,_,_,_=>by simp[JW] at h
 | _,_ :: _,[],h,_,_,_,_,_=>by simp[JW] at h
 | nt,(j1,p) :: ps,(j2,x) :: Z,h,hp,O,A,i,hs=>by
  simp only[JW,ie] at h;simp only[GX] at hs;have hj:=i7 h.1;subst hj;obtain⟨a,b,c⟩:=Vx p x h.2.1 (O.ok (j1,x) (by simp)) A i hs.left;obtain⟨a',b',k',c'⟩:=UA ps Z h.2.2 hp.tail O.tail A (fill p A i).2 (by rw[c];exact hs.right);refine⟨?_,⟨?_,?_,?_,?_⟩,by simp[E5,k'],?_⟩
  ·intro j;simp only[E5,AS];cases Nat.beq j j1 with
   | true=>exact a
   | false=>exact a' j
  {simp only[E5,iE];rw[k'];exact hp.sv};{intro q hq;simp only[E5,im] at hq;rcases hq with rfl | hq;{exact hp.lt (j1,p) (by simp)};{exact b'.lt q hq}};{intro q hq;simp only[E5,im] at hq;rcases hq with rfl | hq;{exact b};{exact b'.ok q hq}};{intro q hq;simp only[E5,im] at hq;rcases hq with rfl | hq;{exact aF (hp.nu (j1,p) (by simp))};{exact b'.nu q hq}};{simp only[E5,GX,iQ];rw[c',c];omega}
theorem Y5:∀ {nt:Nat} (ps Z:AV),Le ps Z=true->Bm nt ps->Bm nt Z->∀ (A:lS) (i:Nat),CX A i (Ni ps Z) ->
  (∀ j,(A2 (GJ ps A i).1 j).map Ad.ob=(A2 Z j).map Ad.ob)/\Bm nt (GJ ps A i).1/\(GJ ps A i).1.map (·.1)=ps.map (·.1)/\(GJ ps A i).2=i+(Ni ps Z).length
 | nt,[],[],_,_,_,A,i,_=>⟨fun _=>rfl,.nil nt,rfl,rfl⟩
 | _,[],_ :: _,h,_,_,_,_,_=>by simp[Le] at h
 | _,_ :: _,[],h,_,_,_,_,_=>by simp[Le] at h
 | nt,(j1,p) :: ps,(j2,x) :: Z,h,hp,O,A,i,hs=>by
  simp only[Le,ie] at h;simp only[Ni] at hs;have hj:=i7 h.1;subst hj;obtain⟨a,b,c⟩:=T2 p x h.2.1 (O.ok (j1,x) (by simp)) A i hs.left;obtain⟨a',b',k',c'⟩:=Y5 ps Z h.2.2 hp.tail O.tail A (CE p A i).2 (by rw[c];exact hs.right);refine⟨?_,⟨?_,?_,?_⟩,by simp[GJ,k'],?_⟩
  ·intro j;simp only[GJ,A2];cases Nat.beq j j1 with
   | true=>exact a
   | false=>exact a' j
  {simp only[GJ,iE];rw[k'];exact hp.sv};{intro q hq;simp only[GJ,im] at hq;rcases hq with rfl | hq;{exact hp.lt (j1,p) (by simp)};{exact b'.lt q hq}};{intro q hq;simp only[GJ,im] at hq;rcases hq with rfl | hq;{exact b};{exact b'.ok q hq}};{simp only[GJ,Ni,iQ];rw[c',c];omega}
theorem Y6:∀ {nt:Nat} (ps Z:mg),Lg ps Z=true->(∀ p∈ps,Bu nt p)->(∀ x∈Z,Bu nt x)->∀ (A:lS) (i:Nat),CX A i (RF ps Z) ->
  (Mm ps A i).1.flatMap (Bi nt)=Z.flatMap (Bi nt)/\(∀ p∈(Mm ps A i).1,Bu nt p)
 | nt,[],[],_,_,_,A,i,_=>⟨rfl,by simp[Mm]⟩
 | _,[],_ :: _,h,_,_,_,_,_=>by simp[Lg] at h
 | _,_ :: _,[],h,_,_,_,_,_=>by simp[Lg] at h
 | nt,p :: ps,x :: Z,h,hp,O,A,i,hs=>by
  simp only[Lg,ie] at h;simp only[RF] at hs;obtain⟨a,b,_,c⟩:=UA p x h.1 (hp p (by simp)) (O x (by simp)) A i hs.left;obtain⟨a',b'⟩:=Y6 ps Z h.2 (fun q hq=>hp q (by simp[hq])) (fun q hq=>O q (by simp[hq])) A (E5 p A i).2 (by rw[c];exact hs.right);refine⟨?_,?_⟩;{simp only[Mm,jJ,a'];congr 1;unfold Bi;exact iV fun j _=>a j};{intro q hq;simp only[Mm,im] at hq;rcases hq with rfl | hq;{exact b};{exact b' q hq}}
theorem UF {β:Type}:∀ {l:List Bool} {a:Option β} {r:β},chks l a=some r->l.all id=true/\a=some r
 | [],_,_,h=>⟨rfl,h⟩
 | b :: l,a,r,h=>by
  obtain⟨U,H⟩:=Bd h;obtain⟨h3,h4⟩:=UF H;exact⟨by simp[U,h3],h4⟩
mutual
theorem U7:∀ {p x:KV},D5 p x=true->(HP p x).all id=true->A8 p x=true
 | .un,x,h,_=>by simpa[D5,A8] using h
 | .sk,x,h,_=>by simpa[D5,A8] using h
 | .mF _,x,h,_=>by simpa[D5,A8] using h
 | .ref _ _,x,h,_=>by simpa[D5,A8] using h
 | .my _ _ _ _,x,h,_=>by simpa[D5,A8] using h
 | .mp _,x,h,_=>by simpa[D5,A8] using h
 | .it _,x,h,_=>by simpa[D5,A8] using h
 | .oh _,x,h,_=>by simpa[D5,A8] using h
 | .lit _,x,h,_=>by simpa[D5,A8] using h
 | .nz,x,h,_=>by simpa[D5,A8] using h
 | .cv _,x,h,_=>by simpa[D5,A8] using h
 | .arr J k o n,x,h,ho=>by
  cases x<;>simp only[D5,iq] at h;simp only[HP,jp,List.all_nil,Bool.and_true,id,zaI] at ho;simp only[A8,h,ho,iZ]
 | .fn f cap,x,h,ho=>by
  cases x<;>simp only[D5,iq,ie] at h;simp only[A8,h.1,Pi h.2 ho,iZ]
 | .mn Z,x,h,ho=>by
  cases x<;>simp only[D5,iq] at h;exact Pi h ho
 | .agg cs,x,h,ho=>by
  unfold D5 at h;unfold A8;split;{rename_i hc;rw[lu hc] at h;exact h};{rename_i hc;rw[lr hc] at h;cases x<;>simp only[iq] at h;exact Pi h ho}
 | .iface t y,x,h,ho=>by
  unfold D5 at h;unfold A8;split;{rename_i hc;rw[lu hc] at h;exact h};{rename_i hc;rw[lr hc] at h;cases x<;>simp only[iq,ie] at h;simp only[h.1,U7 h.2 ho,iZ]}
theorem Pi:∀ {p x:lX},JX p x=true->(JQ p x).all id=true->Dq p x=true
 | [],x,h,_=>by cases x<;>simpa[JX,Dq] using h
 | p :: ps,[],h,_=>by simp[JX] at h
 | p :: ps,x :: Z,h,ho=>by
  simp only[JX,ie] at h;simp only[JQ,jn,ie] at ho;simp only[Dq,U7 h.1 ho.1,Pi h.2 ho.2,iZ]
end
mutual
theorem TX:∀ (x:KV),(HP x x).all id=true
 | .un | .sk | .mF _ | .ref _ _ | .my _ _ _ _ | .mp _ | .it _ | .oh _ | .lit _ | .nz | .cv _=>rfl
 | .arr J k o n=>by simp[HP,zaI]
 | .fn f cap=>by simp only[HP];exact OP cap
 | .mn Z=>by simp only[HP];exact OP Z
 | .agg cs=>by simp only[HP];exact OP cs
 | .iface t y=>by simp only[HP];exact TX y
theorem OP:∀ (x:lX),(JQ x x).all id=true
 | []=>rfl
 | x :: Z=>by simp only[JQ,jn,TX x,OP Z,iZ]
end
theorem w6 {p x:Ad} (h:Wc p x=true) (ho:(VS p x).all id=true):C5 p x=true:=by
 cases p with
 | cells ty cs =>
  cases x<;>simp only[Wc,iq,ie] at h;simp only[C5,h.1,Pi h.2 ho,iZ]
 | whole ty v=>exact h
 | arr k t Z=>exact h
 | map es=>exact h
 | mD s p=>exact h
theorem ej (x:Ad):(VS x x).all id=true:=by cases x<;>first | exact OP _ | rfl
theorem XQ:∀ {p x:lZ},NA p x=true->(Nu p x).all id=true->Eh p x=true
 | [],[],_,_=>rfl
 | [],_ :: _,h,_=>by simp[NA] at h
 | _ :: _,[],h,_=>by simp[NA] at h
 | p :: ps,x :: Z,h,ho=>by
  simp only[NA,ie] at h;simp only[Nu,jn,ie] at ho;simp only[Eh,w6 h.1 ho.1,XQ h.2 ho.2,iZ]
theorem Ww:∀ (x:lZ),(Nu x x).all id=true
 | []=>rfl
 | x :: Z=>by simp only[Nu,jn,ej x,Ww Z,iZ]
theorem Uz:∀ {p x:Sp},Ml p x=true->(Md p x).all id=true->JW p x=true
 | [],[],_,_=>rfl
 | [],_ :: _,h,_=>by simp[Ml] at h
 | _ :: _,[],h,_=>by simp[Ml] at h
 |(i,p) :: ps,(j,x) :: Z,h,ho=>by
  simp only[Ml,ie] at h;simp only[Md,jn,ie] at ho;simp only[JW,h.1,U7 h.2.1 ho.1,Uz h.2.2 ho.2,iZ]
theorem TI:∀ (x:Sp),(Md x x).all id=true
 | []=>rfl
 |(_,x) :: Z=>by simp only[Md,jn,TX x,TI Z,iZ]
theorem Y0:∀ {p x:AV},N1 p x=true->(NN p x).all id=true->Le p x=true
 | [],[],_,_=>rfl
 | [],_ :: _,h,_=>by simp[N1] at h
 | _ :: _,[],h,_=>by simp[N1] at h
 |(i,p) :: ps,(j,x) :: Z,h,ho=>by
  simp only[N1,ie] at h;simp only[NN,jn,ie] at ho;simp only[Le,h.1,XQ h.2.1 ho.1,Y0 h.2.2 ho.2,iZ]
theorem WR:∀ (x:AV),(NN x x).all id=true
 | []=>rfl
 |(_,x) :: Z=>by simp only[NN,jn,Ww x,WR Z,iZ]
theorem Y1:∀ {p x:mg},N2 p x=true->(NO p x).all id=true->Lg p x=true
 | [],[],_,_=>rfl
 | [],_ :: _,h,_=>by simp[N2] at h
 | _ :: _,[],h,_=>by simp[N2] at h
 | p :: ps,x :: Z,h,ho=>by
  simp only[N2,ie] at h;simp only[NO,jn,ie] at ho;simp only[Lg,Uz h.1 ho.1,Y1 h.2 ho.2,iZ]
theorem WS:∀ (x:mg),(NO x x).all id=true
 | []=>rfl
 | x :: Z=>by simp only[NO,jn,TI x,WS Z,iZ]
theorem Uy (h:Mk p x=true) (ho:(PN p x).all id=true):Ou p x=true:=by unfold Mk at h;unfold PN at ho;simp only[ie] at h;simp only[jn,ie] at ho;unfold Ou;simp only[h.1,Uz h.2.1 ho.1,Y0 h.2.2.1 ho.2.1,Y1 h.2.2.2 ho.2.2,iZ]
theorem WZ (h:Mk x x=true):Ou x x=true :=
 Uy h (by unfold PN;simp only[jn,TI,WR,WS,iZ])
theorem Rk (h:Ou p x=true) (hp:p.Ok) (O:x.Ok):(Cn p (ET p x)).V=x.V/\(Cn p (ET p x)).Ok/\(Cn p (ET p x)).nt=p.nt/\p.nt=x.nt:=by
 unfold Ou at h;simp only[ie] at h;obtain⟨h0,U,H,h3⟩:=h;have qU:=i7 h0;have hs:=CX.all (ET p x);unfold ET at hs;have sd:Bu p.nt x.tmps:=qU ▸ O.tm;have hx2:Bm p.nt x.mi:=qU ▸ O.ob;have hx3:∀ sp∈x.mj,Bu p.nt sp:=qU ▸ O.kp;obtain⟨a1,b1,_,c1⟩:=UA p.tmps x.tmps U hp.tm sd _ 0 hs.left.left;have pJ:=hs.left.right;obtain⟨a2,b2,_,c2⟩:=Y5 p.mi x.mi H hp.ob hx2 (ET p x) (E5 p.tmps (ET p x) 0).2 (by unfold ET;rw[c1];exact pJ);have zZ:=hs.right
 obtain⟨a3,b3⟩:=Y6 p.mj x.mj h3 hp.kp hx3 (ET p x) (GJ p.mi (ET p x) (E5 p.tmps (ET p x) 0).2).2 (by
  unfold ET at c2 |-;rw[c2,c1];simp only[iQ] at zZ;rw[iO] at zZ |-;exact zZ)
 refine⟨?_,⟨b1,b2,b3⟩,rfl,qU⟩;unfold Aw.V Cn;simp only
 rw[<-qU,a3];congr 1;{unfold Bi;exact iV fun j _=>a1 j};{unfold Co;exact iV fun j _=>a2 j}
end Go.Ab

