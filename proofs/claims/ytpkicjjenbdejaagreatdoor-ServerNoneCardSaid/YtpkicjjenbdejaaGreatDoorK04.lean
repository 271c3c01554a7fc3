/- Part 4 of a proof: laws of a machine. -/
import Derived.Test.YtpkicjjenbdejaaGreatDoorK03
import Derived.Test.YtpkicjjenbdejaaGreatDoorK02
import Derived.Test.YtpkicjjenbdejaaGreatDoorK01
set_option linter.all false

namespace Go.Ab
variable{E R α β ρ σ:Type} {a:α} {f:Nat->Option α} {r:ρ} {s:σ} {step:σ->Option (Sum σ ρ)}
def AF (x:Option α) (f:α->Option β):Option β :=
 match x with
 | some a=>f a
 | none=>none
def Dx (v:PV) (a b:Option β):Option β :=
 match v with
 | .bool true=>a
 | .bool false=>b
 | _=>none
def HH (v:Bool) (a b:Option β):Option β :=
 match v with
 | true=>a
 | false=>b
def AJ (v:Bool) (a:Option β):Option β :=
 match v with
 | true=>a
 | false=>none
mutual
def As:PV->Bool
 | .undef | .bool _ | .int _ _ | .str _ | .fF | .gh | .gH | .fR | .gF | .gw _ _=>true
 | .sl _ Z _=>Az Z | .ptr cs _=>Az cs | .agg cs=>Az cs | .iface _ x=>As x | .fn _ cap=>Az cap | .fM Z=>Az Z | .gz es=>Az es
 | .fT _ | .ref _ _ | .fO _ _ _ _ | .arr _ _ _ _ | .mp _ | .it _=>false
def Az:fa->Bool
 | []=>true
 | x :: Z=>As x&&Az Z
end
def AD (op:Ak):ft :=
 match exec 0 (fun _=>none) [] op with
 | some out=>some out.v
 | none=>none
def ptrO (cs:fa) (o:Nat):PV:=if o < cs.length then .ptr cs o else .undef
def vf (k k':Nat) (Z:fa) (i o:Nat):PV:=if k=k' then (match Z[i]? with | some x=>if o < x.cells.length then .ptr x.cells o else .undef | none=>.undef) else .undef
def slO (k k':Nat) (Z:fa) (o n:Nat):PV:=if k=k'/\o+n<=Z.length then .sl k ((Z.drop o).take n) false else .undef
def BF (v:PV) (i:Nat):PV:=v.cells.getD i .undef
def HX (v:PV) (n:Nat):Bool:=v.isVal&&v.cells.length==n
def vg (v:PV) (o n:Nat) (ag:Bool):ft:=B1 v.cells o n ag
def elemO (Z:fa) (i o n:Nat) (ag:Bool):ft :=
 match Z[i]? with
 | some e=>B1 e.cells o n ag
 | none=>none
def setO (k:Nat) (Z:fa) (i o n:Nat) (v:PV):Option fa :=
 match Z[i]? with
 | some (.agg es)=>AJ (v.isVal&&decide (v.cells.length=n)&&decide (o+n<=es.length)) (some (Z.set i (.agg (gE es o v.cells))))
 | some _=>AJ (k==1&&o==0&&n==1&&v.nh) (some (Z.set i v))
 | none=>none
def natO (v:PV):fb:=EA v
def Gk (x:ft) (d top:Nat):fb:=Df x d top
def Kd (k:Nat) (v:PV):Option fa:=C0 (fun _=>none) k v
def appO (k:Nat) (v:PV) (ys:fa):Option fa :=
 match v with
 | .fF=>AJ (decide (ys.length<=Et)) (some ys)
 | .sl k' Z true=>match ys with
  | []=>none
  | y :: ys=>AJ (k==k'&&decide (Z.length+(ys.length+1)<=Et)) (some (Z++y :: ys))
 | _=>none
def insO (c:TC) (es:fa) (k v:PV):Option fa :=
 match D1 k v es with
 | some jS=>AJ (FK c k&&v.isVal) (some jS)
 | none=>none
def lookO (c:TC) (z:PV) (ok:Bool) (es:fa) (k:PV):ft :=
 match Gp k es with
 | none=>none
 | some r=>AJ (FK c k) (some (if ok then .fM [r.getD z,.bool r.isSome] else r.getD z))
def vh (l c:PV):fb :=
 match EA l,EA c with
 | some l,some c=>AJ (decide (l<=c)&&decide (c<=Et)) (some l)
 | _,_=>none
def strO (v:PV):Option fp :=
 match v with
 | .str s=>some s
 | _=>none
def vi (s:fp) (pos:Nat):PV:=.int .i32 (Utf8.decode ⟨s.toArray⟩ pos).1
def vj (s:fp) (pos:Nat):Nat:=(Utf8.decode ⟨s.toArray⟩ pos).2
def asP (e:eY) (v:PV) (f:PV->Option β) (g:Option β):Option β :=
 match v with
 | .fR=>g
 | .iface t x=>if t=e then f x else none
 | _=>none
def notNil (v:PV) (a:Option β):Option β :=
 match v with
 | .fF=>none
 | _=>a
def vk (v:PV) (a:Option β):Option β :=
 match v with
 | .fF=>a
 | _=>none
def nilB (v:PV) (a b:Option β):Option β :=
 match v with
 | .fF=>a
 | _=>b
def S3 (v:PV) (i:Nat):Bool :=
 match v.cells[i]? with
 | some .fF=>false
 | _=>true
def AL (A:fa) (i:Nat):PV:=A.getD i .undef
def Ej (v:PV):Nat :=
 match v with
 | .int _ n=>n.toNat
 | _=>0
def Ee (v:PV):fa :=
 match v with
 | .sl _ Z _=>Z
 | _=>[]
def Kk (v:PV):fa :=
 match v with
 | .gz es=>es
 | _=>[]
def strP (v:PV):fp :=
 match v with
 | .str s=>s
 | _=>[]
def G8 (v:PV) (i:Nat):PV :=
 match v with
 | .fM Z=>Z.getD i .undef
 | .agg Z=>Z.getD i .undef
 | _=>.undef
def By (a b:Nat):Nat:=a+b
def Is (a b:Nat):Nat:=a - b
def minN (a b:Nat):Nat:=min a b
def Fs (a b:Nat):Bool:=Nat.ble a b
def ltN (a b:Nat):Bool:=Nat.blt a b
def sN (a b:Nat):Bool:=Nat.beq a b
def vl (a b:Nat):Bool:=Nat.beq a b
def vm (a:Nat):Nat:=a / 2
def JD (a b:Bool):Bool:=a&&b
def nI (n:Nat):PV:=.int .i64 (n:Int)
def Bd (l:fa):Nat:=l.length
def BE (n:Nat) (l:fa):fa:=l.take n
def EB (n:Nat) (l:fa):fa:=l.drop n
def Dh (l l':fa):fa:=l++l'
def ER (n:Nat) (v:PV):fa:=List.replicate n v
def lenS (s:fp):Nat:=s.length
def EQ (v:PV):fa:=v.cells
def vo (l:fa) (n:Nat):Bool:=l.length==n&&Az l
def NS (k:Nat) (l:fa):Bool:=l.all fun x=>x.isVal&&x.cells.length==k
def okSto (u w:PV) (o n:Nat):Bool:=u.isVal&&decide (u.cells.length=n)&&decide (o+n<=w.cells.length)
def vp (u w:PV) (o:Nat):PV:=.agg (gE w.cells o u.cells)
def isNoneE (p:Option Ex):Bool :=
 match p with
 | none=>true
 | _=>false
def vq (p:Option Ex):Bool :=
 match p with
 | some .ret=>true
 | _=>false
def Yq (p:Option Ex) (id:Nat):Bool :=
 match p with
 | some (.exit jH)=>Nat.beq jH id
 | _=>false
def valO (v:PV):Bool:=v.isVal
def okU (v:PV):Bool:=As v
def K3 (A:fa):Bool:=A.all fun v=>!B3 v
def noYL (A:fa):Bool:=!A2 A
open Classical in
noncomputable def lim (f:Nat->Option α):Option α:=if h:∃ a,AS fun n=>f n=some a then some h.choose else none
theorem MU (h:lim f=some a):AS fun n=>f n=some a:=by unfold lim at h;split at h;{rename_i H;have:=H.choose_spec;cases h;exact this};{cases h}
theorem AS.unique {b:α} (h:AS fun n=>f n=some a) (h':AS fun n=>f n=some b):a=b:=by obtain⟨m,hm⟩:=h.and h';have:=hm m (bD _);exact bw (this.1.symm.trans this.2)
theorem TS (h:AS fun n=>f n=some a):lim f=some a:=by unfold lim;have H:∃ a,AS fun n=>f n=some a:=⟨a,h⟩;rw[dif_pos H];exact eM some (AS.unique H.choose_spec h)
def vr {σ ρ:Type} (step:σ->Option (Sum σ ρ)):Nat->σ->Option ρ
 | 0,_=>none
 | n+1,s=>J2 (vr step n) some (step s)
noncomputable def vt (step:σ->Option (Sum σ ρ)) (s:σ):Option ρ:=lim fun n=>vr step n s
theorem aJ (h:vt step s=some r):∃ n,vr step n s=some r:=by obtain⟨m,hm⟩:=MU h;exact⟨m,hm m (bD _)⟩
inductive KV where
 | un | sk
 | lit (b:Bool)
 | gU
 | cv (v:PV)
 | fT (d:Nat)
 | ref (J:Nm) (o:Nat)
 | fO (J:Nm) (k i o:Nat)
 | arr (J:Nm) (k o n:Nat)
 | mp (J:Nm)
 | it (J:Nm)
 | iF (J:Nm)
 | agg (cs:List KV)
 | iface (t:eY) (x:KV)
 | fn (f:eU) (cap:List KV)
 | fM (Z:List KV)
 deriving Inhabited
abbrev ff:=List KV
mutual
def KV.pv:KV->PV
 | .un=>.undef | .sk=>.fM [] | .lit b=>.bool b | .gU=>.fF | .cv v=>v | .fT d=>.fT d
 | .ref J o=>.ref J o | .fO J k i o=>.fO J k i o | .arr J k o n=>.arr J k o n | .mp J=>.mp J | .it J=>.it J | .iF J=>.arr J 1 0 0
 | .agg cs=>.agg (Aw cs) | .iface t x=>.iface t x.pv | .fn f cap=>.fn f (Aw cap) | .fM Z=>.fM (Aw Z)
def Aw:ff->fa
 | []=>[]
 | x :: Z=>x.pv :: Aw Z
end
mutual
def KV.names:KV->fh
 | .un | .sk | .lit _ | .gU | .cv _ | .fT _=>[]
 | .ref J _=>[J] | .fO J _ _ _=>[J] | .arr J _ _ _=>[J] | .mp J=>[J] | .it J=>[J] | .iF J=>[J]
 | .agg cs=>Cu cs | .iface _ x=>x.names | .fn _ cap=>Cu cap | .fM Z=>Cu Z
def Cu:ff->fh
 | []=>[]
 | x :: Z=>x.names++Cu Z
end
mutual
def KV.gq:KV->Bool
 | .fT _=>true
 | .agg cs=>Ed cs | .iface _ x=>x.gq | .fn _ cap=>Ed cap | .fM Z=>Ed Z
 | .un | .sk | .lit _ | .gU | .cv _ | .ref _ _ | .fO _ _ _ _ | .arr _ _ _ _ | .mp _ | .it _ | .iF _=>false
def Ed:ff->Bool
 | []=>false
 | x :: Z=>x.gq||Ed Z
end
mutual
def KV.cl:KV->ft
 | .lit b=>some (.bool b) | .gU=>some .fF | .cv v=>some v
 | .agg cs=>(CT cs).map .agg | .iface t x=>x.cl.map (.iface t) | .fn f cap=>(CT cap).map (.fn f)
 | .un | .sk | .fT _ | .ref _ _ | .fO _ _ _ _ | .arr _ _ _ _ | .mp _ | .it _ | .iF _ | .fM _=>none
def CT:ff->Option fa
 | []=>some []
 | x :: Z=>match x.cl,CT Z with
  | some v,some A=>some (v :: A)
  | _,_=>none
end
mutual
def KV.off (p:Nm->Bool):KV->KV
 | .ref J o=>if p J then .un else .ref J o
 | .fO J k i o=>if p J then .un else .fO J k i o
 | .arr J k o n=>if p J then .un else .arr J k o n
 | .mp J=>if p J then .un else .mp J
 | .it J=>if p J then .un else .it J
 | .iF J=>if p J then .un else .iF J
 | .agg cs=>.agg (Jx p cs) | .iface t x=>.iface t (x.off p) | .fn f cap=>.fn f (Jx p cap) | .fM Z=>.fM (Jx p Z)
 | .un=>.un | .sk=>.sk | .lit b=>.lit b | .gU=>.gU | .cv v=>.cv v | .fT d=>.fT d
def Jx (p:Nm->Bool):ff->ff
 | []=>[]
 | x :: Z=>x.off p :: Jx p Z
end
mutual
def KV.fQ (f:Nm->Nm):KV->KV
 | .ref J o=>.ref (f J) o | .fO J k i o=>.fO (f J) k i o | .arr J k o n=>.arr (f J) k o n | .mp J=>.mp (f J) | .it J=>.it (f J) | .iF J=>.iF (f J)
 | .agg cs=>.agg (DY f cs) | .iface t x=>.iface t (x.fQ f) | .fn g cap=>.fn g (DY f cap) | .fM Z=>.fM (DY f Z)
 | .un=>.un | .sk=>.sk | .lit b=>.lit b | .gU=>.gU | .cv v=>.cv v | .fT d=>.fT d
def DY (f:Nm->Nm):ff->ff
 | []=>[]
 | x :: Z=>x.fQ f :: DY f Z
end
inductive Ac where
 | cells (ty:Nat) (cs:ff)
 | whole (ty:Nat) (v:PV)
 | arr (k ty:Nat) (Z:fa)
 | map (es:fa)
 | fW (s:fp) (pos:Nat)
 deriving Inhabited
abbrev fw:=Option Ac
abbrev fi:=List Ac
def Ac.ob:Ac->Ob
 | .cells ty cs=>.cells ty (Aw cs)
 | .whole ty v=>.cells ty (EQ v)
 | .arr k kt Z=>.arr k kt Z
 | .map es=>.map es
 | .fW s pos=>.fW s pos
def Ac.names:Ac->fh
 | .cells _ cs=>Cu cs
 | _=>[]
def Ac.off (p:Nm->Bool):Ac->Ac
 | .cells ty cs=>.cells ty (Jx p cs)
 | o=>o
def Ac.fQ (f:Nm->Nm):Ac->Ac
 | .cells ty cs=>.cells ty (DY f cs)
 | o=>o
abbrev Sp:=List (Nat×KV)
abbrev fy:=List Sp
abbrev AO:=List (Nat×fi)
def AN:Sp->Nat->KV
 | [],_=>.un
 |(j,v) :: l,i=>match Nat.beq i j with
  | true=>v
  | false=>AN l i
def Cn (i:Nat) (v:KV):Sp->Sp
 | []=>[(i,v)]
 |(j,u) :: l=>match Nat.beq i j with
  | true=>(i,v) :: l
  | false=>match Nat.blt i j with
   | true=>(i,v) :: (j,u) :: l
   | false=>(j,u) :: Cn i v l
def Jk (i:Nat):Sp->Sp
 | []=>[]
 |(j,u) :: l=>match Nat.beq i j with
  | true=>Jk i l
  | false=>(j,u) :: Jk i l
def LJ (i:Nat) (v:KV) (l:Sp):Sp :=
 match v with
 | .un=>Jk i l
 | v=>Cn i v l
def CY (f:KV->KV):Sp->Sp
 | []=>[]
 |(j,u) :: l=>match f u with
  | .un=>CY f l
  | u=>(j,u) :: CY f l
def EN (p:Nat->Bool):Sp->Sp
 | []=>[]
 |(j,u) :: l=>match p j with
  | true=>(j,u) :: EN p l
  | false=>EN p l
def Fg:Sp->Nat->Bool
 | [],_=>false
 |(j,_) :: l,i=>match Nat.beq i j with
  | true=>true
  | false=>Fg l i
def Es:Sp->fh
 | []=>[]
 |(_,u) :: l=>u.names++Es l
def AV:AO->Nat->fi
 | [],_=>[]
 |(j,v) :: l,i=>match Nat.beq i j with
  | true=>v
  | false=>AV l i
def DI (i:Nat) (v:fi):AO->AO
 | []=>[(i,v)]
 |(j,u) :: l=>match Nat.beq i j with
  | true=>(i,v) :: l
  | false=>match Nat.blt i j with
   | true=>(i,v) :: (j,u) :: l
   | false=>(j,u) :: DI i v l
def Ei (f:Ac->Ac):AO->AO
 | []=>[]
 |(j,u) :: l=>(j,u.map f) :: Ei f l
def I4 (p:Nat->Bool):AO->AO
 | []=>[]
 |(j,u) :: l=>match p j with
  | true=>(j,u) :: I4 p l
  | false=>I4 p l
def GK:AO->fh
 | []=>[]
 |(_,u) :: l=>u.flatMap Ac.names++GK l
structure Ao where
 nt:Nat
 tmps:Sp
 fA:AO
 fD:fy
 deriving Inhabited
def Bc (nt:Nat) (l:Sp):fa:=(List.range nt).map fun i=>(AN l i).pv
def BW (nt:Nat) (l:AO):List fg:=(List.range nt).map fun i=>(AV l i).map Ac.ob
def Ao.V (ks:Ao):St:={tmps:=Bc ks.nt ks.tmps,fA:=BW ks.nt ks.fA,fD:=ks.fD.flatMap (Bc ks.nt)}
def AZ (σ:AO) (J:Nm):fw:=(AV σ J.1)[J.2]?
def jz (σ:AO) (J:Nm) (o:Ac):AO :=
 match AZ σ J with
 | some _=>DI J.1 ((AV σ J.1).set J.2 o) σ
 | none=>σ
def FB (σ:Nm->fw):Nat->fh->fh
 | 0,l=>l
 | d+1,l=>l++FB σ d (l.flatMap fun J=>((σ J).map Ac.names).getD [])
def Jl (σ:Nm->fw) (R:fh):Bool:=R.all fun J=>(((σ J).map Ac.names).getD []).all fun m=>R.contains m
mutual
def KV.close (g:Nm->fe):KV->PV
 | .ref J o=>match g J with
  | some (.cells _ cs)=>ptrO cs o
  | _=>.undef
 | .fO J k i o=>match g J with
  | some (.arr k' kt Z)=>vf k k' Z i o
  | _=>.undef
 | .arr J k o n=>match g J with
  | some (.arr k' kt Z)=>slO k k' Z o n
  | _=>.undef
 | .mp J=>match g J with
  | some (.map es)=>.gz es
  | _=>.undef
 | .it _=>.undef
 | .iF J=>match g J with
  | some (.arr k' kt Z)=>slO 1 k' Z 0 0
  | _=>.undef
 | .agg cs=>.agg (EP g cs) | .iface t x=>.iface t (x.close g) | .fn f cap=>.fn f (EP g cap) | .fM Z=>.fM (EP g Z)
 | .un=>.undef | .sk=>.fM [] | .lit b=>.bool b | .gU=>.fF | .cv v=>v | .fT d=>.fT d
def EP (g:Nm->fe):ff->fa
 | []=>[]
 | x :: Z=>x.close g :: EP g Z
end
def Ac.close (g:Nm->fe):Ac->Ob
 | .cells ty cs=>.cells ty (EP g cs)
 | o=>o.ob
def Cv (σ:Nm->fw):Nat->Nm->fe
 | 0,J=>(σ J).map (Ac.close fun _=>none)
 | d+1,J=>(σ J).map (Ac.close (Cv σ d))
mutual
def KV.gv (p:Nm->Bool) (g:Nm->fe):KV->KV
 | .ref J o=>if p J then .cv ((KV.ref J o).close g) else .ref J o
 | .fO J k i o=>if p J then .cv ((KV.fO J k i o).close g) else .fO J k i o
 | .arr J k o n=>if p J then .cv ((KV.arr J k o n).close g) else .arr J k o n
 | .mp J=>if p J then .cv ((KV.mp J).close g) else .mp J
 | .it J=>if p J then .un else .it J
 | .iF J=>if p J then .cv ((KV.iF J).close g) else .iF J
 | .agg cs=>.agg (Jz p g cs) | .iface t x=>.iface t (x.gv p g) | .fn f cap=>.fn f (Jz p g cap) | .fM Z=>.fM (Jz p g Z)
 | .un=>.un | .sk=>.sk | .lit b=>.lit b | .gU=>.gU | .cv v=>.cv v | .fT d=>.fT d
def Jz (p:Nm->Bool) (g:Nm->fe):ff->ff
 | []=>[]
 | x :: Z=>x.gv p g :: Jz p g Z
end
def Ac.gv (p:Nm->Bool) (g:Nm->fe):Ac->Ac
 | .cells ty cs=>.cells ty (Jz p g cs)
 | o=>o
def Fh:Ac:=.arr 0 0 []
def Lu (p:Nm->Bool) (ks:Ao):Ao:={ks with tmps:=CY (KV.off p) ks.tmps,fA:=Ei (Ac.off p) ks.fA,fD:=ks.fD.map (CY (KV.off p))}
def Pv (σ:Nm->fw) (R:fh) (ks:Ao):Ao :=
 let p:=fun m=>R.contains m
 let g:=Cv σ Ax
 {ks with tmps:=CY (KV.gv p g) ks.tmps,fA:=R.foldl (fun fA J=>jz fA J Fh) (Ei (Ac.gv p g) ks.fA),fD:=ks.fD.map (CY (KV.gv p g))}
mutual
def Je {R:Type}:KV->(KV->R)->R
 | .un,K=>K .un | .sk,K=>K .sk | .lit b,K=>(match b with | true=>K (.lit true) | false=>K (.lit false)) | .gU,K=>K .gU | .cv v,K=>K (.cv v) | .fT d,K=>K (.fT d)
 | .ref J o,K=>(match J with | (a,b)=>K (.ref (a,b) o)) | .fO J k i o,K=>(match J with | (a,b)=>K (.fO (a,b) k i o)) | .arr J k o n,K=>(match J with | (a,b)=>K (.arr (a,b) k o n))
 | .mp J,K=>(match J with | (a,b)=>K (.mp (a,b))) | .it J,K=>(match J with | (a,b)=>K (.it (a,b))) | .iF J,K=>(match J with | (a,b)=>K (.iF (a,b)))
 | .agg cs,K=>J8 cs fun cs=>K (.agg cs) | .iface t x,K=>Je x fun x=>K (.iface t x) | .fn f cap,K=>J8 cap fun cap=>K (.fn f cap) | .fM Z,K=>J8 Z fun Z=>K (.fM Z)
def J8 {R:Type}:ff->(ff->R)->R
 | [],K=>K []
 | x :: Z,K=>Je x fun x=>J8 Z fun Z=>K (x :: Z)
end
def Ty:Ac->(Ac->R)->R
 | .cells ty cs,K=>J8 cs fun cs=>K (.cells ty cs)
 | .whole ty v,K=>K (.whole ty v) | .arr k kt Z,K=>K (.arr k kt Z) | .map es,K=>K (.map es) | .fW s pos,K=>K (.fW s pos)
def Pi {R:Type}:fi->(fi->R)->R
 | [],K=>K []
 | x :: Z,K=>Ty x fun x=>Pi Z fun Z=>K (x :: Z)
def Nj {R:Type}:Sp->(Sp->R)->R
 | [],K=>K []
 |(j,x) :: Z,K=>Je x fun x=>Nj Z fun Z=>K ((j,x) :: Z)
def Pw {R:Type}:AO->(AO->R)->R
 | [],K=>K []
 |(j,x) :: Z,K=>Pi x fun x=>Pw Z fun Z=>K ((j,x) :: Z)
def Px {R:Type}:fy->(fy->R)->R
 | [],K=>K []
 | x :: Z,K=>Nj x fun x=>Px Z fun Z=>K (x :: Z)
def BX (ks:Ao) (K:Ao->R):R :=
 match ks with
 | ⟨nt,tmps,fA,fD⟩=>Nj tmps fun a=>Pw fA fun b=>Px fD fun c=>K {nt,tmps:=a,fA:=b,fD:=c}
def Hb (v:PV):KV :=
 match v with
 | .bool b=>.lit b
 | .fF=>.gU
 | .fn f []=>.fn f []
 | v=>.cv v
def RX.kv (tm:Sp):RX->KV
 | .t i=>AN tm i
 | .c v=>Hb v
def DN:RX->Bool
 | .t _=>true
 | .c v=>As v
def Ak.iP (g:RX->RX):Ak->Ak
 | .mov x=>.mov (g x) | .pick c a b=>.pick (g c) (g a) (g b) | .box x=>.box (g x) | .alloc ty z=>.alloc ty z
 | .build z ps=>.build z (ps.map fun p=>(p.1,p.2.1,g p.2.2)) | .kr k ps=>.kr k (ps.map g) | .load n ag x=>.load n ag (g x) | .store n x v=>.store n (g x) (g v)
 | .nilck x=>.nilck (g x) | .bin op c kc x y=>.bin op c kc (g x) (g y) | .un op x=>.un op (g x) | .conv k x=>.conv k (g x) | .il x=>.il (g x) | .ofBytes x=>.ofBytes (g x)
 | .iU x=>.iU (g x) | .jG x=>.jG (g x) | .mkI t x=>.mkI t (g x) | .mkF f cap=>.mkF f (cap.map g) | .mkMap=>.mkMap | .insert c x k v=>.insert c (g x) (g k) (g v)
 | .lookup c z ok x k=>.lookup c z ok (g x) (g k) | .po k z l c=>.po k z (g l) (g c) | .slice k x lo hi mx=>.slice k (g x) (lo.map g) (hi.map g) (mx.map g) | .gM x lo hi=>.gM (g x) (lo.map g) (hi.map g)
 | .fieldAddr off x=>.fieldAddr off (g x) | .field off n ag x=>.field off n ag (g x) | .ic k x i=>.ic k (g x) (g i) | .hJ k l x i=>.hJ k l (g x) (g i) | .iV x i=>.iV (g x) (g i)
 | .extract j x=>.extract j (g x) | .len c x=>.len c (g x) | .append k ty s x=>.append k ty (g s) (g x) | .copy k d s=>.copy k (g d) (g s) | .ij mx Z=>.ij mx (Z.map g) | .call f args=>.call (g f) (args.map g)
 | .iter x=>.iter (g x) | .next x=>.next (g x) | .gZ t z ok x=>.gZ t z ok (g x) | .bad=>.bad
def vu (tm:Sp) (x:RX):RX:=.c (((x.kv tm).cl).getD .undef)
structure Aq where
 v:KV
 new:fi:=[]
 gA:Option (Nm×Ac):=none
 kill:Option Nm:=none
 gv:fh:=[]
 gone:fh:=[]
 gC:List (Nm×Ac):=[]
 io:Bool:=false
 slot:fb:=none
def isG:Ak->Bool
 | .build _ _ | .load _ _ _ | .nilck _ | .bin _ _ _ _ _ | .un _ _ | .conv _ _ | .il _ | .ofBytes _ | .iU _ | .jG _ | .lookup _ _ _ _ _ | .slice _ _ _ _ _ | .gM _ _ _
 | .fieldAddr _ _ | .field _ _ _ _ | .ic _ _ _ | .hJ _ _ _ _ | .iV _ _ | .extract _ _ | .len _ _ | .ij _ _ | .gZ _ _ _ _=>true
 | _=>false
def okOp:Ak->Bool
 | .build z _=>Az z
 | .lookup _ z _ _ _=>As z
 | .gZ _ z _ _=>As z
 | _=>true
def gO (tm:Sp) (op:Ak) (K:Aq->Option R):Option R :=
 if (isG op&&okOp op&&op.Z.all fun x=>((x.kv tm).cl).isSome) then AF (AD (op.iP (vu tm))) fun z=>K {v:=.cv z} else none
def P6 (n:Nat) (x:KV) (K:ff->Option R):Option R :=
 match x with
 | .agg cs=>if cs.length=n then K cs else none
 | .cv v=>AJ (HX v n) (K ((List.range n).map fun i=>.cv (BF v i)))
 | .un | .sk | .fM _=>none
 | y=>if n=1 then K [y] else none
def Rd {R:Type} (tm:Sp):ff->List (Nat×Nat×RX)->(ff->Option R)->Option R
 | z,[],K=>K z
 | z,(off,n,x) :: ps,K=>P6 n (x.kv tm) fun cs=>if off+n<=z.length then Rd tm (z.take off++cs++z.drop (off+n)) ps K else none
def NF (σ:Nm->fw) (k:Nat) (x:KV) (K:fa->Option R):Option R :=
 match x with
 | .arr J k' o n=>match σ J with
  | some (.arr ku kt Z)=>if k=k'/\k'=ku then AJ (Fs (By o n) (Bd Z)) (K (BE n (EB o Z))) else none
  | _=>none
 | x=>match x.cl with
  | some v=>AF (Kd k v) K
  | none=>none
def vw:KV->Bool
 | .fn f _=>Nat.ble CJ f
 | _=>false
def BY (d:Nat) (σ:Nm->fw) (tm:Sp) (op:Ak) (K:Aq->Option R):Option R :=
 match op with
 | .mov x=>K {v:=x.kv tm}
 | .pick c a b=>match c.kv tm with
  | .lit true=>K {v:=a.kv tm}
  | .lit false=>K {v:=b.kv tm}
  | .cv v=>Dx v (K {v:=a.kv tm}) (K {v:=b.kv tm})
  | _=>none
 | .box x=>match x.kv tm with
  | .cv v=>AJ (valO v) (K {v:=.ref (d,0) 0,new:=[.whole 0 v]})
  | .agg cs=>K {v:=.ref (d,0) 0,new:=[.cells 0 cs]}
  | .un | .sk | .fM _=>none
  | y=>K {v:=.ref (d,0) 0,new:=[.cells 0 [y]]}
 | .alloc ty z=>if Az z then K {v:=.ref (d,0) 0,new:=[.cells ty (z.map Hb)]} else none
 | .build z ps =>
  if !ps.isEmpty&&((ps.all fun p=>((p.2.2.kv tm).cl).isSome)&&Nat.ble z.length 6) then gO tm (.build z ps) K
  else if Az z then Rd tm (z.map Hb) ps fun cs=>K {v:=.agg cs} else none
 | .kr k ps =>
  let Z:=ps.map (RX.kv tm)
  match CT Z with
  | some A=>AJ (NS k A) (K {v:=.arr (d,0) k 0 (Bd A),new:=[.arr k 0 A]})
  | none =>
   let R:=FB σ Ax (Cu Z)
   if (Cu Z).isEmpty then none
   else if Jl σ R/\Ed Z=false then
    let ys:=EP (Cv σ Ax) Z
    AJ (NS k ys) (K {v:=.arr (d,0) k 0 (Bd ys),new:=[.arr k 0 ys],gv:=R})
   else none
 | .load n ag x=>match x.kv tm with
  | .ref J o=>match σ J with
   | some (.cells _ cs)=>if ag then (if o+n<=cs.length then K {v:=.agg ((cs.drop o).take n)} else none) else (match cs[o]? with | some c=>K {v:=c} | none=>none)
   | some (.whole _ v)=>AF (vg v o n ag) fun z=>K {v:=.cv z}
   | _=>none
  | .fO J k i o=>match σ J with
   | some (.arr k' kt Z)=>if k=k' then AF (elemO Z i o n ag) fun z=>K {v:=.cv z} else none
   | _=>none
  | _=>gO tm op K
 | .store n x v=>match x.kv tm with
  | .ref J o=>match σ J with
   | some (.cells ty cs)=>P6 n (v.kv tm) fun A=>if o+n<=cs.length then K {v:=.un,gA:=some (J,.cells ty (cs.take o++A++cs.drop (o+n)))} else none
   | some (.whole ty w)=>match (v.kv tm).cl with
    | some u=>AJ (okSto u w o n) (K {v:=.un,gA:=some (J,.whole ty (vp u w o))})
    | none=>none
   | _=>none
  | .fO J k i o=>match σ J with
   | some (.arr k' kt Z)=>match (v.kv tm).cl with
    | some u=>if k=k' then AF (setO k Z i o n u) fun ys=>K {v:=.un,gA:=some (J,.arr k kt ys)} else none
    | none=>none
   | _=>none
  | _=>none
 | .nilck x=>match x.kv tm with
  | .ref J o=>K {v:=.ref J o}
  | .fO J k i o=>K {v:=.fO J k i o}
  | .fn f cap=>K {v:=.fn f cap}
  | .fT l=>K {v:=.fT l}
  | _=>gO tm op K
 | .bin o c kc x y=>match x.kv tm,y.kv tm with
  | .ref _ _,.cv v=>match o with
   | .eql=>HH (match c,v with | .ptr,.gh=>true | _,_=>false) (K {v:=.lit false}) none
   | .neq=>HH (match c,v with | .ptr,.gh=>true | _,_=>false) (K {v:=.lit true}) none
   | _=>none
  | _,_=>gO tm op K
 | .un .not x=>match x.kv tm with
  | .lit b=>K {v:=.lit (!b)}
  | _=>gO tm op K
 | .mkI t x=>match (x.kv tm).cl with
  | some v=>K {v:=.cv (.iface t v)}
  | none=>match x.kv tm with
   | .un | .sk | .fM _ | .fT _=>none
   | y=>K {v:=.iface t y}
 | .mkF f cap=>if (cap.map (RX.kv tm)).all fun | .un | .sk | .fM _ | .fT _=>false | _=>true then K {v:=.fn f (cap.map (RX.kv tm))} else none
 | .mkMap=>K {v:=.mp (d,0),new:=[.map []]}
 | .insert c x k v=>match x.kv tm with
  | .mp J=>match σ J,(k.kv tm).cl,(v.kv tm).cl with
   | some (.map es),some kk,some vv=>AF (insO c es kk vv) fun jS=>K {v:=.un,gA:=some (J,.map jS)}
   | some (.map es),some kk,none =>
    let R:=FB σ Ax (Cu [v.kv tm])
    if (Cu [v.kv tm]).isEmpty||vw (v.kv tm) then none
    else if Jl σ R/\Ed [v.kv tm]=false/\R.contains J=false then
     AF (insO c es kk (AL (EP (Cv σ Ax) [v.kv tm]) 0)) fun jS=>K {v:=.un,gA:=some (J,.map jS),gv:=R}
    else none
   | _,_,_=>none
  | _=>none
 | .lookup c z ok x k=>match x.kv tm with
  | .mp J=>match σ J,(k.kv tm).cl with
   | some (.map es),some kk=>if As z=true then AF (lookO c z ok es kk) fun v=>K {v:=.cv v} else none
   | _,_=>none
  | _=>gO tm op K
 | .po k z l c=>match (l.kv tm).cl,(c.kv tm).cl with
  | some l,some c=>if z.cells.length=k/\As z=true then AF (vh l c) fun n=>K {v:=.arr (d,0) k 0 n,new:=[.arr k 0 (ER n z)]} else none
  | _,_=>none
 | .slice k x lo hi mx=>match x.kv tm with
  | .arr J k' o n =>
   if k=k'/\(mx.isNone\/hi.isSome)/\(lo.toList++hi.toList++mx.toList).all fun y=>((y.kv tm).cl).isSome then
    let ev:=fun (y:RX)=>((y.kv tm).cl).getD .undef
    AF (Gk (mx.map ev) n n) fun m=>AF (Gk (hi.map ev) n m) fun h =>
     match lo with
     | none=>K {v:=.arr J k o h}
     | some lo=>AF (Gk (some (ev lo)) 0 h) fun l=>HH (JD (sN h l) (ltN 0 l)) (K {v:=.cv (.sl k [] false)}) (K {v:=.arr J k (By o l) (Is h l)})
   else none
  | _=>gO tm op K
 | .fieldAddr off x=>match x.kv tm with
  | .ref J o=>K {v:=.ref J (o+off)}
  | .fO J k i o=>K {v:=.fO J k i (o+off)}
  | _=>gO tm op K
 | .field off n ag x=>match x.kv tm with
  | .agg cs=>if ag then (if off+n<=cs.length then K {v:=.agg ((cs.drop off).take n)} else none) else (match cs[off]? with | some c=>K {v:=c} | none=>none)
  | _=>gO tm op K
 | .ic k x i=>match x.kv tm with
  | .arr J k' o n=>match (i.kv tm).cl with
   | some i=>if k=k' then AF (natO i) fun j=>AJ (ltN j n) (K {v:=.fO J k (By o j) 0}) else none
   | none=>none
  | _=>gO tm op K
 | .extract j x=>match x.kv tm with
  | .fM Z=>match Z[j]? with
   | some v=>K {v}
   | none=>none
  | _=>gO tm op K
 | .len c x=>match x.kv tm with
  | .arr _ _ _ n=>match c with
   | .slice=>K {v:=.cv (nI n)}
   | _=>none
  | .mp J=>match c,σ J with
   | .map,some (.map es)=>K {v:=.cv (nI (vm (Bd es)))}
   | _,_=>none
  | _=>gO tm op K
 | .ofBytes x=>match x.kv tm with
  | .arr J k o n=>NF σ 1 (.arr J k o n) fun ys=>AF (AD (.ofBytes (.c (.sl 1 ys false)))) fun z=>K {v:=.cv z}
  | _=>gO tm op K
 | .append k ty s x=>NF σ k (x.kv tm) fun ys =>
  match s.kv tm with
  | .arr J k' o n=>match σ J with
   | some (.arr ku kt Z)=>if k=k'/\k'=ku/\o=0 then AJ (JD (Fs n (Bd Z)) (Fs (By n (Bd ys)) Et)) (K {v:=.arr J k 0 (By n (Bd ys)),gA:=some (J,.arr k (if kt=ty then ty else 0) (Dh (BE n Z) ys)),kill:=some J}) else none
   | _=>none
  | .gU=>AJ (Fs (Bd ys) Et) (K {v:=.arr (d,0) k 0 (Bd ys),new:=[.arr k ty ys]})
  | .cv v=>AF (appO k v ys) fun zs=>K {v:=.arr (d,0) k 0 (Bd zs),new:=[.arr k ty zs]}
  | _=>none
 | .copy k x s=>NF σ k (s.kv tm) fun ys =>
  match x.kv tm with
  | .arr J k' o n=>match σ J with
   | some (.arr ku kt Z)=>if k=k'/\k'=ku then AJ (Fs (By o n) (Bd Z)) (K {v:=.cv (nI (minN (Bd ys) n)),gA:=some (J,.arr k kt (Dh (Dh (BE o Z) (BE n ys)) (EB (By o (Bd (BE n ys))) Z)))}) else none
   | _=>none
  | .gU=>K {v:=.cv (nI 0)}
  | _=>none
 | .iter x=>match (x.kv tm).cl with
  | some v=>AF (strO v) fun s=>K {v:=.it (d,0),new:=[.fW s 0]}
  | none=>none
 | .next x=>match x.kv tm with
  | .it J=>match σ J with
   | some (.fW s pos)=>HH (ltN pos (lenS s)) (K {v:=.fM [.lit true,.cv (nI pos),.cv (vi s pos)],gA:=some (J,.fW s (By pos (vj s pos)))}) (K {v:=.fM [.lit false]})
   | _=>none
  | _=>none
 | .gZ t z ok x=>match x.kv tm with
  | .iface u y=>if u=t then K {v:=if ok then .fM [y,.lit true] else y} else if ok=true/\As z=true then K {v:=.fM [.cv z,.lit false]} else none
  | _=>gO tm op K
 | .call _ _=>none
 | .bad=>none
 | _=>gO tm op K
def qM (u:Option (Nm×Ac)) (ks:Ao):Ao :=
 match u with
 | some (J,ob)=>{ks with fA:=jz ks.fA J ob}
 | none=>ks
def LP (k:Option Nm) (ks:Ao):Ao :=
 match k with
 | some J=>Lu (fun m=>m==J) ks
 | none=>ks
def N2 (σ:Nm->fw) (R:fh) (ks:Ao):Ao :=
 match R with
 | []=>ks
 | J :: R=>Pv σ (J :: R) ks
def LQ (l:fh) (ks:Ao):Ao :=
 match l with
 | []=>ks
 | J :: l=>Lu (fun m=>(J :: l).contains m) ks
def vx:List (Nm×Ac)->AO->AO
 | [],σ=>σ
 |(J,o) :: l,σ=>vx l (jz σ J o)
def kset (dst:fb) (v:KV) (new:fi) (ks:Ao):Ao :=
 match dst with
 | some d=>match Nat.blt d ks.nt with
  | true=>{ks with tmps:=LJ d v ks.tmps,fA:=match new with | []=>ks.fA | x :: Z=>DI d (x :: Z) ks.fA}
  | false=>ks
 | none=>ks
def LN (l:List (Nm×Ac)) (ks:Ao):Ao:={ks with fA:=vx l ks.fA}
def qN (sl:fb) (new:fi) (ks:Ao):Ao :=
 match sl with
 | some r=>match Nat.blt r ks.nt with
  | true=>{ks with fA:=DI r (AV ks.fA r++new) ks.fA}
  | false=>ks
 | none=>ks
def NV (sl:fb) (new:fi):fi :=
 match sl with
 | some _=>[]
 | none=>new
def FC (ks:Ao) (dst:fb) (o:Aq):Ao:=kset dst o.v (NV o.slot o.new) (qN o.slot o.new<|LN o.gC (LQ o.gone (N2 (AZ ks.fA) o.gv (LP o.kill (qM o.gA ks)))))
mutual
def A4:KV->KV->Bool
 | .un,x=>match x with | .un=>true | _=>false
 | .sk,x=>match x with | .sk=>true | _=>false
 | .fT _,x=>match x with | .fT _=>true | _=>false
 | .ref J o,x=>match x with | .ref gP o'=>J==gP&&o==o' | _=>false
 | .fO _ _ _ _,_=>false
 | .arr J k o _,x=>match x with | .arr gP k' o' _=>J==gP&&k==k'&&Nat.beq o o' | _=>false
 | .mp J,x=>match x with | .mp gP=>J==gP | _=>false
 | .it J,x=>match x with | .it gP=>J==gP | _=>false
 | .iF J,x=>match x with | .iF gP=>J==gP | _=>false
 | .fn f cap,x=>match x with | .fn f' kP=>f==f'&&CQ cap kP | _=>false
 | .fM Z,x=>match x with | .fM ys=>CQ Z ys | _=>false
 | .lit _,x=>x.cl.isSome
 | .gU,x=>x.cl.isSome
 | .cv _,x=>x.cl.isSome
 | .agg cs,x=>if (CT cs).isSome then x.cl.isSome else match x with | .agg jn=>CQ cs jn | _=>false
 | .iface t y,x=>if y.cl.isSome then x.cl.isSome else match x with | .iface t' y'=>t==t'&&A4 y y' | _=>false
def CQ:ff->ff->Bool
 | [],l=>match l with | []=>true | _=>false
 | x :: Z,l=>match l with | y :: ys=>A4 x y&&CQ Z ys | _=>false
end
mutual
def BD:KV->KV->fa
 | .un,_=>[] | .sk,_=>[] | .fT _,x=>(match x with | .fT d=>[nI d] | _=>[]) | .ref _ _,_=>[] | .fO _ _ _ _,_=>[] | .mp _,_=>[] | .it _,_=>[] | .iF _,_=>[]
 | .arr _ _ _ _,x=>match x with | .arr _ _ _ n=>[nI n] | _=>[]
 | .fn _ cap,x=>match x with | .fn _ kP=>Fc cap kP | _=>[]
 | .fM Z,x=>match x with | .fM ys=>Fc Z ys | _=>[]
 | .lit _,x=>[x.cl.getD .undef]
 | .gU,x=>[x.cl.getD .undef]
 | .cv _,x=>[x.cl.getD .undef]
 | .agg cs,x=>if (CT cs).isSome then [x.cl.getD .undef] else match x with | .agg jn=>Fc cs jn | _=>[]
 | .iface _ y,x=>if y.cl.isSome then [x.cl.getD .undef] else match x with | .iface _ y'=>BD y y' | _=>[]
def Fc:ff->ff->fa
 | [],_=>[]
 | x :: Z,l=>match l with | y :: ys=>BD x y++Fc Z ys | _=>[]
end
mutual
def fill:KV->fa->Nat->KV×Nat
 | .un,_,i=>(.un,i) | .sk,_,i=>(.sk,i) | .fT _,A,i=>(.fT (Ej (AL A i)),i+1) | .ref J o,_,i=>(.ref J o,i) | .fO J k j o,_,i=>(.fO J k j o,i) | .mp J,_,i=>(.mp J,i) | .it J,_,i=>(.it J,i) | .iF J,_,i=>(.iF J,i)
 | .arr J k o _,A,i=>(.arr J k o (Ej (AL A i)),i+1)
 | .fn f cap,A,i=>let p:=Ce cap A i;(.fn f p.1,p.2)
 | .fM Z,A,i=>let p:=Ce Z A i;(.fM p.1,p.2)
 | .lit _,A,i=>(.cv (AL A i),i+1)
 | .gU,A,i=>(.cv (AL A i),i+1)
 | .cv _,A,i=>(.cv (AL A i),i+1)
 | .agg cs,A,i=>if (CT cs).isSome then (.cv (AL A i),i+1) else let p:=Ce cs A i;(.agg p.1,p.2)
 | .iface t y,A,i=>if y.cl.isSome then (.cv (AL A i),i+1) else let p:=fill y A i;(.iface t p.1,p.2)
def Ce:ff->fa->Nat->ff×Nat
 | [],_,i=>([],i)
 | x :: Z,A,i=>let p:=fill x A i;let q:=Ce Z A p.2;(p.1 :: q.1,q.2)
end
def CA:Ac->Ac->Bool
 | .cells ty cs,x=>match x with | .cells o9 jn=>ty==o9&&CQ cs jn | _=>false
 | .whole ty _,x=>match x with | .whole o9 _=>ty==o9 | _=>false
 | .arr k t _,x=>match x with | .arr k' t' _=>k==k'&&t==t' | _=>false
 | .map _,x=>match x with | .map _=>true | _=>false
 | .fW _ _,x=>match x with | .fW _ _=>true | _=>false
def F9:Ac->Ac->fa
 | .cells _ cs,x=>match x with | .cells _ jn=>Fc cs jn | _=>[]
 | .whole _ _,x=>match x with | .whole _ v=>[v] | _=>[]
 | .arr k _ _,x=>match x with | .arr _ _ Z=>[.sl k Z false] | _=>[]
 | .map _,x=>match x with | .map es=>[.gz es] | _=>[]
 | .fW _ _,x=>match x with | .fW s pos=>[.str s,nI pos] | _=>[]
def BP:Ac->fa->Nat->Ac×Nat
 | .cells ty cs,A,i=>let p:=Ce cs A i;(.cells ty p.1,p.2)
 | .whole ty _,A,i=>(.whole ty (AL A i),i+1)
 | .arr k t _,A,i=>(.arr k t (Ee (AL A i)),i+1)
 | .map _,A,i=>(.map (Kk (AL A i)),i+1)
 | .fW _ _,A,i=>(.fW (strP (AL A i)) (Ej (AL A (i+1))),i+2)
def DC:fi->fi->Bool
 | [],[]=>true
 | x :: Z,y :: ys=>CA x y&&DC Z ys
 | _,_=>false
def HN:fi->fi->fa
 | x :: Z,y :: ys=>F9 x y++HN Z ys
 | _,_=>[]
def Cc:fi->fa->Nat->fi×Nat
 | [],_,i=>([],i)
 | x :: Z,A,i=>let p:=BP x A i;let q:=Cc Z A p.2;(p.1 :: q.1,q.2)
def Ik:Sp->Sp->Bool
 | [],[]=>true
 |(i,x) :: Z,(j,y) :: ys=>Nat.beq i j&&(A4 x y&&Ik Z ys)
 | _,_=>false
def F8:Sp->Sp->fa
 |(_,x) :: Z,(_,y) :: ys=>BD x y++F8 Z ys
 | _,_=>[]
def Eh:Sp->fa->Nat->Sp×Nat
 | [],_,i=>([],i)
 |(j,x) :: Z,A,i=>let p:=fill x A i;let q:=Eh Z A p.2;((j,p.1) :: q.1,q.2)
def Jo:AO->AO->Bool
 | [],[]=>true
 |(i,x) :: Z,(j,y) :: ys=>Nat.beq i j&&(DC x y&&Jo Z ys)
 | _,_=>false
def KS:AO->AO->fa
 |(_,x) :: Z,(_,y) :: ys=>HN x y++KS Z ys
 | _,_=>[]
def FD:AO->fa->Nat->AO×Nat
 | [],_,i=>([],i)
 |(j,x) :: Z,A,i=>let p:=Cc x A i;let q:=FD Z A p.2;((j,p.1) :: q.1,q.2)
def Jp:fy->fy->Bool
 | [],[]=>true
 | x :: Z,y :: ys=>Ik x y&&Jp Z ys
 | _,_=>false
def Pa:fy->fy->fa
 | x :: Z,y :: ys=>F8 x y++Pa Z ys
 | _,_=>[]
def Kb:fy->fa->Nat->fy×Nat
 | [],_,i=>([],i)
 | x :: Z,A,i=>let p:=Eh x A i;let q:=Kb Z A p.2;(p.1 :: q.1,q.2)
def Md (p x:Ao):Bool:=Nat.beq p.nt x.nt&&(Ik p.tmps x.tmps&&(Jo p.fA x.fA&&Jp p.fD x.fD))
def D9 (p x:Ao):fa:=F8 p.tmps x.tmps++KS p.fA x.fA++Pa p.fD x.fD
def BV (p:Ao) (A:fa):Ao :=
 let a:=Eh p.tmps A 0
 let b:=FD p.fA A a.2
 let c:=Kb p.fD A b.2
 {nt:=p.nt,tmps:=a.1,fA:=b.1,fD:=c.1}
mutual
def Dt:KV->KV->Bool
 | .un,x=>match x with | .un=>true | _=>false
 | .sk,x=>match x with | .sk=>true | _=>false
 | .fT _,x=>match x with | .fT _=>true | _=>false
 | .ref J o,x=>match x with | .ref gP o'=>J==gP&&o==o' | _=>false
 | .fO _ _ _ _,_=>false
 | .arr J k _ _,x=>match x with | .arr gP k' _ _=>J==gP&&k==k' | _=>false
 | .mp J,x=>match x with | .mp gP=>J==gP | _=>false
 | .it J,x=>match x with | .it gP=>J==gP | _=>false
 | .iF J,x=>match x with | .iF gP=>J==gP | _=>false
 | .fn f cap,x=>match x with | .fn f' kP=>f==f'&&Il cap kP | _=>false
 | .fM Z,x=>match x with | .fM ys=>Il Z ys | _=>false
 | .lit _,x=>x.cl.isSome
 | .gU,x=>x.cl.isSome
 | .cv _,x=>x.cl.isSome
 | .agg cs,x=>if (CT cs).isSome then x.cl.isSome else match x with | .agg jn=>Il cs jn | _=>false
 | .iface t y,x=>if y.cl.isSome then x.cl.isSome else match x with | .iface t' y'=>t==t'&&Dt y y' | _=>false
def Il:ff->ff->Bool
 | [],l=>match l with | []=>true | _=>false
 | x :: Z,l=>match l with | y :: ys=>Dt x y&&Il Z ys | _=>false
end
mutual
def G1:KV->KV->List Bool
 | .arr _ _ o _,x=>match x with | .arr _ _ o' _=>[vl o o'] | _=>[]
 | .fn _ cap,x=>match x with | .fn _ kP=>Id cap kP | _=>[]
 | .fM Z,x=>match x with | .fM ys=>Id Z ys | _=>[]
 | .agg cs,x=>match x with | .agg jn=>Id cs jn | _=>[]
 | .iface _ y,x=>match x with | .iface _ y'=>G1 y y' | _=>[]
 | .un,_ | .sk,_ | .fT _,_ | .ref _ _,_ | .fO _ _ _ _,_ | .mp _,_ | .it _,_ | .iF _,_ | .lit _,_ | .gU,_ | .cv _,_=>[]
def Id:ff->ff->List Bool
 | [],_=>[]
 | x :: Z,l=>match l with | y :: ys=>G1 x y++Id Z ys | _=>[]
end
def T8:Ac->Ac->Bool
 | .cells ty cs,x=>match x with | .cells o9 jn=>ty==o9&&Il cs jn | _=>false
 | .whole ty v,x=>CA (.whole ty v) x | .arr k t Z,x=>CA (.arr k t Z) x | .map es,x=>CA (.map es) x | .fW s p,x=>CA (.fW s p) x
def TO:Ac->Ac->List Bool
 | .cells _ cs,x=>match x with | .cells _ jn=>Id cs jn | _=>[]
 | _,_=>[]
def K9:fi->fi->Bool
 | [],[]=>true
 | x :: Z,y :: ys=>T8 x y&&K9 Z ys
 | _,_=>false
def K2:fi->fi->List Bool
 | x :: Z,y :: ys=>TO x y++K2 Z ys
 | _,_=>[]
def Ka:Sp->Sp->Bool
 | [],[]=>true
 |(i,x) :: Z,(j,y) :: ys=>Nat.beq i j&&(Dt x y&&Ka Z ys)
 | _,_=>false
def J3:Sp->Sp->List Bool
 |(_,x) :: Z,(_,y) :: ys=>G1 x y++J3 Z ys
 | _,_=>[]
def LG:AO->AO->Bool
 | [],[]=>true
 |(i,x) :: Z,(j,y) :: ys=>Nat.beq i j&&(K9 x y&&LG Z ys)
 | _,_=>false
def Ln:AO->AO->List Bool
 |(_,x) :: Z,(_,y) :: ys=>K2 x y++Ln Z ys
 | _,_=>[]
def LH:fy->fy->Bool
 | [],[]=>true
 | x :: Z,y :: ys=>Ka x y&&LH Z ys
 | _,_=>false
def Lo:fy->fy->List Bool
 | x :: Z,y :: ys=>J3 x y++Lo Z ys
 | _,_=>[]
def J9 (p x:Ao):Bool:=Nat.beq p.nt x.nt&&(Ka p.tmps x.tmps&&(LG p.fA x.fA&&LH p.fD x.fD))
def Nv (p x:Ao):List Bool:=J3 p.tmps x.tmps++(Ln p.fA x.fA++Lo p.fD x.fD)
def chks {β:Type}:List Bool->Option β->Option β
 | [],a=>a
 | b :: l,a=>AJ b (chks l a)
mutual
def BI:KV->PV->Option fa
 | .un,x=>match x with | .undef=>some [] | _=>none
 | .sk,x=>match x with | .fM []=>some [] | _=>none
 | .fT _,x=>match x with | .fT d=>some [nI d] | _=>none
 | .fO _ _ _ _,_=>none
 | .iF J,x=>match x with | .arr gP 1 0 0=>AJ (J==gP) (some []) | _=>none
 | .ref J o,x=>match x with | .ref gP o'=>AJ (J==gP&&o==o') (some []) | _=>none
 | .mp J,x=>match x with | .mp gP=>AJ (J==gP) (some []) | _=>none
 | .it J,x=>match x with | .it gP=>AJ (J==gP) (some []) | _=>none
 | .arr J k o _,x=>match x with | .arr gP k' o' n=>AJ (J==gP&&k==k'&&Nat.beq o o') (some [nI n]) | _=>none
 | .lit _,x=>AJ (As x) (some [x])
 | .gU,x=>AJ (As x) (some [x])
 | .cv _,x=>AJ (As x) (some [x])
 | .fn f cap,x=>match x with | .fn f' kP=>if f=f' then G3 cap kP else none | _=>none
 | .fM Z,x=>match x with | .fM ys=>G3 Z ys | _=>none
 | .agg cs,x=>if (CT cs).isSome then AJ (As x) (some [x]) else match x with | .agg jn=>G3 cs jn | _=>none
 | .iface t y,x=>if y.cl.isSome then AJ (As x) (some [x]) else match x with | .iface t' y'=>if t=t' then BI y y' else none | _=>none
def G3:ff->fa->Option fa
 | [],l=>match l with | []=>some [] | _=>none
 | x :: Z,l=>match l with
  | y :: ys=>match BI x y,G3 Z ys with
   | some a,some b=>some (a++b)
   | _,_=>none
  | _=>none
end
def Eg:Ac->Ob->Option fa
 | .cells ty cs,x=>match x with | .cells o9 jn=>if ty=o9 then G3 cs jn else none | _=>none
 | .whole ty _,x=>match x with | .cells o9 jn=>AJ (ty==o9&&Az jn) (some [.agg jn]) | _=>none
 | .arr k t _,x=>match x with | .arr k' t' Z=>AJ (k==k'&&t==t'&&Az Z) (some [.sl k Z false]) | _=>none
 | .map _,x=>match x with | .map es=>AJ (Az es) (some [.gz es]) | _=>none
 | .fW _ _,x=>match x with | .fW s pos=>some [.str s,nI pos] | _=>none
def HZ:fi->fg->Option fa
 | [],l=>match l with | []=>some [] | _=>none
 | x :: Z,l=>match l with
  | y :: ys=>match Eg x y,HZ Z ys with
   | some a,some b=>some (a++b)
   | _,_=>none
  | _=>none
structure An where
 args:ff
 ins:fi
 res:KV
 outs:fi
 news:fi
 gone:fc
 deriving Inhabited
def Rf (P:An) (out:Ai):Option fa :=
 if out.gone=P.gone.map (fun j=>(0,j)) then
  match BI P.res out.v,HZ P.outs (out.gC.map (·.2)),HZ P.news out.new with
  | some a,some b,some c=>some (a++(b++c))
  | _,_,_=>none
 else none
def DG (k:Nat):fh:=(List.range k).map fun j=>(0,j)
inductive Bh where
 | cl
 | own (k:Nat)
 | opt (k:Nat)
 | fM (l:List Bh)
 | agg (l:List Bh)
 deriving Inhabited
mutual
def B6 (obs:fg):Bh->Nat->PV->Option (PV×Nat)
 | .cl,j,v=>AJ (As v) (some (v,j))
 | .own k,j,v=>match v,obs[j]? with
  | .arr J k' o n,some (.arr ku kt Z)=>AJ (J==(0,j)&&k==k'&&k==ku&&o==0&&n==Z.length&&kt==0&&Az Z) (some (.sl k Z false,j+1))
  | _,_=>none
 | .opt k,j,v=>match v,obs[j]? with
  | .fF,_=>some (.fF,j)
  | .arr J k' o n,some (.arr ku kt Z)=>AJ (J==(0,j)&&k==k'&&k==ku&&o==0&&n==Z.length&&kt==0&&Az Z) (some (.sl k Z false,j+1))
  | _,_=>none
 | .fM l,j,v=>match v with
  | .fM A=>(EO obs l j A).map fun p=>(.fM p.1,p.2)
  | _=>none
 | .agg l,j,v=>match v with
  | .agg A=>(EO obs l j A).map fun p=>(.agg p.1,p.2)
  | _=>none
def EO (obs:fg):List Bh->Nat->fa->Option (fa×Nat)
 | [],j,[]=>some ([],j)
 | s :: l,j,v :: A=>match B6 obs s j v with
  | some (u,j)=>(EO obs l j A).map fun p=>(u :: p.1,p.2)
  | none=>none
 | _,_,_=>none
end
def Du (sh:Bh) (v:PV) (obs:fg):ft :=
 match B6 obs sh 0 v with
 | some (r,j)=>AJ (j==obs.length) (some r)
 | none=>none
mutual
def CP (d:Nat):Bh->Nat->PV->KV×fi×Nat
 | .cl,j,r=>(.cv r,[],j)
 | .own k,j,r=>(.arr (d,j) k 0 (Bd (Ee r)),[.arr k 0 (Ee r)],j+1)
 | .opt _,j,r=>(.cv r,[],j)
 | .fM l,j,r=>let p:=HC d l j r 0;(.fM p.1,p.2)
 | .agg l,j,r=>let p:=HC d l j r 0;(.agg p.1,p.2)
def HC (d:Nat):List Bh->Nat->PV->Nat->ff×fi×Nat
 | [],j,_,_=>([],[],j)
 | s :: l,j,r,i =>
  let p:=CP d s j (G8 r i)
  let q:=HC d l p.2.2 r (i+1)
  (p.1 :: q.1,p.2.1++q.2.1,q.2.2)
end
mutual
def HT {R:Type}:Bh->PV->(Bh->Option R)->Option R
 | .cl,_,K=>K .cl
 | .own k,_,K=>K (.own k)
 | .opt k,u,K=>nilB u (K .cl) (K (.own k))
 | .fM l,u,K=>MR l u 0 fun l=>K (.fM l)
 | .agg l,u,K=>MR l u 0 fun l=>K (.agg l)
def MR {R:Type}:List Bh->PV->Nat->(List Bh->Option R)->Option R
 | [],_,_,K=>K []
 | s :: l,u,i,K=>HT s (G8 u i) fun s=>MR l u (i+1) fun l=>K (s :: l)
end
mutual
def Bh.fix:Bh->Bool
 | .opt _=>false
 | .cl | .own _=>true
 | .fM l | .agg l=>qO l
def qO:List Bh->Bool
 | []=>true
 | s :: l=>s.fix&&qO l
end
structure KB where
 sp:eU->(Nm->fe)->fa->fj
 L:Gq
 I:eU->fg->fa->Option (St×PV)
 iN:eU->Bool
 gT:eU->Bool
structure CR where
 b:KB
 sO:eU->Bool
 asT:eU->eY->Option (eY×Nat)
 rsh:eU->Bh×Bool
 dsh:Nat->Bh
 pa:eU->Option (ff->fi->An)
 spK:eU->Option ((Nm->fw)->ff->Option (Bool×Aq)):=fun _=>none
 flatF:eU->Bool:=fun _=>false
def spO (sp:eU->(Nm->fe)->fa->fj) (g:eU) (A:fa):Option (Option (PV×fg)) :=
 match sp g (fun _=>none) A with
 | some out=>AJ (out.gA.isNone&&out.kill.isNone&&out.gv.isEmpty&&out.gone.isEmpty&&out.gC.isEmpty&&!out.io&&out.slot.isNone) (some (some (out.v,out.new)))
 | none=>some none
noncomputable def BG (B:KB) (sh:Bh) (f:PV) (args:fa):ft :=
 match f with
 | .fn g cap=>match spO B.sp (AG g) (A7 g args cap) with
  | some (some (v,obs))=>Du sh v obs
  | some none=>if B.iN (AG g) then none else match B.L Unit Ar 0 (AG g) (A7 g args cap) () with
   | some (r,obs,_)=>Du sh r obs
   | none=>none
  | none=>none
 | _=>none
noncomputable def NX (B:KB) (sh:Bh) (fr:Bool) (g:eU) (args:fa):ft :=
 if A2 args then none
 else match B.L Unit Ar 0 g args () with
  | some (r,obs,_)=>AJ ((r.free&&obs.all Ob.free&&!B.gT g)==fr) (Du sh r obs)
  | none=>none
noncomputable def vy (B:KB) (h:AB E) (dep:Nat) (f:PV) (e:E):Option E :=
 match f with
 | .fn g cap=>match B.L E h (dep+1) (AG g) (A7 g [.fT dep] cap) e with
  | some (_,_,e)=>some e
  | none=>none
 | _=>none
noncomputable def ioO (B:KB) (P:An) (g:eU) (A:fa):Option fa :=
 match B.I g ((Cc P.ins A (Ce P.args A 0).2).1.map Ac.ob) (Aw (Ce P.args A 0).1) with
 | some (V,v)=>match Fi none 1 0 (DG P.ins.length) V v with
  | some out=>Rf P out
  | none=>none
 | none=>none
def BH (R:fh) (d i0:Nat) (m:Nm):Nm:=if m.1=0 then R.getD m.2 (0,0) else (d,i0+m.2)
def LT (P:An) (R:fh) (sl:fb) (d i0:Nat) (rs:fa):Aq :=
 let v:=fill P.res rs 0
 let o:=Cc P.outs rs v.2
 let w:=Cc P.news rs o.2
 {v:=v.1.fQ (BH R d i0),new:=w.1.map (Ac.fQ (BH R d i0)),gone:=P.gone.map fun j=>R.getD j (0,0),gC:=R.zip (o.1.map (Ac.fQ (BH R d i0))),io:=true,slot:=sl}
noncomputable def Ng (cfg:CR) (Pf:ff->fi->An) (g:eU) (d:Nat) (σ:Nm->fw) (Z:ff) (K:Aq->Option R):Option R :=
 let S:=Bm (FB σ Ax (Cu Z))
 match S.mapM σ with
 | none=>none
 | some ins =>
  let f:Nm->Nm:=fun m=>(0,S.idxOf m)
  let P:=Pf Z ins
  if Jl σ S=true/\Ed Z=false/\cfg.sO g=false/\(CQ P.args (DY f Z)&&DC P.ins (ins.map (Ac.fQ f)))=true then
   AF (ioO cfg.b P g (Fc P.args (DY f Z)++HN P.ins (ins.map (Ac.fQ f)))) fun rs=>match S with
    | []=>K (LT P S none d 0 rs)
    | r :: _=>match GL σ r.1 with
     | some i0=>K (LT P S (some r.1) r.1 i0 rs)
     | none=>none
  else none
def Hq (f:eU) (A cap:ff):ff:=match Nat.blt f CJ with
 | true=>A++cap
 | false=>cap.take (En f)++(A++cap.drop (En f))
noncomputable def vz (cfg:CR) (h:AB E) (d:Nat) (σ:Nm->fw) (tm:Sp) (f:RX) (args:fu) (e:E) (K:Aq->E->Option R):Option R :=
 match f.kv tm with
 | .fT l =>
  let Z:=args.map (RX.kv tm)
  match CT Z with
  | some A=>AF (h l A e) fun p=>K {v:=.cv (.bool p.1)} p.2
  | none =>
   let R:=FB σ Ax (Cu Z)
   if (Cu Z).isEmpty then none
   else if Jl σ R then
    let ys:=EP (Cv σ Ax) Z
    AJ (noYL ys) (AF (h l ys e) fun p=>K {v:=.cv (.bool p.1),gv:=R} p.2)
   else none
 | .fn f gg =>
  let g:=AG f
  let Z:=Hq f (args.map (RX.kv tm)) gg
  match cfg.spK g with
  | some s=>(match s σ Z with
   | some p=>AJ p.1 (K p.2 e)
   | none=>none)
  | none =>
  match cfg.pa g with
  | some P=>Ng cfg P g d σ Z fun out=>K out e
  | none =>
  match Z with
  | [ex,.iface p (.ref J 0)]=>match cfg.asT g p,ex.cl,σ J with
   | some (t,n),some err,some (.cells ty cs)=>AJ (sN cs.length n) (asP t err (fun x=>AJ (HX x n) (K {v:=.lit true,gA:=some (J,.whole ty x)} e)) (K {v:=.lit false} e))
   | _,_,_=>none
  | _=>match CT Z with
   | some A=>AF (BG cfg.b (cfg.rsh g).1 (.fn g []) A) fun r=>HT (cfg.rsh g).1 r fun sh=>let p:=CP d sh 0 r;K {v:=p.1,new:=p.2.1} e
   | none =>
    let R:=FB σ Ax (Cu Z)
    if (Cu Z).isEmpty\/cfg.sO g=true then none
    else if Jl σ R then
     AF (NX cfg.b (cfg.rsh g).1 (cfg.rsh g).2 g (EP (Cv σ Ax) Z)) fun r=>HT (cfg.rsh g).1 r fun sh=>let p:=CP d sh 0 r;K {v:=p.1,new:=p.2.1,gv:=if (cfg.rsh g).2 then [] else R} e
    else none
 | .cv v=>match CT (args.map (RX.kv tm)) with
  | some A=>AF (BG cfg.b (cfg.dsh d) v A) fun r=>HT (cfg.dsh d) r fun sh=>let p:=CP d sh 0 r;K {v:=p.1,new:=p.2.1} e
  | none=>none
 | _=>none
def TZ (o:Av) (ks:Ao):Bool :=
 if Dd o.op then
  match o.dst with
  | some d=>Nat.blt d ks.nt&&(AV ks.fA d).isEmpty
  | none=>match o.op with
   | .call _ _=>true
   | _=>false
 else true
def Ec:AO->Bool
 | []=>true
 |(_,u) :: l=>(u.all fun o=>match o with | .cells _ cs=>!Ed cs | _=>true)&&Ec l
def Mf (cfg:CR) (op:Ak) (tm:Sp):Bool :=
 match op with
 | .kr _ _=>false
 | .insert _ _ _ _=>false
 | .call f _=>match f.kv tm with
  | .fn g _=>(cfg.pa (AG g)).isNone
  | _=>true
 | _=>true
noncomputable def Lt (cfg:CR) (h:AB E) (o:Av) (ks:Ao) (e:E) (K:Aq->E->Option R):Option R :=
 if TZ o ks/\o.op.Z.all DN/\(Ec ks.fA||Mf cfg o.op ks.tmps)=true then
  match o.op with
  | .call f args=>vz cfg h (o.dst.getD 0) (AZ ks.fA) ks.tmps f args e fun out e=>if ((!out.io||o.dst.isSome||out.new.isEmpty||out.slot.isSome)&&(out.gv.isEmpty||Ec ks.fA))=true then K out e else none
  | op=>BY (o.dst.getD 0) (AZ ks.fA) ks.tmps op fun out=>if (out.gv.isEmpty||Ec ks.fA)=true then K out e else none
 else none
def PR (ops:fq) (o:Av) (ks:Ao) (K:Bool->Ao->Option R):Option R :=
 match o.guard with
 | none=>K true ks
 | some (j,want) =>
  match ops[j]? with
  | some p=>match p.dst with
   | some d=>match AN ks.tmps d with
    | .lit b=>K (b==want) ks
    | .sk=>K false ks
    | .cv v=>Dx v (K (true==want) {ks with tmps:=Cn d (.lit true) ks.tmps}) (K (false==want) {ks with tmps:=Cn d (.lit false) ks.tmps})
    | _=>none
   | none=>none
  | none=>none
noncomputable def vA (cfg:CR) (h:AB E) (ops:fq) (o:Av) (ks:Ao) (e:E) (K:Ao->E->Option R):Option R :=
 PR ops o ks fun b ks=>match b with
  | true=>Lt cfg h o ks e fun out e=>BX (FC ks o.dst out) fun ks=>K ks e
  | false=>BX (FC ks o.dst {v:=.sk}) fun ks=>K ks e
noncomputable def LO {E R:Type} (cfg:CR) (h:AB E) (ops:fq):fq->Ao->E->(Ao->E->Option R)->Option R
 | [],ks,e,K=>K ks e
 | o :: rest,ks,e,K=>vA cfg h ops o ks e fun ks e=>LO cfg h ops rest ks e K
def Nx (o:Aq):Bool:=o.gA.isNone&&o.kill.isNone&&o.gv.isEmpty&&o.gone.isEmpty&&o.gC.isEmpty&&o.slot.isNone
def TT (o:Aq):Bool:=o.gone.isEmpty&&o.gC.isEmpty&&o.slot.isNone&&!o.io
def SB (o:Aq):fh :=
 match o.gA with
 | some (J,_)=>[J]
 | none=>[]
def qP (ks:Ao) (s:Nat):KV :=
 match Nat.blt s ks.nt with
 | true=>AN ks.tmps s
 | false=>.un
def TV (op:Ak) (tm:Sp):Bool :=
 match op with
 | .call f args=>match f.kv tm with
  | .fT _=>(Cu (args.map (RX.kv tm))).isEmpty
  | _=>false
 | _=>false
def TW (σ:Nm->fw) (l:fh):fh:=l.flatMap fun J=>((σ J).map Ac.names).getD []
def Rb (o:Av) (ks:Ao) (out:Aq):fh :=
 if Dv o.op&&Nx out then [] else FB (AZ ks.fA) (EI o.op (Nx out)) (Cu (o.op.Z.map (RX.kv ks.tmps))++out.gv)
def Aq.out (o:Aq):Ai:={v:=o.v.pv,new:=o.new.map Ac.ob,gA:=o.gA.map fun p=>(p.1,p.2.ob),kill:=o.kill,gv:=o.gv,gone:=o.gone,gC:=o.gC.map fun p=>(p.1,p.2.ob),io:=o.io,slot:=o.slot}
def vB (ops:fq) (i:Nat) (o:Av) (ks:Ao) (out:Aq):Bf :=
 let A:=o.op.Z.map (RX.kv ks.tmps)
 {i,dst:=o.dst,reads:=HU o.op.Z++Ca ops o,rn:=Rb o ks out,rv:=if Jf o.op then [] else TW (AZ ks.fA) (Rb o ks out),
  cls:=if Cz o.op&&Ed A then (if TV o.op ks.tmps then .calls else .other) else if Nx out then .quiet else if TT out then .turns else if ES out.out then .ios else .other,
  on:=out.v.names++out.new.flatMap Ac.names,tch:=SB out++(out.gv++out.kill.toList),gv:=!(out.gv++out.kill.toList).isEmpty,
  vn:=(HU o.op.Z++Ca ops o).flatMap fun s=>(qP ks s).names
  nw:=out.out.new.isEmpty&&!Dd o.op,ld:=GC o.op ks.V.tmps out.out.v,jF:=out.out.gC.map fun p=>(p.1,Aa ks.V.fA p.1),aft:=out.out.gC,V:=HG o.dst o.op ks.V.tmps,sl:=out.out.slot.map fun r=>(r,(ks.V.fA.getD r []).length)}
noncomputable def TU (cfg:CR) (h:AB E) (ops:fq) (i:Nat) (o:Av) (ks:Ao) (e:E) (K:Ao->E->Bf->Option R):Option R :=
 PR ops o ks fun b ks=>match b with
  | true=>Lt cfg h o ks e fun out e=>BX (FC ks o.dst out) fun k1=>K k1 e (vB ops i o ks out)
  | false=>BX (FC ks o.dst {v:=.sk}) fun k1=>K k1 e {i,cls:=.quiet,dst:=o.dst,reads:=Ca ops o,rn:=[],vn:=(Ca ops o).flatMap fun s=>(qP ks s).names,nw:=!Dd o.op}
noncomputable def PS {E R:Type} (cfg:CR) (h:AB E) (ops:fq):List (Nat×Nat)->List Bf->Ao->E->(Ao->E->Option R)->Option R
 | [],_,ks,e,K=>K ks e
 |(i,jF) :: rest,infos,ks,e,K=>match ops[i]? with
  | some o=>TU cfg h ops i o ks e fun ks e info=>if (infos.all fun j=>jF.testBit j.i||G2 j info) then PS cfg h ops rest (info :: infos) ks e K else none
  | none=>none
def Dc (ds:fc) (ks:Ao):Ao :=
 if ds.all fun d=>(AV ks.fA d).isEmpty then ks
 else
  let ks:=Lu (fun m=>ds.contains m.1) ks
  {ks with fA:=I4 (fun i=>!ds.contains i) ks.fA}
def I9 (ks:Ao) (t:Nat):Bool:=Nat.blt t ks.nt&&(AV ks.fA t).isEmpty
def KJ (t:Nat) (ks:Ao) (J:Nm):Ao :=
  if J≠(t,0)/\I9 ks t=true then
   match AZ ks.fA J with
   | some ob =>
    let f:Nm->Nm:=fun m=>if m=J then (t,0) else m
    let fA:=Ei (Ac.fQ f) ks.fA
    {ks with tmps:=CY (KV.fQ f) ks.tmps,fA:=DI t [ob.fQ f] (jz fA J Fh),fD:=ks.fD.map (CY (KV.fQ f))}
   | none=>ks
  else ks
def IP (t:Nat) (ks:Ao):Ao :=
 match AN ks.tmps t with
 | .arr J _ _ _=>KJ t ks J
 | .iF J=>KJ t ks J
 | _=>ks
def Lw (J:Nm) (ty:Nat) (cs:ff) (i k:Nat) (ks:Ao):Ao :=
 let l:=AV ks.fA J.1
 {ks with fA:=DI J.1 (l.set J.2 (.cells ty (cs.set i (.arr (J.1,l.length) k 0 0)))++[.arr k 0 []]) ks.fA}
def KK (J m:Nm) (ks:Ao):Ao :=
 let l:=AV ks.fA J.1
 if m.1≠J.1 then
  match AZ ks.fA m with
  | some ob =>
   let f:Nm->Nm:=fun x=>if x=m then (J.1,l.length) else x
   let fA:=jz (Ei (Ac.fQ f) ks.fA) m Fh
   {ks with tmps:=CY (KV.fQ f) ks.tmps,fA:=DI J.1 (AV fA J.1++[ob.fQ f]) fA,fD:=ks.fD.map (CY (KV.fQ f))}
  | none=>ks
 else ks
def SD (J:Nm) (ty:Nat) (cs:ff) (i k:Nat) (ks:Ao) (K:Ao->Option R):Option R :=
 match cs[i]? with
 | some .gU=>K (Lw J ty cs i k ks)
 | some (.cv v)=>vk v (K (Lw J ty cs i k ks))
 | some (.arr m _ _ _)=>K (KK J m ks)
 | some (.iF m)=>K (KK J m ks)
 | _=>K ks
def TX (x off k:Nat) (ks:Ao) (K:Ao->Option R):Option R :=
 match AN ks.tmps x with
 | .ref J o=>match AZ ks.fA J with
  | some (.cells ty cs)=>SD J ty cs (o+off) k ks K
  | some (.whole _ v)=>AJ (S3 v (o+off)) (K ks)
  | _=>K ks
 | _=>K ks
def TY (t k:Nat) (ks:Ao) (K:Ao->Option R):Option R :=
 if Ev<=t then TX (t%Ev) (t / Ev - 1) k ks K
 else match AN ks.tmps t with
 | .gU=>K (if I9 ks t then {ks with tmps:=Cn t (.arr (t,0) k 0 0) ks.tmps,fA:=DI t [.arr k 0 []] ks.fA} else ks)
 | .cv v=>notNil v (K ks)
 | _=>K ks
def PT {R:Type}:List (Nat×Nat)->Ao->(Ao->Option R)->Option R
 | [],ks,K=>K ks
 |(t,k) :: l,ks,K=>TY t k ks fun ks=>PT l ks K
def HP (ks:Ao):fc :=
 let R:=Es ks.tmps++ks.fD.flatMap Es++GK ks.fA
 (ks.fA.filter fun p=>!p.2.isEmpty&&R.all fun J=>J.1 != p.1).map (·.1)
def N0 (gp:fc) (grow:List (Nat×Nat)) (ks:Ao) (K:Ao->Option R):Option R :=
 PT grow (gp.foldl (fun ks t=>IP t ks) ks) fun ks=>K (Dc (HP ks) ks)
def GS (R:fh):AO->AO
 | []=>[]
 |(j,u) :: l=>match u.take (G4 R j u.length) with
  | []=>GS R l
  | v :: A=>(j,v :: A) :: GS R l
def NY (ks:Ao):Ao:={ks with fA:=GS (Es ks.tmps++ks.fD.flatMap Es++GK ks.fA) ks.fA}
def Jn (k0:Ao) (ks:Ao):Ao :=
 let ks:={ks with tmps:=EN (Fg k0.tmps) ks.tmps}
 Dc (HP ks) ks
def Ki (live:Option fc) (ks:Ao):Ao :=
 match live with
 | none=>ks
 | some l =>
  let ks:={ks with tmps:=EN (fun i=>l.contains i) ks.tmps}
  Dc (HP ks) ks
def Lm:Ak->Bool
 | .mov _ | .pick _ _ _ | .build _ _ | .nilck _ | .bin _ _ _ _ _ | .un _ _ | .conv _ _ | .il _ | .ofBytes _ | .iU _ | .jG _ | .mkI _ _ | .lookup _ _ _ _ _ | .slice _ _ _ _ _ | .gM _ _ _
 | .fieldAddr _ _ | .field _ _ _ _ | .ic _ _ _ | .hJ _ _ _ _ | .iV _ _ | .extract _ _ | .len _ _ | .ij _ _ | .gZ _ _ _ _ | .load _ _ _=>true
 | _=>false
def XQ (ops:fq) (lv:Option fc):fb :=
 if (ops.any fun o=>o.guard.isSome)&&(ops.all fun o=>Lm o.op) then
  match lv with
  | some l=>match l.filter fun t=>(ops.filterMap (·.dst)).contains t with
   | [t]=>some t
   | _=>none
  | none=>none
 else none
def H3:fc->fa->Nat->Sp->Sp
 | p :: ps,A,i,tm=>H3 ps A (i+1) (Cn p (.cv (AL A i)) tm)
 | [],_,_,tm=>tm
def vC:Ex->Bool
 | .normal=>true
 | _=>false
def vD:Ex->Option Ex
 | .normal=>none
 | x=>some x
def H0:AU->fc
 | .seq a b=>H0 a++H0 b
 | .cond _ a b=>H0 a++H0 b
 | .block id b=>(H0 b).filter fun i=>i != id
 | .loop _ _ b=>H0 b
 | .rangeFunc _ _ _ b=>H0 b
 | .scope b=>H0 b
 | .exit id=>[id]
 | _=>[]
def Rc {R:Type}:fc->Option Ex->(Nat->Option R)->Option R
 | [],_,_=>none
 | id :: l,p,K=>HH (Yq p id) (K id) (Rc l p K)
abbrev vF (E:Type):=fa×Option Ex×E
def Yg (dep:Nat) (h:AB E) (body:fa->fa->E->Option (Bool×vF E)):AB (vF E):=fun l args r =>
 if l=dep then
  match r with
  |(A,none,e)=>body A args e
  | _=>none
 else
  match r with
  |(A,p,e)=>match h l args e with
   | some (b,e)=>some (b,(A,p,e))
   | none=>none
def PP (gp:fc) (grow:List (Nat×Nat)) (k0:Ao) (K:Ex->Ao->E->Option R) (x:Ex) (ks:Ao) (e:E):Option (Sum (fa×E) R) :=
 match x with
 | .normal=>N0 gp grow (Jn k0 ks) fun k1=>BX k1 fun k1=>if J9 k0 k1 then chks (Nv k0 k1) (some (.inl (D9 k0 k1,e))) else none
 | x=>AF (K x ks e) fun r=>some (.inr r)
noncomputable def Cp (cfg:CR):AU->{E R:Type}->AB E->Nat->Ao->E->(Ex->Ao->E->Option R)->Option R
 | .skip,_,_,_,_,ks,e,K=>K .normal ks e
 | .region ops none lv,E,_,h,_,ks,e,K =>
  BX (Dc (Bx ops) ks) fun ks =>
  match XQ ops lv with
  | some t=>AF (LO (E:=E) cfg h ops ops ks e fun ks _=>(AN ks.tmps t).cl) fun z=>BX (Ki lv {ks with tmps:=Cn t (.cv z) ks.tmps}) fun ks=>K .normal ks e
  | none=>LO cfg h ops ops ks e fun ks e=>BX (Ki lv ks) fun ks=>K .normal ks e
 | .region ops (some jF) lv,_,_,h,_,ks,e,K=>BX (Dc (Bx ops) ks) fun ks=>PS cfg h ops jF [] ks e fun ks e=>BX (Ki lv ks) fun ks=>K .normal ks e
 | .seq a b,_,_,h,dep,ks,e,K=>Cp cfg a h dep ks e fun x ks e=>match x with
  | .normal=>Cp cfg b h dep ks e K
  | x=>K x ks e
 | .cond c a b,_,_,h,dep,ks,e,K=>match c.kv ks.tmps with
  | .lit true=>Cp cfg a h dep ks e K
  | .lit false=>Cp cfg b h dep ks e K
  | .cv v=>Dx v (Cp cfg a h dep ks e K) (Cp cfg b h dep ks e K)
  | _=>none
 | .block id body,_,_,h,dep,ks,e,K=>Cp cfg body h dep ks e fun x ks e=>match x with
  | .exit jH=>if jH=id then K .normal ks e else K (.exit jH) ks e
  | x=>K x ks e
 | .loop gp grow body,E,R,h,dep,ks,e,K=>N0 gp grow ks fun k0=>BX k0 fun k0=>AJ (K3 (F8 k0.tmps k0.tmps))<|if J9 k0 k0=false then none else
  vt (σ:=fa×E) (ρ:=R) (fun s=>BX (BV k0 s.1) fun ks=>Cp cfg body h dep ks s.2 (PP gp grow k0 K)) (D9 k0 k0,e)
 | .rangeFunc f ps assign body,E,R,h,dep,ks,e,K =>
  match (f.kv ks.tmps).cl with
  | some fv=>if (ps.all fun p=>Nat.blt p ks.nt)&&J9 ks ks&&DN f then AF (vy (E:=vF E) cfg.b (Yg dep h fun A args e =>
    AJ (vo args ps.length) (
     BX (BV ks A) fun k0 =>
     BX {k0 with tmps:=H3 ps args 0 k0.tmps,fD:=k0.tmps :: k0.fD} fun k1 =>
     Cp cfg assign (R:=Bool×vF E) h (dep+1) k1 e fun x k1 e=>match x with
      | .normal=>Cp cfg body h (dep+1) k1 e fun x k2 e =>
       match k2.fD with
       | []=>none
       | sp :: kp =>
        BX {k2 with tmps:=sp,fD:=kp} fun k3 =>
        if J9 ks k3 then chks (Nv ks k3) (some (vC x,(D9 ks k3,vD x,e))) else none
      | _=>none)) dep fv (D9 ks ks,none,e)) fun r=>BX (BV ks r.1) fun k1 =>
    HH (isNoneE r.2.1) (K .normal k1 r.2.2) (HH (vq r.2.1) (K .ret k1 r.2.2)
     (Rc (H0 body) r.2.1 fun id=>K (.exit id) k1 r.2.2)) else none
  | none=>none
 | .exit id,_,_,_,_,ks,e,K=>K (.exit id) ks e
 | .scope b,_,_,h,dep,ks,e,K=>Cp cfg b h dep ks e fun x ks e=>match x with
  | .exit id=>if id < BK then K (.exit id) ks e else none
  | x=>K x ks e
 | .ret,_,_,_,_,ks,e,K=>K .ret ks e
 | .norm grow,_,_,_,_,ks,e,K=>N0 [] grow (NY ks) fun k0=>BX k0 fun k0=>K .normal k0 e
 | .kd _ _ _ _,_,_,_,_,_,_,_=>none
 | .bad,_,_,_,_,_,_,_=>none
def kisFn:KV->Bool
 | .fn _ _=>true
 | _=>false
def kisUn:KV->Bool
 | .un=>true
 | _=>false
noncomputable def Ey (cfg:CR) (nt:Nat):AU->{R:Type}->Ao->(Ex->Ao->fc->Option R)->Option R
 | .kd ops f args live,_,ks,K=>BX (Dc (Bx ops) ks) fun ks=>LO (E:=Unit) cfg Ar ops ops ks () fun ks _ =>
  if kisFn (f.kv ks.tmps)=true/\(Nat.ble (args.length+1) nt&&Nat.beq ks.nt nt)=true/\(f :: args).all DN=true/\(f.kv ks.tmps :: args.map (RX.kv ks.tmps)).any kisUn=false then
   BX (Ki live {ks with fD:=((f.kv ks.tmps :: args.map (RX.kv ks.tmps)).zipIdx.map fun p=>(p.2,p.1)) :: ks.fD}) fun ks=>K .normal ks [args.length]
  else none
 | .seq a b,_,ks,K=>Ey cfg nt a ks fun x ks l=>match x with
  | .normal=>Ey cfg nt b ks fun x ks l'=>K x ks (l'++l)
  | x=>K x ks l
 | .cond c a b,_,ks,K=>match c.kv ks.tmps with
  | .lit true=>Ey cfg nt a ks K
  | .lit false=>Ey cfg nt b ks K
  | .cv v=>Dx v (Ey cfg nt a ks K) (Ey cfg nt b ks K)
  | _=>none
 | .block id body,_,ks,K=>Ey cfg nt body ks fun x ks l=>match x with
  | .exit jH=>if jH=id then K .normal ks l else K (.exit jH) ks l
  | x=>K x ks l
 | .scope body,_,ks,K=>if Pb body then none else Ey cfg nt body ks fun x ks l=>match x with
  | .exit id=>if id < BK then K (.exit id) ks l else none
  | x=>K x ks l
 | c,_,ks,K=>Cp cfg c (E:=Unit) Ar 0 ks () fun x ks _=>K x ks []
noncomputable def Rk (cfg:CR) (nt:Nat) {R:Type}:fc->Ao->(Ao->Option R)->Option R
 | [],ks,K=>K ks
 | n :: l,ks,K=>match ks.fD with
  | []=>none
  | sp :: kp=>match AN sp 0 with
   | .fn f gg=>match cfg.pa (AG f) with
    | some P =>
     let Z:=Hq f ((List.range n).map fun j=>AN sp (j+1)) gg
     if cfg.flatF (AG f)=true/\(Nat.ble (n+1) nt&&Nat.beq ks.nt nt)=true/\Ec ks.fA=true then
      Ng cfg P (AG f) 0 (AZ ks.fA) Z fun out=>if out.new.isEmpty||out.slot.isSome then BX (FC {ks with fD:=kp} none out) fun ks=>Rk cfg nt l ks K else none
     else none
    | none=>none
   | _=>none
def vG (ks:Ao) (r:E5) (K:KV->Option R):Option R :=
 match r with
 | .tmp t=>K (AN ks.tmps t)
 | .cell t n ag=>match AN ks.tmps t with
  | .ref J o=>match AZ ks.fA J with
   | some (.cells _ cs)=>if ag then (if o+n<=cs.length then K (.agg ((cs.drop o).take n)) else none) else (match cs[o]? with | some c=>K c | none=>none)
   | some (.whole _ v)=>AF (vg v o n ag) fun z=>K (.cv z)
   | _=>none
  | _=>none
def I6 {R:Type} (ks:Ao):List E5->(ff->Option R)->Option R
 | [],K=>K []
 | r :: rs,K=>vG ks r fun v=>I6 ks rs fun A=>K (v :: A)
def I7:ff->KV
 | [v]=>v
 | A=>.fM A
def Hw:Nat->Bool
 | 0=>true
 | _=>false
def Ra:KV->fh
 | .arr J _ o _=>if Hw o then [J] else []
 | .iF J=>[J]
 | .agg cs=>cs.flatMap fun | .arr J _ o _=>if Hw o then [J] else [] | .iF J=>[J] | _=>[]
 | .fM Z=>Z.flatMap fun | .arr J _ o _=>if Hw o then [J] else [] | .iF J=>[J] | .agg cs=>cs.flatMap (fun | .arr J _ o _=>if Hw o then [J] else [] | .iF J=>[J] | _=>[]) | _=>[]
 | _=>[]
mutual
def B8:Bh->KV->fh
 | .own _,x=>match x with | .arr J _ _ _=>[J] | _=>[]
 | .opt _,x=>match x with | .arr J _ _ _=>[J] | _=>[]
 | .fM l,x=>match x with | .fM Z=>Gn l Z | _=>[]
 | .agg l,x=>match x with | .agg Z=>Gn l Z | _=>[]
 | .cl,_=>[]
def Gn:List Bh->ff->fh
 | s :: l,x :: Z=>B8 s x++Gn l Z
 | _,_=>[]
end
mutual
def EU {R:Type} (σ:Nm->fw) (S:fh):Bh->KV->(PV->Option R)->Option R
 | .cl,x,K=>match x.cl with
  | some u=>K u
  | none=>match x with
   | .fM Z=>match CT Z with
    | some us=>K (.fM us)
    | none=>if x.names.all fun J=>!S.contains J then AJ (okU (x.close (Cv σ Ax))) (K (x.close (Cv σ Ax))) else none
   | _=>if x.names.all fun J=>!S.contains J then AJ (okU (x.close (Cv σ Ax))) (K (x.close (Cv σ Ax))) else none
 | .own k,x,K=>match x with
  | .arr J k' o n=>match σ J with
   | some (.arr ku kt Z)=>if k=k'/\k=ku/\Hw o=true then AJ (sN n (Bd Z)) (K (.sl k Z false)) else none
   | _=>none
  | _=>none
 | .opt k,x,K=>match x with
  | .arr J k' o n=>match σ J with
   | some (.arr ku kt Z)=>if k=k'/\k=ku/\Hw o=true then AJ (sN n (Bd Z)) (K (.sl k Z false)) else none
   | _=>none
  | .gU=>K .fF
  | .cv v=>vk v (K .fF)
  | _=>none
 | .fM l,x,K=>match x with
  | .fM Z=>GV σ S l Z fun us=>K (.fM us)
  | _=>none
 | .agg l,x,K=>match x with
  | .agg Z=>GV σ S l Z fun us=>K (.agg us)
  | _=>none
def GV {R:Type} (σ:Nm->fw) (S:fh):List Bh->ff->(fa->Option R)->Option R
 | [],[],K=>K []
 | s :: l,x :: Z,K=>EU σ S s x fun u=>GV σ S l Z fun us=>K (u :: us)
 | _,_,_=>none
end
def K5 (shut:Bool) (v:KV):fh :=
 match shut with
 | true=>[]
 | false=>Ra v
def OO (ks:Ao) (shut:Bool) (sh:Bh) (v:KV) (K:PV->Option R):Option R :=
 let σ:=AZ ks.fA
 let S:=K5 shut v
 let R:=FB σ Ax (v.names.filter fun J=>!S.contains J)
 if S=B8 sh v/\Cy S=true/\(S.all fun J=>!R.contains J)=true/\Jl σ R=true then EU σ S sh v K else none
noncomputable def G6 (cfg:CR) (fn:Ad) (sh:Bh) (h:AB E) (dep:Nat) (args:ff) (e:E):Option (PV×E) :=
 BX {nt:=fn.nt,tmps:=args.zipIdx.map fun p=>(p.2,p.1),fA:=[],fD:=[]} fun ks=>Cp cfg fn.code h dep ks e fun x ks e=>match x with
  | .exit _=>none
  | _=>I6 ks fn.res fun A=>OO ks fn.shut sh (I7 A) fun v=>some (v,e)
def Lr:KV->Option Nm
 | .iF J=>some J
 | .arr J k o n=>if k=1/\o=0/\n=0 then some J else none
 | _=>none
def Kj (σ:Nm->fw) (B:List (Nm×Nm)) (J:Nm):Ac :=
 (((σ J).getD Fh).off fun m=>!(B.map (·.1)).contains m).fQ fun m=>(B.lookup m).getD m
def Pt (σ:Nm->fw) (zzb:List (Nm×Nm)) (v:KV):fh :=
 Bm ((FB σ Ax (v.names++zzb.flatMap fun p=>((σ p.1).map Ac.names).getD [])).filter fun m=>!(zzb.map (·.1)).contains m)
def IQ (k:Nat) (sp:Sp):List (Nm×Nm):=(DG k).zipIdx.map fun p=>((Lr (AN sp p.2)).getD (0,p.2),p.1)
def Pu (k:Nat) (sp:Sp):fh:=((DG k).zipIdx.filter fun p=>(Lr (AN sp p.2)).isNone).map (·.1)
def MJ (p x:Ac):fa :=
 match x with
 | .whole _ v=>[.agg (EQ v)]
 | x=>F9 p x
def MA:fi->fi->fa
 | x :: Z,y :: ys=>MJ x y++MA Z ys
 | _,_=>[]
def Nz (P:An) (ks:Ao) (v:KV):Option fa :=
 match ks.fD with
 | [sp] =>
  let zzb:=IQ P.ins.length sp
  let N:=Pt (AZ ks.fA) zzb v
  let B:=zzb++N.zipIdx.map fun p=>(p.1,(1,0+p.2))
  let u:=(v.off fun m=>!(B.map (·.1)).contains m).fQ fun m=>(B.lookup m).getD m
  let os:=zzb.map fun p=>Kj (AZ ks.fA) B p.1
  let ns:=N.map (Kj (AZ ks.fA) B)
  if Cy (B.map (·.1))=true/\Pu P.ins.length sp=P.gone.map (fun j=>(0,j))/\(A4 P.res u&&(DC P.outs os&&DC P.news ns))=true then
   some (BD P.res u++(MA P.outs os++MA P.news ns))
  else none
 | _=>none
noncomputable def PL (cfg:CR) (fn:Ad) (P:An) (A:fa):Option fa :=
 let a:=Ce P.args A 0
 let b:=Cc P.ins A a.2
 BX {nt:=fn.nt,tmps:=a.1.zipIdx.map fun p=>(p.2,p.1),fA:=[(0,b.1)],fD:=[((List.range P.ins.length).filter fun j=>!fn.gone.contains j).map fun j=>(j,.iF (0,j))]} fun ks =>
 if Cq fn.code then Cp (E:=Unit) cfg fn.code Ar 0 ks () fun x ks _=>match x with
  | .exit _=>none
  | _=>I6 ks fn.res fun A=>Nz P ks (I7 A)
 else Ey cfg fn.nt fn.code ks fun x ks l=>match x with
  | .exit _=>none
  | _=>Rk cfg fn.nt l ks fun ks=>I6 ks fn.res fun A=>Nz P ks (I7 A)
end Go.Ab


namespace Go.Ab
variable{i:Nat} {v x:PV} {ys:fa}
theorem DR {Z:fa}:Az Z=true↔∀ x∈Z,As x=true:=by
 induction Z with
 | nil=>simp[Az]
 | cons x Z ih=>simp[Az,ih]
mutual
theorem DS:∀ {v:PV},As v=true->v.names=[]/\v.gq=false
 | .undef,_ | .bool _,_ | .int _ _,_ | .str _,_ | .fF,_ | .gh,_ | .gH,_ | .fR,_ | .gF,_ | .gw _ _,_=>by simp[PV.names,PV.gq]
 | .sl _ Z _,h=>by simp only[As] at h;simp[PV.names,PV.gq,(BT h).2]
 | .ptr cs _,h=>by simp only[As] at h;simp[PV.names,PV.gq,(BT h).2]
 | .gz es,h=>by simp only[As] at h;simp[PV.names,PV.gq,(BT h).2]
 | .agg cs,h=>by simp only[As] at h;simp[PV.names,PV.gq,BT h]
 | .fn _ cap,h=>by simp only[As] at h;simp[PV.names,PV.gq,BT h]
 | .fM Z,h=>by simp only[As] at h;simp[PV.names,PV.gq,BT h]
 | .iface _ x,h=>by simp only[As] at h;simp[PV.names,PV.gq,DS h]
 | .fT _,h | .ref _ _,h | .fO _ _ _ _,h | .arr _ _ _ _,h | .mp _,h | .it _,h=>by simp[As] at h
theorem BT:∀ {Z:fa},Az Z=true->Al Z=[]/\A2 Z=false
 | [],_=>by simp[Al,A2]
 | x :: Z,h=>by
  simp only[Az,bz] at h;simp[Al,A2,DS h.1,BT h.2]
end
theorem IM (h:v.names=[]) (f:Nm->Option fe):v.sub f=v:=by rw[PV.sub_congr (g:=fun _=>none) v (by rw[h];simp)];exact iW v
where
 iW:∀ (x:PV),x.sub (fun _=>none)=x
  | .undef | .bool _ | .int _ _ | .str _ | .fF | .gh | .gH | .fR | .gF | .sl _ _ _ | .ptr _ _ | .fT _ | .gz _ | .gw _ _ | .ref _ _ | .fO _ _ _ _ | .arr _ _ _ _ | .mp _ | .it _=>by simp[PV.sub]
  | .agg cs=>by simp[PV.sub,ir cs]
  | .iface t x=>by simp[PV.sub,iW x]
  | .fn g cap=>by simp[PV.sub,ir cap]
  | .fM Z=>by simp[PV.sub,ir Z]
 ir:∀ (Z:fa),AE (fun _=>none) Z=Z
  | []=>rfl
  | x :: Z=>by simp[AE,iW x,ir Z]
mutual
theorem JS:∀ {v:PV},v.names=[]->∀ (f:Nm->Nm),v.fQ f=v
 | .undef,_,_ | .bool _,_,_ | .int _ _,_,_ | .str _,_,_ | .fF,_,_ | .gh,_,_ | .gH,_,_ | .fR,_,_ | .gF,_,_ | .sl _ _ _,_,_ | .ptr _ _,_,_ | .fT _,_,_ | .gz _,_,_ | .gw _ _,_,_=>by simp[PV.fQ]
 | .agg cs,h,f=>by simp[PV.names] at h;simp[PV.fQ,KH h f]
 | .iface t x,h,f=>by simp[PV.names] at h;simp[PV.fQ,JS h f]
 | .fn g cap,h,f=>by simp[PV.names] at h;simp[PV.fQ,KH h f]
 | .fM Z,h,f=>by simp[PV.names] at h;simp[PV.fQ,KH h f]
 | .ref _ _,h,_ | .fO _ _ _ _,h,_ | .arr _ _ _ _,h,_ | .mp _,h,_ | .it _,h,_=>by simp[PV.names] at h
theorem KH:∀ {Z:fa},Al Z=[]->∀ (f:Nm->Nm),AR f Z=Z
 | [],_,_=>rfl
 | x :: Z,h,f=>by simp[Al] at h;simp[AR,JS h.1 f,KH h.2 f]
end
mutual
def KV.ok:KV->Prop
 | .cv v=>As v=true
 | .agg cs=>AP cs
 | .iface _ x=>x.ok
 | .fn _ cap=>AP cap
 | .fM Z=>AP Z
 | .un | .sk | .lit _ | .gU | .fT _ | .ref _ _ | .fO _ _ _ _ | .arr _ _ _ _ | .mp _ | .it _ | .iF _=>True
def AP:ff->Prop
 | []=>True
 | x :: Z=>x.ok/\AP Z
end
theorem CC {Z:ff}:AP Z↔∀ x∈Z,x.ok:=by
 induction Z with
 | nil=>simp[AP]
 | cons x Z ih=>simp[AP,ih]
theorem Ea (Z:ff):Aw Z=Z.map KV.pv:=by
 induction Z with
 | nil=>rfl
 | cons x Z ih=>simp[Aw,ih]
mutual
theorem KV.iy:∀ {x:KV},x.ok->x.pv.names=x.names
 | .un,_ | .sk,_ | .lit _,_ | .gU,_ | .fT _,_ | .ref _ _,_ | .fO _ _ _ _,_ | .arr _ _ _ _,_ | .mp _,_ | .it _,_ | .iF _,_=>by simp[KV.pv,PV.names,KV.names,Al]
 | .cv v,h=>by simp[KV.pv,KV.names,(DS h).1]
 | .agg cs,h=>by simp[KV.pv,PV.names,KV.names,EH h]
 | .iface t x,h=>by simp[KV.pv,PV.names,KV.names,KV.iy (x:=x) h]
 | .fn f cap,h=>by simp[KV.pv,PV.names,KV.names,EH h]
 | .fM Z,h=>by simp[KV.pv,PV.names,KV.names,EH h]
theorem EH:∀ {Z:ff},AP Z->Al (Aw Z)=Cu Z
 | [],_=>rfl
 | x :: Z,h=>by simp[Aw,Al,Cu,KV.iy h.1,EH h.2]
end
mutual
theorem KV.pH:∀ {x:KV},x.ok->x.pv.gq=x.gq
 | .un,_ | .sk,_ | .lit _,_ | .gU,_ | .fT _,_ | .ref _ _,_ | .fO _ _ _ _,_ | .arr _ _ _ _,_ | .mp _,_ | .it _,_ | .iF _,_=>by simp[KV.pv,PV.gq,KV.gq,A2]
 | .cv v,h=>by simp[KV.pv,KV.gq,(DS h).2]
 | .agg cs,h=>by simp[KV.pv,PV.gq,KV.gq,JT h]
 | .iface t x,h=>by simp[KV.pv,PV.gq,KV.gq,KV.pH (x:=x) h]
 | .fn f cap,h=>by simp[KV.pv,PV.gq,KV.gq,JT h]
 | .fM Z,h=>by simp[KV.pv,PV.gq,KV.gq,JT h]
theorem JT:∀ {Z:ff},AP Z->A2 (Aw Z)=Ed Z
 | [],_=>rfl
 | x :: Z,h=>by simp[Aw,A2,Ed,KV.pH h.1,JT h.2]
end
mutual
theorem KV.iE:∀ {x:KV} {v:PV},x.cl=some v->x.pv=v
 | .lit b,v,h=>by simp[KV.cl] at h;simp[KV.pv,h]
 | .gU,v,h=>by simp[KV.cl] at h;simp[KV.pv,h]
 | .cv u,v,h=>by simp[KV.cl] at h;simp[KV.pv,h]
 | .agg cs,v,h=>by
  simp only[KV.cl,bB] at h;obtain⟨A,hv,rfl⟩:=h;simp[KV.pv,Ji hv]
 | .iface t x,v,h=>by
  simp only[KV.cl,bB] at h;obtain⟨u,hv,rfl⟩:=h;simp[KV.pv,KV.iE hv]
 | .fn f cap,v,h=>by
  simp only[KV.cl,bB] at h;obtain⟨A,hv,rfl⟩:=h;simp[KV.pv,Ji hv]
 | .un,v,h | .sk,v,h | .fT _,v,h | .ref _ _,v,h | .fO _ _ _ _,v,h | .arr _ _ _ _,v,h | .mp _,v,h | .it _,v,h | .iF _,v,h | .fM _,v,h=>by simp[KV.cl] at h
theorem Ji:∀ {Z:ff} {A:fa},CT Z=some A->Aw Z=A
 | [],A,h=>by simp[CT] at h;simp[Aw,h]
 | x :: Z,A,h=>by
  simp only[CT] at h;split at h;{rename_i v us U O;cases h;simp[Aw,KV.iE U,Ji O]};{cases h}
end
mutual
theorem KV.jf:∀ {x:KV} {v:PV},x.ok->x.cl=some v->As v=true
 | .lit b,v,_,h=>by simp[KV.cl] at h;subst h;rfl
 | .gU,v,_,h=>by simp[KV.cl] at h;subst h;rfl
 | .cv u,v,H,h=>by simp[KV.cl] at h;subst h;exact H
 | .agg cs,v,H,h=>by
  simp only[KV.cl,bB] at h;obtain⟨A,hv,rfl⟩:=h;simpa[As] using H7 (Z:=cs) H hv
 | .iface t x,v,H,h=>by
  simp only[KV.cl,bB] at h;obtain⟨u,hv,rfl⟩:=h;simpa[As] using KV.jf (x:=x) H hv
 | .fn f cap,v,H,h=>by
  simp only[KV.cl,bB] at h;obtain⟨A,hv,rfl⟩:=h;simpa[As] using H7 (Z:=cap) H hv
 | .un,v,_,h | .sk,v,_,h | .fT _,v,_,h | .ref _ _,v,_,h | .fO _ _ _ _,v,_,h | .arr _ _ _ _,v,_,h | .mp _,v,_,h | .it _,v,_,h | .iF _,v,_,h | .fM _,v,_,h=>by simp[KV.cl] at h
theorem H7:∀ {Z:ff} {A:fa},AP Z->CT Z=some A->Az A=true
 | [],A,_,h=>by simp[CT] at h;subst h;rfl
 | x :: Z,A,H,h=>by
  simp only[CT] at h;split at h;{rename_i v us U O;cases h;simp[Az,KV.jf H.1 U,H7 H.2 O]};{cases h}
end
def Hu (p:Nm->Bool):Nm->Option fe:=fun m=>if p m=true then some none else none
mutual
theorem KV.mv (p:Nm->Bool):∀ {x:KV},x.ok->(x.off p).pv=x.pv.sub (Hu p)
 | .un,_ | .sk,_ | .lit _,_ | .gU,_ | .fT _,_=>by simp[KV.off,KV.pv,PV.sub,AE]
 | .cv v,h=>by simp[KV.off,KV.pv,IM (DS h).1]
 | .ref J _,_ | .fO J _ _ _,_ | .arr J _ _ _,_ | .mp J,_ | .it J,_ | .iF J,_=>by
  simp only[KV.off,KV.pv,PV.sub,Hu];cases hp:p J<;>simp[KV.pv]
 | .agg cs,h=>by simp[KV.off,KV.pv,PV.sub,Na p h]
 | .iface t x,h=>by simp[KV.off,KV.pv,PV.sub,KV.mv p (x:=x) h]
 | .fn f cap,h=>by simp[KV.off,KV.pv,PV.sub,Na p h]
 | .fM Z,h=>by simp[KV.off,KV.pv,PV.sub,Na p h]
theorem Na (p:Nm->Bool):∀ {Z:ff},AP Z->Aw (Jx p Z)=AE (Hu p) (Aw Z)
 | [],_=>rfl
 | x :: Z,h=>by simp[Jx,Aw,AE,KV.mv p h.1,Na p h.2]
end
mutual
theorem KV.jE (p:Nm->Bool):∀ {x:KV},x.ok->(x.off p).ok
 | .un,_ | .sk,_ | .lit _,_ | .gU,_ | .fT _,_=>by simp[KV.off,KV.ok]
 | .cv v,h=>by simpa[KV.off,KV.ok] using h
 | .ref J _,_ | .fO J _ _ _,_ | .arr J _ _ _,_ | .mp J,_ | .it J,_ | .iF J,_=>by
  simp only[KV.off];cases hp:p J<;>simp[KV.ok]
 | .agg cs,h=>by simpa[KV.off,KV.ok] using Nb p h
 | .iface t x,h=>by simpa[KV.off,KV.ok] using KV.jE p (x:=x) h
 | .fn f cap,h=>by simpa[KV.off,KV.ok] using Nb p h
 | .fM Z,h=>by simpa[KV.off,KV.ok] using Nb p h
theorem Nb (p:Nm->Bool):∀ {Z:ff},AP Z->AP (Jx p Z)
 | [],_=>trivial
 | x :: Z,h=>⟨KV.jE p h.1,Nb p h.2⟩
end
mutual
theorem KV.mw (f:Nm->Nm):∀ {x:KV},x.ok->(x.fQ f).pv=x.pv.fQ f
 | .un,_ | .sk,_ | .lit _,_ | .gU,_ | .fT _,_ | .ref _ _,_ | .fO _ _ _ _,_ | .arr _ _ _ _,_ | .mp _,_ | .it _,_ | .iF _,_=>by simp[KV.fQ,KV.pv,PV.fQ,AR]
 | .cv v,h=>by simp[KV.fQ,KV.pv,JS (DS h).1]
 | .agg cs,h=>by simp[KV.fQ,KV.pv,PV.fQ,K1 f h]
 | .iface t x,h=>by simp[KV.fQ,KV.pv,PV.fQ,KV.mw f (x:=x) h]
 | .fn g cap,h=>by simp[KV.fQ,KV.pv,PV.fQ,K1 f h]
 | .fM Z,h=>by simp[KV.fQ,KV.pv,PV.fQ,K1 f h]
theorem K1 (f:Nm->Nm):∀ {Z:ff},AP Z->Aw (DY f Z)=AR f (Aw Z)
 | [],_=>rfl
 | x :: Z,h=>by simp[DY,Aw,AR,KV.mw f h.1,K1 f h.2]
end
mutual
theorem KV.iz (f:Nm->Nm):∀ {x:KV},x.ok->(x.fQ f).ok
 | .un,_ | .sk,_ | .lit _,_ | .gU,_ | .fT _,_ | .ref _ _,_ | .fO _ _ _ _,_ | .arr _ _ _ _,_ | .mp _,_ | .it _,_ | .iF _,_=>by simp[KV.fQ,KV.ok]
 | .cv v,h=>by simpa[KV.fQ,KV.ok] using h
 | .agg cs,h=>by simpa[KV.fQ,KV.ok] using KW f h
 | .iface t x,h=>by simpa[KV.fQ,KV.ok] using KV.iz f (x:=x) h
 | .fn g cap,h=>by simpa[KV.fQ,KV.ok] using KW f h
 | .fM Z,h=>by simpa[KV.fQ,KV.ok] using KW f h
theorem KW (f:Nm->Nm):∀ {Z:ff},AP Z->AP (DY f Z)
 | [],_=>trivial
 | x :: Z,h=>⟨KV.iz f h.1,KW f h.2⟩
end
def DH (g:Nm->fe):Nm->Option fe:=fun m=>some (g m)
mutual
theorem KV.jg (g:Nm->fe):∀ {x:KV},x.ok->x.close g=x.pv.sub (DH g)
 | .un,_ | .sk,_ | .lit _,_ | .gU,_ | .fT _,_=>by simp[KV.close,KV.pv,PV.sub,AE]
 | .cv v,h=>by simp[KV.close,KV.pv,IM (DS h).1]
 | .ref J o,_=>by
  simp only[KV.close,KV.pv,PV.sub,DH];cases g J with
  | none=>rfl
  | some ob=>cases ob<;>simp[ptrO]
 | .fO J k i o,_=>by
  simp only[KV.close,KV.pv,PV.sub,DH];cases g J with
  | none=>rfl
  | some ob =>
   cases ob with
   | arr k' kt Z =>
    simp only[vf];by_cases hk:k=k';{simp only[hk,eF];cases Z[i]?<;>rfl};{simp[hk]}
   | _=>rfl
 | .arr J k o n,_=>by
  simp only[KV.close,KV.pv,PV.sub,DH];cases g J with
  | none=>rfl
  | some ob=>cases ob<;>simp[slO]
 | .mp J,_=>by
  simp only[KV.close,KV.pv,PV.sub,DH];cases g J with
  | none=>rfl
  | some ob=>cases ob<;>rfl
 | .it J,_=>by simp[KV.close,KV.pv,PV.sub,DH]
 | .iF J,_=>by
  simp only[KV.close,KV.pv,PV.sub,DH];cases g J with
  | none=>rfl
  | some ob=>cases ob<;>simp[slO]
 | .agg cs,h=>by simp[KV.close,KV.pv,PV.sub,KO g h]
 | .iface t x,h=>by simp[KV.close,KV.pv,PV.sub,KV.jg g (x:=x) h]
 | .fn f cap,h=>by simp[KV.close,KV.pv,PV.sub,KO g h]
 | .fM Z,h=>by simp[KV.close,KV.pv,PV.sub,KO g h]
theorem KO (g:Nm->fe):∀ {Z:ff},AP Z->EP g Z=AE (DH g) (Aw Z)
 | [],_=>rfl
 | x :: Z,h=>by simp[EP,Aw,AE,KV.jg g h.1,KO g h.2]
end
def Do (p:Nm->Bool) (g:Nm->fe):Nm->Option fe:=fun m=>if p m=true then some (g m) else none
mutual
theorem KV.nJ (p:Nm->Bool) (g:Nm->fe):∀ {x:KV},x.ok->(x.gv p g).pv=x.pv.sub (Do p g)
 | .un,_ | .sk,_ | .lit _,_ | .gU,_ | .fT _,_=>by simp[KV.gv,KV.pv,PV.sub,AE]
 | .cv v,h=>by simp[KV.gv,KV.pv,IM (DS h).1]
 | .ref J o,_=>by
  cases hp:p J with
  | false=>simp[KV.gv,hp,KV.pv,PV.sub,Do]
  | true =>
   have:=KV.jg g (x:=.ref J o) trivial;simp only[KV.gv,hp,eF,KV.pv];rw[this];simp[KV.pv,PV.sub,Do,DH,hp]
 | .fO J k i o,_=>by
  cases hp:p J with
  | false=>simp[KV.gv,hp,KV.pv,PV.sub,Do]
  | true =>
   have:=KV.jg g (x:=.fO J k i o) trivial;simp only[KV.gv,hp,eF,KV.pv];rw[this];simp[KV.pv,PV.sub,Do,DH,hp]
 | .arr J k o n,_=>by
  cases hp:p J with
  | false=>simp[KV.gv,hp,KV.pv,PV.sub,Do]
  | true =>
   have:=KV.jg g (x:=.arr J k o n) trivial;simp only[KV.gv,hp,eF,KV.pv];rw[this];simp[KV.pv,PV.sub,Do,DH,hp]
 | .mp J,_=>by
  cases hp:p J with
  | false=>simp[KV.gv,hp,KV.pv,PV.sub,Do]
  | true =>
   have:=KV.jg g (x:=.mp J) trivial;simp only[KV.gv,hp,eF,KV.pv];rw[this];simp[KV.pv,PV.sub,Do,DH,hp]
 | .it J,_=>by
  cases hp:p J with
  | false=>simp[KV.gv,hp,KV.pv,PV.sub,Do]
  | true=>simp[KV.gv,hp,KV.pv,PV.sub,Do]
 | .iF J,_=>by
  cases hp:p J with
  | false=>simp[KV.gv,hp,KV.pv,PV.sub,Do]
  | true =>
   have:=KV.jg g (x:=.iF J) trivial;simp only[KV.gv,hp,eF,KV.pv];rw[this];simp[KV.pv,PV.sub,Do,DH,hp]
 | .agg cs,h=>by simp[KV.gv,KV.pv,PV.sub,Nh p g h]
 | .iface t x,h=>by simp[KV.gv,KV.pv,PV.sub,KV.nJ p g (x:=x) h]
 | .fn f cap,h=>by simp[KV.gv,KV.pv,PV.sub,Nh p g h]
 | .fM Z,h=>by simp[KV.gv,KV.pv,PV.sub,Nh p g h]
theorem Nh (p:Nm->Bool) (g:Nm->fe):∀ {Z:ff},AP Z->Aw (Jz p g Z)=AE (Do p g) (Aw Z)
 | [],_=>rfl
 | x :: Z,h=>by simp[Jz,Aw,AE,KV.nJ p g h.1,Nh p g h.2]
end
def Ob.shut (o:Ob):Prop :=
 match o with
 | .cells _ cs=>Az cs=true
 | .arr _ _ Z=>Az Z=true
 | .map es=>Az es=true
 | .fW _ _=>True
theorem CG (h:As v=true):Az v.cells=true:=by cases v<;>simp_all [PV.cells,Az,As]
theorem Pr {Z:fa} (h:Az Z=true) (hs:∀ y∈ys,y∈Z):Az ys=true:=DR.2 fun y hy=>DR.1 h y (hs y hy)
theorem GH {Z:fa} (h:Az Z=true) (n:Nat):Az (Z.take n)=true:=Pr h fun _ hy=>cC hy
theorem HM {Z:fa} (h:Az Z=true) (n:Nat):Az (Z.drop n)=true:=Pr h fun _ hy=>cO hy
theorem Hg {Z:fa} (h:Az Z=true) (h':Az ys=true):Az (Z++ys)=true :=
 DR.2 fun y hy=>(bS.1 hy).elim (DR.1 h y) (DR.1 h' y)
theorem Hm {Z:fa} (h:Az Z=true) (H:Z[i]?=some x):As x=true:=DR.1 h x (bJ H)
theorem Xo {Z:fa} (h:Az Z=true) (i:Nat) (H:As x=true):Az (Z.set i x)=true :=
 DR.2 fun y hy=>(dG hy).elim (DR.1 h y) fun e=>e ▸ H
mutual
theorem KV.iO {g:Nm->fe} (hg:∀ J ob,g J=some ob->ob.shut):∀ {x:KV},x.ok->x.gq=false->As (x.close g)=true
 | .un,_,_ | .sk,_,_ | .lit _,_,_ | .gU,_,_=>by simp[KV.close,As,Az]
 | .fT _,_,h=>by simp[KV.gq] at h
 | .cv v,h,_=>by have:As v=true:=h;simpa[KV.close] using this
 | .ref J o,_,_=>by
  simp only[KV.close];cases hn:g J with
  | none=>rfl
  | some ob =>
   cases ob with
   | cells ty cs =>
    have:Az cs=true:=hg _ _ hn;simp only[ptrO];split;{simpa[As] using this};{rfl}
   | _=>rfl
 | .fO J k i o,_,_=>by
  simp only[KV.close];cases hn:g J with
  | none=>rfl
  | some ob =>
   cases ob with
   | arr k' kt Z =>
    have:Az Z=true:=hg _ _ hn;simp only[vf];split;{split;{rename_i x H;split;{simpa[As] using CG (Hm this H)};{rfl}};{rfl}};{rfl}
   | _=>rfl
 | .arr J k o n,_,_=>by
  simp only[KV.close];cases hn:g J with
  | none=>rfl
  | some ob =>
   cases ob with
   | arr k' kt Z =>
    have:Az Z=true:=hg _ _ hn;simp only[slO];split;{simpa[As] using GH (HM this o) n};{rfl}
   | _=>rfl
 | .mp J,_,_=>by
  simp only[KV.close];cases hn:g J with
  | none=>rfl
  | some ob =>
   cases ob with
   | map es =>
    have:Az es=true:=hg _ _ hn;simpa[As] using this
   | _=>rfl
 | .it J,_,_=>by simp[KV.close,As,PV.names,PV.gq]
 | .iF J,_,_=>by
  simp only[KV.close];cases hn:g J with
  | none=>rfl
  | some ob =>
   cases ob with
   | arr k' kt Z =>
    have:Az Z=true:=hg _ _ hn;simp only[slO];split;{simpa[As] using GH (HM this 0) 0};{rfl}
   | _=>rfl
 | .agg cs,h,hy=>by simpa[KV.close,As] using IJ hg (Z:=cs) h (by simpa[KV.gq] using hy)
 | .iface t x,h,hy=>by simpa[KV.close,As] using KV.iO hg (x:=x) h (by simpa[KV.gq] using hy)
 | .fn f cap,h,hy=>by simpa[KV.close,As] using IJ hg (Z:=cap) h (by simpa[KV.gq] using hy)
 | .fM Z,h,hy=>by simpa[KV.close,As] using IJ hg (Z:=Z) h (by simpa[KV.gq] using hy)
theorem IJ {g:Nm->fe} (hg:∀ J ob,g J=some ob->ob.shut):∀ {Z:ff},AP Z->Ed Z=false->Az (EP g Z)=true
 | [],_,_=>rfl
 | x :: Z,h,hy=>by
  simp only[Ed,di] at hy;simp[EP,Az,KV.iO hg h.1 hy.1,IJ hg h.2 hy.2]
end
mutual
theorem KV.kQ {p:Nm->Bool} {g:Nm->fe} (hg:∀ J ob,g J=some ob->ob.shut):∀ {x:KV},x.ok->(x.gv p g).ok
 | .un,_ | .sk,_ | .lit _,_ | .gU,_ | .fT _,_=>by simp[KV.gv,KV.ok]
 | .cv v,h=>by simpa[KV.gv,KV.ok] using h
 | .ref J o,_=>by
  simp only[KV.gv];split;{exact KV.iO hg (x:=.ref J o) trivial rfl};{trivial}
 | .fO J k i o,_=>by
  simp only[KV.gv];split;{exact KV.iO hg (x:=.fO J k i o) trivial rfl};{trivial}
 | .arr J k o n,_=>by
  simp only[KV.gv];split;{exact KV.iO hg (x:=.arr J k o n) trivial rfl};{trivial}
 | .mp J,_=>by
  simp only[KV.gv];split;{exact KV.iO hg (x:=.mp J) trivial rfl};{trivial}
 | .it J,_=>by
  simp only[KV.gv];split<;>trivial
 | .iF J,_=>by
  simp only[KV.gv];split;{exact KV.iO hg (x:=.iF J) trivial rfl};{trivial}
 | .agg cs,h=>by simpa[KV.gv,KV.ok] using Ni hg h
 | .iface t x,h=>by simpa[KV.gv,KV.ok] using KV.kQ hg (x:=x) h
 | .fn f cap,h=>by simpa[KV.gv,KV.ok] using Ni hg h
 | .fM Z,h=>by simpa[KV.gv,KV.ok] using Ni hg h
theorem Ni {p:Nm->Bool} {g:Nm->fe} (hg:∀ J ob,g J=some ob->ob.shut):∀ {Z:ff},AP Z->AP (Jz p g Z)
 | [],_=>trivial
 | x :: Z,h=>⟨KV.kQ hg h.1,Ni hg h.2⟩
end
end Go.Ab


namespace Go.Ab
variable{f:KV->KV} {g:Nm->Option fe} {i j nt:Nat} {l:Sp} {J:Nm} {p:Nat×KV} {v:KV}
theorem Cb (h:Nat.beq i j=true):i=j:=ch h
theorem Fy (h:Nat.beq i j=false):i≠j:=eg h
theorem Su (i:Nat) (v:KV):∀ (l:Sp) (j:Nat),AN (Cn i v l) j=if j=i then v else AN l j:=by
 intro l;induction l with
 | nil =>
  intro j;simp only[Cn,AN];cases h:Nat.beq j i with
  | true=>simp[Cb h]
  | false=>simp[Fy h]
 | cons p l ih =>
  obtain⟨k,u⟩:=p;intro j;simp only[Cn];cases h:Nat.beq i k with
  | true =>
   have:=Cb h;subst this;simp only[AN];cases O:Nat.beq j i with
   | true=>simp[Cb O]
   | false=>simp[Fy O]
  | false =>
   cases h3:Nat.blt i k with
   | true =>
    simp only[AN];cases O:Nat.beq j i with
    | true=>simp[Cb O]
    | false=>simp[Fy O]
   | false =>
    simp only[AN];cases O:Nat.beq j k with
    | true =>
     have h4:=Cb O;have h5:=Fy h;subst h4;simp[bW h5]
    | false=>exact ih j
theorem qQ (i:Nat):∀ (l:Sp) (j:Nat),AN (Jk i l) j=if j=i then .un else AN l j:=by
 intro l;induction l with
 | nil=>intro j;simp[Jk,AN]
 | cons p l ih =>
  obtain⟨k,u⟩:=p;intro j;simp only[Jk];cases h:Nat.beq i k with
  | true =>
   have:=Cb h;subst this;simp only[AN];rw[ih j];cases O:Nat.beq j i with
   | true=>simp[Cb O]
   | false=>simp[Fy O]
  | false =>
   simp only[AN];cases O:Nat.beq j k with
   | true =>
    have h4:=Cb O;have h5:=Fy h;subst h4;simp[bW h5]
   | false=>exact ih j
theorem qR (i:Nat) (v:KV) (l:Sp) (j:Nat):AN (LJ i v l) j=if j=i then v else AN l j:=by unfold LJ;split;{exact qQ i l j};{exact Su i v l j}
theorem ac (p:Nat->Bool):∀ (l:Sp) (j:Nat),AN (EN p l) j=if p j=true then AN l j else .un:=by
 intro l;induction l with
 | nil=>intro j;simp[EN,AN]
 | cons q l ih =>
  obtain⟨k,u⟩:=q;intro j;simp only[EN];cases hp:p k with
  | true =>
   simp only[AN];cases O:Nat.beq j k with
   | true=>have:=Cb O;subst this;simp[hp]
   | false=>exact ih j
  | false =>
   simp only[AN];rw[ih j];cases O:Nat.beq j k with
   | true=>have:=Cb O;subst this;simp[hp]
   | false=>rfl
def EW:KV->Bool
 | .un=>true
 | _=>false
structure Bo (nt:Nat) (l:Sp):Prop where
 mT:(l.map (·.1)).Pairwise (· < ·)
 lt:∀ p∈l,p.1 < nt
 ok:∀ p∈l,p.2.ok
 nu:∀ p∈l,EW p.2=false
theorem Bo.nil (nt:Nat):Bo nt []:=⟨.nil,by simp,by simp,by simp⟩
theorem Bo.tail (h:Bo nt (p :: l)):Bo nt l :=
 ⟨(cz.1 h.mT).2,fun q hq=>h.lt q (by simp[hq]),fun q hq=>h.ok q (by simp[hq]),fun q hq=>h.nu q (by simp[hq])⟩
theorem Sv (h:∀ p∈l,p.1≠i):AN l i=.un:=by
 induction l with
 | nil=>rfl
 | cons p l ih =>
  obtain⟨k,u⟩:=p;simp only[AN];cases O:Nat.beq i k with
  | true=>exact eQ (Cb O).symm (h (k,u) (by simp))
  | false=>exact ih fun q hq=>h q (by simp[hq])
theorem Bo.get_mem (h:Bo nt l) (hp:p∈l):AN l p.1=p.2:=by
 induction l with
 | nil=>cases hp
 | cons q l ih =>
  obtain⟨k,u⟩:=q;simp only[AN];rcases bE.1 hp with rfl | hp';{simp}
  ·have U:=(cz.1 h.mT).1 p.1 (bA.2 ⟨p,hp',rfl⟩);simp only at U;cases O:Nat.beq p.1 k with
   | true=>have:=Cb O;omega
   | false=>exact ih h.tail hp'
theorem MD (h:AN l i≠.un):(i,AN l i)∈l:=by
 induction l with
 | nil=>exact eQ rfl h
 | cons p l ih =>
  obtain⟨k,u⟩:=p;simp only[AN] at h |-;cases O:Nat.beq i k with
  | true=>have:=Cb O;subst this;simp
  | false=>rw[O] at h;simp only at h |-;exact bM _ (ih h)
theorem W5 (x:KV):x=.un\/x≠.un:=by cases x<;>simp
theorem Bo.hZ (h:Bo nt l) (i:Nat):(AN l i).ok:=by rcases W5 (AN l i) with U | U;{rw[U];trivial};{exact h.ok _ (MD U)}
theorem Bo.kR (h:Bo nt l) (hi:nt<=i):AN l i=.un:=by rcases W5 (AN l i) with U | U;{exact U};{have:=h.lt _ (MD U);simp only at this;omega}
theorem OJ:∀ {l:Sp} {p:Nat×KV},p∈Cn i v l->p=(i,v)\/p∈l:=by
 intro l;induction l with
 | nil=>intro p hp;simp[Cn] at hp;exact .inl hp
 | cons q l ih =>
  obtain⟨k,u⟩:=q;intro p hp;simp only[Cn] at hp;cases h:Nat.beq i k with
  | true =>
   rw[h] at hp;simp only[bE] at hp |-;rcases hp with rfl | hp;{exact .inl rfl};{exact .inr (.inr hp)}
  | false =>
   rw[h] at hp;cases h3:Nat.blt i k with
   | true =>
    rw[h3] at hp;simp only[bE] at hp |-;rcases hp with rfl | hp | hp;{exact .inl rfl};{exact .inr (.inl hp)};{exact .inr (.inr hp)}
   | false =>
    rw[h3] at hp;simp only[bE] at hp |-;rcases hp with rfl | hp;{exact .inr (.inl rfl)};{exact (ih hp).imp id .inr}
theorem qS:∀ {l:Sp},(l.map (·.1)).Pairwise (· < ·)->((Cn i v l).map (·.1)).Pairwise (· < ·):=by
 intro l;induction l with
 | nil=>intro _;simp[Cn]
 | cons q l ih =>
  obtain⟨k,u⟩:=q;intro h;have U:=cz.1 h;simp only[Cn];cases O:Nat.beq i k with
  | true =>
   have:=Cb O;subst this;exact cz.2 ⟨U.1,U.2⟩
  | false =>
   cases h3:Nat.blt i k with
   | true =>
    have h4:i < k:=by simpa[cr] using h3
    refine cz.2 ⟨fun a ha=>?_,h⟩;simp only[bP,bE] at ha;rcases ha with rfl | ha;{exact h4};{exact Nat.lt_trans h4 (U.1 a ha)}
   | false =>
    have h5:=Fy O;have h4:¬ i < k:=by intro h6;rw[show Nat.blt i k=true by simpa[cr] using h6] at h3;cases h3
    refine cz.2 ⟨fun a ha=>?_,ih U.2⟩;obtain⟨p,hp,rfl⟩:=bA.1 ha;rcases OJ hp with rfl | hp;{simp only;omega};{exact U.1 _ (bA.2 ⟨p,hp,rfl⟩)}
theorem Bo.put (h:Bo nt l) (hi:i < nt) (hv:v.ok) (hu:EW v=false):Bo nt (Cn i v l) where
 mT:=qS h.mT
 lt p hp:=(OJ hp).elim (fun e=>by rw[e];exact hi) (h.lt p)
 ok p hp:=(OJ hp).elim (fun e=>by rw[e];exact hv) (h.ok p)
 nu p hp:=(OJ hp).elim (fun e=>by rw[e];exact hu) (h.nu p)
theorem qT (i:Nat):∀ (l:Sp),(Jk i l).Sublist l:=by
 intro l;induction l with
 | nil=>exact .slnil
 | cons q l ih =>
  obtain⟨k,u⟩:=q;simp only[Jk];cases Nat.beq i k with
  | true=>exact .cons _ ih
  | false=>exact .cons_cons _ ih
theorem ab (p:Nat->Bool):∀ (l:Sp),(EN p l).Sublist l:=by
 intro l;induction l with
 | nil=>exact .slnil
 | cons q l ih =>
  obtain⟨k,u⟩:=q;simp only[EN];cases p k with
  | true=>exact .cons_cons _ ih
  | false=>exact .cons _ ih
theorem Bo.sub {l':Sp} (h:Bo nt l) (hs:l'.Sublist l):Bo nt l' :=
 ⟨h.mT.sublist (hs.map _),fun p hp=>h.lt p (hs.subset hp),fun p hp=>h.ok p (hs.subset hp),fun p hp=>h.nu p (hs.subset hp)⟩
theorem Bo.set (h:Bo nt l) (hi:i < nt) (hv:v.ok):Bo nt (LJ i v l):=by unfold LJ;split;{exact h.sub (qT i l)};{rename_i hu;refine h.put hi hv ?_;cases v<;>simp_all [EW]}
theorem aa (f:KV->KV):∀ (l:Sp),((CY f l).map (·.1)).Sublist (l.map (·.1)):=by
 intro l;induction l with
 | nil=>exact .slnil
 | cons q l ih =>
  obtain⟨k,u⟩:=q;simp only[CY];split;{exact .cons _ ih};{exact .cons_cons _ ih}
theorem OK:∀ {l:Sp} {p:Nat×KV},p∈CY f l->∃ q∈l,p=(q.1,f q.2)/\EW p.2=false:=by
 intro l;induction l with
 | nil=>intro p hp;cases hp
 | cons q l ih =>
  obtain⟨k,u⟩:=q;intro p hp;simp only[CY] at hp;split at hp;{obtain⟨q,hq,h⟩:=ih hp;exact⟨q,by simp[hq],h⟩};{rename_i gj;rcases bE.1 hp with rfl | hp;{exact⟨(k,u),by simp,rfl,by cases hf:f u<;>simp_all [EW]⟩};{obtain⟨q,hq,h⟩:=ih hp;exact⟨q,by simp[hq],h⟩}}
theorem Bo.map (h:Bo nt l) (hf:∀ x:KV,x.ok->(f x).ok):Bo nt (CY f l) where
 mT:=h.mT.sublist (aa f l)
 lt p hp:=by obtain⟨q,hq,rfl,_⟩:=OK hp;exact h.lt q hq
 ok p hp:=by obtain⟨q,hq,rfl,_⟩:=OK hp;exact hf _ (h.ok q hq)
 nu p hp:=by obtain⟨q,hq,_,h⟩:=OK hp;exact h
theorem Wc (hf:f .un=.un):∀ {l:Sp} (_:Bo nt l) (i:Nat),AN (CY f l) i=f (AN l i):=by
 intro l;induction l with
 | nil=>intro _ i;simp[CY,AN,hf]
 | cons q l ih =>
  obtain⟨k,u⟩:=q;intro h i;have U:=cz.1 h.mT;simp only[CY,AN];split
  ·rename_i hu;cases O:Nat.beq i k with
   | true =>
    have:=Cb O;subst this;simp only
    rw[hu];refine Sv fun p hp=>?_;obtain⟨q,hq,rfl,_⟩:=OK hp;have:=U.1 q.1 (bA.2 ⟨q,hq,rfl⟩);simp only at this |-;omega
   | false=>exact ih h.tail i
  ·simp only[AN];cases O:Nat.beq i k with
   | true=>rfl
   | false=>exact ih h.tail i
theorem qU:Fg l i=true↔∃ p∈l,p.1=i:=by
 induction l with
 | nil=>simp[Fg]
 | cons q l ih =>
  obtain⟨k,u⟩:=q;simp only[Fg];cases O:Nat.beq i k with
  | true=>simp[Cb O]
  | false=>simp[ih,bW (Fy O)]
theorem Zq:J∈Es l↔∃ p∈l,J∈p.2.names:=by
 induction l with
 | nil=>simp[Es]
 | cons q l ih=>obtain⟨k,u⟩:=q;simp[Es,ih]
theorem Bo.pI (h:Bo nt l) (i:Nat):Fg l i=true↔AN l i≠.un:=by rw[qU];constructor;{rintro ⟨p,hp,rfl⟩ hu;rw[h.get_mem hp] at hu;have:=h.nu p hp;rw[hu] at this;cases this};{intro hu;exact⟨_,MD hu,rfl⟩}
theorem gx (nt:Nat) (l:Sp) (i:Nat):(Bc nt l)[i]?=if i < nt then some (AN l i).pv else none:=by unfold Bc;rw[bK];split;{rename_i h;rw[cN h];rfl};{rename_i h;rw[cg (by simpa using h)];rfl}
theorem Dk (nt:Nat) (l:Sp):(Bc nt l).length=nt:=by simp[Bc]
theorem JK (h:Bo nt l) (i:Nat):(Bc nt l).getD i .undef=(AN l i).pv:=by rw[bF,gx];split;{rfl};{rename_i hi;rw[h.kR (by omega)];rfl}
theorem JR {Z:fa} (hl:Z.length=nt) (h:∀ i,i < nt->Z[i]?=some (AN l i).pv):Bc nt l=Z:=by apply cj;intro i;rw[gx];split;{rename_i hi;exact (h i hi).symm};{rename_i hi;rw[cg (by omega)]}
theorem WT (d:Nat) (v:KV):Bc nt (LJ d v l)=(Bc nt l).set d v.pv:=by refine JR (by simp[Dk]) fun i hi=>?_;rw[dY,Dk,gx,qR];by_cases h:d=i;{subst h;simp[hi]};{simp[h,bW h,hi]}
theorem OZ (d:Nat) (v:KV):Bc nt (Cn d v l)=(Bc nt l).set d v.pv:=by refine JR (by simp[Dk]) fun i hi=>?_;rw[dY,Dk,gx,Su];by_cases h:d=i;{subst h;simp[hi]};{simp[h,bW h,hi]}
theorem O1 (h:Bo nt l) (hu:f .un=.un) (hf:∀ x:KV,x.ok->(f x).pv=x.pv.sub g) :
  Bc nt (CY f l)=AE g (Bc nt l):=by
 refine JR (by rw[Oi,Dk]) fun i hi=>?_;rw[mO,gx,Wc hu h,eH hi,hf _ (h.hZ i)];rfl
theorem Zx (f:Nm->Nm) (Z:fa):(AR f Z).length=Z.length:=by
 induction Z with
 | nil=>rfl
 | cons x Z ih=>simp[AR,ih]
theorem mV (f:Nm->Nm) (Z:fa) (i:Nat):(AR f Z)[i]?=(Z[i]?).map (PV.fQ f):=by
 induction Z generalizing i with
 | nil=>rfl
 | cons x Z ih=>cases i<;>simp[AR,ih]
theorem OY (h:Bo nt l) (f:Nm->Nm):Bc nt (CY (KV.fQ f) l)=AR f (Bc nt l):=by refine JR (by rw[Zx,Dk]) fun i hi=>?_;rw[mV,gx,Wc (by simp[KV.fQ]) h,eH hi,KV.mw f (h.hZ i)];rfl
theorem Oo (h:Bo nt l) (J:Nm):J∈Al (Bc nt l)↔J∈Es l:=by
 have hm:∀ (Z:fa),J∈Al Z↔∃ x∈Z,J∈x.names:=by
  intro Z;induction Z with
  | nil=>simp[Al]
  | cons x Z ih=>simp[Al,ih]
 rw[hm,Zq];constructor
 ·rintro ⟨x,H,hn⟩;obtain⟨i,hi⟩:=List.getElem?_of_mem H;rw[gx] at hi;split at hi
  ·cases hi;rw[KV.iy (h.hZ i)] at hn;have gj:AN l i≠.un:=by intro hu;rw[hu] at hn;simp[KV.names] at hn
   exact⟨_,MD gj,hn⟩
  {cases hi}
 {rintro ⟨p,hp,hn⟩;have:=h.get_mem hp;refine⟨p.2.pv,bJ (i:=p.1) ?_,?_⟩;{rw[gx,eH (h.lt p hp),this]};{rw[KV.iy (h.ok p hp)];exact hn}}
def Ac.ok:Ac->Prop
 | .cells _ cs=>AP cs
 | .whole _ v=>As v=true
 | .arr _ _ Z=>Az Z=true
 | .map es=>Az es=true
 | .fW _ _=>True
structure Bg (nt:Nat) (l:AO):Prop where
 mT:(l.map (·.1)).Pairwise (· < ·)
 lt:∀ p∈l,p.1 < nt
 ok:∀ p∈l,∀ o∈p.2,o.ok
theorem Bg.nil (nt:Nat):Bg nt []:=⟨.nil,by simp,by simp⟩
variable{l:AO} {p:Nat×fi}
theorem Bg.tail (h:Bg nt (p :: l)):Bg nt l :=
 ⟨(cz.1 h.mT).2,fun q hq=>h.lt q (by simp[hq]),fun q hq=>h.ok q (by simp[hq])⟩
theorem Ac.jv {o:Ac} (h:o.ok):o.ob.names=o.names:=by
 cases o with
 | cells ty cs=>exact EH h
 | whole ty v=>exact (BT (CG h)).1
 | map es=>exact (BT h).1
 | _=>rfl
theorem qV (i:Nat) (v:fi):∀ (l:AO) (j:Nat),AV (DI i v l) j=if j=i then v else AV l j:=by
 intro l;induction l with
 | nil =>
  intro j;simp only[DI,AV];cases h:Nat.beq j i with
  | true=>simp[Cb h]
  | false=>simp[Fy h]
 | cons p l ih =>
  obtain⟨k,u⟩:=p;intro j;simp only[DI];cases h:Nat.beq i k with
  | true =>
   have:=Cb h;subst this;simp only[AV];cases O:Nat.beq j i with
   | true=>simp[Cb O]
   | false=>simp[Fy O]
  | false =>
   cases h3:Nat.blt i k with
   | true =>
    simp only[AV];cases O:Nat.beq j i with
    | true=>simp[Cb O]
    | false=>simp[Fy O]
   | false =>
    simp only[AV];cases O:Nat.beq j k with
    | true =>
     have h4:=Cb O;have h5:=Fy h;subst h4;simp[bW h5]
    | false=>exact ih j
theorem ai (p:Nat->Bool):∀ (l:AO) (j:Nat),AV (I4 p l) j=if p j=true then AV l j else []:=by
 intro l;induction l with
 | nil=>intro j;simp[I4,AV]
 | cons q l ih =>
  obtain⟨k,u⟩:=q;intro j;simp only[I4];cases hp:p k with
  | true =>
   simp only[AV];cases O:Nat.beq j k with
   | true=>have:=Cb O;subst this;simp[hp]
   | false=>exact ih j
  | false =>
   simp only[AV];rw[ih j];cases O:Nat.beq j k with
   | true=>have:=Cb O;subst this;simp[hp]
   | false=>rfl
theorem qW (f:Ac->Ac):∀ (l:AO) (j:Nat),AV (Ei f l) j=(AV l j).map f:=by
 intro l;induction l with
 | nil=>intro j;simp[Ei,AV]
 | cons q l ih =>
  obtain⟨k,u⟩:=q;intro j;simp only[Ei,AV];cases O:Nat.beq j k with
  | true=>rfl
  | false=>exact ih j
theorem KG (h:AV l i≠[]):(i,AV l i)∈l:=by
 induction l with
 | nil=>exact eQ rfl h
 | cons p l ih =>
  obtain⟨k,u⟩:=p;simp only[AV] at h |-;cases O:Nat.beq i k with
  | true=>have:=Cb O;subst this;simp
  | false=>rw[O] at h;simp only at h |-;exact bM _ (ih h)
theorem Bg.get_mem (h:Bg nt l) (hp:p∈l):AV l p.1=p.2:=by
 induction l with
 | nil=>cases hp
 | cons q l ih =>
  obtain⟨k,u⟩:=q;simp only[AV];rcases bE.1 hp with rfl | hp';{simp}
  ·have U:=(cz.1 h.mT).1 p.1 (bA.2 ⟨p,hp',rfl⟩);simp only at U;cases O:Nat.beq p.1 k with
   | true=>have:=Cb O;omega
   | false=>exact ih h.tail hp'
theorem Bg.hZ (h:Bg nt l) {o:Ac} (ho:o∈AV l i):o.ok:=by
 have:AV l i≠[]:=by intro U;rw[U] at ho;cases ho
 exact h.ok _ (KG this) o ho
theorem Bg.kR (h:Bg nt l) (hi:nt<=i):AV l i=[]:=by by_cases U:AV l i=[];{exact U};{have:=h.lt _ (KG U);simp only at this;omega}
variable{v:fi}
theorem Sw:∀ {l:AO} {p:Nat×fi},p∈DI i v l->p=(i,v)\/p∈l:=by
 intro l;induction l with
 | nil=>intro p hp;simp[DI] at hp;exact .inl hp
 | cons q l ih =>
  obtain⟨k,u⟩:=q;intro p hp;simp only[DI] at hp;cases h:Nat.beq i k with
  | true =>
   rw[h] at hp;simp only[bE] at hp |-;rcases hp with rfl | hp;{exact .inl rfl};{exact .inr (.inr hp)}
  | false =>
   rw[h] at hp;cases h3:Nat.blt i k with
   | true =>
    rw[h3] at hp;simp only[bE] at hp |-;rcases hp with rfl | hp | hp;{exact .inl rfl};{exact .inr (.inl hp)};{exact .inr (.inr hp)}
   | false =>
    rw[h3] at hp;simp only[bE] at hp |-;rcases hp with rfl | hp;{exact .inr (.inl rfl)};{exact (ih hp).imp id .inr}
theorem qX:∀ {l:AO},(l.map (·.1)).Pairwise (· < ·)->((DI i v l).map (·.1)).Pairwise (· < ·):=by
 intro l;induction l with
 | nil=>intro _;simp[DI]
 | cons q l ih =>
  obtain⟨k,u⟩:=q;intro h;have U:=cz.1 h;simp only[DI];cases O:Nat.beq i k with
  | true =>
   have:=Cb O;subst this;exact cz.2 ⟨U.1,U.2⟩
  | false =>
   cases h3:Nat.blt i k with
   | true =>
    have h4:i < k:=by simpa[cr] using h3
    refine cz.2 ⟨fun a ha=>?_,h⟩;simp only[bP,bE] at ha;rcases ha with rfl | ha;{exact h4};{exact Nat.lt_trans h4 (U.1 a ha)}
   | false =>
    have h5:=Fy O;have h4:¬ i < k:=by intro h6;rw[show Nat.blt i k=true by simpa[cr] using h6] at h3;cases h3
    refine cz.2 ⟨fun a ha=>?_,ih U.2⟩;obtain⟨p,hp,rfl⟩:=bA.1 ha;rcases Sw hp with rfl | hp;{simp only;omega};{exact U.1 _ (bA.2 ⟨p,hp,rfl⟩)}
theorem Bg.put (h:Bg nt l) (hi:i < nt) (hv:∀ o∈v,o.ok):Bg nt (DI i v l) where
 mT:=qX h.mT
 lt p hp:=(Sw hp).elim (fun e=>by rw[e];exact hi) (h.lt p)
 ok p hp:=(Sw hp).elim (fun e=>by rw[e];exact hv) (h.ok p)
theorem af (p:Nat->Bool):∀ (l:AO),(I4 p l).Sublist l:=by
 intro l;induction l with
 | nil=>exact .slnil
 | cons q l ih =>
  obtain⟨k,u⟩:=q;simp only[I4];cases p k with
  | true=>exact .cons_cons _ ih
  | false=>exact .cons _ ih
theorem Bg.sub {l':AO} (h:Bg nt l) (hs:l'.Sublist l):Bg nt l' :=
 ⟨h.mT.sublist (hs.map _),fun p hp=>h.lt p (hs.subset hp),fun p hp=>h.ok p (hs.subset hp)⟩
theorem ae (f:Ac->Ac):∀ (l:AO),(Ei f l).map (·.1)=l.map (·.1):=by
 intro l;induction l with
 | nil=>rfl
 | cons q l ih=>obtain⟨k,u⟩:=q;simp[Ei,ih]
variable{f:Ac->Ac}
theorem We:∀ {l:AO} {p:Nat×fi},p∈Ei f l->∃ q∈l,p=(q.1,q.2.map f):=by
 intro l;induction l with
 | nil=>intro p hp;cases hp
 | cons q l ih =>
  obtain⟨k,u⟩:=q;intro p hp;rcases bE.1 hp with rfl | hp;{exact⟨(k,u),by simp,rfl⟩};{obtain⟨q,hq,h⟩:=ih hp;exact⟨q,by simp[hq],h⟩}
theorem Bg.map (h:Bg nt l) (hf:∀ x:Ac,x.ok->(f x).ok):Bg nt (Ei f l) where
 mT:=by rw[ae];exact h.mT
 lt p hp:=by obtain⟨q,hq,rfl⟩:=We hp;exact h.lt q hq
 ok p hp o ho:=by obtain⟨q,hq,rfl⟩:=We hp;obtain⟨o',mJ,rfl⟩:=bA.1 ho;exact hf _ (h.ok q hq o' mJ)
theorem Zs:J∈GK l↔∃ p∈l,∃ o∈p.2,J∈o.names:=by
 induction l with
 | nil=>simp[GK]
 | cons q l ih=>obtain⟨k,u⟩:=q;simp[GK,ih]
theorem gr (nt:Nat) (l:AO) (i:Nat):(BW nt l)[i]?=if i < nt then some ((AV l i).map Ac.ob) else none:=by unfold BW;rw[bK];split;{rename_i h;rw[cN h];rfl};{rename_i h;rw[cg (by simpa using h)];rfl}
theorem Hc (nt:Nat) (l:AO):(BW nt l).length=nt:=by simp[BW]
theorem JM {Z:List fg} (hl:Z.length=nt) (h:∀ i,i < nt->Z[i]?=some ((AV l i).map Ac.ob)):BW nt l=Z:=by apply cj;intro i;rw[gr];split;{rename_i hi;exact (h i hi).symm};{rename_i hi;rw[cg (by omega)]}
theorem JL (d:Nat) (v:fi):BW nt (DI d v l)=(BW nt l).set d (v.map Ac.ob):=by refine JM (by simp[Hc]) fun i hi=>?_;rw[dY,Hc,gr,qV];by_cases h:d=i;{subst h;simp[hi]};{simp[h,bW h,hi]}
theorem OI (h:Bg nt l) {g:Ob->Ob} (hf:∀ x:Ac,x.ok->(f x).ob=g x.ob):BW nt (Ei f l)=(BW nt l).map (·.map g):=by refine JM (by simp[Hc]) fun i hi=>?_;rw[bK,gr,eH hi,qW];simp only[bG,bV,bC];apply b9;intro o ho;simp[hf o (h.hZ ho)]
theorem ZV (h:Bg nt l) (J:Nm):Aa (BW nt l) J=(AZ l J).map Ac.ob:=by
 unfold Aa AZ;rw[gr];split
 ·rename_i x H;split at H;·cases H;rw[bK]
  {cases H}
 ·rename_i H;split at H;·cases H
  {rw[h.kR (by omega)];rfl}
theorem Pd (h:Bg nt l) {o:Ac} (ho:AZ l J=some o):J.1 < nt:=by apply dw;intro hn;unfold AZ at ho;rw[h.kR (by omega)] at ho;cases ho
theorem CU (h:Bg nt l) {o:Ac} (ho:AZ l J=some o):o.ok:=h.hZ (bJ ho)
theorem Mt (h:Bg nt l) (J:Nm) (o:Ac):BW nt (jz l J o)=AM (BW nt l) J o.ob:=by
 unfold jz AM;cases hk:AZ l J with
 | some o' =>
  have gI:=Pd h hk;simp only
  rw[JL,gr,eH gI];simp[dB]
 | none =>
  simp only
  rw[gr];split
  ·rename_i x H;split at H
   ·cases H;have U:((AV l J.1).map Ac.ob).set J.2 o.ob=(AV l J.1).map Ac.ob:=by rw[eh];have:=bY.1 hk;simpa using this
    rw[U];refine JM (by simp[Hc]) fun i hi=>?_;rw[dY,Hc,gr];by_cases O:J.1=i;{subst O;simp[hi]};{simp[O,hi]}
   {cases H}
  {rfl}
theorem Bg.jz (h:Bg nt l) (J:Nm) {o:Ac} (ho:o.ok):Bg nt (jz l J o):=by
 unfold Go.Ab.jz;cases hk:AZ l J with
 | some o' =>
  refine h.put (Pd h hk) fun x H=>?_;rcases dG H with U | rfl;{exact h.hZ U};{exact ho}
 | none=>exact h
theorem UC (h:Bg nt l) (J:Nm):J∈(BW nt l).flatMap (fun l=>l.flatMap Ob.names)↔J∈GK l:=by
 rw[Zs];simp only[cp];constructor
 ·rintro ⟨x,H,ob,iT,hn⟩;obtain⟨i,hi⟩:=List.getElem?_of_mem H;rw[gr] at hi;split at hi
  ·cases hi;obtain⟨o,ho,rfl⟩:=bA.1 iT;rw[Ac.jv (h.hZ ho)] at hn;have:AV l i≠[]:=by intro U;rw[U] at ho;cases ho
   exact⟨_,KG this,o,ho,hn⟩
  {cases hi}
 {rintro ⟨p,hp,o,ho,hn⟩;have:=h.get_mem hp;refine⟨p.2.map Ac.ob,bJ (i:=p.1) ?_,o.ob,bA.2 ⟨o,ho,rfl⟩,?_⟩;{rw[gr,eH (h.lt p hp),this]};{rw[Ac.jv (h.ok p hp o ho)];exact hn}}
end Go.Ab


namespace Go.Ab
variable{R:Type} {f:KV->KV} {g:fa->fa} {l:fy} {nt:Nat} {p:Nm->Bool} {v:PV} {x:RX} {σ:Nm->fw}
mutual
theorem SG {R:Type}:∀ (x:KV) (K:KV->R),Je x K=K x
 | .un,_ | .sk,_ | .gU,_ | .cv _,_ | .fT _,_=>rfl
 | .lit b,K=>by cases b<;>rfl
 | .ref J _,_ | .fO J _ _ _,_ | .arr J _ _ _,_ | .mp J,_ | .it J,_ | .iF J,_=>by cases J;rfl
 | .agg cs,K=>by simp only[Je];rw[ML cs]
 | .iface t x,K=>by simp only[Je];rw[SG x]
 | .fn f cap,K=>by simp only[Je];rw[ML cap]
 | .fM Z,K=>by simp only[Je];rw[ML Z]
theorem ML {R:Type}:∀ (Z:ff) (K:ff->R),J8 Z K=K Z
 | [],_=>rfl
 | x :: Z,K=>by simp only[J8];rw[SG x,ML Z]
end
theorem aZ (x:Ac) (K:Ac->R):Ty x K=K x:=by cases x<;>simp[Ty,ML]
theorem UQ {R:Type}:∀ (Z:fi) (K:fi->R),Pi Z K=K Z
 | [],_=>rfl
 | x :: Z,K=>by simp only[Pi];rw[aZ x,UQ Z]
theorem Sb {R:Type}:∀ (Z:Sp) (K:Sp->R),Nj Z K=K Z
 | [],_=>rfl
 |(j,x) :: Z,K=>by simp only[Nj];rw[SG x,Sb Z]
theorem VE {R:Type}:∀ (Z:AO) (K:AO->R),Pw Z K=K Z
 | [],_=>rfl
 |(j,x) :: Z,K=>by simp only[Pw];rw[UQ x,VE Z]
theorem VF {R:Type}:∀ (Z:fy) (K:fy->R),Px Z K=K Z
 | [],_=>rfl
 | x :: Z,K=>by simp only[Px];rw[Sb x,VF Z]
theorem CD (ks:Ao) (K:Ao->R):BX ks K=K ks:=by cases ks;simp only[BX];rw[Sb,VE,VF]
structure Ao.Ok (ks:Ao):Prop where
 tm:Bo ks.nt ks.tmps
 ob:Bg ks.nt ks.fA
 kp:∀ sp∈ks.fD,Bo ks.nt sp
theorem YG (v:PV):(Hb v).pv=v:=by unfold Hb;split<;>simp[KV.pv,Aw]
theorem YH (h:As v=true):(Hb v).ok:=by unfold Hb;split;{trivial};{trivial};{trivial};{exact h}
variable {ks:Ao}
theorem FF (h:ks.Ok) (x:RX):x.ev ks.V.tmps=(x.kv ks.tmps).pv:=by
 cases x with
 | t i=>exact JK h.tm i
 | c v=>exact (YG v).symm
theorem LM (h:ks.Ok) (H:DN x=true):(x.kv ks.tmps).ok:=by
 cases x with
 | t i=>exact h.tm.hZ i
 | c v=>exact YH H
theorem Ge (h:ks.Ok) (J:Nm):Aa ks.V.fA J=(AZ ks.fA J).map Ac.ob:=ZV h.ob J
theorem Dz (h:ks.Ok):Aa ks.V.fA=fun J=>(AZ ks.fA J).map Ac.ob:=funext (Ge h)
theorem Ac.vH (p:Nm->Bool) {o:Ac} (h:o.ok):(o.off p).ob=o.ob.sub (Hu p):=by
 cases o with
 | cells ty cs=>simp[Ac.off,Ac.ob,Ob.sub,Na p h]
 | whole ty v =>
  have:=(BT (CG h)).1;simp only[Ac.off,Ac.ob,Ob.sub,EQ];rw[iK this]
 | map es =>
  simp only[Ac.off,Ac.ob,Ob.sub];rw[iK (BT h).1]
 | _=>rfl
where
 iK {Z:fa} (h:Al Z=[]):AE (Hu p) Z=Z:=by
  induction Z with
  | nil=>rfl
  | cons x Z ih =>
   simp[Al] at h;simp[AE,IM h.1,ih h.2]
theorem Ac.jE (p:Nm->Bool) {o:Ac} (h:o.ok):(o.off p).ok:=by
 cases o with
 | cells ty cs=>exact Nb p h
 | _=>exact h
theorem UH (f:Nm->Option fe) (Z ys:fa):AE f (Z++ys)=AE f Z++AE f ys:=by
 induction Z with
 | nil=>rfl
 | cons x Z ih=>simp[AE,ih]
theorem Pj (hg:g []=[]) (ha:∀ Z ys,g (Z++ys)=g Z++g ys) (h:∀ sp∈l,Bc nt (CY f sp)=g (Bc nt sp)) :
  (l.map (CY f)).flatMap (Bc nt)=g (l.flatMap (Bc nt)):=by
 induction l with
 | nil=>simp[hg]
 | cons x l ih =>
  simp only[bP,cQ,ha];rw[h x (by simp),ih fun sp gR=>h sp (by simp[gR])]
theorem Tq (p:Nm->Bool) (h:ks.Ok):(Lu p ks).V=Cd (Hu p) ks.V:=by
 unfold Lu Ao.V Cd;simp only
 rw[O1 h.tm (by simp[KV.off]) (fun x H=>KV.mv p H),OI h.ob (fun o ho=>Ac.vH p ho),
  Pj (g:=AE (Hu p)) rfl (UH _) fun sp gR=>O1 (h.kp sp gR) (by simp[KV.off]) fun x H=>KV.mv p H]
theorem Tr (p:Nm->Bool) (h:ks.Ok):(Lu p ks).Ok where
 tm:=h.tm.map fun x H=>KV.jE p H
 ob:=h.ob.map fun x H=>Ac.jE p H
 kp sp gR:=by obtain⟨q,hq,rfl⟩:=bA.1 gR;exact (h.kp q hq).map fun x H=>KV.jE p H
theorem Ac.om (g:Nm->fe) {o:Ac} (h:o.ok):o.close g=o.ob.sub (DH g):=by
 cases o with
 | cells ty cs=>simp[Ac.close,Ac.ob,Ob.sub,KO g h]
 | whole ty v =>
  have:=(BT (CG h)).1;simp only[Ac.close,Ac.ob,Ob.sub,EQ];rw[iK this]
 | map es =>
  simp only[Ac.close,Ac.ob,Ob.sub];rw[iK (BT h).1]
 | _=>rfl
where
 iK {Z:fa} (h:Al Z=[]):AE (DH g) Z=Z:=by
  induction Z with
  | nil=>rfl
  | cons x Z ih =>
   simp[Al] at h;simp[AE,IM h.1,ih h.2]
theorem Sa (hσ:∀ J o,σ J=some o->o.ok):∀ (d:Nat) (J:Nm),Cv σ d J=(σ J).map fun o=>EL (fun J=>(σ J).map Ac.ob) d o.ob:=by
 intro d;induction d with
 | zero =>
  intro J;unfold Cv;cases h:σ J with
  | none=>rfl
  | some o=>simp only[bG];rw[Ac.om _ (hσ _ _ h)];rfl
 | succ d ih =>
  intro J;unfold Cv;cases h:σ J with
  | none=>rfl
  | some o =>
   simp only[bG];rw[Ac.om _ (hσ _ _ h)];congr 1;unfold EL;congr 1;funext m;unfold DH;rw[ih m,dH];rfl
def PN (σ:Nm->fw):Prop:=∀ J ty cs,σ J=some (.cells ty cs)->Ed cs=false
theorem Ky (hσ:∀ J o,σ J=some o->o.ok) (hq:PN σ):∀ (d:Nat) (J:Nm) (ob:Ob),Cv σ d J=some ob->ob.shut:=by
 intro d;induction d with
 | zero =>
  intro J ob h;unfold Cv at h;cases ho:σ J with
  | none=>rw[ho] at h;cases h
  | some o =>
   rw[ho] at h;cases h;have jx:=hσ _ _ ho;cases o with
   | cells ty cs=>exact (IJ (fun _ _ h=>by cases h) jx (hq _ _ _ ho))
   | whole ty v=>exact (CG jx)
   | arr k kt Z=>exact jx
   | map es=>exact jx
   | fW s pos=>trivial
 | succ d ih =>
  intro J ob h;unfold Cv at h;cases ho:σ J with
  | none=>rw[ho] at h;cases h
  | some o =>
   rw[ho] at h;cases h;have jx:=hσ _ _ ho;cases o with
   | cells ty cs=>exact (IJ ih jx (hq _ _ _ ho))
   | whole ty v=>exact (CG jx)
   | arr k kt Z=>exact jx
   | map es=>exact jx
   | fW s pos=>trivial
theorem Ac.frz_ob (p:Nm->Bool) (g:Nm->fe) {o:Ac} (h:o.ok):(o.gv p g).ob=o.ob.sub (Do p g):=by
 cases o with
 | cells ty cs=>simp[Ac.gv,Ac.ob,Ob.sub,Nh p g h]
 | whole ty v =>
  have:=(BT (CG h)).1;simp only[Ac.gv,Ac.ob,Ob.sub,EQ];rw[iK this]
 | map es =>
  simp only[Ac.gv,Ac.ob,Ob.sub];rw[iK (BT h).1]
 | _=>rfl
where
 iK {Z:fa} (h:Al Z=[]):AE (Do p g) Z=Z:=by
  induction Z with
  | nil=>rfl
  | cons x Z ih =>
   simp[Al] at h;simp[AE,IM h.1,ih h.2]
theorem Ac.kQ {g:Nm->fe} (hg:∀ J ob,g J=some ob->ob.shut) {o:Ac} (h:o.ok):(o.gv p g).ok:=by
 cases o with
 | cells ty cs=>exact Ni hg h
 | _=>exact h
theorem vI:∀ (R:fh) {l:AO},Bg nt l->Bg nt (R.foldl (fun fA J=>jz fA J Fh) l):=by
 intro R;induction R with
 | nil=>intro l h;exact h
 | cons J R ih=>intro l h;exact ih (h.jz J (o:=Fh) rfl)
theorem vJ:∀ (R:fh) {l:AO},Bg nt l->BW nt (R.foldl (fun fA J=>jz fA J Fh) l)=R.foldl (fun fA J=>AM fA J AH) (BW nt l):=by
 intro R;induction R with
 | nil=>intro l _;rfl
 | cons J R ih =>
  intro l h;simp only[cJ];rw[ih (h.jz J (o:=Fh) rfl),Mt h];rfl
theorem CB (h:ks.Ok):∀ J o,AZ ks.fA J=some o->o.ok:=fun _ _ ho=>CU h.ob ho
theorem aR (h:ks.Ok) (J:Nm):DH (Cv (AZ ks.fA) Ax) J=A3 (Aa ks.V.fA) J:=by unfold DH A3;rw[Sa (CB h),Dz h,dH];rfl
theorem qY {l:AO} (h:Ec l=true):∀ p∈l,∀ ty cs,Ac.cells ty cs∈p.2->Ed cs=false:=by
 induction l with
 | nil=>intro p hp;cases hp
 | cons q l ih =>
  obtain⟨k,u⟩:=q;simp only[Ec,bz] at h;intro p hp ty cs iZ;rcases bE.1 hp with rfl | hp
  {have:=bI.1 h.1 _ iZ;simpa using this};{exact ih h.2 p hp ty cs iZ}
theorem Mx {l:AO} (h:Ec l=true):PN (AZ l):=by
 intro J ty cs ho;have hm:AV l J.1≠[]:=by intro U;unfold AZ at ho;rw[U] at ho;cases ho
 exact qY h _ (KG hm) ty cs (bJ ho)
theorem ZN {l:Ao} (hl:l.Ok) (hσ:∀ J o,σ J=some o->o.ok) (hq:PN σ) (R:fh) :
  (Pv σ R l).V=BN (fun J=>(σ J).map Ac.ob) R l.V:=by
 have hf:Do (fun m=>R.contains m) (Cv σ Ax)=fun m=>if R.contains m=true then A3 (fun J=>(σ J).map Ac.ob) m else none:=by funext m;unfold Do A3;rw[Sa hσ,dH];rfl
 unfold Pv BN Cd Ao.V;simp only
 rw[O1 hl.tm (g:=Do (fun m=>R.contains m) (Cv σ Ax)) (by simp[KV.gv]) (fun x H=>KV.nJ _ _ H),
  vJ R (hl.ob.map fun x H=>Ac.kQ (Ky hσ hq Ax) H),OI hl.ob (fun o ho=>Ac.frz_ob _ _ ho),
  Pj (g:=AE (Do (fun m=>R.contains m) (Cv σ Ax))) rfl (UH _) fun sp gR=>O1 (hl.kp sp gR) (by simp[KV.gv]) fun x H=>KV.nJ _ _ H,hf]
theorem aQ {l:Ao} (hl:l.Ok) (hσ:∀ J o,σ J=some o->o.ok) (hq:PN σ) (R:fh):(Pv σ R l).Ok where
 tm:=hl.tm.map fun x H=>KV.kQ (Ky hσ hq Ax) H
 ob:=vI R (hl.ob.map fun x H=>Ac.kQ (Ky hσ hq Ax) H)
 kp sp gR:=by obtain⟨q,hq',rfl⟩:=bA.1 gR;exact (hl.kp q hq').map fun x H=>KV.kQ (Ky hσ hq Ax) H
structure Aq.Ok (o:Aq):Prop where
 v:o.v.ok
 new:∀ x∈o.new,x.ok
 gA:∀ J x,o.gA=some (J,x)->x.ok
 gC:∀ p∈o.gC,p.2.ok:=by simp
def Ku (u:Option (Nm×Ob)) (V:St):St :=
 match u with
 | some (J,ob)=>{V with fA:=AM V.fA J ob}
 | none=>V
def Kn (k:Option Nm) (V:St):St :=
 match k with
 | some J=>Cd (fun m=>if m=J then some none else none) V
 | none=>V
def JC (dst:fb) (v:PV) (new:fg) (V:St):St :=
 match dst with
 | some d=>{V with tmps:=V.tmps.set d v,fA:=if new.isEmpty then V.fA else V.fA.set d new}
 | none=>V
def Mg (l:fh) (V:St):St:=if l.isEmpty then V else Cd (fun m=>if l.contains m then some none else none) V
def Km (l:List (Nm×Ob)) (V:St):St:=if l.isEmpty then V else {V with fA:=Bj l V.fA}
def qZ (sl:fb) (new:fg) (V:St):St :=
 match sl with
 | some r=>{V with fA:=V.fA.set r (V.fA.getD r []++new)}
 | none=>V
def Nw (sl:fb) (new:fg):fg :=
 match sl with
 | some _=>[]
 | none=>new
theorem Tg (V:St) (dst:fb) (o:Ai):apply V dst o=JC dst o.v (Nw o.slot o.new) (qZ o.slot o.new<|Km o.gC (Mg o.gone (if o.gv.isEmpty then Kn o.kill (Ku o.gA V) else BN (Aa V.fA) o.gv (Kn o.kill (Ku o.gA V))))):=by unfold apply JC Kn Ku Mg Km qZ Nw;cases dst<;>cases o.gA<;>cases o.kill<;>cases o.slot<;>rfl
theorem kups_ok:∀ (l:List (Nm×Ac)) {σ:AO},(∀ p∈l,p.2.ok)->Bg nt σ->Bg nt (vx l σ):=by
 intro l;induction l with
 | nil=>intro σ _ h;exact h
 | cons p l ih =>
  obtain⟨J,o⟩:=p;intro σ hl h;exact ih (fun q hq=>hl q (bM _ hq)) (h.jz J (hl (J,o) bN))
theorem kups_st:∀ (l:List (Nm×Ac)) {σ:AO},(∀ p∈l,p.2.ok)->Bg nt σ->BW nt (vx l σ)=Bj (l.map fun p=>(p.1,p.2.ob)) (BW nt σ):=by
 intro l;induction l with
 | nil=>intro σ _ h;rfl
 | cons p l ih =>
  obtain⟨J,o⟩:=p;intro σ hl h;show BW nt (vx l (jz σ J o))=Bj (l.map fun p=>(p.1,p.2.ob)) (AM (BW nt σ) J o.ob);rw[ih (fun q hq=>hl q (bM _ hq)) (h.jz J (hl (J,o) bN)),Mt h]
theorem RW (h:ks.Ok) {o:Aq} (hq:(o.gv.isEmpty||Ec ks.fA)=true) (dst:fb) (ho:o.Ok):(FC ks dst o).V=apply ks.V dst o.out/\(FC ks dst o).Ok:=by
 rw[Tg];unfold FC Aq.out;simp only
 have U:(qM o.gA ks).Ok/\(qM o.gA ks).V=Ku (o.gA.map fun p=>(p.1,p.2.ob)) ks.V:=by
  cases hu:o.gA with
  | none=>exact⟨h,rfl⟩
  | some p =>
   obtain⟨J,ob⟩:=p;refine⟨⟨h.tm,h.ob.jz J (ho.gA _ _ hu),h.kp⟩,?_⟩;simp only[bG,qM,Ku,Ao.V];rw[Mt h.ob]
 rw[<-U.2];generalize qM o.gA ks=k1 at U |-
 have O:(LP o.kill k1).Ok/\(LP o.kill k1).V=Kn o.kill k1.V:=by
  cases hu:o.kill with
  | none=>exact⟨U.1,rfl⟩
  | some J =>
   refine⟨Tr _ U.1,?_⟩;simp only[LP,Kn];rw[Tq _ U.1];congr 1;funext m;unfold Hu;by_cases hm:m=J;{simp[hm]};{simp[hm]}
 rw[<-O.2];generalize LP o.kill k1=k2 at O |-
 have h3:(N2 (AZ ks.fA) o.gv k2).Ok/\(N2 (AZ ks.fA) o.gv k2).V=(if o.gv.isEmpty=true then k2.V else BN (Aa ks.V.fA) o.gv k2.V):=by
  cases hf:o.gv with
  | nil=>exact⟨O.1,rfl⟩
  | cons J R =>
   have hq:Ec ks.fA=true:=by rw[hf] at hq;simpa using hq
   refine⟨aQ O.1 (CB h) (Mx hq) _,?_⟩;rw[Dz h];exact ZN O.1 (CB h) (Mx hq) _
 rw[<-h3.2];generalize N2 (AZ ks.fA) o.gv k2=k4 at h3 |-
 have h5:(LQ o.gone k4).Ok/\(LQ o.gone k4).V=Mg o.gone k4.V:=by
  cases hg:o.gone with
  | nil=>exact⟨h3.1,rfl⟩
  | cons J l =>
   refine⟨Tr _ h3.1,?_⟩;simp only[LQ,Mg,List.isEmpty_cons,bL,eE];rw[Tq _ h3.1];congr 1
 rw[<-h5.2];generalize LQ o.gone k4=k5 at h5 |-
 have h6:(LN o.gC k5).Ok/\(LN o.gC k5).V=Km (o.gC.map fun p=>(p.1,p.2.ob)) k5.V:=by
  refine⟨⟨h5.1.tm,kups_ok _ ho.gC h5.1.ob,h5.1.kp⟩,?_⟩;have:∀ (l:List (Nm×Ob)) (s:St),Km l s={s with fA:=Bj l s.fA}:=by intro l s;unfold Km;split;{rename_i hl;rw[bZ.1 hl];rfl};{rfl}
  rw[this];simp only[LN,Ao.V];rw[kups_st _ ho.gC h5.1.ob]
 rw[<-h6.2];generalize LN o.gC k5=k6 at h6 |-
 have h7:(qN o.slot o.new k6).Ok/\(qN o.slot o.new k6).V=qZ o.slot (o.new.map Ac.ob) k6.V:=by
  cases hs:o.slot with
  | none=>exact⟨h6.1,rfl⟩
  | some r =>
   simp only[qN,qZ];cases hr:Nat.blt r k6.nt with
   | true =>
    have qD:r < k6.nt:=by simpa[cr] using hr
    refine⟨⟨h6.1.tm,h6.1.ob.put qD fun x H=>?_,h6.1.kp⟩,?_⟩;{rcases bS.1 H with H | H;{exact h6.1.ob.hZ H};{exact ho.new x H}}
    ·unfold Ao.V;simp only
     rw[JL,cU];congr 3;rw[bF,gr,eH qD];rfl
   | false =>
    have qD:¬ r < k6.nt:=by intro h;rw[show Nat.blt r k6.nt=true by simpa[cr] using h] at hr;cases hr
    refine⟨h6.1,?_⟩;unfold Ao.V;simp only
    rw[eh (by rw[Hc];omega)]
 rw[<-h7.2];have hnew2:Nw o.slot (o.new.map Ac.ob)=(NV o.slot o.new).map Ac.ob:=by cases o.slot<;>rfl
 rw[hnew2]
 have vK:∀ x∈NV o.slot o.new,x.ok:=by
  cases o.slot with
  | none=>exact ho.new
  | some r=>intro x H;cases H
 generalize NV o.slot o.new=nw at vK |-;generalize qN o.slot o.new k6=k3 at h7 |-;obtain⟨ok3,_⟩:=h7;cases dst with
 | none=>exact⟨rfl,ok3⟩
 | some d =>
  simp only[kset,JC];cases hd:Nat.blt d k3.nt with
  | true =>
   have kF:d < k3.nt:=by simpa[cr] using hd
   refine⟨?_,?_⟩
   ·unfold Ao.V;simp only
    rw[WT];cases hn:nw with
    | nil=>simp
    | cons x Z=>simp[JL]
   ·refine⟨ok3.tm.set kF ho.v,?_,ok3.kp⟩;simp only
    cases hn:nw with
    | nil=>exact ok3.ob
    | cons x Z=>rw[hn] at vK;exact ok3.ob.put kF vK
  | false =>
   have kF:¬ d < k3.nt:=by intro h;rw[show Nat.blt d k3.nt=true by simpa[cr] using h] at hd;cases hd
   refine⟨?_,ok3⟩;unfold Ao.V;simp only
   rw[eh (by rw[Dk];omega)];split;{rfl};{rw[eh (by rw[Hc];omega)]}
end Go.Ab


namespace Go.Ab
variable{T cs:fa} {ag kc:Bool} {c:TC} {d k:Nat} {f g:RX->RX} {op:Ak} {v x:PV} {σ:Nm->fe}
theorem XH (T:fa):∀ (ps:List (Nat×Nat×RX)) (z:fa),Ew [] z (ps.map fun p=>(p.1,p.2.1,.c (p.2.2.ev T)))=Ew T z ps:=by
 intro ps;induction ps with
 | nil=>intro z;rfl
 | cons p ps ih =>
  obtain⟨off,n,x⟩:=p;intro z;simp only[bP,Ew];rw[ih];rfl
theorem Hr (T:fa) (x:fz):Ci [] (x.map fun y=>.c (y.ev T))=Ci T x:=by cases x<;>rfl
theorem q7 (d:Nat) (σ:Nm->fe) (T:fa) (op:Ak) (hg:isG op=true):exec d σ [] (op.iP fun x=>.c (x.ev T))=exec d σ T op:=by
 cases op with
 | build z ps=>simp only[Ak.iP,exec];rw[XH T]
 | slice k x lo hi mx=>simp only[Ak.iP,exec];rw[Hr,Hr,Hr];rfl
 | gM x lo hi=>simp only[Ak.iP,exec];rw[Hr,Hr];rfl
 | ij mx Z=>simp only[Ak.iP,exec,bV];rfl
 | mov | pick | box | alloc | kr | store | mkI | mkF | mkMap | insert | po | append | copy | call | iter | next | bad=>simp[isG] at hg
 | _=>rfl
theorem Ml {o:fz} (h:∀ a∈o.toList,f a=g a):o.map f=o.map g:=by
 cases o with
 | none=>rfl
 | some a=>simp[h a (by simp)]
theorem aF (op:Ak) (hg:isG op=true) (h:∀ x∈op.Z,f x=g x):op.iP f=op.iP g:=by
 cases op with
 | build z ps =>
  simp only[Ak.iP];congr 1;apply b9;intro p hp;rw[h p.2.2 (bA.2 ⟨p,hp,rfl⟩)]
 | slice k x lo hi mx =>
  simp only[Ak.iP,Ak.Z] at h |-;rw[h x (by simp),Ml (o:=lo) fun a ha=>h a (by simp[ha]),Ml (o:=hi) fun a ha=>h a (by simp[ha]),Ml (o:=mx) fun a ha=>h a (by simp[ha])]
 | gM x lo hi =>
  simp only[Ak.iP,Ak.Z] at h |-;rw[h x (by simp),Ml (o:=lo) fun a ha=>h a (by simp[ha]),Ml (o:=hi) fun a ha=>h a (by simp[ha])]
 | ij mx Z=>simp only[Ak.iP];congr 1;exact b9 h
 | mov | pick | box | alloc | kr | store | mkI | mkF | mkMap | insert | po | append | copy | call | iter | next | bad=>simp[isG] at hg
 | bin op c kc x y=>simp only[Ak.iP,Ak.Z] at h |-;rw[h x (by simp),h y (by simp)]
 | lookup c z ok x k=>simp only[Ak.iP,Ak.Z] at h |-;rw[h x (by simp),h k (by simp)]
 | ic k x i=>simp only[Ak.iP,Ak.Z] at h |-;rw[h x (by simp),h i (by simp)]
 | hJ k l x i=>simp only[Ak.iP,Ak.Z] at h |-;rw[h x (by simp),h i (by simp)]
 | iV x i=>simp only[Ak.iP,Ak.Z] at h |-;rw[h x (by simp),h i (by simp)]
 | load n ag x | nilck x | un op x | conv k x | il x | ofBytes x | iU x | jG x | fieldAddr off x | field off n ag x | extract j x | len c x | gZ t z ok x=>simp only[Ak.iP,Ak.Z] at h |-;rw[h x (by simp)]
theorem au (σ:Nm->fe):∀ d,AA σ d []=[]:=by
 intro d;induction d with
 | zero=>rfl
 | succ d ih=>simp[AA,ih]
theorem Zi (hg:isG op=true) (H:∀ x∈op.Z,As (x.ev T)=true):exec d σ T op=exec 0 (fun _=>none) T op:=by
 have U:exec d σ T op=exec 0 σ T op:=by cases op<;>simp[isG] at hg<;>rfl
 rw[U];refine Sf op (fun _ _=>rfl) ?_;have:Al (op.Z.map (RX.ev T))=[]:=(BT (DR.2 fun v hv=>by obtain⟨x,kb,rfl⟩:=bA.1 hv;exact H x kb)).1;rw[this];intro J np;rw[au] at np;cases np
theorem vL:∀ (ps:List (Nat×Nat×RX)) (z cs:fa),Az z=true->(∀ x∈ps.map (·.2.2),As (x.ev T)=true)->Ew T z ps=some cs->Az cs=true:=by
 intro ps;induction ps with
 | nil=>intro z cs hz _ h;simp[Ew] at h;subst h;exact hz
 | cons p ps ih =>
  obtain⟨off,n,y⟩:=p;intro z cs hz hp h;simp only[Ew] at h;obtain⟨_,h⟩:=CH h;refine ih _ cs ?_ (fun x H=>hp x (by simp only[bP,bE];exact .inr H)) h;exact Hg (Hg (GH hz _) (CG (hp y (by simp)))) (HM hz _)
theorem M9 (h:Az cs=true) {o n:Nat} (hs:B1 cs o n ag=some v):As v=true:=by unfold B1 at hs;split at hs;{obtain⟨_,hs⟩:=CH hs;cases hs;simpa[As] using GH (HM h o) n};{exact Hm h hs}
theorem S2 {k:PV}:∀ {es:fa} {v:PV},Gp k es=some (some v)->Az es=true->As v=true
 | [],v,h,_=>by simp[Gp] at h
 | [_],v,h,_=>by simp[Gp] at h
 | a :: u :: es,v,h,he=>by
  simp only[Az,bz] at he;simp only[Gp] at h;split at h;·cases h;exact he.2.1
  {exact S2 h he.2.2};·cases h
theorem ZD {lo hi mx:ft} (H:As x=true) (h:HV k x lo hi mx=some v):As v=true:=by
 cases x with
 | sl k' Z full =>
  simp only[HV] at h;split at h;·cases h
  split at h;·cases h
  split at h;·cases h
  obtain⟨_,h⟩:=CH h;cases h;simp only[As] at H |-;exact HM (GH H _) _
 | fF =>
  simp only[HV] at h;split at h;·cases h
  split at h;·cases h
  split at h;·cases h
  obtain⟨_,h⟩:=CH h;cases h;rfl
 | arr J k' o n=>simp[As] at H
 | _=>simp[HV] at h
theorem Wq (s:fp):Az (Bz s)=true:=DR.2 fun x H=>by obtain⟨b,_,rfl⟩:=bA.1 H;rfl
theorem q8 {op:BinOp} {y:PV} (h:Dw op c kc x y=some v):As v=true:=by
 have hI:∀ {op k a b v},Ff op k a b=some v->As v=true:=by
  intro op k a b v h;unfold Ff at h;split at h
  all_goals first
   |(cases h;rfl)
   |(obtain⟨_,h⟩:=CH h;cases h;rfl)
   |(obtain⟨b,_,rfl⟩:=bB.1 h;rfl)
 have hS:∀ {op a b v},Jj op a b=some v->As v=true:=by
  intro op a b v h;unfold Jj at h;split at h
  all_goals first
   |(cases h;rfl)
   |(obtain⟨_,h⟩:=CH h;cases h;rfl)
   | cases h
 unfold Dw at h;split at h;{split at h;{obtain⟨_,h⟩:=CH h;cases h;rfl};{obtain⟨_,h⟩:=CH h;cases h;rfl};{obtain⟨_,h⟩:=CH h;exact hI h}};{exact hS h};{split at h;{obtain⟨b,_,rfl⟩:=bB.1 h;rfl};{obtain⟨b,_,rfl⟩:=bB.1 h;rfl};·cases h}
structure RC (o:Ai):Prop where
 eq:o={v:=o.v}
 ok:As o.v=true
theorem RC.mk' (h:As v=true):RC {v:=v}:=⟨rfl,h⟩
theorem ON {x:ft} {out:Ai} (h:(x.map fun v=>({v:=v}:Ai))=some out) (hv:∀ v,x=some v->As v=true):RC out:=by obtain⟨v,H,rfl⟩:=bB.1 h;exact .mk' (hv v H)
theorem bh (hg:isG op=true) (H:∀ x∈op.Z,As (x.ev T)=true) (hz:∀ z ps,op=.build z ps->Az z=true) (hl:∀ c z ok x k,op=.lookup c z ok x k->As z=true)
  (ht:∀ t z ok x,op=.gZ t z ok x->As z=true) {out:Ai} (h:exec 0 (fun _=>none) T op=some out):RC out:=by
 cases op with
 | mov | pick | box | alloc | kr | store | mkI | mkF | mkMap | insert | po | append | copy | call | iter | next | bad=>simp[isG] at hg
 | build z ps =>
  simp only[exec] at h;split at h;{rename_i cs hc;cases h;exact .mk' (by simpa[As] using vL ps z cs (hz z ps rfl) H hc)};{cases h}
 | load n ag x =>
  have hv:=H x (by simp[Ak.Z]);simp only[exec] at h;split at h;{rename_i e;rw[e] at hv;simp[As] at hv};{rename_i e;rw[e] at hv;exact ON h fun v hs=>M9 (by simpa[As] using hv) hs};{rename_i e;rw[e] at hv;simp[As] at hv};·cases h
 | nilck x =>
  have hv:=H x (by simp[Ak.Z]);simp only[exec] at h;split at h
  all_goals first
   |(rename_i e;rw[e] at hv;cases h;exact .mk' hv)
   | cases h
 | bin op c kc x y=>simp only[exec] at h;exact ON h fun v=>q8
 | un op x =>
  simp only[exec] at h;split at h;·cases h;exact .mk' rfl
  {cases h;exact .mk' rfl};{cases h}
 | conv k x=>simp only[exec] at h;split at h;(cases h;exact .mk' rfl);cases h
 | il x =>
  simp only[exec] at h;split at h;{obtain⟨_,h⟩:=CH h;cases h;exact .mk' (by simpa[As] using Wq _)};·cases h
 | ofBytes x =>
  simp only[exec] at h;split at h
  ·split at h;·cases h;exact .mk' rfl
   {cases h}
  {cases h}
 | iU x=>simp only[exec] at h;split at h;(cases h;exact .mk' rfl);cases h
 | jG x=>simp only[exec] at h;split at h;(cases h;exact .mk' rfl);cases h
 | lookup c z ok x k =>
  have hv:=H x (by simp[Ak.Z]);have hz:=hl c z ok x k rfl;simp only[exec] at h;have lH:∀ es,(match x.ev T with | .mp J=>(none:Option fa) | .gz es=>some es | .gF=>some [] | _=>none)=some es->Az es=true:=by intro es he;cases hq:x.ev T<;>rw[hq] at he hv<;>simp only[reduceCtorEq,bC] at he;{subst he;rfl};{subst he;simpa[As] using hv}
  split at h;·cases h
  ·rename_i es he;split at h;·cases h
   ·rename_i r hr;obtain⟨_,h⟩:=CH h;cases h;have hes':Az es=true:=lH es (by revert he;cases x.ev T<;>exact id)
    have hrz:As (r.getD z)=true:=by
     cases r with
     | none=>exact hz
     | some v=>exact S2 hr hes'
    refine .mk' ?_;split;{simp[As,Az,hrz]};{exact hrz}
 | slice k x lo hi mx=>simp only[exec] at h;exact ON h fun v hs=>ZD (H x (by simp[Ak.Z])) hs
 | gM x lo hi =>
  simp only[exec] at h;split at h
  ·split at h;·cases h
   ·split at h;·cases h
    {cases h;exact .mk' rfl}
  {cases h}
 | fieldAddr off x =>
  have hv:=H x (by simp[Ak.Z]);simp only[exec] at h;split at h;{rename_i e;rw[e] at hv;simp[As] at hv};{rename_i e;rw[e] at hv;obtain⟨_,h⟩:=CH h;cases h;exact .mk' (by simpa[As] using hv)};{rename_i e;rw[e] at hv;simp[As] at hv};·cases h
 | field off n ag x =>
  have hv:=H x (by simp[Ak.Z]);simp only[exec] at h;split at h;{rename_i e;rw[e] at hv;exact ON h fun v hs=>M9 (by simpa[As] using hv) hs};·cases h
 | ic k x i =>
  have hv:=H x (by simp[Ak.Z]);simp only[exec] at h;split at h;{rename_i e;rw[e] at hv;split at h;{rename_i y hy;obtain⟨_,h⟩:=CH h;cases h;exact .mk' (by simpa[As] using CG (Hm (by simpa[As] using hv) hy))};{cases h}};{rename_i e;rw[e] at hv;simp[As] at hv};·cases h
 | hJ k l x i =>
  have hv:=H x (by simp[Ak.Z]);simp only[exec] at h;split at h;{rename_i e;rw[e] at hv;obtain⟨_,h⟩:=CH h;cases h;exact .mk' (by simpa[As] using hv)};{rename_i e;rw[e] at hv;simp[As] at hv};·cases h
 | iV x i =>
  simp only[exec] at h;split at h
  ·split at h;·cases h;exact .mk' rfl
   {cases h}
  {cases h}
 | extract j x =>
  have hv:=H x (by simp[Ak.Z]);simp only[exec] at h;split at h;{rename_i e;rw[e] at hv;split at h;{rename_i v sL;cases h;exact .mk' (Hm (by simpa[As] using hv) sL)};{cases h}};{cases h}
 | len c x=>simp only[exec] at h;obtain⟨n,_,rfl⟩:=bB.1 h;exact .mk' rfl
 | ij mx Z =>
  simp only[exec] at h;split at h;{obtain⟨n,_,rfl⟩:=bB.1 h;exact .mk' rfl};·cases h
 | gZ t z ok x =>
  have hv:=H x (by simp[Ak.Z]);have hz:=ht t z ok x rfl;simp only[exec] at h;split at h;{rename_i e;rw[e] at hv;split at h;{cases h;refine .mk' ?_;simp only[As] at hv;split;{simp[As,Az,hv]};{exact hv}};{obtain⟨_,h⟩:=CH h;cases h;exact .mk' (by simp[As,Az,hz])}};{obtain⟨_,h⟩:=CH h;cases h;exact .mk' (by simp[As,Az,hz])};·cases h
end Go.Ab


namespace Go.Ab
variable{β:Type} {a k n:Nat} {b:Bool} {l:ff} {J:Nm} {op:Ak} {ps:fu} {v z:PV} {x:RX} {σ:Nm->fw} {y:Option β}
theorem Cj {α:Type} {x:Option α} {f:α->Option β} {r:β} (h:AF x f=some r):∃ a,x=some a/\f a=some r:=by
 cases x with
 | none=>cases h
 | some a=>exact⟨a,rfl,h⟩
theorem A8 {a:Option β} {r:β} (h:AJ b a=some r):b=true/\a=some r:=by
 cases b with
 | false=>cases h
 | true=>exact⟨rfl,h⟩
theorem JO {x:Option β} {r:β} (h:HH b x y=some r):(b=true/\x=some r)\/(b=false/\y=some r):=by
 cases b with
 | false=>exact .inr ⟨rfl,h⟩
 | true=>exact .inl ⟨rfl,h⟩
theorem OQ {x:Option β} {r:β} (h:Dx v x y=some r):(v=.bool true/\x=some r)\/(v=.bool false/\y=some r):=by unfold Dx at h;split at h;{exact .inl ⟨rfl,h⟩};{exact .inr ⟨rfl,h⟩};·cases h
theorem Nf {b:Nat}:Fs a b=true↔a<=b:=by unfold Fs;rw[Nat.ble_eq]
theorem K4 {b:Nat}:ltN a b=true↔a < b:=by unfold ltN;rw[cr]
theorem Nk {b:Nat}:sN a b=true↔a=b:=by unfold sN;rw[Nat.beq_eq]
def Tells {R:Type} (K:Aq->Option R) (r:R) (x:fj):Prop:=∃ out:Aq,K out=some r/\out.Ok/\x=some out.out
variable{v:KV}
theorem Aq.plain (h:v.ok):Aq.Ok {v}:=⟨h,by simp,by simp,by simp⟩
theorem Aq.one {o:Ac} (h:v.ok) (ho:o.ok):Aq.Ok {v,new:=[o]}:=⟨h,by simpa using ho,by simp,by simp⟩
theorem Aq.oo {o:Ac} (h:v.ok) (ho:o.ok):Aq.Ok {v,gA:=some (J,o)}:=⟨h,by simp,fun _ _ e=>(by cases e;exact ho),by simp⟩
variable {ks:Ao} {d:Nat} {R:Type} {K:Aq->Option R} {r:R}
theorem TM (h:ks.Ok) {Z:fu} (H:Z.all DN=true) (hm:x∈Z):(x.kv ks.tmps).ok:=LM h (bI.1 H x hm)
theorem cl_ev (h:ks.Ok) {v:PV} (hv:(x.kv ks.tmps).cl=some v):x.ev ks.V.tmps=v:=by rw[FF h,KV.iE hv]
theorem CM (h:ks.Ok) (H:op.Z.all DN=true) (hk:gO ks.tmps op K=some r):Tells K r (exec d (Aa ks.V.fA) ks.V.tmps op):=by
 unfold gO at hk;split at hk
 ·rename_i hc;simp only[bz] at hc;obtain⟨⟨hg,kA⟩,iG⟩:=hc;obtain⟨z,hz,hk⟩:=Cj hk;have ix:∀ x∈op.Z,∃ v,(x.kv ks.tmps).cl=some v:=fun x hm=>df.1 (bI.1 iG x hm);have fG:∀ x∈op.Z,As (x.ev ks.V.tmps)=true:=fun x hm=>by obtain⟨v,hv⟩:=ix x hm;rw[cl_ev h hv];exact KV.jf (TM h H hm) hv
  have mQ:op.iP (vu ks.tmps)=op.iP (fun x=>.c (x.ev ks.V.tmps)):=aF op hg fun x hm=>by obtain⟨v,hv⟩:=ix x hm;unfold vu;rw[hv,cl_ev h hv];rfl
  unfold AD at hz;rw[mQ,q7 _ _ _ _ hg] at hz;split at hz;{rename_i out ho;cases hz;have hp:=bh hg fG (fun z ps e=>by subst e;exact kA) (fun c z ok x k e=>by subst e;exact kA) (fun t z ok x e=>by subst e;exact kA) ho;refine⟨{v:=.cv out.v},hk,Aq.plain hp.ok,?_⟩;rw[Zi hg fG,ho,hp.eq];rfl};{cases hz}
 {cases hk}
theorem WZ {x:KV} (H:x.ok) {K:ff->Option R} (hk:P6 n x K=some r):∃ cs,K cs=some r/\AP cs/\Aw cs=x.pv.cells/\cs.length=n/\x.pv.isVal=true:=by
 unfold P6 at hk;split at hk;{split at hk;{rename_i hn;exact⟨_,hk,H,rfl,hn,rfl⟩};·cases hk}
 ·rename_i v;obtain⟨U,O⟩:=A8 hk;unfold HX at U;simp only[bz,eJ] at U;refine⟨_,O,?_,?_,by simp,U.1⟩
  ·refine CC.2 fun y hy=>?_;obtain⟨i,hi,rfl⟩:=bA.1 hy;have hv:As v=true:=H;show As (BF v i)=true;unfold BF;rw[bF];cases hg:v.cells[i]? with
   | none=>rfl
   | some c=>exact Hm (CG hv) hg
  ·rw[Ea,bV];show _=v.cells;apply cj;intro i;rw[bK];by_cases hi:i < n
   ·rw[cN hi];show some (BF v i)=_;unfold BF;rw[bF];have:i < v.cells.length:=by omega
    simp[bQ this]
   {rw[cg (by simpa using hi),cg (by omega)];rfl}
 {cases hk};{cases hk};{cases hk};{rename_i U O h3 h4 h5;split at hk;{rename_i hn;refine⟨_,hk,⟨H,trivial⟩,?_,by simp[hn],?_⟩;{simp only[Aw];cases x<;>simp_all [KV.pv,PV.cells]};{cases x<;>simp_all [KV.pv,PV.isVal]}};{cases hk}}
theorem MG (h:AP l) (n:Nat):AP (l.take n):=CC.2 fun x H=>CC.1 h x (cC H)
theorem MH (h:AP l) (n:Nat):AP (l.drop n):=CC.2 fun x H=>CC.1 h x (cO H)
theorem JJ {m:ff} (h:AP l) (h':AP m):AP (l++m):=CC.2 fun x H=>(bS.1 H).elim (CC.1 h x) (CC.1 h' x)
theorem KP (l:ff) (n:Nat):Aw (l.take n)=(Aw l).take n:=by rw[Ea,Ea,List.map_take]
theorem KQ (l:ff) (n:Nat):Aw (l.drop n)=(Aw l).drop n:=by rw[Ea,Ea,List.map_drop]
theorem Ox (l m:ff):Aw (l++m)=Aw l++Aw m:=by rw[Ea,Ea,Ea,cU]
theorem F7 (l:ff):(Aw l).length=l.length:=by rw[Ea,cf]
theorem jO (l:ff) (i:Nat):(Aw l)[i]?=(l[i]?).map KV.pv:=by rw[Ea,bK]
theorem vM (h:ks.Ok):∀ (ps:List (Nat×Nat×RX)) {z:ff} {K:ff->Option R},(∀ x∈ps.map (·.2.2),DN x=true)->AP z->Rd ks.tmps z ps K=some r->∃ cs,K cs=some r/\AP cs/\Ew ks.V.tmps (Aw z) ps=some (Aw cs):=by
 intro ps;induction ps with
 | nil=>intro z K _ hz hk;exact⟨z,hk,hz,rfl⟩
 | cons p ps ih =>
  obtain⟨off,n,x⟩:=p;intro z K H hz hk;simp only[Rd] at hk;obtain⟨cs,hk,iZ,oO,hlen,kz⟩:=WZ (LM h (H x (by simp))) hk;split at hk
  ·rename_i hle;obtain⟨jn,U,O,h3⟩:=ih (fun y hy=>H y (by simp only[bP,bE];exact .inr hy)) (JJ (JJ (MG hz _) iZ) (MH hz _)) hk;refine⟨jn,U,O,?_⟩;have hl2:(Aw cs).length=n:=by rw[F7,hlen]
   have hval':(x.ev ks.V.tmps).isVal=true:=by rw[FF h];exact kz
   have hcl':(x.ev ks.V.tmps).cells=Aw cs:=by rw[FF h];exact oO.symm
   simp only[Ew];rw[hcl'];unfold Ap gE;simp only[hval',hl2,F7,eK,ci,Bool.true_and,hle,eF];rw[Ox,Ox,KP,KQ] at h3;exact h3
  {cases hk}
theorem SM (h:ks.Ok) {x:KV} (H:x.ok) {K:fa->Option R} (hk:NF (AZ ks.fA) k x K=some r):∃ ys,K ys=some r/\Az ys=true/\C0 (Aa ks.V.fA) k x.pv=some ys:=by
 unfold NF at hk;split at hk
 ·rename_i J k' o n;split at hk
  ·rename_i ku kt Z hl;split at hk
   ·rename_i l9;obtain⟨U,O⟩:=A8 hk;rw[Nf] at U;have jx:Az Z=true:=CU h.ob hl;refine⟨_,O,GH (HM jx _) _,?_⟩;have mN:Aa ks.V.fA J=some (.arr ku kt Z):=by rw[Ge h,hl];rfl
    unfold By Bd at U;simp[KV.pv,C0,mN,Ap,l9.1,l9.2,U,BE,EB]
   {cases hk}
  {cases hk}
 ·split at hk
  ·rename_i v hv;obtain⟨ys,U,O⟩:=Cj hk;have jx:=KV.jf H hv;have oO:=KV.iE hv;unfold Kd at U;have h3:C0 (Aa ks.V.fA) k v=some ys:=by rw[<-U];exact On (by rw[(DS jx).1];simp)
   refine⟨ys,O,?_,by rw[oO];exact h3⟩;cases v with
   | sl k' Z f=>simp only[C0] at U;obtain⟨_,U⟩:=CH U;cases U;simpa[As] using jx
   | fF=>cases U;rfl
   | str s=>simp only[C0] at U;obtain⟨_,U⟩:=CH U;cases U;exact Wq _
   | arr J k' o n=>simp[As] at jx
   | _=>simp[C0] at U
  {cases hk}
theorem SN {Z:ff} (H:AP Z):(Al (Aw Z)).isEmpty=(Cu Z).isEmpty:=by rw[EH H]
theorem GI (hσ:∀ J o,σ J=some o->o.ok):∀ (d:Nat) (l:fh),FB σ d l=AA (fun J=>(σ J).map Ac.ob) d l:=by
 intro d;induction d with
 | zero=>intro l;rfl
 | succ d ih =>
  intro l;simp only[FB,AA]
  have e:(l.flatMap fun J=>((σ J).map Ac.names).getD [])=l.flatMap fun J=>(((σ J).map Ac.ob).map Ob.names).getD []:=by
   congr 1;funext J;cases ho:σ J with
   | none=>rfl
   | some o=>simp[Ac.jv (hσ _ _ ho)]
  rw[ih,e]
theorem vN (hσ:∀ J o,σ J=some o->o.ok) (J:Nm):((σ J).map Ac.names).getD []=(((σ J).map Ac.ob).map Ob.names).getD []:=by
 cases ho:σ J with
 | none=>rfl
 | some o=>simp[Ac.jv (hσ _ _ ho)]
theorem KU (hσ:∀ J o,σ J=some o->o.ok) (R:fh):Jl σ R=BJ (fun J=>(σ J).map Ac.ob) R:=by
 unfold Jl BJ;congr 1;funext J;simp only
 rw[vN hσ]
theorem MP (h:ks.Ok) {Z:ff} (H:AP Z):EP (Cv (AZ ks.fA) Ax) Z=AE (A3 (Aa ks.V.fA)) (Aw Z):=by rw[KO _ H];congr 1;funext J;exact aR h J
theorem GU (h:ks.Ok) (ps:fu):ps.map (RX.ev ks.V.tmps)=Aw (ps.map (RX.kv ks.tmps)):=by rw[Ea,bV];exact b9 fun x _=>FF h x
theorem J5 (h:ks.Ok) (H:ps.all DN=true):AP (ps.map (RX.kv ks.tmps)):=CC.2 fun v hv=>by obtain⟨x,hm,rfl⟩:=bA.1 hv;exact TM h H hm
theorem YV (hz:As z=true) (n:Nat):Az (List.replicate n z)=true:=DR.2 fun x H=>by rw[(List.mem_replicate.1 H).2];exact hz
theorem Xp {z:fa} (hz:Az z=true):AP (z.map Hb):=CC.2 fun v hv=>by obtain⟨x,hm,rfl⟩:=bA.1 hv;exact YH (DR.1 hz x hm)
theorem Yc (z:fa):Aw (z.map Hb)=z:=by rw[Ea,bV];have:KV.pv∘Hb=id:=funext fun v=>YG v;rw[this,List.map_id]
theorem Sx {k v:PV}:∀ {es jS:fa},D1 k v es=some jS->Az es=true->As k=true->As v=true->Az jS=true
 | [],jS,h,_,hk,hv=>by simp[D1] at h;subst h;simp[Az,hk,hv]
 | [_],jS,h,_,_,_=>by simp[D1] at h
 | a :: u :: es,jS,h,he,hk,hv=>by
  simp only[Az,bz] at he;simp only[D1] at h;split at h;·cases h;simp[Az,hk,hv,he.2.2]
  {obtain⟨l,hl,rfl⟩:=bB.1 h;simp[Az,he.1,he.2.1,Sx hl he.2.2 hk hv]};{cases h}
end Go.Ab


namespace Go.Ab
variable{cfg:CR} {op:Ak} {x:KV}
variable {ks:Ao} {d:Nat} {R:Type} {K:Aq->Option R} {r:R}
theorem q9 (h:x.cl=none) (hb:vw x=false):Q0 x.pv=false:=by
 cases x<;>first | rfl | (simp[KV.cl] at h;done) | skip
 exact hb
theorem ri (cs:fa):(PV.agg cs).cells=cs:=rfl
theorem vO (h:ks.Ok) (hq:(Ec ks.fA||Mf cfg op ks.tmps)=true) (H:op.Z.all DN=true) (hk:BY d (AZ ks.fA) ks.tmps op K=some r):Tells K r (exec d (Aa ks.V.fA) ks.V.tmps op):=by
 have ev:=FF h;have lk:=Ge h;have mM:∀ {x:RX},x∈op.Z->(x.kv ks.tmps).ok:=fun hm=>TM h H hm;cases op with
 | mov x =>
  refine⟨_,hk,Aq.plain (mM (by simp[Ak.Z])),?_⟩;simp[exec,Aq.out,ev]
 | pick c a b =>
  have ha:=mM (x:=a) (by simp[Ak.Z]);have hb:=mM (x:=b) (by simp[Ak.Z]);simp only[BY] at hk;split at hk;{rename_i hc;exact⟨_,hk,Aq.plain ha,by simp[exec,Aq.out,ev,hc,KV.pv]⟩};{rename_i hc;exact⟨_,hk,Aq.plain hb,by simp[exec,Aq.out,ev,hc,KV.pv]⟩};{rename_i v hc;rcases OQ hk with ⟨rfl,hk⟩ | ⟨rfl,hk⟩;{exact⟨_,hk,Aq.plain ha,by simp[exec,Aq.out,ev,hc,KV.pv]⟩};{exact⟨_,hk,Aq.plain hb,by simp[exec,Aq.out,ev,hc,KV.pv]⟩}};{cases hk}
 | box x =>
  have ha:=mM (x:=x) (by simp[Ak.Z]);simp only[BY] at hk;split at hk;{rename_i v hv;obtain⟨U,hk⟩:=A8 hk;rw[hv] at ha;unfold valO at U;exact⟨_,hk,Aq.one (o:=.whole 0 v) trivial ha,by simp[exec,Aq.out,ev,hv,KV.pv,Ap,U,Ac.ob,EQ]⟩};{rename_i cs hv;rw[hv] at ha;exact⟨_,hk,Aq.one (o:=.cells 0 cs) trivial ha,by simp[exec,Aq.out,ev,hv,KV.pv,Ap,PV.isVal,Ac.ob,PV.cells]⟩};{cases hk};{cases hk};{cases hk};{refine⟨_,hk,Aq.one (v:=.ref (d,0) 0) (o:=.cells 0 [x.kv ks.tmps]) trivial ⟨ha,trivial⟩,?_⟩;simp only[exec,Aq.out,ev];cases hy:x.kv ks.tmps<;>simp_all [KV.pv,Ap,PV.isVal,Ac.ob,PV.cells,Aw]}
 | alloc ty z =>
  simp only[BY] at hk;split at hk;{rename_i hz;exact⟨_,hk,Aq.one (o:=.cells _ (z.map Hb)) trivial (Xp hz),by simp[exec,Aq.out,KV.pv,Ac.ob,Yc]⟩};{cases hk}
 | build z ps =>
  simp only[BY] at hk;split at hk;{exact CM h H hk};{split at hk;{rename_i hz;obtain⟨cs,U,O,h3⟩:=vM h ps (fun x hm=>bI.1 H x hm) (Xp hz) hk;rw[Yc] at h3;exact⟨_,U,Aq.plain (v:=.agg cs) O,by simp[exec,Aq.out,h3,KV.pv]⟩};{cases hk}}
 | kr k ps =>
  have jx:=J5 h (ps:=ps) H;simp only[BY] at hk;split at hk
  ·rename_i A hv;obtain⟨U,hk⟩:=A8 hk;have oO:=Ji hv;refine⟨_,hk,Aq.one (o:=.arr k 0 A) trivial (H7 jx hv),?_⟩;have hn:(Al A).isEmpty=true:=by rw[(BT (H7 jx hv)).1];rfl
   unfold NS at U;simp only[exec,GU h,oO,hn,eF,Aq.out,KV.pv,Ac.ob,Ap,U,Bd,bP,cq,cS]
  ·split at hk;·cases hk
   ·rename_i gj;split at hk
    ·rename_i hc;obtain⟨U,hk⟩:=A8 hk;refine⟨_,hk,⟨trivial,?_,by simp,by simp⟩,?_⟩;{intro o ho;simp only[cc] at ho;subst ho;exact IJ (Ky (CB h) (Mx (by simpa[Mf] using hq)) Ax) jx hc.2}
     ·have vP:(Al (Aw (ps.map (RX.kv ks.tmps)))).isEmpty=false:=by rw[SN jx];simpa using gj
      unfold NS at U;rw[MP h jx] at U;have iR:=hc.1;rw[GI (CB h),KU (CB h),<-Dz h,<-EH jx] at iR;simp only[exec,GU h,vP,bL,eE,Aq.out,KV.pv,Ac.ob,Bd,bP,cq,cS];rw[MP h jx,GI (CB h),<-Dz h,<-EH jx];unfold Ap;rw[U,iR];rfl
    {cases hk}
 | load n ag x =>
  have ha:=mM (x:=x) (by simp[Ak.Z]);simp only[BY] at hk;split at hk;{rename_i J o hv;split at hk;{rename_i cs hl;have iZ:AP cs:=CU h.ob hl;split at hk;{rename_i oU;split at hk;{rename_i hle;refine⟨_,hk,Aq.plain (v:=.agg ((cs.drop o).take n)) (MG (MH iZ _) _),?_⟩;simp[exec,ev,hv,KV.pv,lk,hl,Ac.ob,B1,oU,Ap,F7,hle,Aq.out,KP,KQ]};{cases hk}};{rename_i oU;split at hk;{rename_i c hc;refine⟨_,hk,Aq.plain (CC.1 iZ c (bJ hc)),?_⟩;simp[exec,ev,hv,KV.pv,lk,hl,Ac.ob,B1,oU,jO,hc,Aq.out]};{cases hk}}};{rename_i v hl;obtain⟨z,hz,hk⟩:=Cj hk;have hv':As v=true:=CU h.ob hl;unfold vg at hz;refine⟨_,hk,Aq.plain (v:=.cv z) (M9 (CG hv') hz),?_⟩;simp[exec,ev,hv,KV.pv,lk,hl,Ac.ob,EQ,hz,Aq.out]};{cases hk}};{rename_i J k i o hv;split at hk;{rename_i k' kt Z hl;split at hk;{rename_i l9;obtain⟨z,hz,hk⟩:=Cj hk;have iA:Az Z=true:=CU h.ob hl;unfold elemO at hz;split at hz;{rename_i e he;refine⟨_,hk,Aq.plain (v:=.cv z) (M9 (CG (Hm iA he)) hz),?_⟩;simp[exec,ev,hv,KV.pv,lk,hl,Ac.ob,he,hz,Ap,l9,Aq.out]};{cases hz}};{cases hk}};{cases hk}};{exact CM h H hk}
 | store n x v =>
  have ha:=mM (x:=x) (by simp[Ak.Z]);have hb:=mM (x:=v) (by simp[Ak.Z]);simp only[BY] at hk;split at hk
  ·rename_i J o hv;split at hk
   ·rename_i cs hl;have iZ:AP cs:=CU h.ob hl;obtain⟨A,hk,kM,oO,hlen,kz⟩:=WZ hb hk;split at hk
    ·rename_i hle;refine⟨_,hk,Aq.oo (o:=.cells _ (cs.take o++A++cs.drop (o+n))) trivial (JJ (JJ (MG iZ _) kM) (MH iZ _)),?_⟩;have hl2:(Aw A).length=n:=by rw[F7,hlen]
     simp[exec,ev,hv,KV.pv,lk,hl,Ac.ob,<-oO,kz,hl2,Ap,F7,hle,Aq.out,gE,Ox,KP,KQ]
    {cases hk}
   {rename_i w hl;split at hk;{rename_i u hu;obtain⟨U,hk⟩:=A8 hk;have hw:As w=true:=CU h.ob hl;have huo:=KV.jf hb hu;unfold okSto at U;simp only[bz,eI] at U;refine⟨_,hk,Aq.oo (o:=.whole _ (vp u w o)) trivial ?_,?_⟩;{show As (vp u w o)=true;simpa[vp,As,gE] using Hg (GH (CG hw) o) (Hg (CG huo) (HM (CG hw) _))};{have oO:=KV.iE hu;simp[exec,ev,hv,KV.pv,lk,hl,Ac.ob,EQ,oO,U.1.1,U.1.2,U.2,Ap,Aq.out,vp,ri]}};{cases hk}};{cases hk}
  ·rename_i J k i o hv;split at hk
   ·rename_i k' kt Z hl;split at hk
    ·rename_i u hu;split at hk
     ·rename_i l9;obtain⟨ys,kX,hk⟩:=Cj hk;have iA:Az Z=true:=CU h.ob hl;have huo:=KV.jf hb hu;have oO:=KV.iE hu;unfold setO at kX;split at kX
      ·rename_i es he;obtain⟨U,O⟩:=A8 kX;cases O;simp only[bz,eI] at U;have heo:Az es=true:=by simpa[As] using Hm iA he
       refine⟨_,hk,Aq.oo (o:=.arr k kt _) trivial ?_,?_⟩;{refine Xo iA i ?_;simpa[As,gE] using Hg (GH heo o) (Hg (CG huo) (HM heo _))}
       ·have hn:(Al u.cells).isEmpty=true:=by rw[(BT (CG huo)).1];rfl
        simp[exec,ev,hv,KV.pv,lk,hl,Ac.ob,he,oO,U.1.1,U.1.2,U.2,Ap,l9,Aq.out];rw[(BT (CG huo)).1]
      {rename_i e gj he;obtain⟨U,O⟩:=A8 kX;cases O;simp only[bz,eJ] at U;refine⟨_,hk,Aq.oo (o:=.arr k kt _) trivial (Xo iA i huo),?_⟩;have hn:u.names=[]:=(DS huo).1;simp only[exec,ev,hv,KV.pv,lk,hl,bG,Ac.ob,he,oO];subst l9;simp[Ap,U.1.1.1,U.1.1.2,U.1.2,U.2,hn,Aq.out,Ac.ob,KV.pv]};{cases kX}
     {cases hk}
    {cases hk}
   {cases hk}
  {cases hk}
 | nilck x =>
  have ha:=mM (x:=x) (by simp[Ak.Z]);simp only[BY] at hk;split at hk;{rename_i hv;exact⟨_,hk,Aq.plain (by trivial),by simp[exec,ev,hv,KV.pv,Aq.out]⟩};{rename_i hv;exact⟨_,hk,Aq.plain (by trivial),by simp[exec,ev,hv,KV.pv,Aq.out]⟩};{rename_i hv;rw[hv] at ha;exact⟨_,hk,Aq.plain ha,by simp[exec,ev,hv,KV.pv,Aq.out]⟩};{rename_i hv;exact⟨_,hk,Aq.plain (by trivial),by simp[exec,ev,hv,KV.pv,Aq.out]⟩};{exact CM h H hk}
 | bin o c kc x y =>
  simp only[BY] at hk;split at hk
  ·rename_i J o' v U O;split at hk
   ·rcases JO hk with ⟨hc,hk⟩ | ⟨_,hk⟩
    {split at hc;{refine⟨_,hk,Aq.plain (v:=.lit false) trivial,?_⟩;simp[exec,ev,U,O,KV.pv,Dw,Jr,Aq.out]};{cases hc}};{cases hk}
   ·rcases JO hk with ⟨hc,hk⟩ | ⟨_,hk⟩
    {split at hc;{refine⟨_,hk,Aq.plain (v:=.lit true) trivial,?_⟩;simp[exec,ev,U,O,KV.pv,Dw,Jr,Aq.out]};{cases hc}};{cases hk}
   {cases hk}
  {exact CM h H hk}
 | un o x =>
  cases o with
  | not =>
   simp only[BY] at hk;split at hk;{rename_i b hv;exact⟨_,hk,Aq.plain (v:=.lit (!b)) trivial,by simp[exec,ev,hv,KV.pv,Aq.out]⟩};{exact CM h H hk}
  | _=>exact CM h H hk
 | mkI t x =>
  have ha:=mM (x:=x) (by simp[Ak.Z]);simp only[BY] at hk;split at hk;{rename_i v hv;refine⟨_,hk,Aq.plain (v:=.cv (.iface t v)) ?_,?_⟩;{show As (.iface t v)=true;simpa[As] using KV.jf ha hv};{simp[exec,ev,KV.iE hv,KV.pv,Aq.out]}}
  ·split at hk;·cases hk
   {cases hk};{cases hk};{cases hk};{exact⟨_,hk,Aq.plain (v:=.iface t (x.kv ks.tmps)) ha,by simp[exec,ev,KV.pv,Aq.out]⟩}
 | mkF f cap =>
  simp only[BY] at hk;split at hk;{refine⟨_,hk,Aq.plain (v:=.fn f (cap.map (RX.kv ks.tmps))) (J5 h H),?_⟩;simp[exec,Aq.out,KV.pv,GU h]};{cases hk}
 | mkMap=>exact⟨_,hk,Aq.one (o:=.map []) trivial rfl,by simp[exec,Aq.out,KV.pv,Ac.ob]⟩
 | insert c x k v =>
  have hb:=mM (x:=k) (by simp[Ak.Z]);have hc:=mM (x:=v) (by simp[Ak.Z]);simp only[BY] at hk;split at hk
  ·rename_i J hv;split at hk;{rename_i es kk vv hl U O;obtain⟨jS,he,hk⟩:=Cj hk;have lH:Az es=true:=CU h.ob hl;have hko:=KV.jf hb U;have hvo:=KV.jf hc O;unfold insO at he;split at he;{rename_i es2 hs;obtain⟨h3,h4⟩:=A8 he;cases h4;simp only[bz] at h3;refine⟨_,hk,Aq.oo (o:=.map jS) trivial (Sx hs lH hko hvo),?_⟩;have hn:vv.names=[]:=(DS hvo).1;simp[exec,ev,hv,KV.pv,lk,hl,Ac.ob,KV.iE U,KV.iE O,hs,Ap,h3.1,h3.2,hn,Aq.out]};{cases he}}
   ·rename_i es kk hl U O;split at hk;·cases hk
    ·rename_i gj;simp only[dW,not_or,Bool.not_eq_true] at gj;have hnb:=q9 O gj.2;replace gj:=gj.1;split at hk
     ·rename_i kH;obtain⟨iR,hy,hcn⟩:=kH;obtain⟨jS,he,hk⟩:=Cj hk;have lH:Az es=true:=CU h.ob hl;have hko:=KV.jf hb U;have hok1:AP [v.kv ks.tmps]:=⟨hc,trivial⟩;have iG:=MP h hok1;have nY:=IJ (Ky (CB h) (Mx (by simpa[Mf] using hq)) Ax) hok1 hy;have e1:AL (EP (Cv (AZ ks.fA) Ax) [v.kv ks.tmps]) 0=((v.kv ks.tmps).pv).sub (A3 (Aa ks.V.fA)):=by rw[iG];simp[Aw,AE,AL]
      have hvo:As (((v.kv ks.tmps).pv).sub (A3 (Aa ks.V.fA)))=true:=by rw[<-e1];rw[iG] at nY |-;exact (cL.1 nY).1
      rw[e1] at he;have hn2:((v.kv ks.tmps).pv).names.isEmpty=false:=by rw[KV.iy hc];simpa[Cu] using gj
      have hrch:FB (AZ ks.fA) Ax (Cu [v.kv ks.tmps])=AA (Aa ks.V.fA) Ax ((v.kv ks.tmps).pv).names:=by rw[GI (CB h),<-Dz h,KV.iy hc];simp[Cu]
      rw[hrch,KU (CB h),<-Dz h] at iR;rw[hrch] at hcn hk;have hcn':¬ J∈AA (Aa ks.V.fA) Ax ((v.kv ks.tmps).pv).names:=fun hm=>by rw[cy.2 hm] at hcn;cases hcn
      unfold insO at he;split at he;{rename_i es2 hs;obtain⟨h3,h4⟩:=A8 he;cases h4;simp only[bz] at h3;refine⟨_,hk,⟨trivial,by simp,fun m o' e=>by cases e;exact Sx hs lH hko hvo,by simp⟩,?_⟩;simp[exec,ev,hv,KV.pv,lk,hl,Ac.ob,KV.iE U,hn2,hnb,(BT lH).1,hs,Ap,h3.1,h3.2,iR,hcn',Aq.out]};{cases he}
     {cases hk}
   {cases hk}
  {cases hk}
 | lookup c z ok x k =>
  have hb:=mM (x:=k) (by simp[Ak.Z]);simp only[BY] at hk;split at hk
  ·rename_i J hv;split at hk
   ·rename_i es kk hl U;split at hk
    case isFalse=>cases hk
    rename_i hz;obtain⟨u,hu,hk⟩:=Cj hk;have lH:Az es=true:=CU h.ob hl;unfold lookO at hu;split at hu;·cases hu
    ·rename_i r' hr;obtain⟨h3,h4⟩:=A8 hu;cases h4
     have hrz:As (r'.getD z)=true:=by
      cases r' with
      | none=>exact hz
      | some v=>exact S2 hr lH
     refine⟨_,hk,Aq.plain (v:=.cv _) ?_,?_⟩;{show As _=true;split;{simp[As,Az,hrz]};{exact hrz}};{simp[exec,ev,hv,KV.pv,lk,hl,Ac.ob,KV.iE U,hr,Ap,h3,Aq.out]}
   {cases hk}
  {exact CM h H hk}
 | po k z l c =>
  simp only[BY] at hk;split at hk;{rename_i lv cv hl hc;split at hk;{rename_i hz;obtain⟨n,hn,hk⟩:=Cj hk;unfold vh at hn;split at hn;{rename_i a b U O;obtain⟨h3,h4⟩:=A8 hn;cases h4;refine⟨_,hk,Aq.one (o:=.arr k 0 (ER _ z)) trivial (YV hz.2 _),?_⟩;simp only[bz,eI] at h3;simp[exec,ev,KV.iE hl,KV.iE hc,U,O,Ap,h3.1,h3.2,hz.1,Aq.out,KV.pv,Ac.ob,ER]};{cases hn}};{cases hk}};{cases hk}
 | slice k x lo hi mx =>
  simp only[BY] at hk;split at hk
  ·rename_i J k' o n hv;split at hk
   ·rename_i hc;obtain⟨l9,hmx,ix⟩:=hc;obtain⟨m,hm,hk⟩:=Cj hk;obtain⟨hh,hhi,hk⟩:=Cj hk
    have fG:∀ (y:fz),(∀ z∈y.toList,z∈lo.toList++hi.toList++mx.toList)->(y.map fun z=>((z.kv ks.tmps).cl).getD .undef)=Ci ks.V.tmps y:=by
     intro y hy;cases y with
     | none=>rfl
     | some z =>
      have:=bI.1 ix z (hy z (by simp));obtain⟨v,hv⟩:=df.1 this;simp[Ci,hv,ev,KV.iE hv]
    rw[fG mx fun z hz=>by simp only[bS];exact .inr hz] at hm;rw[fG hi fun z hz=>by simp only[bS];exact .inl (.inr hz)] at hhi;unfold Gk at hm hhi;subst l9
    have hmx':((mx.map (RX.ev ks.V.tmps)).isNone||(hi.map (RX.ev ks.V.tmps)).isSome)=true:=by
     rcases hmx with e | e
     ·cases mx with
      | none=>rfl
      | some _=>cases e
     ·cases hi with
      | none=>cases e
      | some _=>simp
    have vQ:∀ y:fz,Ci ks.V.tmps y=y.map (RX.ev ks.V.tmps):=fun y=>by cases y<;>rfl
    rw[vQ] at hm hhi;cases lo with
    | none =>
     refine⟨_,hk,Aq.plain (v:=.arr J k o hh) trivial,?_⟩;have hb0:Df (none:ft) 0 hh=some 0:=rfl;simp only[exec,ev,hv,KV.pv,HV,vQ,hm,hhi,cS,hb0,Ap,eO,Bool.true_and,hmx',eF,Aq.out];simp
    | some lo' =>
     obtain⟨l,hl,hk⟩:=Cj hk;have hlo:=fG (some lo') (by simp);simp only[bG] at hlo;rw[hlo] at hl;unfold Gk at hl;rw[vQ] at hl;rcases JO hk with ⟨U,hk⟩ | ⟨U,hk⟩
     {unfold JD at U;simp only[bz,Nk,K4] at U;refine⟨_,hk,Aq.plain (v:=.cv (.sl k [] false)) rfl,?_⟩;have O:hh=l/\0 < l:=U;simp only[exec,ev,hv,KV.pv,HV,vQ,hm,hhi,hl,Ap,eO,Bool.true_and,hmx',eF,Aq.out,eH O];rfl}
     ·unfold JD at U;simp only[Bool.and_eq_false_iff] at U;have O:¬ (hh=l/\0 < l):=by rintro ⟨a,b⟩;rcases U with U | U;{rw[show sN hh l=true from Nk.2 a] at U;cases U};{rw[show ltN 0 l=true from K4.2 b] at U;cases U}
      refine⟨_,hk,Aq.plain (v:=.arr J k (By o l) (Is hh l)) trivial,?_⟩;simp only[exec,ev,hv,KV.pv,HV,vQ,hm,hhi,hl,Ap,eO,Bool.true_and,hmx',eF,Aq.out,eG O,By,Is];rfl
   {cases hk}
  {exact CM h H hk}
 | fieldAddr off x =>
  simp only[BY] at hk;split at hk;{rename_i hv;exact⟨_,hk,Aq.plain (by trivial),by simp[exec,ev,hv,KV.pv,Aq.out]⟩};{rename_i hv;exact⟨_,hk,Aq.plain (by trivial),by simp[exec,ev,hv,KV.pv,Aq.out]⟩};{exact CM h H hk}
 | field off n ag x =>
  have ha:=mM (x:=x) (by simp[Ak.Z]);simp only[BY] at hk;split at hk;{rename_i cs hv;rw[hv] at ha;have iZ:AP cs:=ha;split at hk;{rename_i oU;split at hk;{rename_i hle;refine⟨_,hk,Aq.plain (v:=.agg ((cs.drop off).take n)) (MG (MH iZ _) _),?_⟩;simp[exec,ev,hv,KV.pv,B1,oU,Ap,F7,hle,Aq.out,KP,KQ]};{cases hk}};{rename_i oU;split at hk;{rename_i c hc;refine⟨_,hk,Aq.plain (CC.1 iZ c (bJ hc)),?_⟩;simp[exec,ev,hv,KV.pv,B1,oU,jO,hc,Aq.out]};{cases hk}}};{exact CM h H hk}
 | ic k x i =>
  simp only[BY] at hk;split at hk;{rename_i J k' o n hv;split at hk;{rename_i iv hi;split at hk;{rename_i l9;obtain⟨j,hj,hk⟩:=Cj hk;obtain⟨U,hk⟩:=A8 hk;rw[K4] at U;unfold natO at hj;refine⟨_,hk,Aq.plain (v:=.fO J k (By o j) 0) trivial,?_⟩;simp[exec,ev,hv,KV.pv,KV.iE hi,hj,Ap,l9,U,Aq.out,By]};{cases hk}};{cases hk}};{exact CM h H hk}
 | extract j x =>
  have ha:=mM (x:=x) (by simp[Ak.Z]);simp only[BY] at hk;split at hk;{rename_i Z hv;rw[hv] at ha;have iA:AP Z:=ha;split at hk;{rename_i v hj;refine⟨_,hk,Aq.plain (CC.1 iA v (bJ hj)),?_⟩;simp[exec,ev,hv,KV.pv,jO,hj,Aq.out]};{cases hk}};{exact CM h H hk}
 | len c x =>
  simp only[BY] at hk;split at hk;{rename_i J k o n hv;split at hk;{exact⟨_,hk,Aq.plain (v:=.cv (nI n)) rfl,by simp[exec,ev,hv,KV.pv,If,Aq.out,nI]⟩};·cases hk};{rename_i J hv;split at hk;{rename_i es hl;exact⟨_,hk,Aq.plain (v:=.cv (nI (vm (Bd es)))) rfl,by simp[exec,ev,hv,KV.pv,If,lk,hl,Ac.ob,Aq.out,nI,vm,Bd]⟩};{cases hk}};{exact CM h H hk}
 | append k ty s x =>
  have ha:=mM (x:=s) (by simp[Ak.Z]);have hb:=mM (x:=x) (by simp[Ak.Z]);simp only[BY] at hk;obtain⟨ys,hk,uJ,kX⟩:=SM h hb hk;split at hk;{rename_i J k' o n hv;split at hk;{rename_i ku kt Z hl;split at hk;{rename_i l9;obtain⟨rfl,rfl,rfl⟩:=l9;obtain⟨U,hk⟩:=A8 hk;unfold JD at U;simp only[bz,Nf,Bd,By] at U;have iA:Az Z=true:=CU h.ob hl;refine⟨_,hk,⟨trivial,by simp,?_,by simp⟩,?_⟩;{intro m o' e;cases e;exact Hg (GH iA n) uJ};{simp[exec,ev,kX,hv,KV.pv,lk,hl,Ac.ob,Ap,U.1,U.2,Aq.out,By,Bd,Dh,BE]}};{cases hk}};{cases hk}};{rename_i hv;obtain⟨U,hk⟩:=A8 hk;simp only[Nf,Bd] at U;exact⟨_,hk,Aq.one (o:=.arr k ty ys) trivial uJ,by simp[exec,ev,kX,hv,KV.pv,Ap,U,Aq.out,Ac.ob,Bd]⟩}
  ·rename_i v hv;obtain⟨zs,hz,ka⟩:=Cj hk;rw[hv] at ha;have hvo:As v=true:=ha;unfold appO at hz;split at hz;{obtain⟨U,O⟩:=A8 hz;cases O;exact⟨_,ka,Aq.one (o:=.arr k ty ys) trivial uJ,by simp at U;simp[exec,ev,kX,hv,KV.pv,Ap,U,Aq.out,Ac.ob,Bd]⟩}
   ·rename_i k' Z;split at hz;·cases hz
    {rename_i y ys';obtain⟨U,O⟩:=A8 hz;cases O;simp only[bz,eJ,eI] at U;obtain⟨rfl,U⟩:=U;refine⟨_,ka,Aq.one (o:=.arr k ty (Z++y :: ys')) trivial (Hg (by simpa[As] using hvo) uJ),?_⟩;simp[exec,ev,kX,hv,KV.pv,Ap,U,Aq.out,Ac.ob,Bd]}
   {cases hz}
  {cases hk}
 | copy k x s =>
  have ha:=mM (x:=x) (by simp[Ak.Z]);have hb:=mM (x:=s) (by simp[Ak.Z]);simp only[BY] at hk;obtain⟨ys,hk,uJ,kX⟩:=SM h hb hk;split at hk;{rename_i J k' o n hv;split at hk;{rename_i ku kt Z hl;split at hk;{rename_i l9;obtain⟨rfl,rfl⟩:=l9;obtain⟨U,hk⟩:=A8 hk;simp only[Nf,Bd,By] at U;have iA:Az Z=true:=CU h.ob hl;refine⟨_,hk,Aq.oo (o:=.arr k kt _) rfl (Hg (Hg (GH iA o) (GH uJ n)) (HM iA _)),?_⟩;simp[exec,ev,kX,hv,KV.pv,lk,hl,Ac.ob,Ap,U,Aq.out,By,Bd,Dh,BE,EB,nI,minN];omega};{cases hk}};{cases hk}};{rename_i hv;exact⟨_,hk,Aq.plain (v:=.cv (nI 0)) rfl,by simp[exec,ev,kX,hv,KV.pv,Aq.out,nI]⟩};{cases hk}
 | iter x =>
  simp only[BY] at hk;split at hk;{rename_i v hv;obtain⟨s,hs,hk⟩:=Cj hk;unfold strO at hs;split at hs;{cases hs;exact⟨_,hk,Aq.one (o:=.fW s 0) trivial trivial,by simp[exec,ev,KV.iE hv,Aq.out,KV.pv,Ac.ob]⟩};{cases hs}};{cases hk}
 | next x =>
  simp only[BY] at hk;split at hk
  ·rename_i J hv;split at hk
   ·rename_i s pos hl;rcases JO hk with ⟨U,hk⟩ | ⟨U,hk⟩
    {rw[K4] at U;unfold lenS at U;refine⟨_,hk,Aq.oo (o:=.fW s (By pos (vj s pos))) (v:=.fM [.lit true,.cv (nI pos),.cv (vi s pos)]) ⟨trivial,rfl,rfl,trivial⟩ trivial,?_⟩;simp[exec,ev,hv,KV.pv,lk,hl,Ac.ob,U,Aq.out,Aw,nI,vi,vj,By]}
    ·have O:¬ pos < s.length:=by intro h3;rw[show ltN pos (lenS s)=true from K4.2 h3] at U;cases U
     refine⟨_,hk,Aq.plain (v:=.fM [.lit false]) ⟨trivial,trivial⟩,?_⟩;simp[exec,ev,hv,KV.pv,lk,hl,Ac.ob,O,Aq.out,Aw]
   {cases hk}
  {cases hk}
 | gZ t z ok x =>
  have ha:=mM (x:=x) (by simp[Ak.Z]);simp only[BY] at hk;split at hk;{rename_i u y hv;rw[hv] at ha;have hy:y.ok:=ha;split at hk;{rename_i hut;refine⟨_,hk,Aq.plain ?_,?_⟩;{split;{exact⟨hy,trivial,trivial⟩};{exact hy}};{simp only[exec,ev,hv,KV.pv,hut,eF,Aq.out];cases ok<;>simp[KV.pv,Aw]}};{rename_i hut;split at hk;{rename_i hz;refine⟨_,hk,Aq.plain (v:=.fM [.cv z,.lit false]) ⟨hz.2,trivial,trivial⟩,?_⟩;simp[exec,ev,hv,KV.pv,hut,Ap,hz.1,Aq.out,Aw]};{cases hk}}};{exact CM h H hk}
 | call f args=>cases hk
 | bad=>cases hk
 | conv k x=>exact CM h H hk
 | il x=>exact CM h H hk
 | ofBytes x =>
  have ha:=mM (x:=x) (by simp[Ak.Z]);simp only[BY] at hk;split at hk
  ·rename_i J k o n hv;rw[hv] at ha;obtain⟨ys,hk,uJ,kX⟩:=SM h ha hk;obtain⟨z,hz,hk⟩:=Cj hk;simp only[AD,exec,RX.ev,N3,Bool.not_false,Ap,eF,C0,eO] at hz;cases hb:EM ys with
   | none=>rw[hb] at hz;cases hz
   | some s =>
    rw[hb] at hz;cases hz;refine⟨_,hk,Aq.plain (v:=.cv (.str s)) rfl,?_⟩;have hys':C0 (Aa ks.V.fA) 1 (.arr J k o n)=some ys:=kX;simp[exec,ev,hv,KV.pv,N3,Ap,hys',hb,Aq.out]
  {exact CM h H hk}
 | iU x=>exact CM h H hk
 | jG x=>exact CM h H hk
 | gM x lo hi=>exact CM h H hk
 | hJ k l x i=>exact CM h H hk
 | iV x i=>exact CM h H hk
 | ij mx Z=>exact CM h H hk
end Go.Ab


namespace Go.Ab
variable{B:List (Nm×Nm)} {R:fh} {a b l A:fa} {i:Nat} {m:Nm} {p:KV} {sl:fb} {v x:PV}
theorem Ac.ko (f:Nm->Nm) {o:Ac} (h:o.ok):(o.fQ f).ob=o.ob.fQ f:=by
 cases o with
 | cells ty cs=>simp[Ac.fQ,Ac.ob,Ob.fQ,K1 f h]
 | whole ty v =>
  have:=(BT (CG h)).1;simp only[Ac.fQ,Ac.ob,Ob.fQ,EQ];rw[KH this]
 | map es =>
  simp only[Ac.fQ,Ac.ob,Ob.fQ];rw[KH (BT h).1]
 | _=>rfl
theorem Ac.iz (f:Nm->Nm) {o:Ac} (h:o.ok):(o.fQ f).ok:=by
 cases o with
 | cells ty cs=>exact KW f h
 | _=>exact h
theorem UK (f:Nm->Nm) (Z ys:fa):AR f (Z++ys)=AR f Z++AR f ys:=by
 induction Z with
 | nil=>rfl
 | cons x Z ih=>simp[AR,ih]
def Ct (A:fa) (i:Nat) (l:fa):Prop:=∀ m v,l[m]?=some v->AL A (i+m)=v
theorem Ct.left (h:Ct A i (a++b)):Ct A i a:=fun m v hm=>h m v (by
 rw[ck (bH.1 hm).1];exact hm)
theorem Ct.right (h:Ct A i (a++b)):Ct A (i+a.length) b:=fun m v hm=>by have:=h (a.length+m) v (by rw[cD (by omega)];simpa using hm);rw[<-this,dz]
theorem Ct.head (h:Ct A i (x :: l)):AL A i=x:=h 0 x rfl
theorem Ct.all (A:fa):Ct A 0 A:=fun m v hm=>by unfold AL;rw[bF,bX,hm];rfl
theorem Nd {x:KV} (H:x.ok) (hf:x.cl.isSome=true) (h:Ct A i [x.cl.getD .undef]):(KV.cv (AL A i)).pv=x.pv/\(KV.cv (AL A i)).ok:=by obtain⟨v,hv⟩:=df.1 hf;have:=h.head;rw[hv] at this;simp only[b7] at this;rw[this];exact⟨(KV.iE hv).symm,KV.jf H hv⟩
theorem X3 (h:EW p=false):EW (fill p A i).1=false:=by cases p<;>simp[EW] at h<;>simp only[fill]<;>first | rfl | (split<;>rfl)
mutual
theorem Tz:∀ (p x:KV),A4 p x=true->x.ok->∀ (A:fa) (i:Nat),Ct A i (BD p x)->(fill p A i).1.pv=x.pv/\(fill p A i).1.ok/\(fill p A i).2=i+(BD p x).length
 | .un,x,h,_,A,i,_=>by cases x<;>simp[A4] at h;exact⟨rfl,trivial,rfl⟩
 | .sk,x,h,_,A,i,_=>by cases x<;>simp[A4] at h;exact⟨rfl,trivial,rfl⟩
 | .fT d,x,h,_,A,i,hs=>by
  cases x with
  | fT d' =>
   have U:AL A i=nI d':=hs.head;simp[fill,KV.pv,U,nI,Ej,KV.ok,BD]
  | _=>simp[A4] at h
 | .ref J o,x,h,_,A,i,_=>by cases x<;>simp[A4] at h;obtain⟨rfl,rfl⟩:=h;exact⟨rfl,trivial,rfl⟩
 | .fO _ _ _ _,x,h,_,A,i,_=>by simp[A4] at h
 | .mp J,x,h,_,A,i,_=>by cases x<;>simp[A4] at h;subst h;exact⟨rfl,trivial,rfl⟩
 | .it J,x,h,_,A,i,_=>by cases x<;>simp[A4] at h;subst h;exact⟨rfl,trivial,rfl⟩
 | .iF J,x,h,_,A,i,_=>by cases x<;>simp[A4] at h;subst h;exact⟨rfl,trivial,rfl⟩
 | .arr J k o n,x,h,_,A,i,hs=>by
  cases x with
  | arr gP k' o' n' =>
   simp only[A4,bz,eJ] at h;obtain⟨⟨rfl,rfl⟩,ho⟩:=h;have:=ch ho;subst this;have U:AL A i=nI n':=hs.head;simp[fill,KV.pv,U,nI,Ej,KV.ok,BD]
  | _=>simp[A4] at h
 | .lit b,x,h,H,A,i,hs=>by
  have:=Nd H (by simpa[A4] using h) (by simpa[BD] using hs);exact⟨this.1,this.2,by simp[fill,BD]⟩
 | .gU,x,h,H,A,i,hs=>by
  have:=Nd H (by simpa[A4] using h) (by simpa[BD] using hs);exact⟨this.1,this.2,by simp[fill,BD]⟩
 | .cv v,x,h,H,A,i,hs=>by
  have:=Nd H (by simpa[A4] using h) (by simpa[BD] using hs);exact⟨this.1,this.2,by simp[fill,BD]⟩
 | .fn f cap,x,h,H,A,i,hs=>by
  cases x with
  | fn f' kP =>
   simp only[A4,bz,eJ] at h;obtain⟨rfl,h⟩:=h;obtain⟨a,b,c⟩:=KY cap kP h H A i (by simpa[BD] using hs);exact⟨by simp[fill,KV.pv,a],b,by simp[fill,BD,c]⟩
  | _=>simp[A4] at h
 | .fM Z,x,h,H,A,i,hs=>by
  cases x with
  | fM ys =>
   simp only[A4] at h;obtain⟨a,b,c⟩:=KY Z ys h H A i (by simpa[BD] using hs);exact⟨by simp[fill,KV.pv,a],b,by simp[fill,BD,c]⟩
  | _=>simp[A4] at h
 | .agg cs,x,h,H,A,i,hs=>by
  simp only[A4] at h;simp only[BD] at hs;by_cases hc:(CT cs).isSome=true;{rw[eH hc] at h hs;have:=Nd H h hs;simp only[fill,hc,eF];exact⟨this.1,this.2,by simp[BD,hc]⟩}
  ·rw[eG hc] at h hs;cases x with
   | agg jn =>
    obtain⟨a,b,c⟩:=KY cs jn h H A i hs;simp only[fill,eG hc];exact⟨by simp[KV.pv,a],b,by simp[BD,hc,c]⟩
   | _=>simp at h
 | .iface t y,x,h,H,A,i,hs=>by
  simp only[A4] at h;simp only[BD] at hs;by_cases hc:y.cl.isSome=true;{rw[eH hc] at h hs;have:=Nd H h hs;simp only[fill,hc,eF];exact⟨this.1,this.2,by simp[BD,hc]⟩}
  ·rw[eG hc] at h hs;cases x with
   | iface t' y' =>
    simp only[bz,eJ] at h;obtain⟨rfl,h⟩:=h;obtain⟨a,b,c⟩:=Tz y y' h H A i hs;simp only[fill,eG hc];exact⟨by simp[KV.pv,a],b,by simp[BD,hc,c]⟩
   | _=>simp at h
theorem KY:∀ (ps Z:ff),CQ ps Z=true->AP Z->∀ (A:fa) (i:Nat),Ct A i (Fc ps Z)->Aw (Ce ps A i).1=Aw Z/\AP (Ce ps A i).1/\(Ce ps A i).2=i+(Fc ps Z).length
 | [],Z,h,_,A,i,_=>by cases Z<;>simp[CQ] at h;exact⟨rfl,trivial,rfl⟩
 | p :: ps,Z,h,H,A,i,hs=>by
  cases Z with
  | nil=>simp[CQ] at h
  | cons x Z =>
   simp only[CQ,bz] at h;simp only[Fc] at hs;obtain⟨a,b,c⟩:=Tz p x h.1 H.1 A i hs.left;obtain⟨a',b',c'⟩:=KY ps Z h.2 H.2 A (fill p A i).2 (by rw[c];exact hs.right);refine⟨by simp[Ce,Aw,a,a'],⟨b,b'⟩,?_⟩;simp only[Ce,Fc,ce];rw[c',c];omega
end
theorem rj (p x:Ac) (h:CA p x=true) (H:x.ok) (A:fa) (i:Nat) (hs:Ct A i (F9 p x)):(BP p A i).1.ob=x.ob/\(BP p A i).1.ok/\(BP p A i).2=i+(F9 p x).length:=by
 cases p with
 | cells ty cs =>
  cases x with
  | cells o9 jn =>
   simp only[CA,bz,eJ] at h;obtain⟨rfl,h⟩:=h;obtain⟨a,b,c⟩:=KY cs jn h H A i (by simpa[F9] using hs);exact⟨by simp[BP,Ac.ob,a],b,by simp[BP,F9,c]⟩
  | _=>simp[CA] at h
 | whole ty w =>
  cases x with
  | whole o9 v =>
   simp only[CA,eJ] at h;subst h;have:AL A i=v:=hs.head;exact⟨by simp[BP,Ac.ob,this],by simp only[BP,this];exact H,by simp[BP,F9]⟩
  | _=>simp[CA] at h
 | arr k kt ws =>
  cases x with
  | arr k' kt' Z =>
   simp only[CA,bz,eJ] at h;obtain⟨rfl,rfl⟩:=h;have:AL A i=.sl k Z false:=hs.head;exact⟨by simp[BP,Ac.ob,this,Ee],by simp only[BP,this,Ee];exact H,by simp[BP,F9]⟩
  | _=>simp[CA] at h
 | map ws =>
  cases x with
  | map es =>
   have:AL A i=.gz es:=hs.head;exact⟨by simp[BP,Ac.ob,this,Kk],by simp only[BP,this,Kk];exact H,by simp[BP,F9]⟩
  | _=>simp[CA] at h
 | fW s0 p0 =>
  cases x with
  | fW s pos =>
   have U:AL A i=.str s:=hs.head;have O:AL A (i+1)=nI pos:=hs 1 _ rfl;exact⟨by simp[BP,Ac.ob,U,O,strP,Ej,nI],trivial,by simp[BP,F9]⟩
  | _=>simp[CA] at h
theorem Se:∀ (ps Z:fi),DC ps Z=true->(∀ o∈Z,o.ok)->∀ (A:fa) (i:Nat),Ct A i (HN ps Z)->(Cc ps A i).1.map Ac.ob=Z.map Ac.ob/\(∀ o∈(Cc ps A i).1,o.ok)/\(Cc ps A i).2=i+(HN ps Z).length
 | [],[],_,_,A,i,_=>⟨rfl,by simp[Cc],rfl⟩
 | [],_ :: _,h,_,_,_,_=>by simp[DC] at h
 | _ :: _,[],h,_,_,_,_=>by simp[DC] at h
 | p :: ps,x :: Z,h,H,A,i,hs=>by
  simp only[DC,bz] at h;simp only[HN] at hs;obtain⟨a,b,c⟩:=rj p x h.1 (H x (by simp)) A i hs.left;obtain⟨a',b',c'⟩:=Se ps Z h.2 (fun o ho=>H o (by simp[ho])) A (BP p A i).2 (by rw[c];exact hs.right);refine⟨by simp[Cc,a,a'],?_,?_⟩;{intro o ho;simp only[Cc,bE] at ho;rcases ho with rfl | ho;{exact b};{exact b' o ho}};{simp only[Cc,HN,ce];rw[c',c];omega}
mutual
theorem SH:∀ (p:KV) (x:PV) {l:fa},BI p x=some l->∀ (A:fa) (i:Nat),Ct A i l->(fill p A i).1.pv=x/\(fill p A i).1.ok/\(fill p A i).2=i+l.length
 | .un,x,l,h,A,i,_=>by cases x<;>simp[BI] at h;subst h;exact⟨rfl,trivial,rfl⟩
 | .sk,x,l,h,A,i,_=>by
  simp only[BI] at h;split at h;·cases h;exact⟨rfl,trivial,rfl⟩
  {cases h}
 | .fT d,x,l,h,A,i,hs=>by
  cases x with
  | fT d' =>
   simp only[BI] at h;cases h;have U:AL A i=nI d':=hs.head;simp[fill,KV.pv,U,nI,Ej,KV.ok]
  | _=>simp[BI] at h
 | .fO _ _ _ _,x,l,h,A,i,_=>by simp[BI] at h
 | .iF J,x,l,h,A,i,_=>by
  simp only[BI] at h;split at h;{obtain⟨U,O⟩:=A8 h;simp at U O;subst U;subst O;exact⟨rfl,trivial,rfl⟩};{cases h}
 | .ref J o,x,l,h,A,i,_=>by
  cases x<;>simp[BI] at h;obtain⟨U,O⟩:=A8 h;simp at U O;obtain⟨rfl,rfl⟩:=U;subst O;exact⟨rfl,trivial,rfl⟩
 | .mp J,x,l,h,A,i,_=>by
  cases x<;>simp[BI] at h;obtain⟨U,O⟩:=A8 h;simp at U O;subst U;subst O;exact⟨rfl,trivial,rfl⟩
 | .it J,x,l,h,A,i,_=>by
  cases x<;>simp[BI] at h;obtain⟨U,O⟩:=A8 h;simp at U O;subst U;subst O;exact⟨rfl,trivial,rfl⟩
 | .arr J k o n,x,l,h,A,i,hs=>by
  cases x with
  | arr gP k' o' n' =>
   simp only[BI] at h;obtain⟨U,O⟩:=A8 h;cases O;simp only[bz,eJ] at U;obtain⟨⟨rfl,rfl⟩,ho⟩:=U;have:=ch ho;subst this;have U:AL A i=nI n':=hs.head;simp[fill,KV.pv,U,nI,Ej,KV.ok]
  | _=>simp[BI] at h
 | .lit b,x,l,h,A,i,hs=>by
  simp only[BI] at h;obtain⟨U,O⟩:=A8 h;cases O;have:=hs.head;exact⟨this,by simp only[fill,KV.ok,this];exact U,rfl⟩
 | .gU,x,l,h,A,i,hs=>by
  simp only[BI] at h;obtain⟨U,O⟩:=A8 h;cases O;have:=hs.head;exact⟨this,by simp only[fill,KV.ok,this];exact U,rfl⟩
 | .cv v,x,l,h,A,i,hs=>by
  simp only[BI] at h;obtain⟨U,O⟩:=A8 h;cases O;have:=hs.head;exact⟨this,by simp only[fill,KV.ok,this];exact U,rfl⟩
 | .fn f cap,x,l,h,A,i,hs=>by
  cases x with
  | fn f' kP =>
   simp only[BI] at h;split at h;{rename_i hf;subst hf;obtain⟨a,b,c⟩:=MC cap kP h A i hs;exact⟨by simp[fill,KV.pv,a],b,c⟩};{cases h}
  | _=>simp[BI] at h
 | .fM Z,x,l,h,A,i,hs=>by
  cases x with
  | fM ys =>
   simp only[BI] at h;obtain⟨a,b,c⟩:=MC Z ys h A i hs;exact⟨by simp[fill,KV.pv,a],b,c⟩
  | _=>simp[BI] at h
 | .agg cs,x,l,h,A,i,hs=>by
  simp only[BI] at h;by_cases hc:(CT cs).isSome=true;{rw[eH hc] at h;obtain⟨U,O⟩:=A8 h;cases O;have:=hs.head;simp only[fill,hc,eF];exact⟨this,by simp only[KV.ok,this];exact U,rfl⟩}
  ·rw[eG hc] at h;cases x with
   | agg jn =>
    obtain⟨a,b,c⟩:=MC cs jn h A i hs;simp only[fill,eG hc];exact⟨by simp[KV.pv,a],b,c⟩
   | _=>simp at h
 | .iface t y,x,l,h,A,i,hs=>by
  simp only[BI] at h;by_cases hc:y.cl.isSome=true;{rw[eH hc] at h;obtain⟨U,O⟩:=A8 h;cases O;have:=hs.head;simp only[fill,hc,eF];exact⟨this,by simp only[KV.ok,this];exact U,rfl⟩}
  ·rw[eG hc] at h;cases x with
   | iface t' y' =>
    simp only at h;split at h;{rename_i ht;subst ht;obtain⟨a,b,c⟩:=SH y y' h A i hs;simp only[fill,eG hc];exact⟨by simp[KV.pv,a],b,c⟩};{cases h}
   | _=>simp at h
theorem MC:∀ (ps:ff) (Z:fa) {l:fa},G3 ps Z=some l->∀ (A:fa) (i:Nat),Ct A i l->Aw (Ce ps A i).1=Z/\AP (Ce ps A i).1/\(Ce ps A i).2=i+l.length
 | [],Z,l,h,A,i,_=>by cases Z<;>simp[G3] at h;subst h;exact⟨rfl,trivial,rfl⟩
 | p :: ps,Z,l,h,A,i,hs=>by
  cases Z with
  | nil=>simp[G3] at h
  | cons y ys =>
   simp only[G3] at h;split at h;{rename_i a b ha hb;cases h;obtain⟨a1,a2,a3⟩:=SH p y ha A i hs.left;obtain⟨b1,b2,b3⟩:=MC ps ys hb A (fill p A i).2 (by rw[a3];exact hs.right);refine⟨by simp[Ce,Aw,a1,b1],⟨a2,b2⟩,?_⟩;simp only[Ce,ce];rw[b3,a3];omega};{cases h}
end
theorem ZQ (p:Ac) (x:Ob) (h:Eg p x=some l) (A:fa) (i:Nat) (hs:Ct A i l):(BP p A i).1.ob=x/\(BP p A i).1.ok/\(BP p A i).2=i+l.length:=by
 cases p with
 | cells ty cs =>
  cases x with
  | cells o9 jn =>
   simp only[Eg] at h;split at h
   case isFalse=>cases h
   rename_i hty;subst hty;obtain⟨a,b,c⟩:=MC cs jn h A i hs;exact⟨by simp[BP,Ac.ob,a],b,c⟩
  | _=>simp[Eg] at h
 | whole ty w =>
  cases x with
  | cells o9 jn =>
   simp only[Eg] at h;obtain⟨U,O⟩:=A8 h;cases O;simp only[bz,eJ] at U;obtain⟨rfl,U⟩:=U;have:AL A i=.agg jn:=hs.head;exact⟨by simp[BP,Ac.ob,this,EQ,PV.cells],by simp only[BP,this];simpa[Ac.ok,As] using U,rfl⟩
  | _=>simp[Eg] at h
 | arr k kt ws =>
  cases x with
  | arr k' kt' Z =>
   simp only[Eg] at h;obtain⟨U,O⟩:=A8 h;cases O;simp only[bz,eJ] at U;obtain⟨⟨rfl,rfl⟩,U⟩:=U;have:AL A i=.sl k Z false:=hs.head;exact⟨by simp[BP,Ac.ob,this,Ee],by simp only[BP,this,Ee];exact U,rfl⟩
  | _=>simp[Eg] at h
 | map ws =>
  cases x with
  | map es =>
   simp only[Eg] at h;obtain⟨U,O⟩:=A8 h;cases O;have:AL A i=.gz es:=hs.head;exact⟨by simp[BP,Ac.ob,this,Kk],by simp only[BP,this,Kk];exact U,rfl⟩
  | _=>simp[Eg] at h
 | fW s0 p0 =>
  cases x with
  | fW s pos =>
   simp only[Eg] at h;cases h;have U:AL A i=.str s:=hs.head;have O:AL A (i+1)=nI pos:=hs 1 _ rfl;exact⟨by simp[BP,Ac.ob,U,O,strP,Ej,nI],trivial,rfl⟩
  | _=>simp[Eg] at h
theorem RK:∀ (ps:fi) (Z:fg) {l:fa},HZ ps Z=some l->∀ (A:fa) (i:Nat),Ct A i l->(Cc ps A i).1.map Ac.ob=Z/\(∀ o∈(Cc ps A i).1,o.ok)/\(Cc ps A i).2=i+l.length
 | [],Z,l,h,A,i,_=>by cases Z<;>simp[HZ] at h;subst h;exact⟨rfl,by simp[Cc],rfl⟩
 | p :: ps,Z,l,h,A,i,hs=>by
  cases Z with
  | nil=>simp[HZ] at h
  | cons y ys =>
   simp only[HZ] at h;split at h;{rename_i a b ha hb;cases h;obtain⟨a1,a2,a3⟩:=ZQ p y ha A i hs.left;obtain⟨b1,b2,b3⟩:=RK ps ys hb A (BP p A i).2 (by rw[a3];exact hs.right);refine⟨by simp[Cc,a1,b1],?_,?_⟩;{intro o ho;simp only[Cc,bE] at ho;rcases ho with rfl | ho;{exact a2};{exact b2 o ho}};{simp only[Cc,ce];rw[b3,a3];omega}};{cases h}
mutual
theorem ll (f g:Nm->Nm):∀ (x:PV),(x.fQ f).fQ g=x.fQ fun m=>g (f m)
 | .agg cs=>by simp[PV.fQ,MF f g cs]
 | .iface t x=>by simp[PV.fQ,ll f g x]
 | .fn h cap=>by simp[PV.fQ,MF f g cap]
 | .fM Z=>by simp[PV.fQ,MF f g Z]
 | .undef | .bool _ | .int _ _ | .str _ | .fF | .gh | .gH | .fR | .gF | .sl _ _ _ | .ptr _ _ | .fT _ | .gz _ | .gw _ _ | .ref _ _ | .fO _ _ _ _ | .arr _ _ _ _ | .mp _ | .it _=>by simp[PV.fQ]
theorem MF (f g:Nm->Nm):∀ (Z:fa),AR g (AR f Z)=AR (fun m=>g (f m)) Z
 | []=>rfl
 | x :: Z=>by simp[AR,ll f g x,MF f g Z]
end
mutual
theorem jP {f g:Nm->Nm}:∀ {x:PV},(∀ m∈x.names,f m=g m)->x.fQ f=x.fQ g
 | .agg cs,h=>by simp only[PV.fQ];rw[KD (Z:=cs) h]
 | .iface t x,h=>by simp only[PV.fQ];rw[jP (x:=x) h]
 | .fn _ cap,h=>by simp only[PV.fQ];rw[KD (Z:=cap) h]
 | .fM Z,h=>by simp only[PV.fQ];rw[KD (Z:=Z) h]
 | .ref J _,h | .fO J _ _ _,h | .arr J _ _ _,h | .mp J,h | .it J,h=>by simp only[PV.fQ];rw[h J (by simp[PV.names])]
 | .undef,_ | .bool _,_ | .int _ _,_ | .str _,_ | .fF,_ | .gh,_ | .gH,_ | .fR,_ | .gF,_ | .sl _ _ _,_ | .ptr _ _,_ | .fT _,_ | .gz _,_ | .gw _ _,_=>by simp[PV.fQ]
theorem KD {f g:Nm->Nm}:∀ {Z:fa},(∀ m∈Al Z,f m=g m)->AR f Z=AR g Z
 | [],_=>rfl
 | x :: Z,h=>by
  simp only[AR];rw[jP (x:=x) fun m hm=>h m (bO _ hm),KD (Z:=Z) fun m hm=>h m (bT _ hm)]
end
mutual
theorem jQ {p:Nm->Bool}:∀ {x:PV} {m:Nm},m∈(x.sub fun m=>if p m then none else some none).names->p m=true
 | .agg cs,m,h=>KF (Z:=cs) (by simpa[PV.sub,PV.names] using h)
 | .iface t x,m,h=>jQ (x:=x) (by simpa[PV.sub,PV.names] using h)
 | .fn _ cap,m,h=>KF (Z:=cap) (by simpa[PV.sub,PV.names] using h)
 | .fM Z,m,h=>KF (Z:=Z) (by simpa[PV.sub,PV.names] using h)
 | .ref J _,m,h | .fO J _ _ _,m,h | .arr J _ _ _,m,h | .mp J,m,h | .it J,m,h=>by
  simp only[PV.sub] at h;cases hp:p J with
  | true=>simp[hp,PV.names] at h;rw[h];exact hp
  | false=>simp[hp,PV.names] at h
 | .undef,m,h | .bool _,m,h | .int _ _,m,h | .str _,m,h | .fF,m,h | .gh,m,h | .gH,m,h | .fR,m,h | .gF,m,h | .sl _ _ _,m,h | .ptr _ _,m,h | .fT _,m,h | .gz _,m,h | .gw _ _,m,h=>by simp[PV.sub,PV.names] at h
theorem KF {p:Nm->Bool}:∀ {Z:fa} {m:Nm},m∈Al (AE (fun m=>if p m then none else some none) Z)->p m=true
 | [],m,h=>by simp[AE,Al] at h
 | x :: Z,m,h=>by
  simp only[AE,Al] at h;rcases bS.1 h with h | h;{exact jQ h};{exact KF h}
end
theorem Ob.ll (f g:Nm->Nm) (o:Ob):(o.fQ f).fQ g=o.fQ fun m=>g (f m):=by cases o<;>simp[Ob.fQ,MF]
theorem Ob.jP {f g:Nm->Nm} {o:Ob} (h:∀ m∈o.names,f m=g m):o.fQ f=o.fQ g:=by
 cases o with
 | cells ty cs=>simp only[Ob.fQ];rw[KD h]
 | map es=>simp only[Ob.fQ];rw[KD h]
 | _=>rfl
theorem Ob.jQ {p:Nm->Bool} {o:Ob} (h:m∈(o.sub fun m=>if p m then none else some none).names):p m=true:=by
 cases o with
 | cells ty cs=>exact KF h
 | map es=>exact KF h
 | _=>simp[Ob.sub,Ob.names] at h
theorem ZK (g:Nm->Nm):∀ (B:List (Nm×Nm)) (m:Nm),(B.map fun p=>(p.1,g p.2)).lookup m=(B.lookup m).map g:=by
 intro B;induction B with
 | nil=>intro m;rfl
 | cons p B ih =>
  obtain⟨a,b⟩:=p;intro m;simp only[bP,ed];split<;>simp_all
theorem ZJ:∀ {m:Nm},(B.map (·.1)).contains m=true->∃ t,B.lookup m=some t:=by
 induction B with
 | nil=>intro m h;simp at h
 | cons p B ih =>
  obtain⟨a,b⟩:=p;intro m h;rw[ed];split;{exact⟨_,rfl⟩};{rename_i gj;refine ih ?_;simp only[bP,List.contains_cons,gj,dC] at h;exact h}
theorem rk {d i0:Nat} {V:St} {out:Ai} (h:Fi none 1 0 (DG R.length) V v=some out) :
  Fi sl d i0 R V v=some {v:=out.v.fQ (BH R d i0),new:=out.new.map (Ob.fQ (BH R d i0)),gone:=out.gone.map (BH R d i0),gC:=R.zip (out.gC.map fun p=>p.2.fQ (BH R d i0)),io:=true,slot:=sl}:=by
 have iG:(DG R.length).length=R.length:=by simp[DG]
 have hA:EJ R V.fD=(EJ (DG R.length) V.fD).map fun p=>(p.1,BH R d i0 p.2):=by apply cj;intro i;simp only[EJ,bK,cM,bX,DG];by_cases hi:i < R.length;{rw[bQ hi,cN hi];simp[BH,bF,bQ hi]};{rw[bY.2 (by omega),bY.2 (by simp;omega)];rfl}
 have hF:(EJ R V.fD).map (·.1)=(EJ (DG R.length) V.fD).map (·.1):=by rw[hA,bV];rfl
 have hN:J6 (Aa V.fA) (EJ R V.fD) v=J6 (Aa V.fA) (EJ (DG R.length) V.fD) v:=by
  unfold J6;rw[hF]
  have:∀ zzb A':List (Nm×Nm),zzb.map (·.1)=A'.map (·.1)->(zzb.flatMap fun p=>((Aa V.fA p.1).map Ob.names).getD [])=A'.flatMap fun p=>((Aa V.fA p.1).map Ob.names).getD []:=by
   intro zzb A' h;have e:∀ zzb:List (Nm×Nm),(zzb.flatMap fun p=>((Aa V.fA p.1).map Ob.names).getD [])=(zzb.map (·.1)).flatMap fun m=>((Aa V.fA m).map Ob.names).getD []:=by intro zzb;rw[eB]
   rw[e,e,h]
  rw[this _ _ hF]
 unfold Fi at h |-;simp only at h |-;rw[hN];generalize J6 (Aa V.fA) (EJ (DG R.length) V.fD) v=N at h |-;generalize hA0:EJ (DG R.length) V.fD=A0 at h hA;generalize hB0:(A0++N.zipIdx.map fun p=>(p.1,(1,0+p.2)))=B0 at h;have hB:EJ R V.fD++N.zipIdx.map (fun p=>(p.1,(d,i0+p.2)))=B0.map fun p=>(p.1,BH R d i0 p.2):=by rw[<-hB0,cU,hA,bV];congr 1;exact b9 fun p _=>by simp[BH]
 rw[hB];have hBf:(B0.map fun p=>(p.1,BH R d i0 p.2)).map (·.1)=B0.map (·.1):=by rw[bV];rfl
 rw[hBf];obtain⟨U,O⟩:=CH h;cases O;have np:∀ m,(B0.map (·.1)).contains m=true->((B0.map fun p=>(p.1,BH R d i0 p.2)).lookup m).getD m=BH R d i0 ((B0.lookup m).getD m):=by intro m hm;obtain⟨t,ht⟩:=ZJ hm;rw[ZK,ht];rfl
 have iT:∀ J,FZ (Aa V.fA) (B0.map fun p=>(p.1,BH R d i0 p.2)) J=(FZ (Aa V.fA) B0 J).fQ (BH R d i0):=by intro J;unfold FZ;rw[hBf,Ob.ll];exact Ob.jP fun m hm=>np m (Ob.jQ hm)
 simp only[Ap,U,eF,bC,Ai.mk.injEq,true_and,and_true];refine⟨?_,?_,?_,?_⟩;{rw[ll];exact jP fun m hm=>np m (jQ hm)};{rw[bV];exact b9 fun m _=>iT m}
 ·simp only[Hx];apply cj;intro i
  have e:(R.zipIdx.filter fun p=>(Cm (V.fD.getD p.2 .undef)).isNone).map (·.1)=(((DG R.length).zipIdx.filter fun p=>(Cm (V.fD.getD p.2 .undef)).isNone).map (·.1)).map (BH R d i0):=by
   have hz:R.zipIdx=(DG R.length).zipIdx.map fun p=>(BH R d i0 p.1,p.2):=by apply cj;intro i;simp only[bK,cM,bX,DG];by_cases hi:i < R.length;{rw[bQ hi,cN hi];simp[BH,bF,bQ hi]};{rw[bY.2 (by omega),bY.2 (by simp;omega)];rfl}
   rw[hz,List.filter_map,bV,bV];rfl
  rw[e]
 ·have hR2:A0.map (fun p=>BH R d i0 p.2)=R:=by rw[<-hA0];apply cj;intro i;simp only[EJ,bK,cM,bX,DG];by_cases hi:i < R.length;{rw[bQ hi,cN hi];simp[BH,bF,bQ hi]};{rw[bY.2 (by omega:R.length<=i),bY.2 (by simp;omega)];rfl}
  have hz:∀ (l:List (Nm×Nm)) (f:Nm×Nm->Nm) (g:Nm×Nm->Ob),l.map (fun p=>(f p,g p))=(l.map f).zip (l.map g):=by
   intro l f g;induction l with
   | nil=>rfl
   | cons p l ih=>simp[ih]
  have e1:(A0.map fun p=>(p.1,BH R d i0 p.2)).map (fun p=>(p.2,FZ (Aa V.fA) (B0.map fun p=>(p.1,BH R d i0 p.2)) p.1))=A0.map fun p=>(BH R d i0 p.2,(FZ (Aa V.fA) B0 p.1).fQ (BH R d i0)):=by rw[bV];exact b9 fun p _=>by simp only[Function.comp,iT]
  rw[hA,e1,hz,hR2,bV];rfl
end Go.Ab


namespace Go.Ab
variable{α:Type} {B:KB} {Pf:ff->fi->An} {args:fu} {f u:PV} {fr:Bool} {g:eU} {obs:fg} {sh ou:Bh} {A:fa} {x:Option (PV×fg)} {σ:Nm->Option α}
noncomputable def Yn (sp:eU->(Nm->fe)->fa->fj) (fK:eU->fk):Gq:=fun E h dep g args e=>lim fun n=>AI sp fK n E h dep g args e
def Co (sp:eU->(Nm->fe)->fa->fj) (fK:eU->fk) (n:Nat):AC:=Be sp fK n
theorem IN (sp:eU->(Nm->fe)->fa->fj) (fK:eU->fk) (n:Nat):(Co sp fK n).sp=sp:=Td sp fK n
theorem OB (sp:eU->(Nm->fe)->fa->fj) (fK:eU->fk) (n:Nat):(Co sp fK n).iN=Ef fK:=Sg sp fK n
theorem ZI (sp:eU->(Nm->fe)->fa->fj) (fK:eU->fk) (n:Nat):(Co sp fK n).gT=KT fK:=RZ sp fK n
theorem aI (sp:eU->(Nm->fe)->fa->fj) (fK:eU->fk) (n:Nat):(Co sp fK n).flat=IR fK:=Sh sp fK n
theorem Vq (sp:eU->(Nm->fe)->fa->fj) (fK:eU->fk) (n:Nat):(Co sp fK n).call=AI sp fK n:=rfl
noncomputable def Q9 (sp:eU->(Nm->fe)->fa->fj) (fK:eU->fk) (g:eU) (ins:fg) (A:fa):Option (St×PV) :=
 match fK g with
 | some fn=>lim fun n=>Bq (Co sp fK n) n fn ins A
 | none=>none
structure DK (cfg:CR) (fK:eU->fk):Prop where
 L:cfg.b.L=Yn cfg.b.sp fK
 I:cfg.b.I=Q9 cfg.b.sp fK
 iN:cfg.b.iN=Ef fK
 gT:cfg.b.gT=KT fK
 flat:∀ g,cfg.flatF g=true->IR fK g=true
 pa:∀ g,(cfg.pa g).isSome=Ef fK g
 ioP:∀ g P,cfg.pa g=some P->∃ fn,fK g=some fn/\(0 < fn.nt/\((fn.gv=false/\fn.shut=false)\/∀ Z os,(P Z os).args=[.fT 0]))/\∀ Z os,(P Z os).args.length<=fn.nt/\(P Z os).ins.length<=fn.nt
 sO:∀ g,cfg.sO g=false->∀ σ A,cfg.b.sp g σ A=none
 loc:∀ g σ A,Az A=true->cfg.b.sp g σ A=cfg.b.sp g (fun _=>none) A
 spK:∀ g s,cfg.spK g=some s->∀ σ Z out,AP Z->(∀ J o,σ J=some o->o.ok)->s σ Z=some (true,out)->out.Ok/\cfg.b.sp g (fun J=>(σ J).map Ac.ob) (Aw Z)=some out.out/\∀ f,out.out.v.fQ f=out.out.v
 asOk:∀ g p t n,cfg.asT g p=some (t,n)->∀ σ J ty cs,σ J=some (.cells ty cs)->cs.length=n->cfg.b.sp g σ [.fR,.iface p (.ref J 0)]=some {v:=.bool false} /\
  ∀ x,HX x n=true->cfg.b.sp g σ [.iface t x,.iface p (.ref J 0)]=some {v:=.bool true,gA:=some (J,.cells ty x.cells)}
def HOk {E:Type} (h:AB E) (hn:Nat->AB E):Prop:=∀ l args e r,h l args e=some r->AS fun n=>hn n l args e=some r
mutual
theorem WV (d:Nat) {obs:fg}:∀ (sh:Bh) (j:Nat) (v:PV) {u:PV} {j':Nat},sh.fix=true->B6 obs sh j v=some (u,j') ->
  (CP d sh j u).1.pv=v.fQ (DT d)/\(CP d sh j u).2.1.map Ac.ob=(obs.drop j).take (j' - j)/\(CP d sh j u).2.2=j'/\(CP d sh j u).1.ok/\(∀ o∈(CP d sh j u).2.1,o.ok)/\j<=j'
 | .opt k,j,v,u,j',hf,h=>by cases hf
 | .cl,j,v,u,j',_,h=>by
  simp only[B6] at h;obtain⟨U,O⟩:=A8 h;cases O;refine⟨?_,by simp[CP],rfl,U,by simp[CP],bD _⟩;simp only[CP,KV.pv];rw[JS (DS U).1]
 | .own k,j,v,u,j',_,h=>by
  simp only[B6] at h;split at h
  ·rename_i J k' o n ku kt Z hj;obtain⟨U,O⟩:=A8 h;cases O;simp only[bz,eJ] at U;obtain⟨⟨⟨⟨⟨⟨rfl,rfl⟩,rfl⟩,rfl⟩,rfl⟩,rfl⟩,jx⟩:=U;refine⟨by simp[CP,KV.pv,PV.fQ,DT,Bd,Ee],?_,rfl,trivial,?_,by omega⟩
   ·have gI:=(bH.1 hj).1;have hd:obs.drop j=.arr k 0 Z :: obs.drop (j+1):=by obtain⟨hi,he⟩:=bH.1 hj;rw[<-he];exact dN hi
    rw[hd,show j+1 - j=1 by omega];simp[CP,Ac.ob,Ee]
   {intro o ho;simp only[CP,cc] at ho;subst ho;exact jx}
  {cases h}
 | .fM l,j,v,u,j',hf,h=>by
  simp only[B6] at h;split at h;{rename_i A;obtain⟨p,hp,he⟩:=bB.1 h;cases he;obtain⟨U,O,h3,h4,h5,h6⟩:=Sj d l j A (us:=p.1) (j':=p.2) hf hp (.fM p.1) 0 (by intro i _;simp[G8]);simp only[CP];exact⟨by simp[KV.pv,PV.fQ,U],O,h3,h4,h5,h6⟩};{cases h}
 | .agg l,j,v,u,j',hf,h=>by
  simp only[B6] at h;split at h;{rename_i A;obtain⟨p,hp,he⟩:=bB.1 h;cases he;obtain⟨U,O,h3,h4,h5,h6⟩:=Sj d l j A (us:=p.1) (j':=p.2) hf hp (.agg p.1) 0 (by intro i _;simp[G8]);simp only[CP];exact⟨by simp[KV.pv,PV.fQ,U],O,h3,h4,h5,h6⟩};{cases h}
theorem Sj (d:Nat) {obs:fg}:∀ (l:List Bh) (j:Nat) (A:fa) {us:fa} {j':Nat},qO l=true->EO obs l j A=some (us,j')->∀ (r:PV) (i:Nat),(∀ m,m < us.length->G8 r (i+m)=us.getD m .undef) ->
  Aw (HC d l j r i).1=AR (DT d) A/\(HC d l j r i).2.1.map Ac.ob=(obs.drop j).take (j' - j)/\(HC d l j r i).2.2=j'/\AP (HC d l j r i).1/\(∀ o∈(HC d l j r i).2.1,o.ok)/\j<=j'
 | [],j,A,us,j',_,h,r,i,_=>by
  cases A with
  | nil=>simp only[EO] at h;cases h;simp[HC,Aw,AR,AP]
  | cons v A=>simp[EO] at h
 | s :: l,j,A,us,j',hf,h,r,i,hr=>by
  simp only[qO,bz] at hf;cases A with
  | nil=>simp[EO] at h
  | cons v A =>
   simp only[EO] at h;split at h
   ·rename_i u j1 hu;obtain⟨p,hp,he⟩:=bB.1 h;obtain⟨kW,j2⟩:=p;cases he;have h0:G8 r i=u:=by have:=hr 0 (by simp);simpa using this
    obtain⟨a1,a2,a3,a4,a5,a6⟩:=WV d s j v hf.1 hu;obtain⟨b1,b2,b3,b4,b5,b6⟩:=Sj d l j1 A hf.2 hp r (i+1) (fun m hm=>by have:=hr (m+1) (by simp;omega);rw[show i+(m+1)=i+1+m by omega] at this;simpa using this);simp only[HC,h0,a3];refine⟨by simp[Aw,AR,a1,b1],?_,b3,⟨a4,b4⟩,?_,by omega⟩
    ·rw[cU,a2,b2];have e1:obs.drop j1=(obs.drop j).drop (j1 - j):=by rw[dk];congr 1;omega
     rw[e1,show j2 - j=(j1 - j)+(j2 - j1) by omega,List.take_add]
    {intro o ho;rcases bS.1 ho with ho | ho;{exact a5 o ho};{exact b5 o ho}}
   {cases h}
end
theorem SO (d:Nat) {v:PV} (hf:sh.fix=true) (h:Du sh v obs=some u):(CP d sh 0 u).1.pv=v.fQ (DT d)/\(CP d sh 0 u).2.1.map Ac.ob=obs/\(CP d sh 0 u).1.ok/\∀ o∈(CP d sh 0 u).2.1,o.ok:=by unfold Du at h;split at h;{rename_i r j hr;obtain⟨U,O⟩:=A8 h;cases O;simp only[eJ] at U;obtain⟨a1,a2,a3,a4,a5,a6⟩:=WV d sh 0 v hf hr;refine⟨a1,?_,a4,a5⟩;rw[a2,U];simp};{cases h}
mutual
theorem U9 {R:Type} {r:R}:∀ (sh:Bh) (u:PV) {K:Bh->Option R},HT sh u K=some r ->
  ∃ ou,ou.fix=true/\K ou=some r/\∀ obs j v j',B6 obs sh j v=some (u,j')->B6 obs ou j v=some (u,j')
 | .cl,u,K,h=>⟨.cl,rfl,h,fun _ _ _ _ h=>h⟩
 | .own k,u,K,h=>⟨.own k,rfl,h,fun _ _ _ _ h=>h⟩
 | .opt k,u,K,h=>by
  simp only[HT] at h;unfold nilB at h;split at h
  ·refine⟨.cl,rfl,h,fun obs j v j' hc=>?_⟩;simp only[B6] at hc;split at hc;·cases hc;rfl
   {obtain⟨_,hc⟩:=A8 hc;cases hc};{cases hc}
  ·rename_i hu;refine⟨.own k,rfl,h,fun obs j v j' hc=>?_⟩;simp only[B6] at hc;split at hc;·cases hc;exact eQ rfl hu
   {rename_i hj;simp only[B6,hj];exact hc};{cases hc}
 | .fM l,u,K,h=>by
  simp only[HT] at h;obtain⟨l',U,O,h3⟩:=RO l u 0 h;refine⟨.fM l',U,O,fun obs j v j' hc=>?_⟩;simp only[B6] at hc |-;split at hc;{obtain⟨p,hp,he⟩:=bB.1 hc;cases he;rw[h3 obs j _ p.1 p.2 hp (by intro i _;simp[G8])];rfl};{cases hc}
 | .agg l,u,K,h=>by
  simp only[HT] at h;obtain⟨l',U,O,h3⟩:=RO l u 0 h;refine⟨.agg l',U,O,fun obs j v j' hc=>?_⟩;simp only[B6] at hc |-;split at hc;{obtain⟨p,hp,he⟩:=bB.1 hc;cases he;rw[h3 obs j _ p.1 p.2 hp (by intro i _;simp[G8])];rfl};{cases hc}
theorem RO {R:Type} {r:R}:∀ (l:List Bh) (u:PV) (i:Nat) {K:List Bh->Option R},MR l u i K=some r ->
  ∃ l',qO l'=true/\K l'=some r/\∀ obs j A us j',EO obs l j A=some (us,j')->(∀ m,m < us.length->G8 u (i+m)=us.getD m .undef)->EO obs l' j A=some (us,j')
 | [],u,i,K,h=>⟨[],rfl,h,fun _ _ _ _ _ h _=>h⟩
 | s :: l,u,i,K,h=>by
  simp only[MR] at h;obtain⟨s',U,h,h3⟩:=U9 s (G8 u i) h;obtain⟨l',g1,h,g3⟩:=RO l u (i+1) h;refine⟨s' :: l',by simp[qO,U,g1],h,fun obs j A us j' hc hu=>?_⟩;cases A with
  | nil=>simp[EO] at hc
  | cons v A =>
   simp only[EO] at hc |-;split at hc
   ·rename_i w j1 hw;obtain⟨p,hp,he⟩:=bB.1 hc;obtain⟨kW,j2⟩:=p;cases he;have h0:G8 u i=w:=by have:=hu 0 (by simp);simpa using this
    rw[h3 obs j v j1 (by rw[h0];exact hw)];simp only
    rw[g3 obs j1 A kW j2 hp fun m hm=>by have:=hu (m+1) (by simp;omega);rw[show i+(m+1)=i+1+m by omega] at this;simpa using this];simp only[bG,h0]
   {cases hc}
end
theorem Sr {R:Type} {r:R} {K:Bh->Option R} (h:HT sh u K=some r) :
  ∃ ou,ou.fix=true/\K ou=some r/\∀ v obs,Du sh v obs=some u->Du ou v obs=some u:=by
 obtain⟨ou,U,O,h3⟩:=U9 sh u h;refine⟨ou,U,O,fun v obs hc=>?_⟩;unfold Du at hc |-;split at hc;{rename_i w j hw;obtain⟨c1,c2⟩:=A8 hc;cases c2;rw[h3 obs 0 v j hw];simp only[c1,AJ]};{cases hc}
section
variable {cfg:CR} {fK:eU->fk} {ks:Ao} {E R:Type} {h:AB E} {hn:Nat->AB E} {K:Aq->E->Option R} {r:R} {e:E} {d dep:Nat}
theorem vR (hc:DK cfg fK) (kM:Az A=true) (h:spO cfg.b.sp g A=some x) (σ:Nm->fe) :
  match x with | some p=>cfg.b.sp g σ A=some {v:=p.1,new:=p.2} | none=>cfg.b.sp g σ A=none:=by
 unfold spO at h;rw[hc.loc g σ A kM];split at h
 ·rename_i out ho;obtain⟨U,O⟩:=A8 h;cases O;simp only[bz,bZ,dj,cK] at U;obtain⟨⟨⟨⟨⟨⟨b,c⟩,f⟩,a2⟩,a3⟩,a4⟩,a5⟩:=U;simp only
  rw[ho];obtain⟨v,new,gA,kill,gv,gone,gC,io,slot⟩:=out;simp only at b c f a2 a3 a4 a5;subst b;subst c;subst f;subst a2;subst a3;subst a4;subst a5;rfl
 {rename_i ho;cases h;exact ho}
theorem XS (hs:∀ v obs,Du sh v obs=some u->Du ou v obs=some u) (h:BG cfg.b sh f A=some u):BG cfg.b ou f A=some u:=by
 unfold BG at h |-;split at h
 ·split at h;{exact hs _ _ h}
  ·split at h;·cases h
   {rename_i jj;rw[eG jj];split at h;{exact hs _ _ h};·cases h}
  {cases h}
 {cases h}
theorem vS (hs:∀ v obs,Du sh v obs=some u->Du ou v obs=some u) (h:NX cfg.b sh fr g A=some u):NX cfg.b ou fr g A=some u:=by
 unfold NX at h |-;split at h;·cases h
 {rename_i hy;rw[eG hy];split at h;{obtain⟨U,O⟩:=A8 h;simp only[U,AJ];exact hs _ _ O};{cases h}}
theorem XF:Nat.blt (AG g) CJ=true:=by unfold AG;split;{assumption};{exact Nat.blt_eq.mpr (Nat.mod_lt _ (by decide))}
theorem fnId_id:AG (AG g)=AG g:=by have h:=XF (g:=g);generalize AG g=x at h;simp[AG,h]
theorem rp:A7 (AG g) A []=A:=by have h:=XF (g:=g);simp[A7,h]
theorem UR {f:eU} {cap:fa} {x:PV} (h:x∈A\/x∈cap):x∈A7 f A cap:=by
 unfold A7;split;{exact bS.2 h}
 ·rcases h with h | h;{exact bT _ (bO _ h)}
  {rw[<-List.take_append_drop (En f) cap] at h;rcases bS.1 h with h | h;{exact bO _ h};{exact bT _ (bT _ h)}}
theorem Vv (f:eU) (A cap:ff):Aw (Hq f A cap)=A7 f (Aw A) (Aw cap):=by unfold Hq A7;cases Nat.blt f CJ<;>simp[Ox,KP,KQ]
theorem Vw {f:eU} {A cap:ff} (U:AP A) (O:AP cap):AP (Hq f A cap):=by unfold Hq;split;{exact JJ U O};{exact JJ (CC.2 fun x H=>CC.1 O x (cC H)) (JJ U (CC.2 fun x H=>CC.1 O x (cO H)))}
theorem rq {f:eU} {A cap:fa}:BG B sh (.fn f cap) A=BG B sh (.fn (AG f) []) (A7 f A cap):=by simp only[BG,fnId_id,rp]
theorem XT (hc:DK cfg fK) (ov:sh.fix=true) {f:PV} {A:fa} (kM:Az A=true) (hf:As f=true) (hu:BG cfg.b sh f A=some u) (σ:Nm->fe) (T:fa) (fx:RX) (args:fu) (hfx:fx.ev T=f) (gV:args.map (RX.ev T)=A) :
  ∃ out:Aq,out.Ok/\out={v:=(CP d sh 0 u).1,new:=(CP d sh 0 u).2.1}/\AS fun n=>BU (Co cfg.b.sp fK n) (hn n) dep d σ T fx args e=some (out.out,e):=by
 unfold BG at hu;split at hu
 ·rename_i g cap;have kY:Az cap=true:=by simpa[As] using hf
  have ix:Az (A7 g A cap)=true:=DR.2 fun x H=>(Sc H).elim (DR.1 kM x) (DR.1 kY x);have np:(Al (A7 g A cap)).isEmpty=true:=by rw[(BT ix).1];rfl
  have hy:A2 (A7 g A cap)=false:=(BT ix).2;split at hu;{rename_i v obs hs;have U:=vR hc ix hs σ;simp only at U;obtain⟨a1,a2,a3,a4⟩:=SO d ov hu;refine⟨_,⟨a3,a4,by simp,by simp⟩,rfl,.of fun n=>?_⟩;simp only[BU,hfx,gV,IN,U,Aq.out,a1,a2,cS,cq]}
  ·rename_i hs;have U:=vR hc ix hs σ;split at hu;·cases hu
   rename_i jj;have jj:Ef fK (AG g)=false:=by rw[<-hc.iN];simpa using jj
   split at hu;{rename_i rr obs hL;rw[hc.L] at hL;have fG:=MU hL;obtain⟨a1,a2,a3,a4⟩:=SO d ov hu;refine⟨_,⟨a3,a4,by simp,by simp⟩,rfl,fG.mono fun n ik=>?_⟩;simp only at U;simp only[BU,hfx,gV,IN,OB,Vq,jj,U,np,eF,hy,bL,eE,ik,Aq.out,a1,a2,cS,cq]};{cases hu}
  {cases hu}
 {cases hu}
theorem mapM_mem:∀ {S:fh} {l:List α},S.mapM σ=some l->l.length=S.length/\∀ x∈l,∃ J,σ J=some x:=by
 intro S;induction S with
 | nil=>intro l h;simp at h;subst h;exact⟨rfl,fun x h=>by cases h⟩
 | cons y S ih =>
  intro l h;rw[cH] at h;simp only[dE,co,dO,bC] at h;obtain⟨o,ho,l',hl,rfl⟩:=h;obtain⟨q1,q2⟩:=ih hl;refine⟨by simp[q1],fun x H=>?_⟩;rcases bE.1 H with rfl | H;{exact⟨y,ho⟩};{exact q2 x H}
theorem ru {β:Type} (g:α->β):∀ {S:fh} {l:List α},S.mapM σ=some l->S.mapM (fun J=>(σ J).map g)=some (l.map g):=by
 intro S;induction S with
 | nil=>intro l h;simp at h;subst h;rfl
 | cons y S ih =>
  intro l h;rw[cH] at h;simp only[dE,co,dO,bC] at h;obtain⟨o,ho,l',hl,rfl⟩:=h;rw[cH,ih hl,ho];rfl
theorem VG:∀ {ps Z:fi},DC ps Z=true->ps.length=Z.length
 | [],[],_=>rfl
 | [],_ :: _,h=>by simp[DC] at h
 | _ :: _,[],h=>by simp[DC] at h
 | p :: ps,x :: Z,h=>by
  simp only[DC,bz] at h;simp[VG h.2]
theorem XG:∀ {ps Z:ff},CQ ps Z=true->ps.length=Z.length
 | [],[],_=>rfl
 | [],_ :: _,h=>by simp[CQ] at h
 | _ :: _,[],h=>by simp[CQ] at h
 | p :: ps,x :: Z,h=>by
  simp only[CQ,bz] at h;simp[XG h.2]
theorem ob_noY {o:Ac} (h:o.ok) (hq:∀ ty cs,o=.cells ty cs->Ed cs=false):o.ob.gq=false:=by
 cases o with
 | cells ty cs =>
  have h':AP cs:=h;show A2 (Aw cs)=false;rw[JT h'];exact hq ty cs rfl
 | whole ty v=>exact (BT (CG h)).2
 | arr k kt Z=>exact (BT h).2
 | map es=>exact (BT h).2
 | fW s p=>rfl
theorem Vz (hc:DK cfg fK) (hk:ks.Ok) (hq:Ec ks.fA=true) {Z:ff} (iA:AP Z)
  {R:Type} {r:R} {K:Aq->Option R} (hPf:cfg.pa g=some Pf) (hr:Ng cfg Pf g d (AZ ks.fA) Z K=some r) :
  ∃ out,K out=some r/\out.Ok/\cfg.sO g=false/\AS fun n=>(Co cfg.b.sp fK n).io g d (Aa ks.V.fA) (Aw Z)=some out.out:=by
 unfold Ng at hr;simp only at hr;generalize hS:Bm (FB (AZ ks.fA) Ax (Cu Z))=S at hr;split at hr;·cases hr
 rename_i ins qA;generalize hP:Pf Z ins=P at hr;split at hr
 case isFalse=>cases hr
 rename_i kH;obtain⟨iR,hy,gR,lg⟩:=kH;simp only[bz] at lg;obtain⟨vT,oL⟩:=lg;obtain⟨rs,jj,hr⟩:=Cj hr
 have jt:∃ sl d1 i1,K (LT P S sl d1 i1 rs)=some r/\∀ V v out,Fi sl d1 i1 S V v=some out->Gh (Aa ks.V.fA) d S V v=some out:=by
  unfold Gh;cases S with
  | nil=>exact⟨none,d,0,hr,fun V v out h=>h⟩
  | cons s ss =>
   simp only at hr;split at hr
   ·rename_i i1 hi1;refine⟨some s.1,s.1,i1,hr,fun V v out h=>?_⟩;have:GL (Aa ks.V.fA) s.1=some i1:=by rw[Dz hk,<-hi1];unfold GL;congr 1;funext j;show ((AZ ks.fA (s.1,j)).map Ac.ob).isNone=_;cases AZ ks.fA (s.1,j)<;>rfl
    simp only[this];exact h
   {cases hr}
 obtain⟨sl,d1,i1,hr,jt⟩:=jt;have pJ:Ef fK g=true:=by rw[<-hc.pa,hPf];rfl
 obtain⟨fn,jD,⟨lD,nS⟩,hll⟩:=hc.ioP g Pf hPf
 have hnf:fn.gv=false/\fn.shut=false:=by
  rcases nS with nS | nS;{exact nS}
  ·exfalso;have gV:P.args=[.fT 0]:=by rw[<-hP];exact nS _ _
   rw[gV] at vT;cases Z with
   | nil=>simp[DY,CQ] at vT
   | cons x Z =>
    cases x<;>simp[DY,KV.fQ,CQ,A4] at vT;simp[Ed,KV.gq] at hy
 have hla:=(hll Z ins).1;have hli:=(hll Z ins).2;rw[hP] at hla hli;obtain⟨m1,m2⟩:=mapM_mem qA;have vU:∀ o∈ins,o.ok:=fun o ho=>let ⟨J,h⟩:=m2 o ho;CB hk J o h;have hS':Bm (AA (Aa ks.V.fA) Ax (Al (Aw Z)))=S:=by rw[<-hS,GI (CB hk),Dz hk,EH iA]
 have mQ:S.mapM (Aa ks.V.fA)=some (ins.map Ac.ob):=by rw[Dz hk];exact ru Ac.ob qA
 have hysok:AP (DY (fun m=>(0,S.idxOf m)) Z):=KW _ iA;have hosok:∀ o∈ins.map (Ac.fQ fun m=>(0,S.idxOf m)),o.ok:=by intro o ho;obtain⟨o0,h0,rfl⟩:=bA.1 ho;exact Ac.iz _ (vU o0 h0)
 have hlen:P.ins.length=S.length:=by rw[VG oL,cf,m1]
 have tB:∀ l:ff,(DY (fun m=>(0,S.idxOf m)) l).length=l.length:=by intro l;induction l with | nil=>rfl | cons x l ih=>simp[DY,ih]
 have hlena:(Aw Z).length<=fn.nt:=by
  have U:=XG vT;rw[tB] at U;have O:(Aw Z).length=Z.length:=by rw[Ea,cf]
  omega
 generalize hlv:Fc P.args (DY (fun m=>(0,S.idxOf m)) Z)++HN P.ins (ins.map (Ac.fQ fun m=>(0,S.idxOf m)))=lv at jj;have hseg:Ct lv 0 (Fc P.args (DY (fun m=>(0,S.idxOf m)) Z)++HN P.ins (ins.map (Ac.fQ fun m=>(0,S.idxOf m)))):=by rw[hlv];exact Ct.all lv
 obtain⟨p1,p2,p3⟩:=KY _ _ vT hysok lv 0 hseg.left;obtain⟨q1,q2,q3⟩:=Se _ _ oL hosok lv (Ce P.args lv 0).2 (by rw[p3];exact hseg.right);have hvs2:Aw (DY (fun m=>(0,S.idxOf m)) Z)=AR (fun m=>(0,S.idxOf m)) (Aw Z):=K1 _ iA;have hos2:(ins.map (Ac.fQ fun m=>(0,S.idxOf m))).map Ac.ob=(ins.map Ac.ob).map (Ob.fQ fun m=>(0,S.idxOf m)):=by rw[bV,bV];exact b9 fun o ho=>Ac.ko _ (vU o ho)
 unfold ioO at jj;rw[p1,q1,hvs2,hos2] at jj;split at jj
 case h_2=>cases jj
 rename_i V v hI;rw[hc.I] at hI;unfold Q9 at hI;rw[jD] at hI;have fG:=MU hI;split at jj
 case h_2=>cases jj
 rename_i ju jl;rw[hlen] at jl;have uM:=rk (sl:=sl) (d:=d1) (i0:=i1) jl;unfold Rf at jj;split at jj
 case isFalse=>cases jj
 rename_i nc;split at jj
 case h_2=>cases jj
 rename_i a b c ha hb hcc;cases jj;have hsr:=Ct.all (a++(b++c));obtain⟨a1,a2,a3⟩:=SH P.res ju.v ha _ 0 hsr.left;obtain⟨b1,b2,b3⟩:=RK P.outs _ hb (a++(b++c)) (fill P.res (a++(b++c)) 0).2 (by rw[a3];exact hsr.right.left);obtain⟨c1,c2,c3⟩:=RK P.news _ hcc (a++(b++c)) (Cc P.outs (a++(b++c)) (fill P.res (a++(b++c)) 0).2).2 (by rw[b3,a3];exact hsr.right.right)
 have fU:(LT P S sl d1 i1 (a++(b++c))).out={v:=ju.v.fQ (BH S d1 i1),new:=ju.new.map (Ob.fQ (BH S d1 i1)),gone:=ju.gone.map (BH S d1 i1),gC:=S.zip (ju.gC.map fun p=>p.2.fQ (BH S d1 i1)),io:=true,slot:=sl}:=by
  simp only[LT,Aq.out,cS,Ai.mk.injEq,true_and,and_true];refine⟨?_,?_,?_,?_⟩;{rw[KV.mw _ a2,a1]};{rw[bV,<-c1,bV];exact b9 fun o ho=>Ac.ko _ (c2 o ho)};{rw[nc,bV];exact b9 fun j _=>by simp[BH]}
  ·have e1:ju.gC.map (fun p=>p.2.fQ (BH S d1 i1))=(ju.gC.map (·.2)).map (Ob.fQ (BH S d1 i1)):=by rw[bV];rfl
   rw[e1,<-b1,bV]
   have key:∀ (T:fh) (l:fi),(∀ o∈l,o.ok)->(T.zip (l.map (Ac.fQ (BH S d1 i1)))).map (fun p=>(p.1,p.2.ob))=T.zip (l.map (Ob.fQ (BH S d1 i1)∘Ac.ob)):=by
    intro T;induction T with
    | nil=>intro l _;rfl
    | cons s T ih =>
     intro l hl;cases l with
     | nil=>rfl
     | cons o l =>
      simp only[bP,List.zip_cons_cons,bP,Function.comp];rw[Ac.ko _ (hl o bN),ih l fun o ho=>hl o (bM _ ho)]
   exact key S _ b2
 refine⟨_,hr,⟨KV.iz _ a2,?_,by simp[LT],?_⟩,gR,fG.shift.mono ?_⟩;{intro o ho;obtain⟨o0,h0,rfl⟩:=bA.1 ho;exact Ac.iz _ (c2 o0 h0)};{rintro ⟨s,o⟩ ho;have:=(List.of_mem_zip ho).2;obtain⟨o0,h0,rfl⟩:=bA.1 this;exact Ac.iz _ (b2 o0 h0)}
 ·rintro k ⟨j,rfl,hj⟩;show Fm fK (E4 (Be cfg.b.sp fK j) j fK) g d (Aa ks.V.fA) (Aw Z)=_;have kC:Jd fK g (Aa ks.V.fA) (Aw Z)=[]:=by unfold Jd;simp only[jD,hnf.1,bL,eE]
  unfold Fm;rw[kC];simp only
  unfold E4;rw[jD];simp only
  rw[hS',mQ];have hcd:(!A2 (Aw Z)&&BJ (Aa ks.V.fA) S&&(ins.map Ac.ob).all (fun o=>!o.gq)&&(decide ((Aw Z).length<=fn.nt)&&decide (S.length<=fn.nt)&&decide (0 < fn.nt)))=true:=by simp only[bz,cK,eI];refine⟨⟨⟨by rw[JT iA];exact hy,?_⟩,?_⟩,⟨hlena,by omega⟩,lD⟩;{rw[Dz hk,<-KU (CB hk)];exact iR};{rw[bI];intro o ho;obtain⟨o0,h0,rfl⟩:=bA.1 ho;obtain⟨J,np⟩:=m2 o0 h0;have:=ob_noY (vU o0 h0) fun ty cs iZ=>Mx hq J ty cs (by rw[np,iZ]);simp[this]}
  simp only[Ap,hcd,eF];have hj':Bq (Be cfg.b.sp fK j) j fn ((ins.map Ac.ob).map (Ob.fQ fun m=>(0,S.idxOf m))) (AR (fun m=>(0,S.idxOf m)) (Aw Z))=some (V,v):=hj;rw[hj'];have sH:H4 fn (V,v)=some (V,v):=by unfold H4;rw[hnf.2];rfl
  simp only[sH];rw[fU];exact jt _ _ _ uM
theorem aS (hc:DK cfg fK) (hk:ks.Ok) (hq:Ec ks.fA=true) {f0:eU} (hg0:AG f0=g) {cap:fa} {f:RX} {Z:ff} (iA:AP Z) (mm:f.ev ks.V.tmps=.fn f0 cap) (kM:A7 f0 (args.map (RX.ev ks.V.tmps)) cap=Aw Z)
  (hPf:cfg.pa g=some Pf) (hr:Ng cfg Pf g d (AZ ks.fA) Z (fun out=>K out e)=some r) :
  ∃ out e',K out e'=some r/\out.Ok/\AS fun n=>BU (Co cfg.b.sp fK n) (hn n) dep d (Aa ks.V.fA) ks.V.tmps f args e=some (out.out,e'):=by
 obtain⟨out,hr,ho,gR,fG⟩:=Vz (K:=fun out=>K out e) hc hk hq iA hPf hr;have pJ:Ef fK g=true:=by rw[<-hc.pa,hPf];rfl
 exact⟨out,e,hr,ho,fG.mono fun n ik=>by simp only[BU,mm,hg0,kM,IN,OB,hc.sO g gR,pJ,eF,ik]⟩
theorem vV (hc:DK cfg fK) (hh:HOk h hn) (hk:ks.Ok) {f:RX} (hq:(Ec ks.fA||Mf cfg (.call f args) ks.tmps)=true) (H:(f :: args).all DN=true)
  (hr:vz cfg h d (AZ ks.fA) ks.tmps f args e K=some r) :
  ∃ out e',K out e'=some r/\out.Ok/\AS fun n=>BU (Co cfg.b.sp fK n) (hn n) dep d (Aa ks.V.fA) ks.V.tmps f args e=some (out.out,e'):=by
 have hxf:DN f=true:=bI.1 H f (by simp);have hxa:args.all DN=true:=bI.2 fun x hm=>bI.1 H x (by simp[hm]);have oL:=LM hk hxf;have hao:=J5 hk hxa;unfold vz at hr;split at hr
 ·rename_i l hf;have mm:f.ev ks.V.tmps=.fT l:=by rw[FF hk,hf];rfl
  simp only at hr;split at hr
  ·rename_i A hv;obtain⟨p,hp,hr⟩:=Cj hr;have jx:=H7 hao hv;have np:(Al A).isEmpty=true:=by rw[(BT jx).1];rfl
   refine⟨_,_,hr,Aq.plain (v:=.cv (.bool p.1)) rfl,(hh _ _ _ _ hp).mono fun n ik=>?_⟩;simp[BU,mm,GU hk,Ji hv,np,(BT jx).2,Ap,ik,Aq.out,KV.pv]
  ·split at hr;·cases hr
   ·rename_i gj;split at hr
    ·rename_i iR;obtain⟨U,hr⟩:=A8 hr;obtain⟨p,hp,hr⟩:=Cj hr;have vP:(Al (Aw (args.map (RX.kv ks.tmps)))).isEmpty=false:=by rw[SN hao];simpa using gj
     rw[GI (CB hk),KU (CB hk),<-Dz hk,<-EH hao] at iR;rw[MP hk hao] at U hp;unfold noYL at U;refine⟨_,_,hr,⟨rfl,by simp,by simp,by simp⟩,(hh _ _ _ _ hp).mono fun n ik=>?_⟩;simp only[BU,mm,GU hk,vP,bL,eE,iR,U,ci,Ap,eF,ik,Aq.out,KV.pv];rw[GI (CB hk),<-Dz hk,<-EH hao];rfl
    {cases hr}
 ·rename_i f0 gg hf;rw[hf] at oL;have mr:AP gg:=oL;have mm:f.ev ks.V.tmps=.fn f0 (Aw gg):=by rw[FF hk,hf];rfl
  have iA:AP (Hq f0 (args.map (RX.kv ks.tmps)) gg):=Vw hao mr;have kM:A7 f0 (args.map (RX.ev ks.V.tmps)) (Aw gg)=Aw (Hq f0 (args.map (RX.kv ks.tmps)) gg):=by rw[Vv,GU hk]
  have ix:∀ sh,BG cfg.b sh (.fn f0 (Aw gg)) (args.map (RX.ev ks.V.tmps))=BG cfg.b sh (.fn (AG f0) []) (A7 f0 (args.map (RX.ev ks.V.tmps)) (Aw gg)):=fun sh=>rq;simp only at hr;generalize Hq f0 (args.map (RX.kv ks.tmps)) gg=Z at hr iA kM;generalize hg:AG f0=g at hr ix;split at hr
  ·rename_i s hs;split at hr
   case h_2=>cases hr
   rename_i p hso;obtain⟨b,out⟩:=p;obtain⟨hb,hr⟩:=A8 hr;have hb:b=true:=hb;subst hb;obtain⟨a1,a2,a3⟩:=hc.spK g s hs _ Z out iA (CB hk) hso;rw[<-Dz hk] at a2;exact⟨out,e,hr,a1,.of fun n=>by simp only[BU,mm,hg,kM,IN,a2,a3]⟩
  split at hr
  ·rename_i P hP
   have hq:Ec ks.fA=true:=by
    rcases dh.1 hq with U | U;{exact U}
    {unfold Mf at U;simp only[hf,hg,hP] at U;cases U}
   exact aS hc hk hq hg iA mm kM hP hr
  rename_i hP;have jj:Ef fK g=false:=by rw[<-hc.pa,hP];rfl
  split at hr
  ·rename_i ex p J;split at hr
   ·rename_i t n err ty cs ht herr gK;have hq:=A8 hr;clear hr;obtain⟨iZ,hr⟩:=hq;have iZ:cs.length=n:=ch iZ;have hlk':Aa ks.V.fA J=some (.cells ty (Aw cs)):=by rw[Ge hk,gK];rfl
    have hcs':(Aw cs).length=n:=by rw[<-iZ,F7]
    have hero:=KV.jf iA.1 herr;have oO:Aw [ex,.iface p (.ref J 0)]=[err,.iface p (.ref J 0)]:=by simp[Aw,KV.pv,KV.iE herr]
    rw[oO] at kM;obtain⟨s1,s2⟩:=hc.asOk g p t n ht (Aa ks.V.fA) J _ _ hlk' hcs';unfold asP at hr;split at hr;{refine⟨_,_,hr,Aq.plain (v:=.lit false) trivial,.of fun n=>?_⟩;simp only[BU,mm,hg,kM,IN,s1];rfl};{rename_i t' x;split at hr;{rename_i htt;subst htt;have hq:=A8 hr;clear hr;obtain⟨mG,hr⟩:=hq;refine⟨_,_,hr,Aq.oo (v:=.lit true) (o:=.whole _ x) trivial (show As x=true by simpa[As] using hero),.of fun n=>?_⟩;simp only[BU,mm,hg,kM,IN,s2 x mG];rfl};{cases hr}};{cases hr}
   {cases hr}
  ·split at hr
   ·rename_i A hv;obtain⟨u,hu,hr⟩:=Cj hr;have jx:=H7 iA hv;rw[Ji hv] at kM;have iS:BG cfg.b (cfg.rsh g).1 (.fn g []) (A7 f0 (args.map (RX.ev ks.V.tmps)) (Aw gg))=some u:=by rw[kM];exact hu
    have hcv:Az (Aw gg)=true:=Pr (ys:=Aw gg) jx fun y hy=>by rw[<-kM];exact UR (.inr hy)
    have hav:Az (args.map (RX.ev ks.V.tmps))=true:=Pr jx fun y hy=>by rw[<-kM];exact UR (.inl hy)
    have ji:BG cfg.b (cfg.rsh g).1 (.fn f0 (Aw gg)) (args.map (RX.ev ks.V.tmps))=some u:=by rw[ix];exact iS
    obtain⟨ou,ov,hr,iR⟩:=Sr hr;have ji:=XS iR ji;obtain⟨out,U,O,h3⟩:=XT (d:=d) (dep:=dep) (e:=e) (hn:=hn) hc ov hav (by simpa[As] using hcv) ji (Aa ks.V.fA) ks.V.tmps f args mm rfl;subst O;exact⟨_,_,hr,U,h3⟩
   ·split at hr;·cases hr
    ·rename_i gj;split at hr
     ·rename_i iR;obtain⟨u,hu,hr⟩:=Cj hr
      have hne1:(Cu Z).isEmpty=false:=by
       cases hq:(Cu Z).isEmpty with
       | false=>rfl
       | true=>exact eQ (.inl hq) gj
      have gR:cfg.sO g=false:=by
       cases hq:cfg.sO g with
       | false=>rfl
       | true=>exact eQ (.inr hq) gj
      have vP:(Al (Aw Z)).isEmpty=false:=by rw[SN iA];exact hne1
      rw[GI (CB hk),KU (CB hk),<-Dz hk,<-EH iA] at iR;rw[MP hk iA] at hu;obtain⟨ou,ov,hr,hshs⟩:=Sr hr;have hu:=vS hshs hu;unfold NX at hu;split at hu;·cases hu
      ·rename_i hy;split at hu
       ·rename_i rr obs hL;obtain⟨kC,hu⟩:=A8 hu;rw[hc.L] at hL;have fG:=MU hL;obtain⟨a1,a2,a3,a4⟩:=SO d ov hu;refine⟨_,_,hr,⟨a3,a4,by simp,by simp⟩,fG.mono fun n ik=>?_⟩;simp only[eJ] at kC;rw[hc.gT] at kC;have qb:A2 (AE (A3 (Aa ks.V.fA)) (Aw Z))=false:=by simpa using hy
        simp only[BU,mm,hg,kM,IN,OB,ZI,Vq,jj,hc.sO g gR,vP,bL,eE,iR,qb,Bool.not_false,ci,Ap,eF,ik,Aq.out,a1,a2,kC,cS,cq];rw[GI (CB hk),<-Dz hk,<-EH iA]
       {cases hu}
     {cases hr}
 ·rename_i v hf;rw[hf] at oL;have mm:f.ev ks.V.tmps=v:=by rw[FF hk,hf];rfl
  split at hr;{rename_i A hv;obtain⟨u,hu,hr⟩:=Cj hr;obtain⟨ou,ov,hr,iR⟩:=Sr hr;obtain⟨out,U,O,h3⟩:=XT (d:=d) (dep:=dep) (e:=e) (hn:=hn) hc ov (H7 hao hv) oL (XS iR hu) (Aa ks.V.fA) ks.V.tmps f args mm (by rw[GU hk,Ji hv]);subst O;exact⟨_,_,hr,U,h3⟩};{cases hr}
 {cases hr}
end
end Go.Ab


namespace Go.Ab
variable{b:Bool} {i:Nat} {op:Ak} {ops:fq} {v:PV}
variable {cfg:CR} {fK:eU->fk} {ks:Ao} {E R:Type} {h:AB E} {hn:Nat->AB E} {r:R} {e:E} {d dep:Nat}
theorem ry (hk:ks.Ok) {o:Av} (hf:TZ o ks=true):BQ o ks.V=true:=by
 unfold TZ at hf;unfold BQ;split
 ·rename_i hm;rw[eH hm] at hf;split
  ·rename_i d' hd;rw[hd] at hf;simp only[bz,cr,bZ] at hf;have:ks.V.fA[d']?=some []:=by show (BW ks.nt ks.fA)[d']?=_;rw[gr,eH hf.1,hf.2];rfl
   rw[this]
  {rename_i hd;rw[hd] at hf;exact hf}
 {rfl}
theorem WA (hc:DK cfg fK) (hh:HOk h hn) (hk:ks.Ok) {o:Av} {K:Aq->E->Option R} (hr:Lt cfg h o ks e K=some r) :
  ∃ out e',(out.gv.isEmpty||Ec ks.fA)=true/\K out e'=some r/\out.Ok/\AS fun n=>Br (Co cfg.b.sp fK n) (hn n) dep o ks.V e=some (out.out,e'):=by
 unfold Lt at hr;split at hr
 ·rename_i kH;obtain⟨U,O,h3⟩:=kH;have hf:=ry hk U;split at hr
  ·rename_i f args kA;rw[kA] at O h3;obtain⟨out,e',a1,a2,a3⟩:=vV (dep:=dep) hc hh hk h3 O hr;split at a1
   case isFalse=>cases a1
   rename_i hgq;obtain⟨hg,hqq⟩:=cL.1 hgq
   have mH:HY o.dst out.out=true:=by
    simp only[HY,Aq.out];have:(out.new.map Ac.ob).isEmpty=out.new.isEmpty:=by cases out.new<;>rfl
    rw[this];exact hg
   refine⟨out,e',hqq,a1,a2,a3.mono fun n ik=>?_⟩;simp only[Br,Ap,hf,eF,kA,ik,mH]
  ·rename_i kA;obtain⟨out,a1,a2,a3⟩:=vO hk h3 O hr;simp only at a1;split at a1
   case isFalse=>cases a1
   rename_i hqq;refine⟨out,e,hqq,a1,a2,.of fun n=>?_⟩;simp only[Br,Ap,hf,eF];cases hq:o.op with
   | call f args=>exact (kA f args hq).elim
   | _=>rw[hq] at a3;simp only[a3]
 {cases hr}
theorem Uj (hk:ks.Ok) (hg:AN ks.tmps i=.cv v) (hv:v=.bool b):({ks with tmps:=Cn i (.lit b) ks.tmps}:Ao).V=ks.V/\({ks with tmps:=Cn i (.lit b) ks.tmps}:Ao).Ok:=by
 have gI:i < ks.nt:=by apply dw;intro gI;rw[hk.tm.kR (by omega)] at hg;cases hg
 refine⟨?_,hk.tm.put gI trivial rfl,hk.ob,hk.kp⟩;unfold Ao.V;simp only
 rw[OZ];congr 1;apply cj;intro j;rw[dY,Dk];by_cases hj:i=j;{subst hj;simp only[eF];rw[eH gI,gx,eH gI,hg,hv];rfl};{rw[eG hj]}
theorem Wx (hk:ks.Ok) {o:Av} {K:Bool->Ao->Option R} (hr:PR ops o ks K=some r):∃ b k',K b k'=some r/\k'.Ok/\k'.V=ks.V/\BB ops o ks.V.tmps=some b /\
  k'.fA=ks.fA/\(∀ x:RX,(x.kv k'.tmps).names=(x.kv ks.tmps).names/\(x.kv k'.tmps).gq=(x.kv ks.tmps).gq):=by
 unfold PR at hr;unfold BB;split at hr;{rename_i hg;rw[hg];exact⟨_,_,hr,hk,rfl,rfl,rfl,fun _=>⟨rfl,rfl⟩⟩}
 ·rename_i j want hg;rw[hg];split at hr
  ·rename_i p hp;split at hr
   ·rename_i d' hd;have hT:ks.V.tmps.getD d' .undef=(AN ks.tmps d').pv:=JK hk.tm d';simp only[hp,hd,hT];split at hr;{rename_i b hb;rw[hb];exact⟨_,_,hr,hk,rfl,rfl,rfl,fun _=>⟨rfl,rfl⟩⟩};{rename_i hb;rw[hb];exact⟨_,_,hr,hk,rfl,rfl,rfl,fun _=>⟨rfl,rfl⟩⟩}
    ·rename_i v hb;rw[hb]
     have hsame:∀ b,∀ x:RX,(x.kv (Cn d' (.lit b) ks.tmps)).names=(x.kv ks.tmps).names/\(x.kv (Cn d' (.lit b) ks.tmps)).gq=(x.kv ks.tmps).gq:=by
      intro b x;cases x with
      | c v=>exact⟨rfl,rfl⟩
      | t i =>
       simp only[RX.kv,Su];by_cases hi:i=d';{subst hi;rw[eH rfl,hb];exact⟨rfl,rfl⟩};{rw[eG hi];exact⟨rfl,rfl⟩}
     rcases OQ hr with ⟨hv,hr⟩ | ⟨hv,hr⟩
     {obtain⟨s1,s2⟩:=Uj hk hb hv;subst hv;exact⟨_,_,hr,s2,s1,rfl,rfl,hsame true⟩};{obtain⟨s1,s2⟩:=Uj hk hb hv;subst hv;exact⟨_,_,hr,s2,s1,rfl,rfl,hsame false⟩}
    {cases hr}
   {cases hr}
  {cases hr}
theorem Xu (hc:DK cfg fK) (hh:HOk h hn) (hk:ks.Ok) {o:Av} {K:Ao->E->Option R} (hr:vA cfg h ops o ks e K=some r) :
  ∃ k' e',K k' e'=some r/\k'.Ok/\AS fun n=>stepG (Co cfg.b.sp fK n) (hn n) dep ops o ks.V e=some (k'.V,e'):=by
 unfold vA at hr;obtain⟨b,k1,hr,gS,hH,hw,_,_⟩:=Wx hk hr;cases b with
 | true =>
  simp only at hr;obtain⟨out,e',hq,U,O,h3⟩:=WA (dep:=dep) hc hh gS hr;rw[CD] at U;obtain⟨s1,s2⟩:=RW gS hq o.dst O;refine⟨_,_,U,s2,h3.mono fun n ik=>?_⟩;rw[hH] at ik s1;simp only[stepG,hw,Hv,ik,s1]
 | false =>
  simp only at hr;rw[CD] at hr;have:(FC k1 o.dst {v:=.sk}).V=apply k1.V o.dst {v:=.fM []}/\(FC k1 o.dst {v:=.sk}).Ok:=by exact nf gS o.dst
  refine⟨_,_,hr,this.2,.of fun n=>?_⟩;simp only[stepG,hw,this.1,hH]
where
 nf {ks:Ao} (hk:ks.Ok) (dst:fb):(FC ks dst {v:=.sk}).V=apply ks.V dst {v:=.fM []}/\(FC ks dst {v:=.sk}).Ok:=by
  unfold FC;rw[Tg];simp only[qM,LP,N2,Ku,Kn,dg,eF,Mg,Km,LQ];have hkt:LN [] ks=ks:=rfl;have nV:qN none [] ks=ks:=rfl;have hkn:NV none []=[]:=rfl;rw[hkt,nV,hkn];simp only[qZ,Nw];cases dst with
  | none=>exact⟨rfl,hk⟩
  | some d =>
   simp only[kset,JC];cases hd:Nat.blt d ks.nt with
   | true =>
    have kF:d < ks.nt:=by simpa[cr] using hd
    refine⟨?_,hk.tm.set (v:=.sk) kF trivial,hk.ob,hk.kp⟩;unfold Ao.V;simp only
    rw[WT];rfl
   | false =>
    have kF:¬ d < ks.nt:=by intro h;rw[show Nat.blt d ks.nt=true by simpa[cr] using h] at hd;cases hd
    refine⟨?_,hk⟩;unfold Ao.V;simp only
    rw[eh (by rw[Dk];omega)];rfl
theorem S7 (hc:DK cfg fK) (hh:HOk h hn):∀ (l:fq) {ks:Ao} {e:E} {K:Ao->E->Option R},ks.Ok->LO cfg h ops l ks e K=some r ->
  ∃ k' e',K k' e'=some r/\k'.Ok/\AS fun n=>CX (Co cfg.b.sp fK n) (hn n) dep ops l ks.V e=some (k'.V,e'):=by
 intro l;induction l with
 | nil=>intro ks e K hk hr;exact⟨ks,e,hr,hk,.of fun n=>rfl⟩
 | cons o rest ih =>
  intro ks e K hk hr;simp only[LO] at hr;obtain⟨k1,e1,hr,gS,U⟩:=Xu (dep:=dep) hc hh hk hr;obtain⟨k2,e2,hr,ka,O⟩:=ih gS hr;exact⟨k2,e2,hr,ka,U.je O fun n a b=>by simp only[CX,a,b]⟩
theorem Wy (o:Aq):Nx o=A6 o.out:=by unfold Nx A6 Aq.out;cases o.gA<;>cases o.gC<;>rfl
theorem rz (o:Aq):TT o=Ck o.out:=by unfold TT Ck Aq.out;cases o.gC<;>rfl
theorem Y9 (o:Aq):SB o=DQ o.out:=by
 unfold SB DQ Aq.out;cases o.gA with
 | none=>rfl
 | some p=>rfl
theorem spAt_pv (ks:Ao) (s:Nat):ks.V.tmps.getD s .undef=(qP ks s).pv:=by
 unfold qP;show (Bc ks.nt ks.tmps).getD s .undef=_;unfold Bc;rw[bF,bK];cases hb:Nat.blt s ks.nt with
 | true =>
  have:s < ks.nt:=Nat.blt_eq.mp hb;rw[cN this];rfl
 | false =>
  have:¬ s < ks.nt:=fun h=>by rw[Nat.blt_eq.mpr h] at hb;cases hb
  rw[cg (by simpa using this)];rfl
theorem Va (hk:ks.Ok) (s:Nat):(ks.V.tmps.getD s .undef).names=(qP ks s).names:=by
 rw[spAt_pv];refine KV.iy ?_;unfold qP;cases Nat.blt s ks.nt with
 | true=>exact hk.tm.hZ s
 | false=>trivial
theorem vW (hk:ks.Ok) (l:fh):TW (AZ ks.fA) l=Fj (Aa ks.V.fA) l:=by
 unfold TW Fj;congr 1;funext J;rw[Dz hk];cases hq:AZ ks.fA J with
 | none=>simp[hq]
 | some o =>
  simp only[hq,bG,b7];exact (Ac.jv (CB hk J o hq)).symm
theorem krn_eq (hk:ks.Ok) {o:Av} (H:o.op.Z.all DN=true) (out:Aq):Rb o ks out=Cg o ks.V out.out:=by have jx:=J5 hk H;unfold Rb Cg;rw[GU hk,GI (CB hk),<-Dz hk,<-EH jx,Wy];rfl
theorem rA (hk:ks.Ok) (H:op.Z.all DN=true):TV op ks.tmps=EV op ks.V.tmps:=by
 cases op<;>try rfl
 rename_i f args;have hxa:args.all DN=true:=bI.2 fun x hm=>bI.1 H x (by simp[Ak.Z,hm]);have hxf:(f.kv ks.tmps).ok:=LM hk (bI.1 H f (by simp[Ak.Z]));unfold TV EV;simp only
 rw[FF hk,GU hk,EH (J5 hk hxa)];cases hf:f.kv ks.tmps with
 | cv v =>
  rw[hf] at hxf;simp only[KV.pv];cases v<;>first | rfl | (simp[KV.ok,As] at hxf)
 | _=>rfl
theorem vX (hk:ks.Ok) {o:Av} (H:o.op.Z.all DN=true) {out:Aq} (ho:out.Ok):vB ops i o ks out=Cl ops i o ks.V out.out:=by
 unfold vB Cl;have jx:=J5 hk H;simp only
 have hn:out.out.new.flatMap Ob.names=out.new.flatMap Ac.names:=by
  show (out.new.map Ac.ob).flatMap Ob.names=_;rw[eB]
  have:∀ l:fi,(∀ x∈l,x.ok)->l.flatMap (fun a=>a.ob.names)=l.flatMap Ac.names:=by
   intro l;induction l with
   | nil=>intro _;rfl
   | cons x l ih =>
    intro h;rw[cQ,cQ,Ac.jv (h x bN),ih fun y hy=>h y (bM _ hy)]
  exact this _ ho.new
 have hv:out.out.v.names=out.v.names:=KV.iy ho.v;simp only[<-Va hk];rw[krn_eq hk H,vW hk,rA hk H,GU hk,<-JT jx,Wy,rz,Y9,hn,hv];rfl
theorem vY {o:Av} {K:Aq->E->Option R} (hr:Lt cfg h o ks e K=some r):o.op.Z.all DN=true:=by unfold Lt at hr;split at hr;{rename_i kH;exact kH.2.1};·cases hr
theorem rB (hc:DK cfg fK) (hh:HOk h hn) (hk:ks.Ok) {o:Av} {K:Ao->E->Bf->Option R} (hr:TU cfg h ops i o ks e K=some r) :
  ∃ k' e' inf,K k' e' inf=some r/\k'.Ok/\AS fun n=>HB (Co cfg.b.sp fK n) (hn n) dep ops i o ks.V e=some (k'.V,e',inf):=by
 unfold TU at hr;obtain⟨b,k1,hr,gS,hH,hw,_,_⟩:=Wx hk hr;cases b with
 | true =>
  simp only at hr;have iA:=vY hr;obtain⟨out,e',hq,U,O,h3⟩:=WA (dep:=dep) hc hh gS hr;rw[CD] at U;obtain⟨s1,s2⟩:=RW gS hq o.dst O;refine⟨_,_,_,U,s2,h3.mono fun n ik=>?_⟩;rw[hH] at ik s1;simp only[HB,AX,hw,ik,s1];rw[vX gS iA O,hH]
 | false =>
  simp only at hr;rw[CD] at hr;have:=Xu.nf gS o.dst;refine⟨_,_,_,hr,this.2,.of fun n=>?_⟩;simp only[HB,AX,hw,this.1,hH,<-Va gS]
theorem rC (hc:DK cfg fK) (hh:HOk h hn):∀ (l:List (Nat×Nat)) (infos:List Bf) {ks:Ao} {e:E} {K:Ao->E->Option R},ks.Ok->PS cfg h ops l infos ks e K=some r ->
  ∃ k' e',K k' e'=some r/\k'.Ok/\AS fun n=>ED (Co cfg.b.sp fK n) (hn n) dep ops l infos ks.V e=some (k'.V,e'):=by
 intro l;induction l with
 | nil=>intro infos ks e K hk hr;exact⟨ks,e,hr,hk,.of fun n=>rfl⟩
 | cons p rest ih =>
  obtain⟨i,jF⟩:=p;intro infos ks e K hk hr;simp only[PS] at hr;split at hr;{rename_i o ho;obtain⟨k1,e1,inf,hr,gS,U⟩:=rB (dep:=dep) hc hh hk hr;split at hr;{rename_i ix;obtain⟨k2,e2,hr,ka,O⟩:=ih _ gS hr;exact⟨k2,e2,hr,ka,U.je O fun n a b=>by simp only[ED,ho,a,Ap,ix,eF,b]⟩};{cases hr}};{cases hr}
end Go.Ab


namespace Go.Ab
variable{R:fh} {gp:fc} {cs:ff} {grow:List (Nat×Nat)} {i k nt ty:Nat} {l:AO} {J:Nm} {p x:Ao} {v:PV}
variable {ks:Ao}
theorem Oq (h:Bg nt l) (d:Nat):(BW nt l).getD d []=(AV l d).map Ac.ob:=by rw[bF,gr];split;{rfl};{rw[h.kR (by omega)];rfl}
theorem KL (h:ks.Ok) (ds:fc):(Dc ds ks).V=BR ds ks.V/\(Dc ds ks).Ok/\(Dc ds ks).nt=ks.nt:=by
 have ix:(ds.all fun d=>(ks.V.fA.getD d []).isEmpty)=ds.all fun d=>(AV ks.fA d).isEmpty:=by congr 1;funext d;show ((BW ks.nt ks.fA).getD d []).isEmpty=_;rw[Oq h.ob];cases AV ks.fA d<;>rfl
 unfold Dc BR;rw[ix];split;{exact⟨rfl,h,rfl⟩}
 ·have U:=Tr (fun m=>ds.contains m.1) h;have O:=Tq (fun m=>ds.contains m.1) h;refine⟨?_,⟨U.tm,U.ob.sub (af _ _),U.kp⟩,rfl⟩;have e:Hu (fun m=>ds.contains m.1)=fun m=>if ds.contains m.1=true then some none else none:=rfl
  rw[e] at O;simp only
  rw[<-O];unfold Ao.V;simp only
  congr 1;refine JM (by simp[Hc]) fun i hi=>?_;rw[bK,cM,gr,eH hi,ai];simp only[bG,bX];cases ds.contains i<;>simp
theorem R0 {ds ds':fc} (h:∀ d,d∈ds↔d∈ds') (V:St):BR ds V=BR ds' V:=by
 have U:∀ p:Nat->Bool,ds.all p=ds'.all p:=fun p=>by rw[cW,bI,bI];exact⟨fun a x H=>a x ((h x).2 H),fun a x H=>a x ((h x).1 H)⟩
 have O:∀ i,ds.contains i=ds'.contains i:=fun i=>by rw[cW,cy,cy];exact h i
 unfold BR;simp only[U,O]
theorem RU {Z:fa}:J∈Al Z↔∃ x∈Z,J∈x.names:=by
 induction Z with
 | nil=>simp[Al]
 | cons x Z ih=>simp[Al,ih]
theorem Vx (h:ks.Ok) (J:Nm):J∈Al ks.V.fD↔J∈ks.fD.flatMap Es:=by rw[RU];show (∃ x∈ks.fD.flatMap (Bc ks.nt),J∈x.names)↔_;simp only[cp];constructor;{rintro ⟨x,⟨sp,gR,H⟩,hn⟩;exact⟨sp,gR,(Oo (h.kp sp gR) J).1 (RU.2 ⟨x,H,hn⟩)⟩};{rintro ⟨sp,gR,hn⟩;obtain⟨x,H,hn⟩:=RU.1 ((Oo (h.kp sp gR) J).2 hn);exact⟨x,⟨sp,gR,H⟩,hn⟩}
theorem RJ (h:ks.Ok) (d:Nat):d∈Gd ks.V↔d∈HP ks:=by
 have hR:∀ p:Nm->Bool,(Al ks.V.tmps++Al ks.V.fD++ks.V.fA.flatMap fun l=>l.flatMap Ob.names).all p=(Es ks.tmps++ks.fD.flatMap Es++GK ks.fA).all p:=by intro p;have e1:∀ J,J∈Al ks.V.tmps↔J∈Es ks.tmps:=fun J=>Oo h.tm J;have e2:=Vx h;have e3:∀ J,J∈(ks.V.fA.flatMap fun l=>l.flatMap Ob.names)↔J∈GK ks.fA:=fun J=>UC h.ob J;rw[cW,bI,bI];refine⟨fun a x H=>a x ?_,fun a x H=>a x ?_⟩;{simp only[bS] at H |-;rw[e1,e2,e3];exact H};{simp only[bS] at H |-;rw[<-e1,<-e2,<-e3];exact H}
 unfold Gd HP;simp only[cE,cV,bA,hR,bz];have hT:ks.V.fA.getD d []=(AV ks.fA d).map Ac.ob:=Oq h.ob d;rw[hT];constructor
 ·rintro ⟨_,U,O⟩;have gj:AV ks.fA d≠[]:=by intro e;rw[e] at U;simp at U
  refine⟨_,⟨KG gj,?_,O⟩,rfl⟩;simpa using gj
 {rintro ⟨p,⟨hp,U,O⟩,rfl⟩;have:=h.ob.get_mem hp;have gI:=h.ob.lt p hp;refine⟨?_,?_,O⟩;{show p.1 < (BW ks.nt ks.fA).length;rw[Hc];exact gI};{rw[this];simpa using U}}
theorem UW {R R':fh} (h:∀ J,J∈R↔J∈R') (d:Nat):∀ n,G4 R d n=G4 R' d n
 | 0=>rfl
 | n+1=>by
  have e:R.contains (d,n)=R'.contains (d,n):=by rw[cW,cy,cy];exact h _
  simp only[G4,e,UW h d n]
theorem Vb:∀ {l:AO} {p:Nat×fi},p∈GS R l->∃ q∈l,p.1=q.1/\∀ o∈p.2,o∈q.2:=by
 intro l;induction l with
 | nil=>intro p hp;cases hp
 | cons q l ih =>
  obtain⟨j,u⟩:=q;intro p hp;simp only[GS] at hp;split at hp;{obtain⟨q,hq,h⟩:=ih hp;exact⟨q,by simp[hq],h⟩}
  ·rename_i v A hv;rcases bE.1 hp with rfl | hp
   {refine⟨(j,u),by simp,rfl,fun o ho=>?_⟩;simp only at ho;rw[<-hv] at ho;exact cC ho};{obtain⟨q,hq,h⟩:=ih hp;exact⟨q,by simp[hq],h⟩}
theorem Zr:∀ (l:AO),((GS R l).map (·.1)).Sublist (l.map (·.1)):=by
 intro l;induction l with
 | nil=>exact .slnil
 | cons q l ih =>
  obtain⟨j,u⟩:=q;simp only[GS];split;{exact .cons _ ih};{exact .cons_cons _ ih}
theorem Bg.trim (h:Bg nt l):Bg nt (GS R l) where
 mT:=h.mT.sublist (Zr l)
 lt p hp:=by obtain⟨q,hq,e,_⟩:=Vb hp;rw[e];exact h.lt q hq
 ok p hp o ho:=by obtain⟨q,hq,_,e⟩:=Vb hp;exact h.ok q hq o (e o ho)
theorem ah:∀ {l:AO},Bg nt l->∀ (i:Nat),AV (GS R l) i=(AV l i).take (G4 R i (AV l i).length):=by
 intro l;induction l with
 | nil=>intro _ i;simp[GS,AV]
 | cons q l ih =>
  obtain⟨j,u⟩:=q;intro h i;simp only[GS];cases pW:Nat.beq i j with
  | true =>
   have hb:=ch pW;subst hb
   have u6:AV l i=[]:=by
    cases hq:AV l i with
    | nil=>rfl
    | cons x Z =>
     have hm:=KG (l:=l) (i:=i) (by rw[hq];simp);have U:=(cz.1 h.mT).1 i (bA.2 ⟨_,hm,rfl⟩);exact eQ U (Nat.lt_irrefl i)
   have hT:AV ((i,u) :: l) i=u:=by simp[AV,pW]
   rw[hT];split;{rename_i hv;rw[ih h.tail i,u6,hv];rfl};{rename_i v A hv;rw[hv];simp[AV,pW]}
  | false =>
   have hT:AV ((j,u) :: l) i=AV l i:=by simp[AV,pW]
   rw[hT,<-ih h.tail i];split;{rfl};{simp[AV,pW]}
theorem vZ (h:ks.Ok):(NY ks).V=trim ks.V/\(NY ks).Ok/\(NY ks).nt=ks.nt:=by
 refine⟨?_,⟨h.tm,h.ob.trim,h.kp⟩,rfl⟩;have hR:∀ J,J∈(Al ks.V.tmps++Al ks.V.fD++ks.V.fA.flatMap fun l=>l.flatMap Ob.names)↔J∈(Es ks.tmps++ks.fD.flatMap Es++GK ks.fA):=by intro J;have e1:J∈Al ks.V.tmps↔J∈Es ks.tmps:=Oo h.tm J;have e2:=Vx h J;have e3:J∈(ks.V.fA.flatMap fun l=>l.flatMap Ob.names)↔J∈GK ks.fA:=UC h.ob J;simp only[bS];rw[e1,e2,e3]
 unfold NY trim;show ({tmps:=_,fA:=BW ks.nt _,fD:=_}:St)={tmps:=_,fA:=_,fD:=_};congr 1;refine JM (by simp[Ao.V,Hc]) fun i hi=>?_;rw[bK,cM];show (((BW ks.nt ks.fA)[i]?).map _).map _=_;rw[gr,eH hi,ah h.ob];simp only[bG,bX,bC,cf,List.map_take];rw[UW hR]
theorem S9 (h:ks.Ok) (p:Nat->Bool):({ks with tmps:=EN p ks.tmps}:Ao).V={ks.V with tmps:=ks.V.tmps.zipIdx.map fun (v,i)=>if p i then v else .undef}/\({ks with tmps:=EN p ks.tmps}:Ao).Ok:=by
 refine⟨?_,h.tm.sub (ab _ _),h.ob,h.kp⟩;unfold Ao.V;simp only
 congr 1;refine JR (by simp[Dk]) fun i hi=>?_;rw[bK,cM,gx,eH hi,ac];simp only[bG,bX];cases p i<;>rfl
theorem Pc (h:ks.Ok) (lv:Option fc):(Ki lv ks).V=EC lv ks.V/\(Ki lv ks).Ok:=by
 cases lv with
 | none=>exact⟨rfl,h⟩
 | some l =>
  unfold Ki EC Fz;simp only
  obtain⟨U,O⟩:=S9 h (fun i=>l.contains i);obtain⟨h3,h4,_⟩:=KL O (HP {ks with tmps:=EN (fun i=>l.contains i) ks.tmps});refine⟨?_,h4⟩;rw[h3,<-U];exact R0 (fun d=>(RJ O d).symm) _
theorem YW:BD (.cv v) (.cv v)=[v]:=rfl
theorem ZG {l:Sp} (h:K3 (F8 l l)=true) (hm:(i,KV.cv v)∈l):B3 v=false:=by
 unfold K3 at h;induction l with
 | nil=>cases hm
 | cons p l ih =>
  obtain⟨k,u⟩:=p;simp only[F8,cA,bz] at h;rcases bE.1 hm with e | hm
  {cases e;have:=h.1;rw[YW] at this;simpa using this};{exact ih h.2 hm}
theorem Z1 {k0:Ao} (h0:k0.Ok) (hu:K3 (F8 k0.tmps k0.tmps)=true) (hi:i < k0.nt):(gi k0.V).contains i=!Fg k0.tmps i:=by
 have jq:i∈gi k0.V↔B3 (AN k0.tmps i).pv=true:=by unfold gi;simp only[bA,cE];constructor;{rintro ⟨⟨v,j⟩,⟨hv,hq⟩,rfl⟩;have:=List.mem_zipIdx hv;rw[cd] at hv;simp only at hv;have e:(Bc k0.nt k0.tmps)[j]?=some v:=hv;rw[gx,eH hi] at e;cases e;exact hq};{intro hq;refine⟨((AN k0.tmps i).pv,i),⟨?_,hq⟩,rfl⟩;rw[cd];show (Bc k0.nt k0.tmps)[i]?=_;rw[gx,eH hi]}
 rw[cW,cy,jq];cases hh:Fg k0.tmps i with
 | false =>
  have:AN k0.tmps i=.un:=by apply dw;intro gj;rw[(h0.tm.pI i).2 gj] at hh;cases hh
  simp[this,KV.pv,B3]
 | true =>
  have gj:=(h0.tm.pI i).1 hh;have hm:=MD gj;simp only[dV,bL,iff_false];intro hq;cases hg:AN k0.tmps i with
  | un=>exact gj hg
  | cv v =>
   rw[hg] at hm hq;have:=ZG hu hm;simp only[KV.pv] at hq;rw[this] at hq;cases hq
  | _=>rw[hg] at hq;simp[KV.pv,B3] at hq
theorem v7 {k0:Ao} (h0:k0.Ok) (hu:K3 (F8 k0.tmps k0.tmps)=true) (h:ks.Ok) (lD:ks.nt=k0.nt):(Jn k0 ks).V=drop (gi k0.V) ks.V/\(Jn k0 ks).Ok/\(Jn k0 ks).nt=ks.nt:=by
 unfold Jn drop;simp only
 obtain⟨U,O⟩:=S9 h (Fg k0.tmps);obtain⟨h3,h4,h5⟩:=KL O (HP {ks with tmps:=EN (Fg k0.tmps) ks.tmps});refine⟨?_,h4,h5⟩
 have h6:FA (gi k0.V) ks.V=({ks with tmps:=EN (Fg k0.tmps) ks.tmps}:Ao).V:=by
  rw[U];unfold FA;congr 1;apply b9;rintro ⟨v,i⟩ hm;have hi:i < k0.nt:=by rw[cd] at hm;have e:(Bc ks.nt ks.tmps)[i]?=some v:=hm;rw[gx] at e;split at e;{omega};·cases e
  simp only[Z1 h0 hu hi];cases Fg k0.tmps i<;>rfl
 rw[h3,h6];exact R0 (fun d=>(RJ O d).symm) _
theorem WD (h:ks.Ok) (t:Nat):J0 ks.V t=I9 ks t:=by
 unfold J0 I9;show (match (BW ks.nt ks.fA)[t]? with | some []=>true | _=>false)=_;rw[gr];by_cases ht:t < ks.nt
 ·rw[eH ht];have:Nat.blt t ks.nt=true:=by simpa[cr] using ht
  rw[this];cases AV ks.fA t<;>rfl
 ·rw[eG ht]
  have:Nat.blt t ks.nt=false:=by
   cases hb:Nat.blt t ks.nt with
   | false=>rfl
   | true=>exact eQ (by simpa[cr] using hb) ht
  rw[this];rfl
theorem WE {t:Nat} (h:I9 ks t=true):t < ks.nt:=by unfold I9 at h;simp only[bz,cr] at h;exact h.1
theorem Uu (h:ks.Ok) (t:Nat) (J:Nm):(KJ t ks J).V=(if J≠(t,0)/\J0 ks.V t=true then
   match Aa ks.V.fA J with
   | some ob =>
    let f:Nm->Nm:=fun m=>if m=J then (t,0) else m
    let fA:=ks.V.fA.map (·.map (Ob.fQ f))
    {tmps:=AR f ks.V.tmps,fA:=(AM fA J AH).set t [ob.fQ f],fD:=AR f ks.V.fD}
   | none=>ks.V
  else ks.V)/\(KJ t ks J).Ok/\(KJ t ks J).nt=ks.nt:=by
 unfold KJ;rw[WD h];by_cases hc:J≠(t,0)/\I9 ks t=true
 ·rw[eH hc,eH hc,Ge h];cases hl:AZ ks.fA J with
  | none=>exact⟨rfl,h,rfl⟩
  | some ob =>
   simp only[bG];have hoo:=CU h.ob hl;have ht:=WE hc.2
   let f:Nm->Nm:=fun m=>if m=J then (t,0) else m
   have hm:Bg ks.nt (Ei (Ac.fQ f) ks.fA):=h.ob.map fun x H=>Ac.iz f H;refine⟨?_,⟨h.tm.map fun x H=>KV.iz f H,(hm.jz J (o:=Fh) rfl).put ht fun o ho=>by simp only[cc] at ho;subst ho;exact Ac.iz f hoo,fun sp gR=>?_⟩,by trivial⟩
   ·unfold Ao.V;simp only
    rw[OY h.tm,JL,Mt hm,OI h.ob (fun o ho=>Ac.ko f ho),
     Pj (g:=AR f) rfl (UK f) fun sp gR=>OY (h.kp sp gR) f]
    have jy:=Ac.ko (fun m=>if m=J then (t,0) else m) hoo;simp only[bP,cq,jy];rfl
   {obtain⟨q,hq,rfl⟩:=bA.1 gR;exact (h.kp q hq).map fun x H=>KV.iz f H}
 {rw[eG hc,eG hc];exact⟨rfl,h,rfl⟩}
theorem aM (h:ks.Ok) (t:Nat):(IP t ks).V=Gg t ks.V/\(IP t ks).Ok/\(IP t ks).nt=ks.nt:=by
 have hT:ks.V.tmps.getD t .undef=(AN ks.tmps t).pv:=JK h.tm t;have v8:=h.tm.hZ t;unfold IP Gg;rw[hT];cases hg:AN ks.tmps t with
 | arr J k o n=>exact Uu h t J
 | iF J=>exact Uu h t J
 | cv v =>
  rw[hg] at v8;have hv:As v=true:=v8;simp only[KV.pv];cases v<;>first | (simp[As] at hv;done) | exact⟨rfl,h,trivial⟩
 | _=>exact⟨rfl,h,rfl⟩
theorem Uq (h:ks.Ok) (d:Nat):ks.V.fA.getD d []=(AV ks.fA d).map Ac.ob:=Oq h.ob d
theorem WC (h:ks.Ok) (hl:AZ ks.fA J=some (.cells ty cs)) (i k:Nat):(Lw J ty cs i k ks).Ok/\(Lw J ty cs i k ks).nt=ks.nt/\(Lw J ty cs i k ks).V={ks.V with fA:=ks.V.fA.set J.1 ((ks.V.fA.getD J.1 []).set J.2 (.cells ty ((Aw cs).set i (.arr (J.1,(ks.V.fA.getD J.1 []).length) k 0 0)))++[.arr k 0 []])}:=by
 have gI:=Pd h.ob hl;have iZ:AP cs:=CU h.ob hl;have nn:AP (cs.set i (.arr (J.1,(AV ks.fA J.1).length) k 0 0)):=CC.2 fun x H=>by rcases dG H with H | H;{exact CC.1 iZ x H};{subst H;trivial}
 unfold Lw;refine⟨⟨h.tm,h.ob.put gI fun o ho=>?_,h.kp⟩,rfl,?_⟩
 ·rcases bS.1 ho with ho | ho
  {rcases dG ho with ho | ho;{exact h.ob.hZ ho};{subst ho;exact nn}};{simp only[cc] at ho;subst ho;rfl}
 ·rw[Uq h];unfold Ao.V;simp only
  rw[JL,cU,dB];simp only[bP,cq,Ac.ob,Ea,dB,KV.pv,cf]
theorem Uv (h:ks.Ok) (J m:Nm) (gI:J.1 < ks.nt):(KK J m ks).Ok/\(KK J m ks).nt=ks.nt/\(KK J m ks).V=(if m.1≠J.1 then
   match Aa ks.V.fA m with
   | some ob =>
    let f:Nm->Nm:=fun x=>if x=m then (J.1,(ks.V.fA.getD J.1 []).length) else x
    let fA:=AM (ks.V.fA.map (·.map (Ob.fQ f))) m AH
    {tmps:=AR f ks.V.tmps,fA:=fA.set J.1 (fA.getD J.1 []++[ob.fQ f]),fD:=AR f ks.V.fD}
   | none=>ks.V
  else ks.V):=by
 unfold KK;by_cases hm:m.1≠J.1
 ·rw[eH hm,eH hm,Ge h];cases hl:AZ ks.fA m with
  | none=>exact⟨h,rfl,rfl⟩
  | some ob =>
   simp only[bG];have hoo:=CU h.ob hl;rw[Uq h,cf];generalize hf:(fun x:Nm=>if x=m then (J.1,(AV ks.fA J.1).length) else x)=f;have hmp:Bg ks.nt (Ei (Ac.fQ f) ks.fA):=h.ob.map fun x H=>Ac.iz f H;have oe:Bg ks.nt (jz (Ei (Ac.fQ f) ks.fA) m Fh):=hmp.jz m (o:=Fh) rfl;refine⟨⟨h.tm.map fun x H=>KV.iz f H,oe.put gI fun o ho=>?_,fun sp gR=>?_⟩,by trivial,?_⟩;{rcases bS.1 ho with ho | ho;{exact oe.hZ ho};{simp only[cc] at ho;subst ho;exact Ac.iz f hoo}};{obtain⟨q,hq,rfl⟩:=bA.1 gR;exact (h.kp q hq).map fun x H=>KV.iz f H}
   ·have jc:BW ks.nt (jz (Ei (Ac.fQ f) ks.fA) m Fh)=AM (ks.V.fA.map (·.map (Ob.fQ f))) m AH:=by rw[Mt hmp,OI h.ob fun o ho=>Ac.ko f ho];rfl
    rw[<-jc,Oq oe];unfold Ao.V;simp only
    rw[OY h.tm,JL,Pj (g:=AR f) rfl (UK f) fun sp gR=>OY (h.kp sp gR) f];have jy:=Ac.ko f hoo;simp only[cU,bP,cq,jy]
 {rw[eG hm,eG hm];exact⟨h,rfl,rfl⟩}
variable{R:Type}
theorem Zb {r:R} (h:ks.Ok) (hl:AZ ks.fA J=some (.cells ty cs)) {K:Ao->Option R} (hr:SD J ty cs i k ks K=some r):∃ k',K k'=some r/\k'.Ok/\k'.nt=ks.nt/\k'.V=KX J ty (Aw cs) i k ks.V:=by
 have gI:=Pd h.ob hl;have iZ:AP cs:=CU h.ob hl;unfold SD at hr;unfold KX;simp only[jO];cases hc:cs[i]? with
 | none=>rw[hc] at hr;exact⟨_,hr,h,rfl,rfl⟩
 | some x =>
  rw[hc] at hr;cases x with
  | gU =>
   obtain⟨a,b,c⟩:=WC h hl i k;exact⟨_,hr,a,b,c⟩
  | arr m _ _ _ =>
   obtain⟨a,b,c⟩:=Uv h J m gI;exact⟨_,hr,a,b,c⟩
  | iF m =>
   obtain⟨a,b,c⟩:=Uv h J m gI;exact⟨_,hr,a,b,c⟩
  | cv v =>
   have hv:As v=true:=CC.1 iZ _ (bJ hc);simp only[bG,KV.pv];unfold vk at hr;obtain⟨a,b,c⟩:=WC h hl i k;cases v<;>first | (simp[As] at hv;done) | exact⟨_,hr,a,b,c⟩ | (cases hr;done)
  | _=>exact⟨_,hr,h,rfl,rfl⟩
theorem rD {r:R} (h:ks.Ok) {x off:Nat} {K:Ao->Option R} (hr:TX x off k ks K=some r):∃ k',K k'=some r/\k'.Ok/\k'.nt=ks.nt/\k'.V=Mc x off k ks.V:=by
 have hT:ks.V.tmps.getD x .undef=(AN ks.tmps x).pv:=JK h.tm x;have v8:=h.tm.hZ x;unfold TX at hr;unfold Mc;rw[hT];cases hg:AN ks.tmps x with
 | ref J o =>
  rw[hg] at hr;simp only[KV.pv] at hr |-;rw[Ge h];cases hl:AZ ks.fA J with
  | none=>rw[hl] at hr;exact⟨_,hr,h,rfl,rfl⟩
  | some ob =>
   rw[hl] at hr;cases ob with
   | cells ty cs=>exact Zb h hl hr
   | whole ty v =>
    have hv:As v=true:=CU h.ob hl;have hvl:Az (EQ v)=true:=CG hv;simp only[bG,Ac.ob] at hr |-;unfold AJ at hr;cases hn:S3 v (o+off) with
    | false=>rw[hn] at hr;cases hr
    | true =>
     rw[hn] at hr;refine⟨_,hr,h,rfl,?_⟩;unfold S3 at hn;unfold KX;show ks.V=match (EQ v)[o+off]? with | some .fF=>_ | some (.arr m _ _ _)=>_ | _=>_
     have e:EQ v=v.cells:=rfl;rw[e] at hvl |-;cases hc:v.cells[o+off]? with
     | none=>rfl
     | some y =>
      rw[hc] at hn;have hy:=Hm hvl hc;cases y<;>first | (simp at hn;done) | (simp[As] at hy;done) | rfl
   | _=>exact⟨_,hr,h,rfl,rfl⟩
 | cv v =>
  rw[hg] at hr v8;have hv:As v=true:=v8;simp only[KV.pv];cases v<;>first | (simp[As] at hv;done) | exact⟨_,hr,h,rfl,rfl⟩
 | _=>rw[hg] at hr;exact⟨_,hr,h,rfl,rfl⟩
theorem wb {r:R} (h:ks.Ok) {t:Nat} {K:Ao->Option R} (hr:TY t k ks K=some r):∃ k',K k'=some r/\k'.Ok/\k'.nt=ks.nt/\k'.V=FL t k ks.V:=by
 have hT:ks.V.tmps.getD t .undef=(AN ks.tmps t).pv:=JK h.tm t;unfold TY at hr;unfold FL;by_cases hb:Ev<=t;{rw[eH hb] at hr |-;exact rD h hr};rw[eG hb] at hr |-;rw[hT];cases hg:AN ks.tmps t with
 | gU =>
  rw[hg] at hr;simp only[KV.pv];rw[WD h];by_cases hc:I9 ks t=true
  ·rw[eH hc] at hr;rw[eH hc];have ht:=WE hc;refine⟨_,hr,⟨h.tm.put ht trivial rfl,h.ob.put ht fun o ho=>?_,h.kp⟩,rfl,?_⟩;{simp only[cc] at ho;subst ho;rfl}
   ·unfold Ao.V;simp only
    rw[OZ,JL];rfl
  {rw[eG hc] at hr;rw[eG hc];exact⟨_,hr,h,rfl,rfl⟩}
 | cv v =>
  rw[hg] at hr;simp only at hr;unfold notNil at hr;simp only[KV.pv];cases v<;>first | exact⟨_,hr,h,rfl,rfl⟩ | cases hr
 | _=>rw[hg] at hr;exact⟨_,hr,h,rfl,rfl⟩
theorem rE {r:R}:∀ (l:List (Nat×Nat)) {ks:Ao} {K:Ao->Option R},ks.Ok->PT l ks K=some r->∃ k',K k'=some r/\k'.Ok/\k'.nt=ks.nt/\k'.V=l.foldl (fun V (p:Nat×Nat)=>FL p.1 p.2 V) ks.V:=by
 intro l;induction l with
 | nil=>intro ks K h hr;exact⟨ks,hr,h,rfl,rfl⟩
 | cons p l ih =>
  obtain⟨t,k⟩:=p;intro ks K h hr;simp only[PT] at hr;obtain⟨k1,hr,U,n1,s1⟩:=wb h hr;obtain⟨k2,hr,O,n2,s2⟩:=ih U hr;exact⟨k2,hr,O,n2.trans n1,by rw[s2,s1];rfl⟩
theorem ZM:∀ (l:fc) {ks:Ao},ks.Ok->(l.foldl (fun ks t=>IP t ks) ks).Ok/\(l.foldl (fun ks t=>IP t ks) ks).nt=ks.nt/\(l.foldl (fun ks t=>IP t ks) ks).V=l.foldl (fun V t=>Gg t V) ks.V:=by
 intro l;induction l with
 | nil=>intro ks h;exact⟨h,rfl,rfl⟩
 | cons t l ih =>
  intro ks h;simp only[cJ];obtain⟨a,b,c⟩:=aM h t;obtain⟨d,e,f⟩:=ih b;exact⟨d,e.trans c,by rw[f,a]⟩
theorem Y5 (V:St):FA (gi V) V=V:=by
 obtain⟨t,o,k⟩:=V;unfold FA;congr 1;apply cj;intro i;rw[bK,cM];cases hg:t[i]? with
 | none=>rfl
 | some v =>
  simp only[bG,bX,bC];split;{rename_i hc;rw[cy] at hc;unfold gi at hc;simp only[bA,cE] at hc;obtain⟨⟨u,j⟩,⟨hm,hu⟩,he⟩:=hc;rw[cd] at hm;simp only at he hm hu;subst he;rw[hg] at hm;cases hm;cases v<;>simp_all [B3]};{rfl}
theorem S8 {r:R} (h:ks.Ok) {K:Ao->Option R} (hr:N0 gp grow ks K=some r):∃ k',K k'=some r/\k'.Ok/\k'.nt=ks.nt/\k'.V=norm gp grow ks.V:=by
 unfold N0 at hr;obtain⟨a,b,c⟩:=ZM gp h;obtain⟨k',hr,U,n1,s1⟩:=rE grow a hr;obtain⟨d1,d2,d3⟩:=KL U (HP k');refine⟨_,hr,d2,d3.trans (n1.trans b),?_⟩;have e:k'.V=Ie gp grow ks.V:=by rw[s1,c];rfl
 unfold norm drop;rw[d1,<-e,Y5];exact R0 (fun d=>(RJ U d).symm) _
theorem SK:∀ {nt:Nat} (ps Z:Sp),Ik ps Z=true->Bo nt ps->Bo nt Z->∀ (A:fa) (i:Nat),Ct A i (F8 ps Z) ->
  (∀ j,(AN (Eh ps A i).1 j).pv=(AN Z j).pv)/\Bo nt (Eh ps A i).1/\(Eh ps A i).1.map (·.1)=ps.map (·.1)/\(Eh ps A i).2=i+(F8 ps Z).length
 | nt,[],[],_,_,_,A,i,_=>⟨fun _=>rfl,.nil nt,rfl,rfl⟩
 | _,[],_ :: _,h,_,_,_,_,_=>by simp[Ik] at h
 | _,_ :: _,[],h,_,_,_,_,_=>by simp[Ik] at h
 | nt,(j1,p) :: ps,(j2,x) :: Z,h,hp,H,A,i,hs=>by
  simp only[Ik,bz] at h;simp only[F8] at hs;have hj:=ch h.1;subst hj;obtain⟨a,b,c⟩:=Tz p x h.2.1 (H.ok (j1,x) (by simp)) A i hs.left;obtain⟨a',b',k',c'⟩:=SK ps Z h.2.2 hp.tail H.tail A (fill p A i).2 (by rw[c];exact hs.right);refine⟨?_,⟨?_,?_,?_,?_⟩,by simp[Eh,k'],?_⟩
  ·intro j;simp only[Eh,AN];cases Nat.beq j j1 with
   | true=>exact a
   | false=>exact a' j
  {simp only[Eh,bP];rw[k'];exact hp.mT};{intro q hq;simp only[Eh,bE] at hq;rcases hq with rfl | hq;{exact hp.lt (j1,p) (by simp)};{exact b'.lt q hq}};{intro q hq;simp only[Eh,bE] at hq;rcases hq with rfl | hq;{exact b};{exact b'.ok q hq}};{intro q hq;simp only[Eh,bE] at hq;rcases hq with rfl | hq;{exact X3 (hp.nu (j1,p) (by simp))};{exact b'.nu q hq}};{simp only[Eh,F8,ce];rw[c',c];omega}
theorem WP:∀ {nt:Nat} (ps Z:AO),Jo ps Z=true->Bg nt ps->Bg nt Z->∀ (A:fa) (i:Nat),Ct A i (KS ps Z) ->
  (∀ j,(AV (FD ps A i).1 j).map Ac.ob=(AV Z j).map Ac.ob)/\Bg nt (FD ps A i).1/\(FD ps A i).1.map (·.1)=ps.map (·.1)/\(FD ps A i).2=i+(KS ps Z).length
 | nt,[],[],_,_,_,A,i,_=>⟨fun _=>rfl,.nil nt,rfl,rfl⟩
 | _,[],_ :: _,h,_,_,_,_,_=>by simp[Jo] at h
 | _,_ :: _,[],h,_,_,_,_,_=>by simp[Jo] at h
 | nt,(j1,p) :: ps,(j2,x) :: Z,h,hp,H,A,i,hs=>by
  simp only[Jo,bz] at h;simp only[KS] at hs;have hj:=ch h.1;subst hj;obtain⟨a,b,c⟩:=Se p x h.2.1 (H.ok (j1,x) (by simp)) A i hs.left;obtain⟨a',b',k',c'⟩:=WP ps Z h.2.2 hp.tail H.tail A (Cc p A i).2 (by rw[c];exact hs.right);refine⟨?_,⟨?_,?_,?_⟩,by simp[FD,k'],?_⟩
  ·intro j;simp only[FD,AV];cases Nat.beq j j1 with
   | true=>exact a
   | false=>exact a' j
  {simp only[FD,bP];rw[k'];exact hp.mT};{intro q hq;simp only[FD,bE] at hq;rcases hq with rfl | hq;{exact hp.lt (j1,p) (by simp)};{exact b'.lt q hq}};{intro q hq;simp only[FD,bE] at hq;rcases hq with rfl | hq;{exact b};{exact b'.ok q hq}};{simp only[FD,KS,ce];rw[c',c];omega}
theorem WQ:∀ {nt:Nat} (ps Z:fy),Jp ps Z=true->(∀ p∈ps,Bo nt p)->(∀ x∈Z,Bo nt x)->∀ (A:fa) (i:Nat),Ct A i (Pa ps Z) ->
  (Kb ps A i).1.flatMap (Bc nt)=Z.flatMap (Bc nt)/\(∀ p∈(Kb ps A i).1,Bo nt p)
 | nt,[],[],_,_,_,A,i,_=>⟨rfl,by simp[Kb]⟩
 | _,[],_ :: _,h,_,_,_,_,_=>by simp[Jp] at h
 | _,_ :: _,[],h,_,_,_,_,_=>by simp[Jp] at h
 | nt,p :: ps,x :: Z,h,hp,H,A,i,hs=>by
  simp only[Jp,bz] at h;simp only[Pa] at hs;obtain⟨a,b,_,c⟩:=SK p x h.1 (hp p (by simp)) (H x (by simp)) A i hs.left;obtain⟨a',b'⟩:=WQ ps Z h.2 (fun q hq=>hp q (by simp[hq])) (fun q hq=>H q (by simp[hq])) A (Eh p A i).2 (by rw[c];exact hs.right);refine⟨?_,?_⟩;{simp only[Kb,cQ,a'];congr 1;unfold Bc;exact b9 fun j _=>a j};{intro q hq;simp only[Kb,bE] at hq;rcases hq with rfl | hq;{exact b};{exact b' q hq}}
theorem SQ {β:Type}:∀ {l:List Bool} {a:Option β} {r:β},chks l a=some r->l.all id=true/\a=some r
 | [],_,_,h=>⟨rfl,h⟩
 | b :: l,a,r,h=>by
  obtain⟨U,O⟩:=A8 h;obtain⟨h3,h4⟩:=SQ O;exact⟨by simp[U,h3],h4⟩
mutual
theorem Tb:∀ {p x:KV},Dt p x=true->(G1 p x).all id=true->A4 p x=true
 | .un,x,h,_=>by simpa[Dt,A4] using h
 | .sk,x,h,_=>by simpa[Dt,A4] using h
 | .fT _,x,h,_=>by simpa[Dt,A4] using h
 | .ref _ _,x,h,_=>by simpa[Dt,A4] using h
 | .fO _ _ _ _,x,h,_=>by simpa[Dt,A4] using h
 | .mp _,x,h,_=>by simpa[Dt,A4] using h
 | .it _,x,h,_=>by simpa[Dt,A4] using h
 | .iF _,x,h,_=>by simpa[Dt,A4] using h
 | .lit _,x,h,_=>by simpa[Dt,A4] using h
 | .gU,x,h,_=>by simpa[Dt,A4] using h
 | .cv _,x,h,_=>by simpa[Dt,A4] using h
 | .arr J k o n,x,h,ho=>by
  cases x<;>simp only[Dt,bL] at h;simp only[G1,dA,List.all_nil,Bool.and_true,id,vl] at ho;simp only[A4,h,ho,ci]
 | .fn f cap,x,h,ho=>by
  cases x<;>simp only[Dt,bL,bz] at h;simp only[A4,h.1,MX h.2 ho,ci]
 | .fM Z,x,h,ho=>by
  cases x<;>simp only[Dt,bL] at h;exact MX h ho
 | .agg cs,x,h,ho=>by
  unfold Dt at h;unfold A4;split;{rename_i hc;rw[eH hc] at h;exact h};{rename_i hc;rw[eG hc] at h;cases x<;>simp only[bL] at h;exact MX h ho}
 | .iface t y,x,h,ho=>by
  unfold Dt at h;unfold A4;split;{rename_i hc;rw[eH hc] at h;exact h};{rename_i hc;rw[eG hc] at h;cases x<;>simp only[bL,bz] at h;simp only[h.1,Tb h.2 ho,ci]}
theorem MX:∀ {p x:ff},Il p x=true->(Id p x).all id=true->CQ p x=true
 | [],x,h,_=>by cases x<;>simpa[Il,CQ] using h
 | p :: ps,[],h,_=>by simp[Il] at h
 | p :: ps,x :: Z,h,ho=>by
  simp only[Il,bz] at h;simp only[Id,cA,bz] at ho;simp only[CQ,Tb h.1 ho.1,MX h.2 ho.2,ci]
end
mutual
theorem R9:∀ (x:KV),(G1 x x).all id=true
 | .un | .sk | .fT _ | .ref _ _ | .fO _ _ _ _ | .mp _ | .it _ | .iF _ | .lit _ | .gU | .cv _=>rfl
 | .arr J k o n=>by simp[G1,vl]
 | .fn f cap=>by simp only[G1];exact My cap
 | .fM Z=>by simp only[G1];exact My Z
 | .agg cs=>by simp only[G1];exact My cs
 | .iface t y=>by simp only[G1];exact R9 y
theorem My:∀ (x:ff),(Id x x).all id=true
 | []=>rfl
 | x :: Z=>by simp only[Id,cA,R9 x,My Z,ci]
end
theorem rF {p x:Ac} (h:T8 p x=true) (ho:(TO p x).all id=true):CA p x=true:=by
 cases p with
 | cells ty cs =>
  cases x<;>simp only[T8,bL,bz] at h;simp only[CA,h.1,MX h.2 ho,ci]
 | whole ty v=>exact h
 | arr k t Z=>exact h
 | map es=>exact h
 | fW s p=>exact h
theorem ZE (x:Ac):(TO x x).all id=true:=by cases x<;>first | exact My _ | rfl
theorem VH:∀ {p x:fi},K9 p x=true->(K2 p x).all id=true->DC p x=true
 | [],[],_,_=>rfl
 | [],_ :: _,h,_=>by simp[K9] at h
 | _ :: _,[],h,_=>by simp[K9] at h
 | p :: ps,x :: Z,h,ho=>by
  simp only[K9,bz] at h;simp only[K2,cA,bz] at ho;simp only[DC,rF h.1 ho.1,VH h.2 ho.2,ci]
theorem Ur:∀ (x:fi),(K2 x x).all id=true
 | []=>rfl
 | x :: Z=>by simp only[K2,cA,ZE x,Ur Z,ci]
theorem SJ:∀ {p x:Sp},Ka p x=true->(J3 p x).all id=true->Ik p x=true
 | [],[],_,_=>rfl
 | [],_ :: _,h,_=>by simp[Ka] at h
 | _ :: _,[],h,_=>by simp[Ka] at h
 |(i,p) :: ps,(j,x) :: Z,h,ho=>by
  simp only[Ka,bz] at h;simp only[J3,cA,bz] at ho;simp only[Ik,h.1,Tb h.2.1 ho.1,SJ h.2.2 ho.2,ci]
theorem RT:∀ (x:Sp),(J3 x x).all id=true
 | []=>rfl
 |(_,x) :: Z=>by simp only[J3,cA,R9 x,RT Z,ci]
theorem WK:∀ {p x:AO},LG p x=true->(Ln p x).all id=true->Jo p x=true
 | [],[],_,_=>rfl
 | [],_ :: _,h,_=>by simp[LG] at h
 | _ :: _,[],h,_=>by simp[LG] at h
 |(i,p) :: ps,(j,x) :: Z,h,ho=>by
  simp only[LG,bz] at h;simp only[Ln,cA,bz] at ho;simp only[Jo,h.1,VH h.2.1 ho.1,WK h.2.2 ho.2,ci]
theorem UL:∀ (x:AO),(Ln x x).all id=true
 | []=>rfl
 |(_,x) :: Z=>by simp only[Ln,cA,Ur x,UL Z,ci]
theorem WL:∀ {p x:fy},LH p x=true->(Lo p x).all id=true->Jp p x=true
 | [],[],_,_=>rfl
 | [],_ :: _,h,_=>by simp[LH] at h
 | _ :: _,[],h,_=>by simp[LH] at h
 | p :: ps,x :: Z,h,ho=>by
  simp only[LH,bz] at h;simp only[Lo,cA,bz] at ho;simp only[Jp,SJ h.1 ho.1,WL h.2 ho.2,ci]
theorem UM:∀ (x:fy),(Lo x x).all id=true
 | []=>rfl
 | x :: Z=>by simp only[Lo,cA,RT x,UM Z,ci]
theorem SI (h:J9 p x=true) (ho:(Nv p x).all id=true):Md p x=true:=by unfold J9 at h;unfold Nv at ho;simp only[bz] at h;simp only[cA,bz] at ho;unfold Md;simp only[h.1,SJ h.2.1 ho.1,WK h.2.2.1 ho.2.1,WL h.2.2.2 ho.2.2,ci]
theorem US (h:J9 x x=true):Md x x=true :=
 SI h (by unfold Nv;simp only[cA,RT,UL,UM,ci])
theorem OV (h:Md p x=true) (hp:p.Ok) (H:x.Ok):(BV p (D9 p x)).V=x.V/\(BV p (D9 p x)).Ok/\(BV p (D9 p x)).nt=p.nt/\p.nt=x.nt:=by
 unfold Md at h;simp only[bz] at h;obtain⟨h0,U,O,h3⟩:=h;have lD:=ch h0;have hs:=Ct.all (D9 p x);unfold D9 at hs;have mG:Bo p.nt x.tmps:=lD ▸ H.tm;have hx2:Bg p.nt x.fA:=lD ▸ H.ob;have hx3:∀ sp∈x.fD,Bo p.nt sp:=lD ▸ H.kp;obtain⟨a1,b1,_,c1⟩:=SK p.tmps x.tmps U hp.tm mG _ 0 hs.left.left;have jV:=hs.left.right;obtain⟨a2,b2,_,c2⟩:=WP p.fA x.fA O hp.ob hx2 (D9 p x) (Eh p.tmps (D9 p x) 0).2 (by unfold D9;rw[c1];exact jV);have uo:=hs.right
 obtain⟨a3,b3⟩:=WQ p.fD x.fD h3 hp.kp hx3 (D9 p x) (FD p.fA (D9 p x) (Eh p.tmps (D9 p x) 0).2).2 (by
  unfold D9 at c2 |-;rw[c2,c1];simp only[ce] at uo;rw[bX] at uo |-;exact uo)
 refine⟨?_,⟨b1,b2,b3⟩,rfl,lD⟩;unfold Ao.V BV;simp only
 rw[<-lD,a3];congr 1;{unfold Bc;exact b9 fun j _=>a1 j};{unfold BW;exact b9 fun j _=>a2 j}
end Go.Ab

