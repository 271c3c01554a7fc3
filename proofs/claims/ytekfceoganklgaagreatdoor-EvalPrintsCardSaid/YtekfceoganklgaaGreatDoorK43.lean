/- Part 43 of a proof: laws of a machine. -/
import Derived.Test.YtekfceoganklgaaGreatDoorK07
import Derived.Test.YtekfceoganklgaaGreatDoorK08
import Derived.Test.YtekfceoganklgaaGreatDoorK42
set_option linter.all false

namespace Go.Ab.mm
open Go Go.Ab
variable{n:Int} {v:PV}
def arrD:BW:=.struct [.bool,.bool,.slice (.int .i64)]
def J4:BW:=.struct [.int .i64,.bool,arrD]
theorem wf_in (h:(Lit.int .i64 n).wf=true):CK n:=by unfold Lit.wf at h;rw[ie,lw,lw] at h;exact h
theorem bo:∀ (Z:lS),(∀ x∈Z,Ie (.int .i64) x)->∃ l,Z=Gy l/\∀ n∈l,CK n
 | [],_=>⟨[],rfl,by simp⟩
 | x :: Z,h=>by
  obtain⟨n,rfl,hn⟩:=h x iw;obtain⟨l,rfl,hl⟩:=bo Z fun y hy=>h y (iA _ hy)
  exact⟨n :: l,rfl,fun m hm=>by
   rcases im.1 hm with rfl | hm;·exact wf_in hn
   ·exact hl m hm⟩
def A9.inr (r:A9):Prop:=CK r.e/\∀ n∈r.a.n,CK n
theorem res_in (h:Ie J4 v):∃ r,IsR v r/\r.inr:=by
 obtain⟨A,rfl,e,r,rfl,⟨e,rfl,he⟩,f,r,rfl,⟨f,rfl⟩,a,r,rfl,⟨A,rfl,b,r,rfl,⟨b,rfl⟩,c,r,rfl,⟨c,rfl⟩,x,r,rfl,O,rfl⟩,rfl⟩:=h
 have key:∃ l,BL x l/\x.cells=[x]/\∀ n∈l,CK n:=by
  rcases O with rfl | ⟨Z,rfl,_,O⟩;{exact⟨[],.nil,rfl,by simp⟩}
  {obtain⟨l,rfl,hl⟩:=bo Z O;exact⟨l,.sl l false,rfl,hl⟩}
 obtain⟨l,U,H,h3⟩:=key;refine⟨⟨e,f,⟨b,c,l⟩⟩,?_,wf_in he,h3⟩;have h4:mr [PV.int .i64 e,PV.bool f,PV.agg (mr [PV.bool b,PV.bool c,x])]=[I e,.bool f,.bool b,.bool c,x]:=by rw[show mr [PV.bool b,PV.bool c,x]=[.bool b,.bool c,x] by simp only[mr,H];rfl];rfl
 rw[h4];exact .mk ⟨e,f,⟨b,c,l⟩⟩ x U
theorem zfO:∀ (Z:lS),(∀ x∈Z,Ie J4 x)->∃ l,E9 Z l/\l.length=Z.length/\∀ r∈l,A9.inr r
 | [],_=>⟨[],.nil,rfl,by simp⟩
 | x :: Z,h=>by
  obtain⟨r,hr,ir⟩:=res_in (h x iw);obtain⟨l,hl,U,H⟩:=zfO Z fun y hy=>h y (iA _ hy)
  exact⟨r :: l,.cons hr hl,by simp[U],fun m hm=>by
   rcases im.1 hm with rfl | hm;·exact ir
   ·exact H m hm⟩
theorem be (h:Ie (.slice J4) v):∃ l,D8 v l/\l.length<=9223372036854775807/\∀ r∈l,A9.inr r:=by
 rcases h with rfl | ⟨Z,rfl,hn,O⟩;{exact⟨[],.nil,jP _,by simp⟩}
 {obtain⟨l,U,H,h3⟩:=zfO Z O;exact⟨l,.sl false U,H ▸ hn,h3⟩}
theorem yk:AJ B0 .cl (.fn 4 []) []=some (.bool true):=by obtain⟨n,h⟩:=zfN;exact xr (by decide) h rfl rfl
theorem dT:Told fn3 [.slice J4,.slice J4]:=by rintro us ⟨_,_,rfl,ha,_,_,rfl,hb,rfl⟩;obtain⟨l,U,H,h3⟩:=be ha;obtain⟨m,g1,g2,g3⟩:=be hb;exact⟨by simp[AB,U.ok,g1.ok],ig rfl,fT yk U g1 H g2 h3 g3⟩
end Go.Ab.mm

