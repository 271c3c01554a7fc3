/- Part 1 of a proof: laws of a machine. -/
import GoSem.Step
import Derived.Laws.Sem
import Derived.RangeFuncLeaves
import Derived.RangeFuncSeq
import Derived.RangeFuncCalls
import Derived.Laws.Append
import Derived.OwnWalkIn
import Derived.Laws.MakeOwn
import Derived.Carry
import Derived.Laws.Strings
import Derived.Laws.Strings2
import Derived.Laws.Concat
import Derived.Laws.AppendOwn
set_option linter.all false

def iG:=@if_false
def iH:=@if_true
def iI:=@if_neg
def iJ:=@if_pos
def iK:=@decide_eq_true_eq
def iL:=@beq_iff_eq
def iM:=@decide_true
def iN:=@decide_false
def iP:=@congrArg
def iQ:=@not_true_eq_false
def iR:=@decide_eq_true
def iS:=@decide_eq_true_iff
def iT:=@decide_eq_false
def iU:=@beq_self_eq_true
def iV:=@not_false_eq_true
def iW:=@absurd
def iX:=@ne_eq
def iY:=@of_decide_eq_true
def iZ:=@decide_eq_false_iff_not
def i6:=@beq_eq_false_iff_ne
abbrev i7:=Go.World
abbrev i8:=Go.Value
abbrev ja:=Go.FuncId
abbrev jb:=Go.Operand
abbrev jc:=Go.IntKind
abbrev jd:=Go.Program
abbrev je:=Go.TypeId
abbrev jf:=Go.Deferred
abbrev jg:=Go.TypeDesc
abbrev ji:=List UInt8
abbrev jj:=Option Nat
abbrev jm:=List Nat
abbrev jo:=List Int
def dE:=@Bool.false_eq_true
def dF:=@Bool.and_eq_true
def dG:=@Option.map_eq_some_iff
def dH:=@Nat.le_refl
def dI:=@List.map_cons
def dJ:=@List.mem_map
def dK:=@Bool.not_true
def dL:=@Option.some.injEq
def dM:=@List.mem_cons
def dN:=@Int.toNat_natCast
def dO:=@List.getD_eq_getElem?_getD
def dP:=@List.getElem?_cons_zero
def dQ:=@List.getElem?_eq_getElem
def dR:=@List.getElem?_cons_succ
def dS:=@Nat.le_of_ble_eq_true
def dT:=@List.getElem?_map
def dU:=@List.getElem?_eq_some_iff
def dV:=@List.take_of_length_le
def dW:=@List.map_nil
def dX:=@List.mem_append
def dY:=@List.length_map
def dZ:=@List.mem_cons_of_mem
def d6:=@List.all_eq_true
def d7:=@List.mem_cons_self
def d8:=@Bool.not_false
def d9:=@List.mem_of_getElem?
def ec:=@List.mem_append_left
def ed:=@Option.map_some
def eg:=@Nat.add_mul
def eh:=@List.mem_append_right
def eo:=@List.map_map
def ep:=@List.mem_singleton
def eu:=@Nat.zero_add
def ew:=@List.getElem?_eq_none
def ez:=@Bool.true_and
def eA:=@List.length_append
def eB:=@List.getElem?_set_ne
def eC:=@Prod.mk.injEq
def eD:=@List.map_congr_left
def eE:=@List.mem_of_mem_take
def eF:=@Bool.and_self
def eG:=@Nat.min_eq_left
def eH:=@Ne.symm
def eI:=@List.getElem?_eq_none_iff
def eJ:=@List.drop_zero
def eK:=@Eq.trans
def eL:=@List.append_assoc
def eM:=@List.nil_append
def eN:=@Option.getD_some
def eO:=@List.ext_getElem?
def eP:=@List.drop_eq_nil_of_le
def eQ:=@Bool.false_or
def eS:=@List.length_cons
def eT:=@Nat.mul_le_mul_right
def eU:=@List.take_take
def eV:=@List.length_take
def eW:=@List.getElem_mem
def eX:=@List.drop_eq_getElem_cons
def eY:=@Option.bind_eq_some_iff
def eZ:=@List.isEmpty_iff
def e8:=@List.mem_of_mem_drop
def e9:=@List.all_cons
def fc:=@List.pairwise_cons
def fe:=@Bool.eq_iff_iff
def ff:=@Nat.blt_eq
def fg:=@List.flatMap_cons
def fh:=@Classical.byContradiction
def fi:=@Bool.false_and
def fj:=@Nat.le_trans
def fk:=@List.map_append
def fm:=@Nat.lt_of_lt_of_le
def fp:=@Nat.zero_le
def fq:=@List.mapM_cons
def ft:=@List.append_nil
def fu:=@List.getElem?_append_left
def fw:=@List.contains_iff_mem
def fy:=@Option.some.inj
def fz:=@List.mem_zipIdx_iff_getElem?
def fA:=@List.getElem?_range
def fC:=@List.all_append
def fD:=@List.drop_take
def fE:=@Array.toArray_toList
def fF:=@List.length_nil
def fG:=@List.getElem?_zipIdx
def fH:=@List.mem_flatMap
def fI:=@List.mem_range
def fJ:=@Bool.true_or
def fK:=@List.length_eq_zero_iff
def fL:=@Array.length_toList
def fM:=@List.take_length
def fN:=@List.getElem?_append_right
def fO:=@Bool.not_eq_true'
def fP:=@Bool.or_eq_false_iff
def fQ:=@Nat.eq_of_beq_eq_true
def fR:=@Nat.one_mul
def fS:=@List.getElem?_set_self
def fT:=@List.foldl_cons
def fU:=@List.map_set
def fV:=@Option.map_none
def fW:=@List.cons_append
def fX:=@List.mem_filter
def fY:=@List.drop_drop
def fZ:=@Option.isSome_iff_exists
def f8:=@List.isEmpty_nil
def f9:=@Bool.and_true
def gf:=@Bool.true_eq_false
def gg:=@List.drop_length
def gh:=@Nat.add_sub_cancel_left
def gi:=@Array.getElem?_toList
def gj:=@List.getElem?_take_of_lt
def gk:=@List.take_append_of_le_length
def gn:=@Nat.mod_lt
def gp:=@Bool.and_eq_true_iff
def gq:=@Bool.or_eq_true
def gr:=@List.getElem?_set
def gv:=@List.getElem_map
def gw:=@Option.bind_eq_bind
def gx:=@List.getElem?_drop
def gy:=@List.mem_or_eq_of_mem_set
def gz:=@List.length_set
def gA:=@Nat.add_assoc
def gB:=@List.nodup_cons
def gE:=@Int.lt_irrefl
def gF:=@Option.pure_def
def gG:=@Option.map_map
def gH:=@List.size_toArray
def gJ:=@Array.getElem?_eq_some_iff
def gK:=@Option.bind_some
def gL:=@Nat.eq_zero_or_pos
def gM:=@Bool.and_false
def gP:=@Nat.mod_eq_of_lt
def gQ:=@List.drop_of_length_le
def gS:=@List.take_zero
def gV:=@List.set_comm
def gW:=@List.mem_filterMap
def gX:=@List.lookup_cons
def gY:=@Bool.not_eq_true
def gZ:=@List.set_eq_of_length_le
def g9:=@Bool.or_false
def hH:=@List.take_succ_cons
def hJ:=@List.take_append
def hO:=@List.zipIdx_cons
def hT:=@Array.toList_map
def hZ:=@List.eq_of_mem_replicate
def ic:=@Option.isSome_none
def ie:=@Array.size_append
def ig:=@Nat.add_sub_cancel'
def ii:=@Nat.min_eq_right
def ij:=@List.getElem_range
def ik:=@List.flatMap_def
def il:=@Option.isNone_iff_eq_none
def im:=@List.flatMap_nil
def ip:=@List.mem_reverse
def iq:=@Array.getElem?_eq_none
def ir:=@List.getElem_of_mem
def iu:=@List.contains_cons
def iw:=@List.flatMap_map
def ix:=@List.length_range
def iy:=@Int.tmod_lt_of_pos
def iz:=@List.any_eq_true
def iA:=@List.drop_append_of_le_length
def iC:=@Array.mapM_eq_mapM_toList
def iE:=@Array.toList_setIfInBounds
def iF:=@List.getElem?_replicate
namespace Go.Ab
variable{E α:Type} {e1:E}
abbrev Nm:=Nat×Nat
abbrev jl:=List Nm
inductive W where
 | undef
 | bool (b:Bool)
 | int (k:jc) (n:Int)
 | str (s:ji)
 | jD | kB | jV | jK | kL
 | sl (k:Nat) (H:List W) (full:Bool)
 | ptr (cs:List W) (o:Nat)
 | agg (cs:List W)
 | iface (t:je) (x:W)
 | fn (f:ja) (cap:List W)
 | ke (d:Nat)
 | jE (H:List W)
 | ki (es:List W)
 | j8 (g:Nat) (t:je)
 | ref (V:Nm) (o:Nat)
 | jQ (V:Nm) (k i o:Nat)
 | arr (V:Nm) (k o n:Nat)
 | mp (V:Nm)
 | it (V:Nm)
 deriving Inhabited
abbrev jx:=Option W
abbrev jh:=List W
def W.cells:W->jh
 | .agg cs=>cs
 | v=>[v]
def W.isVal:W->Bool
 | .undef=>false
 | .jE _=>false
 | _=>true
def W.jZ:W->Bool
 | .undef=>false
 | .jE _=>false
 | .agg _=>false
 | _=>true
def jM:jh->jh
 | []=>[]
 | x :: H=>x.cells++jM H
inductive Ob where
 | cells (ty:Nat) (cs:jh)
 | arr (k ty:Nat) (H:jh)
 | map (es:jh)
 | jT (s:ji) (pos:Nat)
 deriving Inhabited
abbrev jp:=List Ob
abbrev jk:=Option Ob
mutual
def W.names:W->jl
 | .agg cs=>AU cs
 | .iface _ x=>x.names
 | .fn _ cap=>AU cap
 | .jE H=>AU H
 | .ref V _=>[V]
 | .jQ V _ _ _=>[V]
 | .arr V _ _ _=>[V]
 | .mp V=>[V]
 | .it V=>[V]
 | .undef | .bool _ | .int _ _ | .str _ | .jD | .kB | .jV | .jK | .kL | .sl _ _ _ | .ptr _ _ | .ke _ | .ki _ | .j8 _ _=>[]
def AU:jh->jl
 | []=>[]
 | x :: H=>x.names++AU H
end
mutual
def W.kf:W->Bool
 | .agg cs=>BV cs
 | .iface _ x=>x.kf
 | .fn _ cap=>BV cap
 | .jE H=>BV H
 | .sl _ H _=>BV H
 | .ptr cs _=>BV cs
 | .ki es=>BV es
 | .ke _=>true
 | .undef | .bool _ | .int _ _ | .str _ | .jD | .kB | .jV | .jK | .kL | .ref _ _ | .jQ _ _ _ _ | .arr _ _ _ _ | .mp _ | .it _ | .j8 _ _=>false
def BV:jh->Bool
 | []=>false
 | x :: H=>x.kf||BV H
end
mutual
def W.free:W->Bool
 | .agg cs=>F7 cs
 | .iface _ x=>x.free
 | .fn _ cap=>F7 cap
 | .jE H=>F7 H
 | .sl _ _ _=>false
 | .ptr _ _=>false
 | .ki _=>false
 | .j8 _ _=>false
 | .undef | .bool _ | .int _ _ | .str _ | .jD | .kB | .jV | .jK | .kL | .ke _ | .ref _ _ | .jQ _ _ _ _ | .arr _ _ _ _ | .mp _ | .it _=>true
def F7:jh->Bool
 | []=>true
 | x :: H=>x.free&&F7 H
end
def Ob.free:Ob->Bool
 | .cells _ cs=>F7 cs
 | .arr _ _ H=>F7 H
 | .map es=>F7 es
 | .jT _ _=>true
mutual
def W.sub (f:Nm->Option jk):W->W
 | .agg cs=>.agg (Bf f cs)
 | .iface t x=>.iface t (x.sub f)
 | .fn g cap=>.fn g (Bf f cap)
 | .jE H=>.jE (Bf f H)
 | .ref V o=>match f V with
  | none=>.ref V o
  | some (some (.cells _ cs))=>if o < cs.length then .ptr cs o else .undef
  | some _=>.undef
 | .jQ V k i o=>match f V with
  | none=>.jQ V k i o
  | some (some (.arr k' kt H))=>if k=k' then (match H[i]? with | some x=>if o < x.cells.length then .ptr x.cells o else .undef | none=>.undef) else .undef
  | some _=>.undef
 | .arr V k o n=>match f V with
  | none=>.arr V k o n
  | some (some (.arr k' kt H))=>if k=k'/\o+n<=H.length then .sl k ((H.drop o).take n) false else .undef
  | some _=>.undef
 | .mp V=>match f V with
  | none=>.mp V
  | some (some (.map es))=>.ki es
  | some _=>.undef
 | .it V=>match f V with
  | none=>.it V
  | some _=>.undef
 | .undef=>.undef | .bool b=>.bool b | .int k n=>.int k n | .str s=>.str s
 | .jD=>.jD | .kB=>.kB | .jV=>.jV | .jK=>.jK | .kL=>.kL
 | .sl k H b=>.sl k H b | .ptr cs o=>.ptr cs o | .ke d=>.ke d | .ki es=>.ki es | .j8 g t=>.j8 g t
def Bf (f:Nm->Option jk):jh->jh
 | []=>[]
 | x :: H=>x.sub f :: Bf f H
end
def Ob.sub (f:Nm->Option jk):Ob->Ob
 | .cells ty cs=>.cells ty (Bf f cs)
 | o=>o
mutual
def W.jR (f:Nm->Nm):W->W
 | .agg cs=>.agg (BE f cs)
 | .iface t x=>.iface t (x.jR f)
 | .fn g cap=>.fn g (BE f cap)
 | .jE H=>.jE (BE f H)
 | .ref V o=>.ref (f V) o
 | .jQ V k i o=>.jQ (f V) k i o
 | .arr V k o n=>.arr (f V) k o n
 | .mp V=>.mp (f V)
 | .it V=>.it (f V)
 | .undef=>.undef | .bool b=>.bool b | .int k n=>.int k n | .str s=>.str s
 | .jD=>.jD | .kB=>.kB | .jV=>.jV | .jK=>.jK | .kL=>.kL
 | .sl k H b=>.sl k H b | .ptr cs o=>.ptr cs o | .ke d=>.ke d | .ki es=>.ki es | .j8 g t=>.j8 g t
def BE (f:Nm->Nm):jh->jh
 | []=>[]
 | x :: H=>x.jR f :: BE f H
end
def Ob.jR (f:Nm->Nm):Ob->Ob
 | .cells ty cs=>.cells ty (BE f cs)
 | o=>o
def Ob.names:Ob->jl
 | .cells _ cs=>AU cs
 | _=>[]
def Je (σ:Nm->jk):Nat->Ob->Ob
 | 0,o=>o.sub fun _=>some none
 | d+1,o=>o.sub fun V=>some ((σ V).map (Je σ d))
def Bn (σ:Nm->jk):Nat->jl->jl
 | 0,l=>l
 | d+1,l=>l++Bn σ d (l.flatMap fun V=>((σ V).map Ob.names).getD [])
def A7:Nat:=3
def D9 (σ:Nm->jk) (R:jl):Bool:=R.all fun V=>(((σ V).map Ob.names).getD []).all fun m=>R.contains m
def BX (σ:Nm->jk) (V:Nm):Option jk:=some ((σ V).map (Je σ A7))
inductive RX where
 | t (i:Nat)
 | c (v:W)
 deriving Inhabited
abbrev jB:=Option RX
abbrev jz:=List RX
inductive TC where
 | num | str | bool | iface | slice | map | func | ptr | other
 | plain (l:jm)
 deriving DecidableEq,Inhabited
inductive AG where
 | mov (x:RX)
 | pick (c a b:RX)
 | box (x:RX)
 | alloc (ty:Nat) (z:jh)
 | build (z:jh) (ps:List (Nat×Nat×RX))
 | nO (k:Nat) (ps:jz)
 | load (n:Nat) (ag:Bool) (x:RX)
 | store (n:Nat) (x v:RX)
 | nilck (x:RX)
 | bin (op:BinOp) (c:TC) (nc:Bool) (x y:RX)
 | un (op:UnOp) (x:RX)
 | conv (k:jc) (x:RX)
 | k7 (x:RX)
 | ofBytes (x:RX)
 | lK (x:RX)
 | mq (x:RX)
 | mkI (t:je) (x:RX)
 | mkF (f:ja) (cap:jz)
 | mkMap
 | insert (c:TC) (x k v:RX)
 | lookup (c:TC) (z:W) (ok:Bool) (x k:RX)
 | r8 (k:Nat) (z:W) (len cap:RX)
 | slice (k:Nat) (x:RX) (lo hi mx:jB)
 | kq (x:RX) (lo hi:jB)
 | fieldAddr (off:Nat) (x:RX)
 | field (off n:Nat) (ag:Bool) (x:RX)
 | jJ (k:Nat) (x i:RX)
 | kM (k len:Nat) (x i:RX)
 | lL (x i:RX)
 | extract (j:Nat) (x:RX)
 | len (c:TC) (x:RX)
 | append (k ty:Nat) (s x:RX)
 | copy (k:Nat) (d s:RX)
 | j6 (mx:Bool) (H:jz)
 | call (f:RX) (args:jz)
 | iter (x:RX)
 | next (x:RX)
 | kJ (t:je) (z:W) (ok:Bool) (x:RX)
 | bad
 deriving Inhabited
structure A8 where
 dst:jj
 op:AG
 guard:Option (Nat×Bool)
 deriving Inhabited
abbrev jv:=List A8
inductive BJ where
 | skip
 | region (ops:jv) (draw:Option (List (Nat×Nat))) (live:Option jm)
 | seq (a b:BJ)
 | cond (c:RX) (thn els:BJ)
 | block (id:Nat) (body:BJ)
 | loop (kN:jm) (grow:List (Nat×Nat)) (body:BJ)
 | rangeFunc (f:RX) (ps:jm) (assign body:BJ)
 | exit (id:Nat)
 | scope (body:BJ)
 | ret
 | norm (grow:List (Nat×Nat))
 | o7 (ops:jv) (f:RX) (args:jz) (live:Option jm)
 | bad
 deriving Inhabited
def En:BJ->Bool
 | .o7 _ _ _ _=>false
 | .seq a b=>En a&&En b
 | .cond _ a b=>En a&&En b
 | .block _ b=>En b
 | .scope b=>En b
 | _=>true
inductive IW where
 | tmp (t:Nat)
 | cell (t n:Nat) (ag:Bool)
 deriving Inhabited
structure Au where
 nt:Nat
 code:BJ
 res:List IW
 io:Bool:=false
 shut:Bool:=false
 kr:Bool:=false
 gone:jm:=[]
 deriving Inhabited
abbrev jt:=Option Au
structure St where
 tmps:jh
 jC:List jp
 jG:jh
 deriving Inhabited
def Al (σ:List jp) (V:Nm):jk :=
 match σ[V.1]? with
 | some l=>l[V.2]?
 | none=>none
def RX.ev (tm:jh):RX->W
 | .t i=>tm.getD i .undef
 | .c v=>v
def CH (tm:jh):jB->jx
 | none=>none
 | some x=>some (x.ev tm)
def Bv (σ:List jp) (V:Nm) (o:Ob):List jp :=
 match σ[V.1]? with
 | some l=>σ.set V.1 (l.set V.2 o)
 | none=>σ
def BO:Ob:=.arr 0 0 []
structure AQ where
 v:W
 new:jp:=[]
 kA:Option (Nm×Ob):=none
 kill:Option Nm:=none
 kj:jl:=[]
 gone:jl:=[]
 l4:List (Nm×Ob):=[]
 io:Bool:=false
 slot:jj:=none
abbrev js:=Option AQ
def AN (b:Bool) (x:Option α):Option α:=if b then x else none
def Ci (cs:jh) (o n:Nat) (ag:Bool):jx :=
 if ag then AN (decide (o+n<=cs.length)) (some (.agg ((cs.drop o).take n))) else cs[o]?
def j0 (cs:jh) (o:Nat) (vs:jh):jh:=cs.take o++vs++cs.drop (o+vs.length)
def ET (tm:jh):jh->List (Nat×Nat×RX)->Option jh
 | z,[]=>some z
 | z,(off,n,x) :: ps =>
  AN ((x.ev tm).isVal&&decide ((x.ev tm).cells.length=n)&&decide (off+n<=z.length)) (ET tm (j0 z off (x.ev tm).cells) ps)
def Gl:Nat:=2147483648
def Ei (s:ji):jh:=s.map fun b=>.int .u8 b.toNat
def Pt:W->Option UInt8
 | .int .u8 n=>if 0<=n/\n < 256 then some (UInt8.ofNat n.toNat) else none
 | _=>none
def HE:jh->Option ji
 | []=>some []
 | x :: H=>match Pt x,HE H with
  | some b,some bs=>some (b :: bs)
  | _,_=>none
def elems (σ:Nm->jk) (k:Nat):W->Option jh
 | .sl k' H _=>AN (k==k') (some H)
 | .arr V k' o n=>match σ V with
  | some (.arr nx kt H)=>AN (k==k'&&k'==nx&&decide (o+n<=H.length)) (some ((H.drop o).take n))
  | _=>none
 | .jD=>some []
 | .str s=>AN (k==1) (some (Ei s))
 | _=>none
def RP:W->Bool
 | .str _=>true
 | _=>false
def JX:W->W->Option Bool
 | .int k a,.int k' b=>AN (k==k') (some (a==b))
 | .str a,.str b=>some (a==b)
 | .bool a,.bool b=>some (a==b)
 | _,_=>none
def Ed (k:W):jh->Option jx
 | a :: v :: es=>match JX k a with
  | some true=>some (some v)
  | some false=>Ed k es
  | none=>none
 | []=>some none
 | _=>none
def HU (k v:W):jh->Option jh
 | a :: u :: es=>match JX k a with
  | some true=>some (k :: v :: es)
  | some false=>(HU k v es).map fun l=>a :: u :: l
  | none=>none
 | []=>some [k,v]
 | _=>none
def HQ:TC->W->Bool
 | .num,.int _ _ | .str,.str _ | .bool,.bool _=>true
 | _,_=>false
def KJ:BinOp->Int->Int->Option Bool
 | .eql,x,y=>some (x==y)
 | .neq,x,y=>some (x != y)
 | .lss,x,y=>some (decide (x < y))
 | .leq,x,y=>some (decide (x<=y))
 | .gtr,x,y=>some (decide (x>y))
 | .geq,x,y=>some (decide (x≥y))
 | _,_,_=>none
def Ly:ji->ji->Bool
 | _,[]=>false
 | [],_ :: _=>true
 | a :: x,b :: y=>a < b||(a==b&&Ly x y)
def U6:Nat:=9223372036854775807
def Gx (op:BinOp) (k:jc) (x y:Int):jx :=
 match op with
 | .add=>some (.int k (k.wrap (x+y)))
 | .sub=>some (.int k (k.wrap (x - y)))
 | .mul=>some (.int k (k.wrap (x*y)))
 | .quo=>AN (y != 0) (some (.int k (k.wrap (x.tdiv y))))
 | .rem=>AN (y != 0) (some (.int k (x.tmod y)))
 | .and=>some (.int k (k.wrap (BitVec.ofInt k.bits x &&& BitVec.ofInt k.bits y).toNat))
 | .or=>some (.int k (k.wrap (BitVec.ofInt k.bits x ||| BitVec.ofInt k.bits y).toNat))
 | .xor=>some (.int k (k.wrap (BitVec.ofInt k.bits x ^^^ BitVec.ofInt k.bits y).toNat))
 | .andNot=>some (.int k (k.wrap (BitVec.ofInt k.bits x &&& ~~~ BitVec.ofInt k.bits y).toNat))
 | op=>(KJ op x y).map .bool
def L4 (op:BinOp) (x y:ji):jx :=
 match op with
 | .add=>AN (decide (x.length+y.length<=U6)) (some (.str (x++y)))
 | .eql=>some (.bool (x==y))
 | .neq=>some (.bool (!(x==y)))
 | .lss=>some (.bool (Ly x y))
 | .leq=>some (.bool (Ly x y||x==y))
 | .gtr=>some (.bool (!(Ly x y||x==y)))
 | .geq=>some (.bool (!(Ly x y)))
 | _=>none
def JI:jm->jh->jh->Option Bool
 | [],[],[]=>some true
 | 0 :: l,.int k a :: H,.int k' b :: ys=>AN (k==k') (match a==b with | true=>JI l H ys | false=>some false)
 | 1 :: l,.str a :: H,.str b :: ys=>match a==b with | true=>JI l H ys | false=>some false
 | 2 :: l,.bool a :: H,.bool b :: ys=>match a==b with | true=>JI l H ys | false=>some false
 | _,_,_=>none
def KY:TC->Bool->W->W->Option Bool
 | .iface,nc,.jK,.jK=>AN nc (some true)
 | .iface,_,.jK,.iface _ _ | .iface,_,.iface _ _,.jK | .iface,_,.jK,.j8 _ _ | .iface,_,.j8 _ _,.jK=>some false
 | .func,_,.jV,.jV=>some true
 | .func,_,.jV,.fn _ _ | .func,_,.fn _ _,.jV=>some false
 | .slice,_,.jD,.jD=>some true
 | .slice,_,.jD,.sl _ (_ :: _) _ | .slice,_,.sl _ (_ :: _) _,.jD=>some false
 | .ptr,_,.kB,.kB=>some true
 | .ptr,_,.kB,.ref _ _ | .ptr,_,.kB,.ptr _ _ | .ptr,_,.ref _ _,.kB | .ptr,_,.ptr _ _,.kB=>some false
 | .bool,_,.bool a,.bool b=>some (a==b)
 | .plain l,_,.agg H,.agg ys=>JI l H ys
 | _,_,_,_=>none
def EZ (op:BinOp) (c:TC) (nc:Bool) (x y:W):jx :=
 match x,y with
 | .int k a,.int k' b =>
  match op with
  | .shl=>AN (decide (0<=b)) (some (.int k (k.wrap (a*2 ^ (min b.toNat k.bits)))))
  | .shr=>AN (decide (0<=b)) (some (.int k (a.fdiv (2 ^ (min b.toNat k.bits)))))
  | op=>AN (k==k') (Gx op k a b)
 | .str a,.str b=>L4 op a b
 | x,y =>
  match op with
  | .eql=>(KY c nc x y).map .bool
  | .neq=>(KY c nc x y).map fun b=>.bool (!b)
  | _=>none
def DL:W->jj
 | .int _ n=>if 0<=n then some n.toNat else none
 | _=>none
def C9 (x:jx) (d top:Nat):jj :=
 match x with
 | none=>some d
 | some v=>match DL v with
  | some n=>AN (decide (n<=top)) (some n)
  | none=>none
def FV (k:Nat) (x:W) (lo hi mx:jx):jx :=
 match x with
 | .sl k' H full =>
  match C9 mx H.length H.length with
  | none=>none
  | some m=>match C9 hi H.length m with
   | none=>none
   | some h=>match C9 lo 0 h with
    | none=>none
    | some l=>AN (k==k'&&(mx.isNone||hi.isSome)) (some (.sl k ((H.take h).drop l) (if mx.isSome then m==h else full&&h==H.length)))
 | .arr V k' o n =>
  match C9 mx n n with
  | none=>none
  | some m=>match C9 hi n m with
   | none=>none
   | some h=>match C9 lo 0 h with
    | none=>none
    | some l=>AN (k==k'&&(mx.isNone||hi.isSome)) (some (if h=l/\0 < l then .sl k [] false else .arr V k (o+l) (h - l)))
 | .jD =>
  match C9 mx 0 0 with
  | none=>none
  | some m=>match C9 hi 0 m with
   | none=>none
   | some h=>match C9 lo 0 h with
    | none=>none
    | some _=>AN (mx.isNone||hi.isSome) (some .jD)
 | _=>none
def JW (σ:Nm->jk):TC->W->jj
 | .str,.str s=>some s.length
 | .slice,.sl _ H _=>some H.length
 | .slice,.arr _ _ _ n=>some n
 | .slice,.jD=>some 0
 | .map,.kL=>some 0
 | .map,.ki es=>some (es.length / 2)
 | .map,.mp V=>match σ V with
  | some (.map es)=>some (es.length / 2)
  | _=>none
 | _,_=>none
def Ic (mx:Bool) (k:jc):Int->jh->Option Int
 | a,[]=>some a
 | a,.int k' b :: rest=>AN (k==k') (Ic mx k (if mx then (if b>a then b else a) else (if b < a then b else a)) rest)
 | _,_=>none
def exec (dst:Nat) (σ:Nm->jk) (tm:jh) (op:AG):js :=
 match op with
 | .mov x=>some {v:=x.ev tm}
 | .pick c a b=>match c.ev tm with
  | .bool true=>some {v:=a.ev tm}
  | .bool false=>some {v:=b.ev tm}
  | _=>none
 | .box x=>AN (x.ev tm).isVal (some {v:=.ref (dst,0) 0,new:=[.cells 0 (x.ev tm).cells]})
 | .alloc ty z=>some {v:=.ref (dst,0) 0,new:=[.cells ty z]}
 | .build z ps=>match ET tm z ps with
  | some cs=>some {v:=.agg cs}
  | none=>none
 | .nO k ps =>
  let H:=ps.map (RX.ev tm)
  let S:=AU H
  if S.isEmpty then AN (H.all fun x=>x.isVal&&x.cells.length==k) (some {v:=.arr (dst,0) k 0 H.length,new:=[.arr k 0 H]})
  else
   let ys:=Bf (BX σ) H
   AN ((ys.all fun x=>x.isVal&&x.cells.length==k)&&D9 σ (Bn σ A7 S)) (some {v:=.arr (dst,0) k 0 ys.length,new:=[.arr k 0 ys],kj:=Bn σ A7 S})
 | .load n ag x=>match x.ev tm with
  | .ref V o=>match σ V with
   | some (.cells _ cs)=>(Ci cs o n ag).map fun v=>{v}
   | _=>none
  | .ptr cs o=>(Ci cs o n ag).map fun v=>{v}
  | .jQ V k i o=>match σ V with
   | some (.arr k' kt H)=>match H[i]? with
    | some e=>AN (k==k') ((Ci e.cells o n ag).map fun v=>{v})
    | none=>none
   | _=>none
  | _=>none
 | .store n x v =>
  let vs:=(v.ev tm).cells
  match x.ev tm with
  | .ref V o=>match σ V with
   | some (.cells ty cs)=>AN ((v.ev tm).isVal&&decide (vs.length=n)&&decide (o+n<=cs.length)) (some {v:=.undef,kA:=some (V,.cells ty (j0 cs o vs))})
   | _=>none
  | .jQ V k i o=>match σ V with
   | some (.arr k' kt H)=>match H[i]? with
    | some (.agg es)=>AN (k==k'&&(v.ev tm).isVal&&decide (vs.length=n)&&decide (o+n<=es.length)&&(AU vs).isEmpty)
      (some {v:=.undef,kA:=some (V,.arr k kt (H.set i (.agg (j0 es o vs))))})
    | some _=>AN (k==k'&&k==1&&o==0&&n==1&&(v.ev tm).jZ&&(v.ev tm).names.isEmpty)
      (some {v:=.undef,kA:=some (V,.arr k kt (H.set i (v.ev tm)))})
    | none=>none
   | _=>none
  | _=>none
 | .nilck x=>match x.ev tm with
  | .ref V o=>some {v:=.ref V o}
  | .ptr cs o=>some {v:=.ptr cs o}
  | .jQ V k i o=>some {v:=.jQ V k i o}
  | .fn f cap=>some {v:=.fn f cap}
  | .ke d=>some {v:=.ke d}
  | _=>none
 | .bin op c nc x y=>(EZ op c nc (x.ev tm) (y.ev tm)).map fun v=>{v}
 | .un op x=>match op,x.ev tm with
  | .not,.bool b=>some {v:=.bool (!b)}
  | .neg,.int k n=>some {v:=.int k (k.wrap (0 - n))}
  | _,_=>none
 | .conv k x=>match x.ev tm with
  | .int _ n=>some {v:=.int k (k.wrap n)}
  | _=>none
 | .k7 x=>match x.ev tm with
  | .str s=>AN (decide (s.length<=U6)) (some {v:=.sl 1 (Ei s) false})
  | _=>none
 | .ofBytes x=>match AN (!RP (x.ev tm)) (elems σ 1 (x.ev tm)) with
  | some H=>match HE H with
   | some s=>some {v:=.str s}
   | none=>none
  | none=>none
 | .lK x=>match x.ev tm with
  | .int _ n=>some {v:=.str (Utf8.encode n).data.toList}
  | _=>none
 | .mq x=>match x.ev tm with
  | .str s=>some {v:=.str s}
  | _=>none
 | .mkI t x=>some {v:=.iface t (x.ev tm)}
 | .mkF f cap=>some {v:=.fn f (cap.map (RX.ev tm))}
 | .mkMap=>some {v:=.mp (dst,0),new:=[.map []]}
 | .insert c x k v=>match x.ev tm with
  | .mp V=>match σ V with
   | some (.map es) =>
    let S:=(v.ev tm).names
    let R:=if S.isEmpty then [] else Bn σ A7 S
    let u:=if S.isEmpty then v.ev tm else (v.ev tm).sub (BX σ)
    match HU (k.ev tm) u es with
    | some nH=>AN (HQ c (k.ev tm)&&u.isVal&&(S.isEmpty||(D9 σ R&&!R.contains V))) (some {v:=.undef,kA:=some (V,.map nH),kj:=R})
    | none=>none
   | _=>none
  | _=>none
 | .lookup c z ok x k =>
  let es:Option jh:=match x.ev tm with
   | .mp V=>match σ V with
    | some (.map es)=>some es
    | _=>none
   | .ki es=>some es
   | .kL=>some []
   | _=>none
  match es with
  | none=>none
  | some es=>match Ed (k.ev tm) es with
   | none=>none
   | some r=>AN (HQ c (k.ev tm)) (some {v:=if ok then .jE [r.getD z,.bool r.isSome] else r.getD z})
 | .r8 k z len cap=>match DL (len.ev tm),DL (cap.ev tm) with
  | some l,some c=>AN (decide (l<=c)&&decide (c<=Gl)&&(z.cells.length==k)) (some {v:=.arr (dst,0) k 0 l,new:=[.arr k 0 (List.replicate l z)]})
  | _,_=>none
 | .slice k x lo hi mx=>(FV k (x.ev tm) (CH tm lo) (CH tm hi) (CH tm mx)).map fun v=>{v}
 | .kq x lo hi=>match x.ev tm with
  | .str s=>match C9 (CH tm hi) s.length s.length with
   | none=>none
   | some h=>match C9 (CH tm lo) 0 h with
    | none=>none
    | some l=>some {v:=.str ((s.take h).drop l)}
  | _=>none
 | .fieldAddr off x=>match x.ev tm with
  | .ref V o=>some {v:=.ref V (o+off)}
  | .ptr cs o=>AN (decide (o+off < cs.length)) (some {v:=.ptr cs (o+off)})
  | .jQ V k i o=>some {v:=.jQ V k i (o+off)}
  | _=>none
 | .field off n ag x=>match x.ev tm with
  | .agg cs=>(Ci cs off n ag).map fun v=>{v}
  | _=>none
 | .jJ k x i=>match DL (i.ev tm),x.ev tm with
  | some j,.sl k' H _=>match H[j]? with
   | some e=>AN (k==k'&&decide (0 < k)) (some {v:=.ptr e.cells 0})
   | none=>none
  | some j,.arr V k' o n=>AN (k==k'&&decide (j < n)) (some {v:=.jQ V k (o+j) 0})
  | _,_=>none
 | .kM k len x i=>match DL (i.ev tm),x.ev tm with
  | some j,.ptr cs o=>AN (decide (j < len)&&decide (o+j*k < cs.length)) (some {v:=.ptr cs (o+j*k)})
  | some j,.ref V o=>AN (decide (j < len)) (some {v:=.ref V (o+j*k)})
  | _,_=>none
 | .lL x i=>match DL (i.ev tm),x.ev tm with
  | some j,.str s=>match s[j]? with
   | some b=>some {v:=.int .u8 b.toNat}
   | none=>none
  | _,_=>none
 | .extract j x=>match x.ev tm with
  | .jE H=>match H[j]? with
   | some v=>some {v}
   | none=>none
  | _=>none
 | .len c x=>(JW σ c (x.ev tm)).map fun (n:Nat)=>{v:=.int .i64 (n:Int)}
 | .append k ty s x=>match elems σ k (x.ev tm) with
  | none=>none
  | some ys=>match s.ev tm with
   | .jD=>AN (decide (ys.length<=Gl)) (some {v:=.arr (dst,0) k 0 ys.length,new:=[.arr k ty ys]})
   | .arr V k' o n=>match σ V with
    | some (.arr nx kt H)=>AN (k==k'&&k'==nx&&o==0&&decide (n<=H.length)&&decide (n+ys.length<=Gl))
      (some {v:=.arr V k 0 (n+ys.length),kA:=some (V,.arr k (if kt=ty then ty else 0) (H.take n++ys)),kill:=some V})
    | _=>none
   | .sl k' H true=>match ys with
    | []=>none
    | y :: ys=>AN (k==k'&&decide (H.length+(ys.length+1)<=Gl)) (some {v:=.arr (dst,0) k 0 (H.length+(ys.length+1)),new:=[.arr k ty (H++y :: ys)]})
   | _=>none
 | .copy k d s=>match elems σ k (s.ev tm) with
  | none=>none
  | some ys=>match d.ev tm with
   | .jD=>some {v:=.int .i64 0}
   | .arr V k' o n=>match σ V with
    | some (.arr nx kt H)=>AN (k==k'&&k'==nx&&decide (o+n<=H.length))
      (some {v:=.int .i64 (min ys.length n),kA:=some (V,.arr k kt (H.take o++ys.take n++H.drop (o+(ys.take n).length)))})
    | _=>none
   | _=>none
 | .j6 mx H=>match (H.map (RX.ev tm):jh) with
  | .int k a :: rest=>(Ic mx k a rest).map fun n=>{v:=.int k n}
  | _=>none
 | .iter x=>match x.ev tm with
  | .str s=>some {v:=.it (dst,0),new:=[.jT s 0]}
  | _=>none
 | .next x=>match x.ev tm with
  | .it V=>match σ V with
   | some (.jT s pos) =>
    if pos < s.length then
     some {v:=.jE [.bool true,.int .i64 pos,.int .i32 (Utf8.decode ⟨s.toArray⟩ pos).1],kA:=some (V,.jT s (pos+(Utf8.decode ⟨s.toArray⟩ pos).2))}
    else some {v:=.jE [.bool false]}
   | _=>none
  | _=>none
 | .kJ t z ok x=>match x.ev tm with
  | .iface u y=>if u=t then some {v:=if ok then .jE [y,.bool true] else y}
   else AN ok (some {v:=.jE [z,.bool false]})
  | .jK=>AN ok (some {v:=.jE [z,.bool false]})
  | _=>none
 | .call _ _=>none
 | .bad=>none
def EK (f:Nm->Option jk) (Z:St):St:={tmps:=Bf f Z.tmps,jC:=Z.jC.map (·.map (Ob.sub f)),jG:=Bf f Z.jG}
def DF (σ:Nm->jk) (R:jl) (Z:St):St :=
 let Z:=EK (fun m=>if R.contains m then BX σ m else none) Z
 {Z with jC:=R.foldl (fun jC V=>Bv jC V BO) Z.jC}
def Gr:List (Nm×Ob)->List jp->List jp
 | [],jC=>jC
 |(V,o) :: l,jC=>Gr l (Bv jC V o)
def apply (Z:St) (dst:jj) (o:AQ):St :=
 let σ:=Al Z.jC
 let Z:=match o.kA with
  | some (V,ob)=>{Z with jC:=Bv Z.jC V ob}
  | none=>Z
 let Z:=match o.kill with
  | some V=>EK (fun m=>if m=V then some none else none) Z
  | none=>Z
 let Z:=if o.kj.isEmpty then Z else DF σ o.kj Z
 let Z:=if o.gone.isEmpty then Z else EK (fun m=>if o.gone.contains m then some none else none) Z
 let Z:=if o.l4.isEmpty then Z else {Z with jC:=Gr o.l4 Z.jC}
 let Z:=match o.slot with
  | some r=>{Z with jC:=Z.jC.set r (Z.jC.getD r []++o.new)}
  | none=>Z
 match dst with
 | some d=>{Z with tmps:=Z.tmps.set d o.v,jC:=if o.slot.isSome||o.new.isEmpty then Z.jC else Z.jC.set d o.new}
 | none=>Z
abbrev AA (E:Type):=Nat->jh->E->Option (Bool×E)
abbrev Ik:=(E:Type)->AA E->Nat->ja->jh->E->Option (W×jp×E)
def CR:Nat:=1000000
def Ba (f:ja):ja:=match Nat.blt f CR with
 | true=>f
 | false=>f%CR
def Gf (f:ja):Nat:=match Nat.blt f CR with
 | true=>0
 | false=>f / CR
def PK (f:ja):Nat->ja
 | 0=>f
 | n+1=>f+CR*(n+1)
def BI (f:ja) (vs cap:jh):jh:=match Nat.blt f CR with
 | true=>vs++cap
 | false=>cap.take (Gf f)++(vs++cap.drop (Gf f))
def AI:AA Unit:=fun _ _ _=>none
structure Bp where
 sp:ja->(Nm->jk)->jh->js
 call:Ik
 lC:ja->Bool
 kr:ja->Bool
 io:ja->Nat->(Nm->jk)->jh->js
 flat:ja->Bool
def FK (d:Nat) (V:Nm):Nm:=(d,V.2)
def D3 (M:Bp) (h:AA E) (dep dst:Nat) (σ:Nm->jk) (tm:jh) (f:RX) (args:jz) (e:E):Option (AQ×E) :=
 let vs:=args.map (RX.ev tm)
 match f.ev tm with
 | .ke d =>
  let S:=AU vs
  if S.isEmpty then
   AN (!BV vs) (match h d vs e with
    | some (b,e)=>some ({v:=.bool b},e)
    | none=>none)
  else
   let vs':=Bf (BX σ) vs
   AN (!BV vs'&&D9 σ (Bn σ A7 S)) (match h d vs' e with
    | some (b,e)=>some ({v:=.bool b,kj:=Bn σ A7 S},e)
    | none=>none)
 | .fn f cap =>
  let g:=Ba f
  let vs:=BI f vs cap
  match M.sp g σ vs with
  | some out=>some ({out with v:=out.v.jR (FK dst)},e)
  | none =>
  if M.lC g then
   match M.io g dst σ vs with
   | some out=>some (out,e)
   | none=>none
  else
  let S:=AU vs
  if S.isEmpty then
   if BV vs then
    match M.call E h dep g vs e with
    | some (r,obs,e)=>some ({v:=r.jR (FK dst),new:=obs},e)
    | none=>none
   else match M.call Unit AI 0 g vs () with
    | some (r,obs,_)=>some ({v:=r.jR (FK dst),new:=obs},e)
    | none=>none
  else
   let vs':=Bf (BX σ) vs
   AN (!BV vs'&&D9 σ (Bn σ A7 S)) (match M.call Unit AI 0 g vs' () with
    | some (r,obs,_)=>some ({v:=r.jR (FK dst),new:=obs,kj:=if r.free&&obs.all Ob.free&&!M.kr g then [] else Bn σ A7 S},e)
    | none=>none)
 | _=>none
def Ma:AG->Bool
 | .box _ | .alloc _ _ | .nO _ _ | .mkMap | .r8 _ _ _ _ | .append _ _ _ _ | .call _ _ | .iter _=>true
 | _=>false
def Gm (o:A8) (Z:St):Bool :=
 if Ma o.op then
  match o.dst with
  | some d=>match Z.jC[d]? with
   | some []=>true
   | _=>false
  | none=>match o.op with
   | .call _ _=>true
   | _=>false
 else true
def LD (dst:jj) (out:AQ):Bool:=!out.io||dst.isSome||out.new.isEmpty||out.slot.isSome
variable{dst:jj} {x:Option (AQ×E)}
theorem SI {out:AQ} (h:(match x with
   | some (out,e)=>AN (LD dst out) (some (out,e))
   | none=>none)=some (out,e1)):x=some (out,e1)/\LD dst out=true:=by
 cases x with
 | none=>cases h
 | some p =>
  simp only[AN] at h;split at h;{rename_i U;cases h;exact⟨rfl,U⟩};{cases h}
def Ej (M:Bp) (h:AA E) (dep:Nat) (o:A8) (Z:St) (e:E):Option (AQ×E) :=
 AN (Gm o Z) (match o.op with
  | .call f args=>match D3 M h dep (o.dst.getD 0) (Al Z.jC) Z.tmps f args e with
   | some (out,e)=>AN (LD o.dst out) (some (out,e))
   | none=>none
  | op=>match exec (o.dst.getD 0) (Al Z.jC) Z.tmps op with
   | some out=>some (out,e)
   | none=>none)
def Ku (M:Bp) (h:AA E) (dep:Nat) (o:A8) (Z:St) (e:E):Option (St×E) :=
 match Ej M h dep o Z e with
 | some (out,e)=>some (apply Z o.dst out,e)
 | none=>none
def Ew (ops:jv) (o:A8) (tm:jh):Option Bool :=
 match o.guard with
 | none=>some true
 | some (j,want) =>
  match ops[j]? with
  | some p=>match p.dst with
   | some d=>match tm.getD d .undef with
    | .bool b=>some (b==want)
    | .jE []=>some false
    | _=>none
   | none=>none
  | none=>none
def stepG (M:Bp) (h:AA E) (dep:Nat) (ops:jv) (o:A8) (Z:St) (e:E):Option (St×E) :=
 match Ew ops o Z.tmps with
 | some true=>Ku M h dep o Z e
 | some false=>some (apply Z o.dst {v:=.jE []},e)
 | none=>none
def FJ (M:Bp) {E:Type} (h:AA E) (dep:Nat) (ops:jv):jv->St->E->Option (St×E)
 | [],Z,e=>some (Z,e)
 | o :: rest,Z,e=>match stepG M h dep ops o Z e with
  | some (Z,e)=>FJ M h dep ops rest Z e
  | none=>none
def DB (ops:jv):jm:=ops.filterMap fun o=>if Ma o.op then o.dst else none
def FQ (ds:jm) (Z:St):St :=
 if ds.all fun d=>(Z.jC.getD d []).isEmpty then Z
 else
  let Z:=EK (fun m=>if ds.contains m.1 then some none else none) Z
  {Z with jC:=Z.jC.zipIdx.map fun (l,i)=>if ds.contains i then [] else l}
def HB:W->Bool
 | .undef=>true
 | _=>false
def kC (Z:St):jm:=(Z.tmps.zipIdx.filter fun (v,_)=>HB v).map (·.2)
def LF (Z:St) (t:Nat):Bool :=
 match Z.jC[t]? with
 | some []=>true
 | _=>false
def LB (t:Nat) (Z:St):St :=
 match Z.tmps.getD t .undef with
 | .arr V _ _ _ =>
  if V≠(t,0)/\LF Z t=true then
   match Al Z.jC V with
   | some ob =>
    let f:Nm->Nm:=fun m=>if m=V then (t,0) else m
    let jC:=Z.jC.map (·.map (Ob.jR f))
    {tmps:=BE f Z.tmps,jC:=(Bv jC V BO).set t [ob.jR f],jG:=BE f Z.jG}
   | none=>Z
  else Z
 | _=>Z
def JS:Nat:=1000000
def OE (V:Nm) (ty:Nat) (cs:jh) (i k:Nat) (Z:St):St :=
 let l:=Z.jC.getD V.1 []
 match cs[i]? with
 | some .jD=>{Z with jC:=Z.jC.set V.1 (l.set V.2 (.cells ty (cs.set i (.arr (V.1,l.length) k 0 0)))++[.arr k 0 []])}
 | some (.arr m _ _ _) =>
  if m.1≠V.1 then
   match Al Z.jC m with
   | some ob =>
    let f:Nm->Nm:=fun x=>if x=m then (V.1,l.length) else x
    let jC:=Bv (Z.jC.map (·.map (Ob.jR f))) m BO
    {tmps:=BE f Z.tmps,jC:=jC.set V.1 (jC.getD V.1 []++[ob.jR f]),jG:=BE f Z.jG}
   | none=>Z
  else Z
 | _=>Z
def PJ (x off k:Nat) (Z:St):St :=
 match Z.tmps.getD x .undef with
 | .ref V o=>match Al Z.jC V with
  | some (.cells ty cs)=>OE V ty cs (o+off) k Z
  | _=>Z
 | _=>Z
def Md (t k:Nat) (Z:St):St :=
 if JS<=t then PJ (t%JS) (t / JS - 1) k Z
 else match Z.tmps.getD t .undef with
 | .jD=>if LF Z t then {Z with tmps:=Z.tmps.set t (.arr (t,0) k 0 0),jC:=Z.jC.set t [.arr k 0 []]} else Z
 | _=>Z
def RC (kN:jm) (grow:List (Nat×Nat)) (Z:St):St :=
 grow.foldl (fun Z (t,k)=>Md t k Z) (kN.foldl (fun Z t=>LB t Z) Z)
def Lw (ds:jm) (Z:St):St:={Z with tmps:=Z.tmps.zipIdx.map fun (v,i)=>if ds.contains i then .undef else v}
def QO (Z:St):jm :=
 let R:=AU Z.tmps++AU Z.jG++Z.jC.flatMap fun l=>l.flatMap Ob.names
 (List.range Z.jC.length).filter fun d=>!(Z.jC.getD d []).isEmpty&&R.all fun V=>V.1 != d
def drop (ds:jm) (Z:St):St:=FQ (QO (Lw ds Z)) (Lw ds Z)
def norm (kN:jm) (grow:List (Nat×Nat)) (Z:St):St:=drop (kC (RC kN grow Z)) (RC kN grow Z)
def Lu (ks:jm) (Z:St):St:={Z with tmps:=Z.tmps.zipIdx.map fun (v,i)=>if ks.contains i then v else .undef}
def Il (live:Option jm) (Z:St):St :=
 match live with
 | none=>Z
 | some ks=>FQ (QO (Lu ks Z)) (Lu ks Z)
def IQ (R:jl) (d:Nat):Nat->Nat
 | 0=>0
 | m+1=>if R.contains (d,m) then m+1 else IQ R d m
def trim (Z:St):St :=
 let R:=AU Z.tmps++AU Z.jG++Z.jC.flatMap fun l=>l.flatMap Ob.names
 {Z with jC:=Z.jC.zipIdx.map fun (l,d)=>l.take (IQ R d l.length)}
inductive Cls where
 | quiet | turns | calls | other
 deriving DecidableEq
structure DP where
 i:Nat
 cls:Cls
 dst:jj
 reads:jm
 rn:jl
 on:jl:=[]
 tch:jl:=[]
 kj:Bool:=false
 vn:jl:=[]
 rv:jl:=[]
def AG.H:AG->jz
 | .mov x | .box x | .load _ _ x | .nilck x | .un _ x | .conv _ x | .k7 x | .ofBytes x | .lK x | .mq x | .mkI _ x | .fieldAddr _ x | .field _ _ _ x | .extract _ x | .len _ x | .iter x | .next x | .kJ _ _ _ x=>[x]
 | .pick c a b=>[c,a,b]
 | .alloc _ _ | .mkMap | .bad=>[]
 | .build _ ps=>ps.map (·.2.2)
 | .nO _ ps=>ps
 | .store _ x v=>[x,v]
 | .bin _ _ _ x y=>[x,y]
 | .mkF _ cap=>cap
 | .insert _ x k v=>[x,k,v]
 | .lookup _ _ _ x k=>[x,k]
 | .r8 _ _ l c=>[l,c]
 | .slice _ x lo hi mx=>x :: (lo.toList++hi.toList++mx.toList)
 | .kq x lo hi=>x :: (lo.toList++hi.toList)
 | .jJ _ x i | .lL x i=>[x,i]
 | .kM _ _ x i=>[x,i]
 | .append _ _ s x=>[s,x]
 | .copy _ d s=>[d,s]
 | .j6 _ H=>H
 | .call f args=>f :: args
def QS (H:jz):jm:=H.filterMap fun | .t i=>some i | .c _=>none
def G5 (ops:jv) (o:A8):jm :=
 match o.guard with
 | none=>[]
 | some (j,_)=>match ops[j]? with
  | some p=>p.dst.toList
  | none=>[]
def FY:AG->Bool
 | .call _ _=>true
 | _=>false
def IR:AG->Bool
 | .mov _ | .extract _ _ | .pick _ _ _ | .fieldAddr _ _ | .nilck _ | .mkI _ _ | .mkF _ _=>true
 | _=>false
def Gu:AG->Bool
 | .load _ _ _=>true
 | _=>false
def Kj (op:AG) (stays:Bool):Nat:=if Gu op&&stays then 0 else A7
def De (o:AQ):Bool:=o.kA.isNone&&o.kill.isNone&&o.kj.isEmpty&&o.gone.isEmpty&&o.l4.isEmpty&&o.slot.isNone
def Ft (o:AQ):Bool:=o.gone.isEmpty&&o.l4.isEmpty&&o.slot.isNone&&!o.io
def Gg (o:AQ):jl :=
 match o.kA with
 | some (V,_)=>[V]
 | none=>[]
def KU (σ:Nm->jk) (l:jl):jl:=l.flatMap fun V=>((σ V).map Ob.names).getD []
def GB (o:A8) (Z:St) (out:AQ):jl :=
 if IR o.op&&De out then [] else Bn (Al Z.jC) (Kj o.op (De out)) (AU (o.op.H.map (RX.ev Z.tmps))++out.kj)
def Ih (op:AG) (tm:jh):Bool :=
 match op with
 | .call f args=>match f.ev tm with
  | .ke _=>(AU (args.map (RX.ev tm))).isEmpty
  | _=>false
 | _=>false
def HL (ops:jv) (i:Nat) (o:A8) (Z:St) (out:AQ):DP :=
 let vs:=o.op.H.map (RX.ev Z.tmps)
 {i,dst:=o.dst,reads:=QS o.op.H++G5 ops o,rn:=GB o Z out,rv:=if Gu o.op then [] else KU (Al Z.jC) (GB o Z out),
  cls:=if FY o.op&&BV vs then (if Ih o.op Z.tmps then .calls else .other) else if De out then .quiet else if Ft out then .turns else .other,
  on:=out.v.names++out.new.flatMap Ob.names,tch:=Gg out++(out.kj++out.kill.toList),kj:=!(out.kj++out.kill.toList).isEmpty,
  vn:=(QS o.op.H++G5 ops o).flatMap fun s=>(Z.tmps.getD s .undef).names}
def I7 (a b:jm):Bool:=a.all fun x=>!b.contains x
def Rq (f:Bool) (q t:DP):Bool :=
 (q.rn.all fun V=>!t.tch.contains V)&&I7 q.dst.toList (t.tch.map (·.1))&&(!t.kj||((if f then q.rv.all fun V=>!t.tch.contains V else q.rn.isEmpty)&&(if f then q.vn.all fun V=>!t.tch.contains V else q.reads.isEmpty)&&q.on.all fun V=>!t.tch.contains V))
def wy (a b:DP):Bool :=
 match a.cls,b.cls with
 | .quiet,.calls=>true
 | .calls,.quiet=>true
 | _,_=>false
def Vf (a b:DP):Bool :=
 match a.cls,b.cls with
 | .quiet,.quiet=>true
 | .quiet,.turns=>Rq true a b
 | .turns,.quiet=>Rq false b a
 | _,_=>false
def JY (a b:DP):Bool :=
 I7 a.dst.toList (b.reads++b.dst.toList)&&I7 b.dst.toList a.reads &&
 I7 a.dst.toList (b.rn.map (·.1))&&I7 b.dst.toList (a.rn.map (·.1)) &&
 (Vf a b||wy a b)
def Cv (M:Bp) (h:AA E) (dep:Nat) (ops:jv) (i:Nat) (o:A8) (Z:St) (e:E):Option (AQ×E×DP) :=
 match Ew ops o Z.tmps with
 | some true=>match Ej M h dep o Z e with
  | some (out,e)=>some (out,e,HL ops i o Z out)
  | none=>none
 | some false=>some ({v:=.jE []},e,{i,cls:=.quiet,dst:=o.dst,reads:=G5 ops o,rn:=[],vn:=(G5 ops o).flatMap fun s=>(Z.tmps.getD s .undef).names})
 | none=>none
def Nv (M:Bp) (h:AA E) (dep:Nat) (ops:jv) (i:Nat) (o:A8) (Z:St) (e:E):Option (St×E×DP) :=
 match Cv M h dep ops i o Z e with
 | some (out,e,info)=>some (apply Z o.dst out,e,info)
 | none=>none
def Io (M:Bp) {E:Type} (h:AA E) (dep:Nat) (ops:jv):List (Nat×Nat)->List DP->St->E->Option (St×E)
 | [],_,Z,e=>some (Z,e)
 |(i,qF) :: rest,infos,Z,e=>match ops[i]? with
  | some o=>match Nv M h dep ops i o Z e with
   | some (Z,e,info)=>AN (infos.all fun j=>qF.testBit j.i||JY j info) (Io M h dep ops rest (info :: infos) Z e)
   | none=>none
  | none=>none
inductive Ex where
 | normal
 | exit (id:Nat)
 | ret
 deriving DecidableEq
def Do:Nat:=1000000000
abbrev Hs (E:Type):=St×Option Ex×E
def Ie:jm->jh->jh->jh
 | p :: ps,v :: vs,tm=>Ie ps vs (tm.set p v)
 | _,_,tm=>tm
def LE (Z:St) (v:W):Option (W×St) :=
 if v.names.isEmpty then some (v,Z)
 else AN (D9 (Al Z.jC) (Bn (Al Z.jC) A7 v.names))
  (some (v.sub (BX (Al Z.jC)),DF (Al Z.jC) (Bn (Al Z.jC) A7 v.names) Z))
def Hb {σ:Type} (step:σ->Option (Sum σ (Ex×σ))):Nat->σ->Option (Ex×σ)
 | 0,_=>none
 | m+1,s=>match step s with
  | some (.inl s)=>Hb step m s
  | some (.inr r)=>some r
  | none=>none
def AT (M:Bp) (fuel:Nat):BJ->{E:Type}->AA E->Nat->St->E->Option (Ex×St×E)
 | .skip,_,_,_,Z,e=>some (.normal,Z,e)
 | .region ops none BO,_,h,dep,Z,e=>match FJ M h dep ops ops (FQ (DB ops) Z) e with
  | some (Z,e)=>some (.normal,Il BO Z,e)
  | none=>none
 | .region ops (some qF) BO,_,h,dep,Z,e=>match Io M h dep ops qF [] (FQ (DB ops) Z) e with
  | some (Z,e)=>some (.normal,Il BO Z,e)
  | none=>none
 | .seq a b,_,h,dep,Z,e=>match AT M fuel a h dep Z e with
  | some (.normal,Z,e)=>AT M fuel b h dep Z e
  | r=>r
 | .cond c a b,_,h,dep,Z,e=>match c.ev Z.tmps with
  | .bool true=>AT M fuel a h dep Z e
  | .bool false=>AT M fuel b h dep Z e
  | _=>none
 | .block id body,_,h,dep,Z,e=>match AT M fuel body h dep Z e with
  | some (.exit oo,Z,e)=>if oo=id then some (.normal,Z,e) else some (.exit oo,Z,e)
  | r=>r
 | .loop kN grow body,E,h,dep,Z,e =>
  let Z:=norm kN grow Z
  let ds:=kC Z
  match Hb (fun (s:St×E)=>match AT M fuel body h dep s.1 s.2 with
   | some (.normal,Z,e)=>some (.inl (norm kN grow (drop ds Z),e))
   | some (x,Z,e)=>some (.inr (x,Z,e))
   | none=>none) fuel (Z,e) with
  | some (x,Z,e)=>some (x,Z,e)
  | none=>none
 | .rangeFunc f ps assign body,E,h,dep,Z,e =>
  match LE Z (f.ev Z.tmps) with
  | some (.fn g cap,Z) =>
   let h':AA (Hs E):=fun l args r =>
    if l=dep then
     match r with
     |(s,none,e) =>
      if args.length=ps.length then
       match AT M fuel assign h (dep+1) {s with tmps:=Ie ps args s.tmps,jG:=s.tmps++s.jG} e with
       | some (.normal,s',e)=>match AT M fuel body h (dep+1) s' e with
        | some (x,s',e)=>some (x==.normal,({s' with tmps:=s'.jG.take s.tmps.length,jG:=s'.jG.drop s.tmps.length},(if x=.normal then none else some x),e))
        | none=>none
       | _=>none
      else none
     | _=>none
    else
     match r with
     |(s,p,e)=>match h l args e with
      | some (b,e)=>some (b,(s,p,e))
      | none=>none
   match M.call (Hs E) h' (dep+1) (Ba g) (BI g [.ke dep] cap) (Z,none,e) with
   | some (_,_,s,p,e)=>some (p.getD .normal,s,e)
   | none=>none
  | _=>none
 | .exit id,_,_,_,Z,e=>some (.exit id,Z,e)
 | .scope body,_,h,dep,Z,e=>match AT M fuel body h dep Z e with
  | some (.exit id,Z,e)=>if id < Do then some (.exit id,Z,e) else none
  | r=>r
 | .ret,_,_,_,Z,e=>some (.ret,Z,e)
 | .norm grow,_,_,_,Z,e=>some (.normal,norm [] grow (trim Z),e)
 | .o7 _ _ _ _,_,_,_,_,_=>none
 | .bad,_,_,_,_,_=>none
def RA (nt:Nat) (vs:jh) (Z:St):St:={Z with jG:=vs++List.replicate (nt - vs.length) .undef++Z.jG}
def T5:BJ->Bool
 | .seq (.block id _) _=>decide (Do<=id)
 | _=>false
def isFn:W->Bool
 | .fn _ _=>true
 | _=>false
def Hk:Option (Ex×St×Unit)->Option (Ex×St×jm)
 | some (x,Z,_)=>some (x,Z,[])
 | none=>none
def Bt (M:Bp) (fuel nt:Nat):BJ->St->Option (Ex×St×jm)
 | .o7 ops f args live,Z=>match FJ M AI 0 ops ops (FQ (DB ops) Z) () with
  | some (Z,_)=>AN (decide (args.length+1<=nt)&&isFn (f.ev Z.tmps))
    (some (.normal,Il live (RA nt (f.ev Z.tmps :: args.map (RX.ev Z.tmps)) Z),[args.length]))
  | none=>none
 | .seq a b,Z=>match Bt M fuel nt a Z with
  | some (.normal,Z,l)=>match Bt M fuel nt b Z with
   | some (x,Z,l')=>some (x,Z,l'++l)
   | none=>none
  | r=>r
 | .cond c a b,Z=>match c.ev Z.tmps with
  | .bool true=>Bt M fuel nt a Z
  | .bool false=>Bt M fuel nt b Z
  | _=>none
 | .block id body,Z=>match Bt M fuel nt body Z with
  | some (.exit oo,Z,l)=>if oo=id then some (.normal,Z,l) else some (.exit oo,Z,l)
  | r=>r
 | .scope body,Z=>if T5 body then none else match Bt M fuel nt body Z with
  | some (.exit id,Z,l)=>if id < Do then some (.exit id,Z,l) else none
  | r=>r
 | c,Z=>Hk (AT M fuel c AI 0 Z ())
def HX (M:Bp) (nt:Nat):jm->St->Option St
 | [],Z=>some Z
 | n :: l,Z=>match Z.jG.getD 0 .undef with
  | .fn f cap =>
   match M.sp (Ba f) (Al Z.jC) (BI f ((Z.jG.drop 1).take n) cap) with
   | some _=>none
   | none=>if M.lC (Ba f)&&M.flat (Ba f) then match M.io (Ba f) 0 (Al Z.jC) (BI f ((Z.jG.drop 1).take n) cap) with
    | some out=>AN (out.new.isEmpty||out.slot.isSome) (HX M nt l (apply {Z with jG:=Z.jG.drop nt} none out))
    | none=>none
   else none
  | _=>none
def Cu (Z:St):IW->jx
 | .tmp t=>some (Z.tmps.getD t .undef)
 | .cell t n ag=>match Z.tmps.getD t .undef with
  | .ref V o=>match Al Z.jC V with
   | some (.cells _ cs)=>Ci cs o n ag
   | _=>none
  | _=>none
def Gz (Z:St):List IW->Option jh
 | []=>some []
 | r :: rs=>match Cu Z r,Gz Z rs with
  | some v,some vs=>some (v :: vs)
  | _,_=>none
def Ig:jh->W
 | [v]=>v
 | vs=>.jE vs
def wA:W->jl
 | .arr V _ 0 _=>[V]
 | .agg cs=>cs.flatMap fun | .arr V _ 0 _=>[V] | _=>[]
 | .jE H=>H.flatMap fun | .arr V _ 0 _=>[V] | .agg cs=>cs.flatMap (fun | .arr V _ 0 _=>[V] | _=>[]) | _=>[]
 | _=>[]
def EJ:jl->Bool
 | []=>true
 | x :: H=>!H.contains x&&EJ H
def KP (S:jl) (V:Nm):Nm:=(0,S.idxOf V)
def KT:Ob->Bool
 | .arr _ _ _=>true
 | _=>false
def Ob.bare:Ob->Ob
 | .arr k _ H=>.arr k 0 H
 | o=>o
def Jg (shut:Bool) (v:W):jl:=if shut then [] else wA v
def Km (shut:Bool) (Z:St) (v:W):Option (W×jp) :=
 let σ:=Al Z.jC
 let S:=Jg shut v
 let R:=Bn σ A7 (v.names.filter fun V=>!S.contains V)
 let S:=if EJ S&&S.all (fun V=>!R.contains V) then S else []
 let R:=Bn σ A7 (v.names.filter fun V=>!S.contains V)
 let v:=(v.sub fun V=>if S.contains V then none else BX σ V).jR (KP S)
 match S.mapM σ with
 | some obs=>AN (D9 σ R&&obs.all KT) (some (v,obs.map Ob.bare))
 | none=>none
def JU (M:Bp) (n:Nat) (jO:ja->jt):Ik:=fun _ h dep f args e =>
 match jO f with
 | none=>none
 | some fn =>
  match AT M n fn.code h dep {tmps:=args++List.replicate (fn.nt - args.length) .undef,jC:=List.replicate fn.nt [],jG:=[]} e with
  | some (x,Z,e) =>
   match x with
   | .exit _=>none
   | _=>match Gz Z fn.res with
    | some vs=>match Km fn.shut Z (Ig vs) with
     | some (v,obs)=>some (v,obs,e)
     | none=>none
    | none=>none
  | none=>none
def Ob.kf:Ob->Bool
 | .cells _ cs=>BV cs
 | .arr _ _ H=>BV H
 | .map es=>BV es
 | .jT _ _=>false
def Et:jl->jl
 | []=>[]
 | x :: H=>if H.contains x then Et H else x :: Et H
def Mn (g:jm) (nt k:Nat):jh:=(List.range nt).map fun j=>if j < k/\g.contains j=false then .arr (0,j) 1 0 0 else .undef
def GR:W->Option Nm
 | .arr V 1 0 0=>some V
 | _=>none
def GJ (R:jl) (jG:jh):List (Nm×Nm):=R.zipIdx.map fun p=>((GR (jG.getD p.2 .undef)).getD (0,p.2),p.1)
def KF (R:jl) (jG:jh):jl:=(R.zipIdx.filter fun p=>(GR (jG.getD p.2 .undef)).isNone).map (·.1)
def LS (σ:Nm->jk) (zzc:List (Nm×Nm)) (v:W):jl :=
 Et ((Bn σ A7 (v.names++zzc.flatMap fun p=>((σ p.1).map Ob.names).getD [])).filter fun m=>!(zzc.map (·.1)).contains m)
def HW (σ:Nm->jk) (B:List (Nm×Nm)) (V:Nm):Ob :=
 (((σ V).getD BO).sub fun m=>if (B.map (·.1)).contains m then none else some none).jR fun m=>(B.lookup m).getD m
def HR (sl:jj) (d0 i0:Nat) (R:jl) (Z:St) (v:W):js :=
 let zzc:=GJ R Z.jG
 let N:=LS (Al Z.jC) zzc v
 let B:=zzc++N.zipIdx.map fun p=>(p.1,(d0,i0+p.2))
 AN (EJ (B.map (·.1)))
  (some {v:=(v.sub fun m=>if (B.map (·.1)).contains m then none else some none).jR fun m=>(B.lookup m).getD m,new:=N.map (HW (Al Z.jC) B),l4:=zzc.map fun p=>(p.2,HW (Al Z.jC) B p.1),gone:=KF R Z.jG,io:=true,slot:=sl})
def J1 (g:jm) (nt:Nat) (ins:jp) (vs:jh):St :=
 {tmps:=vs++List.replicate (nt - vs.length) .undef,jC:=(List.replicate nt []).set 0 ins,jG:=Mn g nt ins.length}
def IM (M:Bp) (n:Nat) (fn:Au) (ins:jp) (vs:jh):Option (St×W) :=
 if En fn.code then match AT M n fn.code AI 0 (J1 fn.gone fn.nt ins vs) () with
  | some (x,Z,_) =>
   match x with
   | .exit _=>none
   | _=>match Gz Z fn.res with
    | some rs=>some (Z,Ig rs)
    | none=>none
  | none=>none
 else match Bt M n fn.nt fn.code (J1 fn.gone fn.nt ins vs) with
  | some (x,Z,l) =>
   match x with
   | .exit _=>none
   | _=>match HX M fn.nt l Z with
    | some Z=>match Gz Z fn.res with
     | some rs=>some (Z,Ig rs)
     | none=>none
    | none=>none
  | none=>none
def LA (σ:Nm->Option α) (d:Nat):jj:=(List.range 64).find? fun j=>(σ (d,j)).isNone
def M4 (σ:Nm->jk) (dst:Nat) (R:jl) (Z:St) (v:W):js :=
 match R with
 | []=>HR none dst 0 R Z v
 | r :: _=>match LA σ r.1 with
  | some i0=>HR (some r.1) r.1 i0 R Z v
  | none=>none
def Hp (M:Bp) (n:Nat) (jO:ja->jt) (f:ja) (dst:Nat) (σ:Nm->jk) (vs:jh):js :=
 match jO f with
 | none=>none
 | some fn =>
  let R:=Et (Bn σ A7 (AU vs))
  match R.mapM σ with
  | none=>none
  | some ins =>
   AN (!BV vs&&D9 σ R&&ins.all (fun o=>!o.kf)&&(decide (vs.length<=fn.nt)&&decide (R.length<=fn.nt)&&decide (0 < fn.nt))) (
    match IM M n fn (ins.map (Ob.jR fun m=>(0,R.idxOf m))) (BE (fun m=>(0,R.idxOf m)) vs) with
    | some (Z,v)=>M4 σ dst R Z v
    | none=>none)
def FZ (jO:ja->jt) (f:ja):Bool :=
 match jO f with
 | some fn=>fn.io
 | none=>false
def GI (jO:ja->jt) (f:ja):Bool :=
 match jO f with
 | some fn=>fn.kr
 | none=>false
def Kn (jO:ja->jt) (f:ja):Bool :=
 match jO f with
 | some fn=>En fn.code
 | none=>false
def Fh (sp:ja->(Nm->jk)->jh->js) (jO:ja->jt):Nat->Bp
 | 0=>{sp,call:=fun _ _ _ _ _ _=>none,lC:=FZ jO,kr:=GI jO,io:=fun _ _ _ _=>none,flat:=Kn jO}
 | n+1=>{sp,call:=JU (Fh sp jO n) n jO,lC:=FZ jO,kr:=GI jO,io:=Hp (Fh sp jO n) n jO,flat:=Kn jO}
def Br (sp:ja->(Nm->jk)->jh->js) (jO:ja->jt) (n:Nat):Ik:=(Fh sp jO n).call
end Go.Ab


namespace Go.Ab
def Mr (d:jg):Bool :=
 match d with
 | .struct _=>true
 | .array _ _=>true
 | _=>false
def Iy:Nat->i8->jx
 | _,.bool b=>some (.bool b)
 | _,.int k n=>some (.int k n)
 | _,.string s=>some (.str s.data.toList)
 | _,.slice none 0 0=>some .jD
 | _,.pointer none=>some .kB
 | _,.nilFunc=>some .jV
 | _,.nilIface=>some .jK
 | _,.map none=>some .kL
 | n+1,.agg cs=>if cs.toList.all (·.oneCell') then (cs.toList.mapM (Iy n)).map .agg else none
 | _,_=>none
def Hf (P:jd) (t:je):jx:=((P.info? t).bind (·.zero)).bind (Iy 3)
def H4 (P:jd) (t:je):Option (Nat×Bool) :=
 match P.underlying t,P.info? t with
 | some d,some i=>some (i.size,Mr d)
 | _,_=>none
def Hg (P:jd) (t:je):Option (Nat×Nat×W) :=
 match P.underlying t with
 | some (.slice e)=>match P.info? e,Hf P e with
  | some i,some z=>if i.bytes<=65536/\z.cells.length=i.size then some (i.size,i.bytes,z) else none
  | _,_=>none
 | _=>none
def LC (P:jd) (i:Nat):List Field->Option jm
 | []=>some []
 | f :: fs=>if f.offset=i/\f.name ≠ "_" then
   match P.underlying f.type,LC P (i+1) fs with
   | some (.int _),some l=>some (0 :: l)
   | some .string,some l=>some (1 :: l)
   | some .bool,some l=>some (2 :: l)
   | _,_=>none
  else none
def EQ (P:jd) (t:je):TC :=
 match P.underlying t with
 | some (.struct fs)=>match LC P 0 fs.toList with
  | some l=>if P.stoodInHeld t=false/\P.eqGuardType P.depth t=false then .plain l else .other
  | none=>.other
 | some (.int _)=>.num
 | some .string=>.str
 | some .bool=>.bool
 | some (.interface _)=>.iface
 | some (.slice _)=>.slice
 | some (.map _ _)=>.map
 | some (.func _ _ _)=>.func
 | some (.pointer _)=>.ptr
 | _=>.other
abbrev FR:=Nat->Option jh
def rx (G:FR):jb->jB
 | .tmp t=>some (.t t)
 | .const v=>(Iy 3 v).map .c
 | .global g=>(G g).map fun cs=>.c (.ptr cs 0)
 | .func f=>if Nat.blt f CR=true then some (.c (.fn f [])) else none
def vQ (G:FR):Option jb->Option jB
 | none=>some none
 | some x=>(rx G x).map some
def E6 (G:FR):List jb->Option jz
 | []=>some []
 | x :: H=>match rx G x,E6 G H with
  | some y,some ys=>some (y :: ys)
  | _,_=>none
def isC:jb->Bool
 | .const _=>true
 | _=>false
def MI (G:FR) (place:Nat->Option (Nat×Nat)):List (Nat×jb)->Option (List (Nat×Nat×RX))
 | []=>some []
 |(i,x) :: ps=>match place i,rx G x,MI G place ps with
  | some (off,n),some y,some ys=>some ((off,n,y) :: ys)
  | _,_,_=>none
def M6 (G:FR):Nat->List (Nat×jb)->Option jz
 | _,[]=>some []
 | j,(i,x) :: ps=>if i=j then match rx G x,M6 G (j+1) ps with
  | some y,some ys=>some (y :: ys)
  | _,_=>none
  else none
def PW (P:jd) (fs:Array Field) (i:Nat):Option (Nat×Nat) :=
 match fs[i]? with
 | some f=>match P.info? f.type with
  | some inf=>some (f.offset,inf.size)
  | none=>none
 | none=>none
def wB:Option AG->AG
 | some o=>o
 | none=>.bad
def TV (P:jd) (t:je):Bool :=
 match P.underlying t with
 | some (.int _)=>true
 | some .string=>true
 | some .bool=>true
 | _=>false
def Cr (P:jd) (G:FR) (o:Oper):Option AG :=
 match o.op with
 | .move x=>(rx G x).map .mov
 | .assign x=>(rx G x).map .mov
 | .pick c a b=>match rx G c,rx G a,rx G b with
  | some c,some a,some b=>some (.pick c a b)
  | _,_,_=>none
 | .alloc t=>match Hf P t with
  | some z=>some (.alloc t z.cells)
  | none=>none
 | .box _ x=>(rx G x).map .box
 | .build t ps=>match P.underlying t,Hf P t with
  | some (.struct fs),some (.agg z)=>match MI G (PW P fs) ps.toList with
   | some ps=>if fs.all (fun f=>(P.info? f.type).isSome) then some (.build z ps) else none
   | none=>none
  | _,_=>none
 | .buildSlice t len ps=>match Hg P t,M6 G 0 ps.toList with
  | some (k,_,_),some H=>if H.length=len/\len*k<=16777216 then some (.nO k H) else none
  | _,_=>none
 | .load t a=>match H4 P t,rx G a with
  | some (n,ag),some x=>some (.load n ag x)
  | _,_=>none
 | .store t a v=>match H4 P t,rx G a,rx G v with
  | some (n,_),some x,some y=>some (.store n x y)
  | _,_,_=>none
 | .nilCheck x=>(rx G x).map .nilck
 | .binOp op t x y _=>match rx G x,rx G y with
  | some a,some b=>some (.bin op (EQ P t) (isC x||isC y) a b)
  | _,_=>none
 | .unOp op _ x=>(rx G x).map (.un op)
 | .convert src dst x=>match P.underlying src,P.underlying dst,rx G x with
  | some (.int _),some (.int k),some x=>some (.conv k x)
  | some (.int _),some .string,some x=>some (.lK x)
  | some .string,some .string,some x=>some (.mq x)
  | some .string,some (.slice e),some x=>match P.underlying e with
   | some (.int .u8)=>some (.k7 x)
   | _=>none
  | some (.slice e),some .string,some x=>match P.underlying e with
   | some (.int .u8)=>some (.ofBytes x)
   | _=>none
  | _,_,_=>none
 | .makeInterface t x=>match P.underlying t with
  | some (.interface _)=>none
  | some _=>(rx G x).map (.mkI t)
  | none=>none
 | .makeFunc (.func f) first cap=>if Nat.blt f CR=true then (E6 G (first.toList++cap.toList)).map (.mkF (PK f first.size)) else none
 | .makeMap _ none=>some .mkMap
 | .insert t m k v=>match P.underlying t,rx G m,rx G k,rx G v with
  | some (.map kt _),some m,some k,some v=>if TV P kt then some (.insert (EQ P kt) m k v) else none
  | _,_,_,_=>none
 | .mapUpdate t m k v=>match P.underlying t,rx G m,rx G k,rx G v with
  | some (.map kt _),some m,some k,some v=>if TV P kt then some (.insert (EQ P kt) m k v) else none
  | _,_,_,_=>none
 | .lookup t m k ok=>match P.underlying t with
  | some (.map kt et)=>match Hf P et,rx G m,rx G k with
   | some z,some m,some k=>if TV P kt then some (.lookup (EQ P kt) z ok m k) else none
   | _,_,_=>none
  | _=>none
 | .makeSlice t l c=>match Hg P t,rx G l,rx G c with
  | some (k,_,z),some l,some c=>some (.r8 k z l c)
  | _,_,_=>none
 | .slice t x lo hi mx=>match rx G x,vQ G lo,vQ G hi,vQ G mx with
  | some x,some lo,some hi,some mx=>match P.underlying t with
   | some .string=>if mx.isNone then some (.kq x lo hi) else none
   | some (.slice _)=>match Hg P t with
    | some (k,_,_)=>some (.slice k x lo hi mx)
    | none=>none
   | _=>none
  | _,_,_,_=>none
 | .fieldAddr t x f=>match P.underlying t,rx G x with
  | some (.struct fs),some x=>match fs[f]? with
   | some fd=>match P.info? fd.type with
    | some i=>if i.size=0 then none else some (.fieldAddr fd.offset x)
    | none=>none
   | none=>none
  | _,_=>none
 | .field t x f=>match P.underlying t,rx G x with
  | some (.struct fs),some x=>match fs[f]? with
   | some fd=>match H4 P fd.type with
    | some (n,ag)=>some (.field fd.offset n ag x)
    | none=>none
   | none=>none
  | _,_=>none
 | .indexAddr t x i=>match P.underlying t,rx G x,rx G i with
  | some (.slice _),some x,some i=>match Hg P t with
   | some (k,_,_)=>some (.jJ k x i)
   | none=>none
  | some (.array n e),some x,some i=>match P.info? e with
   | some inf=>some (.kM inf.size n x i)
   | none=>none
  | _,_,_=>none
 | .index t x i=>match P.underlying t,rx G x,rx G i with
  | some .string,some x,some i=>some (.lL x i)
  | _,_,_=>none
 | .extract x j=>(rx G x).map (.extract j)
 | .call c=>match E6 G c.args.toList with
  | none=>none
  | some as=>match c.callee with
   | .value f=>(rx G f).map fun f=>.call f as
   | .builtin .len=>match c.argTypes[0]?,as with
    | some t,[x]=>match P.underlying t with
     | some .string=>some (.len .str x)
     | some (.slice _)=>some (.len .slice x)
     | some (.map _ _)=>some (.len .map x)
     | _=>none
    | _,_=>none
   | .builtin .append=>match c.argTypes[0]?,c.argTypes[1]?,as with
    | some t,some u,[s,x]=>match Hg P t,P.underlying u,P.underlying t with
     | some (k,_,_),some (.slice _),some (.slice el)=>some (.append k el s x)
     | some (k,_,_),some .string,some (.slice el)=>some (.append k el s x)
     | _,_,_=>none
    | _,_,_=>none
   | .builtin .copy=>match c.argTypes[0]?,as with
    | some t,[d,s]=>match Hg P t with
     | some (k,_,_)=>some (.copy k d s)
     | none=>none
    | _,_=>none
   | .builtin .min=>some (.j6 false as)
   | .builtin .max=>some (.j6 true as)
   | _=>none
 | .range t x=>match P.underlying t,rx G x with
  | some .string,some x=>some (.iter x)
  | _,_=>none
 | .next x true=>(rx G x).map .next
 | .typeAssert x _ t ok=>match P.underlying t with
  | some (.interface _)=>none
  | some _=>match Hf P t,rx G x with
   | some z,some x=>some (.kJ t z ok x)
   | _,_=>none
  | none=>none
 | _=>none
def Dy (P:jd) (G:FR) (o:Oper):A8:={dst:=o.dst,op:=wB (Cr P G o),guard:=o.guard}
def KZ:BJ->jm
 | .region ops _ _=>ops.filterMap fun o=>match o.op with | .mov _=>o.dst | _=>none
 | .seq a b=>KZ a++KZ b
 | .cond _ a b=>KZ a++KZ b
 | .block _ b=>KZ b
 | .loop _ _ b=>KZ b
 | .scope b=>KZ b
 | _=>[]
def growOps (ops:jv):List (Nat×Nat) :=
 ops.filterMap fun o=>match o.dst,o.op with
  | some t,.mov (.t s)=>(ops.findSome? fun p=>match p.op with | .append k _ _ _=>if p.dst=some s then some k else none | _=>none).map fun k=>(t,k)
  | _,_=>none
def R0 (ops:jv):Nat->Nat->Nat->Option (Nat×Nat)
 | 0,_,_=>none
 | n+1,x,off=>match ops.find? fun p=>p.dst==some x with
  | none=>some (x,off)
  | some p=>match p.op with
   | .mov (.t y)=>R0 ops n y off
   | .nilck (.t y)=>R0 ops n y off
   | .fieldAddr o (.t y)=>R0 ops n y (off+o)
   | _=>none
def sI (ops:jv):List (Nat×Nat) :=
 ops.filterMap fun o=>match o.op with
  | .store 1 (.t a) (.t u) =>
   match ops.findSome? (fun p=>match p.op with | .append k _ _ _=>if p.dst=some u then some k else none | _=>none),R0 ops 8 a 0 with
   | some k,some (x,off)=>some (JS*(off+1)+x,k)
   | _,_=>none
  | _=>none
def IH:BJ->List (Nat×Nat)
 | .region ops _ _=>growOps ops++sI ops
 | .seq a b=>IH a++IH b
 | .cond _ a b=>IH a++IH b
 | .block _ b=>IH b
 | .loop _ _ b=>IH b
 | .scope b=>IH b
 | .rangeFunc _ _ _ b=>(IH b).filter fun p=>decide (JS<=p.1)
 | _=>[]
def Mf {α:Type} [BEq α]:List α->List α
 | []=>[]
 | x :: H=>if (Mf H).contains x then Mf H else x :: Mf H
def M9 (acc:List (Nat×Nat)):List Edge->Nat
 | []=>0
 | e :: es=>if Region.binds .any e then 2 ^ e.on ||| ((acc.lookup e.on).getD 0) ||| M9 acc es else M9 acc es
def NS (ops:Array Oper):jm->List (Nat×Nat)->Option (List (Nat×Nat))
 | [],acc=>if acc.length=ops.size then some acc.reverse else none
 | i :: rest,acc=>match ops[i]? with
  | some o=>if (acc.lookup i).isNone/\o.after.toList.all (fun e=>!Region.binds .any e||(acc.lookup e.on).isSome) then NS ops rest ((i,M9 acc o.after.toList) :: acc) else none
  | none=>none
def JR:Code->jj
 | .goto l=>some l
 | .seq a b=>(JR a).orElse fun _=>JR b
 | .cond _ a b=>(JR a).orElse fun _=>JR b
 | .block _ b=>JR b
 | .loop b=>JR b
 | .rangeFunc _ _ _ b=>JR b
 | _=>none
def Fd (l:Nat):Code->BJ->Option (BJ×BJ)
 | .seq a b,.seq ra rb=>match Fd l a ra with
  | some (x,y)=>some (x,.seq y rb)
  | none=>match Fd l b rb with
   | some (x,y)=>some (.seq ra x,y)
   | none=>none
 | .label l',_=>if l'=l then some (.skip,.skip) else none
 | _,_=>none
def Pd (c:Code) (r:BJ):BJ :=
 match JR c with
 | none=>.scope r
 | some l=>match Fd l c r with
  | some (x,y)=>.scope (.seq (.block (Do+l) x) y)
  | none=>.scope r
structure Told where
 lv:Option jm:=none
 grow:Option (List (Nat×Nat)):=none
 peel:Bool:=false
 deriving Inhabited
abbrev E5:=Nat->Told
def ND (g:Option (List (Nat×Nat))) (r:BJ):BJ :=
 match g with
 | none=>r
 | some g=>.seq r (.norm g)
def Kt:Code->jj
 | .region id _ _=>some id
 | .seq a b=>(Kt a).orElse fun _=>Kt b
 | .cond _ a b=>(Kt a).orElse fun _=>Kt b
 | .block _ b=>Kt b
 | .loop b=>Kt b
 | .scope b=>Kt b
 | _=>none
def peelOf (D:E5) (c:Code):Bool :=
 match Kt c with
 | some id=>(D id).peel
 | none=>false
def RF (p:Bool) (kN:jm) (grow:List (Nat×Nat)) (b:BJ):BJ:=if p then .seq b (.loop kN grow b) else .loop kN grow b
def UY (f:RX) (ps:jm) (kN b:BJ) (g:List (Nat×Nat)):BJ :=
 if g.isEmpty then .rangeFunc f ps kN b else .seq (.norm g) (.rangeFunc f ps kN (.seq (.seq b (.region [] none (some []))) (.norm g)))
def Q7 (G:FR) (o:Oper):Option (RX×jz) :=
 match o.op,o.guard,o.dst with
 | .defer c,none,none=>match c.callee with
  | .value f=>match rx G f,E6 G c.args.toList with
   | some f,some args=>some (f,args)
   | _,_=>none
  | _=>none
 | _,_,_=>none
def Rf (P:jd) (G:FR) (ops:Array Oper) (lv:Option jm):BJ :=
 match ops.toList.getLast?.bind (Q7 G) with
 | some (f,args)=>.o7 (ops.toList.dropLast.map (Dy P G)) f args lv
 | none=>.region (ops.toList.map (Dy P G)) none lv
def B6 (P:jd) (G:FR) (D:E5):Code->BJ
 | .skip=>.skip
 | .region id ops draw=>ND (D id).grow (if draw then (match NS ops (Region.linearise .any ops 0) [] with
   | some l=>.region (ops.toList.map (Dy P G)) (some l) (D id).lv
   | none=>.bad)
  else Rf P G ops (D id).lv)
 | .seq a b=>.seq (B6 P G D a) (B6 P G D b)
 | .cond c a b=>match rx G c with
  | some c=>.cond c (B6 P G D a) (B6 P G D b)
  | none=>.bad
 | .block id b=>if id < Do then .block id (B6 P G D b) else .bad
 | .loop b=>RF (peelOf D b&&En (B6 P G D b)) (Mf (KZ (B6 P G D b))) (Mf (IH (B6 P G D b))) (B6 P G D b)
 | .rangeFunc f ps kN b=>match rx G f with
  | some f=>UY f ps.toList (B6 P G D kN) (B6 P G D b) (Mf (IH (B6 P G D b)))
  | none=>.bad
 | .exit id=>if id < Do then .exit id else .bad
 | .scope b=>Pd b (B6 P G D b)
 | .label _=>.skip
 | .goto l=>.exit (Do+l)
 | .ret=>.ret
 | .refuse _=>.bad
def M8 (P:jd):List ResultVar->Option (List IW)
 | []=>some []
 | r :: rs=>match (match r with
   | .tmp t=>some (IW.tmp t)
   | .cell a t=>(H4 P t).map fun (n,ag)=>IW.cell a n ag),M8 P rs with
  | some x,some H=>some (x :: H)
  | _,_=>none
def Mg (P:jd) (G:FR) (D:E5) (f:ja):jt :=
 match P.funcs[f]? with
 | some fn=>match fn.body,M8 P fn.results.toList with
  | some c,some rs=>if fn.name == "runtime.NumGoroutine" then none else some {nt:=fn.ntmps,code:=B6 P G D c,res:=rs}
  | _,_=>none
 | none=>none
end Go.Ab


namespace Go.Ab
def opT:jb->jm
 | .tmp t=>[t]
 | _=>[]
def opsT (l:List jb):jm:=l.flatMap opT
def Ms (a b:jm):jm:=a.foldl (fun acc x=>if acc.contains x then acc else x :: acc) b
abbrev Sx:=List (Nat×jm)
def GY:Code->jm->Sx->jm->jm×Sx
 | .skip,out,_,_=>(out,[])
 | .region id ops _,out,_,_=>(ops.toList.foldr (fun o l=>Ms (opsT o.op.operands.toList) (match o.dst with | some d=>l.filter (· != d) | none=>l)) out,[(id,out)])
 | .seq a b,out,ends,mr =>
  let r2:=GY b out ends mr
  let r1:=GY a r2.1 ends mr
  (r1.1,r1.2++r2.2)
 | .cond c a b,out,ends,mr =>
  let r1:=GY a out ends mr
  let r2:=GY b out ends mr
  (Ms (opT c) (Ms r1.1 r2.1),r1.2++r2.2)
 | .block id b,out,ends,mr=>GY b out ((id,out) :: ends) mr
 | .loop b,_,ends,mr =>
  let x1:=(GY b [] ends mr).1
  let x2:=(GY b x1 ends mr).1
  let x3:=(GY b x2 ends mr).1
  (x3,(GY b x3 ends mr).2)
 | .rangeFunc f ps kN b,out,ends,mr =>
  let e0:=ends.map fun p=>(p.1,([]:jm))
  let r2:=GY b [] e0 []
  let r1:=GY kN r2.1 e0 []
  (Ms (opT f) (Ms (r1.1.filter fun x=>!ps.contains x) (Ms out (Ms (ends.flatMap (·.2)) mr))),r1.2++r2.2)
 | .exit id,_,ends,_=>((ends.lookup id).getD [],[])
 | .scope b,out,ends,mr =>
  let l:=(JR b).getD 0
  let x1:=((GY b out ends mr).2.lookup (Do+l)).getD []
  let x2:=((GY b out ((Do+l,x1) :: ends) mr).2.lookup (Do+l)).getD []
  GY b out ((Do+l,x2) :: ends) mr
 | .label l,out,_,_=>(out,[(Do+l,out)])
 | .goto l,_,ends,_=>((ends.lookup (Do+l)).getD [],[])
 | .ret,_,_,mr=>(mr,[])
 | .refuse _,out,_,_=>(out,[])
def resT:ResultVar->Nat
 | .tmp t=>t
 | .cell a _=>a
def liveOf (P:jd) (f:ja):Sx :=
 match P.funcs[f]? with
 | some fn=>match fn.body with
  | some c=>(GY c (fn.results.toList.map resT) [] (fn.results.toList.map resT)).2
  | none=>[]
 | none=>[]
def lookD (l:Sx):E5:=fun id=>{lv:=l.lookup id}
def deadOf (P:jd) (f:ja):E5:=lookD (liveOf P f)
abbrev Hint:=List (Nat×Nat×Option (List (Nat×Nat))×Bool)
def hinted (zza:Hint) (f:ja) (D:E5):E5:=fun id =>
 match zza.find? fun h=>h.1==f&&h.2.1==id with
 | some h=>{D id with grow:=h.2.2.1,peel:=h.2.2.2}
 | none=>D id
def PN (zza:Hint) (P:jd) (f:ja):E5:=hinted zza f (deadOf P f)
end Go.Ab


namespace Go.Ab
variable{i k:Nat} {p:Option (Nat×Nat)} {us vs:List i8} {v:i8} {x:W} {ys:jh}
abbrev AK:=Nm->Option (Option (Nat×Nat))
abbrev jr:=Option AK
def GT:List MapEntry->List i8
 | []=>[]
 | e :: es=>e.key :: e.val :: GT es
def By (vs:List i8):Prop:=∀ v∈vs,v.oneCell'=true
theorem By.mS (h:By vs) (n:Nat):By (vs.take n):=fun v hv=>h v (eE hv)
theorem By.ng (h:By vs) (n:Nat):By (vs.drop n):=fun v hv=>h v (e8 hv)
theorem By.mH (h:By vs) (h':By us):By (vs++us):=fun v hv=>(dX.1 hv).elim (h v) (h' v)
mutual
inductive AC (w:i7) (I:Nat->Prop) (lp:Nat->jj):jr->W->i8->Prop
 | undef {L} (v:i8):AC w I lp L .undef v
 | bool {L} (b:Bool):AC w I lp L (.bool b) (.bool b)
 | int {L} (k:jc) (n:Int):AC w I lp L (.int k n) (.int k n)
 | str {L} (s:ji):AC w I lp L (.str s) (.string ⟨s.toArray⟩)
 | jD {L}:AC w I lp L .jD (.slice none 0 0)
 | kB {L}:AC w I lp L .kB (.pointer none)
 | jV {L}:AC w I lp L .jV .nilFunc
 | jK {L}:AC w I lp L .jK .nilIface
 | kL {L}:AC w I lp L .kL (.map none)
 | po {L} (k:Nat) (full:Bool) (a:Option Addr) (cap:Nat) (hf:full=true->cap=0):AC w I lp L (.sl k [] full) (.slice a 0 cap)
 | sl {L} (k:Nat) (H:jh) (full:Bool) (b off cap:Nat) (c:Array i8) (E:je) (fr:Nat×Nat)
   (hI:I b) (hb:w.heap[b]?=some (.cells c E fr)) (hs:off+H.length*k<=c.size) (hk:∀ x∈H,x.cells.length=k)
   (hc:H.length<=cap) (hf:full=true->cap=H.length) (U:By ((c.toList.drop off).take (H.length*k)))
   (T:Av w I lp none (jM H) ((c.toList.drop off).take (H.length*k))):AC w I lp L (.sl k H full) (.slice (some ⟨b,off,none⟩) H.length cap)
 | ptr {L} (cs:jh) (o:Nat) (b off:Nat) (c:Array i8) (E:je) (fr:Nat×Nat)
   (hI:I b) (hb:w.heap[b]?=some (.cells c E fr)) (hs:off+cs.length<=c.size) (ho:o < cs.length) (U:By ((c.toList.drop off).take cs.length))
   (T:Av w I lp none cs ((c.toList.drop off).take cs.length)):AC w I lp L (.ptr cs o) (.pointer (some ⟨b,off+o,none⟩))
 | agg {L} (cs:jh) (vs:Array i8) (U:By vs.toList) (h:Av w I lp L cs vs.toList):AC w I lp L (.agg cs) (.agg vs)
 | iface {L} (t:je) (x:W) (v:i8) (h:AC w I lp L x v):AC w I lp L (.iface t x) (.iface t v)
 | fn {L} (f:ja) (cs:jh) (us vs:Array i8) (hk:us.size=Gf f) (h:Av w I lp L cs (us.toList++vs.toList)):AC w I lp L (.fn f cs) (.func (.func (Ba f)) us vs)
 | ke {L} (d l:Nat) (h:lp d=some l):AC w I lp L (.ke d) (.func (.yield l) #[] #[])
 | jE {L} (H:jh) (vs:Array i8) (h:Av w I lp L H vs.toList):AC w I lp L (.jE H) (.tuple vs)
 | ki {L} (es:jh) (r:Nat) (kg:Array MapEntry) (clock:Nat) (hI:I r) (hb:w.heap[r]?=some (.map kg clock))
   (T:Av w I lp none es (GT kg.toList)):AC w I lp L (.ki es) (.map (some r))
 | j8 {L} (g:Nat) (t:je) (x:i8) (c:Array i8) (E:je) (fr:Nat×Nat) (hI:I g) (hb:w.heap[g]?=some (.cells c E fr)) (hv:c[0]?=some (.iface t x)):AC w I lp L (.j8 g t) (.iface t x)
 | ref {L:AK} (V:Nm) (o b C:Nat) (h:L V=some (some (b,C))):AC w I lp (some L) (.ref V o) (.pointer (some ⟨b,o,none⟩))
 | jQ {L:AK} (V:Nm) (k i o b C:Nat) (h:L V=some (some (b,C))):AC w I lp (some L) (.jQ V k i o) (.pointer (some ⟨b,i*k+o,none⟩))
 | arr {L:AK} (V:Nm) (k o n cap b C:Nat) (h:L V=some (some (b,C))) (hC:(o+cap)*k<=C) (hn:n<=cap) :
   AC w I lp (some L) (.arr V k o n) (.slice (some ⟨b,o*k,none⟩) n cap)
 | l6 {L:AK} (V:Nm) (k:Nat) (h:L V=some none):AC w I lp (some L) (.arr V k 0 0) (.slice none 0 0)
 | mp {L:AK} (V:Nm) (b C:Nat) (h:L V=some (some (b,C))):AC w I lp (some L) (.mp V) (.map (some b))
 | it {L:AK} (V:Nm) (b C:Nat) (h:L V=some (some (b,C))):AC w I lp (some L) (.it V) (.pointer (some ⟨b,0,none⟩))
inductive Av (w:i7) (I:Nat->Prop) (lp:Nat->jj):jr->jh->List i8->Prop
 | nil {L}:Av w I lp L [] []
 | cons {L} (x:W) (v:i8) (H:jh) (vs:List i8) (h:AC w I lp L x v) (hs:Av w I lp L H vs):Av w I lp L (x :: H) (v :: vs)
end
def NT (L L':AK):Prop:=∀ V p,L V=some p->L' V=some p
def sJ (lp mT:Nat->jj):Prop:=∀ d l,lp d=some l->mT d=some l
section mono
variable {w w':i7} {I I':Nat->Prop} {lp mT:Nat->jj}
mutual
theorem AC.mono (hI:∀ b,I b->I' b) (hb:∀ b,I b->w'.heap[b]?=w.heap[b]?) (hl:sJ lp mT) {L:jr} {x:W} {v:i8}:AC w I lp L x v->AC w' I' mT L x v
 | .undef v=>.undef v
 | .bool b=>.bool b
 | .int k n=>.int k n
 | .str s=>.str s
 | .jD=>.jD
 | .kB=>.kB
 | .jV=>.jV
 | .jK=>.jK
 | .kL=>.kL
 | .po k full a cap hf=>.po k full a cap hf
 | .sl k H full b off cap c E fr U O h3 h4 h5 h6 h8 h7=>.sl k H full b off cap c E fr (hI b U) ((hb b U).trans O) h3 h4 h5 h6 h8 (Av.mono hI hb hl h7)
 | .ptr cs o b off c E fr U O h3 h4 h8 h5=>.ptr cs o b off c E fr (hI b U) ((hb b U).trans O) h3 h4 h8 (Av.mono hI hb hl h5)
 | .agg cs vs U h=>.agg cs vs U (Av.mono hI hb hl h)
 | .iface t x v h=>.iface t x v (AC.mono hI hb hl h)
 | .fn f cs us vs hk h=>.fn f cs us vs hk (Av.mono hI hb hl h)
 | .ke d l h=>.ke d l (hl d l h)
 | .jE H vs h=>.jE H vs (Av.mono hI hb hl h)
 | .ki es r kg clock U O h3=>.ki es r kg clock (hI r U) ((hb r U).trans O) (Av.mono hI hb hl h3)
 | .j8 g t x c E fr U O h3=>.j8 g t x c E fr (hI g U) ((hb g U).trans O) h3
 | .ref V o b C h=>.ref V o b C h
 | .jQ V k i o b C h=>.jQ V k i o b C h
 | .arr V k o n cap b C h hC hn=>.arr V k o n cap b C h hC hn
 | .l6 V k h=>.l6 V k h
 | .mp V b C h=>.mp V b C h
 | .it V b C h=>.it V b C h
theorem Av.mono (hI:∀ b,I b->I' b) (hb:∀ b,I b->w'.heap[b]?=w.heap[b]?) (hl:sJ lp mT) {L:jr} {H:jh} {vs:List i8}:Av w I lp L H vs->Av w' I' mT L H vs
 | .nil=>.nil
 | .cons x v H vs h hs=>.cons x v H vs (AC.mono hI hb hl h) (Av.mono hI hb hl hs)
end
end mono
section lift
variable {w:i7} {I:Nat->Prop} {lp:Nat->jj}
mutual
theorem AC.lift {x:W} {v:i8} (L:jr):AC w I lp none x v->AC w I lp L x v
 | .undef v=>.undef v
 | .bool b=>.bool b
 | .int k n=>.int k n
 | .str s=>.str s
 | .jD=>.jD
 | .kB=>.kB
 | .jV=>.jV
 | .jK=>.jK
 | .kL=>.kL
 | .po k full a cap hf=>.po k full a cap hf
 | .sl k H full b off cap c E fr U O h3 h4 h5 h6 h8 h7=>.sl k H full b off cap c E fr U O h3 h4 h5 h6 h8 h7
 | .ptr cs o b off c E fr U O h3 h4 h8 h5=>.ptr cs o b off c E fr U O h3 h4 h8 h5
 | .agg cs vs U h=>.agg cs vs U (h.lift L)
 | .iface t x v h=>.iface t x v (h.lift L)
 | .fn f cs us vs hk h=>.fn f cs us vs hk (h.lift L)
 | .ke d l h=>.ke d l h
 | .jE H vs h=>.jE H vs (h.lift L)
 | .ki es r kg clock U O h3=>.ki es r kg clock U O h3
 | .j8 g t x c E fr U O h3=>.j8 g t x c E fr U O h3
theorem Av.lift {H:jh} {vs:List i8} (L:jr):Av w I lp none H vs->Av w I lp L H vs
 | .nil=>.nil
 | .cons x v H vs h hs=>.cons x v H vs (h.lift L) (hs.lift L)
end
mutual
theorem AC.shut {L:jr} {x:W} {v:i8}:AC w I lp L x v->x.names=[]->AC w I lp none x v
 | .undef v,_=>.undef v
 | .bool b,_=>.bool b
 | .int k n,_=>.int k n
 | .str s,_=>.str s
 | .jD,_=>.jD
 | .kB,_=>.kB
 | .jV,_=>.jV
 | .jK,_=>.jK
 | .kL,_=>.kL
 | .po k full a cap hf,_=>.po k full a cap hf
 | .sl k H full b off cap c E fr U O h3 h4 h5 h6 h8 h7,_=>.sl k H full b off cap c E fr U O h3 h4 h5 h6 h8 h7
 | .ptr cs o b off c E fr U O h3 h4 h8 h5,_=>.ptr cs o b off c E fr U O h3 h4 h8 h5
 | .agg cs vs U h,e=>.agg cs vs U (h.shut (by simpa[W.names] using e))
 | .iface t x v h,e=>.iface t x v (h.shut (by simpa[W.names] using e))
 | .fn f cs us vs hk h,e=>.fn f cs us vs hk (h.shut (by simpa[W.names] using e))
 | .ke d l h,_=>.ke d l h
 | .jE H vs h,e=>.jE H vs (h.shut (by simpa[W.names] using e))
 | .ki es r kg clock U O h3,_=>.ki es r kg clock U O h3
 | .j8 g t x c E fr U O h3,_=>.j8 g t x c E fr U O h3
 | .ref V o b C h,e=>by simp[W.names] at e
 | .jQ V k i o b C h,e=>by simp[W.names] at e
 | .arr V k o n cap b C h hC hn,e=>by simp[W.names] at e
 | .l6 V k h,e=>by simp[W.names] at e
 | .mp V b C h,e=>by simp[W.names] at e
 | .it V b C h,e=>by simp[W.names] at e
theorem Av.shut {L:jr} {H:jh} {vs:List i8}:Av w I lp L H vs->AU H=[]->Av w I lp none H vs
 | .nil,_=>.nil
 | .cons x v H vs h hs,e=>.cons x v H vs (h.shut (List.append_eq_nil_iff.1 e).1) (hs.shut (List.append_eq_nil_iff.1 e).2)
end
mutual
theorem AC.lJ {L L':AK} {x:W} {v:i8}:AC w I lp (some L) x v->NT L L'->AC w I lp (some L') x v
 | .undef v,_=>.undef v
 | .bool b,_=>.bool b
 | .int k n,_=>.int k n
 | .str s,_=>.str s
 | .jD,_=>.jD
 | .kB,_=>.kB
 | .jV,_=>.jV
 | .jK,_=>.jK
 | .kL,_=>.kL
 | .po k full a cap hf,_=>.po k full a cap hf
 | .sl k H full b off cap c E fr U O h3 h4 h5 h6 h8 h7,_=>.sl k H full b off cap c E fr U O h3 h4 h5 h6 h8 h7
 | .ptr cs o b off c E fr U O h3 h4 h8 h5,_=>.ptr cs o b off c E fr U O h3 h4 h8 h5
 | .agg cs vs U h,e=>.agg cs vs U (h.lJ e)
 | .iface t x v h,e=>.iface t x v (h.lJ e)
 | .fn f cs us vs hk h,e=>.fn f cs us vs hk (h.lJ e)
 | .ke d l h,_=>.ke d l h
 | .jE H vs h,e=>.jE H vs (h.lJ e)
 | .ki es r kg clock U O h3,_=>.ki es r kg clock U O h3
 | .j8 g t x c E fr U O h3,_=>.j8 g t x c E fr U O h3
 | .ref V o b C h,e=>.ref V o b C (e _ _ h)
 | .jQ V k i o b C h,e=>.jQ V k i o b C (e _ _ h)
 | .arr V k o n cap b C h hC hn,e=>.arr V k o n cap b C (e _ _ h) hC hn
 | .l6 V k h,e=>.l6 V k (e _ _ h)
 | .mp V b C h,e=>.mp V b C (e _ _ h)
 | .it V b C h,e=>.it V b C (e _ _ h)
theorem Av.lJ {L L':AK} {H:jh} {vs:List i8}:Av w I lp (some L) H vs->NT L L'->Av w I lp (some L') H vs
 | .nil,_=>.nil
 | .cons x v H vs h hs,e=>.cons x v H vs (h.lJ e) (hs.lJ e)
end
end lift
section lists
variable {w:i7} {I:Nat->Prop} {lp:Nat->jj} {L:jr}
theorem Av.length {H:jh} (h:Av w I lp L H vs):H.length=vs.length:=by
 induction H generalizing vs with
 | nil=>cases h;rfl
 | cons x H ih=>cases h with | cons _ v _ vs h hs=>simp[ih hs]
theorem Av.get {H:jh} (h:Av w I lp L H vs) (A:H[i]?=some x):∃ v,vs[i]?=some v/\AC w I lp L x v:=by
 induction H generalizing vs i with
 | nil=>simp at A
 | cons y H ih =>
  cases h with
  | cons _ v _ vs h hs =>
   cases i with
   | zero=>simp at A;subst A;exact⟨v,rfl,h⟩
   | succ i=>simp at A |-;exact ih hs A
theorem Av.append {H:jh} (h:Av w I lp L H vs) (h':Av w I lp L ys us):Av w I lp L (H++ys) (vs++us):=by
 induction H generalizing vs with
 | nil=>cases h;exact h'
 | cons x H ih=>cases h with | cons _ v _ vs h hs=>exact .cons _ _ _ _ h (ih hs)
theorem Av.take {H:jh} (h:Av w I lp L H vs) (n:Nat):Av w I lp L (H.take n) (vs.take n):=by
 induction H generalizing vs n with
 | nil=>cases h;simp;exact .nil
 | cons x H ih =>
  cases h with
  | cons _ v _ vs h hs =>
   cases n with
   | zero=>exact .nil
   | succ n=>exact .cons _ _ _ _ h (ih hs n)
theorem Av.drop {H:jh} (h:Av w I lp L H vs) (n:Nat):Av w I lp L (H.drop n) (vs.drop n):=by
 induction H generalizing vs n with
 | nil=>cases h;simp;exact .nil
 | cons x H ih =>
  cases h with
  | cons _ v _ vs h hs =>
   cases n with
   | zero=>exact .cons _ _ _ _ h hs
   | succ n=>exact ih hs n
theorem Av.set {H:jh} (h:Av w I lp L H vs) (i:Nat) (A:AC w I lp L x v):Av w I lp L (H.set i x) (vs.set i v):=by
 induction H generalizing vs i with
 | nil=>cases h;exact .nil
 | cons y H ih =>
  cases h with
  | cons _ u _ vs h hs =>
   cases i with
   | zero=>exact .cons _ _ _ _ A hs
   | succ i=>exact .cons _ _ _ _ h (ih hs i)
theorem Av.split {H:jh} (h:Av w I lp L (H++ys) vs):∃ us ts,vs=us++ts/\Av w I lp L H us/\Av w I lp L ys ts:=by
 induction H generalizing vs with
 | nil=>exact⟨[],vs,rfl,.nil,h⟩
 | cons x H ih =>
  cases h with
  | cons _ v _ vs h hs =>
   obtain⟨us,ts,rfl,U,O⟩:=ih hs;exact⟨v :: us,ts,rfl,.cons _ _ _ _ h U,O⟩
theorem Av.kC (n:Nat) (vs:List i8) (h:vs.length=n):Av w I lp L (List.replicate n .undef) vs:=by
 induction n generalizing vs with
 | zero=>cases vs with | nil=>exact .nil | cons v vs=>simp at h
 | succ n ih=>cases vs with | nil=>simp at h | cons v vs=>exact .cons _ _ _ _ (.undef v) (ih vs (by simpa using h))
theorem Av.getD {H:jh} (h:Av w I lp L H vs) (i:Nat) (d:i8):AC w I lp L (H.getD i .undef) (vs.getD i d):=by
 cases A:H[i]? with
 | none=>rw[dO,A];exact .undef _
 | some x =>
  obtain⟨v,hv,T⟩:=h.get A;rw[dO,dO,A,hv];exact T
theorem AC.cells (h:AC w I lp L x v) (hu:x.isVal=true):By v.cells.toList/\Av w I lp L x.cells v.cells.toList:=by
 cases h<;>first
  |(simp[W.isVal] at hu;done)
  |(simp only[W.cells,Value.cells];exact⟨by simp[By,Value.oneCell'],.cons _ _ _ _ (by constructor<;>assumption) .nil⟩)
  |(simp only[W.cells,Value.cells];exact⟨by assumption,by assumption⟩)
theorem Lf (H ys:jh):jM (H++ys)=jM H++jM ys:=by
 induction H with
 | nil=>rfl
 | cons x H ih=>simp[jM,ih]
theorem Le {H:jh} (h:∀ x∈H,x.cells.length=k):(jM H).length=H.length*k:=by
 induction H with
 | nil=>simp[jM]
 | cons x H ih =>
  simp only[jM,eA,eS,h x (by simp),ih fun y hy=>h y (by simp[hy])];rw[eg,fR,Nat.add_comm]
theorem Mw {H:jh} (h:∀ x∈H,x.cells.length=k) (i:Nat):jM (H.drop i)=(jM H).drop (i*k):=by
 induction H generalizing i with
 | nil=>simp[jM]
 | cons x H ih =>
  cases i with
  | zero=>simp
  | succ i =>
   simp only[List.drop_succ_cons,jM];have A:=h x (by simp);rw[ih (fun y hy=>h y (by simp[hy])) i,show (i+1)*k=x.cells.length+i*k from by rw[eg,fR,Nat.add_comm,A],<-fY,List.drop_left]
theorem Ka {H:jh} (h:∀ x∈H,x.cells.length=k) (i:Nat):jM (H.take i)=(jM H).take (i*k):=by
 induction H generalizing i with
 | nil=>simp[jM]
 | cons x H ih =>
  cases i with
  | zero=>simp[jM]
  | succ i =>
   simp only[hH,jM];rw[ih (fun y hy=>h y (by simp[hy])) i,hJ];have A:=h x (by simp);rw[show (i+1)*k=k+i*k from by rw[eg,fR,Nat.add_comm],dV (l:=x.cells) (by omega),A,gh]
theorem Tk {H:jh} (h:∀ x∈H,x.cells.length=k) (A:H[i]?=some x):((jM H).drop (i*k)).take k=x.cells:=by
 rw[<-Mw h];have hd:H.drop i=x :: H.drop (i+1):=by obtain⟨hi,rfl⟩:=dU.1 A;exact eX hi
 rw[hd,jM,hJ,dV (by have:=h x (d9 A);omega)];have:=h x (d9 A);simp[this]
end lists
def Sv (w:i7) (I:Nat->Prop) (lp:Nat->jj) (L:AK) (b C:Nat):Ob->Prop
 | .cells ty cs=>∃ c E,w.heap[b]?=some (.cells c E (0,0))/\c.size=C/\(By c.toList/\(ty=0\/E=ty))/\Av w I lp (some L) cs c.toList
 | .arr k kt H=>∃ c E,w.heap[b]?=some (.cells c E (0,0))/\c.size=C/\(H.length*k<=C/\(kt=0\/E=kt))/\(∀ x∈H,x.cells.length=k)/\By (c.toList.take (H.length*k))/\Av w I lp none (jM H) (c.toList.take (H.length*k))
 | .map es=>∃ kg clock,w.heap[b]?=some (.map kg clock)/\Av w I lp none es (GT kg.toList)
 | .jT s pos=>w.heap[b]?=some (.stringIter ⟨s.toArray⟩ pos)
def BR (w:i7) (I:Nat->Prop) (lp:Nat->jj) (L:AK) (ob:Ob):Option (Nat×Nat)->Prop
 | some (b,C)=>Sv w I lp L b C ob
 | none=>∃ k kt,ob=.arr k kt []
theorem BR.mono {w w':i7} {I I':Nat->Prop} {lp mT:Nat->jj} {L:AK} {ob:Ob} (h:BR w I lp L ob p)
  (hI:∀ b,I b->I' b) (hb:∀ b,I b->w'.heap[b]?=w.heap[b]?) (hl:sJ lp mT) (hw:∀ b C,p=some (b,C)->w'.heap[b]?=w.heap[b]?):BR w' I' mT L ob p:=by
 cases p with
 | none=>exact h
 | some p =>
  obtain⟨b,C⟩:=p;have hw:=hw b C rfl;cases ob with
  | cells ty cs=>obtain⟨c,E,U,O,h4,h3⟩:=h;exact⟨c,E,hw.trans U,O,h4,Av.mono hI hb hl h3⟩
  | arr k kt H=>obtain⟨c,E,U,O,h3,h4,h6,h5⟩:=h;exact⟨c,E,hw.trans U,O,h3,h4,h6,Av.mono hI hb hl h5⟩
  | map es=>obtain⟨c,E,U,O⟩:=h;exact⟨c,E,hw.trans U,Av.mono hI hb hl O⟩
  | jT s pos=>exact hw.trans h
theorem BR.lJ {w:i7} {I:Nat->Prop} {lp:Nat->jj} {L L':AK} {ob:Ob} (h:BR w I lp L ob p) (hL:NT L L'):BR w I lp L' ob p:=by
 cases p with
 | none=>exact h
 | some p =>
  cases ob with
  | cells ty cs=>obtain⟨c,E,U,O,h4,h3⟩:=h;exact⟨c,E,U,O,h4,h3.lJ hL⟩
  | arr k kt H=>exact h
  | map es=>exact h
  | jT s pos=>exact h
def Vj (w:i7) (I:Nat->Prop) (lp:Nat->jj) (b:Nat):Ob->Prop
 | .cells _ cs=>I b/\∃ c E fr,w.heap[b]?=some (.cells c E fr)/\cs.length<=c.size/\By (c.toList.take cs.length)/\Av w I lp none cs (c.toList.take cs.length)
 | .arr k kt H=>I b/\∃ c E fr,w.heap[b]?=some (.cells c E fr)/\H.length*k<=c.size/\(∀ x∈H,x.cells.length=k)/\By (c.toList.take (H.length*k))/\Av w I lp none (jM H) (c.toList.take (H.length*k))
 | .map es=>I b/\∃ kg clock,w.heap[b]?=some (.map kg clock)/\Av w I lp none es (GT kg.toList)
 | .jT _ _=>True
def Fj (w:i7) (I':Nat->Prop) (lp:Nat->jj) (L:AK) (L':jr) (S:Nm->Prop) (f:Nm->Option jk):Prop :=
 ∀ V p,S V->L V=some p->match f V with
  | none=>∃ M,L'=some M/\M V=some p
  | some none=>True
  | some (some ob)=>match p with
   | some (b,_)=>Vj w I' lp b ob
   | none=>∃ k kt,ob=.arr k kt []
section sub
variable {w:i7} {I I':Nat->Prop} {lp:Nat->jj} {L:AK} {L':jr} {S:Nm->Prop} {f:Nm->Option jk}
theorem sub_ref (hs:Fj w I' lp L L' S f) (V:Nm) (hS:S V) (o b C:Nat) (h:L V=some (some (b,C))) :
  AC w I' lp L' ((W.ref V o).sub f) (.pointer (some ⟨b,o,none⟩)):=by
 have:=hs V _ hS h;simp only[W.sub];split at this;{rename_i hf;obtain⟨M,rfl,hM⟩:=this;rw[hf];exact .ref V o b C hM};{rename_i hf;rw[hf];exact .undef _}
 ·rename_i ob hf;rw[hf];cases ob with
  | cells ty cs =>
   obtain⟨hi,c,E,fr,U,O,h5,h3⟩:=this;simp only
   split;{rename_i ho;have:=AC.ptr (w:=w) (I:=I') (lp:=lp) (L:=L') cs o b 0 c E fr hi U (by omega) ho (by simpa using h5) (by simpa using h3);simpa using this};{exact .undef _}
  | arr k kt H=>exact .undef _
  | map es=>exact .undef _
  | jT s p=>exact .undef _
theorem wC (hs:Fj w I' lp L L' S f) (V:Nm) (hS:S V) (k i o b C:Nat) (h:L V=some (some (b,C))) :
  AC w I' lp L' ((W.jQ V k i o).sub f) (.pointer (some ⟨b,i*k+o,none⟩)):=by
 have:=hs V _ hS h;simp only[W.sub];split at this;{rename_i hf;obtain⟨M,rfl,hM⟩:=this;rw[hf];exact .jQ V k i o b C hM};{rename_i hf;rw[hf];exact .undef _}
 ·rename_i ob hf;rw[hf];cases ob with
  | arr k' kt H =>
   obtain⟨hi,c,E,fr,U,O,h3,h5,h4⟩:=this;simp only
   split
   ·rename_i hk;subst hk;split
    ·rename_i x A;split
     ·rename_i ho;have nJ:=h3 x (d9 A);have jP:=(dU.1 A).1;have hle:(i+1)*k<=H.length*k:=eT _ jP;rw[eg,fR] at hle;have e:((c.toList.take (H.length*k)).drop (i*k)).take k=(c.toList.drop (i*k)).take k:=by rw[fD,eU,eG (by omega)]
      refine AC.ptr x.cells o b (i*k) c E fr hi U (by omega) ho ?_ ?_;{rw[nJ,<-e];exact (h5.ng _).mS _}
      ·have:=(h4.drop (i*k)).take k;rw[Tk h3 A] at this;rw[nJ]
       rwa [e] at this
     {exact .undef _}
    {exact .undef _}
   {exact .undef _}
  | cells ty cs=>exact .undef _
  | map es=>exact .undef _
  | jT s p=>exact .undef _
theorem sub_arr (hs:Fj w I' lp L L' S f) (V:Nm) (hS:S V) (k o n cap b C:Nat) (h:L V=some (some (b,C))) (hC:(o+cap)*k<=C) (hn:n<=cap) :
  AC w I' lp L' ((W.arr V k o n).sub f) (.slice (some ⟨b,o*k,none⟩) n cap):=by
 have:=hs V _ hS h;simp only[W.sub];split at this;{rename_i hf;obtain⟨M,rfl,hM⟩:=this;rw[hf];exact .arr V k o n cap b C hM hC hn};{rename_i hf;rw[hf];exact .undef _}
 ·rename_i ob hf;rw[hf];cases ob with
  | arr k' kt H =>
   obtain⟨hi,c,E,fr,U,O,h3,h5,h4⟩:=this;simp only
   split
   ·rename_i hk;obtain⟨rfl,hon⟩:=hk;have hlen:((H.drop o).take n).length=n:=by simp;omega
    have hm:∀ x∈(H.drop o).take n,x.cells.length=k:=fun x A=>h3 x (e8 (eE A));have hle:(o+n)*k<=H.length*k:=eT _ hon;rw[eg] at hle;have e:((c.toList.take (H.length*k)).drop (o*k)).take (n*k)=(c.toList.drop (o*k)).take (n*k):=by rw[fD,eU,eG (by omega)]
    have key:=AC.sl (w:=w) (I:=I') (lp:=lp) (L:=L') k ((H.drop o).take n) false b (o*k) cap c E fr hi U (by rw[hlen];omega) hm (by rw[hlen];exact hn) (by simp) ?_ ?_
    ·rwa [hlen] at key
    {rw[hlen,<-e];exact (h5.ng _).mS _}
    ·rw[hlen];have:=(h4.drop (o*k)).take (n*k);rw[<-Mw h3,<-Ka fun x A=>h3 x (e8 A)] at this
     rwa [e] at this
   {exact .undef _}
  | cells ty cs=>exact .undef _
  | map es=>exact .undef _
  | jT s p=>exact .undef _
theorem wD (hs:Fj w I' lp L L' S f) (V:Nm) (hS:S V) (k:Nat) (h:L V=some none) :
  AC w I' lp L' ((W.arr V k 0 0).sub f) (.slice none 0 0):=by
 have:=hs V _ hS h;simp only[W.sub];split at this;{rename_i hf;obtain⟨M,rfl,hM⟩:=this;rw[hf];exact .l6 V k hM};{rename_i hf;rw[hf];exact .undef _}
 ·rename_i ob hf;obtain⟨k',kt,rfl⟩:=this;rw[hf];simp only
  split;{rename_i hk;obtain⟨rfl,_⟩:=hk;simpa using AC.po k false none 0 (by simp)};{exact .undef _}
theorem sub_mp (hs:Fj w I' lp L L' S f) (V:Nm) (hS:S V) (b C:Nat) (h:L V=some (some (b,C))):AC w I' lp L' ((W.mp V).sub f) (.map (some b)):=by
 have:=hs V _ hS h;simp only[W.sub];split at this;{rename_i hf;obtain⟨M,rfl,hM⟩:=this;rw[hf];exact .mp V b C hM};{rename_i hf;rw[hf];exact .undef _}
 ·rename_i ob hf;rw[hf];cases ob with
  | map es=>obtain⟨hi,kg,clock,U,O⟩:=this;exact .ki es b kg clock hi U O
  | cells ty cs=>exact .undef _
  | arr k kt H=>exact .undef _
  | jT s p=>exact .undef _
theorem sub_it (hs:Fj w I' lp L L' S f) (V:Nm) (hS:S V) (b C:Nat) (h:L V=some (some (b,C))):AC w I' lp L' ((W.it V).sub f) (.pointer (some ⟨b,0,none⟩)):=by have:=hs V _ hS h;simp only[W.sub];split at this;{rename_i hf;obtain⟨M,rfl,hM⟩:=this;rw[hf];exact .it V b C hM};{rename_i hf;rw[hf];exact .undef _};{rename_i ob hf;rw[hf];exact .undef _}
mutual
theorem AC.subst (hI:∀ b,I b->I' b) (hs:Fj w I' lp L L' S f) {x:W} {v:i8}:AC w I lp (some L) x v->(∀ V∈x.names,S V)->AC w I' lp L' (x.sub f) v
 | .undef v,_=>.undef v
 | .bool b,_=>.bool b
 | .int k n,_=>.int k n
 | .str s,_=>.str s
 | .jD,_=>.jD
 | .kB,_=>.kB
 | .jV,_=>.jV
 | .jK,_=>.jK
 | .kL,_=>.kL
 | .po k full a cap hf,_=>.po k full a cap hf
 | .sl k H full b off cap c E fr U O h3 h4 h5 h6 h8 h7,_=>.sl k H full b off cap c E fr (hI b U) O h3 h4 h5 h6 h8 (Av.mono hI (fun _ _=>rfl) (fun _ _ h=>h) h7)
 | .ptr cs o b off c E fr U O h3 h4 h8 h5,_=>.ptr cs o b off c E fr (hI b U) O h3 h4 h8 (Av.mono hI (fun _ _=>rfl) (fun _ _ h=>h) h5)
 | .agg cs vs U h,e=>.agg _ vs U (Av.subst hI hs h fun V hn=>e V (by simpa[W.names] using hn))
 | .iface t x v h,e=>.iface t _ v (AC.subst hI hs h fun V hn=>e V (by simpa[W.names] using hn))
 | .fn g cs us vs hk h,e=>.fn g _ us vs hk (Av.subst hI hs h fun V hn=>e V (by simpa[W.names] using hn))
 | .ke d l h,_=>.ke d l h
 | .jE H vs h,e=>.jE _ vs (Av.subst hI hs h fun V hn=>e V (by simpa[W.names] using hn))
 | .ki es r kg clock U O h3,_=>.ki es r kg clock (hI r U) O (Av.mono hI (fun _ _=>rfl) (fun _ _ h=>h) h3)
 | .j8 g t x c E fr U O h3,_=>.j8 g t x c E fr (hI g U) O h3
 | .ref V o b C h,e=>sub_ref hs V (e V (by simp[W.names])) o b C h
 | .jQ V k i o b C h,e=>wC hs V (e V (by simp[W.names])) k i o b C h
 | .arr V k o n cap b C h hC hn,e=>sub_arr hs V (e V (by simp[W.names])) k o n cap b C h hC hn
 | .l6 V k h,e=>wD hs V (e V (by simp[W.names])) k h
 | .mp V b C h,e=>sub_mp hs V (e V (by simp[W.names])) b C h
 | .it V b C h,e=>sub_it hs V (e V (by simp[W.names])) b C h
theorem Av.subst (hI:∀ b,I b->I' b) (hs:Fj w I' lp L L' S f) {H:jh} {vs:List i8}:Av w I lp (some L) H vs->(∀ V∈AU H,S V)->Av w I' lp L' (Bf f H) vs
 | .nil,_=>.nil
 | .cons x v H vs h h',e=>.cons _ v _ vs (AC.subst hI hs h fun V hn=>e V (ec _ hn)) (Av.subst hI hs h' fun V hn=>e V (eh _ hn))
end
end sub
section jR
variable {w:i7} {I:Nat->Prop} {lp:Nat->jj} {L L':AK} {f:Nm->Nm}
mutual
theorem AC.rename (hf:∀ V p,L V=some p->L' (f V)=some p) {x:W} {v:i8}:AC w I lp (some L) x v->AC w I lp (some L') (x.jR f) v
 | .undef v=>.undef v
 | .bool b=>.bool b
 | .int k n=>.int k n
 | .str s=>.str s
 | .jD=>.jD
 | .kB=>.kB
 | .jV=>.jV
 | .jK=>.jK
 | .kL=>.kL
 | .po k full a cap hf=>.po k full a cap hf
 | .sl k H full b off cap c E fr U O h3 h4 h5 h6 h8 h7=>.sl k H full b off cap c E fr U O h3 h4 h5 h6 h8 h7
 | .ptr cs o b off c E fr U O h3 h4 h8 h5=>.ptr cs o b off c E fr U O h3 h4 h8 h5
 | .agg cs vs U h=>.agg _ vs U (Av.rename hf h)
 | .iface t x v h=>.iface t _ v (AC.rename hf h)
 | .fn g cs us vs hk h=>.fn g _ us vs hk (Av.rename hf h)
 | .ke d l h=>.ke d l h
 | .jE H vs h=>.jE _ vs (Av.rename hf h)
 | .ki es r kg clock U O h3=>.ki es r kg clock U O h3
 | .j8 g t x c E fr U O h3=>.j8 g t x c E fr U O h3
 | .ref V o b C h=>.ref _ o b C (hf _ _ h)
 | .jQ V k i o b C h=>.jQ _ k i o b C (hf _ _ h)
 | .arr V k o n cap b C h hC hn=>.arr _ k o n cap b C (hf _ _ h) hC hn
 | .l6 V k h=>.l6 _ k (hf _ _ h)
 | .mp V b C h=>.mp _ b C (hf _ _ h)
 | .it V b C h=>.it _ b C (hf _ _ h)
theorem Av.rename (hf:∀ V p,L V=some p->L' (f V)=some p) {H:jh} {vs:List i8}:Av w I lp (some L) H vs->Av w I lp (some L') (BE f H) vs
 | .nil=>.nil
 | .cons x v H vs h h'=>.cons _ v _ vs (AC.rename hf h) (Av.rename hf h')
end
end jR
end Go.Ab


namespace Go.Ab
variable{S:Nm->Prop} {d:Nat} {f:Nm->Option jk} {m V:Nm} {nK:Ob} {oI σ:List jp} {p:Option (Nat×Nat)} {v:W} {v':i8}
theorem Gh (g:Ob->Ob) (σ:List jp) (V:Nm):Al (σ.map (·.map g)) V=(Al σ V).map g:=by
 unfold Al;rw[dT];cases σ[V.1]? with
 | none=>rfl
 | some l=>simp
theorem Ld {ob:Ob} (o:Ob) (h:Al σ V=some ob):Al (Bv σ V o) V=some o:=by
 unfold Al at h;unfold Al Bv;cases hl:σ[V.1]? with
 | none=>rw[hl] at h;cases h
 | some l =>
  rw[hl] at h;have U:=(dU.1 hl).1;have O:=(dU.1 h).1;simp[U,O]
theorem It (o:Ob) (h:m≠V):Al (Bv σ V o) m=Al σ m:=by
 unfold Al Bv;cases hl:σ[V.1]? with
 | none=>rfl
 | some l =>
  by_cases U:m.1=V.1;{have O:m.2≠V.2:=fun e=>h (Prod.ext U e);have jP:=(dU.1 hl).1;rw[U,hl,fS jP];simp[eB (eH O)]};{rw[eB (eH U)]}
theorem J6 (o:Ob):Al (Bv σ V o) m=none↔Al σ m=none:=by
 by_cases h:m=V
 ·subst h;cases hl:Al σ m with
  | some ob=>rw[Ld o hl];simp
  | none =>
   unfold Al at hl;unfold Al Bv;cases hs:σ[m.1]? with
   | none=>simp[hs]
   | some l =>
    rw[hs] at hl;have U:=(dU.1 hs).1;simp[U];exact eI.1 hl
 {rw[It o h]}
theorem HZ (obs:jp) (hd:d < σ.length) (j:Nat):Al (σ.set d obs) (d,j)=obs[j]?:=by unfold Al;simp[hd]
theorem G1 (obs:jp) (h:m.1≠d):Al (σ.set d obs) m=Al σ m:=by unfold Al;rw[eB (eH h)]
structure SR (lp:Nat->jj) (I:Nat->Prop) (L:AK) (Z:St) (j4 jH:List i8) (w:i7):Prop where
 tm:Av w I lp (some L) Z.tmps j4
 kp:Av w I lp (some L) Z.jG jH
 ob:∀ V ob,Al Z.jC V=some ob->∃ p,L V=some p/\BR w I lp L ob p
 mf:∀ V,Al Z.jC V=none->L V=none
section sr
variable {lp:Nat->jj} {I I':Nat->Prop} {L L':AK} {Z:St} {j4 jH:List i8} {w w':i7}
theorem SR.keeps (h:SR lp I L Z j4 jH w) (hI:∀ b,I b->I' b) (hb:∀ b,I b->w'.heap[b]?=w.heap[b]?)
  (ho:∀ V b C,L V=some (some (b,C))->w'.heap[b]?=w.heap[b]?):SR lp I' L Z j4 jH w' where
 tm:=Av.mono hI hb (fun _ _ h=>h) h.tm
 kp:=Av.mono hI hb (fun _ _ h=>h) h.kp
 ob V ob hl:=by obtain⟨p,hp,ha⟩:=h.ob V ob hl;exact⟨p,hp,ha.mono hI hb (fun _ _ h=>h) fun b C e=>ho V b C (by rw[hp,e])⟩
 mf:=h.mf
theorem SR.put (h:SR lp I L Z j4 jH w) (d:Nat) (hv:AC w I lp (some L) v v'):SR lp I L {Z with tmps:=Z.tmps.set d v} (j4.set d v') jH w :=
 {h with tm:=h.tm.set d hv}
def CZ (L:AK) (d:Nat) (ps:List (Option (Nat×Nat))):AK:=fun V=>if V.1=d then ps[V.2]? else L V
theorem SR.fresh (h:SR lp I L Z j4 jH w) (hd:Z.jC[d]?=some []) (ps:List (Option (Nat×Nat))):NT L (CZ L d ps):=by intro V p hp;unfold CZ;split;{rename_i hn;exfalso;have:=h.mf V (by unfold Al;rw[hn,hd];rfl);rw[hp] at this;cases this};{exact hp}
theorem SR.news (h:SR lp I L Z j4 jH w) (hd:Z.jC[d]?=some []) (obs:jp) (ps:List (Option (Nat×Nat))) (hl:ps.length=obs.length)
  (l7:∀ (j:Nat) (ob:Ob) (p:Option (Nat×Nat)),obs[j]?=some ob->ps[j]?=some p->BR w I lp (CZ L d ps) ob p) :
  SR lp I (CZ L d ps) {Z with jC:=Z.jC.set d obs} j4 jH w where
 tm:=h.tm.lJ (h.fresh hd ps)
 kp:=h.kp.lJ (h.fresh hd ps)
 ob V ob kD:=by by_cases hn:V.1=d;{obtain⟨a,j⟩:=V;simp only at hn;subst hn;simp only at kD;rw[HZ obs (dU.1 hd).1] at kD;have hj:=(dU.1 kD).1;refine⟨ps[j]'(by omega),by simp[CZ,hl,hj],l7 j ob _ kD (by simp[hl,hj])⟩};{simp only at kD;rw[G1 obs hn] at kD;obtain⟨p,hp,ha⟩:=h.ob V ob kD;exact⟨p,by simp[CZ,hn,hp],ha.lJ (h.fresh hd ps)⟩}
 mf V kD:=by by_cases hn:V.1=d;{obtain⟨a,j⟩:=V;simp only at hn;subst hn;simp only at kD;rw[HZ obs (dU.1 hd).1] at kD;have:=eI.1 kD;simp only[CZ,iH];exact eI.2 (by omega)};{simp only at kD;rw[G1 obs hn] at kD;simp only[CZ,hn,iG];exact h.mf V kD}
theorem SR.kA (h:SR lp I L Z j4 jH w) (hp:L V=some p) (hb:∀ b,I b->w'.heap[b]?=w.heap[b]?)
  (ho:∀ m b C,m≠V->L m=some (some (b,C))->w'.heap[b]?=w.heap[b]?) (l7:BR w' I lp L nK p) :
  SR lp I L {Z with jC:=Bv Z.jC V nK} j4 jH w' where
 tm:=Av.mono (fun _ h=>h) hb (fun _ _ h=>h) h.tm
 kp:=Av.mono (fun _ h=>h) hb (fun _ _ h=>h) h.kp
 ob m ob hl:=by
  simp only at hl;by_cases hm:m=V
  ·subst hm
   have mc:∃ o,Al Z.jC m=some o:=by
    cases hk:Al Z.jC m with
    | some o=>exact⟨o,rfl⟩
    | none=>have:=h.mf m hk;rw[hp] at this;cases this
   obtain⟨o,hk⟩:=mc;rw[Ld nK hk] at hl;cases hl;exact⟨p,hp,l7⟩
  {rw[It nK hm] at hl;obtain⟨q,hq,ha⟩:=h.ob m ob hl;exact⟨q,hq,ha.mono (fun _ h=>h) hb (fun _ _ h=>h) fun b C e=>ho m b C hm (by rw[hq,e])⟩}
 mf m hl:=by simp only at hl;exact h.mf m ((J6 nK).1 hl)
theorem BR.subst {ob:Ob} (h:BR w I lp L ob p) (hI:∀ b,I b->I' b) (hb:∀ b,I b->w'.heap[b]?=w.heap[b]?)
  (hs:Fj w' I' lp L (some L') S f) (hn:∀ V∈ob.names,S V) (hw:∀ b C,p=some (b,C)->w'.heap[b]?=w.heap[b]?):BR w' I' lp L' (ob.sub f) p:=by
 cases p with
 | none=>obtain⟨k,kt,rfl⟩:=h;exact⟨k,kt,rfl⟩
 | some p =>
  obtain⟨b,C⟩:=p;have hw:=hw b C rfl;cases ob with
  | cells ty cs =>
   obtain⟨c,E,U,O,h4,h3⟩:=h;exact⟨c,E,hw.trans U,O,h4,Av.subst hI hs (Av.mono (fun _ h=>h) hb (fun _ _ h=>h) h3) hn⟩
  | arr k kt H=>obtain⟨c,E,U,O,h3,h4,h6,h5⟩:=h;exact⟨c,E,hw.trans U,O,h3,h4,h6,Av.mono hI hb (fun _ _ h=>h) h5⟩
  | map es=>obtain⟨c,E,U,O⟩:=h;exact⟨c,E,hw.trans U,Av.mono hI hb (fun _ _ h=>h) O⟩
  | jT s pos=>exact hw.trans h
theorem SR.subst (h:SR lp I L Z j4 jH w) (hI:∀ b,I b->I' b) (hb:∀ b,I b->w'.heap[b]?=w.heap[b]?)
  (hs:Fj w' I' lp L (some L') (fun _=>True) f)
  (l7:∀ V ob,Al oI V=some ob->∃ p,L' V=some p/\BR w' I' lp L' ob p) (hdom:∀ V,Al oI V=none->L' V=none) :
  SR lp I' L' {tmps:=Bf f Z.tmps,jC:=oI,jG:=Bf f Z.jG} j4 jH w' where
 tm:=Av.subst hI hs (Av.mono (fun _ h=>h) hb (fun _ _ h=>h) h.tm) fun _ _=>trivial
 kp:=Av.subst hI hs (Av.mono (fun _ h=>h) hb (fun _ _ h=>h) h.kp) fun _ _=>trivial
 ob:=l7
 mf:=hdom
theorem SR.wE (h:SR lp I L Z j4 jH w) {k kt:Nat} {H:jh} {p':Option (Nat×Nat)} (hp:L V=some p) (hb:∀ b,I b->w'.heap[b]?=w.heap[b]?)
  (ho:∀ m b C,m≠V->L m=some (some (b,C))->w'.heap[b]?=w.heap[b]?)
  (l7:BR w' I lp (fun m=>if m=V then some p' else L m) (.arr k kt H) p') :
  SR lp I (fun m=>if m=V then some p' else L m) (EK (fun m=>if m=V then some none else none) {Z with jC:=Bv Z.jC V (.arr k kt H)}) j4 jH w':=by
 have hs:Fj w' I lp L (some fun m=>if m=V then some p' else L m) (fun _=>True) (fun m=>if m=V then some none else none):=by intro m q _ hq;by_cases hm:m=V;{simp[hm]};{simp[hm,hq]}
 obtain⟨o,hk⟩:∃ o,Al Z.jC V=some o:=by
  cases hk:Al Z.jC V with
  | some o=>exact⟨o,rfl⟩
  | none=>have:=h.mf V hk;rw[hp] at this;cases this
 refine h.subst (fun _ h=>h) hb hs ?_ ?_;{intro m ob hl;simp only[Gh,dG] at hl;obtain⟨p9,hl,rfl⟩:=hl;by_cases hm:m=V;{subst hm;rw[Ld _ hk] at hl;cases hl;exact⟨p',by simp,l7⟩};{rw[It _ hm] at hl;obtain⟨q,hq,ha⟩:=h.ob m p9 hl;exact⟨q,by simp[hm,hq],ha.subst (fun _ h=>h) hb hs (fun _ _=>trivial) fun b C e=>ho m b C hm (by rw[hq,e])⟩}};{intro m hl;simp only[Gh,Option.map_eq_none_iff] at hl;have r9:=(J6 _).1 hl;by_cases hm:m=V;{subst hm;rw[hk] at r9;cases r9};{simp[hm,h.mf m r9]}}
end sr
structure CI (I F:Nat->Prop) (w:i7) (I' F':Nat->Prop) (w':i7):Prop where
 os:w'.os=w.os
 tape:w'.tape=w.tape
 output:w'.output=w.output
 size:w.heap.size<=w'.heap.size
 jG:∀ b,b < w.heap.size->¬ F b->w'.heap[b]?=w.heap[b]?
 nA:∀ b,I b->I' b
 nh:∀ b,I' b->I b\/F b\/w.heap.size<=b
 nB:∀ b,F' b->F b\/w.heap.size<=b
theorem CI.refl (I F:Nat->Prop) (w:i7):CI I F w I F w:=⟨rfl,rfl,rfl,dH _,fun _ _ _=>rfl,fun _ h=>h,fun _ h=>.inl h,fun _ h=>.inl h⟩
theorem CI.trans {I F I' F' I'' F'':Nat->Prop} {w w' w'':i7} (h:CI I F w I' F' w') (h':CI I' F' w' I'' F'' w''):CI I F w I'' F'' w'' where
 os:=h'.os.trans h.os
 tape:=h'.tape.trans h.tape
 output:=h'.output.trans h.output
 size:=fj h.size h'.size
 jG b hb hF:=(h'.jG b (fm hb h.size) fun hf=>(h.nB b hf).elim hF fun U=>by omega).trans (h.jG b hb hF)
 nA b hb:=h'.nA b (h.nA b hb)
 nh b hb:=by rcases h'.nh b hb with U | U | U;{exact h.nh b U};{exact .inr (h.nB b U)};{exact .inr (.inr (fj h.size U))}
 nB b hb:=(h'.nB b hb).elim (h.nB b) fun U=>.inr (fj h.size U)
structure IF (I F:Nat->Prop) (w:i7):Prop where
 iB:∀ b,I b->b < w.heap.size
 fB:∀ b,F b->b < w.heap.size/\¬ I b
theorem CI.qG {I F I' F':Nat->Prop} {w w':i7} (h:CI I F w I' F' w') (hi:IF I F w) (b:Nat) (hb:I b):w'.heap[b]?=w.heap[b]? :=
 h.jG b (hi.iB b hb) fun hf=>(hi.fB b hf).2 hb
structure Cx where
 P:jd
 mixed:P.follows .mixedOrders=true
 G:FR
 Wd:(Nat->Prop)->i7->Prop
 mZ:∀ (I I':Nat->Prop) (w w':i7),Wd I w->(∀ b,I b->I' b)->(∀ b,I b->w'.heap[b]?=w.heap[b]?)->w.heap.size<=w'.heap.size->Wd I' w'
 gl:∀ (I:Nat->Prop) (w:i7) (g:Nat) (cs:jh),Wd I w->G g=some cs->∀ lp L,AC w I lp L (.ptr cs 0) (.pointer (some ⟨g,0,none⟩))
structure Ch (E:Type) where
 rel:E->(Nat->Prop)->(Nat->Prop)->i7->Prop
 mZ:∀ (e:E) (I I' F:Nat->Prop) (w w':i7),rel e I F w->(∀ b,I b->I' b)->(∀ b,I b\/F b->w'.heap[b]?=w.heap[b]?)->w.heap.size<=w'.heap.size->rel e I' F w'
structure Cw where
 own:Nat->Prop
 dfs:List jf:=[]
instance:CoeFun Cw fun _=>Nat->Prop:=⟨Cw.own⟩
inductive Ee (lo:Nat) (I F:Nat->Prop) (L:AK) (w:i7):List jf->List jf->Prop
 | nil:Ee lo I F L w [] []
 | cons (D:Nat) (ds rs:List jf) (U:lo<=D) (O:D < w.heap.size) (h3:¬ I D) (h4:¬ F D) (h5:∀ V C,L V≠some (some (D,C)))
   (h6:w.heap[D]?=some (.deferred (some []))) (h7:∀ d∈ds,d.target≠.collected D) (h:Ee lo I F L w ds rs):Ee lo I F L w ({target:=.collected D,args:=#[]} :: ds) rs
 | call (d:jf) (ds rs:List jf) (hd:∀ D,d.target≠.collected D) (h:Ee lo I F L w ds rs):Ee lo I F L w (d :: ds) (d :: rs)
structure Fr {E:Type} (cx:Cx) (w0:i7) (I0 F0:Nat->Prop) (O0:Cw) (Hd:Nat->Option Obj) (R:Ch E) (e:E) (ds:List jf) (I F:Nat->Prop) (L:AK) (w:i7):Prop where
 ext:CI I0 F0 w0 I F w
 sep:IF I F w
 oF:∀ b,O0 b->F0 b
 lB:∀ V b C,L V=some (some (b,C))->(w0.heap.size<=b\/O0 b)/\b < w.heap.size/\¬ I b/\¬ F b
 inj:∀ V kR b C C',L V=some (some (b,C))->L kR=some (some (b,C'))->V=kR
 wd:cx.Wd I w
 re:R.rel e I F w
 qi:Ee w0.heap.size I F L w ds O0.dfs
 py:∀ b ob,Hd b=some ob->b < w.heap.size/\¬ I b/\¬ F b/\(∀ V C,L V≠some (some (b,C)))/\w.heap[b]?=some ob
theorem Ee.move {lo:Nat} {I F I' F':Nat->Prop} {L L':AK} {w w':i7} {ds rs:List jf} (h:Ee lo I F L w ds rs) (hs:w.heap.size<=w'.heap.size)
  (hk:∀ D,D < w.heap.size->lo<=D->¬ I D->¬ F D->(∀ V C,L V≠some (some (D,C)))->w'.heap[D]?=w.heap[D]?/\¬ I' D/\¬ F' D/\(∀ V C,L' V≠some (some (D,C)))):Ee lo I' F' L' w' ds rs:=by
 induction h with
 | nil=>exact .nil
 | cons D ds rs U O h3 h4 h5 h6 h7 _ ih =>
  obtain⟨a,b,c,d⟩:=hk D O U h3 h4 h5;exact .cons D ds rs U (fm O hs) b c d (a.trans h6) h7 ih
 | call d ds rs hd _ ih=>exact .call d ds rs hd ih
section fr
variable {E:Type} {cx:Cx} {w0:i7} {I0 F0:Nat->Prop} {O0:Cw} {Hd:Nat->Option Obj} {R:Ch E} {e:E} {ds:List jf} {I F I':Nat->Prop} {L L':AK} {w w':i7}
theorem Fr.qG (h:Fr cx w0 I0 F0 O0 Hd R e ds I F L w) (hk:∀ b,b < w.heap.size->(∀ V C,L V≠some (some (b,C)))->w'.heap[b]?=w.heap[b]?) (b:Nat) (hb:I b):w'.heap[b]?=w.heap[b]? :=
 hk b (h.sep.iB b hb) fun V C hL=>(h.lB V b C hL).2.2.1 hb
theorem Fr.own (h:Fr cx w0 I0 F0 O0 Hd R e ds I F L w) (U:w'.os=w.os) (O:w'.tape=w.tape) (h3:w'.output=w.output) (h4:w.heap.size<=w'.heap.size)
  (hk:∀ b,b < w.heap.size->(∀ V C,L V≠some (some (b,C)))->w'.heap[b]?=w.heap[b]?) (hI:∀ b,I b->I' b)
  (hI':∀ b,I' b->I b\/(b < w'.heap.size/\(w.heap.size<=b\/∃ V C,L V=some (some (b,C)))))
  (hL:∀ V b C,L' V=some (some (b,C))->b < w'.heap.size/\¬ I' b/\(w.heap.size<=b\/∃ kR C',L kR=some (some (b,C'))))
  (hinj:∀ V kR b C C',L' V=some (some (b,C))->L' kR=some (some (b,C'))->V=kR):Fr cx w0 I0 F0 O0 Hd R e ds I' F L' w' where
 ext:=by have kS:=h.ext.size;refine⟨U.trans h.ext.os,O.trans h.ext.tape,h3.trans h.ext.output,fj kS h4,fun b hb hf=>?_,fun b hb=>hI b (h.ext.nA b hb),fun b hb=>?_,h.ext.nB⟩;{exact (hk b (by omega) fun V C hn=>(h.lB V b C hn).1.elim (fun U=>by omega) fun ho=>hf (h.oF b ho)).trans (h.ext.jG b hb hf)};{rcases hI' b hb with h5 | ⟨_,h5 | ⟨V,C,h5⟩⟩;{exact h.ext.nh b h5};{exact .inr (.inr (by omega))};{exact .inr ((h.lB V b C h5).1.elim .inr fun ho=>.inl (h.oF b ho))}}
 sep:=⟨fun b hb=>(hI' b hb).elim (fun h5=>fm (h.sep.iB b h5) h4) fun h5=>h5.1,
  fun b hb=>⟨fm (h.sep.fB b hb).1 h4,fun hi=>by
   rcases hI' b hi with h5 | ⟨_,h5 | ⟨V,C,h5⟩⟩;·exact (h.sep.fB b hb).2 h5
   ·have:=(h.sep.fB b hb).1;omega
   ·exact (h.lB V b C h5).2.2.2 hb⟩⟩
 oF:=h.oF
 lB V b C hn:=by obtain⟨a1,a2,a3⟩:=hL V b C hn;have kS:=h.ext.size;refine⟨?_,a1,a2,?_⟩;{rcases a3 with a3 | ⟨kR,C',a3⟩;{exact .inl (by omega)};{exact (h.lB kR b C' a3).1}};{intro hf;rcases a3 with a3 | ⟨kR,C',a3⟩;{have:=(h.sep.fB b hf).1;omega};{exact (h.lB kR b C' a3).2.2.2 hf}}
 inj:=hinj
 wd:=cx.mZ I I' w w' h.wd hI (h.qG hk) h4
 re:=R.mZ e I I' F w w' h.re hI (fun b hb=>by
  rcases hb with hb | hb;·exact h.qG hk b hb
  ·exact hk b (h.sep.fB b hb).1 fun V C hn=>(h.lB V b C hn).2.2.2 hb) h4
 qi:=h.qi.move h4 fun D d1 d2 d3 d4 d5=>⟨hk D d1 d5,fun hi=>by
   rcases hI' D hi with h5 | ⟨_,h5 | ⟨V,C,h5⟩⟩;·exact d3 h5
   ·omega
   ·exact d5 V C h5,d4,fun V C hn=>by
   rcases (hL V D C hn).2.2 with h5 | ⟨kR,C',h5⟩;·omega
   ·exact d5 kR C' h5⟩
 py b ob hb:=by obtain⟨d1,d2,d3,d4,d5⟩:=h.py b ob hb;refine⟨by omega,fun hi=>?_,d3,fun V C hn=>?_,(hk b d1 d4).trans d5⟩;{rcases hI' b hi with h5 | ⟨_,h5 | ⟨V,C,h5⟩⟩;{exact d2 h5};{omega};{exact d4 V C h5}};{rcases (hL V b C hn).2.2 with h5 | ⟨kR,C',h5⟩;{omega};{exact d4 kR C' h5}}
end fr
end Go.Ab


namespace Go.Ab
variable{C b d f g:Nat} {V:Nm} {obj:Obj} {ps:List (Option (Nat×Nat))} {r:RX} {tmps:Array i8} {v v':i8} {w' w1:i7} {x:jb}
theorem wF (n:Nat):Nat.blt (f+b*(n+1)) b=false:=by
 cases hq:Nat.blt (f+b*(n+1)) b with
 | false=>rfl
 | true =>
  have U:=Nat.blt_eq.mp hq;have O:=Nat.le_mul_of_pos_right b (Nat.succ_pos n);exact iW (fm U (fj O (Nat.le_add_left _ f))) (Nat.lt_irrefl _)
theorem num_div (hb:f < b) (n:Nat):(f+b*(n+1)) / b=n+1:=by rw[Nat.add_mul_div_left _ _ (Nat.lt_of_le_of_lt (fp f) hb),Nat.div_eq_of_lt hb,eu]
theorem num_mod (hb:f < b) (n:Nat):(f+b*(n+1))%b=f:=by rw[Nat.add_mul_mod_self_left,gP hb]
theorem fnK_ge (h:Nat.blt g CR=false):Gf g=g / CR:=by unfold Gf;rw[h]
theorem fnId_ge (h:Nat.blt g CR=false):Ba g=g%CR:=by unfold Ba;rw[h]
theorem fnNum_k {f:ja} (hb:Nat.blt f CR=true):∀ n,Gf (PK f n)=n
 | 0=>by simp[PK,Gf,hb]
 | n+1=>(fnK_ge (wF n)).trans (num_div (Nat.blt_eq.mp hb) n)
theorem wG {f:ja} (hb:Nat.blt f CR=true):∀ n,Ba (PK f n)=f
 | 0=>by simp[PK,Ba,hb]
 | n+1=>(fnId_ge (wF n)).trans (num_mod (Nat.blt_eq.mp hb) n)
theorem SP {w:i7} {I:Nat->Prop} {lp:Nat->jj} {L:jr}:∀ (n:Nat) (v:i8) (x:W),Iy n v=some x->AC w I lp L x v:=by
 intro n;induction n with
 | zero =>
  intro v x h;unfold Iy at h;split at h<;>first | contradiction | (cases h;done) | (cases h;constructor)
 | succ n ih =>
  intro v x h;unfold Iy at h;split at h<;>first | (cases h;constructor) | skip
  ·rename_i m cs e;cases e;split at h
   case isFalse=>cases h
   rename_i kn;simp only[dG] at h;obtain⟨H,A,rfl⟩:=h;refine .agg H cs (fun v hv=>d6.1 kn v hv) ?_;clear kn;generalize cs.toList=l at A;induction l generalizing H with
   | nil=>simp at A;subst A;exact .nil
   | cons v l ihl =>
    rw[fq] at A;simp only[gw,eY,gF,dL] at A;obtain⟨y,hy,ys,nZ,rfl⟩:=A;exact .cons _ _ _ _ (ih v y hy) (ihl ys nZ)
  {cases h}
theorem Ul (i:Nat):tmps.getD i undef=tmps.toList.getD i undef:=by simp[dO]
section
variable {cx:Cx} {I:Nat->Prop} {L:AK} {Z:St} {a:Act} {jH:List i8} {lp:Nat->jj} {w:i7}
theorem BM (h:SR lp I L Z a.tmps.toList jH w) (hw:cx.Wd I w) (A:rx cx.G x=some r):AC w I lp (some L) (r.ev Z.tmps) (a.eval x):=by
 cases x with
 | tmp t=>simp only[rx,dL] at A;subst A;simp only[RX.ev,Act.eval,Ul];exact h.tm.getD t undef
 | const v =>
  simp only[rx,dG] at A;obtain⟨y,hy,rfl⟩:=A;exact SP 3 v y hy
 | global g =>
  simp only[rx,dG] at A;obtain⟨cs,hc,rfl⟩:=A;exact cx.gl I w g cs hw hc lp _
 | func f =>
  simp only[rx] at A;split at A
  case isFalse=>cases A
  rename_i hb;simp only[dL] at A;subst A
  have T:AC w I lp (some L) (.fn f []) (.func (.func f) #[] #[]):=by
   have:=AC.fn (w:=w) (I:=I) (lp:=lp) (L:=some L) f [] #[] #[] (by simp[Gf,hb]) .nil
   rwa [show Ba f=f by simp[Ba,hb]] at this
  exact T
theorem Q5 (h:SR lp I L Z a.tmps.toList jH w) (hw:cx.Wd I w):∀ {H:List jb} {rs:jz},E6 cx.G H=some rs ->
  Av w I lp (some L) (rs.map (RX.ev Z.tmps)) (H.map a.eval):=by
 intro H;induction H with
 | nil=>intro rs h;simp only[E6,dL] at h;subst h;exact .nil
 | cons x H ih =>
  intro rs T;simp only[E6] at T;split at T;{rename_i y ys U O;cases T;exact .cons _ _ _ _ (BM h hw U) (ih O)};{cases T}
end
structure La (w w':i7):Prop where
 heap:w'.heap=w.heap
 os:w'.os=w.os
 tape:w'.tape=w.tape
 output:w'.output=w.output
theorem La.refl (w:i7):La w w:=⟨rfl,rfl,rfl,rfl⟩
theorem I6 (a:Act) (dst:jj) (v:i8):(a.put dst v).tmps.toList=(match dst with | some d=>a.tmps.toList.set d v | none=>a.tmps.toList):=by cases dst<;>simp[Act.put]
section done
variable {E:Type} (cx:Cx) (w0:i7) (I0 F0:Nat->Prop) (O0:Cw) (Hd:Nat->Option Obj) (R:Ch E) (e:E) (ds:List jf) (F:Nat->Prop) (lp:Nat->jj) (jH:List i8)
def BP (o:Oper) (a:Act) (w:i7) (st':St):Prop :=
 ∃ v' w' I' L',((execOp a.eval o).run cx.P w=.ok (.value v') w'\/((execOp a.eval o).run cx.P w=.ok .skip w'/\v'=undef)) /\
  SR lp I' L' st' (a.put o.dst v').tmps.toList jH w'/\Fr cx w0 I0 F0 O0 Hd R e ds I' F L' w'
end done
section lemmas
variable {E:Type} {cx:Cx} {w0:i7} {I0 F0:Nat->Prop} {O0:Cw} {Hd:Nat->Option Obj} {R:Ch E} {e:E} {ds:List jf} {F:Nat->Prop} {lp:Nat->jj} {jH:List i8}
variable {I:Nat->Prop} {L:AK} {Z:St} {a:Act} {w:i7} {o:Oper}
theorem AC.same {L:jr} {x:W} (h:AC w I lp L x v) (hs:La w w'):AC w' I lp L x v :=
 AC.mono (fun _ h=>h) (fun _ _=>by rw[hs.heap]) (fun _ _ h=>h) h
theorem Fr.same (h:Fr cx w0 I0 F0 O0 Hd R e ds I F L w) (hs:La w w'):Fr cx w0 I0 F0 O0 Hd R e ds I F L w' :=
 h.own hs.os hs.tape hs.output (by rw[hs.heap];exact dH _) (fun b _ _=>by rw[hs.heap]) (fun _ h=>h) (fun _ h=>.inl h)
  (fun V b C hn=>⟨by rw[hs.heap];exact (h.lB V b C hn).2.1,(h.lB V b C hn).2.2.1,.inr ⟨V,C,hn⟩⟩) h.inj
theorem SR.same (h:SR lp I L Z a.tmps.toList jH w) (hs:La w w'):SR lp I L Z a.tmps.toList jH w' :=
 h.keeps (fun _ h=>h) (fun _ _=>by rw[hs.heap]) fun _ _ _ _=>by rw[hs.heap]
theorem SR.wH (h:SR lp I L Z a.tmps.toList jH w) (dst:jj) {v:W} (hv:AC w I lp (some L) v v') :
  SR lp I L (apply Z dst {v}) (a.put dst v').tmps.toList jH w:=by
 rw[I6];cases dst with
 | none=>exact h
 | some d=>exact h.put d hv
theorem B8 (hs:SR lp I L Z a.tmps.toList jH w) (hf:Fr cx w0 I0 F0 O0 Hd R e ds I F L w) {v:W} 
  (T:(execOp a.eval o).run cx.P w=.ok (.value v') w') (hw:La w w') (hv:AC w I lp (some L) v v') :
  BP cx w0 I0 F0 O0 Hd R e ds F lp jH o a w (apply Z o.dst {v}) :=
 ⟨v',w',I,L,.inl T,(hs.same hw).wH o.dst (hv.same hw),hf.same hw⟩
theorem Fq (w:i7) (ob:Obj) (h:b < w.heap.size):(w.alloc ob).heap[b]?=w.heap[b]?:=heap_alloc_old w ob b h
theorem Fr.news (h:Fr cx w0 I0 F0 O0 Hd R e ds I F L w) (_hd:Z.jC[d]?=some []) 
  (U:w'.os=w.os) (O:w'.tape=w.tape) (h3:w'.output=w.output) (h4:w.heap.size<=w'.heap.size) (hk:∀ b,b < w.heap.size->w'.heap[b]?=w.heap[b]?)
  (hp:∀ (j b C:Nat),ps[j]?=some (some (b,C))->w.heap.size<=b/\b < w'.heap.size)
  (hi:∀ (j j' b C C':Nat),ps[j]?=some (some (b,C))->ps[j']?=some (some (b,C'))->j=j'):Fr cx w0 I0 F0 O0 Hd R e ds I F (CZ L d ps) w':=by
 refine h.own U O h3 h4 (fun b hb _=>hk b hb) (fun _ h=>h) (fun _ h=>.inl h) ?_ ?_;{intro V b C hn;unfold CZ at hn;split at hn;{obtain⟨p1,p2⟩:=hp _ _ _ hn;exact⟨p2,fun hb=>by have:=h.sep.iB b hb;omega,.inl p1⟩};{have:=h.lB V b C hn;exact⟨by omega,this.2.2.1,.inr ⟨V,C,hn⟩⟩}};{intro V kR b C C' hn kW;unfold CZ at hn kW;split at hn<;>split at kW;{rename_i e1 e2;exact Prod.ext (e1.trans e2.symm) (hi _ _ _ _ _ hn kW)};{have:=hp _ _ _ hn;have:=h.lB kR b C' kW;omega};{have:=hp _ _ _ kW;have:=h.lB V b C hn;omega};{exact h.inj V kR b C C' hn kW}}
theorem QN (hs:SR lp I L Z a.tmps.toList jH w) (hf:Fr cx w0 I0 F0 O0 Hd R e ds I F L w) (hd:o.dst=some d) (hc:Z.jC[d]?=some [])
  {v:W} {ob:Ob} (hw:La w w1) (T:(execOp a.eval o).run cx.P w=.ok (.value v') (w1.alloc obj))
  (l7:∀ L',NT L L'->Sv (w1.alloc obj) I lp L' w.heap.size C ob)
  (hv:∀ L':AK,L' (d,0)=some (some (w.heap.size,C))->AC (w1.alloc obj) I lp (some L') v v') :
  BP cx w0 I0 F0 O0 Hd R e ds F lp jH o a w (apply Z o.dst {v,new:=[ob]}):=by
 have kS:w1.heap.size=w.heap.size:=by rw[hw.heap]
 have hk:∀ b,b < w.heap.size->(w1.alloc obj).heap[b]?=w.heap[b]?:=fun b hb=>by rw[Fq w1 obj (by omega),hw.heap]
 have nL:SR lp I L Z a.tmps.toList jH (w1.alloc obj):=hs.keeps (fun _ h=>h) (fun b hb=>hk b (hf.sep.iB b hb)) fun V b C hn=>hk b (hf.lB V b C hn).2.1
 have hn:=nL.news hc [ob] [some (w.heap.size,C)] rfl (by
  intro j nK p U O;cases j with
  | zero=>simp at U O;subst U;subst O;exact l7 _ (nL.fresh hc _)
  | succ j=>simp at U)
 refine⟨v',w1.alloc obj,I,CZ L d [some (w.heap.size,C)],.inl T,?_,?_⟩;{rw[I6,hd];exact hn.put d (hv _ (by simp[CZ]))}
 ·refine Fr.news hf hc (by simp[World.alloc,hw.os]) (by simp[hw.tape]) (by simp[World.alloc,hw.output]) (by simp;omega) hk ?_ ?_
  ·intro j b C' hj;cases j with
   | zero=>simp at hj;simp;omega
   | succ j=>simp at hj
  ·intro j j' b C1 C2 U O;cases j with
   | zero=>cases j' with
    | zero=>rfl
    | succ j'=>simp at O
   | succ j=>simp at U
theorem OG (hs:SR lp I L Z a.tmps.toList jH w) (hf:Fr cx w0 I0 F0 O0 Hd R e ds I F L w) (hL:L V=some (some (b,C)))
  {v:W} {ob:Ob} (T:(execOp a.eval o).run cx.P w=.ok (.value v') w'\/((execOp a.eval o).run cx.P w=.ok .skip w'/\v'=undef))
  (U:w'.os=w.os) (O:w'.tape=w.tape) (h3:w'.output=w.output) (h4:w'.heap.size=w.heap.size) (hk:∀ b',b'≠b->w'.heap[b']?=w.heap[b']?)
  (l7:Sv w' I lp L b C ob) (hv:AC w' I lp (some L) v v') :
  BP cx w0 I0 F0 O0 Hd R e ds F lp jH o a w (apply Z o.dst {v,kA:=some (V,ob)}):=by
 have hI:∀ b',I b'->w'.heap[b']?=w.heap[b']?:=fun b' lX=>hk b' fun e=>(hf.lB V b C hL).2.2.1 (e ▸ lX);have hu:=hs.kA (w':=w') (nK:=ob) hL hI (fun m b' C' hm hn=>hk b' fun e=>hm (hf.inj m V b' C' C hn (e ▸ hL))) l7;refine⟨v',w',I,L,T,?_,?_⟩
 ·rw[I6];cases o.dst with
  | none=>exact hu
  | some d=>exact hu.put d hv
 ·exact hf.own U O h3 (by omega) (fun b' _ hn=>hk b' fun e=>hn V C (e ▸ hL)) (fun _ h=>h) (fun _ h=>.inl h)
   (fun m b' C' hn=>⟨by have:=(hf.lB m b' C' hn).2.1;omega,(hf.lB m b' C' hn).2.2.1,.inr ⟨m,C',hn⟩⟩) hf.inj
theorem Qu (hs:SR lp I L Z a.tmps.toList jH w) (hf:Fr cx w0 I0 F0 O0 Hd R e ds I F L w) {p p':Option (Nat×Nat)} (hL:L V=some p)
  {v:W} {k kt:Nat} {H:jh} (T:(execOp a.eval o).run cx.P w=.ok (.value v') w')
  (U:w'.os=w.os) (O:w'.tape=w.tape) (h3:w'.output=w.output) (h4:w.heap.size<=w'.heap.size)
  (hk:∀ b',b' < w.heap.size->(∀ C,p≠some (b',C))->w'.heap[b']?=w.heap[b']?)
  (hp':∀ b C,p'=some (b,C)->b < w'.heap.size/\(w.heap.size<=b\/∃ C',p=some (b,C')))
  (l7:∀ L',BR w' I lp L' (.arr k kt H) p') (hv:∀ L':AK,L' V=some p'->AC w' I lp (some L') v v') :
  BP cx w0 I0 F0 O0 Hd R e ds F lp jH o a w (apply Z o.dst {v,kA:=some (V,.arr k kt H),kill:=some V}):=by
 have hI:∀ b',I b'->w'.heap[b']?=w.heap[b']?:=fun b' lX=>hk b' (hf.sep.iB b' lX) fun C e=>(hf.lB V b' C (by rw[hL,e])).2.2.1 lX
 have hu:=hs.wE (w':=w') (k:=k) (kt:=kt) (H:=H) (p':=p') hL hI
  (fun m b' C' hm hn=>hk b' (hf.lB m b' C' hn).2.1 fun C e=>hm (hf.inj m V b' C' C hn (by rw[hL,e]))) (l7 _)
 refine⟨v',w',I,(fun m=>if m=V then some p' else L m),.inl T,?_,?_⟩
 ·rw[I6];cases o.dst with
  | none=>exact hu
  | some d=>exact hu.put d (hv _ (by simp))
 ·refine hf.own U O h3 h4 (fun b' lX hn=>hk b' lX fun C e=>hn V C (by rw[hL,e])) (fun _ h=>h) (fun _ h=>.inl h) ?_ ?_;{intro m b' C' hn;by_cases hm:m=V;{simp only[hm,iH,dL] at hn;obtain⟨q1,q2⟩:=hp' b' C' hn;refine⟨q1,fun hb=>?_,?_⟩;{rcases q2 with q2 | ⟨C2,q2⟩;{have:=hf.sep.iB b' hb;omega};{exact (hf.lB V b' C2 (by rw[hL,q2])).2.2.1 hb}};{rcases q2 with q2 | ⟨C2,q2⟩;{exact .inl q2};{exact .inr ⟨V,C2,by rw[hL,q2]⟩}}};{simp only[hm,iG] at hn;exact⟨by have:=(hf.lB m b' C' hn).2.1;omega,(hf.lB m b' C' hn).2.2.1,.inr ⟨m,C',hn⟩⟩}}
  ·intro m m' b' C1 C2 hn kW;have other:∀ m C1 C2,m≠V->L m=some (some (b',C1))->p'=some (b',C2)->False:=fun m C1 C2 hm U O=>by obtain⟨q1,q2⟩:=hp' b' C2 O;rcases q2 with q2 | ⟨C3,q2⟩;{have:=(hf.lB m b' C1 U).2.1;omega};{exact hm (hf.inj m V b' C1 C3 U (by rw[hL,q2]))}
   by_cases hm:m=V<;>by_cases oY:m'=V;{rw[hm,oY]};{simp only[hm,oY,iH,iG,dL] at hn kW;exact (other m' C2 C1 oY kW hn).elim};{simp only[hm,oY,iH,iG,dL] at hn kW;exact (other m C1 C2 hm hn kW).elim};{simp only[hm,oY,iG] at hn kW;exact hf.inj m m' b' C1 C2 hn kW}
end lemmas
end Go.Ab


namespace Go.Ab
variable{α:Type} {P:jd} {ag b full:Bool} {b' d g:Nat} {c:Array i8} {cs es:jh} {f:ja} {fr:Nat×Nat} {i:TypeInfo} {k:jc} {n:Int} {V:Nm} {r:RX} {s:ji} {t:je} {vs ys:List i8} {x:W} {y:jb}
section inv
variable {w:i7} {I:Nat->Prop} {lp:Nat->jj} {L:AK} {v:i8}
theorem Gi {L:jr} (h:AC w I lp L (.bool b) v):v=.bool b:=by cases h;rfl
theorem EP {L:jr} (h:AC w I lp L (.int k n) v):v=.int k n:=by cases h;rfl
theorem FW {L:jr} (h:AC w I lp L (.str s) v):v=.string ⟨s.toArray⟩:=by cases h;rfl
theorem G9 {L:jr} (h:AC w I lp L .jD v):v=.slice none 0 0:=by cases h;rfl
theorem Lv {L:jr} (h:AC w I lp L .kB v):v=.pointer none:=by cases h;rfl
theorem QJ {L:jr} (h:AC w I lp L .jV v):v=.nilFunc:=by cases h;rfl
theorem JB {L:jr} (h:AC w I lp L .jK v):v=.nilIface:=by cases h;rfl
theorem Yh {L:jr} (h:AC w I lp L .kL v):v=.map none:=by cases h;rfl
theorem Q2 {L:jr} (h:AC w I lp L (.agg cs) v):∃ vs,v=.agg vs/\By vs.toList/\Av w I lp L cs vs.toList:=by cases h;exact⟨_,rfl,by assumption,by assumption⟩
theorem Zb {L:jr} (h:AC w I lp L (.jE cs) v):∃ vs,v=.tuple vs/\Av w I lp L cs vs.toList:=by cases h;exact⟨_,rfl,by assumption⟩
theorem Yj {L:jr} (h:AC w I lp L (.j8 g t) v):∃ u,v=.iface t u/\I g/\∃ c E fr,w.heap[g]?=some (.cells c E fr)/\c[0]?=some (.iface t u):=by cases h;exact⟨_,rfl,by assumption,_,_,_,by assumption,by assumption⟩
theorem MG {L:jr} (h:AC w I lp L (.iface t x) v):∃ u,v=.iface t u/\AC w I lp L x u:=by cases h;exact⟨_,rfl,by assumption⟩
theorem LT {L:jr} (h:AC w I lp L (.fn f cs) v):∃ us vs,v=.func (.func (Ba f)) us vs/\us.size=Gf f/\Av w I lp L cs (us.toList++vs.toList):=by cases h;exact⟨_,_,rfl,by assumption,by assumption⟩
theorem Tc {L:jr} {H:jh} {us vs:Array i8} (hk:us.size=Gf f) (h:Av w I lp L cs (us.toList++vs.toList)) (hv:Av w I lp L H ys) :
  Av w I lp L (BI f H cs) (us.toList++(ys++vs.toList)):=by
 unfold BI;have hl:us.toList.length=us.size:=by simp
 split
 ·rename_i hb;have h0:us.size=0:=by rw[hk];simp[Gf,hb]
  have hu:us.toList=[]:=fK.1 (by rw[hl,h0]);rw[hu] at h |-;exact hv.append h
 {have U:=h.take (Gf f);have O:=h.drop (Gf f);rw[List.take_left' (by rw[hl,hk])] at U;rw[List.drop_left' (by rw[hl,hk])] at O;exact U.append (hv.append O)}
theorem Za {L:jr} (h:AC w I lp L (.ke d) v):∃ l,v=.func (.yield l) #[] #[]/\lp d=some l:=by cases h;exact⟨_,rfl,by assumption⟩
theorem GK {o:Nat} (h:AC w I lp (some L) (.ref V o) v):∃ b C,L V=some (some (b,C))/\v=.pointer (some ⟨b,o,none⟩):=by cases h;exact⟨_,_,by assumption,rfl⟩
theorem QK {k i o:Nat} (h:AC w I lp (some L) (.jQ V k i o) v):∃ b C,L V=some (some (b,C))/\v=.pointer (some ⟨b,i*k+o,none⟩):=by cases h;exact⟨_,_,by assumption,rfl⟩
theorem M5 {L:jr} {o:Nat} (h:AC w I lp L (.ptr cs o) v):∃ b off c E fr,v=.pointer (some ⟨b,off+o,none⟩)/\I b/\w.heap[b]?=some (.cells c E fr) /\
  off+cs.length<=c.size/\o < cs.length/\By ((c.toList.drop off).take cs.length)/\Av w I lp none cs ((c.toList.drop off).take cs.length):=by
 cases h;exact⟨_,_,_,_,_,rfl,by assumption,by assumption,by assumption,by assumption,by assumption,by assumption⟩
theorem Ks {k o n:Nat} (h:AC w I lp (some L) (.arr V k o n) v) :
  (∃ b C cap,L V=some (some (b,C))/\v=.slice (some ⟨b,o*k,none⟩) n cap/\(o+cap)*k<=C/\n<=cap)\/(L V=some none/\v=.slice none 0 0/\o=0/\n=0):=by
 cases h;{exact .inl ⟨_,_,_,by assumption,rfl,by assumption,by assumption⟩};{exact .inr ⟨by assumption,rfl,rfl,rfl⟩}
theorem KG {L:jr} {k:Nat} {H:jh} (h:AC w I lp L (.sl k H full) v) :
  (∃ b off cap c E fr,v=.slice (some ⟨b,off,none⟩) H.length cap/\I b/\w.heap[b]?=some (.cells c E fr)/\off+H.length*k<=c.size/\(∀ x∈H,x.cells.length=k)/\H.length<=cap/\(full=true->cap=H.length) /\
   By ((c.toList.drop off).take (H.length*k))/\Av w I lp none (jM H) ((c.toList.drop off).take (H.length*k)))\/(H=[]/\∃ a cap,v=.slice a 0 cap/\(full=true->cap=0)):=by
 cases h;{exact .inr ⟨rfl,_,_,rfl,by assumption⟩};{exact .inl ⟨_,_,_,_,_,_,rfl,by assumption,by assumption,by assumption,by assumption,by assumption,by assumption,by assumption,by assumption⟩}
theorem Rp (h:AC w I lp (some L) (.mp V) v):∃ b C,L V=some (some (b,C))/\v=.map (some b):=by cases h;exact⟨_,_,by assumption,rfl⟩
theorem inv_it (h:AC w I lp (some L) (.it V) v):∃ b C,L V=some (some (b,C))/\v=.pointer (some ⟨b,0,none⟩):=by cases h;exact⟨_,_,by assumption,rfl⟩
theorem Yi {L:jr} (h:AC w I lp L (.ki es) v):∃ r kg clock,v=.map (some r)/\I r/\w.heap[r]?=some (.map kg clock)/\Av w I lp none es (GT kg.toList):=by cases h;exact⟨_,_,_,rfl,by assumption,by assumption,by assumption⟩
end inv
theorem Bx {x:Option α} {y:α} (h:AN b x=some y):b=true/\x=some y:=by cases b;{simp[AN] at h};{exact⟨rfl,by simpa[AN] using h⟩}
variable{n:Nat}
theorem SC (h:H4 P t=some (n,ag)):∃ d i,P.underlying t=some d/\P.info? t=some i/\i.size=n/\Mr d=ag:=by unfold H4 at h;split at h;{rename_i d i U O;simp only[dL,eC] at h;exact⟨d,i,U,O,h.1,h.2⟩};{cases h}
theorem WW {d:jg} (h:P.underlying t=some d) (w:i7):(isAgg t).run P w=.ok (Mr d) w:=by unfold isAgg Mr;simp only[Sem.run_bind,run_underlying h,Result.andThen_ok];split<;>split<;>simp_all
theorem I4 (h:P.info? t=some i) (w:i7):(sizeOf t).run P w=.ok i.size w:=by simp[sizeOf,typeInfo,h]
theorem JC (b off i:Nat):(⟨b,off,none⟩:Addr).add i=⟨b,off+i,none⟩:=by unfold Addr.add;split<;>simp_all
variable{b:Nat}
theorem OI {w:i7} {E:je} (h:w.heap[b]?=some (.cells c E fr)) (j:Nat):w.cell? ⟨b,j,none⟩=c[j]?:=by simp[World.cell?,h]
theorem PP {w:i7} (lP:H4 P t=some (n,ag)) {off:Nat} {E:je} 
  (hb:w.heap[b]?=some (.cells c E fr)) {v:i8} (hv:if ag then off+n<=c.size/\v=.agg (c.extract off (off+n)) else c[off]?=some v) :
  (Instr.loadAt t (.pointer (some ⟨b,off,none⟩))).run P w=.ok v w:=by
 obtain⟨d,i,U,O,h3,h4⟩:=SC lP;simp only[Instr.loadAt,Instr.sureAddr,loadVar,Sem.run_bind,Sem.run_pure,Result.andThen_ok,WW U,h4];cases ag;{simp only[dE,iG] at hv |-;simp[run_load,OI hb,hv]}
 ·simp only[iH] at hv |-;obtain⟨hle,rfl⟩:=hv
  have:=run_loadCells_list (P:=P) (w:=w) ⟨b,off,none⟩ ((c.extract off (off+n)).toList) (fun j v hj=>by
   rw[JC,OI hb];simp only[gi,Array.getElem?_extract] at hj;split at hj;·rename_i jP;exact hj
   ·cases hj)
  simp only[fL,Array.size_extract,fE] at this;rw[eG hle,gh] at this;simp only[I4 O,h3,Result.andThen_ok,Sem.run_bind,this,Sem.run_pure]
theorem OL {w:i7} {I:Nat->Prop} {lp:Nat->jj} {L:jr} (T:Av w I lp L cs vs) (U:By vs) {o:Nat} 
  (h:Ci cs o n ag=some x):∃ v,(if ag then o+n<=vs.length/\v=.agg ((vs.drop o).take n).toArray else vs[o]?=some v)/\AC w I lp L x v:=by
 unfold Ci at h;cases ag;{simp only[dE,iG] at h |-;exact T.get h};{simp only[iH] at h |-;obtain⟨O,h3⟩:=Bx h;cases h3;exact⟨_,⟨by rw[<-T.length];exact iY O,rfl⟩,.agg _ _ (by simpa using (U.ng o).mS n) (by simpa using (T.drop o).take n)⟩}
theorem NW (c:Array i8) (i j:Nat):c.extract i j=((c.toList.drop i).take (j - i)).toArray:=by apply Array.ext';simp[Array.toList_extract,List.take_drop,List.extract]
section ops
variable {E:Type} {cx:Cx} {w0:i7} {I0 F0:Nat->Prop} {O0:Cw} {Hd:Nat->Option Obj} {R:Ch E} {e:E} {ds:List jf} {F:Nat->Prop} {lp:Nat->jj} {jH:List i8}
variable {I:Nat->Prop} {L:AK} {Z:St} {a:Act} {w:i7} {o:Oper} {out:AQ} {pq:AG}
variable (hs:SR lp I L Z a.tmps.toList jH w) (hf:Fr cx w0 I0 F0 O0 Hd R e ds I F L w)
include hs hf
theorem wI {x:jb} (ho:o.op=.move x\/o.op=.assign x) (T:rx cx.G x=some r) :
  BP cx w0 I0 F0 O0 Hd R e ds F lp jH o a w (apply Z o.dst {v:=r.ev Z.tmps}) :=
 B8 hs hf (by rcases ho with ho | ho<;>simp[execOp,ho]) (.refl w) (BM hs hf.wd T)
theorem op_pick {c x:jb} (ho:o.op=.pick c x y) {rc r1 r2:RX} (h0:rx cx.G c=some rc) (U:rx cx.G x=some r1) (O:rx cx.G y=some r2)
  (h:exec (o.dst.getD 0) (Al Z.jC) Z.tmps (.pick rc r1 r2)=some out):BP cx w0 I0 F0 O0 Hd R e ds F lp jH o a w (apply Z o.dst out):=by
 have hc:=BM hs hf.wd h0;have A:=BM hs hf.wd U;have hy:=BM hs hf.wd O;simp only[exec] at h;split at h;{rename_i hb;rw[hb] at hc;cases h;exact B8 hs hf (by simp[execOp,ho,Gi hc,asBool]) (.refl w) A};{rename_i hb;rw[hb] at hc;cases h;exact B8 hs hf (by simp[execOp,ho,Gi hc,asBool]) (.refl w) hy};{cases h}
theorem op_load {x:jb} (ho:o.op=.load t x) (lP:H4 cx.P t=some (n,ag)) (U:rx cx.G x=some r)
  (h:exec (o.dst.getD 0) (Al Z.jC) Z.tmps (.load n ag r)=some out):BP cx w0 I0 F0 O0 Hd R e ds F lp jH o a w (apply Z o.dst out):=by
 have A:=BM hs hf.wd U;simp only[exec] at h;split at h
 ·rename_i V off T;rw[T] at A;obtain⟨b,C,hL,hv⟩:=GK A;split at h
  case h_2=>cases h
  rename_i cs kD;obtain⟨u,hu,rfl⟩:=dG.1 h;obtain⟨p,hp,ha⟩:=hs.ob V _ kD;rw[hL] at hp;cases hp;obtain⟨c,E',hb,hC,kn,jS⟩:=ha;obtain⟨u',lH,sd⟩:=OL jS kn.1 hu;refine B8 hs hf (v':=u') (w':=w) ?_ (.refl w) sd
  have:=PP (P:=cx.P) lP (off:=off) hb (v:=u') (by
   cases ag;·simpa using lH
   ·simp only[iH] at lH |-;refine⟨by simpa using lH.1,?_⟩;rw[lH.2,NW,gh])
  simp[execOp,ho,hv,this]
 ·rename_i cs off T;rw[T] at A;obtain⟨b,qH,c,E',fr,hv,hI,hb,hle,jP,kn,jS⟩:=M5 A;obtain⟨u,hu,rfl⟩:=dG.1 h;obtain⟨u',lH,sd⟩:=OL jS kn hu;refine B8 hs hf (v':=u') (w':=w) ?_ (.refl w) (sd.lift _);have hlen:=jS.length
  have:=PP (P:=cx.P) lP (off:=qH+off) hb (v:=u') (by
   cases ag
   ·simp only[dE,iG] at lH |-;rw[gj jP,gx] at lH;simpa using lH
   ·simp only[iH] at lH |-;obtain⟨g1,g2⟩:=lH;rw[<-hlen] at g1;refine⟨by omega,?_⟩;rw[g2,NW,gh,fD,fY,eU,eG (by omega)])
  simp[execOp,ho,hv,this]
 ·rename_i V k i off T;rw[T] at A;obtain⟨b,C,hL,hv⟩:=QK A;split at h
  case h_2=>cases h
  rename_i k' kt H kD;split at h
  case h_2=>cases h
  rename_i el ou;obtain⟨hk,h'⟩:=Bx h;clear h;have hk:k=k':=by simpa using hk
  subst hk;obtain⟨u,hu,rfl⟩:=dG.1 h';obtain⟨p,hp,ha⟩:=hs.ob V _ kD;rw[hL] at hp;cases hp;obtain⟨c,E',hb,hC,hle,nJ,kn,jS⟩:=ha;have jP:=(dU.1 ou).1;have qI:=nJ el (d9 ou);have o8:(i+1)*k<=H.length*k:=eT _ jP;rw[eg,fR] at o8
  have se:Av w I lp none el.cells ((c.toList.drop (i*k)).take k):=by
   have:=(jS.drop (i*k)).take k
   rwa [Tk nJ ou,fD,eU,eG (by omega)] at this
  have hone':By ((c.toList.drop (i*k)).take k):=by
   have:=(kn.ng (i*k)).mS k
   rwa [fD,eU,eG (by omega)] at this
  obtain⟨u',lH,sd⟩:=OL se hone' hu;refine B8 hs hf (v':=u') (w':=w) ?_ (.refl w) (sd.lift _);have hlen:=se.length
  have:=PP (P:=cx.P) lP (off:=i*k+off) hb (v:=u') (by
   cases ag
   ·simp only[dE,iG] at lH |-;have n6:=(dU.1 lH).1;rw[<-hlen,qI] at n6;rw[gj n6,gx] at lH;simpa using lH
   ·simp only[iH] at lH |-;obtain⟨g1,g2⟩:=lH;rw[<-hlen,qI] at g1;refine⟨by omega,?_⟩;rw[g2,NW,gh,fD,fY,eU,eG (by omega)])
  simp[execOp,ho,hv,this]
 {cases h}
omit hs hf in
theorem Vm {w:i7} (lP:H4 P t=some (n,ag)) {off:Nat} {c:Array i8} {E:je}
  (hb:w.heap[b]?=some (.cells c E (0,0))) {v:i8} (hv:v.cells.size=n) (U:By v.cells.toList) (hle:off+n<=c.size) :
  (Instr.storeAt t (.pointer (some ⟨b,off,none⟩)) v).run P w=.ok () (w.setRow b (c.toList.take off++v.cells.toList++c.toList.drop (off+n)).toArray):=by
 obtain⟨d,i,g1,g2,g3,g4⟩:=SC lP;have lr:=run_storeCells_at P b off E v.cells.toList 0 c w hb (by simp[hv];omega) U;simp only[Nat.add_zero,fL,hv] at lr;simp[Instr.storeAt,Instr.sureAddr,storeVar,I4 g2,g3,hv,lr]
omit hs hf in
theorem J5 (w:i7) (b:Nat) (cs:Array i8) (h:b'≠b):(w.setRow b cs).heap[b']?=w.heap[b']?:=setRow_other w b b' cs h
omit hs hf in
theorem By.j0 {us:List i8} (h:By vs) (h':By us) (o n:Nat):By (vs.take o++us++vs.drop n) :=
 ((h.mS o).mH h').mH (h.ng n)
omit hs hf in
theorem Av.j0 {w:i7} {L:jr} {ys:jh} {us:List i8} (h:Av w I lp L cs vs) (h':Av w I lp L ys us) (o:Nat) :
  Av w I lp L (j0 cs o ys) (vs.take o++us++vs.drop (o+us.length)):=by
 unfold Go.Ab.j0;rw[h'.length];exact ((h.take o).append h').append (h.drop _)
omit hs hf in
theorem SK (l u:List i8) (p N:Nat) (h:p+u.length<=N) (hN:N<=l.length) :
  (l.take p++u++l.drop (p+u.length)).take N=(l.take N).take p++u++(l.take N).drop (p+u.length):=by
 rw[hJ,hJ,eU,eU,fD];simp only[eV,eA];rw[dV (l:=u) (by omega),Nat.min_comm N p,show N - (min p l.length+u.length)=N - (p+u.length) from by omega]
theorem wJ {x:jb} (ho:o.op=.store t x y) {s:RX} (lP:H4 cx.P t=some (n,ag)) (U:rx cx.G x=some r) (O:rx cx.G y=some s)
  (h:exec (o.dst.getD 0) (Al Z.jC) Z.tmps (.store n r s)=some out):BP cx w0 I0 F0 O0 Hd R e ds F lp jH o a w (apply Z o.dst out):=by
 have A:=BM hs hf.wd U;have hy:=BM hs hf.wd O;simp only[exec] at h;split at h
 ·rename_i V off T;rw[T] at A;obtain⟨b,C,hL,hv⟩:=GK A;split at h
  case h_2=>cases h
  rename_i cs kD;obtain⟨hk,h⟩:=Bx h;cases h;simp only[dF,iK] at hk;obtain⟨⟨k1,k2⟩,k3⟩:=hk;obtain⟨qa,qJ⟩:=hy.cells k1;have kS:(a.eval y).cells.size=n:=by have:=qJ.length;simp at this;omega
  obtain⟨p,hp,ha⟩:=hs.ob V _ kD;rw[hL] at hp;cases hp;obtain⟨c,E',hb,hC,kn,jS⟩:=ha;have hlen:=jS.length;simp only[fL] at hlen;have lr:=Vm (P:=cx.P) lP hb kS qa (off:=off) (by omega);refine OG hs hf hL (w':=w.setRow b (c.toList.take off++(a.eval y).cells.toList++c.toList.drop (off+n)).toArray) (v':=undef) (.inr ⟨?_,rfl⟩) rfl rfl rfl (by simp) (fun b' lX=>J5 w b _ lX) ?_ (.undef _);{simp[execOp,ho,hv,lr]};{refine⟨_,E',setRow_heap w b c _ E' _ hb,?_,?_,?_⟩;{simp[kS];omega};{exact⟨by simpa using kn.1.j0 qa off (off+n),kn.2⟩};{have wK:∀ b',I b'->(w.setRow b (c.toList.take off++(a.eval y).cells.toList++c.toList.drop (off+n)).toArray).heap[b']?=w.heap[b']?:=fun b' lX=>J5 w b _ fun e=>(hf.lB V b C hL).2.2.1 (e ▸ lX);have:=Av.mono (w':=w.setRow b (c.toList.take off++(a.eval y).cells.toList++c.toList.drop (off+n)).toArray) (fun _ h=>h) wK (fun _ _ h=>h) (jS.j0 qJ off);simpa[kS] using this}}
 ·rename_i V k i off T;rw[T] at A;obtain⟨b,C,hL,hv⟩:=QK A;split at h
  case h_2=>cases h
  rename_i k' kt H kD;obtain⟨p,hp,ha⟩:=hs.ob V _ kD;rw[hL] at hp;cases hp;obtain⟨c,E',hb,hC,hle,nJ,kn,jS⟩:=ha
  have key:∀ (el el':W) (ys:jh),k=k'->H[i]?=some el->(s.ev Z.tmps).isVal=true->(s.ev Z.tmps).cells.length=n->(s.ev Z.tmps).names=[]->off+n<=k ->
    el'.cells=j0 el.cells off (s.ev Z.tmps).cells->ys=H.set i el' ->
    BP cx w0 I0 F0 O0 Hd R e ds F lp jH o a w (apply Z o.dst {v:=.undef,kA:=some (V,.arr k kt ys)}):=by
   intro el el' ys o9 ou k1 k2 k4 k3 hcel nZ;subst o9;subst nZ;obtain⟨qa,qJ⟩:=hy.cells k1;have hn4:AU (s.ev Z.tmps).cells=[]:=by generalize s.ev Z.tmps=z at k4;cases z<;>simp_all [W.cells,AU,W.names]
   have kS:(a.eval y).cells.size=n:=by have:=qJ.length;simp at this;omega
   have jP:=(dU.1 ou).1;have qI:=nJ el (d9 ou);have o8:(i+1)*k<=H.length*k:=eT _ jP;rw[eg,fR] at o8;have lr:=Vm (P:=cx.P) lP hb kS qa (off:=i*k+off) (by omega);have hvl:(a.eval y).cells.toList.length=n:=by simpa using kS
   refine OG hs hf hL (w':=w.setRow b (c.toList.take (i*k+off)++(a.eval y).cells.toList++c.toList.drop (i*k+off+n)).toArray) (v':=undef) (.inr ⟨?_,rfl⟩) rfl rfl rfl (by simp) (fun b' lX=>J5 w b _ lX) ?_ (.undef _);{simp[execOp,ho,hv,lr]}
   ·have wK:∀ b',I b'->(w.setRow b (c.toList.take (i*k+off)++(a.eval y).cells.toList++c.toList.drop (i*k+off+n)).toArray).heap[b']?=w.heap[b']?:=fun b' lX=>J5 w b _ fun e=>(hf.lB V b C hL).2.2.1 (e ▸ lX);have wL:=(jS.j0 (qJ.shut hn4) (i*k+off));have oP:(jM H).length=H.length*k:=Le nJ;have hel':el'.cells.length=k:=by rw[hcel];unfold Go.Ab.j0;simp;omega
    have rE:j0 (jM H) (i*k+off) (s.ev Z.tmps).cells=jM (H.set i el'):=by
     have hd:H.drop i=el :: H.drop (i+1):=by
      have:=eX jP
      rwa [(dU.1 ou).2] at this
     have U:H=H.take i++el :: H.drop (i+1):=by rw[<-hd,List.take_append_drop]
     have O:H.set i el'=H.take i++el' :: H.drop (i+1):=by rw[List.set_eq_take_append_cons_drop,iJ jP]
     have h3:(jM (H.take i)).length=i*k:=by rw[Le fun x A=>nJ x (eE A)];simp;rw[eG (by omega)]
     rw[O,Lf,jM,hcel]
     conv=>lhs;rw[U]
     rw[Lf,jM];unfold Go.Ab.j0;rw[show i*k+off=(jM (H.take i)).length+off from by rw[h3],List.take_length_add_append,gk (by omega)];rw[show (jM (H.take i)).length+off+(s.ev Z.tmps).cells.length=(jM (H.take i)).length+(off+(s.ev Z.tmps).cells.length) from by omega,List.drop_length_add_append,iA (by omega)];simp[eL]
    refine⟨_,E',setRow_heap w b c _ E' _ hb,?_,by simpa using hle,?_,?_,?_⟩;{simp[kS];omega};{intro x A;rcases gy A with A | rfl;{exact nJ x A};{exact hel'}};{simp only[gz];have e1:=SK c.toList (a.eval y).cells.toList (i*k+off) (H.length*k) (by omega) (by simp;omega);rw[hvl] at e1;rw[e1];exact kn.j0 qa _ _};{simp only[gz];have e1:=SK c.toList (a.eval y).cells.toList (i*k+off) (H.length*k) (by omega) (by simp;omega);rw[hvl] at e1;rw[e1,<-rE];rw[hvl] at wL;exact Av.mono (fun _ h=>h) wK (fun _ _ h=>h) wL}
  split at h;{rename_i es ou;obtain⟨hk,h'⟩:=Bx h;cases h';simp only[dF,iK,iL,eZ] at hk;obtain⟨⟨⟨⟨g1,g2⟩,g3⟩,g4⟩,g5⟩:=hk;have qI:=nJ _ (d9 ou);refine key (.agg es) (.agg (j0 es off (s.ev Z.tmps).cells)) _ g1 ou g2 g3 ?_ ?_ rfl rfl;{generalize s.ev Z.tmps=z at g5;cases z<;>simp_all [W.cells,AU,W.names]};{simp only[W.cells] at qI;omega}}
  ·rename_i el ou hna;obtain⟨hk,h'⟩:=Bx h;cases h';simp only[dF,iK,iL,eZ] at hk;obtain⟨⟨⟨⟨⟨g1,g2⟩,g3⟩,g4⟩,g5⟩,g6⟩:=hk;subst g2;subst g3;subst g4;have hcz:(s.ev Z.tmps).cells=[s.ev Z.tmps]:=by generalize s.ev Z.tmps=z at g5;cases z<;>first | rfl | (simp[W.jZ] at g5)
   have hiv:(s.ev Z.tmps).isVal=true:=by generalize s.ev Z.tmps=z at g5;cases z<;>first | rfl | (simp[W.jZ] at g5)
   have qI:=nJ el (d9 hna);refine key el (s.ev Z.tmps) _ g1 hna hiv (by rw[hcz];rfl) g6 (by omega) ?_ rfl;rw[hcz];unfold Go.Ab.j0;rw[<-g1] at qI;simp[gQ (l:=el.cells) (i:=1) (by omega)]
  {cases h}
 {cases h}
end ops
end Go.Ab


namespace Go.Ab
variable{P:jd} {d j ty:Nat} {d1:jg} {dst src t:je} {f:i8->jx} {op:UnOp} {r:RX} {rs:jz} {v:i8} {x z:W}
section ops
variable {E:Type} {cx:Cx} {w0:i7} {I0 F0:Nat->Prop} {O0:Cw} {Hd:Nat->Option Obj} {R:Ch E} {e:E} {ds:List jf} {F:Nat->Prop} {lp:Nat->jj} {jH:List i8}
variable {I:Nat->Prop} {L:AK} {Z:St} {a:Act} {w:i7} {o:Oper} {out:AQ} {pq:AG}
theorem P1 (h:Hf P t=some z) {w:i7} {I:Nat->Prop} {lp:Nat->jj} {L:jr} :
  ∃ i zv,P.info? t=some i/\i.zero=some zv/\AC w I lp L z zv:=by
 unfold Hf at h;simp only[eY] at h;obtain⟨zv,⟨i,hi,hz⟩,hp⟩:=h;exact⟨i,zv,hi,hz,SP 3 zv z hp⟩
theorem ay:∀ (n:Nat) (v:i8) (x:W),Iy n v=some x->x.isVal=true:=by
 intro n v x h;unfold Iy at h
 split at h<;>first
  |(cases h;done)
  |(cases h;rfl)
  |(split at h<;>first | (cases h;done) | (obtain⟨H,_,rfl⟩:=dG.1 h;rfl))
theorem V4 (h:Hf P t=some z):z.isVal=true:=by unfold Hf at h;simp only[eY] at h;obtain⟨zv,_,hp⟩:=h;exact ay 3 zv z hp
theorem b7 (ih:∀ v x,f v=some x->x.names=[]):∀ (l:List i8) (H:jh),l.mapM f=some H->AU H=[]:=by
 intro l;induction l with
 | nil=>intro H A;simp at A;subst A;rfl
 | cons v l ihl =>
  intro H A;rw[fq] at A;simp only[gw,eY,gF,dL] at A;obtain⟨y,hy,ys,nZ,rfl⟩:=A;simp[AU,ih v y hy,ihl ys nZ]
theorem ZH:∀ (n:Nat) (v:i8) (x:W),Iy n v=some x->x.names=[]:=by
 intro n;induction n with
 | zero=>intro v x h;unfold Iy at h;split at h<;>first | contradiction | (cases h;done) | (cases h;rfl)
 | succ n ih =>
  intro v x h;unfold Iy at h;split at h<;>first | (cases h;done) | (cases h;rfl) | skip
  rename_i m cs e;cases e;split at h
  case isFalse=>cases h
  obtain⟨H,A,rfl⟩:=dG.1 h;simp only[W.names];exact b7 ih _ _ A
theorem J4 (w:i7) (ob:Obj):(w.alloc ob).heap[w.heap.size]?=some ob:=heap_alloc_new w ob
theorem WE (hs:SR lp I L Z a.tmps.toList jH w) (hf:Fr cx w0 I0 F0 O0 Hd R e ds I F L w) (hd:o.dst=some d) (hc:Z.jC[d]?=some [])
  (hv:AC w I lp (some L) x v) (n7:x.isVal=true) (hty:ty=0\/t=ty)
  (T:(execOp a.eval o).run cx.P w=.ok (.value (.pointer (some ⟨w.heap.size,0,none⟩))) (w.alloc (.cells v.cells t))) :
  BP cx w0 I0 F0 O0 Hd R e ds F lp jH o a w (apply Z o.dst {v:=.ref (d,0) 0,new:=[.cells ty x.cells]}):=by
 obtain⟨U,O⟩:=hv.cells n7;refine QN hs hf hd hc (.refl w) (C:=v.cells.size) T ?_ ?_;{intro L' hL;refine⟨v.cells,t,J4 w _,rfl,⟨U,hty⟩,?_⟩;exact (Av.mono (fun _ h=>h) (fun b hb=>Fq w _ (hf.sep.iB b hb)) (fun _ _ h=>h) O).lJ hL};{intro L' hL;exact .ref (d,0) 0 _ _ hL}
theorem op_box (hs:SR lp I L Z a.tmps.toList jH w) (hf:Fr cx w0 I0 F0 O0 Hd R e ds I F L w) {x:jb} (ho:o.op=.box t x) (U:rx cx.G x=some r)
  (hd:o.dst=some d) (hc:Z.jC[d]?=some [])
  (h:exec (o.dst.getD 0) (Al Z.jC) Z.tmps (.box r)=some out):BP cx w0 I0 F0 O0 Hd R e ds F lp jH o a w (apply Z o.dst out):=by
 simp only[exec] at h;obtain⟨hk,h⟩:=Bx h;cases h;have:=WE hs hf hd hc (BM hs hf.wd U) hk (t:=t) (ty:=0) (.inl rfl) (by simp[execOp,ho,Instr.box,newVar,newRow]);simpa[hd] using this
theorem wM (hs:SR lp I L Z a.tmps.toList jH w) (hf:Fr cx w0 I0 F0 O0 Hd R e ds I F L w) (ho:o.op=.alloc t) (hz:Hf cx.P t=some z)
  (hd:o.dst=some d) (hc:Z.jC[d]?=some []) :
  BP cx w0 I0 F0 O0 Hd R e ds F lp jH o a w (apply Z o.dst {v:=.ref (d,0) 0,new:=[.cells t z.cells]}):=by
 obtain⟨i,zv,hi,sf,jS⟩:=P1 hz (w:=w) (I:=I) (lp:=lp) (L:=some L);exact WE hs hf hd hc jS (V4 hz) (t:=t) (ty:=t) (.inr rfl) (by simp[execOp,ho,Instr.alloc,zeroValue,typeInfo,hi,sf,newVar,newRow])
theorem wN (hs:SR lp I L Z a.tmps.toList jH w) (hf:Fr cx w0 I0 F0 O0 Hd R e ds I F L w) {x:jb} (ho:o.op=.nilCheck x) (U:rx cx.G x=some r)
  (h:exec (o.dst.getD 0) (Al Z.jC) Z.tmps (.nilck r)=some out):BP cx w0 I0 F0 O0 Hd R e ds F lp jH o a w (apply Z o.dst out):=by
 have A:=BM hs hf.wd U;simp only[exec] at h;split at h;{rename_i V off T;rw[T] at A;cases h;obtain⟨b,C,hL,hv⟩:=GK A;exact B8 hs hf (v':=a.eval x) (by simp[execOp,ho,hv]) (.refl w) A};{rename_i cs off T;rw[T] at A;cases h;obtain⟨b,qH,c,E',fr,hv,_⟩:=M5 A;exact B8 hs hf (v':=a.eval x) (by simp[execOp,ho,hv]) (.refl w) A};{rename_i V k i off T;rw[T] at A;cases h;obtain⟨b,C,hL,hv⟩:=QK A;exact B8 hs hf (v':=a.eval x) (by simp[execOp,ho,hv]) (.refl w) A};{rename_i f cap T;rw[T] at A;cases h;obtain⟨us,vs,hv,_,_⟩:=LT A;exact B8 hs hf (v':=a.eval x) (by simp[execOp,ho,hv]) (.refl w) A};{rename_i d T;rw[T] at A;cases h;obtain⟨l,hv,_⟩:=Za A;exact B8 hs hf (v':=a.eval x) (by simp[execOp,ho,hv]) (.refl w) A};{cases h}
theorem op_mkI (hs:SR lp I L Z a.tmps.toList jH w) (hf:Fr cx w0 I0 F0 O0 Hd R e ds I F L w) {x:jb} (ho:o.op=.makeInterface t x) (U:rx cx.G x=some r)
  {d:jg} (hu:cx.P.underlying t=some d) (hn:∀ ms,d≠.interface ms):BP cx w0 I0 F0 O0 Hd R e ds F lp jH o a w (apply Z o.dst {v:=.iface t (r.ev Z.tmps)}):=by
 refine B8 hs hf (v':=.iface t (a.eval x)) ?_ (.refl w) (.iface t _ _ (BM hs hf.wd U));have:(Instr.makeInterface t (a.eval x)).run cx.P w=.ok (.iface t (a.eval x)) w:=by simp only[Instr.makeInterface,Sem.run_bind,run_underlying hu,Result.andThen_ok];cases d<;>first | rfl | exact iW rfl (hn _)
 simp[execOp,ho,this]
theorem op_mkF (hs:SR lp I L Z a.tmps.toList jH w) (hf:Fr cx w0 I0 F0 O0 Hd R e ds I F L w) {f k:ja} {first cap:Array jb} (ho:o.op=.makeFunc (.func f) first cap)
  (hk:Gf k=first.size) (hi:Ba k=f) (U:E6 cx.G (first.toList++cap.toList)=some rs):BP cx w0 I0 F0 O0 Hd R e ds F lp jH o a w (apply Z o.dst {v:=.fn k (rs.map (RX.ev Z.tmps))}):=by
 have T:AC w I lp (some L) (.fn k (rs.map (RX.ev Z.tmps))) (.func (.func f) (first.map a.eval) (cap.map a.eval)):=by
  have:=AC.fn (w:=w) (I:=I) (lp:=lp) (L:=some L) k (rs.map (RX.ev Z.tmps)) (first.map a.eval) (cap.map a.eval) (by simpa using hk.symm) (by simpa using Q5 hs hf.wd U)
  rwa [hi] at this
 refine B8 hs hf (v':=.func (.func f) (first.map a.eval) (cap.map a.eval)) ?_ (.refl w) T;simp[execOp,ho,Instr.makeFunc]
theorem bU (hs:SR lp I L Z a.tmps.toList jH w) (hf:Fr cx w0 I0 F0 O0 Hd R e ds I F L w) {x:jb} (ho:o.op=.extract x j) (U:rx cx.G x=some r)
  (h:exec (o.dst.getD 0) (Al Z.jC) Z.tmps (.extract j r)=some out):BP cx w0 I0 F0 O0 Hd R e ds F lp jH o a w (apply Z o.dst out):=by
 have A:=BM hs hf.wd U;simp only[exec] at h;split at h
 case h_2=>cases h
 rename_i H T;rw[T] at A;obtain⟨vs,hv,jS⟩:=Zb A;split at h
 case h_2=>cases h
 rename_i y hy;cases h;obtain⟨u,hu,mF⟩:=jS.get hy;simp only[gi] at hu;exact B8 hs hf (v':=u) (by simp[execOp,ho,hv,Instr.extract,hu]) (.refl w) mF
theorem op_un (hs:SR lp I L Z a.tmps.toList jH w) (hf:Fr cx w0 I0 F0 O0 Hd R e ds I F L w) {x:jb} (ho:o.op=.unOp op t x) (U:rx cx.G x=some r)
  (h:exec (o.dst.getD 0) (Al Z.jC) Z.tmps (.un op r)=some out):BP cx w0 I0 F0 O0 Hd R e ds F lp jH o a w (apply Z o.dst out):=by
 have A:=BM hs hf.wd U;simp only[exec] at h;split at h;{rename_i b hb;rw[hb] at A;cases h;exact B8 hs hf (by simp[execOp,ho,Gi A,Op.unary]) (.refl w) (.bool _)};{rename_i k n hn;rw[hn] at A;cases h;exact B8 hs hf (by simp[execOp,ho,EP A,Op.unary,Op.intArith]) (.refl w) (.int _ _)};{cases h}
theorem SN {d2:jg} (U:P.underlying src=some d1) (O:P.underlying dst=some d2) (x:i8) (w:i7) :
  (convert src dst x).run P w=(match d1,d2,x with
   | _,.int k,.int _ n=>Conv.intToInt k n
   | _,.string,.int _ n=>Conv.intToString n
   | _,.string,.string _=>pure x
   | _,_,_=>convert src dst x).run P w:=by
 split<;>simp[convert,run_underlying U,run_underlying O]
theorem op_conv (hs:SR lp I L Z a.tmps.toList jH w) (hf:Fr cx w0 I0 F0 O0 Hd R e ds I F L w) {x:jb} (ho:o.op=.convert src dst x) (U:rx cx.G x=some r)
  {k:jc} (qj:cx.P.underlying src=some d1) (l9:cx.P.underlying dst=some (.int k))
  (h:exec (o.dst.getD 0) (Al Z.jC) Z.tmps (.conv k r)=some out):BP cx w0 I0 F0 O0 Hd R e ds F lp jH o a w (apply Z o.dst out):=by
 have A:=BM hs hf.wd U;simp only[exec] at h;split at h;{rename_i k' n hn;rw[hn] at A;cases h;refine B8 hs hf ?_ (.refl w) (.int _ _);simp[execOp,ho,EP A,SN qj l9,Conv.intToInt]};{cases h}
theorem sK (hs:SR lp I L Z a.tmps.toList jH w) (hf:Fr cx w0 I0 F0 O0 Hd R e ds I F L w) {x:jb} (ho:o.op=.convert src dst x) (U:rx cx.G x=some r)
  (qj:cx.P.underlying src=some d1) (l9:cx.P.underlying dst=some .string)
  (h:exec (o.dst.getD 0) (Al Z.jC) Z.tmps (.lK r)=some out):BP cx w0 I0 F0 O0 Hd R e ds F lp jH o a w (apply Z o.dst out):=by
 have A:=BM hs hf.wd U;simp only[exec] at h;split at h;{rename_i k' n hn;rw[hn] at A;cases h;refine B8 hs hf (v':=.string (Utf8.encode n)) ?_ (.refl w) ?_;{simp[execOp,ho,EP A,SN qj l9,Conv.intToString]};{have:=AC.str (w:=w) (I:=I) (lp:=lp) (L:=some L) (Utf8.encode n).data.toList;simpa using this}};{cases h}
theorem wO (hs:SR lp I L Z a.tmps.toList jH w) (hf:Fr cx w0 I0 F0 O0 Hd R e ds I F L w) {x:jb} (ho:o.op=.convert src dst x) (U:rx cx.G x=some r)
  (qj:cx.P.underlying src=some d1) (l9:cx.P.underlying dst=some .string)
  (h:exec (o.dst.getD 0) (Al Z.jC) Z.tmps (.mq r)=some out):BP cx w0 I0 F0 O0 Hd R e ds F lp jH o a w (apply Z o.dst out):=by
 have A:=BM hs hf.wd U;simp only[exec] at h;split at h;{rename_i s lr;rw[lr] at A;cases h;refine B8 hs hf (v':=a.eval x) ?_ (.refl w) A;simp[execOp,ho,FW A,SN qj l9]};{cases h}
end ops
end Go.Ab


namespace Go.Ab
variable{E:Type} {F:Nat->Prop} {Hd:Nat->Option Obj} {O0:Cw} {cx:Cx} {ds:List jf} {V:Nm} {p:Option (Nat×Nat)} {v:i8} {vs:List i8} {w0:i7} {x:W} {σ:Nm->jk} {RE:Ch E} {e:E}
theorem PS (f:Nm->Option jk) (H:jh):(Bf f H).length=H.length:=by
 induction H with
 | nil=>rfl
 | cons x H ih=>simp[Bf,ih]
theorem pz (f:Nm->Option jk) (H:jh) (i:Nat):(Bf f H)[i]?=(H[i]?).map (W.sub f):=by
 induction H generalizing i with
 | nil=>simp[Bf]
 | cons x H ih=>cases i with
  | zero=>simp[Bf]
  | succ i=>simp[Bf,ih]
theorem Qk (R:jl):∀ (σ:List jp) (V:Nm),Al (R.foldl (fun jC V=>Bv jC V BO) σ) V=if V∈R then (Al σ V).map fun _=>BO else Al σ V:=by
 induction R with
 | nil=>intro σ V;simp
 | cons r R ih =>
  intro σ V;simp only[fT,ih,dM];by_cases h:V=r
  ·subst h;cases hl:Al σ V with
   | none=>simp[(J6 BO).2 hl]
   | some ob=>rw[Ld BO hl];simp
  {simp[h,It BO h]}
def ku (I:Nat->Prop) (L:AK) (R:jl):Nat->Prop:=fun b=>I b\/∃ V∈R,∃ C,L V=some (some (b,C))
def Ia (L:AK) (R:jl):AK:=fun V=>if V∈R then (L V).map fun _=>none else L V
section
variable {lp:Nat->jj} {I:Nat->Prop} {L:AK} {Z:St} {j4 jH:List i8} {w:i7} {R:jl}
theorem SR.ni (h:SR lp I L Z j4 jH w) (hp:L V=some p):∃ ob,Al Z.jC V=some ob/\BR w I lp L ob p:=by
 cases hl:Al Z.jC V with
 | none=>have:=h.mf V hl;rw[hp] at this;cases this
 | some ob =>
  obtain⟨q,hq,ha⟩:=h.ob V ob hl;rw[hp] at hq;cases hq;exact⟨ob,rfl,ha⟩
theorem VI (hR:D9 (Al Z.jC) R=true) (hn:V∈R) {ob:Ob} (hl:Al Z.jC V=some ob):∀ m∈ob.names,m∈R:=by intro m hm;have:=d6.1 hR V hn;rw[hl] at this;simpa using d6.1 this m hm
theorem lD (h:SR lp I L Z j4 jH w) (hR:D9 (Al Z.jC) R=true):∀ (d:Nat) (V:Nm) (ob:Ob) (b C:Nat),V∈R->Al Z.jC V=some ob->L V=some (some (b,C)) ->
  Vj w (ku I L R) lp b (Je (Al Z.jC) d ob):=by
 have hI:∀ b,I b->ku I L R b:=fun b hb=>.inl hb
 have easy:∀ (f:Nm->Option jk),Fj w (ku I L R) lp L none (·∈R) f->∀ (V:Nm) (ob:Ob) (b C:Nat),V∈R->Al Z.jC V=some ob->L V=some (some (b,C)) ->
   Vj w (ku I L R) lp b (ob.sub f):=by
  intro f hf V ob b C hn hl hL;obtain⟨p,hp,ha⟩:=h.ob V ob hl;rw[hL] at hp;cases hp;have hb:ku I L R b:=.inr ⟨V,hn,C,hL⟩;cases ob with
  | cells ty cs =>
   obtain⟨c,E,U,O,h3,h4⟩:=ha;have hlen:=h4.length;simp only[fL] at hlen;refine⟨hb,c,E,(0,0),U,by rw[PS];omega,h3.1.mS _,?_⟩;have:=Av.subst hI hf h4 (VI hR hn hl)
   rwa [PS,hlen,dV (by simp)]
  | arr k kt H =>
   obtain⟨c,E,U,O,h3,h4,h5,h6⟩:=ha;exact⟨hb,c,E,(0,0),U,by omega,h4,h5,Av.mono hI (fun _ _=>rfl) (fun _ _ h=>h) h6⟩
  | map es=>obtain⟨kg,clock,U,O⟩:=ha;exact⟨hb,kg,clock,U,Av.mono hI (fun _ _=>rfl) (fun _ _ h=>h) O⟩
  | jT s p=>trivial
 intro d;induction d with
 | zero=>exact easy _ fun V p _ _=>trivial
 | succ d ih =>
  refine easy _ fun m p hm hp=>?_;obtain⟨ob,hl,ha⟩:=h.ni hp;simp only[hl,ed];cases p with
  | none=>obtain⟨k,kt,rfl⟩:=ha;exact⟨k,kt,by cases d<;>rfl⟩
  | some p=>exact ih m ob p.1 p.2 hm hl hp
theorem Qy (h:SR lp I L Z j4 jH w) (hR:D9 (Al Z.jC) R=true) (L':jr):Fj w (ku I L R) lp L L' (·∈R) (BX (Al Z.jC)):=by
 intro m p hm hp;obtain⟨ob,hl,ha⟩:=h.ni hp;simp only[BX,hl,ed];cases p with
 | none=>obtain⟨k,kt,rfl⟩:=ha;exact⟨k,kt,rfl⟩
 | some p=>exact lD h hR _ m ob p.1 p.2 hm hl hp
theorem bA (h:SR lp I L Z j4 jH w) (hR:D9 (Al Z.jC) R=true) (A:AC w I lp (some L) x v) (hn:∀ V∈x.names,V∈R) :
  AC w (ku I L R) lp none (x.sub (BX (Al Z.jC))) v :=
 AC.subst (fun _ hb=>.inl hb) (Qy h hR none) A hn
theorem PT (h:SR lp I L Z j4 jH w) (hR:D9 (Al Z.jC) R=true) {H:jh} (A:Av w I lp (some L) H vs) (hn:∀ V∈AU H,V∈R) :
  Av w (ku I L R) lp none (Bf (BX (Al Z.jC)) H) vs :=
 Av.subst (fun _ hb=>.inl hb) (Qy h hR none) A hn
theorem SR.freeze (h:SR lp I L Z j4 jH w) (hR:D9 (Al Z.jC) R=true):SR lp (ku I L R) (Ia L R) (DF (Al Z.jC) R Z) j4 jH w:=by
 have hs:Fj w (ku I L R) lp L (some (Ia L R)) (fun _=>True) (fun m=>if R.contains m then BX (Al Z.jC) m else none):=by intro m p _ hp;by_cases hm:m∈R;{have:=Qy h hR (some (Ia L R)) m p hm hp;simpa[hm] using this};{simp[hm,Ia,hp]}
 unfold DF;refine h.subst (fun _ hb=>.inl hb) (fun _ _=>rfl) hs ?_ ?_;{intro V ob hl;simp only[EK,Qk,Gh] at hl;split at hl;{rename_i hm;simp only[gG,dG] at hl;obtain⟨p9,hl,rfl⟩:=hl;obtain⟨p,hp,ha⟩:=h.ob V p9 hl;exact⟨none,by simp[Ia,hm,hp],0,0,rfl⟩};{rename_i hm;simp only[dG] at hl;obtain⟨p9,hl,rfl⟩:=hl;obtain⟨p,hp,ha⟩:=h.ob V p9 hl;exact⟨p,by simp[Ia,hm,hp],ha.subst (fun _ hb=>.inl hb) (fun _ _=>rfl) hs (fun _ _=>trivial) fun _ _ _=>rfl⟩}}
 ·intro V hl;simp only[EK,Qk,Gh] at hl;have:Al Z.jC V=none:=by split at hl<;>simpa using hl
  simp[Ia,h.mf V this]
theorem Fr.freeze {I0 F0:Nat->Prop} (h:Fr cx w0 I0 F0 O0 Hd RE e ds I F L w) (R:jl) :
  Fr cx w0 I0 F0 O0 Hd RE e ds (ku I L R) F (Ia L R) w:=by
 have cut:∀ V b C,Ia L R V=some (some (b,C))->V ∉ R/\L V=some (some (b,C)):=by intro V b C hn;unfold Ia at hn;split at hn;{simp at hn};{rename_i hm;exact⟨hm,hn⟩}
 refine h.own rfl rfl rfl (dH _) (fun _ _ _=>rfl) (fun _ hb=>.inl hb) ?_ ?_ ?_;{rintro b (hb | ⟨V,_,C,hL⟩);{exact .inl hb};{exact .inr ⟨(h.lB V b C hL).2.1,.inr ⟨V,C,hL⟩⟩}};{intro V b C hn;obtain⟨U,O⟩:=cut V b C hn;refine⟨(h.lB V b C O).2.1,?_,.inr ⟨V,C,O⟩⟩;rintro (hb | ⟨kR,oY,C',qK⟩);{exact (h.lB V b C O).2.2.1 hb};{exact U (h.inj V kR b C C' O qK ▸ oY)}};{intro V kR b C C' hn kW;exact h.inj V kR b C C' (cut V b C hn).2 (cut kR b C' kW).2}
theorem FT:∀ (d:Nat) (l:jl) (V:Nm),V∈l->V∈Bn σ d l:=by
 intro d;cases d with
 | zero=>intro l V h;exact h
 | succ d=>intro l V h;exact ec _ h
end
end Go.Ab


namespace Go.Ab
variable{P:jd} {c:Array i8} {cap d k:Nat} {fs:Array Field} {ps:Array (Nat×jb)} {rest:List (Nat×i8)} {rs:List (Nat×Nat×RX)} {t:je} {v:i8} {w1:i7} {z:jh}
theorem wP (off:Nat):∀ (vs:List i8) (k:Nat) (cs:Array i8),off+k+vs.length<=cs.size ->
  ((vs.zipIdx k).foldl (fun (cs:Array i8) (x:i8×Nat)=>cs.setIfInBounds (off+x.2) x.1) cs).toList=cs.toList.take (off+k)++vs++cs.toList.drop (off+k+vs.length):=by
 intro vs;induction vs with
 | nil=>intro k cs _;simp
 | cons v vs ih =>
  intro k cs h;simp only[eS] at h;simp only[hO,fT];rw[ih (k+1) _ (by simp;omega)];have:=list_seg_step cs.toList (off+k) v vs (by simp;omega);simpa[gA] using this
theorem sL (off:Nat) (vs:Array i8) (cs:Array i8) (h:off+vs.size<=cs.size) :
  (vs.zipIdx.foldl (fun (cs:Array i8) (x:i8×Nat)=>cs.setIfInBounds (off+x.2) x.1) cs).toList=cs.toList.take off++vs.toList++cs.toList.drop (off+vs.size):=by
 have:=wP off vs.toList 0 cs (by simpa using h);rw[<-Array.foldl_toList];simpa using this
section fill
variable {w:i7} {I:Nat->Prop} {lp:Nat->jj} {L:jr}
theorem Xy {place:Nat->Option (Nat×Nat)} {cells:Array i8} {i off n:Nat} (hp:place i=some (off,n)) (U:v.cells.size=n) (O:off+n<=cells.size) :
  ∃ mJ,mJ.toList=cells.toList.take off++v.cells.toList++cells.toList.drop (off+n)/\Instr.fill place cells ((i,v) :: rest)=Instr.fill place mJ rest:=by
 refine⟨_,?_,by simp only[Instr.fill,hp];rw[iI (by simp;omega)]⟩;have:=sL off v.cells cells (by omega);rw[U] at this;exact this
end fill
section ops
variable {E:Type} {cx:Cx} {w0:i7} {I0 F0:Nat->Prop} {O0:Cw} {Hd:Nat->Option Obj} {R:Ch E} {e:E} {ds:List jf} {F:Nat->Prop} {lp:Nat->jj} {jH:List i8}
variable {I:Nat->Prop} {L:AK} {Z:St} {a:Act} {w:i7} {o:Oper} {out:AQ} {pq:AG}
theorem cz (hs:SR lp I L Z a.tmps.toList jH w) (hw:cx.Wd I w) (place:Nat->Option (Nat×Nat)):∀ (ps:List (Nat×jb)) (rs:List (Nat×Nat×RX)) (z cs:jh) (zv:Array i8),
  MI cx.G place ps=some rs->Av w I lp (some L) z zv.toList->By zv.toList->ET Z.tmps z rs=some cs ->
  ∃ cells,Instr.fill place zv (ps.map fun x=>(x.1,a.eval x.2))=some cells/\Av w I lp (some L) cs cells.toList/\By cells.toList:=by
 intro ps;induction ps with
 | nil =>
  intro rs z cs zv hc hz ho hf;simp only[MI,dL] at hc;subst hc;simp only[ET,dL] at hf;subst hf;exact⟨zv,rfl,hz,ho⟩
 | cons p ps ih =>
  obtain⟨i,x⟩:=p;intro rs z cs zv hc hz ho hf;simp only[MI] at hc;split at hc
  case h_2=>cases hc
  rename_i off n y ys hp hy nZ;cases hc;simp only[ET] at hf;obtain⟨hk,hf⟩:=Bx hf;simp only[dF,iK] at hk;obtain⟨⟨k1,k2⟩,k3⟩:=hk;obtain⟨g1,g2⟩:=(BM hs hw hy).cells k1;have kS:(a.eval x).cells.size=n:=by have:=g2.length;simp at this;omega
  have hzl:=hz.length;simp only[fL] at hzl;obtain⟨mJ,hc',hfill⟩:=Xy (place:=place) (rest:=ps.map fun x=>(x.1,a.eval x.2)) hp kS (cells:=zv) (by omega);have jS:Av w I lp (some L) (j0 z off (y.ev Z.tmps).cells) mJ.toList:=by rw[hc'];have:=hz.j0 g2 off;simpa[kS] using this
  have kn:By mJ.toList:=by rw[hc'];exact ho.j0 g1 off (off+n)
  obtain⟨cells,U,O,h3⟩:=ih ys _ cs mJ nZ jS kn hf;exact⟨cells,by simpa[hfill] using U,O,h3⟩
theorem bE (fs:Array Field) (hfs:fs.all (fun f=>(P.info? f.type).isSome)=true) (w:i7) :
  (fs.mapM fun (f:Field)=>(do pure (f.offset,<-sizeOf f.type):Sem (Nat×Nat))).run P w=.ok (fs.map fun f=>(f.offset,P.cellsOf f.type)) w:=by
 have key:∀ l:List Field,(∀ f∈l,(P.info? f.type).isSome=true)->(l.mapM fun (f:Field)=>(do pure (f.offset,<-sizeOf f.type):Sem (Nat×Nat))).run P w=.ok (l.map fun f=>(f.offset,P.cellsOf f.type)) w:=by
  intro l;induction l with
  | nil=>intro _;rfl
  | cons f l ih =>
   intro h;obtain⟨i,hi⟩:=fZ.1 (h f (by simp));simp only[fq,Sem.run_bind,I4 hi,Result.andThen_ok,Sem.run_pure,ih fun g hg=>h g (by simp[hg]),dI];simp[Program.cellsOf,hi]
 rw[iC];simp only[Sem.run_map,key fs.toList (fun f hf=>by simpa using (Array.all_eq_true_iff_forall_mem.1 hfs) f (by simpa using hf)),Result.andThen_ok];congr 1;exact Array.ext' (by simp)
theorem wQ (hs:SR lp I L Z a.tmps.toList jH w) (hf:Fr cx w0 I0 F0 O0 Hd R e ds I F L w) (ho:o.op=.build t ps) 
  (hu:cx.P.underlying t=some (.struct fs)) (hz:Hf cx.P t=some (.agg z)) (hfs:fs.all (fun f=>(cx.P.info? f.type).isSome)=true) (hc:MI cx.G (PW cx.P fs) ps.toList=some rs)
  (h:exec (o.dst.getD 0) (Al Z.jC) Z.tmps (.build z rs)=some out):BP cx w0 I0 F0 O0 Hd R e ds F lp jH o a w (apply Z o.dst out):=by
 obtain⟨i,zv,hi,sf,jS⟩:=P1 hz (w:=w) (I:=I) (lp:=lp) (L:=some L);obtain⟨zs,rfl,kn,sM⟩:=Q2 jS;simp only[exec] at h;split at h
 case h_2=>cases h
 rename_i cs rF;cases h;obtain⟨cells,U,O,h3⟩:=cz hs hf.wd _ _ _ _ _ _ hc sM kn rF;refine B8 hs hf (v':=.agg cells) ?_ (.refl w) (.agg _ _ h3 O)
 have hpl:PW cx.P fs=fun j=>(fs.map fun f=>(f.offset,cx.P.cellsOf f.type))[j]?:=by
  funext j;unfold PW;rw[Array.getElem?_map];cases hj:fs[j]? with
  | none=>rfl
  | some f =>
   obtain⟨inf,hinf⟩:=fZ.1 ((Array.all_eq_true_iff_forall_mem.1 hfs) f (Array.mem_of_getElem? hj));simp[hinf,Program.cellsOf]
 rw[hpl] at U;have j9:(Instr.build t (ps.map fun x=>(x.1,a.eval x.2))).run cx.P w=.ok (.agg cells) w:=by simp only[Instr.build,Sem.run_bind,zeroValue,typeInfo,run_program,Result.andThen_ok,hi,Sem.run_pure,sf,run_underlying hu,bE fs hfs w,Value.cells,hT,U]
 simp[execOp,ho,j9]
theorem cA (k:Nat):∀ (vs:List i8) (j:Nat) (cells:Array i8),(∀ v∈vs,v.cells.size=k)->(j+vs.length)*k<=cells.size ->
  ∃ mJ,Instr.fill (fun i=>some (i*k,k)) cells ((vs.zipIdx j).map fun x=>(x.2,x.1))=some mJ /\
   mJ.toList=cells.toList.take (j*k)++vs.flatMap (fun v=>v.cells.toList)++cells.toList.drop ((j+vs.length)*k):=by
 intro vs;induction vs with
 | nil=>intro j cells _ _;exact⟨cells,rfl,by simp⟩
 | cons v vs ih =>
  intro j cells hv hle;simp only[eS] at hle;have e1:(j+(vs.length+1))*k=j*k+k+vs.length*k:=by rw[eg,eg];omega
  have hvk:=hv v (by simp);obtain⟨c1,ry,lV⟩:=Xy (place:=fun i=>some (i*k,k)) (cells:=cells) (i:=j) (v:=v) (rest:=(vs.zipIdx (j+1)).map fun x=>(x.2,x.1)) rfl hvk (by omega);have hl:c1.toList.length=cells.size:=by rw[ry];simp[hvk];omega
  obtain⟨c2,rG,hl2⟩:=ih (j+1) c1 (fun u hu=>hv u (by simp[hu])) (by
   have:c1.size=cells.size:=by simpa using hl
   rw[this,show j+1+vs.length=j+(vs.length+1) from by omega];exact hle)
  refine⟨c2,?_,?_⟩;{simp only[hO,dI,lV];exact rG}
  ·rw[hl2,ry];have e2:(j+1)*k=j*k+k:=by rw[eg,fR]
   have e3:(j+1+vs.length)*k=j*k+k+vs.length*k:=by rw[eg,eg];omega
   have t1:(cells.toList.take (j*k)).length=j*k:=by simp;omega
   rw[e2,e3,eS,e1];have a1:(cells.toList.take (j*k)++v.cells.toList).length=j*k+k:=by simp[hvk];omega
   rw[gk (by omega),dV (l:=cells.toList.take (j*k)++v.cells.toList) (by omega)];rw[List.drop_append,a1,gQ (l:=cells.toList.take (j*k)++v.cells.toList) (by omega),eM,gh,fY];simp[eL,gA]
theorem Z3 (hs:SR lp I L Z a.tmps.toList jH w) (hw:cx.Wd I w):∀ (ps:List (Nat×jb)) (j:Nat) (rs:jz),M6 cx.G j ps=some rs ->
  ∃ vs,ps.map (fun x=>(x.1,a.eval x.2))=(vs.zipIdx j).map (fun x=>(x.2,x.1))/\Av w I lp (some L) (rs.map (RX.ev Z.tmps)) vs:=by
 intro ps;induction ps with
 | nil=>intro j rs h;simp only[M6,dL] at h;subst h;exact⟨[],rfl,.nil⟩
 | cons p ps ih =>
  obtain⟨i,x⟩:=p;intro j rs h;simp only[M6] at h;split at h
  case isFalse=>cases h
  rename_i sN;subst sN;split at h
  case h_2=>cases h
  rename_i y ys hy nZ;cases h;obtain⟨vs,U,O⟩:=ih (i+1) ys nZ;exact⟨a.eval x :: vs,by simp[U],.cons _ _ _ _ (BM hs hw hy) O⟩
theorem S1 {w:i7} {I:Nat->Prop} {lp:Nat->jj} {L:jr}:∀ {H:jh} {vs:List i8},Av w I lp L H vs->(H.all fun x=>x.isVal&&x.cells.length==k)=true ->
  (∀ v∈vs,v.cells.size=k)/\(∀ x∈H,x.cells.length=k)/\By (vs.flatMap fun v=>v.cells.toList)/\Av w I lp L (jM H) (vs.flatMap fun v=>v.cells.toList):=by
 intro H;induction H with
 | nil=>intro vs h _;cases h;exact⟨by simp,by simp,by simp[By],.nil⟩
 | cons x H ih =>
  intro vs h kE;cases h with
  | cons _ v _ vs h hs =>
   simp only[e9,dF,iL] at kE;obtain⟨⟨U,O⟩,h3⟩:=kE;obtain⟨i1,i2,i3,i4⟩:=ih hs (by simpa using h3);obtain⟨c1,c2⟩:=h.cells U;have hl:=c2.length;simp only[fL] at hl;refine⟨?_,?_,?_,?_⟩;{intro u hu;rcases dM.1 hu with rfl | hu;{omega};{exact i1 u hu}};{intro u hu;rcases dM.1 hu with rfl | hu;{exact O};{exact i2 u hu}};{rw[fg];exact c1.mH i3};{rw[fg];exact c2.append i4}
theorem Mu {qb:Nat} {z:W} (h:Hg P t=some (k,qb,z)) :
  ∃ e i zv,P.underlying t=some (.slice e)/\P.info? e=some i/\i.size=k/\i.bytes=qb/\qb<=65536/\i.zero=some zv/\z.cells.length=k/\z.isVal=true/\z.names=[] /\
   (∀ (w:i7) (I:Nat->Prop) (lp:Nat->jj) (L:jr),AC w I lp L z zv):=by
 unfold Hg at h;split at h
 case h_2=>cases h
 rename_i e hu;split at h
 case h_2=>cases h
 rename_i i z' hi hz;split at h
 case isFalse=>cases h
 rename_i hb;cases h;have n7:=V4 hz;have hz0:=hz;unfold Hf at hz;simp only[eY] at hz;obtain⟨zv,⟨j,hj,hjz⟩,hp⟩:=hz;rw[hi] at hj;cases hj;exact⟨e,i,zv,hu,hi,rfl,rfl,hb.1,hjz,hb.2,n7,ZH 3 zv _ hp,fun w I lp L=>SP 3 zv _ hp⟩
theorem Ot (hs:SR lp I L Z a.tmps.toList jH w) (hf:Fr cx w0 I0 F0 O0 Hd R e ds I F L w) (hd:o.dst=some d) (hc:Z.jC[d]?=some [])
  {kt:Nat} {H:jh} (hkt:kt=0\/t=kt) (hw:La w w1) (pa:H.length<=cap) (kS:cap*k<=c.size) (hk:∀ x∈H,x.cells.length=k)
  (kn:By (c.toList.take (H.length*k))) (jS:Av w I lp none (jM H) (c.toList.take (H.length*k)))
  (T:(execOp a.eval o).run cx.P w=.ok (.value (.slice (some ⟨w.heap.size,0,none⟩) H.length cap)) (w1.alloc (.cells c t))) :
  BP cx w0 I0 F0 O0 Hd R e ds F lp jH o a w (apply Z o.dst {v:=.arr (d,0) k 0 H.length,new:=[.arr k kt H]}):=by
 have nj:w1.heap.size=w.heap.size:=by rw[hw.heap]
 have hle:H.length*k<=cap*k:=eT _ pa;refine QN hs hf hd hc hw (C:=c.size) T ?_ ?_;{intro L' hL;refine⟨c,t,by rw[<-nj];exact J4 w1 _,rfl,⟨by omega,hkt⟩,hk,kn,?_⟩;exact Av.mono (fun _ h=>h) (fun b hb=>by rw[Fq w1 _ (by have:=hf.sep.iB b hb;omega),hw.heap]) (fun _ _ h=>h) jS};{intro L' hL;have:=AC.arr (w:=w1.alloc (.cells c t)) (I:=I) (lp:=lp) (L:=L') (d,0) k 0 H.length cap w.heap.size c.size hL (by simpa using kS) pa;simpa using this}
end ops
end Go.Ab


namespace Go.Ab
variable{P:jd} {Rn:jl} {ag:Bool} {qb d f k n:Nat} {fd:Field} {fs:Array Field} {i:TypeInfo} {ps:Array (Nat×jb)} {r r1 r2:RX} {rs:jz} {t:je} {v:i8} {vs:Array i8} {x z:W} {y:jb}
section ops
variable {E:Type} {cx:Cx} {w0:i7} {I0 F0:Nat->Prop} {O0:Cw} {Hd:Nat->Option Obj} {R:Ch E} {e:E} {ds:List jf} {F:Nat->Prop} {lp:Nat->jj} {jH:List i8}
variable {I:Nat->Prop} {L:AK} {Z:St} {a:Act} {w:i7} {o:Oper} {out:AQ} {pq:AG}
theorem aX (hs:SR lp I L Z a.tmps.toList jH w) (hf:Fr cx w0 I0 F0 O0 Hd R e ds I F L w) (hR:D9 (Al Z.jC) Rn=true) {o:Oper} {out:AQ} (hfrz:out.kj=[]) (hupd:out.kA=none) (hkill:out.kill=none)
  (h:∀ (L':AK),SR lp (ku I L Rn) L' (DF (Al Z.jC) Rn Z) a.tmps.toList jH w->Fr cx w0 I0 F0 O0 Hd R e ds (ku I L Rn) F L' w ->
   BP cx w0 I0 F0 O0 Hd R e ds F lp jH o a w (apply (DF (Al Z.jC) Rn Z) o.dst out)) (jW:Rn≠[]) :
  BP cx w0 I0 F0 O0 Hd R e ds F lp jH o a w (apply Z o.dst {out with kj:=Rn}):=by
 have hd:=h _ (hs.freeze hR) (hf.freeze Rn)
 have e1:apply Z o.dst {out with kj:=Rn}=apply (DF (Al Z.jC) Rn Z) o.dst out:=by
  cases Rn with
  | nil=>exact iW rfl jW
  | cons r rs=>simp[apply,hfrz,hupd,hkill]
 rw[e1];exact hd
theorem ZG (t el:je) (i:TypeInfo) (zv:i8) (hu:P.underlying t=some (.slice el)) (hi:P.info? el=some i) (hz:i.zero=some zv) (w:i7) (len:Nat) (parts:Array (Nat×i8)) (h:len*i.size<=16777216)
  (vs:List i8) (hp:parts.toList=(vs.zipIdx 0).map fun x=>(x.2,x.1)) (hl:vs.length=len) (hv:∀ v∈vs,v.cells.size=i.size) :
  ∃ c:Array i8,c.toList=vs.flatMap (fun v=>v.cells.toList)/\(Instr.buildSlice t len parts).run P w=.ok (.slice (some ⟨w.heap.size,0,none⟩) len len) (w.alloc (.cells c el)):=by
 have go:∀ z0:Array i8,∃ c:Array i8,Instr.fill (fun j=>some (j*i.size,i.size)) ((Array.range (len*i.size)).map (z0[·%z0.size]!)) parts.toList=some c/\c.toList=vs.flatMap (fun v=>v.cells.toList):=by intro z0;obtain⟨c,U,O⟩:=cA i.size vs 0 ((Array.range (len*i.size)).map (z0[·%z0.size]!)) hv (by simp[hl]);refine⟨c,by rw[hp];exact U,?_⟩;rw[O,Nat.zero_mul,gS,eM,gQ (by simp[hl]),ft]
 by_cases h0:len*i.size=0;{obtain⟨c,U,O⟩:=go #[];refine⟨c,O,?_⟩;simp only[Instr.buildSlice,Sem.run_bind,run_underlying hu,Result.andThen_ok,I4 hi];rw[iI (by omega),iJ h0];rw[Sem.run_bind,Sem.run_pure,Result.andThen_ok,U];simp[newRow]};{obtain⟨c,U,O⟩:=go zv.cells;refine⟨c,O,?_⟩;simp only[Instr.buildSlice,Sem.run_bind,run_underlying hu,Result.andThen_ok,I4 hi];rw[iI (by omega)];rw[iI h0];simp only[Sem.run_pure,Result.andThen_ok,Sem.run_bind,zeroValue,typeInfo,run_program,hi,hz];rw[U];simp[newRow]}
theorem op_mkSl (hs:SR lp I L Z a.tmps.toList jH w) (hf:Fr cx w0 I0 F0 O0 Hd R e ds I F L w) {len:Nat} (ho:o.op=.buildSlice t len ps) 
  (he:Hg cx.P t=some (k,qb,z)) (hc:M6 cx.G 0 ps.toList=some rs) (hl:rs.length=len) (hle:len*k<=16777216) (hd:o.dst=some d) (k8:Z.jC[d]?=some [])
  (h:exec (o.dst.getD 0) (Al Z.jC) Z.tmps (.nO k rs)=some out):BP cx w0 I0 F0 O0 Hd R e ds F lp jH o a w (apply Z o.dst out):=by
 obtain⟨el,i,zv,hu,hi,o8,_,_,hz,_⟩:=Mu he;obtain⟨vs,U,O⟩:=Z3 hs hf.wd _ _ _ hc;have hlen:=O.length;rw[dY] at hlen;have j9:(∀ v∈vs,v.cells.size=k)->∃ c:Array i8,c.toList=vs.flatMap (fun v=>v.cells.toList)/\(execOp a.eval o).run cx.P w=.ok (.value (.slice (some ⟨w.heap.size,0,none⟩) len len)) (w.alloc (.cells c el)):=by intro hv;obtain⟨c,g1,g2⟩:=ZG t el i zv hu hi hz w len (ps.map fun x=>(x.1,a.eval x.2)) (by rw[o8];exact hle) vs (by simpa using U) (by omega) (by rw[o8];exact hv);exact⟨c,g1,by simp[execOp,ho,g2]⟩
 simp only[exec,hd,eN] at h;split at h
 ·rename_i hS;obtain⟨hk,h⟩:=Bx h;cases h;obtain⟨v1,v2,v3,v4⟩:=S1 O hk;obtain⟨c,ry,T⟩:=j9 v1;have hS:AU (rs.map (RX.ev Z.tmps))=[]:=by simpa using hS
  have qL:=(S1 (O.shut hS) hk).2.2.2;have oP:=qL.length;rw[Le v2,<-ry] at oP;have wR:(rs.map (RX.ev Z.tmps)).length=len:=by simp[hl]
  rw[wR] at oP
  have:=Ot hs hf hd k8 (k:=k) (kt:=0) (H:=rs.map (RX.ev Z.tmps)) (c:=c) (t:=el) (.inl rfl) (cap:=len) (.refl w) (by omega) (by simp at oP;omega) v2
   (by rw[wR,oP,fM,ry];exact v3) (by rw[wR,oP,fM,ry];exact qL) (by rw[wR];exact T)
  simpa[hd] using this
 ·rename_i hS;obtain⟨hk,h⟩:=Bx h;cases h;simp only[dF] at hk;obtain⟨hk,hR⟩:=hk
  have jW:Bn (Al Z.jC) A7 (AU (rs.map (RX.ev Z.tmps)))≠[]:=by
   intro e0;cases hn:AU (rs.map (RX.ev Z.tmps)) with
   | nil=>rw[hn] at hS;simp at hS
   | cons m ms =>
    have:m∈Bn (Al Z.jC) A7 (AU (rs.map (RX.ev Z.tmps))):=FT A7 _ m (by rw[hn];exact d7);rw[e0] at this;cases this
  have hclo0:=PT hs hR O fun V hn=>FT _ _ V hn;obtain⟨v1,v2,v3,qL⟩:=S1 hclo0 hk;obtain⟨c,ry,T⟩:=j9 v1;have oP:=qL.length;rw[Le v2,<-ry] at oP;have wR:(Bf (BX (Al Z.jC)) (rs.map (RX.ev Z.tmps))).length=len:=by simp[PS,hl]
  rw[wR] at oP;have:=aX hs hf hR (o:=o) (out:={v:=.arr (d,0) k 0 (Bf (BX (Al Z.jC)) (rs.map (RX.ev Z.tmps))).length,new:=[.arr k 0 (Bf (BX (Al Z.jC)) (rs.map (RX.ev Z.tmps)))]}) rfl rfl rfl (fun L' kV kK=>?_) jW;{simpa[hd] using this}
  ·have hcl':(DF (Al Z.jC) (Bn (Al Z.jC) A7 (AU (rs.map (RX.ev Z.tmps)))) Z).jC[d]?=some []:=by
    have key:∀ (R:jl) (σ:List jp),σ[d]?=some []->(R.foldl (fun jC V=>Bv jC V BO) σ)[d]?=some []:=by
     intro R;induction R with
     | nil=>intro σ h;exact h
     | cons r R ih =>
      intro σ h;refine ih _ ?_;show (Bv σ r BO)[d]?=some [];unfold Bv;split;{rename_i l hl;by_cases hrd:r.1=d;{rw[hrd] at hl;rw[h] at hl;cases hl;rw[hrd,fS (dU.1 h).1];rfl};{rw[eB hrd];exact h}};{exact h}
    refine key _ _ ?_;simp[EK,k8]
   exact Ot kV kK hd hcl' (k:=k) (kt:=0) (c:=c) (t:=el) (.inl rfl) (cap:=len) (.refl w) (by omega) (by simp at oP;omega) v2
    (by rw[wR,oP,fM,ry];exact v3) (by rw[wR,oP,fM,ry];exact qL) (by rw[wR];exact T)
theorem bY (h:DL x=some n):∃ k,x=.int k (n:Int):=by unfold DL at h;split at h;{rename_i k m;split at h;{rename_i hm;cases h;exact⟨k,by rw[Int.toNat_of_nonneg hm]⟩};·cases h};{cases h}
theorem Kq (A:AC w I lp (some L) x v) (h:DL x=some n):∃ k,v=.int k (n:Int):=by obtain⟨k,hk⟩:=bY h;rw[hk] at A;exact⟨k,EP A⟩
theorem ZN {w:i7} {I:Nat->Prop} {lp:Nat->jj} {L:jr} {zs:List i8} (h:Av w I lp L z.cells zs) (l:Nat) :
  Av w I lp L (jM (List.replicate l z)) (List.replicate l zs).flatten:=by
 induction l with
 | zero=>exact .nil
 | succ l ih=>rw[List.replicate_succ,List.replicate_succ,jM,List.flatten_cons];exact h.append ih
theorem op_mkS (hs:SR lp I L Z a.tmps.toList jH w) (hf:Fr cx w0 I0 F0 O0 Hd R e ds I F L w) {x:jb} (ho:o.op=.makeSlice t x y) 
  (he:Hg cx.P t=some (k,qb,z)) (U:rx cx.G x=some r1) (O:rx cx.G y=some r2) (hd:o.dst=some d) (k8:Z.jC[d]?=some [])
  (h:exec (o.dst.getD 0) (Al Z.jC) Z.tmps (.r8 k z r1 r2)=some out):BP cx w0 I0 F0 O0 Hd R e ds F lp jH o a w (apply Z o.dst out):=by
 obtain⟨el,i,zv,hu,hi,o8,hby,hb6,hz,hzk,hzv,hzn,sM⟩:=Mu he;have A:=BM hs hf.wd U;have hy:=BM hs hf.wd O;simp only[exec,hd,eN] at h;split at h
 case h_2=>cases h
 rename_i l c hl hc;obtain⟨hk,h⟩:=Bx h;cases h;simp only[dF,iK,iL] at hk;obtain⟨⟨oP,hcm⟩,_⟩:=hk;unfold Gl at hcm;obtain⟨k1,kF⟩:=Kq A hl;obtain⟨k2,nL⟩:=Kq hy hc
 have hmul:i.bytes*c<=140737488355328:=calc i.bytes*c<=65536*2147483648:=Nat.mul_le_mul (by omega) hcm
  _=140737488355328:=by decide
 have hmulI:(i.bytes:Int)*(c:Int)<=140737488355328:=by
  have:((i.bytes*c:Nat):Int)<=((140737488355328:Nat):Int):=Int.ofNat_le.2 hmul
  rwa [Int.natCast_mul] at this
 have j9:=run_make (P:=cx.P) w t el i zv hu hi hz k1 k2 (l:Int) (c:Int) (by omega) (by omega) (by omega) (by omega);simp only[dN] at j9;obtain⟨sf,hz2⟩:=(sM w I lp none).cells hzv;have wS:zv.cells.size=k:=by have:=hz2.length;simp at this;omega
 have hmk:∀ n,n<=c->(madeCells zv.cells (c*k)).toList.take (n*k)=(List.replicate n zv.cells.toList).flatten:=by
  intro n hn;apply eO;intro j;by_cases hj:j < n*k
  ·have hk0:0 < k:=Nat.pos_of_ne_zero fun h0=>by simp[h0] at hj
   have hjc:j < c*k:=fm hj (eT _ hn);rw[gj hj];have hmod:j%k < k:=gn _ hk0
   have key:∀ (n j:Nat),j < n*k->(List.replicate n zv.cells.toList).flatten[j]?=zv.cells.toList[j%k]?:=by
    intro n;induction n with
    | zero=>intro j hj;simp at hj
    | succ n ih =>
     intro j hj;rw[List.replicate_succ,List.flatten_cons];by_cases hjk:j < k;{rw[fu (by simp[wS,hjk]),gP hjk]};{rw[fN (by simp[wS];omega)];simp only[fL,wS];rw[eg,fR] at hj;rw[ih (j - k) (by omega),<-Nat.mod_eq_sub_mod (by omega)]}
   rw[key n j hj];simp[madeCells,hjc,wS,hmod]
  {rw[ew (by simp;omega),ew (by simp[wS];omega)]}
 have hclen:∀ x∈List.replicate l z,x.cells.length=k:=fun x A=>by rw[hZ A];exact hzk
 have kn:By (List.replicate l zv.cells.toList).flatten:=by intro v hv;obtain⟨u,qj,l9⟩:=List.mem_flatten.1 hv;rw[hZ qj] at l9;exact sf v l9
 have jS:=ZN hz2 l
 have:=Ot hs hf hd k8 (k:=k) (kt:=0) (H:=List.replicate l z) (c:=madeCells zv.cells (c*k)) (t:=el) (.inl rfl) (cap:=c) (.refl w) (by simpa using oP) (by simp[madeCells]) hclen
  (by rw[List.length_replicate,hmk l oP];exact kn) (by rw[List.length_replicate,hmk l oP];exact jS)
  (by simp[execOp,ho,kF,nL,j9,o8])
 simpa[hd] using this
theorem wT (hs:SR lp I L Z a.tmps.toList jH w) (hf:Fr cx w0 I0 F0 O0 Hd R e ds I F L w) (ho:o.op=.makeMap t none) (hd:o.dst=some d) (k8:Z.jC[d]?=some []) :
  BP cx w0 I0 F0 O0 Hd R e ds F lp jH o a w (apply Z o.dst {v:=.mp (d,0),new:=[.map []]}):=by
 refine QN hs hf hd k8 (.refl w) (C:=0) (v':=.map (some w.heap.size)) (obj:=.map #[] 0) ?_ ?_ ?_;{have:(Instr.makeMap t none).run cx.P w=.ok (.map (some w.heap.size)) (w.alloc (.map #[] 0)):=rfl;simp[execOp,ho,this]};{intro L' hL;exact⟨#[],0,J4 w _,.nil⟩};{intro L' hL;exact .mp _ _ _ hL}
theorem ZW (hs:SR lp I L Z a.tmps.toList jH w) (hf:Fr cx w0 I0 F0 O0 Hd R e ds I F L w) {x:jb} (ho:o.op=.fieldAddr t x f) 
  (hu:cx.P.underlying t=some (.struct fs)) (hfd:fs[f]?=some fd) (hi:cx.P.info? fd.type=some i) (hz:i.size≠0) (U:rx cx.G x=some r)
  (h:exec (o.dst.getD 0) (Al Z.jC) Z.tmps (.fieldAddr fd.offset r)=some out):BP cx w0 I0 F0 O0 Hd R e ds F lp jH o a w (apply Z o.dst out):=by
 have A:=BM hs hf.wd U;have j9:∀ b off,a.eval x=.pointer (some ⟨b,off,none⟩)->(execOp a.eval o).run cx.P w=.ok (.value (.pointer (some ⟨b,off+fd.offset,none⟩))) w:=by intro b off hv;simp[execOp,ho,hv,Instr.fieldAt,run_underlying hu,hfd,Instr.sureAddr,fieldPlace,I4 hi,hz,JC]
 simp only[exec] at h;split at h;{rename_i V off T;rw[T] at A;cases h;obtain⟨b,C,hL,hv⟩:=GK A;exact B8 hs hf (j9 b off hv) (.refl w) (.ref V _ b C hL)}
 ·rename_i cs off T;rw[T] at A;obtain⟨hk,h⟩:=Bx h;cases h;obtain⟨b,qH,c,E',fr,hv,g1,g2,g3,g4,g5,g6⟩:=M5 A;have:=AC.ptr (w:=w) (I:=I) (lp:=lp) (L:=some L) cs (off+fd.offset) b qH c E' fr g1 g2 g3 (iY hk) g5 g6;refine B8 hs hf (j9 b _ hv) (.refl w) ?_
  rwa [gA]
 {rename_i V k j off T;rw[T] at A;cases h;obtain⟨b,C,hL,hv⟩:=QK A;refine B8 hs hf (j9 b _ hv) (.refl w) ?_;rw[gA];exact .jQ V k j _ b C hL};{cases h}
theorem wU {w:i7} (lP:H4 P t=some (n,ag)) {off:Nat} 
  (hv:if ag then off+n<=vs.toList.length/\v=.agg ((vs.toList.drop off).take n).toArray else vs.toList[off]?=some v):(part t vs off).run P w=.ok v w:=by
 obtain⟨d,i,U,O,h3,h4⟩:=SC lP;simp only[part,Sem.run_bind,WW U,Result.andThen_ok,h4];cases ag;{simp only[dE,iG,gi] at hv |-;simp[hv]};{simp only[iH] at hv |-;obtain⟨_,rfl⟩:=hv;simp[I4 O,h3,NW]}
theorem wV (hs:SR lp I L Z a.tmps.toList jH w) (hf:Fr cx w0 I0 F0 O0 Hd R e ds I F L w) {x:jb} (ho:o.op=.field t x f) 
  (hu:cx.P.underlying t=some (.struct fs)) (hfd:fs[f]?=some fd) (lP:H4 cx.P fd.type=some (n,ag)) (U:rx cx.G x=some r)
  (h:exec (o.dst.getD 0) (Al Z.jC) Z.tmps (.field fd.offset n ag r)=some out):BP cx w0 I0 F0 O0 Hd R e ds F lp jH o a w (apply Z o.dst out):=by
 have A:=BM hs hf.wd U;simp only[exec] at h;split at h
 case h_2=>cases h
 rename_i cs T;rw[T] at A;obtain⟨vs,hv,kn,jS⟩:=Q2 A;obtain⟨u,lH,rfl⟩:=dG.1 h;obtain⟨v',hv',sd⟩:=OL jS kn lH;refine B8 hs hf (v':=v') ?_ (.refl w) sd;simp[execOp,ho,hv,Instr.field,run_underlying hu,hfd,asAgg,wU lP hv']
theorem VK {el:je} (hu:P.underlying t=some (.slice el)) (hi:P.info? el=some i) (w:i7) (b off len cap:Nat) (k:jc) (j:Nat) (hj:j < len) :
  (Instr.indexAt t (.slice (some ⟨b,off,none⟩) len cap) (.int k (j:Int))).run P w=.ok (.pointer (some ⟨b,off+j*i.size,none⟩)) w:=by
 have O:(0:Int)<=(j:Int)/\(j:Int) < (len:Int):=⟨by omega,by omega⟩;simp[Instr.indexAt,asIntOf,run_underlying hu,O,I4 hi,JC];intro h;omega
theorem bT (hs:SR lp I L Z a.tmps.toList jH w) (hf:Fr cx w0 I0 F0 O0 Hd R e ds I F L w) {x:jb} (ho:o.op=.indexAddr t x y) 
  (he:Hg cx.P t=some (k,qb,z)) (U:rx cx.G x=some r1) (O:rx cx.G y=some r2)
  (h:exec (o.dst.getD 0) (Al Z.jC) Z.tmps (.jJ k r1 r2)=some out):BP cx w0 I0 F0 O0 Hd R e ds F lp jH o a w (apply Z o.dst out):=by
 obtain⟨el,i,zv,hu,hi,o8,_⟩:=Mu he;have A:=BM hs hf.wd U;have hy:=BM hs hf.wd O;simp only[exec] at h;split at h
 ·rename_i j k' H full hj T;rw[T] at A;obtain⟨kk,hky⟩:=Kq hy hj;split at h
  case h_2=>cases h
  rename_i ev jL;obtain⟨hk,h⟩:=Bx h;cases h;simp only[dF,iL,iK] at hk;obtain⟨rfl,hk0⟩:=hk;have jP:=(dU.1 jL).1;rcases KG A with ⟨b,off,cap,c,E',fr,hv,g1,g2,g3,g4,g5,g6,g7,g8⟩ | ⟨rfl,_⟩
  ·have j9:=VK (P:=cx.P) hu hi w b off H.length cap kk j jP;rw[o8] at j9;have nJ:=g4 ev (d9 jL);have hmul:(j+1)*k<=H.length*k:=eT _ jP;rw[eg,fR] at hmul;have e1:(((c.toList.drop off).take (H.length*k)).drop (j*k)).take k=(c.toList.drop (off+j*k)).take k:=by rw[fD,eU,fY,eG (by omega)]
   have:=AC.ptr (w:=w) (I:=I) (lp:=lp) (L:=some L) ev.cells 0 b (off+j*k) c E' fr g1 g2 (by omega) (by omega) (by rw[nJ,<-e1];exact (g7.ng _).mS _)
    (by rw[nJ,<-e1,<-Tk g4 jL];exact (g8.drop _).take _)
   exact B8 hs hf (v':=.pointer (some ⟨b,off+j*k,none⟩)) (by simp[execOp,ho,hv,hky,j9]) (.refl w) (by simpa using this)
  {simp at jL}
 ·rename_i j V k' off n hj T;rw[T] at A;obtain⟨kk,hky⟩:=Kq hy hj;obtain⟨hk,h⟩:=Bx h;cases h;simp only[dF,iL,iK] at hk;obtain⟨rfl,hjn⟩:=hk;rcases Ks A with ⟨b,C,cap,hL,hv,_,_⟩ | ⟨_,_,_,hn0⟩
  {have j9:=VK (P:=cx.P) hu hi w b (off*k) n cap kk j hjn;rw[o8] at j9;have:=AC.jQ (w:=w) (I:=I) (lp:=lp) V k (off+j) 0 b C hL;refine B8 hs hf (v':=.pointer (some ⟨b,off*k+j*k,none⟩)) (by simp[execOp,ho,hv,hky,j9]) (.refl w) ?_;rw[eg] at this;exact this};{omega}
 {cases h}
theorem sO (hs:SR lp I L Z a.tmps.toList jH w) (hf:Fr cx w0 I0 F0 O0 Hd R e ds I F L w) {x:jb} (ho:o.op=.index t x y) 
  (hu:cx.P.underlying t=some .string) (U:rx cx.G x=some r1) (O:rx cx.G y=some r2)
  (h:exec (o.dst.getD 0) (Al Z.jC) Z.tmps (.lL r1 r2)=some out):BP cx w0 I0 F0 O0 Hd R e ds F lp jH o a w (apply Z o.dst out):=by
 have A:=BM hs hf.wd U;have hy:=BM hs hf.wd O;simp only[exec] at h;split at h
 case h_2=>cases h
 rename_i j s hj T;rw[T] at A;obtain⟨kk,hky⟩:=Kq hy hj;split at h
 case h_2=>cases h
 rename_i b hb;cases h;have lX:(⟨s.toArray⟩:ByteArray)[j]?=some b:=by obtain⟨U,O⟩:=dU.1 hb;have kS:j < (⟨s.toArray⟩:ByteArray).size:=U;rw[getElem?_pos (⟨s.toArray⟩:ByteArray) j kS];exact iP some O
 refine B8 hs hf (v':=.int .u8 b.toNat) ?_ (.refl w) (.int _ _);simp[execOp,ho,FW A,hky,Instr.index,asIntOf,run_underlying hu,lX]
end ops
end Go.Ab


namespace Go.Ab
variable{P:jd} {el t:je} {i:TypeInfo} {n:Nat} {r rh rl:jB} {x:jb} {xo:Option jb} {z:W}
section ops
variable {E:Type} {cx:Cx} {w0:i7} {I0 F0:Nat->Prop} {O0:Cw} {Hd:Nat->Option Obj} {R:Ch E} {e:E} {ds:List jf} {F:Nat->Prop} {lp:Nat->jj} {jH:List i8}
variable {I:Nat->Prop} {L:AK} {Z:St} {a:Act} {w:i7} {o:Oper} {out:AQ} {pq:AG}
theorem aA (hs:SR lp I L Z a.tmps.toList jH w) (hf:Fr cx w0 I0 F0 O0 Hd R e ds I F L w) {y:jb} (ho:o.op=.indexAddr t x y) {r1 r2:RX}
  (hu:cx.P.underlying t=some (.array n el)) (hi:cx.P.info? el=some i) (U:rx cx.G x=some r1) (O:rx cx.G y=some r2)
  (h:exec (o.dst.getD 0) (Al Z.jC) Z.tmps (.kM i.size n r1 r2)=some out):BP cx w0 I0 F0 O0 Hd R e ds F lp jH o a w (apply Z o.dst out):=by
 have A:=BM hs hf.wd U;have hy:=BM hs hf.wd O
 have j9:∀ (b off j:Nat) (kk:jc),a.eval x=.pointer (some ⟨b,off,none⟩)->a.eval y=.int kk (j:Int)->j < n ->
   (execOp a.eval o).run cx.P w=.ok (.value (.pointer (some ⟨b,off+j*i.size,none⟩))) w:=by
  intro b off j kk hv hk hj;have O:(0:Int)<=(j:Int)/\(j:Int) < (n:Int):=⟨by omega,by omega⟩;simp[execOp,ho,hv,hk,Instr.indexAt,asIntOf,run_underlying hu,Instr.sureAddr,O,I4 hi,JC];intro h;omega
 simp only[exec] at h;split at h
 ·rename_i j cs off hj T;rw[T] at A;obtain⟨kk,hky⟩:=Kq hy hj;obtain⟨hk,h⟩:=Bx h;cases h;simp only[dF,iK] at hk;obtain⟨b,qH,c,E',fr,hv,g1,g2,g3,g4,g5,g6⟩:=M5 A;have:=AC.ptr (w:=w) (I:=I) (lp:=lp) (L:=some L) cs (off+j*i.size) b qH c E' fr g1 g2 g3 hk.2 g5 g6;refine B8 hs hf (j9 b _ j kk hv hky hk.1) (.refl w) ?_
  rwa [gA]
 {rename_i j V off hj T;rw[T] at A;obtain⟨kk,hky⟩:=Kq hy hj;obtain⟨hk,h⟩:=Bx h;cases h;obtain⟨b,C,hL,hv⟩:=GK A;exact B8 hs hf (j9 b _ j kk hv hky (iY hk)) (.refl w) (.ref V _ b C hL)};{cases h}
theorem Jr (w:i7) (k:jc) (n y:Nat) (code:BoundsCode) (h:n<=y):(Instr.sliceBound (.int k (n:Int)) y code).run P w=.ok n w:=by have:(0:Int)<=(n:Int)/\(n:Int)<=(y:Int):=⟨by omega,by omega⟩;simp[Instr.sliceBound,asIntOf,this]
theorem Kf (hs:SR lp I L Z a.tmps.toList jH w) (hw:cx.Wd I w) (T:vQ cx.G xo=some r) {d top:Nat} (h:C9 (CH Z.tmps r) d top=some n) :
  (xo=none/\r=none/\n=d)\/(∃ x k rx',xo=some x/\r=some rx'/\a.eval x=.int k (n:Int)/\n<=top):=by
 cases xo with
 | none =>
  simp only[vQ,dL] at T;subst T;simp only[C9,CH,dL] at h;exact .inl ⟨rfl,rfl,h.symm⟩
 | some x =>
  simp only[vQ,dG] at T;obtain⟨y,hy,rfl⟩:=T;simp only[C9,CH] at h;split at h;{rename_i m hm;obtain⟨hk,h⟩:=Bx h;cases h;obtain⟨k,nk⟩:=Kq (BM hs hw hy) hm;exact .inr ⟨x,k,y,rfl,rfl,nk,iY hk⟩};{cases h}
theorem Lb (w:i7) (isS:Bool) (len cap:Nat) (ev:jb->i8) (lo hi mx:Option jb) (l h m:Nat)
  (hm:(mx=none/\m=cap)\/(∃ x k,mx=some x/\ev x=.int k (m:Int)/\m<=cap))
  (hh:(hi=none/\mx=none/\h=len)\/(∃ x k,hi=some x/\ev x=.int k (h:Int)/\h<=m))
  (hl:(lo=none/\l=0)\/(∃ x k,lo=some x/\ev x=.int k (l:Int)/\l<=h)) :
  (Instr.sliceBounds isS len cap (lo.map ev) (hi.map ev) (mx.map ev)).run P w=.ok (l,h,m) w:=by
 unfold Instr.sliceBounds;rcases hm with ⟨rfl,rfl⟩ | ⟨xm,km,rfl,hxm,hmc⟩
 ·rcases hh with ⟨rfl,_,rfl⟩ | ⟨xh,kh,rfl,hxh,hhm⟩
  {rcases hl with ⟨rfl,rfl⟩ | ⟨xl,kl,rfl,ox,hlh⟩;{simp};{simp[ox,Jr w kl l _ _ hlh]}};{rcases hl with ⟨rfl,rfl⟩ | ⟨xl,kl,rfl,ox,hlh⟩;{simp[hxh,Jr w kh h _ _ hhm]};{simp[hxh,Jr w kh h _ _ hhm,ox,Jr w kl l _ _ hlh]}}
 ·rcases hh with ⟨rfl,hn,rfl⟩ | ⟨xh,kh,rfl,hxh,hhm⟩;·cases hn
  {rcases hl with ⟨rfl,rfl⟩ | ⟨xl,kl,rfl,ox,hlh⟩;{simp[hxm,Jr w km m _ _ hmc,hxh,Jr w kh h _ _ hhm]};{simp[hxm,Jr w km m _ _ hmc,hxh,Jr w kh h _ _ hhm,ox,Jr w kl l _ _ hlh]}}
theorem N1 (hu:P.underlying t=some (.slice el)) (hi:P.info? el=some i) (w:i7) (ad:Option Addr) (len cap:Nat) (ev:jb->i8) (lo oJ mx:Option jb) (l h m:Nat)
  (hb:(Instr.sliceBounds true len cap (lo.map ev) (oJ.map ev) (mx.map ev)).run P w=.ok (l,h,m) w) :
  (Instr.sliceAt t (.slice ad len cap) (lo.map ev) (oJ.map ev) (mx.map ev)).run P w=.ok (.slice (if m=l then ad else ad.map (·.add (l*i.size))) (h - l) (m - l)) w:=by
 simp[Instr.sliceAt,Instr.slice,run_underlying hu,hb,I4 hi]
theorem wW (hs:SR lp I L Z a.tmps.toList jH w) (hf:Fr cx w0 I0 F0 O0 Hd R e ds I F L w) {lo hi mx:Option jb} (ho:o.op=.slice t x lo hi mx) {k qb:Nat} {r:RX} {rm:jB}
  (he:Hg cx.P t=some (k,qb,z)) (U:rx cx.G x=some r) (hl:vQ cx.G lo=some rl) (hh:vQ cx.G hi=some rh) (hm:vQ cx.G mx=some rm)
  (h:exec (o.dst.getD 0) (Al Z.jC) Z.tmps (.slice k r rl rh rm)=some out):BP cx w0 I0 F0 O0 Hd R e ds F lp jH o a w (apply Z o.dst out):=by
 obtain⟨el,i,zv,hu,oJ,o8,_⟩:=Mu he;have A:=BM hs hf.wd U;simp only[exec] at h;obtain⟨u,lH,rfl⟩:=dG.1 h;clear h
 have wX:∀ {len cap mA hA lA:Nat},len<=cap->C9 (CH Z.tmps rm) len len=some mA->C9 (CH Z.tmps rh) len mA=some hA->C9 (CH Z.tmps rl) 0 hA=some lA ->
   ((CH Z.tmps rm).isNone||(CH Z.tmps rh).isSome)=true ->
   ∃ m,(Instr.sliceBounds true len cap (lo.map a.eval) (hi.map a.eval) (mx.map a.eval)).run cx.P w=.ok (lA,hA,m) w/\m<=cap/\hA<=m/\lA<=hA/\hA<=len/\(rm=none->m=cap)/\(rm≠none->m=mA):=by
  intro len cap mA hA lA oP b1 b2 b3 b4;rcases Kf hs hf.wd hm b1 with ⟨e1,e2,e3⟩ | ⟨xm,km,rm',e1,e2,e3,e4⟩
  ·subst e1;subst e2;subst e3;rcases Kf hs hf.wd hh b2 with ⟨f1,f2,f3⟩ | ⟨xh,kh,rh',f1,f2,f3,f4⟩
   ·subst f1;subst f3;rcases Kf hs hf.wd hl b3 with ⟨g1,g2,g3⟩ | ⟨xl,kl,rl',g1,g2,g3,g4⟩
    {subst g1;subst g3;exact⟨cap,Lb w true hA cap a.eval none none none 0 hA cap (.inl ⟨rfl,rfl⟩) (.inl ⟨rfl,rfl,rfl⟩) (.inl ⟨rfl,rfl⟩),dH _,oP,by omega,dH _,fun _=>rfl,fun h=>iW rfl h⟩};{subst g1;exact⟨cap,Lb w true hA cap a.eval (some xl) none none lA hA cap (.inl ⟨rfl,rfl⟩) (.inl ⟨rfl,rfl,rfl⟩) (.inr ⟨xl,kl,rfl,g3,g4⟩),dH _,oP,g4,dH _,fun _=>rfl,fun h=>iW rfl h⟩}
   ·subst f1;rcases Kf hs hf.wd hl b3 with ⟨g1,g2,g3⟩ | ⟨xl,kl,rl',g1,g2,g3,g4⟩
    {subst g1;subst g3;exact⟨cap,Lb w true mA cap a.eval none (some xh) none 0 hA cap (.inl ⟨rfl,rfl⟩) (.inr ⟨xh,kh,rfl,f3,by omega⟩) (.inl ⟨rfl,rfl⟩),dH _,by omega,by omega,f4,fun _=>rfl,fun h=>iW rfl h⟩};{subst g1;exact⟨cap,Lb w true mA cap a.eval (some xl) (some xh) none lA hA cap (.inl ⟨rfl,rfl⟩) (.inr ⟨xh,kh,rfl,f3,by omega⟩) (.inr ⟨xl,kl,rfl,g3,g4⟩),dH _,by omega,g4,f4,fun _=>rfl,fun h=>iW rfl h⟩}
  ·subst e1;subst e2;rcases Kf hs hf.wd hh b2 with ⟨f1,f2,f3⟩ | ⟨xh,kh,rh',f1,f2,f3,f4⟩;{subst f2;simp[CH] at b4}
   ·subst f1;rcases Kf hs hf.wd hl b3 with ⟨g1,g2,g3⟩ | ⟨xl,kl,rl',g1,g2,g3,g4⟩
    {subst g1;subst g3;exact⟨mA,Lb w true len cap a.eval none (some xh) (some xm) 0 hA mA (.inr ⟨xm,km,rfl,e3,by omega⟩) (.inr ⟨xh,kh,rfl,f3,f4⟩) (.inl ⟨rfl,rfl⟩),by omega,f4,by omega,by omega,fun h=>(by cases h),fun _=>rfl⟩};{subst g1;exact⟨mA,Lb w true len cap a.eval (some xl) (some xh) (some xm) lA hA mA (.inr ⟨xm,km,rfl,e3,by omega⟩) (.inr ⟨xh,kh,rfl,f3,f4⟩) (.inr ⟨xl,kl,rfl,g3,g4⟩),by omega,f4,g4,by omega,fun h=>(by cases h),fun _=>rfl⟩}
 have isn:(CH Z.tmps rm).isNone=rm.isNone:=by cases rm<;>rfl
 have iss:(CH Z.tmps rm).isSome=rm.isSome:=by cases rm<;>rfl
 unfold FV at lH;split at lH
 ·rename_i k' H full T;rw[T] at A;split at lH;·cases lH
  rename_i mA b1;split at lH;·cases lH
  rename_i hA b2;split at lH;·cases lH
  rename_i lA b3;obtain⟨hk,l9⟩:=Bx lH;clear lH;simp only[dF,iL] at hk;obtain⟨rfl,b4⟩:=hk;cases l9;rcases KG A with ⟨b,off,cap,c,E',fr,hv,g1,g2,g3,g4,g5,g6,g7,g8⟩ | ⟨rfl,ad,cap,hv,g6⟩
  ·obtain⟨m,j9,m1,m2,m3,m4,m5,m6⟩:=wX g5 b1 b2 b3 b4;have mU:=N1 (P:=cx.P) hu oJ w (some ⟨b,off,none⟩) H.length cap a.eval lo hi mx lA hA m j9;rw[o8] at mU
   have hfull:(if (CH Z.tmps rm).isSome=true then mA==hA else full&&hA==H.length)=true->m=hA:=by
    intro hq;rw[iss] at hq;cases hrm:rm with
    | none =>
     rw[hrm] at hq;simp only[ic,dE,iG,dF,iL] at hq;have:=m5 hrm;have:=g6 hq.1;omega
    | some y =>
     rw[hrm] at hq;simp only[Option.isSome_some,iH,iL] at hq;have:=m6 (by rw[hrm];simp);omega
   by_cases hlh:hA=lA
   ·have oQ:(H.take hA).drop lA=[]:=by rw[hlh];exact eP (by simp;omega)
    refine B8 hs hf (v':=.slice (if m=lA then some ⟨b,off,none⟩ else (some (⟨b,off,none⟩:Addr)).map (·.add (lA*k))) (hA - lA) (m - lA)) (by simp[execOp,ho,hv,mU]) (.refl w) ?_;rw[oQ,show hA - lA=0 from by omega];exact .po k _ _ _ fun hq=>by have:=hfull hq;omega
   ·have rH:¬ m=lA:=by omega
    refine B8 hs hf (v':=.slice (some ⟨b,off+lA*k,none⟩) (hA - lA) (m - lA)) (by simp[execOp,ho,hv,mU,rH,JC]) (.refl w) ?_;have hlen:((H.take hA).drop lA).length=hA - lA:=by simp;omega
    have hmul:hA*k<=H.length*k:=eT _ m4;have wL:hA*k=lA*k+(hA - lA)*k:=by rw[<-eg];congr 1;omega
    have k9:∀ y∈(H.take hA).drop lA,y.cells.length=k:=fun y hy=>g4 y (eE (e8 hy));have e1:((((c.toList.drop off).take (H.length*k)).take (hA*k)).drop (lA*k))=(c.toList.drop (off+lA*k)).take ((hA - lA)*k):=by rw[eU,eG hmul,fD,fY,show hA*k - lA*k=(hA - lA)*k from by omega]
    have:=AC.sl (w:=w) (I:=I) (lp:=lp) (L:=some L) k ((H.take hA).drop lA) (if (CH Z.tmps rm).isSome=true then mA==hA else full&&hA==H.length) b (off+lA*k) (m - lA) c E' fr g1 g2
     (by rw[hlen];omega) k9 (by rw[hlen];omega) (fun hq=>by rw[hlen];have:=hfull hq;omega) (by rw[hlen,<-e1];exact (g7.mS _).ng _)
     (by rw[hlen,<-e1,Mw (fun y hy=>g4 y (eE hy)),Ka g4];exact (g8.take _).drop _)
    rwa [hlen] at this
  ·obtain⟨m,j9,m1,m2,m3,m4,m5,m6⟩:=wX (len:=0) (cap:=cap) (by omega) b1 b2 b3 b4;have mU:=N1 (P:=cx.P) hu oJ w ad 0 cap a.eval lo hi mx lA hA m j9;have hA0:hA=0:=by simpa using m4
   have pr:lA=0:=by omega
   refine B8 hs hf (v':=.slice (if m=lA then ad else ad.map (·.add (lA*i.size))) (hA - lA) (m - lA)) (by simp[execOp,ho,hv,mU]) (.refl w) ?_;subst hA0;subst pr;have oQ:((([]:jh).take 0).drop 0)=[]:=rfl;rw[oQ];refine .po k _ _ _ fun hq=>?_;rw[iss] at hq;cases hrm:rm with
   | none =>
    rw[hrm] at hq;simp only[ic,dE,iG,dF] at hq;have:=m5 hrm;have:=g6 hq.1;omega
   | some y =>
    rw[hrm] at hq;simp only[Option.isSome_some,iH,iL] at hq;have:=m6 (by rw[hrm];simp);omega
 ·rename_i V k' off n T;rw[T] at A;split at lH;·cases lH
  rename_i mA b1;split at lH;·cases lH
  rename_i hA b2;split at lH;·cases lH
  rename_i lA b3;obtain⟨hk,l9⟩:=Bx lH;clear lH;simp only[dF,iL] at hk;obtain⟨rfl,b4⟩:=hk;cases l9;rcases Ks A with ⟨b,C,cap,hL,hv,hC,hn⟩ | ⟨hL,hv,rfl,rfl⟩
  ·obtain⟨m,j9,m1,m2,m3,m4,m5,m6⟩:=wX hn b1 b2 b3 b4;have mU:=N1 (P:=cx.P) hu oJ w (some ⟨b,off*k,none⟩) n cap a.eval lo hi mx lA hA m j9;rw[o8] at mU;refine B8 hs hf (v':=.slice (if m=lA then some ⟨b,off*k,none⟩ else (some (⟨b,off*k,none⟩:Addr)).map (·.add (lA*k))) (hA - lA) (m - lA)) (by simp[execOp,ho,hv,mU]) (.refl w) ?_;split;{rename_i hz;rw[show hA - lA=0 from by omega];exact .po k false _ _ (by simp)}
   ·rename_i hz;have hCm:(off+lA+(m - lA))*k<=C:=fj (eT _ (by omega)) hC;have key:=AC.arr (w:=w) (I:=I) (lp:=lp) V k (off+lA) (hA - lA) (m - lA) b C hL hCm (by omega);by_cases rH:m=lA
    ·have pr:lA=0:=by omega
     subst pr;simpa[rH] using key
    {simpa[rH,JC,eg] using key}
  ·obtain⟨m,j9,m1,m2,m3,m4,m5,m6⟩:=wX (len:=0) (cap:=0) (by omega) b1 b2 b3 b4;have mU:=N1 (P:=cx.P) hu oJ w none 0 0 a.eval lo hi mx lA hA m j9;have hA0:hA=0:=by omega
   have pr:lA=0:=by omega
   have hm0:m=0:=by omega
   subst hA0;subst pr;subst hm0;refine B8 hs hf (v':=.slice none 0 0) (by simp[execOp,ho,hv,mU]) (.refl w) ?_;simpa using AC.l6 V k hL
 ·rename_i T;rw[T] at A;split at lH;·cases lH
  rename_i mA b1;split at lH;·cases lH
  rename_i hA b2;split at lH;·cases lH
  rename_i lA b3;obtain⟨b4,lH⟩:=Bx lH;cases lH;obtain⟨m,j9,m1,m2,m3,m4,m5,m6⟩:=wX (len:=0) (cap:=0) (by omega) b1 b2 b3 b4;have mU:=N1 (P:=cx.P) hu oJ w none 0 0 a.eval lo hi mx lA hA m j9;have hA0:hA=0:=by omega
  have pr:lA=0:=by omega
  have hm0:m=0:=by omega
  subst hA0;subst pr;subst hm0;exact B8 hs hf (v':=.slice none 0 0) (by simp[execOp,ho,G9 A,mU]) (.refl w) .jD
 {cases lH}
theorem az (hs:SR lp I L Z a.tmps.toList jH w) (hf:Fr cx w0 I0 F0 O0 Hd R e ds I F L w) {lo hi:Option jb} (ho:o.op=.slice t x lo hi none) {r:RX} 
  (hu:cx.P.underlying t=some .string) (U:rx cx.G x=some r) (hl:vQ cx.G lo=some rl) (hh:vQ cx.G hi=some rh)
  (h:exec (o.dst.getD 0) (Al Z.jC) Z.tmps (.kq r rl rh)=some out):BP cx w0 I0 F0 O0 Hd R e ds F lp jH o a w (apply Z o.dst out):=by
 have A:=BM hs hf.wd U;simp only[exec] at h;split at h
 case h_2=>cases h
 rename_i s T;rw[T] at A;split at h;·cases h
 rename_i hA b2;split at h;·cases h
 rename_i lA b3;cases h;have hb:(Instr.sliceBounds false s.length s.length (lo.map a.eval) (hi.map a.eval) none).run cx.P w=.ok (lA,hA,s.length) w:=by refine Lb w false s.length s.length a.eval lo hi none lA hA s.length (.inl ⟨rfl,rfl⟩) ?_ ?_;{rcases Kf hs hf.wd hh b2 with ⟨f1,f2,f3⟩ | ⟨xh,kh,rh',f1,f2,f3,f4⟩;{exact .inl ⟨f1,rfl,f3⟩};{exact .inr ⟨xh,kh,f1,f3,f4⟩}};{rcases Kf hs hf.wd hl b3 with ⟨f1,f2,f3⟩ | ⟨xh,kh,rh',f1,f2,f3,f4⟩;{exact .inl ⟨f1,f3⟩};{exact .inr ⟨xh,kh,f1,f3,f4⟩}}
 have kS:(⟨s.toArray⟩:ByteArray).size=s.length:=by simp[ByteArray.size]
 refine B8 hs hf (v':=.string ⟨((s.take hA).drop lA).toArray⟩) ?_ (.refl w) (.str _);simp[execOp,ho,FW A,Instr.sliceAt,Instr.slice,run_underlying hu,kS,hb,ByteArray.extract_mk,fD]
end ops
end Go.Ab


namespace Go.Ab
variable{P:jd} {ats:Array je} {base:Option Addr} {c:Array i8} {cap k kt m sCap sLen size:Nat} {d du:jg} {el ty u:je} {fr:Nat×Nat} {i:TypeInfo} {olds:List i8} {v zv:i8} {w':i7} {x z:W} {ys:jh}
structure Src (P:jd) (w:i7) (I:Nat->Prop) (lp:Nat->jj) (size:Nat) (x:i8) (ys:jh) (news:List i8):Prop where
 len:Builtin.lenOf x=pure ys.length
 first:∀ n,n<=ys.length->∀ w':i7,w'.heap=w.heap->(Builtin.firstCells size n x).run P w'=.ok (news.take (n*size)).toArray w'
 pA:news.length=ys.length*size
 one:By news
 rep:Av w I lp none (jM ys) news
 each:∀ y∈ys,y.cells.length=size
theorem Qs {w:i7} {b off N:Nat} {E:je} (hb:w.heap[b]?=some (.cells c E fr)) (hle:off+N<=c.size) {n len:Nat} (hn:n*size<=N) (hw:w'.heap=w.heap) :
  (Builtin.firstCells size n (.slice (some ⟨b,off,none⟩) len cap)).run P w'=.ok (((c.toList.drop off).take N).take (n*size)).toArray w':=by
 have hl:(((c.toList.drop off).take N).take (n*size)).length=n*size:=by simp;omega
 refine run_firstCells_some w' size n ⟨b,off,none⟩ len cap _ hl ?_;intro j v hj;have hjn:j < n*size:=by have:=(dU.1 hj).1;omega
 rw[JC,OI (by rw[hw];exact hb)];rw[eU,gj (by omega),gx] at hj;simpa using hj
theorem Te {len:Nat}:(Builtin.firstCells size 0 (.slice none len cap)).run P w'=.ok #[] w':=by simp[Builtin.firstCells]
theorem Qa {a:Option Addr} {len:Nat}:(Builtin.firstCells size 0 (.slice a len cap)).run P w'=.ok #[] w':=by
 cases a with
 | none=>exact Te
 | some a =>
  have:=run_firstCells_some (P:=P) w' size 0 a len cap [] (by simp) (by simp);simpa using this
theorem VD {w:i7} {I:Nat->Prop} {lp:Nat->jj} (s:ji):Av w I lp none (jM (Ei s)) (s.map fun b=>Value.int .u8 (b.toNat:Int)):=by
 induction s with
 | nil=>exact .nil
 | cons b s ih=>exact .cons _ _ _ _ (.int .u8 _) ih
theorem kt_old {E:Nat} (h:kt=0\/E=kt) (el:Nat):(if kt=el then el else 0)=0\/E=(if kt=el then el else 0):=by by_cases O:kt=el;{rw[iJ O,<-O];exact h};{rw[iI O];exact .inl rfl}
theorem wY (kt el:Nat):(if kt=el then el else 0)=0\/el=(if kt=el then el else 0):=by by_cases O:kt=el;{rw[iJ O];exact .inr rfl};{rw[iI O];exact .inl rfl}
section ops
variable {E:Type} {cx:Cx} {w0:i7} {I0 F0:Nat->Prop} {O0:Cw} {Hd:Nat->Option Obj} {R:Ch E} {e:E} {ds:List jf} {F:Nat->Prop} {lp:Nat->jj} {jH:List i8}
variable {I:Nat->Prop} {L:AK} {Z:St} {a:Act} {w:i7} {o:Oper} {out:AQ} {pq:AG}
theorem XB (P:jd) (hs:SR lp I L Z a.tmps.toList jH w) (A:AC w I lp (some L) x v) (h:elems (Al Z.jC) k x=some ys) :
  ∃ news,Src P w I lp k v ys news:=by
 unfold elems at h;split at h
 ·obtain⟨hk,O⟩:=Bx h;cases O;have hk:=beq_iff_eq.1 hk;subst hk;rcases KG A with ⟨b,off,cap,c,E',fr,rfl,g1,g2,g3,g4,g5,g6,g7,g8⟩ | ⟨rfl,ad,cap,rfl,_⟩;{exact⟨_,rfl,fun n hn w' hw=>Qs g2 g3 (eT _ hn) hw,by simp;omega,g7,g8,g4⟩}
  ·refine⟨[],rfl,fun n hn w' _=>?_,by simp,by simp[By],.nil,by simp⟩;have:n=0:=by simpa using hn
   subst this;simpa using Qa (P:=P) (w':=w')
 ·rename_i V k' off n;split at h
  case h_2=>cases h
  rename_i nx kt H kD;obtain⟨hk,O⟩:=Bx h;cases O;simp only[dF,iL,iK] at hk;obtain⟨⟨rfl,rfl⟩,hle⟩:=hk;obtain⟨p,hp,ha⟩:=hs.ob V _ kD;rcases Ks A with ⟨b,C,cap,hL,rfl,hC,hn⟩ | ⟨hL,rfl,rfl,rfl⟩
  ·rw[hL] at hp;cases hp;obtain⟨c,E',hb,hC',lM,nJ,kn,jS⟩:=ha;have hlen:((H.drop off).take n).length=n:=by simp;omega
   have hmul:(off+n)*k<=H.length*k:=eT _ hle;rw[eg] at hmul;have e1:((c.toList.take (H.length*k)).drop (off*k)).take (n*k)=(c.toList.drop (off*k)).take (n*k):=by rw[fD,eU,eG (by omega)]
   refine⟨(c.toList.drop (off*k)).take (n*k),by rw[hlen];rfl,fun m hm w' hw=>?_,by rw[hlen];simp;omega,?_,?_,?_⟩;{rw[hlen] at hm;exact Qs hb (by omega) (eT _ hm) hw};{rw[<-e1];exact (kn.ng _).mS _}
   ·have:=(jS.drop (off*k)).take (n*k)
    rwa [<-Mw nJ,<-Ka (fun x A=>nJ x (e8 A)),e1] at this
   {exact fun y hy=>nJ y (e8 (eE hy))}
  ·refine⟨[],rfl,fun n hn w' _=>?_,by simp,by simp[By],by rw[gS];exact .nil,by simp⟩;have:n=0:=by simpa using hn
   subst this;simpa using Qa (P:=P) (w':=w')
 ·cases h;rw[G9 A];refine⟨[],rfl,fun n hn w' _=>?_,by simp,by simp[By],.nil,by simp⟩;have:n=0:=by simpa using hn
  subst this;simpa using Qa (P:=P) (w':=w')
 {rename_i s;obtain⟨hk,O⟩:=Bx h;cases O;have hk:=beq_iff_eq.1 hk;subst hk;rw[FW A];refine⟨s.map fun b=>Value.int .u8 (b.toNat:Int),by simp[Builtin.lenOf,Ei,ByteArray.size],fun n hn w' _=>?_,by simp[Ei],?_,VD s,?_⟩;{simp[Builtin.firstCells,ByteArray.extract_mk]};{intro v hv;obtain⟨b,_,rfl⟩:=dJ.1 hv;rfl};{intro y hy;obtain⟨b,_,rfl⟩:=dJ.1 hy;rfl}};{cases h}
theorem PQ {w:i7} {t:je} (a0:ats[0]?=some t) (a1:ats[1]?=some u) (hu:P.underlying t=some (.slice el)) (hi:P.info? el=some i) (hz:i.zero=some zv)
  (l9:P.underlying u=some d) (hd:d=.string\/∃ e',d=.slice e') (hold:∀ w':i7,w'.heap=w.heap->(Builtin.firstCells i.size sLen (.slice base sLen sCap)).run P w'=.ok olds.toArray w')
  {x:i8} {news:List i8} (hl:Builtin.lenOf x=pure m) (lh:∀ w':i7,w'.heap=w.heap->(Builtin.firstCells i.size m x).run P w'=.ok news.toArray w')
  (hg:sCap < sLen+m) (hle:sLen+m<=Gl) (hb:i.bytes<=65536) :
  (Builtin.append_ ats ty #[.slice base sLen sCap,x]).run P w=.ok (.slice (some ⟨w.heap.size,0,none⟩) (sLen+m) (grownCap w (sLen+m) sCap el))
   (w.drew.alloc (.cells (olds.toArray++news.toArray++Builtin.zeroCells zv.cells (grownCap w (sLen+m) sCap el - (sLen+m))) el)):=by
 have hn:¬ (sLen+m<=sCap):=by omega
 unfold Gl at hle;have h63':¬ (9223372036854775807 < ((sLen:Int)+(m:Int))):=by omega
 have hmul:(sLen+m)*i.bytes<=140737488355328:=calc (sLen+m)*i.bytes<=2147483648*65536:=Nat.mul_le_mul hle hb
  _=140737488355328:=by decide
 have od:=growslice_fits hg hmul;have h48':¬ (281474976710656 < Builtin.nextslicecap (sLen+m) sCap*i.bytes):=by omega
 have hf:=lh w.drew rfl;have sg:=hold w.drew rfl;rcases hd with rfl | ⟨e',rfl⟩
 {simp[Builtin.append_,a0,a1,run_underlying hu,run_underlying l9,sizeOf,typeInfo,zeroValue,hi,hz,hl,hn,h63',h48',Question.forced,hf,sg,newRow,grownCap];congr 2;exact Array.ext' (by simp[eL])};{simp[Builtin.append_,a0,a1,run_underlying hu,run_underlying l9,sizeOf,typeInfo,zeroValue,hi,hz,hl,hn,h63',h48',Question.forced,hf,sg,newRow,grownCap];congr 2;exact Array.ext' (by simp[eL])}
theorem SA {w:i7} {t:je} (a0:ats[0]?=some t) (a1:ats[1]?=some u) (hu:P.underlying t=some (.slice el)) (hi:P.info? el=some i)
  (l9:P.underlying u=some d) (hd:d=.string\/∃ e',d=.slice e') 
  {x:i8} {news:List i8} (hl:Builtin.lenOf x=pure m) (lh:(Builtin.firstCells i.size m x).run P w=.ok news.toArray w)
  (hn:sLen+m<=sCap) (lr:(match base with | some a=>storeCells (a.add (sLen*i.size)) news | none=>pure ()).run P w=.ok () w') :
  (Builtin.append_ ats ty #[.slice base sLen sCap,x]).run P w=.ok (.slice base (sLen+m) sCap) w':=by
 cases base with
 | none =>
  have lr:w=w':=by simpa using lr
  subst lr;rcases hd with rfl | ⟨e',rfl⟩<;>simp[Builtin.append_,a0,a1,run_underlying hu,run_underlying l9,sizeOf,typeInfo,hi,hl,hn,lh]
 | some a =>
  simp only at lr;rcases hd with rfl | ⟨e',rfl⟩<;>simp[Builtin.append_,a0,a1,run_underlying hu,run_underlying l9,sizeOf,typeInfo,hi,hl,hn,lh,lr]
theorem dl (hs:SR lp I L Z a.tmps.toList jH w) (hf:Fr cx w0 I0 F0 O0 Hd R e ds I F L w) {d:Nat} (hd:o.dst=some d) (hc:Z.jC[d]?=some []) 
  (T:(execOp a.eval o).run cx.P w=.ok (.value (.slice none 0 0)) w) :
  BP cx w0 I0 F0 O0 Hd R e ds F lp jH o a w (apply Z o.dst {v:=.arr (d,0) k 0 0,new:=[.arr k kt []]}):=by
 have hn:=hs.news hc [.arr k kt []] [none] rfl (by
  intro j ob p U O;cases j with
  | zero=>simp at U O;subst U;subst O;exact⟨k,_,rfl⟩
  | succ j=>simp at U)
 refine⟨.slice none 0 0,w,I,CZ L d [none],.inl T,?_,?_⟩;{rw[I6,hd];exact hn.put d (.l6 _ k (by simp[CZ]))}
 ·refine Fr.news hf hc rfl rfl rfl (dH _) (fun _ _=>rfl) ?_ ?_
  ·intro j b C hj;cases j with
   | zero=>simp at hj
   | succ j=>simp at hj
  ·intro j j' b C C' U _;cases j with
   | zero=>simp at U
   | succ j=>simp at U
theorem Qq {w:i7} {I:Nat->Prop} {lp:Nat->jj} {H:jh} {news:List i8} {zs:Array i8} (U:Av w I lp none (jM H) olds) (O:Av w I lp none (jM ys) news)
  (o1:By olds) (o2:By news) (k1:∀ x∈H,x.cells.length=k) (k2:∀ x∈ys,x.cells.length=k) :
  (∀ x∈H++ys,x.cells.length=k)/\By (((olds.toArray++news.toArray++zs).toList).take ((H++ys).length*k))/\Av w I lp none (jM (H++ys)) (((olds.toArray++news.toArray++zs).toList).take ((H++ys).length*k)):=by
 have l1:=U.length;have l2:=O.length;rw[Le k1] at l1;rw[Le k2] at l2;have e:((olds.toArray++news.toArray++zs).toList).take ((H++ys).length*k)=olds++news:=by simp only[Array.toList_append];rw[gk (by simp[eg];omega),dV (by simp[eg];omega)]
 rw[e,Lf];refine⟨fun x A=>(dX.1 A).elim (k1 x) (k2 x),o1.mH o2,U.append O⟩
theorem W6 (hs:SR lp I L Z a.tmps.toList jH w) (hf:Fr cx w0 I0 F0 O0 Hd R e ds I F L w) {c:Call} (ho:o.op=.call c) {x y:jb} (ko:c.callee=.builtin .append) (a0:c.argTypes[0]?=some ty) (a1:c.argTypes[1]?=some u) (oe:c.args=#[x,y])
  {qb:Nat} {r1 r2:RX} (he:Hg cx.P ty=some (k,qb,z)) (ou:cx.P.underlying ty=some (.slice el)) (l9:cx.P.underlying u=some du) (hdu:du=.string\/∃ e',du=.slice e')
  (U:rx cx.G x=some r1) (O:rx cx.G y=some r2) {d:Nat} (hd:o.dst=some d) (k8:Z.jC[d]?=some [])
  (h:exec (o.dst.getD 0) (Al Z.jC) Z.tmps (.append k el r1 r2)=some out):BP cx w0 I0 F0 O0 Hd R e ds F lp jH o a w (apply Z o.dst out):=by
 obtain⟨el',i,zv,hu,hi,o8,hby,hb6,hz,hzk,hzv,hzn,sM⟩:=Mu he;rw[hu] at ou;cases ou;have A:=BM hs hf.wd U;have hy:=BM hs hf.wd O;have j9:∀ {v' w'},(Builtin.append_ c.argTypes o.type #[a.eval x,a.eval y]).run cx.P w=.ok v' w'->(execOp a.eval o).run cx.P w=.ok (.value v') w':=by intro v' w' T;simp[execOp,ho,resolve,ko,oe,invoke,builtin,T]
 simp only[exec,hd,eN] at h;split at h;·cases h
 rename_i ys nZ;obtain⟨news,kz⟩:=XB cx.P hs hy nZ;have lh:∀ w':i7,w'.heap=w.heap->(Builtin.firstCells i.size ys.length (a.eval y)).run cx.P w'=.ok news.toArray w':=fun w' hw=>by have:=kz.first ys.length (dH _) w' hw;rw[dV (by rw[kz.pA];exact dH _)] at this;rw[o8];exact this
 have hkm:∀ w':i7,(∀ b,I b->w'.heap[b]?=w.heap[b]?)->Av w' I lp none (jM ys) news:=fun w' hw=>Av.mono (fun _ h=>h) hw (fun _ _ h=>h) kz.rep;split at h
 ·rename_i T;rw[T] at A;have oR:=G9 A;obtain⟨hk,h⟩:=Bx h;cases h;have hk:=iY hk;by_cases hy0:ys=[]
  ·subst hy0;have hn0:news=[]:=by have:=kz.pA;simpa using this
   have oK:=SA (P:=cx.P) (w:=w) (ty:=o.type) a0 a1 hu hi l9 hdu (base:=none) (sLen:=0) (sCap:=0) kz.len (lh w rfl) (by simp) (w':=w) rfl;have:=dl hs hf hd k8 (k:=k) (kt:=el) (j9 (by rw[oR];exact oK));simpa[hd] using this
  ·have sP:0 < ys.length:=List.length_pos_iff.2 hy0;have oK:=PQ (P:=cx.P) (w:=w) (ty:=o.type) a0 a1 hu hi hz l9 hdu (base:=none) (sLen:=0) (sCap:=0) (olds:=[]) (fun w' _=>Te) kz.len lh (by omega) (by omega) (by omega);simp only[eu] at oK;have oS:=grownCap_ge w ys.length 0 el;obtain⟨k3,o3,r3⟩:=Qq (w:=w) (I:=I) (lp:=lp) (H:=[]) (olds:=[]) (zs:=Builtin.zeroCells zv.cells (grownCap w ys.length 0 el - ys.length)) .nil kz.rep (by simp[By]) kz.one (by simp) kz.each;simp only[eM] at k3 o3 r3
   have:=Ot hs hf hd k8 (k:=k) (kt:=el) (H:=ys) (t:=el) (.inr rfl) (cap:=grownCap w ys.length 0 el) (w1:=w.drew) ⟨rfl,rfl,rfl,rfl⟩ oS (by
     simp only[gH,ie,size_zeroCells,kz.pA,fF]
     have hzs:zv.cells.size=k:=by have:=((sM w I lp none).cells hzv).2.length;simp at this;omega
     rw[hzs,eu,<-eg,ig oS];exact dH _) k3 o3 r3 (j9 (by rw[oR];exact oK))
   simpa[hd] using this
 ·rename_i V k' off n T;rw[T] at A;split at h
  case h_2=>cases h
  rename_i nx kt H kD;obtain⟨hk,h⟩:=Bx h;cases h;simp only[dF,iL,iK] at hk;obtain⟨⟨⟨⟨rfl,rfl⟩,rfl⟩,hnx⟩,wZ⟩:=hk;obtain⟨p,hp,ha⟩:=hs.ob V _ kD;have hzs:zv.cells.size=k:=by have:=((sM w I lp none).cells hzv).2.length;simp at this;omega
  have hold:∀ (b C cap:Nat),L V=some (some (b,C))->(0+cap)*k<=C->n<=cap->∃ c E',w.heap[b]?=some (.cells c E' (0,0))/\c.size=C/\(n*k<=c.size/\(kt=0\/E'=kt))/\By (c.toList.take (n*k))/\Av w I lp none (jM (H.take n)) (c.toList.take (n*k))/\(∀ x∈H.take n,x.cells.length=k):=by
   intro b C cap hL hC hn;rw[hL] at hp;cases hp;obtain⟨c,E',hb,hC',lM,nJ,kn,jS⟩:=ha;have hmul:n*k<=H.length*k:=eT _ hnx;have e1:(c.toList.take (H.length*k)).take (n*k)=c.toList.take (n*k):=by rw[eU,eG hmul]
   refine⟨c,E',hb,hC',⟨by omega,lM.2⟩,?_,?_,fun x A=>nJ x (eE A)⟩;{rw[<-e1];exact kn.mS _};{rw[Ka nJ,<-e1];exact jS.take _}
  have htl:(H.take n).length=n:=by simp;omega
  rcases Ks A with ⟨b,C,cap,hL,hv,hC,hn⟩ | ⟨hL,hv,_,rfl⟩
  ·obtain⟨c,E',hb,hcC,⟨hnk,hkt⟩,kn,jS,si⟩:=hold b C cap hL hC hn;rw[Nat.zero_mul] at hv;by_cases od:n+ys.length<=cap
   ·
    have hfk:(n+ys.length)*k<=cap*k:=eT _ od;rw[eg] at hfk;rw[eu] at hC;have lr:=run_storeCells_at cx.P b (n*k) E' news 0 c w hb (by rw[kz.pA];omega) kz.one;simp only[Nat.add_zero] at lr
    have oK:=SA (P:=cx.P) (w:=w) (ty:=o.type) a0 a1 hu hi l9 hdu (base:=some ⟨b,0,none⟩) (sLen:=n) (sCap:=cap) kz.len (lh w rfl) od
     (w':=w.setRow b (c.toList.take (n*k)++news++c.toList.drop (n*k+news.length)).toArray) (by simp only[JC,o8,eu];exact lr)
    have hkI:∀ b',I b'->(w.setRow b (c.toList.take (n*k)++news++c.toList.drop (n*k+news.length)).toArray).heap[b']?=w.heap[b']?:=fun b' lX=>J5 w b _ fun e=>(hf.lB V b C hL).2.2.1 (e ▸ lX);have w7:=kz.pA
    have e2:(c.toList.take (n*k)++news++c.toList.drop (n*k+news.length)).take ((H.take n++ys).length*k)=c.toList.take (n*k)++news:=by
     have jP:(c.toList.take (n*k)++news).length=(H.take n++ys).length*k:=by rw[eA,eA,htl,eg,eV,fL];omega
     rw[gk (by rw[jP];exact dH _),dV (by rw[jP];exact dH _)]
    refine Qu hs hf hL (w':=w.setRow b (c.toList.take (n*k)++news++c.toList.drop (n*k+news.length)).toArray) (p':=some (b,C)) (v':=.slice (some ⟨b,0,none⟩) (n+ys.length) cap) (k:=k) (kt:=if kt=el then el else 0) (H:=H.take n++ys) (j9 (by rw[hv];exact oK)) rfl rfl rfl (by simp) (fun b' _ jW=>J5 w b _ fun e=>jW C (by rw[e]))
     (fun b' C' e=>by cases e;exact⟨by simpa using (hf.lB V b C hL).2.1,.inr ⟨C,rfl⟩⟩) (fun L'=>?_) (fun L' qK=>?_)
    {refine⟨_,E',setRow_heap w b c _ E' _ hb,by simp;omega,⟨by simp[htl,eg];omega,kt_old hkt el⟩,fun x A=>(dX.1 A).elim (si x) (kz.each x),?_,?_⟩;{simp only[e2];exact kn.mH kz.one};{simp only[e2,Lf];exact (Av.mono (fun _ h=>h) hkI (fun _ _ h=>h) jS).append (hkm _ hkI)}};{have:=AC.arr (w:=w.setRow b (c.toList.take (n*k)++news++c.toList.drop (n*k+news.length)).toArray) (I:=I) (lp:=lp) V k 0 (n+ys.length) cap b C qK (by rw[eu];exact hC) od;simpa using this}
   ·
    have oK:=PQ (P:=cx.P) (w:=w) (ty:=o.type) a0 a1 hu hi hz l9 hdu (base:=some ⟨b,0,none⟩) (sLen:=n) (sCap:=cap) (olds:=c.toList.take (n*k)) (fun w' hw=>by have:=Qs (P:=cx.P) (size:=i.size) (n:=n) (len:=n) (cap:=cap) (off:=0) (N:=n*k) hb (by omega) (by rw[o8];exact dH _) hw;simpa[o8,eU] using this) kz.len lh (by omega) wZ (by omega);have oS:=grownCap_ge w (n+ys.length) cap el;obtain⟨k3,o3,r3⟩:=Qq (w:=w) (I:=I) (lp:=lp) (zs:=Builtin.zeroCells zv.cells (grownCap w (n+ys.length) cap el - (n+ys.length))) jS kz.rep kn kz.one si kz.each;have hnk':(c.toList.take (n*k)).length=n*k:=by simp;omega
    have pb:((c.toList.take (n*k)).toArray++news.toArray++Builtin.zeroCells zv.cells (grownCap w (n+ys.length) cap el - (n+ys.length))).size=grownCap w (n+ys.length) cap el*k:=by simp only[gH,ie,size_zeroCells,kz.pA,hnk',hzs];rw[<-eg,<-eg,ig oS]
    generalize ((c.toList.take (n*k)).toArray++news.toArray++Builtin.zeroCells zv.cells (grownCap w (n+ys.length) cap el - (n+ys.length)))=row at *;have w8:∀ b',b' < w.heap.size->(w.drew.alloc (.cells row el)).heap[b']?=w.heap[b']?:=fun b' lX=>by rw[Fq w.drew _ lX];rfl
    refine Qu hs hf hL (w':=w.drew.alloc (.cells row el)) (p':=some (w.heap.size,row.size)) (v':=.slice (some ⟨w.heap.size,0,none⟩) (n+ys.length) (grownCap w (n+ys.length) cap el)) (k:=k) (kt:=if kt=el then el else 0) (H:=H.take n++ys) (j9 (by rw[hv];exact oK))
     rfl rfl rfl (by simp) (fun b' lX _=>w8 b' lX) (fun b' C' e=>by cases e;exact⟨by simp,.inl (dH _)⟩) (fun L'=>?_) (fun L' qK=>?_)
    {refine⟨row,el,J4 w.drew _,rfl,⟨?_,wY kt el⟩,k3,o3,Av.mono (fun _ h=>h) (fun b' lX=>w8 b' (hf.sep.iB b' lX)) (fun _ _ h=>h) r3⟩;rw[pb,eA,htl];exact eT _ oS};{have:=AC.arr (w:=w.drew.alloc (.cells row el)) (I:=I) (lp:=lp) V k 0 (n+ys.length) (grownCap w (n+ys.length) cap el) w.heap.size row.size qK (by rw[pb];simp) oS;simpa using this}
  ·
   by_cases hy0:ys=[]
   ·subst hy0;have hn0:news=[]:=by have:=kz.pA;simpa using this
    have oK:=SA (P:=cx.P) (w:=w) (ty:=o.type) a0 a1 hu hi l9 hdu (base:=none) (sLen:=0) (sCap:=0) kz.len (lh w rfl) (by simp) (w':=w) rfl;exact Qu hs hf hL (p':=none) (v':=.slice none 0 0) (k:=k) (kt:=if kt=el then el else 0) (H:=H.take 0++[]) (j9 (by rw[hv];exact oK)) rfl rfl rfl (dH _) (fun _ _ _=>rfl) (fun b C e=>by cases e) (fun L'=>⟨k,if kt=el then el else 0,by simp⟩) (fun L' qK=>.l6 V k qK)
   ·have sP:0 < ys.length:=List.length_pos_iff.2 hy0;have oK:=PQ (P:=cx.P) (w:=w) (ty:=o.type) a0 a1 hu hi hz l9 hdu (base:=none) (sLen:=0) (sCap:=0) (olds:=[]) (fun w' _=>Te) kz.len lh (by omega) (by omega) (by omega);simp only[eu] at oK;have oS:=grownCap_ge w ys.length 0 el;obtain⟨k3,o3,r3⟩:=Qq (w:=w) (I:=I) (lp:=lp) (H:=[]) (olds:=[]) (zs:=Builtin.zeroCells zv.cells (grownCap w ys.length 0 el - ys.length)) .nil kz.rep (by simp[By]) kz.one (by simp) kz.each;simp only[eM] at k3 o3 r3;have pb:((#[]:Array i8)++news.toArray++Builtin.zeroCells zv.cells (grownCap w ys.length 0 el - ys.length)).size=grownCap w ys.length 0 el*k:=by simp only[gH,ie,size_zeroCells,kz.pA,hzs];rw[fF,eu,<-eg,ig oS]
    generalize ((#[]:Array i8)++news.toArray++Builtin.zeroCells zv.cells (grownCap w ys.length 0 el - ys.length))=row at *;have w8:∀ b',b' < w.heap.size->(w.drew.alloc (.cells row el)).heap[b']?=w.heap[b']?:=fun b' lX=>by rw[Fq w.drew _ lX];rfl
    have e0:H.take 0++ys=ys:=by simp
    rw[e0,eu]
    refine Qu hs hf hL (w':=w.drew.alloc (.cells row el)) (p':=some (w.heap.size,row.size)) (v':=.slice (some ⟨w.heap.size,0,none⟩) ys.length (grownCap w ys.length 0 el)) (k:=k) (kt:=if kt=el then el else 0) (H:=ys) (j9 (by rw[hv];exact oK))
     rfl rfl rfl (by simp) (fun b' lX _=>w8 b' lX) (fun b' C' e=>by cases e;exact⟨by simp,.inl (dH _)⟩) (fun L'=>?_) (fun L' qK=>?_)
    {refine⟨row,el,J4 w.drew _,rfl,⟨?_,wY kt el⟩,k3,o3,Av.mono (fun _ h=>h) (fun b' lX=>w8 b' (hf.sep.iB b' lX)) (fun _ _ h=>h) r3⟩;rw[pb];exact eT _ oS};{have:=AC.arr (w:=w.drew.alloc (.cells row el)) (I:=I) (lp:=lp) V k 0 ys.length (grownCap w ys.length 0 el) w.heap.size row.size qK (by rw[pb];simp) oS;simpa using this}
 ·rename_i k' H T;rw[T] at A;split at h;·cases h
  rename_i y0 ys0;obtain⟨hk,h⟩:=Bx h;cases h;simp only[dF,iL,iK] at hk;obtain⟨rfl,wZ⟩:=hk;have hzs:zv.cells.size=k:=by have:=((sM w I lp none).cells hzv).2.length;simp at this;omega
  obtain⟨base,olds,hv,hold,hlo,o1,jS,si⟩:∃ base olds,a.eval x=.slice base H.length H.length/\(∀ w':i7,w'.heap=w.heap->(Builtin.firstCells i.size H.length (.slice base H.length H.length)).run cx.P w'=.ok olds.toArray w') /\
    olds.length=H.length*k/\By olds/\Av w I lp none (jM H) olds/\(∀ x∈H,x.cells.length=k):=by
   rcases KG A with ⟨b,off,cap,c,E',fr,hv,g1,g2,g3,g4,g5,g6,g7,g8⟩ | ⟨rfl,ad,cap,hv,g6⟩
   {have:=g6 rfl;subst this;refine⟨_,_,hv,fun w' hw=>?_,by simp;omega,g7,g8,g4⟩;have:=Qs (P:=cx.P) (size:=i.size) (n:=H.length) (len:=H.length) (cap:=H.length) (off:=off) (N:=H.length*k) g2 g3 (by rw[o8];exact dH _) hw;simpa[o8,eU] using this};{have:=g6 rfl;subst this;exact⟨ad,[],hv,fun w' _=>Qa,by simp,by simp[By],.nil,by simp⟩}
  have oK:=PQ (P:=cx.P) (w:=w) (ty:=o.type) a0 a1 hu hi hz l9 hdu hold kz.len lh (by simp only[eS];omega) (by simp only[eS];exact wZ) (by omega);have oS:=grownCap_ge w (H.length+(y0 :: ys0).length) H.length el;obtain⟨k3,o3,r3⟩:=Qq (w:=w) (I:=I) (lp:=lp) (zs:=Builtin.zeroCells zv.cells (grownCap w (H.length+(y0 :: ys0).length) H.length el - (H.length+(y0 :: ys0).length))) jS kz.rep o1 kz.one si kz.each;have pb:(olds.toArray++news.toArray++Builtin.zeroCells zv.cells (grownCap w (H.length+(y0 :: ys0).length) H.length el - (H.length+(y0 :: ys0).length))).size=grownCap w (H.length+(y0 :: ys0).length) H.length el*k:=by simp only[gH,ie,size_zeroCells,kz.pA,hlo,hzs];rw[<-eg,<-eg,ig oS]
  have:=Ot hs hf hd k8 (k:=k) (kt:=el) (H:=H++y0 :: ys0) (t:=el) (.inr rfl) (cap:=grownCap w (H.length+(y0 :: ys0).length) H.length el) (w1:=w.drew) ⟨rfl,rfl,rfl,rfl⟩ (by rw[eA];exact oS) (by rw[pb];exact dH _) k3 o3 r3
   (j9 (by rw[hv,eA];exact oK))
  simpa[hd] using this
 {cases h}
end ops
end Go.Ab


namespace Go.Ab
variable{P:jd} {ats:Array je} {base:Option Addr} {c:Call} {d:jg} {i:TypeInfo} {k m:Nat} {mx:Bool} {V:Nm} {r1:RX} {rs:jz} {tc:TC} {ty:je} {v z:W} {v' x:i8} {w':i7}
section ops
variable {E:Type} {cx:Cx} {w0:i7} {I0 F0:Nat->Prop} {O0:Cw} {Hd:Nat->Option Obj} {R:Ch E} {e:E} {ds:List jf} {F:Nat->Prop} {lp:Nat->jj} {jH:List i8}
variable {I:Nat->Prop} {L:AK} {Z:St} {a:Act} {w:i7} {o:Oper} {out:AQ} {pq:AG}
theorem sQ (hs:SR lp I L Z a.tmps.toList jH w) (hf:Fr cx w0 I0 F0 O0 Hd R e ds I F L w) (hL:L V=some none)
  {kt:Nat} (T:(execOp a.eval o).run cx.P w=.ok (.value v') w\/((execOp a.eval o).run cx.P w=.ok .skip w/\v'=undef))
  (hv:AC w I lp (some L) v v'):BP cx w0 I0 F0 O0 Hd R e ds F lp jH o a w (apply Z o.dst {v,kA:=some (V,.arr k kt [])}):=by
 have hu:=hs.kA (w':=w) (nK:=.arr k kt []) hL (fun _ _=>rfl) (fun _ _ _ _ _=>rfl) ⟨k,_,rfl⟩;refine⟨v',w,I,L,T,?_,hf⟩;rw[I6];cases o.dst with
 | none=>exact hu
 | some d=>exact hu.put d hv
theorem TT {w:i7} {t el:je} (a0:ats[0]?=some t) (hu:P.underlying t=some (.slice el)) (hi:P.info? el=some i)
  {dLen dCap:Nat} {news:List i8} (hl:Builtin.lenOf x=pure m)
  (lh:(Builtin.firstCells i.size (Nat.min m dLen) x).run P w=.ok news.toArray w)
  (lr:(match base with | some a=>storeCells a news | none=>pure ()).run P w=.ok () w') :
  (Builtin.copy_ ats ty #[.slice base dLen dCap,x]).run P w=.ok (.int .i64 ((Nat.min m dLen:Nat):Int)) w':=by
 cases base with
 | none =>
  have lr:w=w':=by simpa using lr
  subst lr;simp[Builtin.copy_,a0,run_underlying hu,sizeOf,typeInfo,hi,hl,lh,goInt]
 | some a =>
  simp only at lr;simp[Builtin.copy_,a0,run_underlying hu,sizeOf,typeInfo,hi,hl,lh,lr,goInt]
theorem op_copy (hs:SR lp I L Z a.tmps.toList jH w) (hf:Fr cx w0 I0 F0 O0 Hd R e ds I F L w) (ho:o.op=.call c) {x y:jb} (ko:c.callee=.builtin .copy) (a0:c.argTypes[0]?=some ty) (oe:c.args=#[x,y])
  {qb:Nat} {r2:RX} (he:Hg cx.P ty=some (k,qb,z)) (U:rx cx.G x=some r1) (O:rx cx.G y=some r2)
  (h:exec (o.dst.getD 0) (Al Z.jC) Z.tmps (.copy k r1 r2)=some out):BP cx w0 I0 F0 O0 Hd R e ds F lp jH o a w (apply Z o.dst out):=by
 obtain⟨el,i,zv,hu,hi,o8,hby,hb6,hz,hzk,hzv,hzn,sM⟩:=Mu he;have A:=BM hs hf.wd U;have hy:=BM hs hf.wd O;have j9:∀ {v' w'},(Builtin.copy_ c.argTypes o.type #[a.eval x,a.eval y]).run cx.P w=.ok v' w'->(execOp a.eval o).run cx.P w=.ok (.value v') w':=by intro v' w' T;simp[execOp,ho,resolve,ko,oe,invoke,builtin,T]
 simp only[exec] at h;split at h;·cases h
 rename_i ys nZ;obtain⟨news,kz⟩:=XB cx.P hs hy nZ;have lh:∀ n,n<=ys.length->(Builtin.firstCells i.size n (a.eval y)).run cx.P w=.ok (news.take (n*k)).toArray w:=fun n hn=>by rw[o8];exact kz.first n hn w rfl
 split at h;{rename_i T;rw[T] at A;cases h;have oK:=TT (P:=cx.P) (w:=w) (w':=w) (ty:=o.type) a0 hu hi (base:=none) (dLen:=0) (dCap:=0) kz.len (by rw[show Nat.min ys.length 0=0 from Nat.min_zero _];exact lh 0 (fp _)) rfl;refine B8 hs hf (j9 (by rw[G9 A];exact oK)) (.refl w) ?_;rw[show Nat.min ys.length 0=0 from Nat.min_zero _];exact .int .i64 _}
 ·rename_i V k' off n T;rw[T] at A;split at h
  case h_2=>cases h
  rename_i nx kt H kD;obtain⟨hk,h⟩:=Bx h;cases h;simp only[dF,iL,iK] at hk;obtain⟨⟨rfl,rfl⟩,hle⟩:=hk;obtain⟨p,hp,ha⟩:=hs.ob V _ kD;rcases Ks A with ⟨b,C,cap,hL,hv,hC,hn⟩ | ⟨hL,hv,rfl,rfl⟩
  ·rw[hL] at hp;cases hp;obtain⟨c',E',hb,hC',lM,nJ,kn,jS⟩:=ha;have sR:(ys.take n).length=Nat.min ys.length n:=by rw[eV];exact Nat.min_comm _ _
   have hmn:Nat.min ys.length n<=n:=Nat.min_le_right _ _;have hmy:Nat.min ys.length n<=ys.length:=Nat.min_le_left _ _;generalize hmm:Nat.min ys.length n=m at *;have rH:(news.take (m*k)).length=m*k:=by have:m*k<=ys.length*k:=eT _ hmy;simp[kz.pA,this]
   have nC:off*k+m*k<=H.length*k:=by rw[<-eg];exact eT _ (by omega)
   have lr:=run_storeCells_at cx.P b (off*k) E' (news.take (m*k)) 0 c' w hb (by omega) (kz.one.mS _);simp only[Nat.add_zero] at lr;have oK:=TT (P:=cx.P) (w:=w) (ty:=o.type) a0 hu hi (base:=some ⟨b,off*k,none⟩) (dLen:=n) (dCap:=cap) kz.len (by rw[hmm];exact lh m hmy) lr;rw[hmm] at oK;have hkI:∀ b',I b'->(w.setRow b (c'.toList.take (off*k)++news.take (m*k)++c'.toList.drop (off*k+(news.take (m*k)).length)).toArray).heap[b']?=w.heap[b']?:=fun b' lX=>J5 w b _ fun e=>(hf.lB V b C hL).2.2.1 (e ▸ lX)
   have hysr:Av w I lp none (jM (ys.take n)) (news.take (m*k)):=by
    have:=kz.rep.take (m*k);rw[<-Ka kz.each] at this;have e0:ys.take m=ys.take n:=by rw[<-hmm];by_cases hc:ys.length<=n;{rw[show Nat.min ys.length n=ys.length from eG hc,fM,dV hc]};{rw[show Nat.min ys.length n=n from ii (by omega)]}
    rwa [e0] at this
   have hyk:∀ y∈ys.take n,y.cells.length=k:=fun y hy=>kz.each y (eE hy);have hnl:(H.take off++ys.take n++H.drop (off+(ys.take n).length)).length=H.length:=by simp only[eA,eV,List.length_drop];omega
   have rE:jM (H.take off++ys.take n++H.drop (off+(ys.take n).length))=j0 (jM H) (off*k) (jM (ys.take n)):=by unfold j0;rw[Lf,Lf,Ka nJ,Mw nJ,Le hyk,eg]
   have e1:=SK c'.toList (news.take (m*k)) (off*k) (H.length*k) (by omega) (by simp;omega);have wL:=jS.j0 hysr (off*k)
   refine OG hs hf hL (w':=w.setRow b (c'.toList.take (off*k)++news.take (m*k)++c'.toList.drop (off*k+(news.take (m*k)).length)).toArray) (v':=.int .i64 (m:Int)) (.inl (j9 (by rw[hv];exact oK))) rfl rfl rfl (by simp)
    (fun b' lX=>J5 w b _ lX) ?_ (by rw[show (min (ys.length:Int) (n:Int))=(m:Int) from by have:min ys.length n=m:=hmm;omega];exact .int .i64 _)
   refine⟨_,E',setRow_heap w b c' _ E' _ hb,?_,by rw[hnl];exact lM,?_,?_,?_⟩;{simp[rH];omega}
   ·intro x A;rcases dX.1 A with A | A
    {rcases dX.1 A with A | A;{exact nJ x (eE A)};{exact hyk x A}};{exact nJ x (e8 A)}
   ·rw[hnl];simp only
    rw[e1];exact kn.j0 (kz.one.mS _) _ _
   ·rw[hnl,rE];simp only
    rw[e1];exact Av.mono (fun _ h=>h) hkI (fun _ _ h=>h) wL
  ·rw[hL] at hp;cases hp;obtain⟨k2,kt2,nL⟩:=ha;simp only[Ob.arr.injEq] at nL;obtain⟨rfl,rfl,rfl⟩:=nL;have oK:=TT (P:=cx.P) (w:=w) (w':=w) (ty:=o.type) a0 hu hi (base:=none) (dLen:=0) (dCap:=0) kz.len (by rw[show Nat.min ys.length 0=0 from Nat.min_zero _];exact lh 0 (fp _)) rfl
   have:=sQ hs hf hL (k:=k) (kt:=kt) (v:=.int .i64 (min (ys.length:Int) ((0:Nat):Int))) (.inl (j9 (by rw[hv];exact oK))) (by
    rw[show Nat.min ys.length 0=0 from Nat.min_zero _,show (min (ys.length:Int) ((0:Nat):Int))=((0:Nat):Int) from by omega];exact .int .i64 _)
   simpa using this
 {cases h}
theorem Vz (es:List MapEntry):(GT es).length=2*es.length:=by
 induction es with
 | nil=>rfl
 | cons e es ih=>simp[GT,ih];omega
theorem U0 (hs:SR lp I L Z a.tmps.toList jH w) (hf:Fr cx w0 I0 F0 O0 Hd R e ds I F L w) (ho:o.op=.call c) {x:jb} (ko:c.callee=.builtin .len) (a0:c.argTypes[0]?=some ty) (oe:c.args=#[x])
  (hu:cx.P.underlying ty=some d) (hd:(d=.string/\tc=.str)\/(∃ e',d=.slice e'/\tc=.slice)\/∃ k' e',d=.map k' e'/\tc=.map) (U:rx cx.G x=some r1)
  (h:exec (o.dst.getD 0) (Al Z.jC) Z.tmps (.len tc r1)=some out):BP cx w0 I0 F0 O0 Hd R e ds F lp jH o a w (apply Z o.dst out):=by
 have A:=BM hs hf.wd U;have j9:∀ {n:Nat},(Builtin.len_ c.argTypes o.type #[a.eval x]).run cx.P w=.ok (.int .i64 (n:Int)) w->BP cx w0 I0 F0 O0 Hd R e ds F lp jH o a w (apply Z o.dst {v:=.int .i64 (n:Int)}):=by intro n T;exact B8 hs hf (by simp[execOp,ho,resolve,ko,oe,invoke,builtin,T]) (.refl w) (.int .i64 _)
 simp only[exec] at h;obtain⟨n,hn,rfl⟩:=dG.1 h;refine j9 ?_;rcases hd with ⟨rfl,rfl⟩ | ⟨e',rfl,rfl⟩ | ⟨k',e',rfl,rfl⟩
 ·cases T:r1.ev Z.tmps<;>rw[T] at hn A<;>simp only[JW] at hn<;>first | contradiction | skip
  rename_i s;cases hn;have hz:(⟨s.toArray⟩:ByteArray).size=s.length:=by simp[ByteArray.size]
  rw[FW A];simp only[Builtin.len_,a0,Sem.run_bind,run_underlying hu,Result.andThen_ok,List.getElem?_toArray,dP,goInt,hz,Sem.run_pure]
 ·cases T:r1.ev Z.tmps<;>rw[T] at hn A<;>simp only[JW] at hn<;>first | contradiction | skip
  {cases hn;simp[Builtin.len_,a0,run_underlying hu,G9 A,goInt]};{cases hn;rcases KG A with ⟨b,off,cap,c,E',fr,hv,_⟩ | ⟨rfl,ad,cap,hv,_⟩<;>simp[Builtin.len_,a0,run_underlying hu,hv,goInt]};{cases hn;rcases Ks A with ⟨b,C,cap,hL,hv,hC,hn⟩ | ⟨hL,hv,rfl,rfl⟩<;>simp[Builtin.len_,a0,run_underlying hu,hv,goInt]}
 ·cases T:r1.ev Z.tmps<;>rw[T] at hn A<;>simp only[JW] at hn<;>first | contradiction | skip
  {cases hn;simp[Builtin.len_,a0,run_underlying hu,Yh A,goInt]}
  ·rename_i es;cases hn;obtain⟨r,kg,clock,hv,_,hb,jS⟩:=Yi A;have hl:=jS.length;rw[Vz] at hl;have:es.length / 2=kg.size:=by simp at hl;omega
   rw[this];have hg:(getObj r).run cx.P w=.ok (.map kg clock) w:=by simp[getObj,Sem.run,hb]
   simp[Builtin.len_,a0,run_underlying hu,hv,goInt,hg]
  ·rename_i V;split at hn
   case h_2=>cases hn
   rename_i es kD;cases hn;obtain⟨b,C,hL,hv⟩:=Rp A;obtain⟨p,hp,ha⟩:=hs.ob V _ kD;rw[hL] at hp;cases hp;obtain⟨kg,clock,hb,jS⟩:=ha;have hl:=jS.length;rw[Vz] at hl;have:es.length / 2=kg.size:=by simp at hl;omega
   rw[this];have hg:(getObj b).run cx.P w=.ok (.map kg clock) w:=by simp[getObj,Sem.run,hb]
   simp[Builtin.len_,a0,run_underlying hu,hv,goInt,hg]
theorem bF {w:i7} {I:Nat->Prop} {lp:Nat->jj} {L:jr} (mx:Bool) (k:jc):∀ (H:jh) (vs:List i8) (x n:Int),Av w I lp L H vs->Ic mx k x H=some n ->
  (vs.foldlM (if mx then Builtin.max2 else Builtin.min2) (.int k x)).run P w'=.ok (.int k n) w':=by
 intro H;induction H with
 | nil=>intro vs x n h hn;cases h;simp only[Ic,dL] at hn;subst hn;rfl
 | cons y ys ih =>
  intro vs x n h hn;cases h with
  | cons _ v _ vs h hs =>
   cases y<;>simp only[Ic] at hn<;>first | contradiction | skip
   rename_i k' b;obtain⟨hk,hn2⟩:=Bx hn;have hk:=beq_iff_eq.1 hk;subst hk;rw[EP h];rw[List.foldlM_cons];cases mx;{simp only[dE,iG] at hn2 |-;rw[Sem.run_bind];have:(Builtin.min2 (.int k x) (.int k b)).run P w'=.ok (.int k (if b < x then b else x)) w':=rfl;rw[this,Result.andThen_ok];simpa using ih vs _ _ hs hn2};{simp only[iH] at hn2 |-;rw[Sem.run_bind];have:(Builtin.max2 (.int k x) (.int k b)).run P w'=.ok (.int k (if b>x then b else x)) w':=rfl;rw[this,Result.andThen_ok];simpa using ih vs _ _ hs hn2}
theorem W4 (hs:SR lp I L Z a.tmps.toList jH w) (hf:Fr cx w0 I0 F0 O0 Hd R e ds I F L w) (ho:o.op=.call c) (ko:c.callee=.builtin (if mx then .max else .min))
  (U:E6 cx.G c.args.toList=some rs)
  (h:exec (o.dst.getD 0) (Al Z.jC) Z.tmps (.j6 mx rs)=some out):BP cx w0 I0 F0 O0 Hd R e ds F lp jH o a w (apply Z o.dst out):=by
 have A:=Q5 hs hf.wd U;simp only[exec] at h;split at h
 case h_2=>cases h
 rename_i k x rest T;rw[T] at A;obtain⟨n,hn,rfl⟩:=dG.1 h;cases hv:c.args.toList.map a.eval with
 | nil=>rw[hv] at A;cases A
 | cons v vs =>
  rw[hv] at A;cases A with
  | cons _ _ _ _ oZ w9 =>
   have hm:(c.args.map a.eval).toList=v :: vs:=by rw[hT,hv]
   have hfm:=bF (P:=cx.P) (w':=w) mx k rest vs x n w9 hn;rw[<-EP oZ] at hfm;refine B8 hs hf (v':=.int k n) ?_ (.refl w) (.int k _);cases mx;{simp only[dE,iG] at ko hfm;simp[execOp,ho,resolve,ko,invoke,builtin,Builtin.min_,hv,hfm]};{simp only[iH] at ko hfm;simp[execOp,ho,resolve,ko,invoke,builtin,Builtin.max_,hv,hfm]}
end ops
end Go.Ab

