/-
  Part 4 of a proof: a machine of our own for the given program, its laws, and what it says of the program. Nothing here is a claim by itself.
-/
import Derived.Test.YtbeonejdegijfaaGreatDoorK03
import Derived.Test.YtbeonejdegijfaaGreatDoorK02
import Derived.Test.YtbeonejdegijfaaGreatDoorK01
set_option linter.all false

namespace Go.Ab
def bindO {α β : Type} (x : Option α) (f : α → Option β) : Option β :=
  match x with
  | some a => f a
  | none => none
def iteP {β : Type} (v : PV) (a b : Option β) : Option β :=
  match v with
  | .bool true => a
  | .bool false => b
  | _ => none
def iteB {β : Type} (v : Bool) (a b : Option β) : Option β :=
  match v with
  | true => a
  | false => b
def chkO {β : Type} (v : Bool) (a : Option β) : Option β :=
  match v with
  | true => a
  | false => none
mutual
def okV : PV → Bool
  | .undef | .bool _ | .int _ _ | .str _ | .nilS | .nilP | .nilF | .nilI | .nilM | .glob _ _ => true
  | .sl _ xs _ => okVL xs | .ptr cs _ => okVL cs | .agg cs => okVL cs | .iface _ x => okV x | .fn _ cap => okVL cap | .tup xs => okVL xs | .imap es => okVL es
  | .yld _ | .ref _ _ | .aref _ _ _ _ | .arr _ _ _ _ | .mp _ | .it _ => false
def okVL : List PV → Bool
  | [] => true
  | x :: xs => okV x && okVL xs
end
def pureO (op : ROp) : Option PV :=
  match exec 0 (fun _ => none) [] op with
  | some out => some out.v
  | none => none
def ptrO (cs : List PV) (o : Nat) : PV := if o < cs.length then .ptr cs o else .undef
def arefO (k k' : Nat) (xs : List PV) (i o : Nat) : PV := if k = k' then (match xs[i]? with | some x => if o < x.cells.length then .ptr x.cells o else .undef | none => .undef) else .undef
def slO (k k' : Nat) (xs : List PV) (o n : Nat) : PV := if k = k' ∧ o + n ≤ xs.length then .sl k ((xs.drop o).take n) false else .undef
def cellP (v : PV) (i : Nat) : PV := v.cells.getD i .undef
def okCells (v : PV) (n : Nat) : Bool := v.isVal && v.cells.length == n
def selO (v : PV) (o n : Nat) (ag : Bool) : Option PV := sel v.cells o n ag
def elemO (xs : List PV) (i o n : Nat) (ag : Bool) : Option PV :=
  match xs[i]? with
  | some e => sel e.cells o n ag
  | none => none
def setO (k : Nat) (xs : List PV) (i o n : Nat) (v : PV) : Option (List PV) :=
  match xs[i]? with
  | some (.agg es) => chkO (v.isVal && decide (v.cells.length = n) && decide (o + n ≤ es.length)) (some (xs.set i (.agg (splice es o v.cells))))
  | some _ => chkO (k == 1 && o == 0 && n == 1 && v.isCell) (some (xs.set i v))
  | none => none
def natO (v : PV) : Option Nat := natOf v
def boundO (x : Option PV) (d top : Nat) : Option Nat := bound x d top
def elemsO (k : Nat) (v : PV) : Option (List PV) := elems (fun _ => none) k v
def appO (k : Nat) (v : PV) (ys : List PV) : Option (List PV) :=
  match v with
  | .nilS => chkO (decide (ys.length ≤ mostLen)) (some ys)
  | .sl k' xs true => match ys with
    | [] => none
    | y :: ys => chkO (k == k' && decide (xs.length + (ys.length + 1) ≤ mostLen)) (some (xs ++ y :: ys))
  | _ => none
def insO (c : TC) (es : List PV) (k v : PV) : Option (List PV) :=
  match setE k v es with
  | some es' => chkO (isKey c k && v.isVal) (some es')
  | none => none
def lookO (c : TC) (z : PV) (ok : Bool) (es : List PV) (k : PV) : Option PV :=
  match findE k es with
  | none => none
  | some r => chkO (isKey c k) (some (if ok then .tup [r.getD z, .bool r.isSome] else r.getD z))
def mkSO (l c : PV) : Option Nat :=
  match natOf l, natOf c with
  | some l, some c => chkO (decide (l ≤ c) && decide (c ≤ mostLen)) (some l)
  | _, _ => none
def binO (op : BinOp) (c : TC) (cst : Bool) (x y : PV) : Option PV := binPV op c cst x y
def strO (v : PV) : Option (List UInt8) :=
  match v with
  | .str s => some s
  | _ => none
def runeP (s : List UInt8) (pos : Nat) : PV := .int .i32 (Utf8.decode ⟨s.toArray⟩ pos).1
def runeN (s : List UInt8) (pos : Nat) : Nat := (Utf8.decode ⟨s.toArray⟩ pos).2
def asP {β : Type} (e : TypeId) (v : PV) (f : PV → Option β) (g : Option β) : Option β :=
  match v with
  | .nilI => g
  | .iface t x => if t = e then f x else none
  | _ => none
def notNil {β : Type} (v : PV) (a : Option β) : Option β :=
  match v with
  | .nilS => none
  | _ => a
def nilO {β : Type} (v : PV) (a : Option β) : Option β :=
  match v with
  | .nilS => a
  | _ => none
def nilB {β : Type} (v : PV) (a b : Option β) : Option β :=
  match v with
  | .nilS => a
  | _ => b
def notNilAt (v : PV) (i : Nat) : Bool :=
  match v.cells[i]? with
  | some .nilS => false
  | _ => true
def nth (vs : List PV) (i : Nat) : PV := vs.getD i .undef
def natP (v : PV) : Nat :=
  match v with
  | .int _ n => n.toNat
  | _ => 0
def itemsP (v : PV) : List PV :=
  match v with
  | .sl _ xs _ => xs
  | _ => []
def entsP (v : PV) : List PV :=
  match v with
  | .imap es => es
  | _ => []
def strP (v : PV) : List UInt8 :=
  match v with
  | .str s => s
  | _ => []
def prjP (v : PV) (i : Nat) : PV :=
  match v with
  | .tup xs => xs.getD i .undef
  | .agg xs => xs.getD i .undef
  | _ => .undef
def addN (a b : Nat) : Nat := a + b
def subN (a b : Nat) : Nat := a - b
def minN (a b : Nat) : Nat := min a b
def leN (a b : Nat) : Bool := Nat.ble a b
def ltN (a b : Nat) : Bool := Nat.blt a b
def eqN (a b : Nat) : Bool := Nat.beq a b
def halfN (a : Nat) : Nat := a / 2
def andB (a b : Bool) : Bool := a && b
def nI (n : Nat) : PV := .int .i64 (n : Int)
def lenL (l : List PV) : Nat := l.length
def takeL (n : Nat) (l : List PV) : List PV := l.take n
def dropL (n : Nat) (l : List PV) : List PV := l.drop n
def catL (l l' : List PV) : List PV := l ++ l'
def replL (n : Nat) (v : PV) : List PV := List.replicate n v
def lenS (s : List UInt8) : Nat := s.length
def cellsP (v : PV) : List PV := v.cells
def okArgs (l : List PV) (n : Nat) : Bool := l.length == n && okVL l
def okSls (k : Nat) (l : List PV) : Bool := l.all fun x => x.isVal && x.cells.length == k
def okSto (u w : PV) (o n : Nat) : Bool := u.isVal && decide (u.cells.length = n) && decide (o + n ≤ w.cells.length)
def stoP (u w : PV) (o : Nat) : PV := .agg (splice w.cells o u.cells)
def isNoneE (p : Option Ex) : Bool :=
  match p with
  | none => true
  | _ => false
def isRetE (p : Option Ex) : Bool :=
  match p with
  | some .ret => true
  | _ => false
def isExitE (p : Option Ex) (id : Nat) : Bool :=
  match p with
  | some (.exit id') => Nat.beq id' id
  | _ => false
def valO (v : PV) : Bool := v.isVal
def okU (v : PV) : Bool := okV v
def noUndef (vs : List PV) : Bool := vs.all fun v => !isUndef v
def noYL (vs : List PV) : Bool := !hasYL vs
open Classical in
noncomputable def lim {α : Type} (f : Nat → Option α) : Option α := if h : ∃ a, Evl fun n => f n = some a then some h.choose else none
theorem lim_some {α : Type} {f : Nat → Option α} {a : α} (h : lim f = some a) : Evl fun n => f n = some a := by
  unfold lim at h
  split at h
  · rename_i hx
    have := hx.choose_spec
    cases h; exact this
  · cases h
theorem Evl.unique {α : Type} {f : Nat → Option α} {a b : α} (h : Evl fun n => f n = some a) (h' : Evl fun n => f n = some b) : a = b := by
  obtain ⟨m, hm⟩ := h.and h'
  have := hm m (Nat.le_refl _)
  exact Option.some.inj (this.1.symm.trans this.2)
theorem lim_of {α : Type} {f : Nat → Option α} {a : α} (h : Evl fun n => f n = some a) : lim f = some a := by
  unfold lim
  have hx : ∃ a, Evl fun n => f n = some a := ⟨a, h⟩
  rw [dif_pos hx]
  exact congrArg some (Evl.unique hx.choose_spec h)
def repS {σ ρ : Type} (step : σ → Option (Sum σ ρ)) : Nat → σ → Option ρ
  | 0, _ => none
  | n + 1, s => onStep (repS step n) some (step s)
noncomputable def loopL {σ ρ : Type} (step : σ → Option (Sum σ ρ)) (s : σ) : Option ρ := lim fun n => repS step n s
theorem repS_mono {σ ρ : Type} {step : σ → Option (Sum σ ρ)} : ∀ {n m : Nat} {s : σ} {r : ρ}, n ≤ m → repS step n s = some r → repS step m s = some r := by
  intro n
  induction n with
  | zero => intro m s r _ h; cases h
  | succ n ih =>
    intro m s r hm h
    obtain ⟨m, rfl⟩ : ∃ k, m = k + 1 := ⟨m - 1, by omega⟩
    unfold repS at h ⊢
    revert h
    rcases step s with _ | (s1 | r1) <;> intro h
    · exact h
    · exact ih (by omega) h
    · exact h
theorem loopL_some {σ ρ : Type} {step : σ → Option (Sum σ ρ)} {s : σ} {r : ρ} (h : loopL step s = some r) : ∃ n, repS step n s = some r := by
  obtain ⟨m, hm⟩ := lim_some h
  exact ⟨m, hm m (Nat.le_refl _)⟩
theorem loopL_of {σ ρ : Type} {step : σ → Option (Sum σ ρ)} {s : σ} {r : ρ} {n : Nat} (h : repS step n s = some r) : loopL step s = some r :=
  lim_of ⟨n, fun _ hk => repS_mono hk h⟩
theorem loopL_eq {σ ρ : Type} (step : σ → Option (Sum σ ρ)) (s : σ) : loopL step s = onStep (loopL step) some (step s) := by
  cases hs : step s with
  | none =>
    cases hl : loopL step s with
    | none => rfl
    | some r =>
      obtain ⟨n, hn⟩ := loopL_some hl
      cases n with
      | zero => cases hn
      | succ n => unfold repS at hn; rw [hs] at hn; cases hn
  | some q =>
    cases q with
    | inl s1 =>
      show loopL step s = loopL step s1
      cases hl : loopL step s with
      | some r =>
        obtain ⟨n, hn⟩ := loopL_some hl
        cases n with
        | zero => cases hn
        | succ n => unfold repS at hn; rw [hs] at hn; exact (loopL_of hn).symm
      | none =>
        cases hl1 : loopL step s1 with
        | none => rfl
        | some r =>
          obtain ⟨n, hn⟩ := loopL_some hl1
          have : loopL step s = some r := loopL_of (n := n + 1) (by unfold repS; rw [hs]; exact hn)
          rw [hl] at this; cases this
    | inr r => exact loopL_of (n := 1) (by unfold repS; rw [hs]; rfl)
theorem loopL_inl {σ ρ : Type} {step : σ → Option (Sum σ ρ)} {s s' : σ} (h : step s = some (.inl s')) : loopL step s = loopL step s' := by
  rw [loopL_eq, h]; rfl
theorem loopL_inr {σ ρ : Type} {step : σ → Option (Sum σ ρ)} {s : σ} {r : ρ} (h : step s = some (.inr r)) : loopL step s = some r := by
  rw [loopL_eq, h]; rfl
inductive KV where
  | un | sk
  | lit (b : Bool)
  | nils
  | cv (v : PV)
  | yld (d : Nat)
  | ref (nm : Nm) (o : Nat)
  | aref (nm : Nm) (k i o : Nat)
  | arr (nm : Nm) (k o n : Nat)
  | mp (nm : Nm)
  | it (nm : Nm)
  | wit (nm : Nm)
  | agg (cs : List KV)
  | iface (t : TypeId) (x : KV)
  | fn (f : FuncId) (cap : List KV)
  | tup (xs : List KV)
  deriving Inhabited
mutual
def KV.pv : KV → PV
  | .un => .undef | .sk => .tup [] | .lit b => .bool b | .nils => .nilS | .cv v => v | .yld d => .yld d
  | .ref nm o => .ref nm o | .aref nm k i o => .aref nm k i o | .arr nm k o n => .arr nm k o n | .mp nm => .mp nm | .it nm => .it nm | .wit nm => .arr nm 1 0 0
  | .agg cs => .agg (pvL cs) | .iface t x => .iface t x.pv | .fn f cap => .fn f (pvL cap) | .tup xs => .tup (pvL xs)
def pvL : List KV → List PV
  | [] => []
  | x :: xs => x.pv :: pvL xs
end
mutual
def KV.names : KV → List Nm
  | .un | .sk | .lit _ | .nils | .cv _ | .yld _ => []
  | .ref nm _ => [nm] | .aref nm _ _ _ => [nm] | .arr nm _ _ _ => [nm] | .mp nm => [nm] | .it nm => [nm] | .wit nm => [nm]
  | .agg cs => knamesL cs | .iface _ x => x.names | .fn _ cap => knamesL cap | .tup xs => knamesL xs
def knamesL : List KV → List Nm
  | [] => []
  | x :: xs => x.names ++ knamesL xs
end
mutual
def KV.hasY : KV → Bool
  | .yld _ => true
  | .agg cs => khasYL cs | .iface _ x => x.hasY | .fn _ cap => khasYL cap | .tup xs => khasYL xs
  | .un | .sk | .lit _ | .nils | .cv _ | .ref _ _ | .aref _ _ _ _ | .arr _ _ _ _ | .mp _ | .it _ | .wit _ => false
def khasYL : List KV → Bool
  | [] => false
  | x :: xs => x.hasY || khasYL xs
end
mutual
def KV.cl : KV → Option PV
  | .lit b => some (.bool b) | .nils => some .nilS | .cv v => some v
  | .agg cs => (clL cs).map .agg | .iface t x => x.cl.map (.iface t) | .fn f cap => (clL cap).map (.fn f)
  | .un | .sk | .yld _ | .ref _ _ | .aref _ _ _ _ | .arr _ _ _ _ | .mp _ | .it _ | .wit _ | .tup _ => none
def clL : List KV → Option (List PV)
  | [] => some []
  | x :: xs => match x.cl, clL xs with
    | some v, some vs => some (v :: vs)
    | _, _ => none
end
mutual
def KV.off (p : Nm → Bool) : KV → KV
  | .ref nm o => if p nm then .un else .ref nm o
  | .aref nm k i o => if p nm then .un else .aref nm k i o
  | .arr nm k o n => if p nm then .un else .arr nm k o n
  | .mp nm => if p nm then .un else .mp nm
  | .it nm => if p nm then .un else .it nm
  | .wit nm => if p nm then .un else .wit nm
  | .agg cs => .agg (offL p cs) | .iface t x => .iface t (x.off p) | .fn f cap => .fn f (offL p cap) | .tup xs => .tup (offL p xs)
  | .un => .un | .sk => .sk | .lit b => .lit b | .nils => .nils | .cv v => .cv v | .yld d => .yld d
def offL (p : Nm → Bool) : List KV → List KV
  | [] => []
  | x :: xs => x.off p :: offL p xs
end
mutual
def KV.ren (f : Nm → Nm) : KV → KV
  | .ref nm o => .ref (f nm) o | .aref nm k i o => .aref (f nm) k i o | .arr nm k o n => .arr (f nm) k o n | .mp nm => .mp (f nm) | .it nm => .it (f nm) | .wit nm => .wit (f nm)
  | .agg cs => .agg (krenL f cs) | .iface t x => .iface t (x.ren f) | .fn g cap => .fn g (krenL f cap) | .tup xs => .tup (krenL f xs)
  | .un => .un | .sk => .sk | .lit b => .lit b | .nils => .nils | .cv v => .cv v | .yld d => .yld d
def krenL (f : Nm → Nm) : List KV → List KV
  | [] => []
  | x :: xs => x.ren f :: krenL f xs
end
inductive KOb where
  | cells (ty : Nat) (cs : List KV)
  | whole (ty : Nat) (v : PV)
  | arr (k ty : Nat) (xs : List PV)
  | map (es : List PV)
  | siter (s : List UInt8) (pos : Nat)
  deriving Inhabited
def KOb.ob : KOb → Ob
  | .cells ty cs => .cells ty (pvL cs)
  | .whole ty v => .cells ty (cellsP v)
  | .arr k kt xs => .arr k kt xs
  | .map es => .map es
  | .siter s pos => .siter s pos
def KOb.names : KOb → List Nm
  | .cells _ cs => knamesL cs
  | _ => []
def KOb.off (p : Nm → Bool) : KOb → KOb
  | .cells ty cs => .cells ty (offL p cs)
  | o => o
def KOb.ren (f : Nm → Nm) : KOb → KOb
  | .cells ty cs => .cells ty (krenL f cs)
  | o => o
abbrev Sp := List (Nat × KV)
abbrev SpO := List (Nat × List KOb)
def spGet : Sp → Nat → KV
  | [], _ => .un
  | (j, v) :: l, i => match Nat.beq i j with
    | true => v
    | false => spGet l i
def spPut (i : Nat) (v : KV) : Sp → Sp
  | [] => [(i, v)]
  | (j, u) :: l => match Nat.beq i j with
    | true => (i, v) :: l
    | false => match Nat.blt i j with
      | true => (i, v) :: (j, u) :: l
      | false => (j, u) :: spPut i v l
def spOut (i : Nat) : Sp → Sp
  | [] => []
  | (j, u) :: l => match Nat.beq i j with
    | true => spOut i l
    | false => (j, u) :: spOut i l
def spSet (i : Nat) (v : KV) (l : Sp) : Sp :=
  match v with
  | .un => spOut i l
  | v => spPut i v l
def spMap (f : KV → KV) : Sp → Sp
  | [] => []
  | (j, u) :: l => match f u with
    | .un => spMap f l
    | u => (j, u) :: spMap f l
def spKeep (p : Nat → Bool) : Sp → Sp
  | [] => []
  | (j, u) :: l => match p j with
    | true => (j, u) :: spKeep p l
    | false => spKeep p l
def spHas : Sp → Nat → Bool
  | [], _ => false
  | (j, _) :: l, i => match Nat.beq i j with
    | true => true
    | false => spHas l i
def spNames : Sp → List Nm
  | [] => []
  | (_, u) :: l => u.names ++ spNames l
def soGet : SpO → Nat → List KOb
  | [], _ => []
  | (j, v) :: l, i => match Nat.beq i j with
    | true => v
    | false => soGet l i
def soPut (i : Nat) (v : List KOb) : SpO → SpO
  | [] => [(i, v)]
  | (j, u) :: l => match Nat.beq i j with
    | true => (i, v) :: l
    | false => match Nat.blt i j with
      | true => (i, v) :: (j, u) :: l
      | false => (j, u) :: soPut i v l
def soMap (f : KOb → KOb) : SpO → SpO
  | [] => []
  | (j, u) :: l => (j, u.map f) :: soMap f l
def soKeep (p : Nat → Bool) : SpO → SpO
  | [] => []
  | (j, u) :: l => match p j with
    | true => (j, u) :: soKeep p l
    | false => soKeep p l
def soNames : SpO → List Nm
  | [] => []
  | (_, u) :: l => u.flatMap KOb.names ++ soNames l
structure KSt where
  nt : Nat
  tmps : Sp
  objs : SpO
  keep : List Sp
  deriving Inhabited
def dense (nt : Nat) (l : Sp) : List PV := (List.range nt).map fun i => (spGet l i).pv
def denseO (nt : Nat) (l : SpO) : List (List Ob) := (List.range nt).map fun i => (soGet l i).map KOb.ob
def KSt.st (ks : KSt) : St := { tmps := dense ks.nt ks.tmps, objs := denseO ks.nt ks.objs, keep := ks.keep.flatMap (dense ks.nt) }
def klook (σ : SpO) (nm : Nm) : Option KOb := (soGet σ nm.1)[nm.2]?
def kput (σ : SpO) (nm : Nm) (o : KOb) : SpO :=
  match klook σ nm with
  | some _ => soPut nm.1 ((soGet σ nm.1).set nm.2 o) σ
  | none => σ
def kreach (σ : Nm → Option KOb) : Nat → List Nm → List Nm
  | 0, l => l
  | d + 1, l => l ++ kreach σ d (l.flatMap fun nm => ((σ nm).map KOb.names).getD [])
def kshut (σ : Nm → Option KOb) (R : List Nm) : Bool := R.all fun nm => (((σ nm).map KOb.names).getD []).all fun m => R.contains m
mutual
def KV.close (g : Nm → Option Ob) : KV → PV
  | .ref nm o => match g nm with
    | some (.cells _ cs) => ptrO cs o
    | _ => .undef
  | .aref nm k i o => match g nm with
    | some (.arr k' kt xs) => arefO k k' xs i o
    | _ => .undef
  | .arr nm k o n => match g nm with
    | some (.arr k' kt xs) => slO k k' xs o n
    | _ => .undef
  | .mp nm => match g nm with
    | some (.map es) => .imap es
    | _ => .undef
  | .it _ => .undef
  | .wit nm => match g nm with
    | some (.arr k' kt xs) => slO 1 k' xs 0 0
    | _ => .undef
  | .agg cs => .agg (closeL g cs) | .iface t x => .iface t (x.close g) | .fn f cap => .fn f (closeL g cap) | .tup xs => .tup (closeL g xs)
  | .un => .undef | .sk => .tup [] | .lit b => .bool b | .nils => .nilS | .cv v => v | .yld d => .yld d
def closeL (g : Nm → Option Ob) : List KV → List PV
  | [] => []
  | x :: xs => x.close g :: closeL g xs
end
def KOb.close (g : Nm → Option Ob) : KOb → Ob
  | .cells ty cs => .cells ty (closeL g cs)
  | o => o.ob
def kclosed (σ : Nm → Option KOb) : Nat → Nm → Option Ob
  | 0, nm => (σ nm).map (KOb.close fun _ => none)
  | d + 1, nm => (σ nm).map (KOb.close (kclosed σ d))
mutual
def KV.frz (p : Nm → Bool) (g : Nm → Option Ob) : KV → KV
  | .ref nm o => if p nm then .cv ((KV.ref nm o).close g) else .ref nm o
  | .aref nm k i o => if p nm then .cv ((KV.aref nm k i o).close g) else .aref nm k i o
  | .arr nm k o n => if p nm then .cv ((KV.arr nm k o n).close g) else .arr nm k o n
  | .mp nm => if p nm then .cv ((KV.mp nm).close g) else .mp nm
  | .it nm => if p nm then .un else .it nm
  | .wit nm => if p nm then .cv ((KV.wit nm).close g) else .wit nm
  | .agg cs => .agg (frzL p g cs) | .iface t x => .iface t (x.frz p g) | .fn f cap => .fn f (frzL p g cap) | .tup xs => .tup (frzL p g xs)
  | .un => .un | .sk => .sk | .lit b => .lit b | .nils => .nils | .cv v => .cv v | .yld d => .yld d
def frzL (p : Nm → Bool) (g : Nm → Option Ob) : List KV → List KV
  | [] => []
  | x :: xs => x.frz p g :: frzL p g xs
end
def KOb.frz (p : Nm → Bool) (g : Nm → Option Ob) : KOb → KOb
  | .cells ty cs => .cells ty (frzL p g cs)
  | o => o
def kdead : KOb := .arr 0 0 []
def koffSt (p : Nm → Bool) (ks : KSt) : KSt := { ks with tmps := spMap (KV.off p) ks.tmps, objs := soMap (KOb.off p) ks.objs, keep := ks.keep.map (spMap (KV.off p)) }
def kfreeze (σ : Nm → Option KOb) (R : List Nm) (ks : KSt) : KSt :=
  let p := fun m => R.contains m
  let g := kclosed σ deepest
  { ks with tmps := spMap (KV.frz p g) ks.tmps, objs := R.foldl (fun objs nm => kput objs nm kdead) (soMap (KOb.frz p g) ks.objs), keep := ks.keep.map (spMap (KV.frz p g)) }
mutual
def forceV {R : Type} : KV → (KV → R) → R
  | .un, K => K .un | .sk, K => K .sk | .lit b, K => (match b with | true => K (.lit true) | false => K (.lit false)) | .nils, K => K .nils | .cv v, K => K (.cv v) | .yld d, K => K (.yld d)
  | .ref nm o, K => (match nm with | (a, b) => K (.ref (a, b) o)) | .aref nm k i o, K => (match nm with | (a, b) => K (.aref (a, b) k i o)) | .arr nm k o n, K => (match nm with | (a, b) => K (.arr (a, b) k o n))
  | .mp nm, K => (match nm with | (a, b) => K (.mp (a, b))) | .it nm, K => (match nm with | (a, b) => K (.it (a, b))) | .wit nm, K => (match nm with | (a, b) => K (.wit (a, b)))
  | .agg cs, K => forceL cs fun cs => K (.agg cs) | .iface t x, K => forceV x fun x => K (.iface t x) | .fn f cap, K => forceL cap fun cap => K (.fn f cap) | .tup xs, K => forceL xs fun xs => K (.tup xs)
def forceL {R : Type} : List KV → (List KV → R) → R
  | [], K => K []
  | x :: xs, K => forceV x fun x => forceL xs fun xs => K (x :: xs)
end
def forceOb {R : Type} : KOb → (KOb → R) → R
  | .cells ty cs, K => forceL cs fun cs => K (.cells ty cs)
  | .whole ty v, K => K (.whole ty v) | .arr k kt xs, K => K (.arr k kt xs) | .map es, K => K (.map es) | .siter s pos, K => K (.siter s pos)
def forceObL {R : Type} : List KOb → (List KOb → R) → R
  | [], K => K []
  | x :: xs, K => forceOb x fun x => forceObL xs fun xs => K (x :: xs)
def forceSp {R : Type} : Sp → (Sp → R) → R
  | [], K => K []
  | (j, x) :: xs, K => forceV x fun x => forceSp xs fun xs => K ((j, x) :: xs)
def forceSo {R : Type} : SpO → (SpO → R) → R
  | [], K => K []
  | (j, x) :: xs, K => forceObL x fun x => forceSo xs fun xs => K ((j, x) :: xs)
def forceKp {R : Type} : List Sp → (List Sp → R) → R
  | [], K => K []
  | x :: xs, K => forceSp x fun x => forceKp xs fun xs => K (x :: xs)
def force {R : Type} (ks : KSt) (K : KSt → R) : R :=
  match ks with
  | ⟨nt, tmps, objs, keep⟩ => forceSp tmps fun a => forceSo objs fun b => forceKp keep fun c => K { nt, tmps := a, objs := b, keep := c }
def cstK (v : PV) : KV :=
  match v with
  | .bool b => .lit b
  | .nilS => .nils
  | .fn f [] => .fn f []
  | v => .cv v
def RX.kv (tm : Sp) : RX → KV
  | .t i => spGet tm i
  | .c v => cstK v
def okX : RX → Bool
  | .t _ => true
  | .c v => okV v
def ROp.mapX (g : RX → RX) : ROp → ROp
  | .mov x => .mov (g x) | .pick c a b => .pick (g c) (g a) (g b) | .box x => .box (g x) | .alloc ty z => .alloc ty z
  | .build z ps => .build z (ps.map fun p => (p.1, p.2.1, g p.2.2)) | .mkSl k ps => .mkSl k (ps.map g) | .load n ag x => .load n ag (g x) | .store n x v => .store n (g x) (g v)
  | .nilck x => .nilck (g x) | .bin op c cst x y => .bin op c cst (g x) (g y) | .un op x => .un op (g x) | .conv k x => .conv k (g x) | .toBytes x => .toBytes (g x) | .ofBytes x => .ofBytes (g x)
  | .ofRune x => .ofRune (g x) | .strId x => .strId (g x) | .mkI t x => .mkI t (g x) | .mkF f cap => .mkF f (cap.map g) | .mkMap => .mkMap | .insert c x k v => .insert c (g x) (g k) (g v)
  | .lookup c z ok x k => .lookup c z ok (g x) (g k) | .mkS k z l c => .mkS k z (g l) (g c) | .slice k x lo hi mx => .slice k (g x) (lo.map g) (hi.map g) (mx.map g) | .strSlice x lo hi => .strSlice (g x) (lo.map g) (hi.map g)
  | .fieldAddr off x => .fieldAddr off (g x) | .field off n ag x => .field off n ag (g x) | .idxAddr k x i => .idxAddr k (g x) (g i) | .idxAddrA k l x i => .idxAddrA k l (g x) (g i) | .strIdx x i => .strIdx (g x) (g i)
  | .extract j x => .extract j (g x) | .len c x => .len c (g x) | .append k ty s x => .append k ty (g s) (g x) | .copy k d s => .copy k (g d) (g s) | .minmax mx xs => .minmax mx (xs.map g) | .call f args => .call (g f) (args.map g)
  | .iter x => .iter (g x) | .next x => .next (g x) | .tassert t z ok x => .tassert t z ok (g x) | .bad => .bad
def instX (tm : Sp) (x : RX) : RX := .c (((x.kv tm).cl).getD .undef)
structure KOut where
  v : KV
  new : List KOb := []
  upd : Option (Nm × KOb) := none
  kill : Option Nm := none
  frz : List Nm := []
  gone : List Nm := []
  ups : List (Nm × KOb) := []
  io : Bool := false
  slot : Option Nat := none
def isG : ROp → Bool
  | .build _ _ | .load _ _ _ | .nilck _ | .bin _ _ _ _ _ | .un _ _ | .conv _ _ | .toBytes _ | .ofBytes _ | .ofRune _ | .strId _ | .lookup _ _ _ _ _ | .slice _ _ _ _ _ | .strSlice _ _ _
  | .fieldAddr _ _ | .field _ _ _ _ | .idxAddr _ _ _ | .idxAddrA _ _ _ _ | .strIdx _ _ | .extract _ _ | .len _ _ | .minmax _ _ | .tassert _ _ _ _ => true
  | _ => false
def okOp : ROp → Bool
  | .build z _ => okVL z
  | .lookup _ z _ _ _ => okV z
  | .tassert _ z _ _ => okV z
  | _ => true
def gO {R : Type} (tm : Sp) (op : ROp) (K : KOut → Option R) : Option R :=
  if (isG op && okOp op && op.xs.all fun x => ((x.kv tm).cl).isSome) then bindO (pureO (op.mapX (instX tm))) fun z => K { v := .cv z } else none
def cellsK {R : Type} (n : Nat) (x : KV) (K : List KV → Option R) : Option R :=
  match x with
  | .agg cs => if cs.length = n then K cs else none
  | .cv v => chkO (okCells v n) (K ((List.range n).map fun i => .cv (cellP v i)))
  | .un | .sk | .tup _ => none
  | y => if n = 1 then K [y] else none
def kfill {R : Type} (tm : Sp) : List KV → List (Nat × Nat × RX) → (List KV → Option R) → Option R
  | z, [], K => K z
  | z, (off, n, x) :: ps, K => cellsK n (x.kv tm) fun cs => if off + n ≤ z.length then kfill tm (z.take off ++ cs ++ z.drop (off + n)) ps K else none
def elemsK {R : Type} (σ : Nm → Option KOb) (k : Nat) (x : KV) (K : List PV → Option R) : Option R :=
  match x with
  | .arr nm k' o n => match σ nm with
    | some (.arr k'' kt xs) => if k = k' ∧ k' = k'' then chkO (leN (addN o n) (lenL xs)) (K (takeL n (dropL o xs))) else none
    | _ => none
  | x => match x.cl with
    | some v => bindO (elemsO k v) K
    | none => none
def execK {R : Type} (d : Nat) (σ : Nm → Option KOb) (tm : Sp) (op : ROp) (K : KOut → Option R) : Option R :=
  match op with
  | .mov x => K { v := x.kv tm }
  | .pick c a b => match c.kv tm with
    | .lit true => K { v := a.kv tm }
    | .lit false => K { v := b.kv tm }
    | .cv v => iteP v (K { v := a.kv tm }) (K { v := b.kv tm })
    | _ => none
  | .box x => match x.kv tm with
    | .cv v => chkO (valO v) (K { v := .ref (d, 0) 0, new := [.whole 0 v] })
    | .agg cs => K { v := .ref (d, 0) 0, new := [.cells 0 cs] }
    | .un | .sk | .tup _ => none
    | y => K { v := .ref (d, 0) 0, new := [.cells 0 [y]] }
  | .alloc ty z => if okVL z then K { v := .ref (d, 0) 0, new := [.cells ty (z.map cstK)] } else none
  | .build z ps =>
    if ps.all fun p => ((p.2.2.kv tm).cl).isSome then gO tm (.build z ps) K
    else if okVL z then kfill tm (z.map cstK) ps fun cs => K { v := .agg cs } else none
  | .mkSl k ps =>
    let xs := ps.map (RX.kv tm)
    match clL xs with
    | some vs => chkO (okSls k vs) (K { v := .arr (d, 0) k 0 (lenL vs), new := [.arr k 0 vs] })
    | none =>
      let R := kreach σ deepest (knamesL xs)
      if (knamesL xs).isEmpty then none
      else if kshut σ R ∧ khasYL xs = false then
        let ys := closeL (kclosed σ deepest) xs
        chkO (okSls k ys) (K { v := .arr (d, 0) k 0 (lenL ys), new := [.arr k 0 ys], frz := R })
      else none
  | .load n ag x => match x.kv tm with
    | .ref nm o => match σ nm with
      | some (.cells _ cs) => if ag then (if o + n ≤ cs.length then K { v := .agg ((cs.drop o).take n) } else none) else (match cs[o]? with | some c => K { v := c } | none => none)
      | some (.whole _ v) => bindO (selO v o n ag) fun z => K { v := .cv z }
      | _ => none
    | .aref nm k i o => match σ nm with
      | some (.arr k' kt xs) => if k = k' then bindO (elemO xs i o n ag) fun z => K { v := .cv z } else none
      | _ => none
    | _ => gO tm op K
  | .store n x v => match x.kv tm with
    | .ref nm o => match σ nm with
      | some (.cells ty cs) => cellsK n (v.kv tm) fun vs => if o + n ≤ cs.length then K { v := .un, upd := some (nm, .cells ty (cs.take o ++ vs ++ cs.drop (o + n))) } else none
      | some (.whole ty w) => match (v.kv tm).cl with
        | some u => chkO (okSto u w o n) (K { v := .un, upd := some (nm, .whole ty (stoP u w o)) })
        | none => none
      | _ => none
    | .aref nm k i o => match σ nm with
      | some (.arr k' kt xs) => match (v.kv tm).cl with
        | some u => if k = k' then bindO (setO k xs i o n u) fun ys => K { v := .un, upd := some (nm, .arr k kt ys) } else none
        | none => none
      | _ => none
    | _ => none
  | .nilck x => match x.kv tm with
    | .ref nm o => K { v := .ref nm o }
    | .aref nm k i o => K { v := .aref nm k i o }
    | .fn f cap => K { v := .fn f cap }
    | .yld l => K { v := .yld l }
    | _ => gO tm op K
  | .bin o c cst x y => match x.kv tm, y.kv tm with
    | .ref _ _, .cv v => match o with
      | .eql => iteB (match c, v with | .ptr, .nilP => true | _, _ => false) (K { v := .lit false }) none
      | .neq => iteB (match c, v with | .ptr, .nilP => true | _, _ => false) (K { v := .lit true }) none
      | _ => none
    | _, _ => gO tm op K
  | .un .not x => match x.kv tm with
    | .lit b => K { v := .lit (!b) }
    | _ => gO tm op K
  | .mkI t x => match (x.kv tm).cl with
    | some v => K { v := .cv (.iface t v) }
    | none => match x.kv tm with
      | .un | .sk | .tup _ | .yld _ => none
      | y => K { v := .iface t y }
  | .mkF f cap => if (cap.map (RX.kv tm)).all fun | .un | .sk | .tup _ | .yld _ => false | _ => true then K { v := .fn f (cap.map (RX.kv tm)) } else none
  | .mkMap => K { v := .mp (d, 0), new := [.map []] }
  | .insert c x k v => match x.kv tm with
    | .mp nm => match σ nm, (k.kv tm).cl, (v.kv tm).cl with
      | some (.map es), some kk, some vv => bindO (insO c es kk vv) fun es' => K { v := .un, upd := some (nm, .map es') }
      | some (.map es), some kk, none =>
        let R := kreach σ deepest (knamesL [v.kv tm])
        if (knamesL [v.kv tm]).isEmpty then none
        else if kshut σ R ∧ khasYL [v.kv tm] = false ∧ R.contains nm = false then
          bindO (insO c es kk (nth (closeL (kclosed σ deepest) [v.kv tm]) 0)) fun es' => K { v := .un, upd := some (nm, .map es'), frz := R }
        else none
      | _, _, _ => none
    | _ => none
  | .lookup c z ok x k => match x.kv tm with
    | .mp nm => match σ nm, (k.kv tm).cl with
      | some (.map es), some kk => if okV z = true then bindO (lookO c z ok es kk) fun v => K { v := .cv v } else none
      | _, _ => none
    | _ => gO tm op K
  | .mkS k z l c => match (l.kv tm).cl, (c.kv tm).cl with
    | some l, some c => if z.cells.length = k ∧ okV z = true then bindO (mkSO l c) fun n => K { v := .arr (d, 0) k 0 n, new := [.arr k 0 (replL n z)] } else none
    | _, _ => none
  | .slice k x lo hi mx => match x.kv tm with
    | .arr nm k' o n =>
      if k = k' ∧ (mx.isNone ∨ hi.isSome) ∧ (lo.toList ++ hi.toList ++ mx.toList).all fun y => ((y.kv tm).cl).isSome then
        let ev := fun (y : RX) => ((y.kv tm).cl).getD .undef
        bindO (boundO (mx.map ev) n n) fun m => bindO (boundO (hi.map ev) n m) fun h =>
          match lo with
          | none => K { v := .arr nm k o h }
          | some lo => bindO (boundO (some (ev lo)) 0 h) fun l => iteB (andB (eqN h l) (ltN 0 l)) (K { v := .cv (.sl k [] false) }) (K { v := .arr nm k (addN o l) (subN h l) })
      else none
    | _ => gO tm op K
  | .fieldAddr off x => match x.kv tm with
    | .ref nm o => K { v := .ref nm (o + off) }
    | .aref nm k i o => K { v := .aref nm k i (o + off) }
    | _ => gO tm op K
  | .field off n ag x => match x.kv tm with
    | .agg cs => if ag then (if off + n ≤ cs.length then K { v := .agg ((cs.drop off).take n) } else none) else (match cs[off]? with | some c => K { v := c } | none => none)
    | _ => gO tm op K
  | .idxAddr k x i => match x.kv tm with
    | .arr nm k' o n => match (i.kv tm).cl with
      | some i => if k = k' then bindO (natO i) fun j => chkO (ltN j n) (K { v := .aref nm k (addN o j) 0 }) else none
      | none => none
    | _ => gO tm op K
  | .extract j x => match x.kv tm with
    | .tup xs => match xs[j]? with
      | some v => K { v }
      | none => none
    | _ => gO tm op K
  | .len c x => match x.kv tm with
    | .arr _ _ _ n => match c with
      | .slice => K { v := .cv (nI n) }
      | _ => none
    | .mp nm => match c, σ nm with
      | .map, some (.map es) => K { v := .cv (nI (halfN (lenL es))) }
      | _, _ => none
    | _ => gO tm op K
  | .append k ty s x => elemsK σ k (x.kv tm) fun ys =>
    match s.kv tm with
    | .arr nm k' o n => match σ nm with
      | some (.arr k'' kt xs) => if k = k' ∧ k' = k'' ∧ o = 0 then chkO (andB (leN n (lenL xs)) (leN (addN n (lenL ys)) mostLen)) (K { v := .arr nm k 0 (addN n (lenL ys)), upd := some (nm, .arr k (if kt = ty then ty else 0) (catL (takeL n xs) ys)), kill := some nm }) else none
      | _ => none
    | .nils => chkO (leN (lenL ys) mostLen) (K { v := .arr (d, 0) k 0 (lenL ys), new := [.arr k ty ys] })
    | .cv v => bindO (appO k v ys) fun zs => K { v := .arr (d, 0) k 0 (lenL zs), new := [.arr k ty zs] }
    | _ => none
  | .copy k x s => elemsK σ k (s.kv tm) fun ys =>
    match x.kv tm with
    | .arr nm k' o n => match σ nm with
      | some (.arr k'' kt xs) => if k = k' ∧ k' = k'' then chkO (leN (addN o n) (lenL xs)) (K { v := .cv (nI (minN (lenL ys) n)), upd := some (nm, .arr k kt (catL (catL (takeL o xs) (takeL n ys)) (dropL (addN o (lenL (takeL n ys))) xs))) }) else none
      | _ => none
    | .nils => K { v := .cv (nI 0) }
    | _ => none
  | .iter x => match (x.kv tm).cl with
    | some v => bindO (strO v) fun s => K { v := .it (d, 0), new := [.siter s 0] }
    | none => none
  | .next x => match x.kv tm with
    | .it nm => match σ nm with
      | some (.siter s pos) => iteB (ltN pos (lenS s)) (K { v := .tup [.lit true, .cv (nI pos), .cv (runeP s pos)], upd := some (nm, .siter s (addN pos (runeN s pos))) }) (K { v := .tup [.lit false] })
      | _ => none
    | _ => none
  | .tassert t z ok x => match x.kv tm with
    | .iface u y => if u = t then K { v := if ok then .tup [y, .lit true] else y } else if ok = true ∧ okV z = true then K { v := .tup [.cv z, .lit false] } else none
    | _ => gO tm op K
  | .call _ _ => none
  | .bad => none
  | _ => gO tm op K
def kupd (u : Option (Nm × KOb)) (ks : KSt) : KSt :=
  match u with
  | some (nm, ob) => { ks with objs := kput ks.objs nm ob }
  | none => ks
def kkill (k : Option Nm) (ks : KSt) : KSt :=
  match k with
  | some nm => koffSt (fun m => m == nm) ks
  | none => ks
def kfrzs (σ : Nm → Option KOb) (R : List Nm) (ks : KSt) : KSt :=
  match R with
  | [] => ks
  | nm :: R => kfreeze σ (nm :: R) ks
def kgone (l : List Nm) (ks : KSt) : KSt :=
  match l with
  | [] => ks
  | nm :: l => koffSt (fun m => (nm :: l).contains m) ks
def kups : List (Nm × KOb) → SpO → SpO
  | [], σ => σ
  | (nm, o) :: l, σ => kups l (kput σ nm o)
def kset (dst : Option Nat) (v : KV) (new : List KOb) (ks : KSt) : KSt :=
  match dst with
  | some d => match Nat.blt d ks.nt with
    | true => { ks with tmps := spSet d v ks.tmps, objs := match new with | [] => ks.objs | x :: xs => soPut d (x :: xs) ks.objs }
    | false => ks
  | none => ks
def kturn (l : List (Nm × KOb)) (ks : KSt) : KSt := { ks with objs := kups l ks.objs }
def kext (sl : Option Nat) (new : List KOb) (ks : KSt) : KSt :=
  match sl with
  | some r => match Nat.blt r ks.nt with
    | true => { ks with objs := soPut r (soGet ks.objs r ++ new) ks.objs }
    | false => ks
  | none => ks
def newAt (sl : Option Nat) (new : List KOb) : List KOb :=
  match sl with
  | some _ => []
  | none => new
def kapply (ks : KSt) (dst : Option Nat) (o : KOut) : KSt := kset dst o.v (newAt o.slot o.new) (kext o.slot o.new <| kturn o.ups (kgone o.gone (kfrzs (klook ks.objs) o.frz (kkill o.kill (kupd o.upd ks)))))
mutual
def fitV : KV → KV → Bool
  | .un, x => match x with | .un => true | _ => false
  | .sk, x => match x with | .sk => true | _ => false
  | .yld _, x => match x with | .yld _ => true | _ => false
  | .ref nm o, x => match x with | .ref nm' o' => nm == nm' && o == o' | _ => false
  | .aref _ _ _ _, _ => false
  | .arr nm k o _, x => match x with | .arr nm' k' o' _ => nm == nm' && k == k' && Nat.beq o o' | _ => false
  | .mp nm, x => match x with | .mp nm' => nm == nm' | _ => false
  | .it nm, x => match x with | .it nm' => nm == nm' | _ => false
  | .wit nm, x => match x with | .wit nm' => nm == nm' | _ => false
  | .fn f cap, x => match x with | .fn f' cap' => f == f' && fitL cap cap' | _ => false
  | .tup xs, x => match x with | .tup ys => fitL xs ys | _ => false
  | .lit _, x => x.cl.isSome
  | .nils, x => x.cl.isSome
  | .cv _, x => x.cl.isSome
  | .agg cs, x => if (clL cs).isSome then x.cl.isSome else match x with | .agg cs' => fitL cs cs' | _ => false
  | .iface t y, x => if y.cl.isSome then x.cl.isSome else match x with | .iface t' y' => t == t' && fitV y y' | _ => false
def fitL : List KV → List KV → Bool
  | [], l => match l with | [] => true | _ => false
  | x :: xs, l => match l with | y :: ys => fitV x y && fitL xs ys | _ => false
end
mutual
def leaves : KV → KV → List PV
  | .un, _ => [] | .sk, _ => [] | .yld _, x => (match x with | .yld d => [nI d] | _ => []) | .ref _ _, _ => [] | .aref _ _ _ _, _ => [] | .mp _, _ => [] | .it _, _ => [] | .wit _, _ => []
  | .arr _ _ _ _, x => match x with | .arr _ _ _ n => [nI n] | _ => []
  | .fn _ cap, x => match x with | .fn _ cap' => leavesL cap cap' | _ => []
  | .tup xs, x => match x with | .tup ys => leavesL xs ys | _ => []
  | .lit _, x => [x.cl.getD .undef]
  | .nils, x => [x.cl.getD .undef]
  | .cv _, x => [x.cl.getD .undef]
  | .agg cs, x => if (clL cs).isSome then [x.cl.getD .undef] else match x with | .agg cs' => leavesL cs cs' | _ => []
  | .iface _ y, x => if y.cl.isSome then [x.cl.getD .undef] else match x with | .iface _ y' => leaves y y' | _ => []
def leavesL : List KV → List KV → List PV
  | [], _ => []
  | x :: xs, l => match l with | y :: ys => leaves x y ++ leavesL xs ys | _ => []
end
mutual
def fill : KV → List PV → Nat → KV × Nat
  | .un, _, i => (.un, i) | .sk, _, i => (.sk, i) | .yld _, vs, i => (.yld (natP (nth vs i)), i + 1) | .ref nm o, _, i => (.ref nm o, i) | .aref nm k j o, _, i => (.aref nm k j o, i) | .mp nm, _, i => (.mp nm, i) | .it nm, _, i => (.it nm, i) | .wit nm, _, i => (.wit nm, i)
  | .arr nm k o _, vs, i => (.arr nm k o (natP (nth vs i)), i + 1)
  | .fn f cap, vs, i => let p := fillL cap vs i; (.fn f p.1, p.2)
  | .tup xs, vs, i => let p := fillL xs vs i; (.tup p.1, p.2)
  | .lit _, vs, i => (.cv (nth vs i), i + 1)
  | .nils, vs, i => (.cv (nth vs i), i + 1)
  | .cv _, vs, i => (.cv (nth vs i), i + 1)
  | .agg cs, vs, i => if (clL cs).isSome then (.cv (nth vs i), i + 1) else let p := fillL cs vs i; (.agg p.1, p.2)
  | .iface t y, vs, i => if y.cl.isSome then (.cv (nth vs i), i + 1) else let p := fill y vs i; (.iface t p.1, p.2)
def fillL : List KV → List PV → Nat → List KV × Nat
  | [], _, i => ([], i)
  | x :: xs, vs, i => let p := fill x vs i; let q := fillL xs vs p.2; (p.1 :: q.1, q.2)
end
def fitOb : KOb → KOb → Bool
  | .cells ty cs, x => match x with | .cells ty' cs' => ty == ty' && fitL cs cs' | _ => false
  | .whole ty _, x => match x with | .whole ty' _ => ty == ty' | _ => false
  | .arr k t _, x => match x with | .arr k' t' _ => k == k' && t == t' | _ => false
  | .map _, x => match x with | .map _ => true | _ => false
  | .siter _ _, x => match x with | .siter _ _ => true | _ => false
def leavesOb : KOb → KOb → List PV
  | .cells _ cs, x => match x with | .cells _ cs' => leavesL cs cs' | _ => []
  | .whole _ _, x => match x with | .whole _ v => [v] | _ => []
  | .arr k _ _, x => match x with | .arr _ _ xs => [.sl k xs false] | _ => []
  | .map _, x => match x with | .map es => [.imap es] | _ => []
  | .siter _ _, x => match x with | .siter s pos => [.str s, nI pos] | _ => []
def fillOb : KOb → List PV → Nat → KOb × Nat
  | .cells ty cs, vs, i => let p := fillL cs vs i; (.cells ty p.1, p.2)
  | .whole ty _, vs, i => (.whole ty (nth vs i), i + 1)
  | .arr k t _, vs, i => (.arr k t (itemsP (nth vs i)), i + 1)
  | .map _, vs, i => (.map (entsP (nth vs i)), i + 1)
  | .siter _ _, vs, i => (.siter (strP (nth vs i)) (natP (nth vs (i + 1))), i + 2)
def fitObL : List KOb → List KOb → Bool
  | [], [] => true
  | x :: xs, y :: ys => fitOb x y && fitObL xs ys
  | _, _ => false
def leavesObL : List KOb → List KOb → List PV
  | x :: xs, y :: ys => leavesOb x y ++ leavesObL xs ys
  | _, _ => []
def fillObL : List KOb → List PV → Nat → List KOb × Nat
  | [], _, i => ([], i)
  | x :: xs, vs, i => let p := fillOb x vs i; let q := fillObL xs vs p.2; (p.1 :: q.1, q.2)
def fitSp : Sp → Sp → Bool
  | [], [] => true
  | (i, x) :: xs, (j, y) :: ys => Nat.beq i j && (fitV x y && fitSp xs ys)
  | _, _ => false
def leavesSp : Sp → Sp → List PV
  | (_, x) :: xs, (_, y) :: ys => leaves x y ++ leavesSp xs ys
  | _, _ => []
def fillSp : Sp → List PV → Nat → Sp × Nat
  | [], _, i => ([], i)
  | (j, x) :: xs, vs, i => let p := fill x vs i; let q := fillSp xs vs p.2; ((j, p.1) :: q.1, q.2)
def fitSo : SpO → SpO → Bool
  | [], [] => true
  | (i, x) :: xs, (j, y) :: ys => Nat.beq i j && (fitObL x y && fitSo xs ys)
  | _, _ => false
def leavesSo : SpO → SpO → List PV
  | (_, x) :: xs, (_, y) :: ys => leavesObL x y ++ leavesSo xs ys
  | _, _ => []
def fillSo : SpO → List PV → Nat → SpO × Nat
  | [], _, i => ([], i)
  | (j, x) :: xs, vs, i => let p := fillObL x vs i; let q := fillSo xs vs p.2; ((j, p.1) :: q.1, q.2)
def fitKp : List Sp → List Sp → Bool
  | [], [] => true
  | x :: xs, y :: ys => fitSp x y && fitKp xs ys
  | _, _ => false
def leavesKp : List Sp → List Sp → List PV
  | x :: xs, y :: ys => leavesSp x y ++ leavesKp xs ys
  | _, _ => []
def fillKp : List Sp → List PV → Nat → List Sp × Nat
  | [], _, i => ([], i)
  | x :: xs, vs, i => let p := fillSp x vs i; let q := fillKp xs vs p.2; (p.1 :: q.1, q.2)
def fitSt (p x : KSt) : Bool := Nat.beq p.nt x.nt && (fitSp p.tmps x.tmps && (fitSo p.objs x.objs && fitKp p.keep x.keep))
def leavesSt (p x : KSt) : List PV := leavesSp p.tmps x.tmps ++ leavesSo p.objs x.objs ++ leavesKp p.keep x.keep
def fillSt (p : KSt) (vs : List PV) : KSt :=
  let a := fillSp p.tmps vs 0
  let b := fillSo p.objs vs a.2
  let c := fillKp p.keep vs b.2
  { nt := p.nt, tmps := a.1, objs := b.1, keep := c.1 }
mutual
def fitP : KV → PV → Option (List PV)
  | .un, x => match x with | .undef => some [] | _ => none
  | .sk, x => match x with | .tup [] => some [] | _ => none
  | .yld _, x => match x with | .yld d => some [nI d] | _ => none
  | .aref _ _ _ _, _ => none
  | .wit nm, x => match x with | .arr nm' 1 0 0 => chkO (nm == nm') (some []) | _ => none
  | .ref nm o, x => match x with | .ref nm' o' => chkO (nm == nm' && o == o') (some []) | _ => none
  | .mp nm, x => match x with | .mp nm' => chkO (nm == nm') (some []) | _ => none
  | .it nm, x => match x with | .it nm' => chkO (nm == nm') (some []) | _ => none
  | .arr nm k o _, x => match x with | .arr nm' k' o' n => chkO (nm == nm' && k == k' && Nat.beq o o') (some [nI n]) | _ => none
  | .lit _, x => chkO (okV x) (some [x])
  | .nils, x => chkO (okV x) (some [x])
  | .cv _, x => chkO (okV x) (some [x])
  | .fn f cap, x => match x with | .fn f' cap' => if f = f' then fitPL cap cap' else none | _ => none
  | .tup xs, x => match x with | .tup ys => fitPL xs ys | _ => none
  | .agg cs, x => if (clL cs).isSome then chkO (okV x) (some [x]) else match x with | .agg cs' => fitPL cs cs' | _ => none
  | .iface t y, x => if y.cl.isSome then chkO (okV x) (some [x]) else match x with | .iface t' y' => if t = t' then fitP y y' else none | _ => none
def fitPL : List KV → List PV → Option (List PV)
  | [], l => match l with | [] => some [] | _ => none
  | x :: xs, l => match l with
    | y :: ys => match fitP x y, fitPL xs ys with
      | some a, some b => some (a ++ b)
      | _, _ => none
    | _ => none
end
def fitPOb : KOb → Ob → Option (List PV)
  | .cells ty cs, x => match x with | .cells ty' cs' => if ty = ty' then fitPL cs cs' else none | _ => none
  | .whole ty _, x => match x with | .cells ty' cs' => chkO (ty == ty' && okVL cs') (some [.agg cs']) | _ => none
  | .arr k t _, x => match x with | .arr k' t' xs => chkO (k == k' && t == t' && okVL xs) (some [.sl k xs false]) | _ => none
  | .map _, x => match x with | .map es => chkO (okVL es) (some [.imap es]) | _ => none
  | .siter _ _, x => match x with | .siter s pos => some [.str s, nI pos] | _ => none
def fitPObL : List KOb → List Ob → Option (List PV)
  | [], l => match l with | [] => some [] | _ => none
  | x :: xs, l => match l with
    | y :: ys => match fitPOb x y, fitPObL xs ys with
      | some a, some b => some (a ++ b)
      | _, _ => none
    | _ => none
structure IoSh where
  args : List KV
  ins : List KOb
  res : KV
  outs : List KOb
  news : List KOb
  gone : List Nat
  deriving Inhabited
def ioFit (P : IoSh) (out : Out) : Option (List PV) :=
  if out.gone = P.gone.map (fun j => (0, j)) then
    match fitP P.res out.v, fitPObL P.outs (out.ups.map (·.2)), fitPObL P.news out.new with
    | some a, some b, some c => some (a ++ (b ++ c))
    | _, _, _ => none
  else none
def canonR (k : Nat) : List Nm := (List.range k).map fun j => (0, j)
inductive RSh where
  | cl
  | own (k : Nat)
  | opt (k : Nat)
  | tup (l : List RSh)
  | agg (l : List RSh)
  deriving Inhabited
mutual
def convR (obs : List Ob) : RSh → Nat → PV → Option (PV × Nat)
  | .cl, j, v => chkO (okV v) (some (v, j))
  | .own k, j, v => match v, obs[j]? with
    | .arr nm k' o n, some (.arr k'' kt xs) => chkO (nm == (0, j) && k == k' && k == k'' && o == 0 && n == xs.length && kt == 0 && okVL xs) (some (.sl k xs false, j + 1))
    | _, _ => none
  | .opt k, j, v => match v, obs[j]? with
    | .nilS, _ => some (.nilS, j)
    | .arr nm k' o n, some (.arr k'' kt xs) => chkO (nm == (0, j) && k == k' && k == k'' && o == 0 && n == xs.length && kt == 0 && okVL xs) (some (.sl k xs false, j + 1))
    | _, _ => none
  | .tup l, j, v => match v with
    | .tup vs => (convRL obs l j vs).map fun p => (.tup p.1, p.2)
    | _ => none
  | .agg l, j, v => match v with
    | .agg vs => (convRL obs l j vs).map fun p => (.agg p.1, p.2)
    | _ => none
def convRL (obs : List Ob) : List RSh → Nat → List PV → Option (List PV × Nat)
  | [], j, [] => some ([], j)
  | s :: l, j, v :: vs => match convR obs s j v with
    | some (u, j) => (convRL obs l j vs).map fun p => (u :: p.1, p.2)
    | none => none
  | _, _, _ => none
end
def convO (sh : RSh) (v : PV) (obs : List Ob) : Option PV :=
  match convR obs sh 0 v with
  | some (r, j) => chkO (j == obs.length) (some r)
  | none => none
mutual
def putR (d : Nat) : RSh → Nat → PV → KV × List KOb × Nat
  | .cl, j, r => (.cv r, [], j)
  | .own k, j, r => (.arr (d, j) k 0 (lenL (itemsP r)), [.arr k 0 (itemsP r)], j + 1)
  | .opt _, j, r => (.cv r, [], j)
  | .tup l, j, r => let p := putRL d l j r 0; (.tup p.1, p.2)
  | .agg l, j, r => let p := putRL d l j r 0; (.agg p.1, p.2)
def putRL (d : Nat) : List RSh → Nat → PV → Nat → List KV × List KOb × Nat
  | [], j, _, _ => ([], [], j)
  | s :: l, j, r, i =>
    let p := putR d s j (prjP r i)
    let q := putRL d l p.2.2 r (i + 1)
    (p.1 :: q.1, p.2.1 ++ q.2.1, q.2.2)
end
mutual
def splitSh {R : Type} : RSh → PV → (RSh → Option R) → Option R
  | .cl, _, K => K .cl
  | .own k, _, K => K (.own k)
  | .opt k, u, K => nilB u (K .cl) (K (.own k))
  | .tup l, u, K => splitShL l u 0 fun l => K (.tup l)
  | .agg l, u, K => splitShL l u 0 fun l => K (.agg l)
def splitShL {R : Type} : List RSh → PV → Nat → (List RSh → Option R) → Option R
  | [], _, _, K => K []
  | s :: l, u, i, K => splitSh s (prjP u i) fun s => splitShL l u (i + 1) fun l => K (s :: l)
end
mutual
def RSh.fix : RSh → Bool
  | .opt _ => false
  | .cl | .own _ => true
  | .tup l | .agg l => fixL l
def fixL : List RSh → Bool
  | [] => true
  | s :: l => s.fix && fixL l
end
structure KB where
  sp : FuncId → (Nm → Option Ob) → List PV → Option Out
  L : CallT
  I : FuncId → List Ob → List PV → Option (St × PV)
  isIo : FuncId → Bool
  leans : FuncId → Bool
structure KCfg where
  b : KB
  spF : FuncId → Bool
  asT : FuncId → TypeId → Option (TypeId × Nat)
  rsh : FuncId → RSh × Bool
  dsh : Nat → RSh
  ioF : FuncId → Option (List KV → IoSh)
def spO (sp : FuncId → (Nm → Option Ob) → List PV → Option Out) (g : FuncId) (vs : List PV) : Option (Option (PV × List Ob)) :=
  match sp g (fun _ => none) vs with
  | some out => chkO (out.upd.isNone && out.kill.isNone && out.frz.isEmpty && out.gone.isEmpty && out.ups.isEmpty && !out.io && out.slot.isNone) (some (some (out.v, out.new)))
  | none => some none
noncomputable def callO (B : KB) (sh : RSh) (f : PV) (args : List PV) : Option PV :=
  match f with
  | .fn g cap => match spO B.sp (fnId g) (fnArgs g args cap) with
    | some (some (v, obs)) => convO sh v obs
    | some none => if B.isIo (fnId g) then none else match B.L Unit noHandler 0 (fnId g) (fnArgs g args cap) () with
      | some (r, obs, _) => convO sh r obs
      | none => none
    | none => none
  | _ => none
noncomputable def lendO (B : KB) (sh : RSh) (fr : Bool) (g : FuncId) (args : List PV) : Option PV :=
  if hasYL args then none
  else match B.L Unit noHandler 0 g args () with
    | some (r, obs, _) => chkO ((r.free && obs.all Ob.free && !B.leans g) == fr) (convO sh r obs)
    | none => none
noncomputable def rangeO (B : KB) {E : Type} (h : Handler E) (dep : Nat) (f : PV) (e : E) : Option E :=
  match f with
  | .fn g cap => match B.L E h (dep + 1) (fnId g) (fnArgs g [.yld dep] cap) e with
    | some (_, _, e) => some e
    | none => none
  | _ => none
noncomputable def ioO (B : KB) (P : IoSh) (g : FuncId) (vs : List PV) : Option (List PV) :=
  match B.I g ((fillObL P.ins vs (fillL P.args vs 0).2).1.map KOb.ob) (pvL (fillL P.args vs 0).1) with
  | some (st, v) => match ioEnd none 1 0 (canonR P.ins.length) st v with
    | some out => ioFit P out
    | none => none
  | none => none
def ioNm (R : List Nm) (d i0 : Nat) (m : Nm) : Nm := if m.1 = 0 then R.getD m.2 (0, 0) else (d, i0 + m.2)
def ioOut (P : IoSh) (R : List Nm) (sl : Option Nat) (d i0 : Nat) (rs : List PV) : KOut :=
  let v := fill P.res rs 0
  let o := fillObL P.outs rs v.2
  let w := fillObL P.news rs o.2
  { v := v.1.ren (ioNm R d i0), new := w.1.map (KOb.ren (ioNm R d i0)), gone := P.gone.map fun j => R.getD j (0, 0), ups := R.zip (o.1.map (KOb.ren (ioNm R d i0))), io := true, slot := sl }
noncomputable def kcallIo {R : Type} (cfg : KCfg) (P : IoSh) (g : FuncId) (d : Nat) (σ : Nm → Option KOb) (xs : List KV) (K : KOut → Option R) : Option R :=
  let S := dedupN (kreach σ deepest (knamesL xs))
  match S.mapM σ with
  | none => none
  | some ins =>
    let f : Nm → Nm := fun m => (0, S.idxOf m)
    if kshut σ S = true ∧ khasYL xs = false ∧ cfg.spF g = false ∧ (fitL P.args (krenL f xs) && fitObL P.ins (ins.map (KOb.ren f))) = true then
      bindO (ioO cfg.b P g (leavesL P.args (krenL f xs) ++ leavesObL P.ins (ins.map (KOb.ren f)))) fun rs => match S with
        | [] => K (ioOut P S none d 0 rs)
        | r :: _ => match slotLen σ r.1 with
          | some i0 => K (ioOut P S (some r.1) r.1 i0 rs)
          | none => none
    else none
def kfnArgs (f : FuncId) (vs cap : List KV) : List KV := match Nat.blt f fnBase with
  | true => vs ++ cap
  | false => cap.take (fnK f) ++ (vs ++ cap.drop (fnK f))
noncomputable def kcall {E R : Type} (cfg : KCfg) (h : Handler E) (d : Nat) (σ : Nm → Option KOb) (tm : Sp) (f : RX) (args : List RX) (e : E) (K : KOut → E → Option R) : Option R :=
  match f.kv tm with
  | .yld l =>
    let xs := args.map (RX.kv tm)
    match clL xs with
    | some vs => bindO (h l vs e) fun p => K { v := .cv (.bool p.1) } p.2
    | none =>
      let R := kreach σ deepest (knamesL xs)
      if (knamesL xs).isEmpty then none
      else if kshut σ R then
        let ys := closeL (kclosed σ deepest) xs
        chkO (noYL ys) (bindO (h l ys e) fun p => K { v := .cv (.bool p.1), frz := R } p.2)
      else none
  | .fn f caps =>
    let g := fnId f
    let xs := kfnArgs f (args.map (RX.kv tm)) caps
    match cfg.ioF g with
    | some P => kcallIo cfg (P xs) g d σ xs fun out => K out e
    | none =>
    match xs with
    | [ex, .iface p (.ref nm 0)] => match cfg.asT g p, ex.cl, σ nm with
      | some (t, n), some err, some (.cells ty cs) => chkO (eqN cs.length n) (asP t err (fun x => chkO (okCells x n) (K { v := .lit true, upd := some (nm, .whole ty x) } e)) (K { v := .lit false } e))
      | _, _, _ => none
    | _ => match clL xs with
      | some vs => bindO (callO cfg.b (cfg.rsh g).1 (.fn g []) vs) fun r => splitSh (cfg.rsh g).1 r fun sh => let p := putR d sh 0 r; K { v := p.1, new := p.2.1 } e
      | none =>
        let R := kreach σ deepest (knamesL xs)
        if (knamesL xs).isEmpty ∨ cfg.spF g = true then none
        else if kshut σ R then
          bindO (lendO cfg.b (cfg.rsh g).1 (cfg.rsh g).2 g (closeL (kclosed σ deepest) xs)) fun r => splitSh (cfg.rsh g).1 r fun sh => let p := putR d sh 0 r; K { v := p.1, new := p.2.1, frz := if (cfg.rsh g).2 then [] else R } e
        else none
  | .cv v => match clL (args.map (RX.kv tm)) with
    | some vs => bindO (callO cfg.b (cfg.dsh d) v vs) fun r => splitSh (cfg.dsh d) r fun sh => let p := putR d sh 0 r; K { v := p.1, new := p.2.1 } e
    | none => none
  | _ => none
def kfresh (o : ROper) (ks : KSt) : Bool :=
  if makes o.op then
    match o.dst with
    | some d => Nat.blt d ks.nt && (soGet ks.objs d).isEmpty
    | none => match o.op with
      | .call _ _ => true
      | _ => false
  else true
def kquiet : SpO → Bool
  | [] => true
  | (_, u) :: l => (u.all fun o => match o with | .cells _ cs => !khasYL cs | _ => true) && kquiet l
noncomputable def koutOf {E R : Type} (cfg : KCfg) (h : Handler E) (o : ROper) (ks : KSt) (e : E) (K : KOut → E → Option R) : Option R :=
  if kfresh o ks ∧ o.op.xs.all okX ∧ kquiet ks.objs then
    match o.op with
    | .call f args => kcall cfg h (o.dst.getD 0) (klook ks.objs) ks.tmps f args e fun out e => if (!out.io || o.dst.isSome || out.new.isEmpty || out.slot.isSome) = true then K out e else none
    | op => execK (o.dst.getD 0) (klook ks.objs) ks.tmps op fun out => K out e
  else none
def kwants {R : Type} (ops : List ROper) (o : ROper) (ks : KSt) (K : Bool → KSt → Option R) : Option R :=
  match o.guard with
  | none => K true ks
  | some (j, want) =>
    match ops[j]? with
    | some p => match p.dst with
      | some d => match spGet ks.tmps d with
        | .lit b => K (b == want) ks
        | .sk => K false ks
        | .cv v => iteP v (K (true == want) { ks with tmps := spPut d (.lit true) ks.tmps }) (K (false == want) { ks with tmps := spPut d (.lit false) ks.tmps })
        | _ => none
      | none => none
    | none => none
noncomputable def kstep {E R : Type} (cfg : KCfg) (h : Handler E) (ops : List ROper) (o : ROper) (ks : KSt) (e : E) (K : KSt → E → Option R) : Option R :=
  kwants ops o ks fun b ks => match b with
    | true => koutOf cfg h o ks e fun out e => force (kapply ks o.dst out) fun ks => K ks e
    | false => force (kapply ks o.dst { v := .sk }) fun ks => K ks e
noncomputable def kruns {E R : Type} (cfg : KCfg) (h : Handler E) (ops : List ROper) : List ROper → KSt → E → (KSt → E → Option R) → Option R
  | [], ks, e, K => K ks e
  | o :: rest, ks, e, K => kstep cfg h ops o ks e fun ks e => kruns cfg h ops rest ks e K
def kstays (o : KOut) : Bool := o.upd.isNone && o.kill.isNone && o.frz.isEmpty && o.gone.isEmpty && o.ups.isEmpty && o.slot.isNone
def kturns (o : KOut) : Bool := o.kill.isNone && o.gone.isEmpty && o.ups.isEmpty && o.slot.isNone && !o.io
def kupdNames (o : KOut) : List Nm :=
  match o.upd with
  | some (nm, _) => [nm]
  | none => []
def spAt (ks : KSt) (s : Nat) : KV :=
  match Nat.blt s ks.nt with
  | true => spGet ks.tmps s
  | false => .un
def kinfo (ops : List ROper) (i : Nat) (o : ROper) (ks : KSt) (out : KOut) : Info :=
  let vs := o.op.xs.map (RX.kv ks.tmps)
  { i, dst := o.dst, reads := slotsOf o.op.xs ++ guardSlot ops o, rn := if blind o.op && kstays out then [] else kreach (klook ks.objs) deepest (knamesL vs ++ out.frz),
    cls := if isCall o.op && khasYL vs then .other else if kstays out then .quiet else if kturns out then .turns else .other,
    on := out.v.names ++ out.new.flatMap KOb.names, tch := kupdNames out ++ out.frz, frz := !out.frz.isEmpty,
    vn := (slotsOf o.op.xs ++ guardSlot ops o).flatMap fun s => (spAt ks s).names }
noncomputable def kstepD {E R : Type} (cfg : KCfg) (h : Handler E) (ops : List ROper) (i : Nat) (o : ROper) (ks : KSt) (e : E) (K : KSt → E → Info → Option R) : Option R :=
  kwants ops o ks fun b ks => match b with
    | true => koutOf cfg h o ks e fun out e => force (kapply ks o.dst out) fun k1 => K k1 e (kinfo ops i o ks out)
    | false => force (kapply ks o.dst { v := .sk }) fun k1 => K k1 e { i, cls := .quiet, dst := o.dst, reads := guardSlot ops o, rn := [], vn := (guardSlot ops o).flatMap fun s => (spAt ks s).names }
noncomputable def krunsD {E R : Type} (cfg : KCfg) (h : Handler E) (ops : List ROper) : List (Nat × Nat) → List Info → KSt → E → (KSt → E → Option R) → Option R
  | [], _, ks, e, K => K ks e
  | (i, bef) :: rest, infos, ks, e, K => match ops[i]? with
    | some o => kstepD cfg h ops i o ks e fun ks e info => if (infos.all fun j => bef.testBit j.i || indep j info) then krunsD cfg h ops rest (info :: infos) ks e K else none
    | none => none
def kclean (ds : List Nat) (ks : KSt) : KSt :=
  if ds.all fun d => (soGet ks.objs d).isEmpty then ks
  else
    let ks := koffSt (fun m => ds.contains m.1) ks
    { ks with objs := soKeep (fun i => !ds.contains i) ks.objs }
def kempty (ks : KSt) (t : Nat) : Bool := Nat.blt t ks.nt && (soGet ks.objs t).isEmpty
def krehomeTo (t : Nat) (ks : KSt) (nm : Nm) : KSt :=
    if nm ≠ (t, 0) ∧ kempty ks t = true then
      match klook ks.objs nm with
      | some ob =>
        let f : Nm → Nm := fun m => if m = nm then (t, 0) else m
        let objs := soMap (KOb.ren f) ks.objs
        { ks with tmps := spMap (KV.ren f) ks.tmps, objs := soPut t [ob.ren f] (kput objs nm kdead), keep := ks.keep.map (spMap (KV.ren f)) }
      | none => ks
    else ks
def krehome1 (t : Nat) (ks : KSt) : KSt :=
  match spGet ks.tmps t with
  | .arr nm _ _ _ => krehomeTo t ks nm
  | .wit nm => krehomeTo t ks nm
  | _ => ks
def kgrown (nm : Nm) (ty : Nat) (cs : List KV) (i k : Nat) (ks : KSt) : KSt :=
  let l := soGet ks.objs nm.1
  { ks with objs := soPut nm.1 (l.set nm.2 (.cells ty (cs.set i (.arr (nm.1, l.length) k 0 0))) ++ [.arr k 0 []]) ks.objs }
def kgrowMove (nm m : Nm) (ks : KSt) : KSt :=
  let l := soGet ks.objs nm.1
  if m.1 ≠ nm.1 then
    match klook ks.objs m with
    | some ob =>
      let f : Nm → Nm := fun x => if x = m then (nm.1, l.length) else x
      let objs := kput (soMap (KOb.ren f) ks.objs) m kdead
      { ks with tmps := spMap (KV.ren f) ks.tmps, objs := soPut nm.1 (soGet objs nm.1 ++ [ob.ren f]) objs, keep := ks.keep.map (spMap (KV.ren f)) }
    | none => ks
  else ks
def kgrowCell {R : Type} (nm : Nm) (ty : Nat) (cs : List KV) (i k : Nat) (ks : KSt) (K : KSt → Option R) : Option R :=
  match cs[i]? with
  | some .nils => K (kgrown nm ty cs i k ks)
  | some (.cv v) => nilO v (K (kgrown nm ty cs i k ks))
  | some (.arr m _ _ _) => K (kgrowMove nm m ks)
  | some (.wit m) => K (kgrowMove nm m ks)
  | _ => K ks
def kgrowC {R : Type} (x off k : Nat) (ks : KSt) (K : KSt → Option R) : Option R :=
  match spGet ks.tmps x with
  | .ref nm o => match klook ks.objs nm with
    | some (.cells ty cs) => kgrowCell nm ty cs (o + off) k ks K
    | some (.whole _ v) => chkO (notNilAt v (o + off)) (K ks)
    | _ => K ks
  | _ => K ks
def kgrow1 {R : Type} (t k : Nat) (ks : KSt) (K : KSt → Option R) : Option R :=
  if gcBase ≤ t then kgrowC (t % gcBase) (t / gcBase - 1) k ks K
  else match spGet ks.tmps t with
  | .nils => K (if kempty ks t then { ks with tmps := spPut t (.arr (t, 0) k 0 0) ks.tmps, objs := soPut t [.arr k 0 []] ks.objs } else ks)
  | .cv v => notNil v (K ks)
  | _ => K ks
def kgrows {R : Type} : List (Nat × Nat) → KSt → (KSt → Option R) → Option R
  | [], ks, K => K ks
  | (t, k) :: l, ks, K => kgrow1 t k ks fun ks => kgrows l ks K
def kunnamed (ks : KSt) : List Nat :=
  let R := spNames ks.tmps ++ ks.keep.flatMap spNames ++ soNames ks.objs
  (ks.objs.filter fun p => !p.2.isEmpty && R.all fun nm => nm.1 != p.1).map (·.1)
def knorm {R : Type} (asg : List Nat) (grow : List (Nat × Nat)) (ks : KSt) (K : KSt → Option R) : Option R :=
  kgrows grow (asg.foldl (fun ks t => krehome1 t ks) ks) fun ks => K (kclean (kunnamed ks) ks)
def kdrop (k0 : KSt) (ks : KSt) : KSt :=
  let ks := { ks with tmps := spKeep (spHas k0.tmps) ks.tmps }
  kclean (kunnamed ks) ks
def ktidy (live : Option (List Nat)) (ks : KSt) : KSt :=
  match live with
  | none => ks
  | some l =>
    let ks := { ks with tmps := spKeep (fun i => l.contains i) ks.tmps }
    kclean (kunnamed ks) ks
def pureOp : ROp → Bool
  | .mov _ | .pick _ _ _ | .build _ _ | .nilck _ | .bin _ _ _ _ _ | .un _ _ | .conv _ _ | .toBytes _ | .ofBytes _ | .ofRune _ | .strId _ | .mkI _ _ | .lookup _ _ _ _ _ | .slice _ _ _ _ _ | .strSlice _ _ _
  | .fieldAddr _ _ | .field _ _ _ _ | .idxAddr _ _ _ | .idxAddrA _ _ _ _ | .strIdx _ _ | .extract _ _ | .len _ _ | .minmax _ _ | .tassert _ _ _ _ | .load _ _ _ => true
  | _ => false
def condSlot (ops : List ROper) (lv : Option (List Nat)) : Option Nat :=
  if (ops.any fun o => o.guard.isSome) && (ops.all fun o => pureOp o.op) then
    match lv with
    | some l => match l.filter fun t => (ops.filterMap (·.dst)).contains t with
      | [t] => some t
      | _ => none
    | none => none
  else none
def ksetPs : List Nat → List PV → Nat → Sp → Sp
  | p :: ps, vs, i, tm => ksetPs ps vs (i + 1) (spPut p (.cv (nth vs i)) tm)
  | [], _, _, tm => tm
def isNormal : Ex → Bool
  | .normal => true
  | _ => false
def exitOf : Ex → Option Ex
  | .normal => none
  | x => some x
def exitsOf : RCode → List Nat
  | .seq a b => exitsOf a ++ exitsOf b
  | .cond _ a b => exitsOf a ++ exitsOf b
  | .block id b => (exitsOf b).filter fun i => i != id
  | .loop _ _ b => exitsOf b
  | .rangeFunc _ _ _ b => exitsOf b
  | .scope b => exitsOf b
  | .exit id => [id]
  | _ => []
def konEx {R : Type} : List Nat → Option Ex → (Nat → Option R) → Option R
  | [], _, _ => none
  | id :: l, p, K => iteB (isExitE p id) (K id) (konEx l p K)
abbrev KRec (E : Type) := List PV × Option Ex × E
def onRound {E : Type} (dep : Nat) (h : Handler E) (body : List PV → List PV → E → Option (Bool × KRec E)) : Handler (KRec E) := fun l args r =>
  if l = dep then
    match r with
    | (vs, none, e) => body vs args e
    | _ => none
  else
    match r with
    | (vs, p, e) => match h l args e with
      | some (b, e) => some (b, (vs, p, e))
      | none => none
def onLoop {E R : Type} (asg : List Nat) (grow : List (Nat × Nat)) (k0 : KSt) (K : Ex → KSt → E → Option R) (x : Ex) (ks : KSt) (e : E) : Option (Sum (List PV × E) R) :=
  match x with
  | .normal => knorm asg grow (kdrop k0 ks) fun k1 => force k1 fun k1 => if fitSt k0 k1 then some (.inl (leavesSt k0 k1, e)) else none
  | x => bindO (K x ks e) fun r => some (.inr r)
noncomputable def evalK (cfg : KCfg) : RCode → {E R : Type} → Handler E → Nat → KSt → E → (Ex → KSt → E → Option R) → Option R
  | .skip, _, _, _, _, ks, e, K => K .normal ks e
  | .region ops none lv, E, _, h, _, ks, e, K =>
    force (kclean (dsts ops) ks) fun ks =>
    match condSlot ops lv with
    | some t => bindO (kruns (E := E) cfg h ops ops ks e fun ks _ => (spGet ks.tmps t).cl) fun z => force (ktidy lv { ks with tmps := spPut t (.cv z) ks.tmps }) fun ks => K .normal ks e
    | none => kruns cfg h ops ops ks e fun ks e => force (ktidy lv ks) fun ks => K .normal ks e
  | .region ops (some bef) lv, _, _, h, _, ks, e, K => force (kclean (dsts ops) ks) fun ks => krunsD cfg h ops bef [] ks e fun ks e => force (ktidy lv ks) fun ks => K .normal ks e
  | .seq a b, _, _, h, dep, ks, e, K => evalK cfg a h dep ks e fun x ks e => match x with
    | .normal => evalK cfg b h dep ks e K
    | x => K x ks e
  | .cond c a b, _, _, h, dep, ks, e, K => match c.kv ks.tmps with
    | .lit true => evalK cfg a h dep ks e K
    | .lit false => evalK cfg b h dep ks e K
    | .cv v => iteP v (evalK cfg a h dep ks e K) (evalK cfg b h dep ks e K)
    | _ => none
  | .block id body, _, _, h, dep, ks, e, K => evalK cfg body h dep ks e fun x ks e => match x with
    | .exit id' => if id' = id then K .normal ks e else K (.exit id') ks e
    | x => K x ks e
  | .loop asg grow body, E, R, h, dep, ks, e, K => knorm asg grow ks fun k0 => force k0 fun k0 => chkO (noUndef (leavesSp k0.tmps k0.tmps)) <| if fitSt k0 k0 = false then none else
    loopL (σ := List PV × E) (ρ := R) (fun s => force (fillSt k0 s.1) fun ks => evalK cfg body h dep ks s.2 (onLoop asg grow k0 K)) (leavesSt k0 k0, e)
  | .rangeFunc f ps assign body, E, R, h, dep, ks, e, K =>
    match (f.kv ks.tmps).cl with
    | some fv => if (ps.all fun p => Nat.blt p ks.nt) && fitSt ks ks && okX f then bindO (rangeO (E := KRec E) cfg.b (onRound dep h fun vs args e =>
        chkO (okArgs args ps.length) (
          force (fillSt ks vs) fun k0 =>
          force { k0 with tmps := ksetPs ps args 0 k0.tmps, keep := k0.tmps :: k0.keep } fun k1 =>
          evalK cfg assign (R := Bool × KRec E) h (dep + 1) k1 e fun x k1 e => match x with
            | .normal => evalK cfg body h (dep + 1) k1 e fun x k2 e =>
              match k2.keep with
              | [] => none
              | sp :: kp =>
                force { k2 with tmps := sp, keep := kp } fun k3 =>
                if fitSt ks k3 then some (isNormal x, (leavesSt ks k3, exitOf x, e)) else none
            | _ => none)) dep fv (leavesSt ks ks, none, e)) fun r => force (fillSt ks r.1) fun k1 =>
        iteB (isNoneE r.2.1) (K .normal k1 r.2.2) (iteB (isRetE r.2.1) (K .ret k1 r.2.2)
          (konEx (exitsOf body) r.2.1 fun id => K (.exit id) k1 r.2.2)) else none
    | none => none
  | .exit id, _, _, _, _, ks, e, K => K (.exit id) ks e
  | .scope b, _, _, h, dep, ks, e, K => evalK cfg b h dep ks e fun x ks e => match x with
    | .exit id => if id < gbase then K (.exit id) ks e else none
    | x => K x ks e
  | .ret, _, _, _, _, ks, e, K => K .ret ks e
  | .norm grow, _, _, _, _, ks, e, K => knorm [] grow ks fun k0 => force k0 fun k0 => K .normal k0 e
  | .bad, _, _, _, _, _, _, _ => none
def kresV {R : Type} (ks : KSt) (r : RRes) (K : KV → Option R) : Option R :=
  match r with
  | .tmp t => K (spGet ks.tmps t)
  | .cell t n ag => match spGet ks.tmps t with
    | .ref nm o => match klook ks.objs nm with
      | some (.cells _ cs) => if ag then (if o + n ≤ cs.length then K (.agg ((cs.drop o).take n)) else none) else (match cs[o]? with | some c => K c | none => none)
      | some (.whole _ v) => bindO (selO v o n ag) fun z => K (.cv z)
      | _ => none
    | _ => none
def kresVs {R : Type} (ks : KSt) : List RRes → (List KV → Option R) → Option R
  | [], K => K []
  | r :: rs, K => kresV ks r fun v => kresVs ks rs fun vs => K (v :: vs)
def koneOf : List KV → KV
  | [v] => v
  | vs => .tup vs
def isZero : Nat → Bool
  | 0 => true
  | _ => false
def ktops : KV → List Nm
  | .arr nm _ o _ => if isZero o then [nm] else []
  | .wit nm => [nm]
  | .agg cs => cs.flatMap fun | .arr nm _ o _ => if isZero o then [nm] else [] | .wit nm => [nm] | _ => []
  | .tup xs => xs.flatMap fun | .arr nm _ o _ => if isZero o then [nm] else [] | .wit nm => [nm] | .agg cs => cs.flatMap (fun | .arr nm _ o _ => if isZero o then [nm] else [] | .wit nm => [nm] | _ => []) | _ => []
  | _ => []
mutual
def ownN : RSh → KV → List Nm
  | .own _, x => match x with | .arr nm _ _ _ => [nm] | _ => []
  | .opt _, x => match x with | .arr nm _ _ _ => [nm] | _ => []
  | .tup l, x => match x with | .tup xs => ownNL l xs | _ => []
  | .agg l, x => match x with | .agg xs => ownNL l xs | _ => []
  | .cl, _ => []
def ownNL : List RSh → List KV → List Nm
  | s :: l, x :: xs => ownN s x ++ ownNL l xs
  | _, _ => []
end
mutual
def khand {R : Type} (σ : Nm → Option KOb) (S : List Nm) : RSh → KV → (PV → Option R) → Option R
  | .cl, x, K => match x.cl with
    | some u => K u
    | none => match x with
      | .tup xs => match clL xs with
        | some us => K (.tup us)
        | none => if x.names.all fun nm => !S.contains nm then chkO (okU (x.close (kclosed σ deepest))) (K (x.close (kclosed σ deepest))) else none
      | _ => if x.names.all fun nm => !S.contains nm then chkO (okU (x.close (kclosed σ deepest))) (K (x.close (kclosed σ deepest))) else none
  | .own k, x, K => match x with
    | .arr nm k' o n => match σ nm with
      | some (.arr k'' kt xs) => if k = k' ∧ k = k'' ∧ isZero o = true then chkO (eqN n (lenL xs)) (K (.sl k xs false)) else none
      | _ => none
    | _ => none
  | .opt k, x, K => match x with
    | .arr nm k' o n => match σ nm with
      | some (.arr k'' kt xs) => if k = k' ∧ k = k'' ∧ isZero o = true then chkO (eqN n (lenL xs)) (K (.sl k xs false)) else none
      | _ => none
    | .nils => K .nilS
    | .cv v => nilO v (K .nilS)
    | _ => none
  | .tup l, x, K => match x with
    | .tup xs => khandL σ S l xs fun us => K (.tup us)
    | _ => none
  | .agg l, x, K => match x with
    | .agg xs => khandL σ S l xs fun us => K (.agg us)
    | _ => none
def khandL {R : Type} (σ : Nm → Option KOb) (S : List Nm) : List RSh → List KV → (List PV → Option R) → Option R
  | [], [], K => K []
  | s :: l, x :: xs, K => khand σ S s x fun u => khandL σ S l xs fun us => K (u :: us)
  | _, _, _ => none
end
def ktopsOf (shut : Bool) (v : KV) : List Nm :=
  match shut with
  | true => []
  | false => ktops v
def khandOver {R : Type} (ks : KSt) (shut : Bool) (sh : RSh) (v : KV) (K : PV → Option R) : Option R :=
  let σ := klook ks.objs
  let S := ktopsOf shut v
  let R := kreach σ deepest (v.names.filter fun nm => !S.contains nm)
  if S = ownN sh v ∧ nodupN S = true ∧ (S.all (fun nm => !R.contains nm)) = true ∧ kshut σ R = true then khand σ S sh v K else none
noncomputable def runK (cfg : KCfg) (fn : RFn) (sh : RSh) {E : Type} (h : Handler E) (dep : Nat) (args : List KV) (e : E) : Option (PV × E) :=
  force { nt := fn.nt, tmps := args.zipIdx.map fun p => (p.2, p.1), objs := [], keep := [] } fun ks => evalK cfg fn.code h dep ks e fun x ks e => match x with
    | .exit _ => none
    | _ => kresVs ks fn.res fun vs => khandOver ks fn.shut sh (koneOf vs) fun v => some (v, e)
def kwitNm : KV → Option Nm
  | .wit nm => some nm
  | .arr nm k o n => if k = 1 ∧ o = 0 ∧ n = 0 then some nm else none
  | _ => none
def kioOb (σ : Nm → Option KOb) (B : List (Nm × Nm)) (nm : Nm) : KOb :=
  (((σ nm).getD kdead).off fun m => !(B.map (·.1)).contains m).ren fun m => (B.lookup m).getD m
def kioNews (σ : Nm → Option KOb) (A : List (Nm × Nm)) (v : KV) : List Nm :=
  dedupN ((kreach σ deepest (v.names ++ A.flatMap fun p => ((σ p.1).map KOb.names).getD [])).filter fun m => !(A.map (·.1)).contains m)
def kioPairs (k : Nat) (sp : Sp) : List (Nm × Nm) := (canonR k).zipIdx.map fun p => ((kwitNm (spGet sp p.2)).getD (0, p.2), p.1)
def kioGone (k : Nat) (sp : Sp) : List Nm := ((canonR k).zipIdx.filter fun p => (kwitNm (spGet sp p.2)).isNone).map (·.1)
def leavesObN (p x : KOb) : List PV :=
  match x with
  | .whole _ v => [.agg (cellsP v)]
  | x => leavesOb p x
def leavesObNL : List KOb → List KOb → List PV
  | x :: xs, y :: ys => leavesObN x y ++ leavesObNL xs ys
  | _, _ => []
def kioEnd (P : IoSh) (ks : KSt) (v : KV) : Option (List PV) :=
  match ks.keep with
  | [sp] =>
    let A := kioPairs P.ins.length sp
    let N := kioNews (klook ks.objs) A v
    let B := A ++ N.zipIdx.map fun p => (p.1, (1, 0 + p.2))
    let u := (v.off fun m => !(B.map (·.1)).contains m).ren fun m => (B.lookup m).getD m
    let os := A.map fun p => kioOb (klook ks.objs) B p.1
    let ns := N.map (kioOb (klook ks.objs) B)
    if nodupN (B.map (·.1)) = true ∧ kioGone P.ins.length sp = P.gone.map (fun j => (0, j)) ∧ (fitV P.res u && (fitObL P.outs os && fitObL P.news ns)) = true then
      some (leaves P.res u ++ (leavesObNL P.outs os ++ leavesObNL P.news ns))
    else none
  | _ => none
noncomputable def runIoK (cfg : KCfg) (fn : RFn) (P : IoSh) (vs : List PV) : Option (List PV) :=
  let a := fillL P.args vs 0
  let b := fillObL P.ins vs a.2
  force { nt := fn.nt, tmps := a.1.zipIdx.map fun p => (p.2, p.1), objs := [(0, b.1)], keep := [(List.range P.ins.length).map fun j => (j, .wit (0, j))] } fun ks => evalK (E := Unit) cfg fn.code noHandler 0 ks () fun x ks _ => match x with
    | .exit _ => none
    | _ => kresVs ks fn.res fun vs => kioEnd P ks (koneOf vs)
end Go.Ab


namespace Go.Ab
theorem okVL_iff {xs : List PV} : okVL xs = true ↔ ∀ x ∈ xs, okV x = true := by
  induction xs with
  | nil => simp [okVL]
  | cons x xs ih => simp [okVL, ih]
mutual
theorem okV_iff : ∀ {v : PV}, okV v = true → v.names = [] ∧ v.hasY = false
  | .undef, _ | .bool _, _ | .int _ _, _ | .str _, _ | .nilS, _ | .nilP, _ | .nilF, _ | .nilI, _ | .nilM, _ | .glob _ _, _ => by simp [PV.names, PV.hasY]
  | .sl _ xs _, h => by simp only [okV] at h; simp [PV.names, PV.hasY, (okVL_names h).2]
  | .ptr cs _, h => by simp only [okV] at h; simp [PV.names, PV.hasY, (okVL_names h).2]
  | .imap es, h => by simp only [okV] at h; simp [PV.names, PV.hasY, (okVL_names h).2]
  | .agg cs, h => by simp only [okV] at h; simp [PV.names, PV.hasY, okVL_names h]
  | .fn _ cap, h => by simp only [okV] at h; simp [PV.names, PV.hasY, okVL_names h]
  | .tup xs, h => by simp only [okV] at h; simp [PV.names, PV.hasY, okVL_names h]
  | .iface _ x, h => by simp only [okV] at h; simp [PV.names, PV.hasY, okV_iff h]
  | .yld _, h | .ref _ _, h | .aref _ _ _ _, h | .arr _ _ _ _, h | .mp _, h | .it _, h => by simp [okV] at h
theorem okVL_names : ∀ {xs : List PV}, okVL xs = true → namesL xs = [] ∧ hasYL xs = false
  | [], _ => by simp [namesL, hasYL]
  | x :: xs, h => by
    simp only [okVL, Bool.and_eq_true] at h
    simp [namesL, hasYL, okV_iff h.1, okVL_names h.2]
end
theorem sub_none {v : PV} (h : v.names = []) (f : Nm → Option (Option Ob)) : v.sub f = v := by
  rw [PV.sub_congr (g := fun _ => none) v (by rw [h]; simp)]
  exact sub_id v
where
  sub_id : ∀ (x : PV), x.sub (fun _ => none) = x
    | .undef | .bool _ | .int _ _ | .str _ | .nilS | .nilP | .nilF | .nilI | .nilM | .sl _ _ _ | .ptr _ _ | .yld _ | .imap _ | .glob _ _ | .ref _ _ | .aref _ _ _ _ | .arr _ _ _ _ | .mp _ | .it _ => by simp [PV.sub]
    | .agg cs => by simp [PV.sub, subL_id cs]
    | .iface t x => by simp [PV.sub, sub_id x]
    | .fn g cap => by simp [PV.sub, subL_id cap]
    | .tup xs => by simp [PV.sub, subL_id xs]
  subL_id : ∀ (xs : List PV), subL (fun _ => none) xs = xs
    | [] => rfl
    | x :: xs => by simp [subL, sub_id x, subL_id xs]
mutual
theorem ren_none : ∀ {v : PV}, v.names = [] → ∀ (f : Nm → Nm), v.ren f = v
  | .undef, _, _ | .bool _, _, _ | .int _ _, _, _ | .str _, _, _ | .nilS, _, _ | .nilP, _, _ | .nilF, _, _ | .nilI, _, _ | .nilM, _, _ | .sl _ _ _, _, _ | .ptr _ _, _, _ | .yld _, _, _ | .imap _, _, _ | .glob _ _, _, _ => by simp [PV.ren]
  | .agg cs, h, f => by simp [PV.names] at h; simp [PV.ren, renL_none h f]
  | .iface t x, h, f => by simp [PV.names] at h; simp [PV.ren, ren_none h f]
  | .fn g cap, h, f => by simp [PV.names] at h; simp [PV.ren, renL_none h f]
  | .tup xs, h, f => by simp [PV.names] at h; simp [PV.ren, renL_none h f]
  | .ref _ _, h, _ | .aref _ _ _ _, h, _ | .arr _ _ _ _, h, _ | .mp _, h, _ | .it _, h, _ => by simp [PV.names] at h
theorem renL_none : ∀ {xs : List PV}, namesL xs = [] → ∀ (f : Nm → Nm), renL f xs = xs
  | [], _, _ => rfl
  | x :: xs, h, f => by simp [namesL] at h; simp [renL, ren_none h.1 f, renL_none h.2 f]
end
mutual
def KV.ok : KV → Prop
  | .cv v => okV v = true
  | .agg cs => okKL cs
  | .iface _ x => x.ok
  | .fn _ cap => okKL cap
  | .tup xs => okKL xs
  | .un | .sk | .lit _ | .nils | .yld _ | .ref _ _ | .aref _ _ _ _ | .arr _ _ _ _ | .mp _ | .it _ | .wit _ => True
def okKL : List KV → Prop
  | [] => True
  | x :: xs => x.ok ∧ okKL xs
end
theorem okKL_mem {xs : List KV} : okKL xs ↔ ∀ x ∈ xs, x.ok := by
  induction xs with
  | nil => simp [okKL]
  | cons x xs ih => simp [okKL, ih]
theorem pvL_map (xs : List KV) : pvL xs = xs.map KV.pv := by
  induction xs with
  | nil => rfl
  | cons x xs ih => simp [pvL, ih]
mutual
theorem KV.pv_names : ∀ {x : KV}, x.ok → x.pv.names = x.names
  | .un, _ | .sk, _ | .lit _, _ | .nils, _ | .yld _, _ | .ref _ _, _ | .aref _ _ _ _, _ | .arr _ _ _ _, _ | .mp _, _ | .it _, _ | .wit _, _ => by simp [KV.pv, PV.names, KV.names, namesL]
  | .cv v, h => by simp [KV.pv, KV.names, (okV_iff h).1]
  | .agg cs, h => by simp [KV.pv, PV.names, KV.names, pvL_names h]
  | .iface t x, h => by simp [KV.pv, PV.names, KV.names, KV.pv_names (x := x) h]
  | .fn f cap, h => by simp [KV.pv, PV.names, KV.names, pvL_names h]
  | .tup xs, h => by simp [KV.pv, PV.names, KV.names, pvL_names h]
theorem pvL_names : ∀ {xs : List KV}, okKL xs → namesL (pvL xs) = knamesL xs
  | [], _ => rfl
  | x :: xs, h => by simp [pvL, namesL, knamesL, KV.pv_names h.1, pvL_names h.2]
end
mutual
theorem KV.pv_hasY : ∀ {x : KV}, x.ok → x.pv.hasY = x.hasY
  | .un, _ | .sk, _ | .lit _, _ | .nils, _ | .yld _, _ | .ref _ _, _ | .aref _ _ _ _, _ | .arr _ _ _ _, _ | .mp _, _ | .it _, _ | .wit _, _ => by simp [KV.pv, PV.hasY, KV.hasY, hasYL]
  | .cv v, h => by simp [KV.pv, KV.hasY, (okV_iff h).2]
  | .agg cs, h => by simp [KV.pv, PV.hasY, KV.hasY, pvL_hasY h]
  | .iface t x, h => by simp [KV.pv, PV.hasY, KV.hasY, KV.pv_hasY (x := x) h]
  | .fn f cap, h => by simp [KV.pv, PV.hasY, KV.hasY, pvL_hasY h]
  | .tup xs, h => by simp [KV.pv, PV.hasY, KV.hasY, pvL_hasY h]
theorem pvL_hasY : ∀ {xs : List KV}, okKL xs → hasYL (pvL xs) = khasYL xs
  | [], _ => rfl
  | x :: xs, h => by simp [pvL, hasYL, khasYL, KV.pv_hasY h.1, pvL_hasY h.2]
end
mutual
theorem KV.cl_pv : ∀ {x : KV} {v : PV}, x.cl = some v → x.pv = v
  | .lit b, v, h => by simp [KV.cl] at h; simp [KV.pv, h]
  | .nils, v, h => by simp [KV.cl] at h; simp [KV.pv, h]
  | .cv u, v, h => by simp [KV.cl] at h; simp [KV.pv, h]
  | .agg cs, v, h => by
    simp only [KV.cl, Option.map_eq_some_iff] at h
    obtain ⟨vs, hv, rfl⟩ := h
    simp [KV.pv, clL_pv hv]
  | .iface t x, v, h => by
    simp only [KV.cl, Option.map_eq_some_iff] at h
    obtain ⟨u, hv, rfl⟩ := h
    simp [KV.pv, KV.cl_pv hv]
  | .fn f cap, v, h => by
    simp only [KV.cl, Option.map_eq_some_iff] at h
    obtain ⟨vs, hv, rfl⟩ := h
    simp [KV.pv, clL_pv hv]
  | .un, v, h | .sk, v, h | .yld _, v, h | .ref _ _, v, h | .aref _ _ _ _, v, h | .arr _ _ _ _, v, h | .mp _, v, h | .it _, v, h | .wit _, v, h | .tup _, v, h => by simp [KV.cl] at h
theorem clL_pv : ∀ {xs : List KV} {vs : List PV}, clL xs = some vs → pvL xs = vs
  | [], vs, h => by simp [clL] at h; simp [pvL, h]
  | x :: xs, vs, h => by
    simp only [clL] at h
    split at h
    · rename_i v us h1 h2
      cases h
      simp [pvL, KV.cl_pv h1, clL_pv h2]
    · cases h
end
mutual
theorem KV.cl_ok : ∀ {x : KV} {v : PV}, x.ok → x.cl = some v → okV v = true
  | .lit b, v, _, h => by simp [KV.cl] at h; subst h; rfl
  | .nils, v, _, h => by simp [KV.cl] at h; subst h; rfl
  | .cv u, v, hx, h => by simp [KV.cl] at h; subst h; exact hx
  | .agg cs, v, hx, h => by
    simp only [KV.cl, Option.map_eq_some_iff] at h
    obtain ⟨vs, hv, rfl⟩ := h
    simpa [okV] using clL_ok (xs := cs) hx hv
  | .iface t x, v, hx, h => by
    simp only [KV.cl, Option.map_eq_some_iff] at h
    obtain ⟨u, hv, rfl⟩ := h
    simpa [okV] using KV.cl_ok (x := x) hx hv
  | .fn f cap, v, hx, h => by
    simp only [KV.cl, Option.map_eq_some_iff] at h
    obtain ⟨vs, hv, rfl⟩ := h
    simpa [okV] using clL_ok (xs := cap) hx hv
  | .un, v, _, h | .sk, v, _, h | .yld _, v, _, h | .ref _ _, v, _, h | .aref _ _ _ _, v, _, h | .arr _ _ _ _, v, _, h | .mp _, v, _, h | .it _, v, _, h | .wit _, v, _, h | .tup _, v, _, h => by simp [KV.cl] at h
theorem clL_ok : ∀ {xs : List KV} {vs : List PV}, okKL xs → clL xs = some vs → okVL vs = true
  | [], vs, _, h => by simp [clL] at h; subst h; rfl
  | x :: xs, vs, hx, h => by
    simp only [clL] at h
    split at h
    · rename_i v us h1 h2
      cases h
      simp [okVL, KV.cl_ok hx.1 h1, clL_ok hx.2 h2]
    · cases h
end
def subOff (p : Nm → Bool) : Nm → Option (Option Ob) := fun m => if p m = true then some none else none
mutual
theorem KV.off_pv (p : Nm → Bool) : ∀ {x : KV}, x.ok → (x.off p).pv = x.pv.sub (subOff p)
  | .un, _ | .sk, _ | .lit _, _ | .nils, _ | .yld _, _ => by simp [KV.off, KV.pv, PV.sub, subL]
  | .cv v, h => by simp [KV.off, KV.pv, sub_none (okV_iff h).1]
  | .ref nm _, _ | .aref nm _ _ _, _ | .arr nm _ _ _, _ | .mp nm, _ | .it nm, _ | .wit nm, _ => by
    simp only [KV.off, KV.pv, PV.sub, subOff]
    cases hp : p nm <;> simp [KV.pv]
  | .agg cs, h => by simp [KV.off, KV.pv, PV.sub, offL_pv p h]
  | .iface t x, h => by simp [KV.off, KV.pv, PV.sub, KV.off_pv p (x := x) h]
  | .fn f cap, h => by simp [KV.off, KV.pv, PV.sub, offL_pv p h]
  | .tup xs, h => by simp [KV.off, KV.pv, PV.sub, offL_pv p h]
theorem offL_pv (p : Nm → Bool) : ∀ {xs : List KV}, okKL xs → pvL (offL p xs) = subL (subOff p) (pvL xs)
  | [], _ => rfl
  | x :: xs, h => by simp [offL, pvL, subL, KV.off_pv p h.1, offL_pv p h.2]
end
mutual
theorem KV.off_ok (p : Nm → Bool) : ∀ {x : KV}, x.ok → (x.off p).ok
  | .un, _ | .sk, _ | .lit _, _ | .nils, _ | .yld _, _ => by simp [KV.off, KV.ok]
  | .cv v, h => by simpa [KV.off, KV.ok] using h
  | .ref nm _, _ | .aref nm _ _ _, _ | .arr nm _ _ _, _ | .mp nm, _ | .it nm, _ | .wit nm, _ => by
    simp only [KV.off]
    cases hp : p nm <;> simp [KV.ok]
  | .agg cs, h => by simpa [KV.off, KV.ok] using offL_ok p h
  | .iface t x, h => by simpa [KV.off, KV.ok] using KV.off_ok p (x := x) h
  | .fn f cap, h => by simpa [KV.off, KV.ok] using offL_ok p h
  | .tup xs, h => by simpa [KV.off, KV.ok] using offL_ok p h
theorem offL_ok (p : Nm → Bool) : ∀ {xs : List KV}, okKL xs → okKL (offL p xs)
  | [], _ => trivial
  | x :: xs, h => ⟨KV.off_ok p h.1, offL_ok p h.2⟩
end
mutual
theorem KV.ren_pv (f : Nm → Nm) : ∀ {x : KV}, x.ok → (x.ren f).pv = x.pv.ren f
  | .un, _ | .sk, _ | .lit _, _ | .nils, _ | .yld _, _ | .ref _ _, _ | .aref _ _ _ _, _ | .arr _ _ _ _, _ | .mp _, _ | .it _, _ | .wit _, _ => by simp [KV.ren, KV.pv, PV.ren, renL]
  | .cv v, h => by simp [KV.ren, KV.pv, ren_none (okV_iff h).1]
  | .agg cs, h => by simp [KV.ren, KV.pv, PV.ren, renL_pv f h]
  | .iface t x, h => by simp [KV.ren, KV.pv, PV.ren, KV.ren_pv f (x := x) h]
  | .fn g cap, h => by simp [KV.ren, KV.pv, PV.ren, renL_pv f h]
  | .tup xs, h => by simp [KV.ren, KV.pv, PV.ren, renL_pv f h]
theorem renL_pv (f : Nm → Nm) : ∀ {xs : List KV}, okKL xs → pvL (krenL f xs) = renL f (pvL xs)
  | [], _ => rfl
  | x :: xs, h => by simp [krenL, pvL, renL, KV.ren_pv f h.1, renL_pv f h.2]
end
mutual
theorem KV.ren_ok (f : Nm → Nm) : ∀ {x : KV}, x.ok → (x.ren f).ok
  | .un, _ | .sk, _ | .lit _, _ | .nils, _ | .yld _, _ | .ref _ _, _ | .aref _ _ _ _, _ | .arr _ _ _ _, _ | .mp _, _ | .it _, _ | .wit _, _ => by simp [KV.ren, KV.ok]
  | .cv v, h => by simpa [KV.ren, KV.ok] using h
  | .agg cs, h => by simpa [KV.ren, KV.ok] using krenL_ok f h
  | .iface t x, h => by simpa [KV.ren, KV.ok] using KV.ren_ok f (x := x) h
  | .fn g cap, h => by simpa [KV.ren, KV.ok] using krenL_ok f h
  | .tup xs, h => by simpa [KV.ren, KV.ok] using krenL_ok f h
theorem krenL_ok (f : Nm → Nm) : ∀ {xs : List KV}, okKL xs → okKL (krenL f xs)
  | [], _ => trivial
  | x :: xs, h => ⟨KV.ren_ok f h.1, krenL_ok f h.2⟩
end
def subCl (g : Nm → Option Ob) : Nm → Option (Option Ob) := fun m => some (g m)
mutual
theorem KV.close_pv (g : Nm → Option Ob) : ∀ {x : KV}, x.ok → x.close g = x.pv.sub (subCl g)
  | .un, _ | .sk, _ | .lit _, _ | .nils, _ | .yld _, _ => by simp [KV.close, KV.pv, PV.sub, subL]
  | .cv v, h => by simp [KV.close, KV.pv, sub_none (okV_iff h).1]
  | .ref nm o, _ => by
    simp only [KV.close, KV.pv, PV.sub, subCl]
    cases g nm with
    | none => rfl
    | some ob => cases ob <;> simp [ptrO]
  | .aref nm k i o, _ => by
    simp only [KV.close, KV.pv, PV.sub, subCl]
    cases g nm with
    | none => rfl
    | some ob =>
      cases ob with
      | arr k' kt xs =>
        simp only [arefO]
        by_cases hk : k = k'
        · simp only [hk, if_true]; cases xs[i]? <;> rfl
        · simp [hk]
      | _ => rfl
  | .arr nm k o n, _ => by
    simp only [KV.close, KV.pv, PV.sub, subCl]
    cases g nm with
    | none => rfl
    | some ob => cases ob <;> simp [slO]
  | .mp nm, _ => by
    simp only [KV.close, KV.pv, PV.sub, subCl]
    cases g nm with
    | none => rfl
    | some ob => cases ob <;> rfl
  | .it nm, _ => by simp [KV.close, KV.pv, PV.sub, subCl]
  | .wit nm, _ => by
    simp only [KV.close, KV.pv, PV.sub, subCl]
    cases g nm with
    | none => rfl
    | some ob => cases ob <;> simp [slO]
  | .agg cs, h => by simp [KV.close, KV.pv, PV.sub, closeL_pv g h]
  | .iface t x, h => by simp [KV.close, KV.pv, PV.sub, KV.close_pv g (x := x) h]
  | .fn f cap, h => by simp [KV.close, KV.pv, PV.sub, closeL_pv g h]
  | .tup xs, h => by simp [KV.close, KV.pv, PV.sub, closeL_pv g h]
theorem closeL_pv (g : Nm → Option Ob) : ∀ {xs : List KV}, okKL xs → closeL g xs = subL (subCl g) (pvL xs)
  | [], _ => rfl
  | x :: xs, h => by simp [closeL, pvL, subL, KV.close_pv g h.1, closeL_pv g h.2]
end
def subFrz (p : Nm → Bool) (g : Nm → Option Ob) : Nm → Option (Option Ob) := fun m => if p m = true then some (g m) else none
mutual
theorem KV.frz_pv (p : Nm → Bool) (g : Nm → Option Ob) : ∀ {x : KV}, x.ok → (x.frz p g).pv = x.pv.sub (subFrz p g)
  | .un, _ | .sk, _ | .lit _, _ | .nils, _ | .yld _, _ => by simp [KV.frz, KV.pv, PV.sub, subL]
  | .cv v, h => by simp [KV.frz, KV.pv, sub_none (okV_iff h).1]
  | .ref nm o, _ => by
    cases hp : p nm with
    | false => simp [KV.frz, hp, KV.pv, PV.sub, subFrz]
    | true =>
      have := KV.close_pv g (x := .ref nm o) trivial
      simp only [KV.frz, hp, if_true, KV.pv]; rw [this]; simp [KV.pv, PV.sub, subFrz, subCl, hp]
  | .aref nm k i o, _ => by
    cases hp : p nm with
    | false => simp [KV.frz, hp, KV.pv, PV.sub, subFrz]
    | true =>
      have := KV.close_pv g (x := .aref nm k i o) trivial
      simp only [KV.frz, hp, if_true, KV.pv]; rw [this]; simp [KV.pv, PV.sub, subFrz, subCl, hp]
  | .arr nm k o n, _ => by
    cases hp : p nm with
    | false => simp [KV.frz, hp, KV.pv, PV.sub, subFrz]
    | true =>
      have := KV.close_pv g (x := .arr nm k o n) trivial
      simp only [KV.frz, hp, if_true, KV.pv]; rw [this]; simp [KV.pv, PV.sub, subFrz, subCl, hp]
  | .mp nm, _ => by
    cases hp : p nm with
    | false => simp [KV.frz, hp, KV.pv, PV.sub, subFrz]
    | true =>
      have := KV.close_pv g (x := .mp nm) trivial
      simp only [KV.frz, hp, if_true, KV.pv]; rw [this]; simp [KV.pv, PV.sub, subFrz, subCl, hp]
  | .it nm, _ => by
    cases hp : p nm with
    | false => simp [KV.frz, hp, KV.pv, PV.sub, subFrz]
    | true => simp [KV.frz, hp, KV.pv, PV.sub, subFrz]
  | .wit nm, _ => by
    cases hp : p nm with
    | false => simp [KV.frz, hp, KV.pv, PV.sub, subFrz]
    | true =>
      have := KV.close_pv g (x := .wit nm) trivial
      simp only [KV.frz, hp, if_true, KV.pv]; rw [this]; simp [KV.pv, PV.sub, subFrz, subCl, hp]
  | .agg cs, h => by simp [KV.frz, KV.pv, PV.sub, frzL_pv p g h]
  | .iface t x, h => by simp [KV.frz, KV.pv, PV.sub, KV.frz_pv p g (x := x) h]
  | .fn f cap, h => by simp [KV.frz, KV.pv, PV.sub, frzL_pv p g h]
  | .tup xs, h => by simp [KV.frz, KV.pv, PV.sub, frzL_pv p g h]
theorem frzL_pv (p : Nm → Bool) (g : Nm → Option Ob) : ∀ {xs : List KV}, okKL xs → pvL (frzL p g xs) = subL (subFrz p g) (pvL xs)
  | [], _ => rfl
  | x :: xs, h => by simp [frzL, pvL, subL, KV.frz_pv p g h.1, frzL_pv p g h.2]
end
def Ob.shut (o : Ob) : Prop :=
  match o with
  | .cells _ cs => okVL cs = true
  | .arr _ _ xs => okVL xs = true
  | .map es => okVL es = true
  | .siter _ _ => True
theorem okV_cells {v : PV} (h : okV v = true) : okVL v.cells = true := by
  cases v <;> simp_all [PV.cells, okVL, okV]
theorem okVL_of {xs ys : List PV} (h : okVL xs = true) (hs : ∀ y ∈ ys, y ∈ xs) : okVL ys = true := okVL_iff.2 fun y hy => okVL_iff.1 h y (hs y hy)
theorem okVL_take {xs : List PV} (h : okVL xs = true) (n : Nat) : okVL (xs.take n) = true := okVL_of h fun _ hy => List.mem_of_mem_take hy
theorem okVL_drop {xs : List PV} (h : okVL xs = true) (n : Nat) : okVL (xs.drop n) = true := okVL_of h fun _ hy => List.mem_of_mem_drop hy
theorem okVL_append {xs ys : List PV} (h : okVL xs = true) (h' : okVL ys = true) : okVL (xs ++ ys) = true :=
  okVL_iff.2 fun y hy => (List.mem_append.1 hy).elim (okVL_iff.1 h y) (okVL_iff.1 h' y)
theorem okVL_get {xs : List PV} (h : okVL xs = true) {i : Nat} {x : PV} (hx : xs[i]? = some x) : okV x = true := okVL_iff.1 h x (List.mem_of_getElem? hx)
theorem okVL_set {xs : List PV} (h : okVL xs = true) (i : Nat) {x : PV} (hx : okV x = true) : okVL (xs.set i x) = true :=
  okVL_iff.2 fun y hy => (List.mem_or_eq_of_mem_set hy).elim (okVL_iff.1 h y) fun e => e ▸ hx
mutual
theorem KV.close_ok {g : Nm → Option Ob} (hg : ∀ nm ob, g nm = some ob → ob.shut) : ∀ {x : KV}, x.ok → x.hasY = false → okV (x.close g) = true
  | .un, _, _ | .sk, _, _ | .lit _, _, _ | .nils, _, _ => by simp [KV.close, okV, okVL]
  | .yld _, _, h => by simp [KV.hasY] at h
  | .cv v, h, _ => by have : okV v = true := h; simpa [KV.close] using this
  | .ref nm o, _, _ => by
    simp only [KV.close]
    cases hn : g nm with
    | none => rfl
    | some ob =>
      cases ob with
      | cells ty cs =>
        have : okVL cs = true := hg _ _ hn
        simp only [ptrO]
        split
        · simpa [okV] using this
        · rfl
      | _ => rfl
  | .aref nm k i o, _, _ => by
    simp only [KV.close]
    cases hn : g nm with
    | none => rfl
    | some ob =>
      cases ob with
      | arr k' kt xs =>
        have : okVL xs = true := hg _ _ hn
        simp only [arefO]
        split
        · split
          · rename_i x hx
            split
            · simpa [okV] using okV_cells (okVL_get this hx)
            · rfl
          · rfl
        · rfl
      | _ => rfl
  | .arr nm k o n, _, _ => by
    simp only [KV.close]
    cases hn : g nm with
    | none => rfl
    | some ob =>
      cases ob with
      | arr k' kt xs =>
        have : okVL xs = true := hg _ _ hn
        simp only [slO]
        split
        · simpa [okV] using okVL_take (okVL_drop this o) n
        · rfl
      | _ => rfl
  | .mp nm, _, _ => by
    simp only [KV.close]
    cases hn : g nm with
    | none => rfl
    | some ob =>
      cases ob with
      | map es =>
        have : okVL es = true := hg _ _ hn
        simpa [okV] using this
      | _ => rfl
  | .it nm, _, _ => by simp [KV.close, okV, PV.names, PV.hasY]
  | .wit nm, _, _ => by
    simp only [KV.close]
    cases hn : g nm with
    | none => rfl
    | some ob =>
      cases ob with
      | arr k' kt xs =>
        have : okVL xs = true := hg _ _ hn
        simp only [slO]
        split
        · simpa [okV] using okVL_take (okVL_drop this 0) 0
        · rfl
      | _ => rfl
  | .agg cs, h, hy => by simpa [KV.close, okV] using closeL_ok hg (xs := cs) h (by simpa [KV.hasY] using hy)
  | .iface t x, h, hy => by simpa [KV.close, okV] using KV.close_ok hg (x := x) h (by simpa [KV.hasY] using hy)
  | .fn f cap, h, hy => by simpa [KV.close, okV] using closeL_ok hg (xs := cap) h (by simpa [KV.hasY] using hy)
  | .tup xs, h, hy => by simpa [KV.close, okV] using closeL_ok hg (xs := xs) h (by simpa [KV.hasY] using hy)
theorem closeL_ok {g : Nm → Option Ob} (hg : ∀ nm ob, g nm = some ob → ob.shut) : ∀ {xs : List KV}, okKL xs → khasYL xs = false → okVL (closeL g xs) = true
  | [], _, _ => rfl
  | x :: xs, h, hy => by
    simp only [khasYL, Bool.or_eq_false_iff] at hy
    simp [closeL, okVL, KV.close_ok hg h.1 hy.1, closeL_ok hg h.2 hy.2]
end
mutual
theorem KV.frz_ok {p : Nm → Bool} {g : Nm → Option Ob} (hg : ∀ nm ob, g nm = some ob → ob.shut) : ∀ {x : KV}, x.ok → (x.frz p g).ok
  | .un, _ | .sk, _ | .lit _, _ | .nils, _ | .yld _, _ => by simp [KV.frz, KV.ok]
  | .cv v, h => by simpa [KV.frz, KV.ok] using h
  | .ref nm o, _ => by
    simp only [KV.frz]; split
    · exact KV.close_ok hg (x := .ref nm o) trivial rfl
    · trivial
  | .aref nm k i o, _ => by
    simp only [KV.frz]; split
    · exact KV.close_ok hg (x := .aref nm k i o) trivial rfl
    · trivial
  | .arr nm k o n, _ => by
    simp only [KV.frz]; split
    · exact KV.close_ok hg (x := .arr nm k o n) trivial rfl
    · trivial
  | .mp nm, _ => by
    simp only [KV.frz]; split
    · exact KV.close_ok hg (x := .mp nm) trivial rfl
    · trivial
  | .it nm, _ => by
    simp only [KV.frz]; split <;> trivial
  | .wit nm, _ => by
    simp only [KV.frz]; split
    · exact KV.close_ok hg (x := .wit nm) trivial rfl
    · trivial
  | .agg cs, h => by simpa [KV.frz, KV.ok] using frzL_ok hg h
  | .iface t x, h => by simpa [KV.frz, KV.ok] using KV.frz_ok hg (x := x) h
  | .fn f cap, h => by simpa [KV.frz, KV.ok] using frzL_ok hg h
  | .tup xs, h => by simpa [KV.frz, KV.ok] using frzL_ok hg h
theorem frzL_ok {p : Nm → Bool} {g : Nm → Option Ob} (hg : ∀ nm ob, g nm = some ob → ob.shut) : ∀ {xs : List KV}, okKL xs → okKL (frzL p g xs)
  | [], _ => trivial
  | x :: xs, h => ⟨KV.frz_ok hg h.1, frzL_ok hg h.2⟩
end
end Go.Ab


namespace Go.Ab
theorem beq_true {i j : Nat} (h : Nat.beq i j = true) : i = j := Nat.eq_of_beq_eq_true h
theorem beq_false {i j : Nat} (h : Nat.beq i j = false) : i ≠ j := Nat.ne_of_beq_eq_false h
theorem spGet_put (i : Nat) (v : KV) : ∀ (l : Sp) (j : Nat), spGet (spPut i v l) j = if j = i then v else spGet l j := by
  intro l
  induction l with
  | nil =>
    intro j
    simp only [spPut, spGet]
    cases h : Nat.beq j i with
    | true => simp [beq_true h]
    | false => simp [beq_false h]
  | cons p l ih =>
    obtain ⟨k, u⟩ := p
    intro j
    simp only [spPut]
    cases h : Nat.beq i k with
    | true =>
      have := beq_true h; subst this
      simp only [spGet]
      cases h2 : Nat.beq j i with
      | true => simp [beq_true h2]
      | false => simp [beq_false h2]
    | false =>
      cases h3 : Nat.blt i k with
      | true =>
        simp only [spGet]
        cases h2 : Nat.beq j i with
        | true => simp [beq_true h2]
        | false => simp [beq_false h2]
      | false =>
        simp only [spGet]
        cases h2 : Nat.beq j k with
        | true =>
          have h4 := beq_true h2; have h5 := beq_false h
          subst h4
          simp [Ne.symm h5]
        | false => exact ih j
theorem spGet_out (i : Nat) : ∀ (l : Sp) (j : Nat), spGet (spOut i l) j = if j = i then .un else spGet l j := by
  intro l
  induction l with
  | nil => intro j; simp [spOut, spGet]
  | cons p l ih =>
    obtain ⟨k, u⟩ := p
    intro j
    simp only [spOut]
    cases h : Nat.beq i k with
    | true =>
      have := beq_true h; subst this
      simp only [spGet]
      rw [ih j]
      cases h2 : Nat.beq j i with
      | true => simp [beq_true h2]
      | false => simp [beq_false h2]
    | false =>
      simp only [spGet]
      cases h2 : Nat.beq j k with
      | true =>
        have h4 := beq_true h2; have h5 := beq_false h
        subst h4
        simp [Ne.symm h5]
      | false => exact ih j
theorem spGet_set (i : Nat) (v : KV) (l : Sp) (j : Nat) : spGet (spSet i v l) j = if j = i then v else spGet l j := by
  unfold spSet
  split
  · exact spGet_out i l j
  · exact spGet_put i v l j
theorem spGet_keep (p : Nat → Bool) : ∀ (l : Sp) (j : Nat), spGet (spKeep p l) j = if p j = true then spGet l j else .un := by
  intro l
  induction l with
  | nil => intro j; simp [spKeep, spGet]
  | cons q l ih =>
    obtain ⟨k, u⟩ := q
    intro j
    simp only [spKeep]
    cases hp : p k with
    | true =>
      simp only [spGet]
      cases h2 : Nat.beq j k with
      | true => have := beq_true h2; subst this; simp [hp]
      | false => exact ih j
    | false =>
      simp only [spGet]
      rw [ih j]
      cases h2 : Nat.beq j k with
      | true => have := beq_true h2; subst this; simp [hp]
      | false => rfl
def isUnK : KV → Bool
  | .un => true
  | _ => false
structure SpWf (nt : Nat) (l : Sp) : Prop where
  srt : (l.map (·.1)).Pairwise (· < ·)
  lt : ∀ p ∈ l, p.1 < nt
  ok : ∀ p ∈ l, p.2.ok
  nu : ∀ p ∈ l, isUnK p.2 = false
theorem SpWf.nil (nt : Nat) : SpWf nt [] := ⟨.nil, by simp, by simp, by simp⟩
theorem SpWf.tail {nt : Nat} {p : Nat × KV} {l : Sp} (h : SpWf nt (p :: l)) : SpWf nt l :=
  ⟨(List.pairwise_cons.1 h.srt).2, fun q hq => h.lt q (by simp [hq]), fun q hq => h.ok q (by simp [hq]), fun q hq => h.nu q (by simp [hq])⟩
theorem spGet_not {l : Sp} {i : Nat} (h : ∀ p ∈ l, p.1 ≠ i) : spGet l i = .un := by
  induction l with
  | nil => rfl
  | cons p l ih =>
    obtain ⟨k, u⟩ := p
    simp only [spGet]
    cases h2 : Nat.beq i k with
    | true => exact absurd (beq_true h2).symm (h (k, u) (by simp))
    | false => exact ih fun q hq => h q (by simp [hq])
theorem SpWf.get_mem {nt : Nat} {l : Sp} (h : SpWf nt l) {p : Nat × KV} (hp : p ∈ l) : spGet l p.1 = p.2 := by
  induction l with
  | nil => cases hp
  | cons q l ih =>
    obtain ⟨k, u⟩ := q
    simp only [spGet]
    rcases List.mem_cons.1 hp with rfl | hp'
    · simp
    · have h1 := (List.pairwise_cons.1 h.srt).1 p.1 (List.mem_map.2 ⟨p, hp', rfl⟩)
      simp only at h1
      cases h2 : Nat.beq p.1 k with
      | true => have := beq_true h2; omega
      | false => exact ih h.tail hp'
theorem spGet_mem {l : Sp} {i : Nat} (h : spGet l i ≠ .un) : (i, spGet l i) ∈ l := by
  induction l with
  | nil => exact absurd rfl h
  | cons p l ih =>
    obtain ⟨k, u⟩ := p
    simp only [spGet] at h ⊢
    cases h2 : Nat.beq i k with
    | true => have := beq_true h2; subst this; simp
    | false => rw [h2] at h; simp only at h ⊢; exact List.mem_cons_of_mem _ (ih h)
theorem un_cases (x : KV) : x = .un ∨ x ≠ .un := by cases x <;> simp
theorem SpWf.get_ok {nt : Nat} {l : Sp} (h : SpWf nt l) (i : Nat) : (spGet l i).ok := by
  rcases un_cases (spGet l i) with h1 | h1
  · rw [h1]; trivial
  · exact h.ok _ (spGet_mem h1)
theorem SpWf.get_ge {nt : Nat} {l : Sp} (h : SpWf nt l) {i : Nat} (hi : nt ≤ i) : spGet l i = .un := by
  rcases un_cases (spGet l i) with h1 | h1
  · exact h1
  · have := h.lt _ (spGet_mem h1); simp only at this; omega
theorem spPut_mem {i : Nat} {v : KV} : ∀ {l : Sp} {p : Nat × KV}, p ∈ spPut i v l → p = (i, v) ∨ p ∈ l := by
  intro l
  induction l with
  | nil => intro p hp; simp [spPut] at hp; exact .inl hp
  | cons q l ih =>
    obtain ⟨k, u⟩ := q
    intro p hp
    simp only [spPut] at hp
    cases h : Nat.beq i k with
    | true =>
      rw [h] at hp; simp only [List.mem_cons] at hp ⊢
      rcases hp with rfl | hp
      · exact .inl rfl
      · exact .inr (.inr hp)
    | false =>
      rw [h] at hp
      cases h3 : Nat.blt i k with
      | true =>
        rw [h3] at hp; simp only [List.mem_cons] at hp ⊢
        rcases hp with rfl | hp | hp
        · exact .inl rfl
        · exact .inr (.inl hp)
        · exact .inr (.inr hp)
      | false =>
        rw [h3] at hp; simp only [List.mem_cons] at hp ⊢
        rcases hp with rfl | hp
        · exact .inr (.inl rfl)
        · exact (ih hp).imp id .inr
theorem spPut_srt {i : Nat} {v : KV} : ∀ {l : Sp}, (l.map (·.1)).Pairwise (· < ·) → ((spPut i v l).map (·.1)).Pairwise (· < ·) := by
  intro l
  induction l with
  | nil => intro _; simp [spPut]
  | cons q l ih =>
    obtain ⟨k, u⟩ := q
    intro h
    have h1 := List.pairwise_cons.1 h
    simp only [spPut]
    cases h2 : Nat.beq i k with
    | true =>
      have := beq_true h2; subst this
      exact List.pairwise_cons.2 ⟨h1.1, h1.2⟩
    | false =>
      cases h3 : Nat.blt i k with
      | true =>
        have h4 : i < k := by simpa [Nat.blt_eq] using h3
        refine List.pairwise_cons.2 ⟨fun a ha => ?_, h⟩
        simp only [List.map_cons, List.mem_cons] at ha
        rcases ha with rfl | ha
        · exact h4
        · exact Nat.lt_trans h4 (h1.1 a ha)
      | false =>
        have h5 := beq_false h2
        have h4 : ¬ i < k := by intro h6; rw [show Nat.blt i k = true by simpa [Nat.blt_eq] using h6] at h3; cases h3
        refine List.pairwise_cons.2 ⟨fun a ha => ?_, ih h1.2⟩
        obtain ⟨p, hp, rfl⟩ := List.mem_map.1 ha
        rcases spPut_mem hp with rfl | hp
        · simp only; omega
        · exact h1.1 _ (List.mem_map.2 ⟨p, hp, rfl⟩)
theorem SpWf.put {nt : Nat} {l : Sp} (h : SpWf nt l) {i : Nat} (hi : i < nt) {v : KV} (hv : v.ok) (hu : isUnK v = false) : SpWf nt (spPut i v l) where
  srt := spPut_srt h.srt
  lt p hp := (spPut_mem hp).elim (fun e => by rw [e]; exact hi) (h.lt p)
  ok p hp := (spPut_mem hp).elim (fun e => by rw [e]; exact hv) (h.ok p)
  nu p hp := (spPut_mem hp).elim (fun e => by rw [e]; exact hu) (h.nu p)
theorem spOut_sub (i : Nat) : ∀ (l : Sp), (spOut i l).Sublist l := by
  intro l
  induction l with
  | nil => exact .slnil
  | cons q l ih =>
    obtain ⟨k, u⟩ := q
    simp only [spOut]
    cases Nat.beq i k with
    | true => exact .cons _ ih
    | false => exact .cons_cons _ ih
theorem spKeep_sub (p : Nat → Bool) : ∀ (l : Sp), (spKeep p l).Sublist l := by
  intro l
  induction l with
  | nil => exact .slnil
  | cons q l ih =>
    obtain ⟨k, u⟩ := q
    simp only [spKeep]
    cases p k with
    | true => exact .cons_cons _ ih
    | false => exact .cons _ ih
theorem SpWf.sub {nt : Nat} {l l' : Sp} (h : SpWf nt l) (hs : l'.Sublist l) : SpWf nt l' :=
  ⟨h.srt.sublist (hs.map _), fun p hp => h.lt p (hs.subset hp), fun p hp => h.ok p (hs.subset hp), fun p hp => h.nu p (hs.subset hp)⟩
theorem SpWf.set {nt : Nat} {l : Sp} (h : SpWf nt l) {i : Nat} (hi : i < nt) {v : KV} (hv : v.ok) : SpWf nt (spSet i v l) := by
  unfold spSet
  split
  · exact h.sub (spOut_sub i l)
  · rename_i hu
    refine h.put hi hv ?_
    cases v <;> simp_all [isUnK]
theorem spMap_keys (f : KV → KV) : ∀ (l : Sp), ((spMap f l).map (·.1)).Sublist (l.map (·.1)) := by
  intro l
  induction l with
  | nil => exact .slnil
  | cons q l ih =>
    obtain ⟨k, u⟩ := q
    simp only [spMap]
    split
    · exact .cons _ ih
    · exact .cons_cons _ ih
theorem spMap_mem {f : KV → KV} : ∀ {l : Sp} {p : Nat × KV}, p ∈ spMap f l → ∃ q ∈ l, p = (q.1, f q.2) ∧ isUnK p.2 = false := by
  intro l
  induction l with
  | nil => intro p hp; cases hp
  | cons q l ih =>
    obtain ⟨k, u⟩ := q
    intro p hp
    simp only [spMap] at hp
    split at hp
    · obtain ⟨q, hq, h⟩ := ih hp; exact ⟨q, by simp [hq], h⟩
    · rename_i hne
      rcases List.mem_cons.1 hp with rfl | hp
      · exact ⟨(k, u), by simp, rfl, by cases hf : f u <;> simp_all [isUnK]⟩
      · obtain ⟨q, hq, h⟩ := ih hp; exact ⟨q, by simp [hq], h⟩
theorem SpWf.map {nt : Nat} {l : Sp} (h : SpWf nt l) {f : KV → KV} (hf : ∀ x : KV, x.ok → (f x).ok) : SpWf nt (spMap f l) where
  srt := h.srt.sublist (spMap_keys f l)
  lt p hp := by obtain ⟨q, hq, rfl, _⟩ := spMap_mem hp; exact h.lt q hq
  ok p hp := by obtain ⟨q, hq, rfl, _⟩ := spMap_mem hp; exact hf _ (h.ok q hq)
  nu p hp := by obtain ⟨q, hq, _, h⟩ := spMap_mem hp; exact h
theorem spGet_map {nt : Nat} {f : KV → KV} (hf : f .un = .un) : ∀ {l : Sp} (_ : SpWf nt l) (i : Nat), spGet (spMap f l) i = f (spGet l i) := by
  intro l
  induction l with
  | nil => intro _ i; simp [spMap, spGet, hf]
  | cons q l ih =>
    obtain ⟨k, u⟩ := q
    intro h i
    have h1 := List.pairwise_cons.1 h.srt
    simp only [spMap, spGet]
    split
    · rename_i hu
      cases h2 : Nat.beq i k with
      | true =>
        have := beq_true h2; subst this
        simp only
        rw [hu]
        refine spGet_not fun p hp => ?_
        obtain ⟨q, hq, rfl, _⟩ := spMap_mem hp
        have := h1.1 q.1 (List.mem_map.2 ⟨q, hq, rfl⟩)
        simp only at this ⊢; omega
      | false => exact ih h.tail i
    · simp only [spGet]
      cases h2 : Nat.beq i k with
      | true => rfl
      | false => exact ih h.tail i
theorem spHas_iff {l : Sp} {i : Nat} : spHas l i = true ↔ ∃ p ∈ l, p.1 = i := by
  induction l with
  | nil => simp [spHas]
  | cons q l ih =>
    obtain ⟨k, u⟩ := q
    simp only [spHas]
    cases h2 : Nat.beq i k with
    | true => simp [beq_true h2]
    | false => simp [ih, Ne.symm (beq_false h2)]
theorem spNames_iff {l : Sp} {nm : Nm} : nm ∈ spNames l ↔ ∃ p ∈ l, nm ∈ p.2.names := by
  induction l with
  | nil => simp [spNames]
  | cons q l ih => obtain ⟨k, u⟩ := q; simp [spNames, ih]
theorem SpWf.has_iff {nt : Nat} {l : Sp} (h : SpWf nt l) (i : Nat) : spHas l i = true ↔ spGet l i ≠ .un := by
  rw [spHas_iff]
  constructor
  · rintro ⟨p, hp, rfl⟩ hu
    rw [h.get_mem hp] at hu
    have := h.nu p hp
    rw [hu] at this; cases this
  · intro hu; exact ⟨_, spGet_mem hu, rfl⟩
theorem dense_get? (nt : Nat) (l : Sp) (i : Nat) : (dense nt l)[i]? = if i < nt then some (spGet l i).pv else none := by
  unfold dense
  rw [List.getElem?_map]
  split
  · rename_i h; rw [List.getElem?_range h]; rfl
  · rename_i h; rw [List.getElem?_eq_none (by simpa using h)]; rfl
theorem dense_length (nt : Nat) (l : Sp) : (dense nt l).length = nt := by simp [dense]
theorem dense_getD {nt : Nat} {l : Sp} (h : SpWf nt l) (i : Nat) : (dense nt l).getD i .undef = (spGet l i).pv := by
  rw [List.getD_eq_getElem?_getD, dense_get?]
  split
  · rfl
  · rename_i hi; rw [h.get_ge (by omega)]; rfl
theorem dense_ext {nt : Nat} {l : Sp} {xs : List PV} (hl : xs.length = nt) (h : ∀ i, i < nt → xs[i]? = some (spGet l i).pv) : dense nt l = xs := by
  apply List.ext_getElem?
  intro i
  rw [dense_get?]
  split
  · rename_i hi; exact (h i hi).symm
  · rename_i hi; rw [List.getElem?_eq_none (by omega)]
theorem dense_set {nt : Nat} {l : Sp} (d : Nat) (v : KV) : dense nt (spSet d v l) = (dense nt l).set d v.pv := by
  refine dense_ext (by simp [dense_length]) fun i hi => ?_
  rw [List.getElem?_set, dense_length, dense_get?, spGet_set]
  by_cases h : d = i
  · subst h; simp [hi]
  · simp [h, Ne.symm h, hi]
theorem dense_put {nt : Nat} {l : Sp} (d : Nat) (v : KV) : dense nt (spPut d v l) = (dense nt l).set d v.pv := by
  refine dense_ext (by simp [dense_length]) fun i hi => ?_
  rw [List.getElem?_set, dense_length, dense_get?, spGet_put]
  by_cases h : d = i
  · subst h; simp [hi]
  · simp [h, Ne.symm h, hi]
theorem dense_map {nt : Nat} {l : Sp} (h : SpWf nt l) {f : KV → KV} {g : Nm → Option (Option Ob)} (hu : f .un = .un) (hf : ∀ x : KV, x.ok → (f x).pv = x.pv.sub g) :
    dense nt (spMap f l) = subL g (dense nt l) := by
  refine dense_ext (by rw [subL_length, dense_length]) fun i hi => ?_
  rw [subL_getElem?, dense_get?, spGet_map hu h, if_pos hi, hf _ (h.get_ok i)]
  rfl
theorem renL_length (f : Nm → Nm) (xs : List PV) : (renL f xs).length = xs.length := by
  induction xs with
  | nil => rfl
  | cons x xs ih => simp [renL, ih]
theorem renL_getElem? (f : Nm → Nm) (xs : List PV) (i : Nat) : (renL f xs)[i]? = (xs[i]?).map (PV.ren f) := by
  induction xs generalizing i with
  | nil => rfl
  | cons x xs ih => cases i <;> simp [renL, ih]
theorem dense_ren {nt : Nat} {l : Sp} (h : SpWf nt l) (f : Nm → Nm) : dense nt (spMap (KV.ren f) l) = renL f (dense nt l) := by
  refine dense_ext (by rw [renL_length, dense_length]) fun i hi => ?_
  rw [renL_getElem?, dense_get?, spGet_map (by simp [KV.ren]) h, if_pos hi, KV.ren_pv f (h.get_ok i)]
  rfl
theorem dense_names {nt : Nat} {l : Sp} (h : SpWf nt l) (nm : Nm) : nm ∈ namesL (dense nt l) ↔ nm ∈ spNames l := by
  have hm : ∀ (xs : List PV), nm ∈ namesL xs ↔ ∃ x ∈ xs, nm ∈ x.names := by
    intro xs
    induction xs with
    | nil => simp [namesL]
    | cons x xs ih => simp [namesL, ih]
  rw [hm, spNames_iff]
  constructor
  · rintro ⟨x, hx, hn⟩
    obtain ⟨i, hi⟩ := List.getElem?_of_mem hx
    rw [dense_get?] at hi
    split at hi
    · cases hi
      rw [KV.pv_names (h.get_ok i)] at hn
      have hne : spGet l i ≠ .un := by intro hu; rw [hu] at hn; simp [KV.names] at hn
      exact ⟨_, spGet_mem hne, hn⟩
    · cases hi
  · rintro ⟨p, hp, hn⟩
    have := h.get_mem hp
    refine ⟨p.2.pv, List.mem_of_getElem? (i := p.1) ?_, ?_⟩
    · rw [dense_get?, if_pos (h.lt p hp), this]
    · rw [KV.pv_names (h.ok p hp)]; exact hn
def KOb.ok : KOb → Prop
  | .cells _ cs => okKL cs
  | .whole _ v => okV v = true
  | .arr _ _ xs => okVL xs = true
  | .map es => okVL es = true
  | .siter _ _ => True
structure SoWf (nt : Nat) (l : SpO) : Prop where
  srt : (l.map (·.1)).Pairwise (· < ·)
  lt : ∀ p ∈ l, p.1 < nt
  ok : ∀ p ∈ l, ∀ o ∈ p.2, o.ok
theorem SoWf.nil (nt : Nat) : SoWf nt [] := ⟨.nil, by simp, by simp⟩
theorem SoWf.tail {nt : Nat} {p : Nat × List KOb} {l : SpO} (h : SoWf nt (p :: l)) : SoWf nt l :=
  ⟨(List.pairwise_cons.1 h.srt).2, fun q hq => h.lt q (by simp [hq]), fun q hq => h.ok q (by simp [hq])⟩
theorem KOb.ob_names {o : KOb} (h : o.ok) : o.ob.names = o.names := by
  cases o with
  | cells ty cs => exact pvL_names h
  | whole ty v => exact (okVL_names (okV_cells h)).1
  | _ => rfl
theorem soGet_put (i : Nat) (v : List KOb) : ∀ (l : SpO) (j : Nat), soGet (soPut i v l) j = if j = i then v else soGet l j := by
  intro l
  induction l with
  | nil =>
    intro j
    simp only [soPut, soGet]
    cases h : Nat.beq j i with
    | true => simp [beq_true h]
    | false => simp [beq_false h]
  | cons p l ih =>
    obtain ⟨k, u⟩ := p
    intro j
    simp only [soPut]
    cases h : Nat.beq i k with
    | true =>
      have := beq_true h; subst this
      simp only [soGet]
      cases h2 : Nat.beq j i with
      | true => simp [beq_true h2]
      | false => simp [beq_false h2]
    | false =>
      cases h3 : Nat.blt i k with
      | true =>
        simp only [soGet]
        cases h2 : Nat.beq j i with
        | true => simp [beq_true h2]
        | false => simp [beq_false h2]
      | false =>
        simp only [soGet]
        cases h2 : Nat.beq j k with
        | true =>
          have h4 := beq_true h2; have h5 := beq_false h
          subst h4
          simp [Ne.symm h5]
        | false => exact ih j
theorem soGet_keep (p : Nat → Bool) : ∀ (l : SpO) (j : Nat), soGet (soKeep p l) j = if p j = true then soGet l j else [] := by
  intro l
  induction l with
  | nil => intro j; simp [soKeep, soGet]
  | cons q l ih =>
    obtain ⟨k, u⟩ := q
    intro j
    simp only [soKeep]
    cases hp : p k with
    | true =>
      simp only [soGet]
      cases h2 : Nat.beq j k with
      | true => have := beq_true h2; subst this; simp [hp]
      | false => exact ih j
    | false =>
      simp only [soGet]
      rw [ih j]
      cases h2 : Nat.beq j k with
      | true => have := beq_true h2; subst this; simp [hp]
      | false => rfl
theorem soGet_map (f : KOb → KOb) : ∀ (l : SpO) (j : Nat), soGet (soMap f l) j = (soGet l j).map f := by
  intro l
  induction l with
  | nil => intro j; simp [soMap, soGet]
  | cons q l ih =>
    obtain ⟨k, u⟩ := q
    intro j
    simp only [soMap, soGet]
    cases h2 : Nat.beq j k with
    | true => rfl
    | false => exact ih j
theorem soGet_mem {l : SpO} {i : Nat} (h : soGet l i ≠ []) : (i, soGet l i) ∈ l := by
  induction l with
  | nil => exact absurd rfl h
  | cons p l ih =>
    obtain ⟨k, u⟩ := p
    simp only [soGet] at h ⊢
    cases h2 : Nat.beq i k with
    | true => have := beq_true h2; subst this; simp
    | false => rw [h2] at h; simp only at h ⊢; exact List.mem_cons_of_mem _ (ih h)
theorem SoWf.get_mem {nt : Nat} {l : SpO} (h : SoWf nt l) {p : Nat × List KOb} (hp : p ∈ l) : soGet l p.1 = p.2 := by
  induction l with
  | nil => cases hp
  | cons q l ih =>
    obtain ⟨k, u⟩ := q
    simp only [soGet]
    rcases List.mem_cons.1 hp with rfl | hp'
    · simp
    · have h1 := (List.pairwise_cons.1 h.srt).1 p.1 (List.mem_map.2 ⟨p, hp', rfl⟩)
      simp only at h1
      cases h2 : Nat.beq p.1 k with
      | true => have := beq_true h2; omega
      | false => exact ih h.tail hp'
theorem SoWf.get_ok {nt : Nat} {l : SpO} (h : SoWf nt l) {i : Nat} {o : KOb} (ho : o ∈ soGet l i) : o.ok := by
  have : soGet l i ≠ [] := by intro h1; rw [h1] at ho; cases ho
  exact h.ok _ (soGet_mem this) o ho
theorem SoWf.get_ge {nt : Nat} {l : SpO} (h : SoWf nt l) {i : Nat} (hi : nt ≤ i) : soGet l i = [] := by
  by_cases h1 : soGet l i = []
  · exact h1
  · have := h.lt _ (soGet_mem h1); simp only at this; omega
theorem soPut_mem {i : Nat} {v : List KOb} : ∀ {l : SpO} {p : Nat × List KOb}, p ∈ soPut i v l → p = (i, v) ∨ p ∈ l := by
  intro l
  induction l with
  | nil => intro p hp; simp [soPut] at hp; exact .inl hp
  | cons q l ih =>
    obtain ⟨k, u⟩ := q
    intro p hp
    simp only [soPut] at hp
    cases h : Nat.beq i k with
    | true =>
      rw [h] at hp; simp only [List.mem_cons] at hp ⊢
      rcases hp with rfl | hp
      · exact .inl rfl
      · exact .inr (.inr hp)
    | false =>
      rw [h] at hp
      cases h3 : Nat.blt i k with
      | true =>
        rw [h3] at hp; simp only [List.mem_cons] at hp ⊢
        rcases hp with rfl | hp | hp
        · exact .inl rfl
        · exact .inr (.inl hp)
        · exact .inr (.inr hp)
      | false =>
        rw [h3] at hp; simp only [List.mem_cons] at hp ⊢
        rcases hp with rfl | hp
        · exact .inr (.inl rfl)
        · exact (ih hp).imp id .inr
theorem soPut_srt {i : Nat} {v : List KOb} : ∀ {l : SpO}, (l.map (·.1)).Pairwise (· < ·) → ((soPut i v l).map (·.1)).Pairwise (· < ·) := by
  intro l
  induction l with
  | nil => intro _; simp [soPut]
  | cons q l ih =>
    obtain ⟨k, u⟩ := q
    intro h
    have h1 := List.pairwise_cons.1 h
    simp only [soPut]
    cases h2 : Nat.beq i k with
    | true =>
      have := beq_true h2; subst this
      exact List.pairwise_cons.2 ⟨h1.1, h1.2⟩
    | false =>
      cases h3 : Nat.blt i k with
      | true =>
        have h4 : i < k := by simpa [Nat.blt_eq] using h3
        refine List.pairwise_cons.2 ⟨fun a ha => ?_, h⟩
        simp only [List.map_cons, List.mem_cons] at ha
        rcases ha with rfl | ha
        · exact h4
        · exact Nat.lt_trans h4 (h1.1 a ha)
      | false =>
        have h5 := beq_false h2
        have h4 : ¬ i < k := by intro h6; rw [show Nat.blt i k = true by simpa [Nat.blt_eq] using h6] at h3; cases h3
        refine List.pairwise_cons.2 ⟨fun a ha => ?_, ih h1.2⟩
        obtain ⟨p, hp, rfl⟩ := List.mem_map.1 ha
        rcases soPut_mem hp with rfl | hp
        · simp only; omega
        · exact h1.1 _ (List.mem_map.2 ⟨p, hp, rfl⟩)
theorem SoWf.put {nt : Nat} {l : SpO} (h : SoWf nt l) {i : Nat} (hi : i < nt) {v : List KOb} (hv : ∀ o ∈ v, o.ok) : SoWf nt (soPut i v l) where
  srt := soPut_srt h.srt
  lt p hp := (soPut_mem hp).elim (fun e => by rw [e]; exact hi) (h.lt p)
  ok p hp := (soPut_mem hp).elim (fun e => by rw [e]; exact hv) (h.ok p)
theorem soKeep_sub (p : Nat → Bool) : ∀ (l : SpO), (soKeep p l).Sublist l := by
  intro l
  induction l with
  | nil => exact .slnil
  | cons q l ih =>
    obtain ⟨k, u⟩ := q
    simp only [soKeep]
    cases p k with
    | true => exact .cons_cons _ ih
    | false => exact .cons _ ih
theorem SoWf.sub {nt : Nat} {l l' : SpO} (h : SoWf nt l) (hs : l'.Sublist l) : SoWf nt l' :=
  ⟨h.srt.sublist (hs.map _), fun p hp => h.lt p (hs.subset hp), fun p hp => h.ok p (hs.subset hp)⟩
theorem soMap_keys (f : KOb → KOb) : ∀ (l : SpO), (soMap f l).map (·.1) = l.map (·.1) := by
  intro l
  induction l with
  | nil => rfl
  | cons q l ih => obtain ⟨k, u⟩ := q; simp [soMap, ih]
theorem soMap_mem {f : KOb → KOb} : ∀ {l : SpO} {p : Nat × List KOb}, p ∈ soMap f l → ∃ q ∈ l, p = (q.1, q.2.map f) := by
  intro l
  induction l with
  | nil => intro p hp; cases hp
  | cons q l ih =>
    obtain ⟨k, u⟩ := q
    intro p hp
    rcases List.mem_cons.1 hp with rfl | hp
    · exact ⟨(k, u), by simp, rfl⟩
    · obtain ⟨q, hq, h⟩ := ih hp; exact ⟨q, by simp [hq], h⟩
theorem SoWf.map {nt : Nat} {l : SpO} (h : SoWf nt l) {f : KOb → KOb} (hf : ∀ x : KOb, x.ok → (f x).ok) : SoWf nt (soMap f l) where
  srt := by rw [soMap_keys]; exact h.srt
  lt p hp := by obtain ⟨q, hq, rfl⟩ := soMap_mem hp; exact h.lt q hq
  ok p hp o ho := by
    obtain ⟨q, hq, rfl⟩ := soMap_mem hp
    obtain ⟨o', ho', rfl⟩ := List.mem_map.1 ho
    exact hf _ (h.ok q hq o' ho')
theorem soNames_iff {l : SpO} {nm : Nm} : nm ∈ soNames l ↔ ∃ p ∈ l, ∃ o ∈ p.2, nm ∈ o.names := by
  induction l with
  | nil => simp [soNames]
  | cons q l ih => obtain ⟨k, u⟩ := q; simp [soNames, ih]
theorem denseO_get? (nt : Nat) (l : SpO) (i : Nat) : (denseO nt l)[i]? = if i < nt then some ((soGet l i).map KOb.ob) else none := by
  unfold denseO
  rw [List.getElem?_map]
  split
  · rename_i h; rw [List.getElem?_range h]; rfl
  · rename_i h; rw [List.getElem?_eq_none (by simpa using h)]; rfl
theorem denseO_length (nt : Nat) (l : SpO) : (denseO nt l).length = nt := by simp [denseO]
theorem denseO_ext {nt : Nat} {l : SpO} {xs : List (List Ob)} (hl : xs.length = nt) (h : ∀ i, i < nt → xs[i]? = some ((soGet l i).map KOb.ob)) : denseO nt l = xs := by
  apply List.ext_getElem?
  intro i
  rw [denseO_get?]
  split
  · rename_i hi; exact (h i hi).symm
  · rename_i hi; rw [List.getElem?_eq_none (by omega)]
theorem denseO_put {nt : Nat} {l : SpO} (d : Nat) (v : List KOb) : denseO nt (soPut d v l) = (denseO nt l).set d (v.map KOb.ob) := by
  refine denseO_ext (by simp [denseO_length]) fun i hi => ?_
  rw [List.getElem?_set, denseO_length, denseO_get?, soGet_put]
  by_cases h : d = i
  · subst h; simp [hi]
  · simp [h, Ne.symm h, hi]
theorem denseO_map {nt : Nat} {l : SpO} (h : SoWf nt l) {f : KOb → KOb} {g : Ob → Ob} (hf : ∀ x : KOb, x.ok → (f x).ob = g x.ob) : denseO nt (soMap f l) = (denseO nt l).map (·.map g) := by
  refine denseO_ext (by simp [denseO_length]) fun i hi => ?_
  rw [List.getElem?_map, denseO_get?, if_pos hi, soGet_map]
  simp only [Option.map_some, List.map_map, Option.some.injEq]
  apply List.map_congr_left
  intro o ho
  simp [hf o (h.get_ok ho)]
theorem denseO_look {nt : Nat} {l : SpO} (h : SoWf nt l) (nm : Nm) : look (denseO nt l) nm = (klook l nm).map KOb.ob := by
  unfold look klook
  rw [denseO_get?]
  split
  · rename_i x hx
    split at hx
    · cases hx; rw [List.getElem?_map]
    · cases hx
  · rename_i hx
    split at hx
    · cases hx
    · rw [h.get_ge (by omega)]; rfl
theorem klook_lt {nt : Nat} {l : SpO} (h : SoWf nt l) {nm : Nm} {o : KOb} (ho : klook l nm = some o) : nm.1 < nt := by
  apply Classical.byContradiction
  intro hn
  unfold klook at ho
  rw [h.get_ge (by omega)] at ho
  cases ho
theorem klook_ok {nt : Nat} {l : SpO} (h : SoWf nt l) {nm : Nm} {o : KOb} (ho : klook l nm = some o) : o.ok := h.get_ok (List.mem_of_getElem? ho)
theorem denseO_kput {nt : Nat} {l : SpO} (h : SoWf nt l) (nm : Nm) (o : KOb) : denseO nt (kput l nm o) = putOb (denseO nt l) nm o.ob := by
  unfold kput putOb
  cases hk : klook l nm with
  | some o' =>
    have hlt := klook_lt h hk
    simp only
    rw [denseO_put, denseO_get?, if_pos hlt]
    simp [List.map_set]
  | none =>
    simp only
    rw [denseO_get?]
    split
    · rename_i x hx
      split at hx
      · cases hx
        have h1 : ((soGet l nm.1).map KOb.ob).set nm.2 o.ob = (soGet l nm.1).map KOb.ob := by
          rw [List.set_eq_of_length_le]
          have := List.getElem?_eq_none_iff.1 hk
          simpa using this
        rw [h1]
        refine denseO_ext (by simp [denseO_length]) fun i hi => ?_
        rw [List.getElem?_set, denseO_length, denseO_get?]
        by_cases h2 : nm.1 = i
        · subst h2; simp [hi]
        · simp [h2, hi]
      · cases hx
    · rfl
theorem SoWf.kput {nt : Nat} {l : SpO} (h : SoWf nt l) (nm : Nm) {o : KOb} (ho : o.ok) : SoWf nt (kput l nm o) := by
  unfold Go.Ab.kput
  cases hk : klook l nm with
  | some o' =>
    refine h.put (klook_lt h hk) fun x hx => ?_
    rcases List.mem_or_eq_of_mem_set hx with h1 | rfl
    · exact h.get_ok h1
    · exact ho
  | none => exact h
theorem denseO_names {nt : Nat} {l : SpO} (h : SoWf nt l) (nm : Nm) : nm ∈ (denseO nt l).flatMap (fun l => l.flatMap Ob.names) ↔ nm ∈ soNames l := by
  rw [soNames_iff]
  simp only [List.mem_flatMap]
  constructor
  · rintro ⟨x, hx, ob, hob, hn⟩
    obtain ⟨i, hi⟩ := List.getElem?_of_mem hx
    rw [denseO_get?] at hi
    split at hi
    · cases hi
      obtain ⟨o, ho, rfl⟩ := List.mem_map.1 hob
      rw [KOb.ob_names (h.get_ok ho)] at hn
      have : soGet l i ≠ [] := by intro h1; rw [h1] at ho; cases ho
      exact ⟨_, soGet_mem this, o, ho, hn⟩
    · cases hi
  · rintro ⟨p, hp, o, ho, hn⟩
    have := h.get_mem hp
    refine ⟨p.2.map KOb.ob, List.mem_of_getElem? (i := p.1) ?_, o.ob, List.mem_map.2 ⟨o, ho, rfl⟩, ?_⟩
    · rw [denseO_get?, if_pos (h.lt p hp), this]
    · rw [KOb.ob_names (h.ok p hp o ho)]; exact hn
end Go.Ab


namespace Go.Ab
mutual
theorem forceV_eq {R : Type} : ∀ (x : KV) (K : KV → R), forceV x K = K x
  | .un, _ | .sk, _ | .nils, _ | .cv _, _ | .yld _, _ => rfl
  | .lit b, K => by cases b <;> rfl
  | .ref nm _, _ | .aref nm _ _ _, _ | .arr nm _ _ _, _ | .mp nm, _ | .it nm, _ | .wit nm, _ => by cases nm; rfl
  | .agg cs, K => by simp only [forceV]; rw [forceL_eq cs]
  | .iface t x, K => by simp only [forceV]; rw [forceV_eq x]
  | .fn f cap, K => by simp only [forceV]; rw [forceL_eq cap]
  | .tup xs, K => by simp only [forceV]; rw [forceL_eq xs]
theorem forceL_eq {R : Type} : ∀ (xs : List KV) (K : List KV → R), forceL xs K = K xs
  | [], _ => rfl
  | x :: xs, K => by simp only [forceL]; rw [forceV_eq x, forceL_eq xs]
end
theorem forceOb_eq {R : Type} (x : KOb) (K : KOb → R) : forceOb x K = K x := by cases x <;> simp [forceOb, forceL_eq]
theorem forceObL_eq {R : Type} : ∀ (xs : List KOb) (K : List KOb → R), forceObL xs K = K xs
  | [], _ => rfl
  | x :: xs, K => by simp only [forceObL]; rw [forceOb_eq x, forceObL_eq xs]
theorem forceSp_eq {R : Type} : ∀ (xs : Sp) (K : Sp → R), forceSp xs K = K xs
  | [], _ => rfl
  | (j, x) :: xs, K => by simp only [forceSp]; rw [forceV_eq x, forceSp_eq xs]
theorem forceSo_eq {R : Type} : ∀ (xs : SpO) (K : SpO → R), forceSo xs K = K xs
  | [], _ => rfl
  | (j, x) :: xs, K => by simp only [forceSo]; rw [forceObL_eq x, forceSo_eq xs]
theorem forceKp_eq {R : Type} : ∀ (xs : List Sp) (K : List Sp → R), forceKp xs K = K xs
  | [], _ => rfl
  | x :: xs, K => by simp only [forceKp]; rw [forceSp_eq x, forceKp_eq xs]
theorem force_eq {R : Type} (ks : KSt) (K : KSt → R) : force ks K = K ks := by
  cases ks; simp only [force]; rw [forceSp_eq, forceSo_eq, forceKp_eq]
structure KSt.Ok (ks : KSt) : Prop where
  tm : SpWf ks.nt ks.tmps
  ob : SoWf ks.nt ks.objs
  kp : ∀ sp ∈ ks.keep, SpWf ks.nt sp
theorem cstK_pv (v : PV) : (cstK v).pv = v := by
  unfold cstK
  split <;> simp [KV.pv, pvL]
theorem cstK_ok {v : PV} (h : okV v = true) : (cstK v).ok := by
  unfold cstK
  split
  · trivial
  · trivial
  · trivial
  · exact h
variable {ks : KSt}
theorem st_ev (h : ks.Ok) (x : RX) : x.ev ks.st.tmps = (x.kv ks.tmps).pv := by
  cases x with
  | t i => exact dense_getD h.tm i
  | c v => exact (cstK_pv v).symm
theorem kv_ok (h : ks.Ok) {x : RX} (hx : okX x = true) : (x.kv ks.tmps).ok := by
  cases x with
  | t i => exact h.tm.get_ok i
  | c v => exact cstK_ok hx
theorem st_look (h : ks.Ok) (nm : Nm) : look ks.st.objs nm = (klook ks.objs nm).map KOb.ob := denseO_look h.ob nm
theorem st_lookF (h : ks.Ok) : look ks.st.objs = fun nm => (klook ks.objs nm).map KOb.ob := funext (st_look h)
theorem KOb.off_ob (p : Nm → Bool) {o : KOb} (h : o.ok) : (o.off p).ob = o.ob.sub (subOff p) := by
  cases o with
  | cells ty cs => simp [KOb.off, KOb.ob, Ob.sub, offL_pv p h]
  | whole ty v =>
    have := (okVL_names (okV_cells h)).1
    simp only [KOb.off, KOb.ob, Ob.sub, cellsP]
    rw [subL_none this]
  | _ => rfl
where
  subL_none {xs : List PV} (h : namesL xs = []) : subL (subOff p) xs = xs := by
    induction xs with
    | nil => rfl
    | cons x xs ih =>
      simp [namesL] at h
      simp [subL, sub_none h.1, ih h.2]
theorem KOb.off_ok (p : Nm → Bool) {o : KOb} (h : o.ok) : (o.off p).ok := by
  cases o with
  | cells ty cs => exact offL_ok p h
  | _ => exact h
theorem subL_append (f : Nm → Option (Option Ob)) (xs ys : List PV) : subL f (xs ++ ys) = subL f xs ++ subL f ys := by
  induction xs with
  | nil => rfl
  | cons x xs ih => simp [subL, ih]
theorem flat_map {nt : Nat} {l : List Sp} {f : KV → KV} {g : List PV → List PV} (hg : g [] = []) (ha : ∀ xs ys, g (xs ++ ys) = g xs ++ g ys) (h : ∀ sp ∈ l, dense nt (spMap f sp) = g (dense nt sp)) :
    (l.map (spMap f)).flatMap (dense nt) = g (l.flatMap (dense nt)) := by
  induction l with
  | nil => simp [hg]
  | cons x l ih =>
    simp only [List.map_cons, List.flatMap_cons, ha]
    rw [h x (by simp), ih fun sp hsp => h sp (by simp [hsp])]
theorem koff_st (p : Nm → Bool) (h : ks.Ok) : (koffSt p ks).st = subSt (subOff p) ks.st := by
  unfold koffSt KSt.st subSt
  simp only
  rw [dense_map h.tm (by simp [KV.off]) (fun x hx => KV.off_pv p hx), denseO_map h.ob (fun o ho => KOb.off_ob p ho),
    flat_map (g := subL (subOff p)) rfl (subL_append _) fun sp hsp => dense_map (h.kp sp hsp) (by simp [KV.off]) fun x hx => KV.off_pv p hx]
theorem koff_ok (p : Nm → Bool) (h : ks.Ok) : (koffSt p ks).Ok where
  tm := h.tm.map fun x hx => KV.off_ok p hx
  ob := h.ob.map fun x hx => KOb.off_ok p hx
  kp sp hsp := by
    obtain ⟨q, hq, rfl⟩ := List.mem_map.1 hsp
    exact (h.kp q hq).map fun x hx => KV.off_ok p hx
theorem KOb.close_ob (g : Nm → Option Ob) {o : KOb} (h : o.ok) : o.close g = o.ob.sub (subCl g) := by
  cases o with
  | cells ty cs => simp [KOb.close, KOb.ob, Ob.sub, closeL_pv g h]
  | whole ty v =>
    have := (okVL_names (okV_cells h)).1
    simp only [KOb.close, KOb.ob, Ob.sub, cellsP]
    rw [subL_none this]
  | _ => rfl
where
  subL_none {xs : List PV} (h : namesL xs = []) : subL (subCl g) xs = xs := by
    induction xs with
    | nil => rfl
    | cons x xs ih =>
      simp [namesL] at h
      simp [subL, sub_none h.1, ih h.2]
theorem kclosed_eq {σ : Nm → Option KOb} (hσ : ∀ nm o, σ nm = some o → o.ok) : ∀ (d : Nat) (nm : Nm), kclosed σ d nm = (σ nm).map fun o => closeOb (fun nm => (σ nm).map KOb.ob) d o.ob := by
  intro d
  induction d with
  | zero =>
    intro nm
    unfold kclosed
    cases h : σ nm with
    | none => rfl
    | some o => simp only [Option.map_some]; rw [KOb.close_ob _ (hσ _ _ h)]; rfl
  | succ d ih =>
    intro nm
    unfold kclosed
    cases h : σ nm with
    | none => rfl
    | some o =>
      simp only [Option.map_some]
      rw [KOb.close_ob _ (hσ _ _ h)]
      congr 1
      unfold closeOb
      congr 1
      funext m
      unfold subCl
      rw [ih m, Option.map_map]
      rfl
def quietO (σ : Nm → Option KOb) : Prop := ∀ nm ty cs, σ nm = some (.cells ty cs) → khasYL cs = false
theorem kclosed_shut {σ : Nm → Option KOb} (hσ : ∀ nm o, σ nm = some o → o.ok) (hq : quietO σ) : ∀ (d : Nat) (nm : Nm) (ob : Ob), kclosed σ d nm = some ob → ob.shut := by
  intro d
  induction d with
  | zero =>
    intro nm ob h
    unfold kclosed at h
    cases ho : σ nm with
    | none => rw [ho] at h; cases h
    | some o =>
      rw [ho] at h; cases h
      have hok := hσ _ _ ho
      cases o with
      | cells ty cs => exact (closeL_ok (fun _ _ h => by cases h) hok (hq _ _ _ ho))
      | whole ty v => exact (okV_cells hok)
      | arr k kt xs => exact hok
      | map es => exact hok
      | siter s pos => trivial
  | succ d ih =>
    intro nm ob h
    unfold kclosed at h
    cases ho : σ nm with
    | none => rw [ho] at h; cases h
    | some o =>
      rw [ho] at h; cases h
      have hok := hσ _ _ ho
      cases o with
      | cells ty cs => exact (closeL_ok ih hok (hq _ _ _ ho))
      | whole ty v => exact (okV_cells hok)
      | arr k kt xs => exact hok
      | map es => exact hok
      | siter s pos => trivial
theorem KOb.frz_ob (p : Nm → Bool) (g : Nm → Option Ob) {o : KOb} (h : o.ok) : (o.frz p g).ob = o.ob.sub (subFrz p g) := by
  cases o with
  | cells ty cs => simp [KOb.frz, KOb.ob, Ob.sub, frzL_pv p g h]
  | whole ty v =>
    have := (okVL_names (okV_cells h)).1
    simp only [KOb.frz, KOb.ob, Ob.sub, cellsP]
    rw [subL_none this]
  | _ => rfl
where
  subL_none {xs : List PV} (h : namesL xs = []) : subL (subFrz p g) xs = xs := by
    induction xs with
    | nil => rfl
    | cons x xs ih =>
      simp [namesL] at h
      simp [subL, sub_none h.1, ih h.2]
theorem KOb.frz_ok {p : Nm → Bool} {g : Nm → Option Ob} (hg : ∀ nm ob, g nm = some ob → ob.shut) {o : KOb} (h : o.ok) : (o.frz p g).ok := by
  cases o with
  | cells ty cs => exact frzL_ok hg h
  | _ => exact h
theorem kputs_ok {nt : Nat} : ∀ (R : List Nm) {l : SpO}, SoWf nt l → SoWf nt (R.foldl (fun objs nm => kput objs nm kdead) l) := by
  intro R
  induction R with
  | nil => intro l h; exact h
  | cons nm R ih => intro l h; exact ih (h.kput nm (o := kdead) rfl)
theorem kputs_st {nt : Nat} : ∀ (R : List Nm) {l : SpO}, SoWf nt l → denseO nt (R.foldl (fun objs nm => kput objs nm kdead) l) = R.foldl (fun objs nm => putOb objs nm dead) (denseO nt l) := by
  intro R
  induction R with
  | nil => intro l _; rfl
  | cons nm R ih =>
    intro l h
    simp only [List.foldl_cons]
    rw [ih (h.kput nm (o := kdead) rfl), denseO_kput h]
    rfl
theorem klook_okF (h : ks.Ok) : ∀ nm o, klook ks.objs nm = some o → o.ok := fun _ _ ho => klook_ok h.ob ho
theorem kclosed_st (h : ks.Ok) (nm : Nm) : subCl (kclosed (klook ks.objs) deepest) nm = closed (look ks.st.objs) nm := by
  unfold subCl closed
  rw [kclosed_eq (klook_okF h), st_lookF h, Option.map_map]
  rfl
theorem kquiet_ok {l : SpO} (h : kquiet l = true) : ∀ p ∈ l, ∀ ty cs, KOb.cells ty cs ∈ p.2 → khasYL cs = false := by
  induction l with
  | nil => intro p hp; cases hp
  | cons q l ih =>
    obtain ⟨k, u⟩ := q
    simp only [kquiet, Bool.and_eq_true] at h
    intro p hp ty cs hcs
    rcases List.mem_cons.1 hp with rfl | hp
    · have := List.all_eq_true.1 h.1 _ hcs
      simpa using this
    · exact ih h.2 p hp ty cs hcs
theorem quiet_look {l : SpO} (h : kquiet l = true) : quietO (klook l) := by
  intro nm ty cs ho
  have hm : soGet l nm.1 ≠ [] := by intro h1; unfold klook at ho; rw [h1] at ho; cases ho
  exact kquiet_ok h _ (soGet_mem hm) ty cs (List.mem_of_getElem? ho)
theorem kfreeze_gen {l : KSt} (hl : l.Ok) {σ : Nm → Option KOb} (hσ : ∀ nm o, σ nm = some o → o.ok) (hq : quietO σ) (R : List Nm) :
    (kfreeze σ R l).st = freezeAll (fun nm => (σ nm).map KOb.ob) R l.st := by
  have hf : subFrz (fun m => R.contains m) (kclosed σ deepest) = fun m => if R.contains m = true then closed (fun nm => (σ nm).map KOb.ob) m else none := by
    funext m
    unfold subFrz closed
    rw [kclosed_eq hσ, Option.map_map]
    rfl
  unfold kfreeze freezeAll subSt KSt.st
  simp only
  rw [dense_map hl.tm (g := subFrz (fun m => R.contains m) (kclosed σ deepest)) (by simp [KV.frz]) (fun x hx => KV.frz_pv _ _ hx),
    kputs_st R (hl.ob.map fun x hx => KOb.frz_ok (kclosed_shut hσ hq deepest) hx), denseO_map hl.ob (fun o ho => KOb.frz_ob _ _ ho),
    flat_map (g := subL (subFrz (fun m => R.contains m) (kclosed σ deepest))) rfl (subL_append _) fun sp hsp => dense_map (hl.kp sp hsp) (by simp [KV.frz]) fun x hx => KV.frz_pv _ _ hx, hf]
theorem kfreeze_ok {l : KSt} (hl : l.Ok) {σ : Nm → Option KOb} (hσ : ∀ nm o, σ nm = some o → o.ok) (hq : quietO σ) (R : List Nm) : (kfreeze σ R l).Ok where
  tm := hl.tm.map fun x hx => KV.frz_ok (kclosed_shut hσ hq deepest) hx
  ob := kputs_ok R (hl.ob.map fun x hx => KOb.frz_ok (kclosed_shut hσ hq deepest) hx)
  kp sp hsp := by
    obtain ⟨q, hq', rfl⟩ := List.mem_map.1 hsp
    exact (hl.kp q hq').map fun x hx => KV.frz_ok (kclosed_shut hσ hq deepest) hx
structure KOut.Ok (o : KOut) : Prop where
  v : o.v.ok
  new : ∀ x ∈ o.new, x.ok
  upd : ∀ nm x, o.upd = some (nm, x) → x.ok
  ups : ∀ p ∈ o.ups, p.2.ok := by simp
def KOut.out (o : KOut) : Out := { v := o.v.pv, new := o.new.map KOb.ob, upd := o.upd.map fun p => (p.1, p.2.ob), kill := o.kill, frz := o.frz, gone := o.gone, ups := o.ups.map fun p => (p.1, p.2.ob), io := o.io, slot := o.slot }
def bupd (u : Option (Nm × Ob)) (st : St) : St :=
  match u with
  | some (nm, ob) => { st with objs := putOb st.objs nm ob }
  | none => st
def bkill (k : Option Nm) (st : St) : St :=
  match k with
  | some nm => subSt (fun m => if m = nm then some none else none) st
  | none => st
def bset (dst : Option Nat) (v : PV) (new : List Ob) (st : St) : St :=
  match dst with
  | some d => { st with tmps := st.tmps.set d v, objs := if new.isEmpty then st.objs else st.objs.set d new }
  | none => st
def bgone (l : List Nm) (st : St) : St := if l.isEmpty then st else subSt (fun m => if l.contains m then some none else none) st
def bturn (l : List (Nm × Ob)) (st : St) : St := if l.isEmpty then st else { st with objs := putObs l st.objs }
def bext (sl : Option Nat) (new : List Ob) (st : St) : St :=
  match sl with
  | some r => { st with objs := st.objs.set r (st.objs.getD r [] ++ new) }
  | none => st
def newAtO (sl : Option Nat) (new : List Ob) : List Ob :=
  match sl with
  | some _ => []
  | none => new
theorem apply_eq (st : St) (dst : Option Nat) (o : Out) : apply st dst o = bset dst o.v (newAtO o.slot o.new) (bext o.slot o.new <| bturn o.ups (bgone o.gone (if o.frz.isEmpty then bkill o.kill (bupd o.upd st) else freezeAll (look st.objs) o.frz (bkill o.kill (bupd o.upd st))))) := by
  unfold apply bset bkill bupd bgone bturn bext newAtO
  cases dst <;> cases o.upd <;> cases o.kill <;> cases o.slot <;> rfl
theorem kups_ok {nt : Nat} : ∀ (l : List (Nm × KOb)) {σ : SpO}, (∀ p ∈ l, p.2.ok) → SoWf nt σ → SoWf nt (kups l σ) := by
  intro l
  induction l with
  | nil => intro σ _ h; exact h
  | cons p l ih =>
    obtain ⟨nm, o⟩ := p
    intro σ hl h
    exact ih (fun q hq => hl q (List.mem_cons_of_mem _ hq)) (h.kput nm (hl (nm, o) List.mem_cons_self))
theorem kups_st {nt : Nat} : ∀ (l : List (Nm × KOb)) {σ : SpO}, (∀ p ∈ l, p.2.ok) → SoWf nt σ → denseO nt (kups l σ) = putObs (l.map fun p => (p.1, p.2.ob)) (denseO nt σ) := by
  intro l
  induction l with
  | nil => intro σ _ h; rfl
  | cons p l ih =>
    obtain ⟨nm, o⟩ := p
    intro σ hl h
    show denseO nt (kups l (kput σ nm o)) = putObs (l.map fun p => (p.1, p.2.ob)) (putOb (denseO nt σ) nm o.ob)
    rw [ih (fun q hq => hl q (List.mem_cons_of_mem _ hq)) (h.kput nm (hl (nm, o) List.mem_cons_self)), denseO_kput h]
theorem kapply_both (h : ks.Ok) (hq : kquiet ks.objs = true) (dst : Option Nat) {o : KOut} (ho : o.Ok) : (kapply ks dst o).st = apply ks.st dst o.out ∧ (kapply ks dst o).Ok := by
  rw [apply_eq]
  unfold kapply KOut.out
  simp only
  have h1 : (kupd o.upd ks).Ok ∧ (kupd o.upd ks).st = bupd (o.upd.map fun p => (p.1, p.2.ob)) ks.st := by
    cases hu : o.upd with
    | none => exact ⟨h, rfl⟩
    | some p =>
      obtain ⟨nm, ob⟩ := p
      refine ⟨⟨h.tm, h.ob.kput nm (ho.upd _ _ hu), h.kp⟩, ?_⟩
      simp only [Option.map_some, kupd, bupd, KSt.st]
      rw [denseO_kput h.ob]
  rw [← h1.2]
  generalize kupd o.upd ks = k1 at h1 ⊢
  have h2 : (kkill o.kill k1).Ok ∧ (kkill o.kill k1).st = bkill o.kill k1.st := by
    cases hu : o.kill with
    | none => exact ⟨h1.1, rfl⟩
    | some nm =>
      refine ⟨koff_ok _ h1.1, ?_⟩
      simp only [kkill, bkill]
      rw [koff_st _ h1.1]
      congr 1
      funext m
      unfold subOff
      by_cases hm : m = nm
      · simp [hm]
      · simp [hm]
  rw [← h2.2]
  generalize kkill o.kill k1 = k2 at h2 ⊢
  have h3 : (kfrzs (klook ks.objs) o.frz k2).Ok ∧ (kfrzs (klook ks.objs) o.frz k2).st = (if o.frz.isEmpty = true then k2.st else freezeAll (look ks.st.objs) o.frz k2.st) := by
    cases hf : o.frz with
    | nil => exact ⟨h2.1, rfl⟩
    | cons nm R =>
      refine ⟨kfreeze_ok h2.1 (klook_okF h) (quiet_look hq) _, ?_⟩
      rw [st_lookF h]
      exact kfreeze_gen h2.1 (klook_okF h) (quiet_look hq) _
  rw [← h3.2]
  generalize kfrzs (klook ks.objs) o.frz k2 = k4 at h3 ⊢
  have h5 : (kgone o.gone k4).Ok ∧ (kgone o.gone k4).st = bgone o.gone k4.st := by
    cases hg : o.gone with
    | nil => exact ⟨h3.1, rfl⟩
    | cons nm l =>
      refine ⟨koff_ok _ h3.1, ?_⟩
      simp only [kgone, bgone, List.isEmpty_cons, Bool.false_eq_true, if_false]
      rw [koff_st _ h3.1]
      congr 1
  rw [← h5.2]
  generalize kgone o.gone k4 = k5 at h5 ⊢
  have h6 : (kturn o.ups k5).Ok ∧ (kturn o.ups k5).st = bturn (o.ups.map fun p => (p.1, p.2.ob)) k5.st := by
    refine ⟨⟨h5.1.tm, kups_ok _ ho.ups h5.1.ob, h5.1.kp⟩, ?_⟩
    have : ∀ (l : List (Nm × Ob)) (s : St), bturn l s = { s with objs := putObs l s.objs } := by
      intro l s
      unfold bturn
      split
      · rename_i hl; rw [List.isEmpty_iff.1 hl]; rfl
      · rfl
    rw [this]
    simp only [kturn, KSt.st]
    rw [kups_st _ ho.ups h5.1.ob]
  rw [← h6.2]
  generalize kturn o.ups k5 = k6 at h6 ⊢
  have h7 : (kext o.slot o.new k6).Ok ∧ (kext o.slot o.new k6).st = bext o.slot (o.new.map KOb.ob) k6.st := by
    cases hs : o.slot with
    | none => exact ⟨h6.1, rfl⟩
    | some r =>
      simp only [kext, bext]
      cases hr : Nat.blt r k6.nt with
      | true =>
        have hr' : r < k6.nt := by simpa [Nat.blt_eq] using hr
        refine ⟨⟨h6.1.tm, h6.1.ob.put hr' fun x hx => ?_, h6.1.kp⟩, ?_⟩
        · rcases List.mem_append.1 hx with hx | hx
          · exact h6.1.ob.get_ok hx
          · exact ho.new x hx
        · unfold KSt.st
          simp only
          rw [denseO_put, List.map_append]
          congr 3
          rw [List.getD_eq_getElem?_getD, denseO_get?, if_pos hr']
          rfl
      | false =>
        have hr' : ¬ r < k6.nt := by intro h; rw [show Nat.blt r k6.nt = true by simpa [Nat.blt_eq] using h] at hr; cases hr
        refine ⟨h6.1, ?_⟩
        unfold KSt.st
        simp only
        rw [List.set_eq_of_length_le (by rw [denseO_length]; omega)]
  rw [← h7.2]
  have hnew2 : newAtO o.slot (o.new.map KOb.ob) = (newAt o.slot o.new).map KOb.ob := by cases o.slot <;> rfl
  rw [hnew2]
  have honew : ∀ x ∈ newAt o.slot o.new, x.ok := by
    cases o.slot with
    | none => exact ho.new
    | some r => intro x hx; cases hx
  generalize newAt o.slot o.new = nw at honew ⊢
  generalize kext o.slot o.new k6 = k3 at h7 ⊢
  obtain ⟨ok3, _⟩ := h7
  cases dst with
  | none => exact ⟨rfl, ok3⟩
  | some d =>
    simp only [kset, bset]
    cases hd : Nat.blt d k3.nt with
    | true =>
      have hd' : d < k3.nt := by simpa [Nat.blt_eq] using hd
      refine ⟨?_, ?_⟩
      · unfold KSt.st
        simp only
        rw [dense_set]
        cases hn : nw with
        | nil => simp
        | cons x xs => simp [denseO_put]
      · refine ⟨ok3.tm.set hd' ho.v, ?_, ok3.kp⟩
        simp only
        cases hn : nw with
        | nil => exact ok3.ob
        | cons x xs => rw [hn] at honew; exact ok3.ob.put hd' honew
    | false =>
      have hd' : ¬ d < k3.nt := by intro h; rw [show Nat.blt d k3.nt = true by simpa [Nat.blt_eq] using h] at hd; cases hd
      refine ⟨?_, ok3⟩
      unfold KSt.st
      simp only
      rw [List.set_eq_of_length_le (by rw [dense_length]; omega)]
      split
      · rfl
      · rw [List.set_eq_of_length_le (by rw [denseO_length]; omega)]
end Go.Ab


namespace Go.Ab
theorem fill_map (T : List PV) : ∀ (ps : List (Nat × Nat × RX)) (z : List PV), fillPV [] z (ps.map fun p => (p.1, p.2.1, .c (p.2.2.ev T))) = fillPV T z ps := by
  intro ps
  induction ps with
  | nil => intro z; rfl
  | cons p ps ih =>
    obtain ⟨off, n, x⟩ := p
    intro z
    simp only [List.map_cons, fillPV]
    rw [ih]
    rfl
theorem evO_map (T : List PV) (x : Option RX) : evO [] (x.map fun y => .c (y.ev T)) = evO T x := by cases x <;> rfl
theorem exec_inst (d : Nat) (σ : Nm → Option Ob) (T : List PV) (op : ROp) (hg : isG op = true) : exec d σ [] (op.mapX fun x => .c (x.ev T)) = exec d σ T op := by
  cases op with
  | build z ps => simp only [ROp.mapX, exec]; rw [fill_map T]
  | slice k x lo hi mx => simp only [ROp.mapX, exec]; rw [evO_map, evO_map, evO_map]; rfl
  | strSlice x lo hi => simp only [ROp.mapX, exec]; rw [evO_map, evO_map]; rfl
  | minmax mx xs => simp only [ROp.mapX, exec, List.map_map]; rfl
  | mov | pick | box | alloc | mkSl | store | mkI | mkF | mkMap | insert | mkS | append | copy | call | iter | next | bad => simp [isG] at hg
  | _ => rfl
theorem optmap_congr {f g : RX → RX} {o : Option RX} (h : ∀ a ∈ o.toList, f a = g a) : o.map f = o.map g := by
  cases o with
  | none => rfl
  | some a => simp [h a (by simp)]
theorem mapX_congr {f g : RX → RX} (op : ROp) (hg : isG op = true) (h : ∀ x ∈ op.xs, f x = g x) : op.mapX f = op.mapX g := by
  cases op with
  | build z ps =>
    simp only [ROp.mapX]
    congr 1
    apply List.map_congr_left
    intro p hp
    rw [h p.2.2 (List.mem_map.2 ⟨p, hp, rfl⟩)]
  | slice k x lo hi mx =>
    simp only [ROp.mapX, ROp.xs] at h ⊢
    rw [h x (by simp), optmap_congr (o := lo) fun a ha => h a (by simp [ha]), optmap_congr (o := hi) fun a ha => h a (by simp [ha]), optmap_congr (o := mx) fun a ha => h a (by simp [ha])]
  | strSlice x lo hi =>
    simp only [ROp.mapX, ROp.xs] at h ⊢
    rw [h x (by simp), optmap_congr (o := lo) fun a ha => h a (by simp [ha]), optmap_congr (o := hi) fun a ha => h a (by simp [ha])]
  | minmax mx xs => simp only [ROp.mapX]; congr 1; exact List.map_congr_left h
  | mov | pick | box | alloc | mkSl | store | mkI | mkF | mkMap | insert | mkS | append | copy | call | iter | next | bad => simp [isG] at hg
  | bin op c cst x y => simp only [ROp.mapX, ROp.xs] at h ⊢; rw [h x (by simp), h y (by simp)]
  | lookup c z ok x k => simp only [ROp.mapX, ROp.xs] at h ⊢; rw [h x (by simp), h k (by simp)]
  | idxAddr k x i => simp only [ROp.mapX, ROp.xs] at h ⊢; rw [h x (by simp), h i (by simp)]
  | idxAddrA k l x i => simp only [ROp.mapX, ROp.xs] at h ⊢; rw [h x (by simp), h i (by simp)]
  | strIdx x i => simp only [ROp.mapX, ROp.xs] at h ⊢; rw [h x (by simp), h i (by simp)]
  | load n ag x | nilck x | un op x | conv k x | toBytes x | ofBytes x | ofRune x | strId x | fieldAddr off x | field off n ag x | extract j x | len c x | tassert t z ok x => simp only [ROp.mapX, ROp.xs] at h ⊢; rw [h x (by simp)]
theorem reach_nil' (σ : Nm → Option Ob) : ∀ d, reach σ d [] = [] := by
  intro d; induction d with
  | zero => rfl
  | succ d ih => simp [reach, ih]
theorem exec_g_local {d : Nat} {σ : Nm → Option Ob} {T : List PV} {op : ROp} (hg : isG op = true) (hx : ∀ x ∈ op.xs, okV (x.ev T) = true) : exec d σ T op = exec 0 (fun _ => none) T op := by
  have h1 : exec d σ T op = exec 0 σ T op := by cases op <;> simp [isG] at hg <;> rfl
  rw [h1]
  refine exec_congr op (fun _ _ => rfl) ?_
  have : namesL (op.xs.map (RX.ev T)) = [] := (okVL_names (okVL_iff.2 fun v hv => by
    obtain ⟨x, hx', rfl⟩ := List.mem_map.1 hv
    exact hx x hx')).1
  rw [this]
  intro nm hnm
  rw [reach_nil'] at hnm; cases hnm
theorem okV_fill {T : List PV} : ∀ (ps : List (Nat × Nat × RX)) (z cs : List PV), okVL z = true → (∀ x ∈ ps.map (·.2.2), okV (x.ev T) = true) → fillPV T z ps = some cs → okVL cs = true := by
  intro ps
  induction ps with
  | nil => intro z cs hz _ h; simp [fillPV] at h; subst h; exact hz
  | cons p ps ih =>
    obtain ⟨off, n, y⟩ := p
    intro z cs hz hp h
    simp only [fillPV] at h
    obtain ⟨_, h⟩ := chk_inv h
    refine ih _ cs ?_ (fun x hx => hp x (by simp only [List.map_cons, List.mem_cons]; exact .inr hx)) h
    exact okVL_append (okVL_append (okVL_take hz _) (okV_cells (hp y (by simp)))) (okVL_drop hz _)
theorem okV_sel {cs : List PV} (h : okVL cs = true) {o n : Nat} {ag : Bool} {v : PV} (hs : sel cs o n ag = some v) : okV v = true := by
  unfold sel at hs
  split at hs
  · obtain ⟨_, hs⟩ := chk_inv hs
    cases hs
    simpa [okV] using okVL_take (okVL_drop h o) n
  · exact okVL_get h hs
theorem okV_find {k : PV} : ∀ {es : List PV} {v : PV}, findE k es = some (some v) → okVL es = true → okV v = true
  | [], v, h, _ => by simp [findE] at h
  | [_], v, h, _ => by simp [findE] at h
  | a :: u :: es, v, h, he => by
    simp only [okVL, Bool.and_eq_true] at he
    simp only [findE] at h
    split at h
    · cases h; exact he.2.1
    · exact okV_find h he.2.2
    · cases h
theorem okV_sliceOf {k : Nat} {x v : PV} {lo hi mx : Option PV} (hx : okV x = true) (h : sliceOf k x lo hi mx = some v) : okV v = true := by
  cases x with
  | sl k' xs full =>
    simp only [sliceOf] at h
    split at h
    · cases h
    split at h
    · cases h
    split at h
    · cases h
    obtain ⟨_, h⟩ := chk_inv h
    cases h
    simp only [okV] at hx ⊢
    exact okVL_drop (okVL_take hx _) _
  | nilS =>
    simp only [sliceOf] at h
    split at h
    · cases h
    split at h
    · cases h
    split at h
    · cases h
    obtain ⟨_, h⟩ := chk_inv h
    cases h; rfl
  | arr nm k' o n => simp [okV] at hx
  | _ => simp [sliceOf] at h
theorem okV_bytes (s : List UInt8) : okVL (byteList s) = true := okVL_iff.2 fun x hx => by
  obtain ⟨b, _, rfl⟩ := List.mem_map.1 hx
  rfl
theorem okV_binPV {op : BinOp} {c : TC} {cst : Bool} {x y v : PV} (h : binPV op c cst x y = some v) : okV v = true := by
  have hI : ∀ {op k a b v}, binInt op k a b = some v → okV v = true := by
    intro op k a b v h
    unfold binInt at h
    split at h
    all_goals first
      | (cases h; rfl)
      | (obtain ⟨_, h⟩ := chk_inv h; cases h; rfl)
      | (obtain ⟨b, _, rfl⟩ := Option.map_eq_some_iff.1 h; rfl)
  have hS : ∀ {op a b v}, binStr op a b = some v → okV v = true := by
    intro op a b v h
    unfold binStr at h
    split at h
    all_goals first
      | (cases h; rfl)
      | (obtain ⟨_, h⟩ := chk_inv h; cases h; rfl)
      | cases h
  unfold binPV at h
  split at h
  · split at h
    · obtain ⟨_, h⟩ := chk_inv h; cases h; rfl
    · obtain ⟨_, h⟩ := chk_inv h; cases h; rfl
    · obtain ⟨_, h⟩ := chk_inv h; exact hI h
  · exact hS h
  · split at h
    · obtain ⟨b, _, rfl⟩ := Option.map_eq_some_iff.1 h; rfl
    · obtain ⟨b, _, rfl⟩ := Option.map_eq_some_iff.1 h; rfl
    · cases h
structure Plain (o : Out) : Prop where
  eq : o = { v := o.v }
  ok : okV o.v = true
theorem Plain.mk' {v : PV} (h : okV v = true) : Plain { v := v } := ⟨rfl, h⟩
theorem plain_map {x : Option PV} {out : Out} (h : (x.map fun v => ({ v := v } : Out)) = some out) (hv : ∀ v, x = some v → okV v = true) : Plain out := by
  obtain ⟨v, hx, rfl⟩ := Option.map_eq_some_iff.1 h
  exact .mk' (hv v hx)
theorem exec_plain {T : List PV} {op : ROp} (hg : isG op = true) (hx : ∀ x ∈ op.xs, okV (x.ev T) = true) (hz : ∀ z ps, op = .build z ps → okVL z = true) (hl : ∀ c z ok x k, op = .lookup c z ok x k → okV z = true)
    (ht : ∀ t z ok x, op = .tassert t z ok x → okV z = true) {out : Out} (h : exec 0 (fun _ => none) T op = some out) : Plain out := by
  cases op with
  | mov | pick | box | alloc | mkSl | store | mkI | mkF | mkMap | insert | mkS | append | copy | call | iter | next | bad => simp [isG] at hg
  | build z ps =>
    simp only [exec] at h
    split at h
    · rename_i cs hc
      cases h
      exact .mk' (by simpa [okV] using okV_fill ps z cs (hz z ps rfl) hx hc)
    · cases h
  | load n ag x =>
    have hv := hx x (by simp [ROp.xs])
    simp only [exec] at h
    split at h
    · rename_i e; rw [e] at hv; simp [okV] at hv
    · rename_i e; rw [e] at hv
      exact plain_map h fun v hs => okV_sel (by simpa [okV] using hv) hs
    · rename_i e; rw [e] at hv; simp [okV] at hv
    · cases h
  | nilck x =>
    have hv := hx x (by simp [ROp.xs])
    simp only [exec] at h
    split at h
    all_goals first
      | (rename_i e; rw [e] at hv; cases h; exact .mk' hv)
      | cases h
  | bin op c cst x y => simp only [exec] at h; exact plain_map h fun v => okV_binPV
  | un op x =>
    simp only [exec] at h
    split at h
    · cases h; exact .mk' rfl
    · cases h; exact .mk' rfl
    · cases h
  | conv k x => simp only [exec] at h; split at h; (cases h; exact .mk' rfl); cases h
  | toBytes x =>
    simp only [exec] at h; split at h
    · obtain ⟨_, h⟩ := chk_inv h; cases h; exact .mk' (by simpa [okV] using okV_bytes _)
    · cases h
  | ofBytes x =>
    simp only [exec] at h; split at h
    · split at h
      · cases h; exact .mk' rfl
      · cases h
    · cases h
  | ofRune x => simp only [exec] at h; split at h; (cases h; exact .mk' rfl); cases h
  | strId x => simp only [exec] at h; split at h; (cases h; exact .mk' rfl); cases h
  | lookup c z ok x k =>
    have hv := hx x (by simp [ROp.xs])
    have hz := hl c z ok x k rfl
    simp only [exec] at h
    have hes : ∀ es, (match x.ev T with | .mp nm => (none : Option (List PV)) | .imap es => some es | .nilM => some [] | _ => none) = some es → okVL es = true := by
      intro es he
      cases hq : x.ev T <;> rw [hq] at he hv <;> simp only [reduceCtorEq, Option.some.injEq] at he
      · subst he; rfl
      · subst he; simpa [okV] using hv
    split at h
    · cases h
    · rename_i es he
      split at h
      · cases h
      · rename_i r hr
        obtain ⟨_, h⟩ := chk_inv h
        cases h
        have hes' : okVL es = true := hes es (by revert he; cases x.ev T <;> exact id)
        have hrz : okV (r.getD z) = true := by
          cases r with
          | none => exact hz
          | some v => exact okV_find hr hes'
        refine .mk' ?_
        split
        · simp [okV, okVL, hrz]
        · exact hrz
  | slice k x lo hi mx => simp only [exec] at h; exact plain_map h fun v hs => okV_sliceOf (hx x (by simp [ROp.xs])) hs
  | strSlice x lo hi =>
    simp only [exec] at h
    split at h
    · split at h
      · cases h
      · split at h
        · cases h
        · cases h; exact .mk' rfl
    · cases h
  | fieldAddr off x =>
    have hv := hx x (by simp [ROp.xs])
    simp only [exec] at h
    split at h
    · rename_i e; rw [e] at hv; simp [okV] at hv
    · rename_i e; rw [e] at hv; obtain ⟨_, h⟩ := chk_inv h; cases h; exact .mk' (by simpa [okV] using hv)
    · rename_i e; rw [e] at hv; simp [okV] at hv
    · cases h
  | field off n ag x =>
    have hv := hx x (by simp [ROp.xs])
    simp only [exec] at h
    split at h
    · rename_i e; rw [e] at hv; exact plain_map h fun v hs => okV_sel (by simpa [okV] using hv) hs
    · cases h
  | idxAddr k x i =>
    have hv := hx x (by simp [ROp.xs])
    simp only [exec] at h
    split at h
    · rename_i e; rw [e] at hv
      split at h
      · rename_i y hy
        obtain ⟨_, h⟩ := chk_inv h; cases h
        exact .mk' (by simpa [okV] using okV_cells (okVL_get (by simpa [okV] using hv) hy))
      · cases h
    · rename_i e; rw [e] at hv; simp [okV] at hv
    · cases h
  | idxAddrA k l x i =>
    have hv := hx x (by simp [ROp.xs])
    simp only [exec] at h
    split at h
    · rename_i e; rw [e] at hv; obtain ⟨_, h⟩ := chk_inv h; cases h; exact .mk' (by simpa [okV] using hv)
    · rename_i e; rw [e] at hv; simp [okV] at hv
    · cases h
  | strIdx x i =>
    simp only [exec] at h
    split at h
    · split at h
      · cases h; exact .mk' rfl
      · cases h
    · cases h
  | extract j x =>
    have hv := hx x (by simp [ROp.xs])
    simp only [exec] at h
    split at h
    · rename_i e; rw [e] at hv
      split at h
      · rename_i v hg'
        cases h; exact .mk' (okVL_get (by simpa [okV] using hv) hg')
      · cases h
    · cases h
  | len c x => simp only [exec] at h; obtain ⟨n, _, rfl⟩ := Option.map_eq_some_iff.1 h; exact .mk' rfl
  | minmax mx xs =>
    simp only [exec] at h
    split at h
    · obtain ⟨n, _, rfl⟩ := Option.map_eq_some_iff.1 h; exact .mk' rfl
    · cases h
  | tassert t z ok x =>
    have hv := hx x (by simp [ROp.xs])
    have hz := ht t z ok x rfl
    simp only [exec] at h
    split at h
    · rename_i e; rw [e] at hv
      split at h
      · cases h
        refine .mk' ?_
        simp only [okV] at hv
        split
        · simp [okV, okVL, hv]
        · exact hv
      · obtain ⟨_, h⟩ := chk_inv h; cases h; exact .mk' (by simp [okV, okVL, hz])
    · obtain ⟨_, h⟩ := chk_inv h; cases h; exact .mk' (by simp [okV, okVL, hz])
    · cases h
end Go.Ab


namespace Go.Ab
theorem bindO_some {α β : Type} {x : Option α} {f : α → Option β} {r : β} (h : bindO x f = some r) : ∃ a, x = some a ∧ f a = some r := by
  cases x with
  | none => cases h
  | some a => exact ⟨a, rfl, h⟩
theorem chkO_some {β : Type} {b : Bool} {a : Option β} {r : β} (h : chkO b a = some r) : b = true ∧ a = some r := by
  cases b with
  | false => cases h
  | true => exact ⟨rfl, h⟩
theorem iteB_some {β : Type} {b : Bool} {x y : Option β} {r : β} (h : iteB b x y = some r) : (b = true ∧ x = some r) ∨ (b = false ∧ y = some r) := by
  cases b with
  | false => exact .inr ⟨rfl, h⟩
  | true => exact .inl ⟨rfl, h⟩
theorem iteP_some {β : Type} {v : PV} {x y : Option β} {r : β} (h : iteP v x y = some r) : (v = .bool true ∧ x = some r) ∨ (v = .bool false ∧ y = some r) := by
  unfold iteP at h
  split at h
  · exact .inl ⟨rfl, h⟩
  · exact .inr ⟨rfl, h⟩
  · cases h
theorem leN_iff {a b : Nat} : leN a b = true ↔ a ≤ b := by unfold leN; rw [Nat.ble_eq]
theorem ltN_iff {a b : Nat} : ltN a b = true ↔ a < b := by unfold ltN; rw [Nat.blt_eq]
theorem eqN_iff {a b : Nat} : eqN a b = true ↔ a = b := by unfold eqN; rw [Nat.beq_eq]
def Tells {R : Type} (K : KOut → Option R) (r : R) (x : Option Out) : Prop := ∃ out : KOut, K out = some r ∧ out.Ok ∧ x = some out.out
theorem KOut.plain {v : KV} (h : v.ok) : KOut.Ok { v } := ⟨h, by simp, by simp, by simp⟩
theorem KOut.one {v : KV} {o : KOb} (h : v.ok) (ho : o.ok) : KOut.Ok { v, new := [o] } := ⟨h, by simpa using ho, by simp, by simp⟩
theorem KOut.turn {v : KV} {nm : Nm} {o : KOb} (h : v.ok) (ho : o.ok) : KOut.Ok { v, upd := some (nm, o) } := ⟨h, by simp, fun _ _ e => (by cases e; exact ho), by simp⟩
variable {ks : KSt} {d : Nat} {R : Type} {K : KOut → Option R} {r : R}
theorem ops_ok (h : ks.Ok) {xs : List RX} (hx : xs.all okX = true) {x : RX} (hm : x ∈ xs) : (x.kv ks.tmps).ok := kv_ok h (List.all_eq_true.1 hx x hm)
theorem cl_ev (h : ks.Ok) {x : RX} {v : PV} (hv : (x.kv ks.tmps).cl = some v) : x.ev ks.st.tmps = v := by rw [st_ev h, KV.cl_pv hv]
theorem gO_ok (h : ks.Ok) {op : ROp} (hx : op.xs.all okX = true) (hk : gO ks.tmps op K = some r) : Tells K r (exec d (look ks.st.objs) ks.st.tmps op) := by
  unfold gO at hk
  split at hk
  · rename_i hc
    simp only [Bool.and_eq_true] at hc
    obtain ⟨⟨hg, hop⟩, hcl⟩ := hc
    obtain ⟨z, hz, hk⟩ := bindO_some hk
    have hall : ∀ x ∈ op.xs, ∃ v, (x.kv ks.tmps).cl = some v := fun x hm => Option.isSome_iff_exists.1 (List.all_eq_true.1 hcl x hm)
    have hev : ∀ x ∈ op.xs, okV (x.ev ks.st.tmps) = true := fun x hm => by
      obtain ⟨v, hv⟩ := hall x hm
      rw [cl_ev h hv]; exact KV.cl_ok (ops_ok h hx hm) hv
    have hmap : op.mapX (instX ks.tmps) = op.mapX (fun x => .c (x.ev ks.st.tmps)) := mapX_congr op hg fun x hm => by
      obtain ⟨v, hv⟩ := hall x hm
      unfold instX; rw [hv, cl_ev h hv]; rfl
    unfold pureO at hz
    rw [hmap, exec_inst _ _ _ _ hg] at hz
    split at hz
    · rename_i out ho
      cases hz
      have hp := exec_plain hg hev (fun z ps e => by subst e; exact hop) (fun c z ok x k e => by subst e; exact hop) (fun t z ok x e => by subst e; exact hop) ho
      refine ⟨{ v := .cv out.v }, hk, KOut.plain hp.ok, ?_⟩
      rw [exec_g_local hg hev, ho, hp.eq]
      rfl
    · cases hz
  · cases hk
theorem cellsK_ok {n : Nat} {x : KV} (hx : x.ok) {K : List KV → Option R} (hk : cellsK n x K = some r) : ∃ cs, K cs = some r ∧ okKL cs ∧ pvL cs = x.pv.cells ∧ cs.length = n ∧ x.pv.isVal = true := by
  unfold cellsK at hk
  split at hk
  · split at hk
    · rename_i hn; exact ⟨_, hk, hx, rfl, hn, rfl⟩
    · cases hk
  · rename_i v
    obtain ⟨h1, h2⟩ := chkO_some hk
    unfold okCells at h1
    simp only [Bool.and_eq_true, beq_iff_eq] at h1
    refine ⟨_, h2, ?_, ?_, by simp, h1.1⟩
    · refine okKL_mem.2 fun y hy => ?_
      obtain ⟨i, hi, rfl⟩ := List.mem_map.1 hy
      have hv : okV v = true := hx
      show okV (cellP v i) = true
      unfold cellP
      rw [List.getD_eq_getElem?_getD]
      cases hg : v.cells[i]? with
      | none => rfl
      | some c => exact okVL_get (okV_cells hv) hg
    · rw [pvL_map, List.map_map]
      show _ = v.cells
      apply List.ext_getElem?
      intro i
      rw [List.getElem?_map]
      by_cases hi : i < n
      · rw [List.getElem?_range hi]
        show some (cellP v i) = _
        unfold cellP
        rw [List.getD_eq_getElem?_getD]
        have : i < v.cells.length := by omega
        simp [List.getElem?_eq_getElem this]
      · rw [List.getElem?_eq_none (by simpa using hi), List.getElem?_eq_none (by omega)]; rfl
  · cases hk
  · cases hk
  · cases hk
  · rename_i h1 h2 h3 h4 h5
    split at hk
    · rename_i hn
      refine ⟨_, hk, ⟨hx, trivial⟩, ?_, by simp [hn], ?_⟩
      · simp only [pvL]
        cases x <;> simp_all [KV.pv, PV.cells]
      · cases x <;> simp_all [KV.pv, PV.isVal]
    · cases hk
theorem okKL_take {l : List KV} (h : okKL l) (n : Nat) : okKL (l.take n) := okKL_mem.2 fun x hx => okKL_mem.1 h x (List.mem_of_mem_take hx)
theorem okKL_drop {l : List KV} (h : okKL l) (n : Nat) : okKL (l.drop n) := okKL_mem.2 fun x hx => okKL_mem.1 h x (List.mem_of_mem_drop hx)
theorem okKL_append {l m : List KV} (h : okKL l) (h' : okKL m) : okKL (l ++ m) := okKL_mem.2 fun x hx => (List.mem_append.1 hx).elim (okKL_mem.1 h x) (okKL_mem.1 h' x)
theorem pvL_take (l : List KV) (n : Nat) : pvL (l.take n) = (pvL l).take n := by rw [pvL_map, pvL_map, List.map_take]
theorem pvL_drop (l : List KV) (n : Nat) : pvL (l.drop n) = (pvL l).drop n := by rw [pvL_map, pvL_map, List.map_drop]
theorem pvL_append (l m : List KV) : pvL (l ++ m) = pvL l ++ pvL m := by rw [pvL_map, pvL_map, pvL_map, List.map_append]
theorem pvL_length (l : List KV) : (pvL l).length = l.length := by rw [pvL_map, List.length_map]
theorem pvL_get? (l : List KV) (i : Nat) : (pvL l)[i]? = (l[i]?).map KV.pv := by rw [pvL_map, List.getElem?_map]
theorem kfill_ok (h : ks.Ok) : ∀ (ps : List (Nat × Nat × RX)) {z : List KV} {K : List KV → Option R}, (∀ x ∈ ps.map (·.2.2), okX x = true) → okKL z → kfill ks.tmps z ps K = some r → ∃ cs, K cs = some r ∧ okKL cs ∧ fillPV ks.st.tmps (pvL z) ps = some (pvL cs) := by
  intro ps
  induction ps with
  | nil => intro z K _ hz hk; exact ⟨z, hk, hz, rfl⟩
  | cons p ps ih =>
    obtain ⟨off, n, x⟩ := p
    intro z K hx hz hk
    simp only [kfill] at hk
    obtain ⟨cs, hk, hcs, hpv, hlen, hval⟩ := cellsK_ok (kv_ok h (hx x (by simp))) hk
    split at hk
    · rename_i hle
      obtain ⟨cs', h1, h2, h3⟩ := ih (fun y hy => hx y (by simp only [List.map_cons, List.mem_cons]; exact .inr hy)) (okKL_append (okKL_append (okKL_take hz _) hcs) (okKL_drop hz _)) hk
      refine ⟨cs', h1, h2, ?_⟩
      have hl2 : (pvL cs).length = n := by rw [pvL_length, hlen]
      have hval' : (x.ev ks.st.tmps).isVal = true := by rw [st_ev h]; exact hval
      have hcl' : (x.ev ks.st.tmps).cells = pvL cs := by rw [st_ev h]; exact hpv.symm
      simp only [fillPV]
      rw [hcl']
      unfold chk splice
      simp only [hval', hl2, pvL_length, decide_true, Bool.and_self, Bool.true_and, hle, if_true]
      rw [pvL_append, pvL_append, pvL_take, pvL_drop] at h3
      exact h3
    · cases hk
theorem elemsK_ok (h : ks.Ok) {k : Nat} {x : KV} (hx : x.ok) {K : List PV → Option R} (hk : elemsK (klook ks.objs) k x K = some r) : ∃ ys, K ys = some r ∧ okVL ys = true ∧ elems (look ks.st.objs) k x.pv = some ys := by
  unfold elemsK at hk
  split at hk
  · rename_i nm k' o n
    split at hk
    · rename_i k'' kt xs hl
      split at hk
      · rename_i hkk
        obtain ⟨h1, h2⟩ := chkO_some hk
        rw [leN_iff] at h1
        have hok : okVL xs = true := klook_ok h.ob hl
        refine ⟨_, h2, okVL_take (okVL_drop hok _) _, ?_⟩
        have hl' : look ks.st.objs nm = some (.arr k'' kt xs) := by rw [st_look h, hl]; rfl
        unfold addN lenL at h1
        simp [KV.pv, elems, hl', chk, hkk.1, hkk.2, h1, takeL, dropL]
      · cases hk
    · cases hk
  · split at hk
    · rename_i v hv
      obtain ⟨ys, h1, h2⟩ := bindO_some hk
      have hok := KV.cl_ok hx hv
      have hpv := KV.cl_pv hv
      unfold elemsO at h1
      have h3 : elems (look ks.st.objs) k v = some ys := by
        rw [← h1]
        exact elems_congr (by rw [(okV_iff hok).1]; simp)
      refine ⟨ys, h2, ?_, by rw [hpv]; exact h3⟩
      cases v with
      | sl k' xs f => simp only [elems] at h1; obtain ⟨_, h1⟩ := chk_inv h1; cases h1; simpa [okV] using hok
      | nilS => cases h1; rfl
      | str s => simp only [elems] at h1; obtain ⟨_, h1⟩ := chk_inv h1; cases h1; exact okV_bytes _
      | arr nm k' o n => simp [okV] at hok
      | _ => simp [elems] at h1
    · cases hk
theorem dst_names {xs : List KV} (hx : okKL xs) : (namesL (pvL xs)).isEmpty = (knamesL xs).isEmpty := by rw [pvL_names hx]
theorem kreach_eq {σ : Nm → Option KOb} (hσ : ∀ nm o, σ nm = some o → o.ok) : ∀ (d : Nat) (l : List Nm), kreach σ d l = reach (fun nm => (σ nm).map KOb.ob) d l := by
  intro d
  induction d with
  | zero => intro l; rfl
  | succ d ih =>
    intro l
    simp only [kreach, reach]
    have e : (l.flatMap fun nm => ((σ nm).map KOb.names).getD []) = l.flatMap fun nm => (((σ nm).map KOb.ob).map Ob.names).getD [] := by
      congr 1
      funext nm
      cases ho : σ nm with
      | none => rfl
      | some o => simp [KOb.ob_names (hσ _ _ ho)]
    rw [ih, e]
theorem names_eq {σ : Nm → Option KOb} (hσ : ∀ nm o, σ nm = some o → o.ok) (nm : Nm) : ((σ nm).map KOb.names).getD [] = (((σ nm).map KOb.ob).map Ob.names).getD [] := by
  cases ho : σ nm with
  | none => rfl
  | some o => simp [KOb.ob_names (hσ _ _ ho)]
theorem kshut_eq {σ : Nm → Option KOb} (hσ : ∀ nm o, σ nm = some o → o.ok) (R : List Nm) : kshut σ R = shutR (fun nm => (σ nm).map KOb.ob) R := by
  unfold kshut shutR
  congr 1
  funext nm
  simp only
  rw [names_eq hσ]
theorem closeL_st (h : ks.Ok) {xs : List KV} (hx : okKL xs) : closeL (kclosed (klook ks.objs) deepest) xs = subL (closed (look ks.st.objs)) (pvL xs) := by
  rw [closeL_pv _ hx]
  congr 1
  funext nm
  exact kclosed_st h nm
theorem map_ev (h : ks.Ok) (ps : List RX) : ps.map (RX.ev ks.st.tmps) = pvL (ps.map (RX.kv ks.tmps)) := by
  rw [pvL_map, List.map_map]
  exact List.map_congr_left fun x _ => st_ev h x
theorem map_ok (h : ks.Ok) {ps : List RX} (hx : ps.all okX = true) : okKL (ps.map (RX.kv ks.tmps)) := okKL_mem.2 fun v hv => by
  obtain ⟨x, hm, rfl⟩ := List.mem_map.1 hv
  exact ops_ok h hx hm
theorem okVL_replicate {z : PV} (hz : okV z = true) (n : Nat) : okVL (List.replicate n z) = true := okVL_iff.2 fun x hx => by rw [(List.mem_replicate.1 hx).2]; exact hz
theorem okKL_cst {z : List PV} (hz : okVL z = true) : okKL (z.map cstK) := okKL_mem.2 fun v hv => by
  obtain ⟨x, hm, rfl⟩ := List.mem_map.1 hv
  exact cstK_ok (okVL_iff.1 hz x hm)
theorem pvL_cst (z : List PV) : pvL (z.map cstK) = z := by
  rw [pvL_map, List.map_map]
  have : KV.pv ∘ cstK = id := funext fun v => cstK_pv v
  rw [this, List.map_id]
theorem okVL_setE {k v : PV} : ∀ {es es' : List PV}, setE k v es = some es' → okVL es = true → okV k = true → okV v = true → okVL es' = true
  | [], es', h, _, hk, hv => by simp [setE] at h; subst h; simp [okVL, hk, hv]
  | [_], es', h, _, _, _ => by simp [setE] at h
  | a :: u :: es, es', h, he, hk, hv => by
    simp only [okVL, Bool.and_eq_true] at he
    simp only [setE] at h
    split at h
    · cases h; simp [okVL, hk, hv, he.2.2]
    · obtain ⟨l, hl, rfl⟩ := Option.map_eq_some_iff.1 h
      simp [okVL, he.1, he.2.1, okVL_setE hl he.2.2 hk hv]
    · cases h
end Go.Ab


namespace Go.Ab
variable {ks : KSt} {d : Nat} {R : Type} {K : KOut → Option R} {r : R}
theorem cells_agg (cs : List PV) : (PV.agg cs).cells = cs := rfl
theorem execK_ok (h : ks.Ok) (hq : kquiet ks.objs = true) {op : ROp} (hx : op.xs.all okX = true) (hk : execK d (klook ks.objs) ks.tmps op K = some r) : Tells K r (exec d (look ks.st.objs) ks.st.tmps op) := by
  have ev := st_ev h
  have lk := st_look h
  have hkv : ∀ {x : RX}, x ∈ op.xs → (x.kv ks.tmps).ok := fun hm => ops_ok h hx hm
  cases op with
  | mov x =>
    refine ⟨_, hk, KOut.plain (hkv (by simp [ROp.xs])), ?_⟩
    simp [exec, KOut.out, ev]
  | pick c a b =>
    have ha := hkv (x := a) (by simp [ROp.xs])
    have hb := hkv (x := b) (by simp [ROp.xs])
    simp only [execK] at hk
    split at hk
    · rename_i hc
      exact ⟨_, hk, KOut.plain ha, by simp [exec, KOut.out, ev, hc, KV.pv]⟩
    · rename_i hc
      exact ⟨_, hk, KOut.plain hb, by simp [exec, KOut.out, ev, hc, KV.pv]⟩
    · rename_i v hc
      rcases iteP_some hk with ⟨rfl, hk⟩ | ⟨rfl, hk⟩
      · exact ⟨_, hk, KOut.plain ha, by simp [exec, KOut.out, ev, hc, KV.pv]⟩
      · exact ⟨_, hk, KOut.plain hb, by simp [exec, KOut.out, ev, hc, KV.pv]⟩
    · cases hk
  | box x =>
    have ha := hkv (x := x) (by simp [ROp.xs])
    simp only [execK] at hk
    split at hk
    · rename_i v hv
      obtain ⟨h1, hk⟩ := chkO_some hk
      rw [hv] at ha
      unfold valO at h1
      exact ⟨_, hk, KOut.one (o := .whole 0 v) trivial ha, by simp [exec, KOut.out, ev, hv, KV.pv, chk, h1, KOb.ob, cellsP]⟩
    · rename_i cs hv
      rw [hv] at ha
      exact ⟨_, hk, KOut.one (o := .cells 0 cs) trivial ha, by simp [exec, KOut.out, ev, hv, KV.pv, chk, PV.isVal, KOb.ob, PV.cells]⟩
    · cases hk
    · cases hk
    · cases hk
    · refine ⟨_, hk, KOut.one (v := .ref (d, 0) 0) (o := .cells 0 [x.kv ks.tmps]) trivial ⟨ha, trivial⟩, ?_⟩
      simp only [exec, KOut.out, ev]
      cases hy : x.kv ks.tmps <;> simp_all [KV.pv, chk, PV.isVal, KOb.ob, PV.cells, pvL]
  | alloc ty z =>
    simp only [execK] at hk
    split at hk
    · rename_i hz
      exact ⟨_, hk, KOut.one (o := .cells _ (z.map cstK)) trivial (okKL_cst hz), by simp [exec, KOut.out, KV.pv, KOb.ob, pvL_cst]⟩
    · cases hk
  | build z ps =>
    simp only [execK] at hk
    split at hk
    · exact gO_ok h hx hk
    · split at hk
      · rename_i hz
        obtain ⟨cs, h1, h2, h3⟩ := kfill_ok h ps (fun x hm => List.all_eq_true.1 hx x hm) (okKL_cst hz) hk
        rw [pvL_cst] at h3
        exact ⟨_, h1, KOut.plain (v := .agg cs) h2, by simp [exec, KOut.out, h3, KV.pv]⟩
      · cases hk
  | mkSl k ps =>
    have hok := map_ok h (ps := ps) hx
    simp only [execK] at hk
    split at hk
    · rename_i vs hv
      obtain ⟨h1, hk⟩ := chkO_some hk
      have hpv := clL_pv hv
      refine ⟨_, hk, KOut.one (o := .arr k 0 vs) trivial (clL_ok hok hv), ?_⟩
      have hn : (namesL vs).isEmpty = true := by rw [(okVL_names (clL_ok hok hv)).1]; rfl
      unfold okSls at h1
      simp only [exec, map_ev h, hpv, hn, if_true, KOut.out, KV.pv, KOb.ob, chk, h1, lenL, List.map_cons, List.map_nil, Option.map_none]
    · split at hk
      · cases hk
      · rename_i hne
        split at hk
        · rename_i hc
          obtain ⟨h1, hk⟩ := chkO_some hk
          refine ⟨_, hk, ⟨trivial, ?_, by simp, by simp⟩, ?_⟩
          · intro o ho
            simp only [List.mem_singleton] at ho
            subst ho
            exact closeL_ok (kclosed_shut (klook_okF h) (quiet_look hq) deepest) hok hc.2
          · have hne' : (namesL (pvL (ps.map (RX.kv ks.tmps)))).isEmpty = false := by rw [dst_names hok]; simpa using hne
            unfold okSls at h1
            rw [closeL_st h hok] at h1
            have hsh := hc.1
            rw [kreach_eq (klook_okF h), kshut_eq (klook_okF h), ← st_lookF h, ← pvL_names hok] at hsh
            simp only [exec, map_ev h, hne', Bool.false_eq_true, if_false, KOut.out, KV.pv, KOb.ob, lenL, List.map_cons, List.map_nil, Option.map_none]
            rw [closeL_st h hok, kreach_eq (klook_okF h), ← st_lookF h, ← pvL_names hok]
            unfold chk
            rw [h1, hsh]
            rfl
        · cases hk
  | load n ag x =>
    have ha := hkv (x := x) (by simp [ROp.xs])
    simp only [execK] at hk
    split at hk
    · rename_i nm o hv
      split at hk
      · rename_i cs hl
        have hcs : okKL cs := klook_ok h.ob hl
        split at hk
        · rename_i hag
          split at hk
          · rename_i hle
            refine ⟨_, hk, KOut.plain (v := .agg ((cs.drop o).take n)) (okKL_take (okKL_drop hcs _) _), ?_⟩
            simp [exec, ev, hv, KV.pv, lk, hl, KOb.ob, sel, hag, chk, pvL_length, hle, KOut.out, pvL_take, pvL_drop]
          · cases hk
        · rename_i hag
          split at hk
          · rename_i c hc
            refine ⟨_, hk, KOut.plain (okKL_mem.1 hcs c (List.mem_of_getElem? hc)), ?_⟩
            simp [exec, ev, hv, KV.pv, lk, hl, KOb.ob, sel, hag, pvL_get?, hc, KOut.out]
          · cases hk
      · rename_i v hl
        obtain ⟨z, hz, hk⟩ := bindO_some hk
        have hv' : okV v = true := klook_ok h.ob hl
        unfold selO at hz
        refine ⟨_, hk, KOut.plain (v := .cv z) (okV_sel (okV_cells hv') hz), ?_⟩
        simp [exec, ev, hv, KV.pv, lk, hl, KOb.ob, cellsP, hz, KOut.out]
      · cases hk
    · rename_i nm k i o hv
      split at hk
      · rename_i k' kt xs hl
        split at hk
        · rename_i hkk
          obtain ⟨z, hz, hk⟩ := bindO_some hk
          have hxs : okVL xs = true := klook_ok h.ob hl
          unfold elemO at hz
          split at hz
          · rename_i e he
            refine ⟨_, hk, KOut.plain (v := .cv z) (okV_sel (okV_cells (okVL_get hxs he)) hz), ?_⟩
            simp [exec, ev, hv, KV.pv, lk, hl, KOb.ob, he, hz, chk, hkk, KOut.out]
          · cases hz
        · cases hk
      · cases hk
    · exact gO_ok h hx hk
  | store n x v =>
    have ha := hkv (x := x) (by simp [ROp.xs])
    have hb := hkv (x := v) (by simp [ROp.xs])
    simp only [execK] at hk
    split at hk
    · rename_i nm o hv
      split at hk
      · rename_i cs hl
        have hcs : okKL cs := klook_ok h.ob hl
        obtain ⟨vs, hk, hvs, hpv, hlen, hval⟩ := cellsK_ok hb hk
        split at hk
        · rename_i hle
          refine ⟨_, hk, KOut.turn (o := .cells _ (cs.take o ++ vs ++ cs.drop (o + n))) trivial (okKL_append (okKL_append (okKL_take hcs _) hvs) (okKL_drop hcs _)), ?_⟩
          have hl2 : (pvL vs).length = n := by rw [pvL_length, hlen]
          simp [exec, ev, hv, KV.pv, lk, hl, KOb.ob, ← hpv, hval, hl2, chk, pvL_length, hle, KOut.out, splice, pvL_append, pvL_take, pvL_drop]
        · cases hk
      · rename_i w hl
        split at hk
        · rename_i u hu
          obtain ⟨h1, hk⟩ := chkO_some hk
          have hw : okV w = true := klook_ok h.ob hl
          have huo := KV.cl_ok hb hu
          unfold okSto at h1
          simp only [Bool.and_eq_true, decide_eq_true_eq] at h1
          refine ⟨_, hk, KOut.turn (o := .whole _ (stoP u w o)) trivial ?_, ?_⟩
          · show okV (stoP u w o) = true
            simpa [stoP, okV, splice] using okVL_append (okVL_take (okV_cells hw) o) (okVL_append (okV_cells huo) (okVL_drop (okV_cells hw) _))
          · have hpv := KV.cl_pv hu
            simp [exec, ev, hv, KV.pv, lk, hl, KOb.ob, cellsP, hpv, h1.1.1, h1.1.2, h1.2, chk, KOut.out, stoP, cells_agg]
        · cases hk
      · cases hk
    · rename_i nm k i o hv
      split at hk
      · rename_i k' kt xs hl
        split at hk
        · rename_i u hu
          split at hk
          · rename_i hkk
            obtain ⟨ys, hys, hk⟩ := bindO_some hk
            have hxs : okVL xs = true := klook_ok h.ob hl
            have huo := KV.cl_ok hb hu
            have hpv := KV.cl_pv hu
            unfold setO at hys
            split at hys
            · rename_i es he
              obtain ⟨h1, h2⟩ := chkO_some hys
              cases h2
              simp only [Bool.and_eq_true, decide_eq_true_eq] at h1
              have heo : okVL es = true := by simpa [okV] using okVL_get hxs he
              refine ⟨_, hk, KOut.turn (o := .arr k kt _) trivial ?_, ?_⟩
              · refine okVL_set hxs i ?_
                simpa [okV, splice] using okVL_append (okVL_take heo o) (okVL_append (okV_cells huo) (okVL_drop heo _))
              · have hn : (namesL u.cells).isEmpty = true := by rw [(okVL_names (okV_cells huo)).1]; rfl
                simp [exec, ev, hv, KV.pv, lk, hl, KOb.ob, he, hpv, h1.1.1, h1.1.2, h1.2, chk, hkk, KOut.out]
                rw [(okVL_names (okV_cells huo)).1]
            · rename_i e hne he
              obtain ⟨h1, h2⟩ := chkO_some hys
              cases h2
              simp only [Bool.and_eq_true, beq_iff_eq] at h1
              refine ⟨_, hk, KOut.turn (o := .arr k kt _) trivial (okVL_set hxs i huo), ?_⟩
              have hn : u.names = [] := (okV_iff huo).1
              simp only [exec, ev, hv, KV.pv, lk, hl, Option.map_some, KOb.ob, he, hpv]
              subst hkk
              simp [chk, h1.1.1.1, h1.1.1.2, h1.1.2, h1.2, hn, KOut.out, KOb.ob, KV.pv]
            · cases hys
          · cases hk
        · cases hk
      · cases hk
    · cases hk
  | nilck x =>
    have ha := hkv (x := x) (by simp [ROp.xs])
    simp only [execK] at hk
    split at hk
    · rename_i hv; exact ⟨_, hk, KOut.plain (by trivial), by simp [exec, ev, hv, KV.pv, KOut.out]⟩
    · rename_i hv; exact ⟨_, hk, KOut.plain (by trivial), by simp [exec, ev, hv, KV.pv, KOut.out]⟩
    · rename_i hv; rw [hv] at ha; exact ⟨_, hk, KOut.plain ha, by simp [exec, ev, hv, KV.pv, KOut.out]⟩
    · rename_i hv; exact ⟨_, hk, KOut.plain (by trivial), by simp [exec, ev, hv, KV.pv, KOut.out]⟩
    · exact gO_ok h hx hk
  | bin o c cst x y =>
    simp only [execK] at hk
    split at hk
    · rename_i nm o' v h1 h2
      split at hk
      · rcases iteB_some hk with ⟨hc, hk⟩ | ⟨_, hk⟩
        · split at hc
          · refine ⟨_, hk, KOut.plain (v := .lit false) trivial, ?_⟩
            simp [exec, ev, h1, h2, KV.pv, binPV, eqNil, KOut.out]
          · cases hc
        · cases hk
      · rcases iteB_some hk with ⟨hc, hk⟩ | ⟨_, hk⟩
        · split at hc
          · refine ⟨_, hk, KOut.plain (v := .lit true) trivial, ?_⟩
            simp [exec, ev, h1, h2, KV.pv, binPV, eqNil, KOut.out]
          · cases hc
        · cases hk
      · cases hk
    · exact gO_ok h hx hk
  | un o x =>
    cases o with
    | not =>
      simp only [execK] at hk
      split at hk
      · rename_i b hv
        exact ⟨_, hk, KOut.plain (v := .lit (!b)) trivial, by simp [exec, ev, hv, KV.pv, KOut.out]⟩
      · exact gO_ok h hx hk
    | _ => exact gO_ok h hx hk
  | mkI t x =>
    have ha := hkv (x := x) (by simp [ROp.xs])
    simp only [execK] at hk
    split at hk
    · rename_i v hv
      refine ⟨_, hk, KOut.plain (v := .cv (.iface t v)) ?_, ?_⟩
      · show okV (.iface t v) = true
        simpa [okV] using KV.cl_ok ha hv
      · simp [exec, ev, KV.cl_pv hv, KV.pv, KOut.out]
    · split at hk
      · cases hk
      · cases hk
      · cases hk
      · cases hk
      · exact ⟨_, hk, KOut.plain (v := .iface t (x.kv ks.tmps)) ha, by simp [exec, ev, KV.pv, KOut.out]⟩
  | mkF f cap =>
    simp only [execK] at hk
    split at hk
    · refine ⟨_, hk, KOut.plain (v := .fn f (cap.map (RX.kv ks.tmps))) (map_ok h hx), ?_⟩
      simp [exec, KOut.out, KV.pv, map_ev h]
    · cases hk
  | mkMap => exact ⟨_, hk, KOut.one (o := .map []) trivial rfl, by simp [exec, KOut.out, KV.pv, KOb.ob]⟩
  | insert c x k v =>
    have hb := hkv (x := k) (by simp [ROp.xs])
    have hc := hkv (x := v) (by simp [ROp.xs])
    simp only [execK] at hk
    split at hk
    · rename_i nm hv
      split at hk
      · rename_i es kk vv hl h1 h2
        obtain ⟨es', he, hk⟩ := bindO_some hk
        have hes : okVL es = true := klook_ok h.ob hl
        have hko := KV.cl_ok hb h1
        have hvo := KV.cl_ok hc h2
        unfold insO at he
        split at he
        · rename_i es2 hs
          obtain ⟨h3, h4⟩ := chkO_some he
          cases h4
          simp only [Bool.and_eq_true] at h3
          refine ⟨_, hk, KOut.turn (o := .map es') trivial (okVL_setE hs hes hko hvo), ?_⟩
          have hn : vv.names = [] := (okV_iff hvo).1
          simp [exec, ev, hv, KV.pv, lk, hl, KOb.ob, KV.cl_pv h1, KV.cl_pv h2, hs, chk, h3.1, h3.2, hn, KOut.out]
        · cases he
      · rename_i es kk hl h1 h2
        split at hk
        · cases hk
        · rename_i hne
          split at hk
          · rename_i hcond
            obtain ⟨hsh, hy, hcn⟩ := hcond
            obtain ⟨es', he, hk⟩ := bindO_some hk
            have hes : okVL es = true := klook_ok h.ob hl
            have hko := KV.cl_ok hb h1
            have hok1 : okKL [v.kv ks.tmps] := ⟨hc, trivial⟩
            have hcl := closeL_st h hok1
            have hclo := closeL_ok (kclosed_shut (klook_okF h) (quiet_look hq) deepest) hok1 hy
            have e1 : nth (closeL (kclosed (klook ks.objs) deepest) [v.kv ks.tmps]) 0 = ((v.kv ks.tmps).pv).sub (closed (look ks.st.objs)) := by
              rw [hcl]; simp [pvL, subL, nth]
            have hvo : okV (((v.kv ks.tmps).pv).sub (closed (look ks.st.objs))) = true := by
              rw [← e1]
              rw [hcl] at hclo ⊢
              exact (Bool.and_eq_true_iff.1 hclo).1
            rw [e1] at he
            have hn2 : ((v.kv ks.tmps).pv).names.isEmpty = false := by
              rw [KV.pv_names hc]; simpa [knamesL] using hne
            have hrch : kreach (klook ks.objs) deepest (knamesL [v.kv ks.tmps]) = reach (look ks.st.objs) deepest ((v.kv ks.tmps).pv).names := by
              rw [kreach_eq (klook_okF h), ← st_lookF h, KV.pv_names hc]; simp [knamesL]
            rw [hrch, kshut_eq (klook_okF h), ← st_lookF h] at hsh
            rw [hrch] at hcn hk
            have hcn' : ¬ nm ∈ reach (look ks.st.objs) deepest ((v.kv ks.tmps).pv).names := fun hm => by rw [List.contains_iff_mem.2 hm] at hcn; cases hcn
            unfold insO at he
            split at he
            · rename_i es2 hs
              obtain ⟨h3, h4⟩ := chkO_some he
              cases h4
              simp only [Bool.and_eq_true] at h3
              refine ⟨_, hk, ⟨trivial, by simp, fun m o' e => by cases e; exact okVL_setE hs hes hko hvo, by simp⟩, ?_⟩
              simp [exec, ev, hv, KV.pv, lk, hl, KOb.ob, KV.cl_pv h1, hn2, hs, chk, h3.1, h3.2, hsh, hcn', KOut.out]
            · cases he
          · cases hk
      · cases hk
    · cases hk
  | lookup c z ok x k =>
    have hb := hkv (x := k) (by simp [ROp.xs])
    simp only [execK] at hk
    split at hk
    · rename_i nm hv
      split at hk
      · rename_i es kk hl h1
        split at hk
        case isFalse => cases hk
        rename_i hz
        obtain ⟨u, hu, hk⟩ := bindO_some hk
        have hes : okVL es = true := klook_ok h.ob hl
        unfold lookO at hu
        split at hu
        · cases hu
        · rename_i r' hr
          obtain ⟨h3, h4⟩ := chkO_some hu
          cases h4
          have hrz : okV (r'.getD z) = true := by
            cases r' with
            | none => exact hz
            | some v => exact okV_find hr hes
          refine ⟨_, hk, KOut.plain (v := .cv _) ?_, ?_⟩
          · show okV _ = true
            split
            · simp [okV, okVL, hrz]
            · exact hrz
          · simp [exec, ev, hv, KV.pv, lk, hl, KOb.ob, KV.cl_pv h1, hr, chk, h3, KOut.out]
      · cases hk
    · exact gO_ok h hx hk
  | mkS k z l c =>
    simp only [execK] at hk
    split at hk
    · rename_i lv cv hl hc
      split at hk
      · rename_i hz
        obtain ⟨n, hn, hk⟩ := bindO_some hk
        unfold mkSO at hn
        split at hn
        · rename_i a b h1 h2
          obtain ⟨h3, h4⟩ := chkO_some hn
          cases h4
          refine ⟨_, hk, KOut.one (o := .arr k 0 (replL _ z)) trivial (okVL_replicate hz.2 _), ?_⟩
          simp only [Bool.and_eq_true, decide_eq_true_eq] at h3
          simp [exec, ev, KV.cl_pv hl, KV.cl_pv hc, h1, h2, chk, h3.1, h3.2, hz.1, KOut.out, KV.pv, KOb.ob, replL]
        · cases hn
      · cases hk
    · cases hk
  | slice k x lo hi mx =>
    simp only [execK] at hk
    split at hk
    · rename_i nm k' o n hv
      split at hk
      · rename_i hc
        obtain ⟨hkk, hmx, hall⟩ := hc
        obtain ⟨m, hm, hk⟩ := bindO_some hk
        obtain ⟨hh, hhi, hk⟩ := bindO_some hk
        have hev : ∀ (y : Option RX), (∀ z ∈ y.toList, z ∈ lo.toList ++ hi.toList ++ mx.toList) → (y.map fun z => ((z.kv ks.tmps).cl).getD .undef) = evO ks.st.tmps y := by
          intro y hy
          cases y with
          | none => rfl
          | some z =>
            have := List.all_eq_true.1 hall z (hy z (by simp))
            obtain ⟨v, hv⟩ := Option.isSome_iff_exists.1 this
            simp [evO, hv, ev, KV.cl_pv hv]
        rw [hev mx (fun z hz => by simp only [List.mem_append]; exact .inr hz)] at hm
        rw [hev hi (fun z hz => by simp only [List.mem_append]; exact .inl (.inr hz))] at hhi
        unfold boundO at hm hhi
        subst hkk
        have hmx' : ((mx.map (RX.ev ks.st.tmps)).isNone || (hi.map (RX.ev ks.st.tmps)).isSome) = true := by
          rcases hmx with e | e
          · cases mx with
            | none => rfl
            | some _ => cases e
          · cases hi with
            | none => cases e
            | some _ => simp
        have hevO : ∀ y : Option RX, evO ks.st.tmps y = y.map (RX.ev ks.st.tmps) := fun y => by cases y <;> rfl
        rw [hevO] at hm hhi
        cases lo with
        | none =>
          refine ⟨_, hk, KOut.plain (v := .arr nm k o hh) trivial, ?_⟩
          have hb0 : bound (none : Option PV) 0 hh = some 0 := rfl
          simp only [exec, ev, hv, KV.pv, sliceOf, hevO, hm, hhi, Option.map_none, hb0, chk, beq_self_eq_true, Bool.true_and, hmx', if_true, KOut.out]
          simp
        | some lo' =>
          obtain ⟨l, hl, hk⟩ := bindO_some hk
          have hlo := hev (some lo') (by simp)
          simp only [Option.map_some] at hlo
          rw [hlo] at hl
          unfold boundO at hl
          rw [hevO] at hl
          rcases iteB_some hk with ⟨h1, hk⟩ | ⟨h1, hk⟩
          · unfold andB at h1
            simp only [Bool.and_eq_true, eqN_iff, ltN_iff] at h1
            refine ⟨_, hk, KOut.plain (v := .cv (.sl k [] false)) rfl, ?_⟩
            have h2 : hh = l ∧ 0 < l := h1
            simp only [exec, ev, hv, KV.pv, sliceOf, hevO, hm, hhi, hl, chk, beq_self_eq_true, Bool.true_and, hmx', if_true, KOut.out, if_pos h2]
            rfl
          · unfold andB at h1
            simp only [Bool.and_eq_false_iff] at h1
            have h2 : ¬ (hh = l ∧ 0 < l) := by
              rintro ⟨a, b⟩
              rcases h1 with h1 | h1
              · rw [show eqN hh l = true from eqN_iff.2 a] at h1; cases h1
              · rw [show ltN 0 l = true from ltN_iff.2 b] at h1; cases h1
            refine ⟨_, hk, KOut.plain (v := .arr nm k (addN o l) (subN hh l)) trivial, ?_⟩
            simp only [exec, ev, hv, KV.pv, sliceOf, hevO, hm, hhi, hl, chk, beq_self_eq_true, Bool.true_and, hmx', if_true, KOut.out, if_neg h2, addN, subN]
            rfl
      · cases hk
    · exact gO_ok h hx hk
  | fieldAddr off x =>
    simp only [execK] at hk
    split at hk
    · rename_i hv; exact ⟨_, hk, KOut.plain (by trivial), by simp [exec, ev, hv, KV.pv, KOut.out]⟩
    · rename_i hv; exact ⟨_, hk, KOut.plain (by trivial), by simp [exec, ev, hv, KV.pv, KOut.out]⟩
    · exact gO_ok h hx hk
  | field off n ag x =>
    have ha := hkv (x := x) (by simp [ROp.xs])
    simp only [execK] at hk
    split at hk
    · rename_i cs hv
      rw [hv] at ha
      have hcs : okKL cs := ha
      split at hk
      · rename_i hag
        split at hk
        · rename_i hle
          refine ⟨_, hk, KOut.plain (v := .agg ((cs.drop off).take n)) (okKL_take (okKL_drop hcs _) _), ?_⟩
          simp [exec, ev, hv, KV.pv, sel, hag, chk, pvL_length, hle, KOut.out, pvL_take, pvL_drop]
        · cases hk
      · rename_i hag
        split at hk
        · rename_i c hc
          refine ⟨_, hk, KOut.plain (okKL_mem.1 hcs c (List.mem_of_getElem? hc)), ?_⟩
          simp [exec, ev, hv, KV.pv, sel, hag, pvL_get?, hc, KOut.out]
        · cases hk
    · exact gO_ok h hx hk
  | idxAddr k x i =>
    simp only [execK] at hk
    split at hk
    · rename_i nm k' o n hv
      split at hk
      · rename_i iv hi
        split at hk
        · rename_i hkk
          obtain ⟨j, hj, hk⟩ := bindO_some hk
          obtain ⟨h1, hk⟩ := chkO_some hk
          rw [ltN_iff] at h1
          unfold natO at hj
          refine ⟨_, hk, KOut.plain (v := .aref nm k (addN o j) 0) trivial, ?_⟩
          simp [exec, ev, hv, KV.pv, KV.cl_pv hi, hj, chk, hkk, h1, KOut.out, addN]
        · cases hk
      · cases hk
    · exact gO_ok h hx hk
  | extract j x =>
    have ha := hkv (x := x) (by simp [ROp.xs])
    simp only [execK] at hk
    split at hk
    · rename_i xs hv
      rw [hv] at ha
      have hxs : okKL xs := ha
      split at hk
      · rename_i v hj
        refine ⟨_, hk, KOut.plain (okKL_mem.1 hxs v (List.mem_of_getElem? hj)), ?_⟩
        simp [exec, ev, hv, KV.pv, pvL_get?, hj, KOut.out]
      · cases hk
    · exact gO_ok h hx hk
  | len c x =>
    simp only [execK] at hk
    split at hk
    · rename_i nm k o n hv
      split at hk
      · exact ⟨_, hk, KOut.plain (v := .cv (nI n)) rfl, by simp [exec, ev, hv, KV.pv, lenPV, KOut.out, nI]⟩
      · cases hk
    · rename_i nm hv
      split at hk
      · rename_i es hl
        exact ⟨_, hk, KOut.plain (v := .cv (nI (halfN (lenL es)))) rfl, by simp [exec, ev, hv, KV.pv, lenPV, lk, hl, KOb.ob, KOut.out, nI, halfN, lenL]⟩
      · cases hk
    · exact gO_ok h hx hk
  | append k ty s x =>
    have ha := hkv (x := s) (by simp [ROp.xs])
    have hb := hkv (x := x) (by simp [ROp.xs])
    simp only [execK] at hk
    obtain ⟨ys, hk, hyo, hys⟩ := elemsK_ok h hb hk
    split at hk
    · rename_i nm k' o n hv
      split at hk
      · rename_i k'' kt xs hl
        split at hk
        · rename_i hkk
          obtain ⟨rfl, rfl, rfl⟩ := hkk
          obtain ⟨h1, hk⟩ := chkO_some hk
          unfold andB at h1
          simp only [Bool.and_eq_true, leN_iff, lenL, addN] at h1
          have hxs : okVL xs = true := klook_ok h.ob hl
          refine ⟨_, hk, ⟨trivial, by simp, ?_, by simp⟩, ?_⟩
          · intro m o' e; cases e; exact okVL_append (okVL_take hxs n) hyo
          · simp [exec, ev, hys, hv, KV.pv, lk, hl, KOb.ob, chk, h1.1, h1.2, KOut.out, addN, lenL, catL, takeL]
        · cases hk
      · cases hk
    · rename_i hv
      obtain ⟨h1, hk⟩ := chkO_some hk
      simp only [leN_iff, lenL] at h1
      exact ⟨_, hk, KOut.one (o := .arr k ty ys) trivial hyo, by simp [exec, ev, hys, hv, KV.pv, chk, h1, KOut.out, KOb.ob, lenL]⟩
    · rename_i v hv
      obtain ⟨zs, hz, hk2⟩ := bindO_some hk
      rw [hv] at ha
      have hvo : okV v = true := ha
      unfold appO at hz
      split at hz
      · obtain ⟨h1, h2⟩ := chkO_some hz
        cases h2
        exact ⟨_, hk2, KOut.one (o := .arr k ty ys) trivial hyo, by simp at h1; simp [exec, ev, hys, hv, KV.pv, chk, h1, KOut.out, KOb.ob, lenL]⟩
      · rename_i k' xs
        split at hz
        · cases hz
        · rename_i y ys'
          obtain ⟨h1, h2⟩ := chkO_some hz
          cases h2
          simp only [Bool.and_eq_true, beq_iff_eq, decide_eq_true_eq] at h1
          obtain ⟨rfl, h1⟩ := h1
          refine ⟨_, hk2, KOut.one (o := .arr k ty (xs ++ y :: ys')) trivial (okVL_append (by simpa [okV] using hvo) hyo), ?_⟩
          simp [exec, ev, hys, hv, KV.pv, chk, h1, KOut.out, KOb.ob, lenL]
      · cases hz
    · cases hk
  | copy k x s =>
    have ha := hkv (x := x) (by simp [ROp.xs])
    have hb := hkv (x := s) (by simp [ROp.xs])
    simp only [execK] at hk
    obtain ⟨ys, hk, hyo, hys⟩ := elemsK_ok h hb hk
    split at hk
    · rename_i nm k' o n hv
      split at hk
      · rename_i k'' kt xs hl
        split at hk
        · rename_i hkk
          obtain ⟨rfl, rfl⟩ := hkk
          obtain ⟨h1, hk⟩ := chkO_some hk
          simp only [leN_iff, lenL, addN] at h1
          have hxs : okVL xs = true := klook_ok h.ob hl
          refine ⟨_, hk, KOut.turn (o := .arr k kt _) rfl (okVL_append (okVL_append (okVL_take hxs o) (okVL_take hyo n)) (okVL_drop hxs _)), ?_⟩
          simp [exec, ev, hys, hv, KV.pv, lk, hl, KOb.ob, chk, h1, KOut.out, addN, lenL, catL, takeL, dropL, nI, minN]
          omega
        · cases hk
      · cases hk
    · rename_i hv
      exact ⟨_, hk, KOut.plain (v := .cv (nI 0)) rfl, by simp [exec, ev, hys, hv, KV.pv, KOut.out, nI]⟩
    · cases hk
  | iter x =>
    simp only [execK] at hk
    split at hk
    · rename_i v hv
      obtain ⟨s, hs, hk⟩ := bindO_some hk
      unfold strO at hs
      split at hs
      · cases hs
        exact ⟨_, hk, KOut.one (o := .siter s 0) trivial trivial, by simp [exec, ev, KV.cl_pv hv, KOut.out, KV.pv, KOb.ob]⟩
      · cases hs
    · cases hk
  | next x =>
    simp only [execK] at hk
    split at hk
    · rename_i nm hv
      split at hk
      · rename_i s pos hl
        rcases iteB_some hk with ⟨h1, hk⟩ | ⟨h1, hk⟩
        · rw [ltN_iff] at h1
          unfold lenS at h1
          refine ⟨_, hk, KOut.turn (o := .siter s (addN pos (runeN s pos))) (v := .tup [.lit true, .cv (nI pos), .cv (runeP s pos)]) ⟨trivial, rfl, rfl, trivial⟩ trivial, ?_⟩
          simp [exec, ev, hv, KV.pv, lk, hl, KOb.ob, h1, KOut.out, pvL, nI, runeP, runeN, addN]
        · have h2 : ¬ pos < s.length := by
            intro h3; rw [show ltN pos (lenS s) = true from ltN_iff.2 h3] at h1; cases h1
          refine ⟨_, hk, KOut.plain (v := .tup [.lit false]) ⟨trivial, trivial⟩, ?_⟩
          simp [exec, ev, hv, KV.pv, lk, hl, KOb.ob, h2, KOut.out, pvL]
      · cases hk
    · cases hk
  | tassert t z ok x =>
    have ha := hkv (x := x) (by simp [ROp.xs])
    simp only [execK] at hk
    split at hk
    · rename_i u y hv
      rw [hv] at ha
      have hy : y.ok := ha
      split at hk
      · rename_i hut
        refine ⟨_, hk, KOut.plain ?_, ?_⟩
        · split
          · exact ⟨hy, trivial, trivial⟩
          · exact hy
        · simp only [exec, ev, hv, KV.pv, hut, if_true, KOut.out]
          cases ok <;> simp [KV.pv, pvL]
      · rename_i hut
        split at hk
        · rename_i hz
          refine ⟨_, hk, KOut.plain (v := .tup [.cv z, .lit false]) ⟨hz.2, trivial, trivial⟩, ?_⟩
          simp [exec, ev, hv, KV.pv, hut, chk, hz.1, KOut.out, pvL]
        · cases hk
    · exact gO_ok h hx hk
  | call f args => cases hk
  | bad => cases hk
  | conv k x => exact gO_ok h hx hk
  | toBytes x => exact gO_ok h hx hk
  | ofBytes x => exact gO_ok h hx hk
  | ofRune x => exact gO_ok h hx hk
  | strId x => exact gO_ok h hx hk
  | strSlice x lo hi => exact gO_ok h hx hk
  | idxAddrA k l x i => exact gO_ok h hx hk
  | strIdx x i => exact gO_ok h hx hk
  | minmax mx xs => exact gO_ok h hx hk
end Go.Ab


namespace Go.Ab
theorem KOb.ren_ob (f : Nm → Nm) {o : KOb} (h : o.ok) : (o.ren f).ob = o.ob.ren f := by
  cases o with
  | cells ty cs => simp [KOb.ren, KOb.ob, Ob.ren, renL_pv f h]
  | whole ty v =>
    have := (okVL_names (okV_cells h)).1
    simp only [KOb.ren, KOb.ob, Ob.ren, cellsP]
    rw [renL_none this]
  | _ => rfl
theorem KOb.ren_ok (f : Nm → Nm) {o : KOb} (h : o.ok) : (o.ren f).ok := by
  cases o with
  | cells ty cs => exact krenL_ok f h
  | _ => exact h
theorem renL_append (f : Nm → Nm) (xs ys : List PV) : renL f (xs ++ ys) = renL f xs ++ renL f ys := by
  induction xs with
  | nil => rfl
  | cons x xs ih => simp [renL, ih]
def Seg (vs : List PV) (i : Nat) (l : List PV) : Prop := ∀ m v, l[m]? = some v → nth vs (i + m) = v
theorem Seg.left {vs : List PV} {i : Nat} {a b : List PV} (h : Seg vs i (a ++ b)) : Seg vs i a := fun m v hm => h m v (by
  rw [List.getElem?_append_left (List.getElem?_eq_some_iff.1 hm).1]; exact hm)
theorem Seg.right {vs : List PV} {i : Nat} {a b : List PV} (h : Seg vs i (a ++ b)) : Seg vs (i + a.length) b := fun m v hm => by
  have := h (a.length + m) v (by rw [List.getElem?_append_right (by omega)]; simpa using hm)
  rw [← this, Nat.add_assoc]
theorem Seg.head {vs : List PV} {i : Nat} {x : PV} {l : List PV} (h : Seg vs i (x :: l)) : nth vs i = x := h 0 x rfl
theorem Seg.all (vs : List PV) : Seg vs 0 vs := fun m v hm => by
  unfold nth; rw [List.getD_eq_getElem?_getD, Nat.zero_add, hm]; rfl
theorem leaf_ok {x : KV} (hx : x.ok) (hf : x.cl.isSome = true) {vs : List PV} {i : Nat} (h : Seg vs i [x.cl.getD .undef]) : (KV.cv (nth vs i)).pv = x.pv ∧ (KV.cv (nth vs i)).ok := by
  obtain ⟨v, hv⟩ := Option.isSome_iff_exists.1 hf
  have := h.head
  rw [hv] at this
  simp only [Option.getD_some] at this
  rw [this]
  exact ⟨(KV.cl_pv hv).symm, KV.cl_ok hx hv⟩
theorem un_fill {p : KV} {vs : List PV} {i : Nat} (h : isUnK p = false) : isUnK (fill p vs i).1 = false := by
  cases p <;> simp [isUnK] at h <;> simp only [fill] <;> first | rfl | (split <;> rfl)
mutual
theorem fill_ok : ∀ (p x : KV), fitV p x = true → x.ok → ∀ (vs : List PV) (i : Nat), Seg vs i (leaves p x) → (fill p vs i).1.pv = x.pv ∧ (fill p vs i).1.ok ∧ (fill p vs i).2 = i + (leaves p x).length
  | .un, x, h, _, vs, i, _ => by cases x <;> simp [fitV] at h; exact ⟨rfl, trivial, rfl⟩
  | .sk, x, h, _, vs, i, _ => by cases x <;> simp [fitV] at h; exact ⟨rfl, trivial, rfl⟩
  | .yld d, x, h, _, vs, i, hs => by
    cases x with
    | yld d' =>
      have h1 : nth vs i = nI d' := hs.head
      simp [fill, KV.pv, h1, nI, natP, KV.ok, leaves]
    | _ => simp [fitV] at h
  | .ref nm o, x, h, _, vs, i, _ => by cases x <;> simp [fitV] at h; obtain ⟨rfl, rfl⟩ := h; exact ⟨rfl, trivial, rfl⟩
  | .aref _ _ _ _, x, h, _, vs, i, _ => by simp [fitV] at h
  | .mp nm, x, h, _, vs, i, _ => by cases x <;> simp [fitV] at h; subst h; exact ⟨rfl, trivial, rfl⟩
  | .it nm, x, h, _, vs, i, _ => by cases x <;> simp [fitV] at h; subst h; exact ⟨rfl, trivial, rfl⟩
  | .wit nm, x, h, _, vs, i, _ => by cases x <;> simp [fitV] at h; subst h; exact ⟨rfl, trivial, rfl⟩
  | .arr nm k o n, x, h, _, vs, i, hs => by
    cases x with
    | arr nm' k' o' n' =>
      simp only [fitV, Bool.and_eq_true, beq_iff_eq] at h
      obtain ⟨⟨rfl, rfl⟩, ho⟩ := h
      have := Nat.eq_of_beq_eq_true ho
      subst this
      have h1 : nth vs i = nI n' := hs.head
      simp [fill, KV.pv, h1, nI, natP, KV.ok, leaves]
    | _ => simp [fitV] at h
  | .lit b, x, h, hx, vs, i, hs => by
    have := leaf_ok hx (by simpa [fitV] using h) (by simpa [leaves] using hs)
    exact ⟨this.1, this.2, by simp [fill, leaves]⟩
  | .nils, x, h, hx, vs, i, hs => by
    have := leaf_ok hx (by simpa [fitV] using h) (by simpa [leaves] using hs)
    exact ⟨this.1, this.2, by simp [fill, leaves]⟩
  | .cv v, x, h, hx, vs, i, hs => by
    have := leaf_ok hx (by simpa [fitV] using h) (by simpa [leaves] using hs)
    exact ⟨this.1, this.2, by simp [fill, leaves]⟩
  | .fn f cap, x, h, hx, vs, i, hs => by
    cases x with
    | fn f' cap' =>
      simp only [fitV, Bool.and_eq_true, beq_iff_eq] at h
      obtain ⟨rfl, h⟩ := h
      obtain ⟨a, b, c⟩ := fillL_ok cap cap' h hx vs i (by simpa [leaves] using hs)
      exact ⟨by simp [fill, KV.pv, a], b, by simp [fill, leaves, c]⟩
    | _ => simp [fitV] at h
  | .tup xs, x, h, hx, vs, i, hs => by
    cases x with
    | tup ys =>
      simp only [fitV] at h
      obtain ⟨a, b, c⟩ := fillL_ok xs ys h hx vs i (by simpa [leaves] using hs)
      exact ⟨by simp [fill, KV.pv, a], b, by simp [fill, leaves, c]⟩
    | _ => simp [fitV] at h
  | .agg cs, x, h, hx, vs, i, hs => by
    simp only [fitV] at h
    simp only [leaves] at hs
    by_cases hc : (clL cs).isSome = true
    · rw [if_pos hc] at h hs
      have := leaf_ok hx h hs
      simp only [fill, hc, if_true]
      exact ⟨this.1, this.2, by simp [leaves, hc]⟩
    · rw [if_neg hc] at h hs
      cases x with
      | agg cs' =>
        obtain ⟨a, b, c⟩ := fillL_ok cs cs' h hx vs i hs
        simp only [fill, if_neg hc]
        exact ⟨by simp [KV.pv, a], b, by simp [leaves, hc, c]⟩
      | _ => simp at h
  | .iface t y, x, h, hx, vs, i, hs => by
    simp only [fitV] at h
    simp only [leaves] at hs
    by_cases hc : y.cl.isSome = true
    · rw [if_pos hc] at h hs
      have := leaf_ok hx h hs
      simp only [fill, hc, if_true]
      exact ⟨this.1, this.2, by simp [leaves, hc]⟩
    · rw [if_neg hc] at h hs
      cases x with
      | iface t' y' =>
        simp only [Bool.and_eq_true, beq_iff_eq] at h
        obtain ⟨rfl, h⟩ := h
        obtain ⟨a, b, c⟩ := fill_ok y y' h hx vs i hs
        simp only [fill, if_neg hc]
        exact ⟨by simp [KV.pv, a], b, by simp [leaves, hc, c]⟩
      | _ => simp at h
theorem fillL_ok : ∀ (ps xs : List KV), fitL ps xs = true → okKL xs → ∀ (vs : List PV) (i : Nat), Seg vs i (leavesL ps xs) → pvL (fillL ps vs i).1 = pvL xs ∧ okKL (fillL ps vs i).1 ∧ (fillL ps vs i).2 = i + (leavesL ps xs).length
  | [], xs, h, _, vs, i, _ => by cases xs <;> simp [fitL] at h; exact ⟨rfl, trivial, rfl⟩
  | p :: ps, xs, h, hx, vs, i, hs => by
    cases xs with
    | nil => simp [fitL] at h
    | cons x xs =>
      simp only [fitL, Bool.and_eq_true] at h
      simp only [leavesL] at hs
      obtain ⟨a, b, c⟩ := fill_ok p x h.1 hx.1 vs i hs.left
      obtain ⟨a', b', c'⟩ := fillL_ok ps xs h.2 hx.2 vs (fill p vs i).2 (by rw [c]; exact hs.right)
      refine ⟨by simp [fillL, pvL, a, a'], ⟨b, b'⟩, ?_⟩
      simp only [fillL, leavesL, List.length_append]
      rw [c', c]
      omega
end
theorem fillOb_ok (p x : KOb) (h : fitOb p x = true) (hx : x.ok) (vs : List PV) (i : Nat) (hs : Seg vs i (leavesOb p x)) : (fillOb p vs i).1.ob = x.ob ∧ (fillOb p vs i).1.ok ∧ (fillOb p vs i).2 = i + (leavesOb p x).length := by
  cases p with
  | cells ty cs =>
    cases x with
    | cells ty' cs' =>
      simp only [fitOb, Bool.and_eq_true, beq_iff_eq] at h
      obtain ⟨rfl, h⟩ := h
      obtain ⟨a, b, c⟩ := fillL_ok cs cs' h hx vs i (by simpa [leavesOb] using hs)
      exact ⟨by simp [fillOb, KOb.ob, a], b, by simp [fillOb, leavesOb, c]⟩
    | _ => simp [fitOb] at h
  | whole ty w =>
    cases x with
    | whole ty' v =>
      simp only [fitOb, beq_iff_eq] at h
      subst h
      have : nth vs i = v := hs.head
      exact ⟨by simp [fillOb, KOb.ob, this], by simp only [fillOb, this]; exact hx, by simp [fillOb, leavesOb]⟩
    | _ => simp [fitOb] at h
  | arr k kt ws =>
    cases x with
    | arr k' kt' xs =>
      simp only [fitOb, Bool.and_eq_true, beq_iff_eq] at h
      obtain ⟨rfl, rfl⟩ := h
      have : nth vs i = .sl k xs false := hs.head
      exact ⟨by simp [fillOb, KOb.ob, this, itemsP], by simp only [fillOb, this, itemsP]; exact hx, by simp [fillOb, leavesOb]⟩
    | _ => simp [fitOb] at h
  | map ws =>
    cases x with
    | map es =>
      have : nth vs i = .imap es := hs.head
      exact ⟨by simp [fillOb, KOb.ob, this, entsP], by simp only [fillOb, this, entsP]; exact hx, by simp [fillOb, leavesOb]⟩
    | _ => simp [fitOb] at h
  | siter s0 p0 =>
    cases x with
    | siter s pos =>
      have h1 : nth vs i = .str s := hs.head
      have h2 : nth vs (i + 1) = nI pos := hs 1 _ rfl
      exact ⟨by simp [fillOb, KOb.ob, h1, h2, strP, natP, nI], trivial, by simp [fillOb, leavesOb]⟩
    | _ => simp [fitOb] at h
theorem fillObL_ok : ∀ (ps xs : List KOb), fitObL ps xs = true → (∀ o ∈ xs, o.ok) → ∀ (vs : List PV) (i : Nat), Seg vs i (leavesObL ps xs) → (fillObL ps vs i).1.map KOb.ob = xs.map KOb.ob ∧ (∀ o ∈ (fillObL ps vs i).1, o.ok) ∧ (fillObL ps vs i).2 = i + (leavesObL ps xs).length
  | [], [], _, _, vs, i, _ => ⟨rfl, by simp [fillObL], rfl⟩
  | [], _ :: _, h, _, _, _, _ => by simp [fitObL] at h
  | _ :: _, [], h, _, _, _, _ => by simp [fitObL] at h
  | p :: ps, x :: xs, h, hx, vs, i, hs => by
    simp only [fitObL, Bool.and_eq_true] at h
    simp only [leavesObL] at hs
    obtain ⟨a, b, c⟩ := fillOb_ok p x h.1 (hx x (by simp)) vs i hs.left
    obtain ⟨a', b', c'⟩ := fillObL_ok ps xs h.2 (fun o ho => hx o (by simp [ho])) vs (fillOb p vs i).2 (by rw [c]; exact hs.right)
    refine ⟨by simp [fillObL, a, a'], ?_, ?_⟩
    · intro o ho
      simp only [fillObL, List.mem_cons] at ho
      rcases ho with rfl | ho
      · exact b
      · exact b' o ho
    · simp only [fillObL, leavesObL, List.length_append]
      rw [c', c]
      omega
mutual
theorem fitP_fill : ∀ (p : KV) (x : PV) {l : List PV}, fitP p x = some l → ∀ (vs : List PV) (i : Nat), Seg vs i l → (fill p vs i).1.pv = x ∧ (fill p vs i).1.ok ∧ (fill p vs i).2 = i + l.length
  | .un, x, l, h, vs, i, _ => by cases x <;> simp [fitP] at h; subst h; exact ⟨rfl, trivial, rfl⟩
  | .sk, x, l, h, vs, i, _ => by
    simp only [fitP] at h
    split at h
    · cases h; exact ⟨rfl, trivial, rfl⟩
    · cases h
  | .yld d, x, l, h, vs, i, hs => by
    cases x with
    | yld d' =>
      simp only [fitP] at h
      cases h
      have h1 : nth vs i = nI d' := hs.head
      simp [fill, KV.pv, h1, nI, natP, KV.ok]
    | _ => simp [fitP] at h
  | .aref _ _ _ _, x, l, h, vs, i, _ => by simp [fitP] at h
  | .wit nm, x, l, h, vs, i, _ => by
    simp only [fitP] at h
    split at h
    · obtain ⟨h1, h2⟩ := chkO_some h
      simp at h1 h2; subst h1; subst h2; exact ⟨rfl, trivial, rfl⟩
    · cases h
  | .ref nm o, x, l, h, vs, i, _ => by
    cases x <;> simp [fitP] at h
    obtain ⟨h1, h2⟩ := chkO_some h
    simp at h1 h2; obtain ⟨rfl, rfl⟩ := h1; subst h2; exact ⟨rfl, trivial, rfl⟩
  | .mp nm, x, l, h, vs, i, _ => by
    cases x <;> simp [fitP] at h
    obtain ⟨h1, h2⟩ := chkO_some h
    simp at h1 h2; subst h1; subst h2; exact ⟨rfl, trivial, rfl⟩
  | .it nm, x, l, h, vs, i, _ => by
    cases x <;> simp [fitP] at h
    obtain ⟨h1, h2⟩ := chkO_some h
    simp at h1 h2; subst h1; subst h2; exact ⟨rfl, trivial, rfl⟩
  | .arr nm k o n, x, l, h, vs, i, hs => by
    cases x with
    | arr nm' k' o' n' =>
      simp only [fitP] at h
      obtain ⟨h1, h2⟩ := chkO_some h
      cases h2
      simp only [Bool.and_eq_true, beq_iff_eq] at h1
      obtain ⟨⟨rfl, rfl⟩, ho⟩ := h1
      have := Nat.eq_of_beq_eq_true ho
      subst this
      have h1 : nth vs i = nI n' := hs.head
      simp [fill, KV.pv, h1, nI, natP, KV.ok]
    | _ => simp [fitP] at h
  | .lit b, x, l, h, vs, i, hs => by
    simp only [fitP] at h
    obtain ⟨h1, h2⟩ := chkO_some h
    cases h2
    have := hs.head
    exact ⟨this, by simp only [fill, KV.ok, this]; exact h1, rfl⟩
  | .nils, x, l, h, vs, i, hs => by
    simp only [fitP] at h
    obtain ⟨h1, h2⟩ := chkO_some h
    cases h2
    have := hs.head
    exact ⟨this, by simp only [fill, KV.ok, this]; exact h1, rfl⟩
  | .cv v, x, l, h, vs, i, hs => by
    simp only [fitP] at h
    obtain ⟨h1, h2⟩ := chkO_some h
    cases h2
    have := hs.head
    exact ⟨this, by simp only [fill, KV.ok, this]; exact h1, rfl⟩
  | .fn f cap, x, l, h, vs, i, hs => by
    cases x with
    | fn f' cap' =>
      simp only [fitP] at h
      split at h
      · rename_i hf
        subst hf
        obtain ⟨a, b, c⟩ := fitPL_fill cap cap' h vs i hs
        exact ⟨by simp [fill, KV.pv, a], b, c⟩
      · cases h
    | _ => simp [fitP] at h
  | .tup xs, x, l, h, vs, i, hs => by
    cases x with
    | tup ys =>
      simp only [fitP] at h
      obtain ⟨a, b, c⟩ := fitPL_fill xs ys h vs i hs
      exact ⟨by simp [fill, KV.pv, a], b, c⟩
    | _ => simp [fitP] at h
  | .agg cs, x, l, h, vs, i, hs => by
    simp only [fitP] at h
    by_cases hc : (clL cs).isSome = true
    · rw [if_pos hc] at h
      obtain ⟨h1, h2⟩ := chkO_some h
      cases h2
      have := hs.head
      simp only [fill, hc, if_true]
      exact ⟨this, by simp only [KV.ok, this]; exact h1, rfl⟩
    · rw [if_neg hc] at h
      cases x with
      | agg cs' =>
        obtain ⟨a, b, c⟩ := fitPL_fill cs cs' h vs i hs
        simp only [fill, if_neg hc]
        exact ⟨by simp [KV.pv, a], b, c⟩
      | _ => simp at h
  | .iface t y, x, l, h, vs, i, hs => by
    simp only [fitP] at h
    by_cases hc : y.cl.isSome = true
    · rw [if_pos hc] at h
      obtain ⟨h1, h2⟩ := chkO_some h
      cases h2
      have := hs.head
      simp only [fill, hc, if_true]
      exact ⟨this, by simp only [KV.ok, this]; exact h1, rfl⟩
    · rw [if_neg hc] at h
      cases x with
      | iface t' y' =>
        simp only at h
        split at h
        · rename_i ht
          subst ht
          obtain ⟨a, b, c⟩ := fitP_fill y y' h vs i hs
          simp only [fill, if_neg hc]
          exact ⟨by simp [KV.pv, a], b, c⟩
        · cases h
      | _ => simp at h
theorem fitPL_fill : ∀ (ps : List KV) (xs : List PV) {l : List PV}, fitPL ps xs = some l → ∀ (vs : List PV) (i : Nat), Seg vs i l → pvL (fillL ps vs i).1 = xs ∧ okKL (fillL ps vs i).1 ∧ (fillL ps vs i).2 = i + l.length
  | [], xs, l, h, vs, i, _ => by cases xs <;> simp [fitPL] at h; subst h; exact ⟨rfl, trivial, rfl⟩
  | p :: ps, xs, l, h, vs, i, hs => by
    cases xs with
    | nil => simp [fitPL] at h
    | cons y ys =>
      simp only [fitPL] at h
      split at h
      · rename_i a b ha hb
        cases h
        obtain ⟨a1, a2, a3⟩ := fitP_fill p y ha vs i hs.left
        obtain ⟨b1, b2, b3⟩ := fitPL_fill ps ys hb vs (fill p vs i).2 (by rw [a3]; exact hs.right)
        refine ⟨by simp [fillL, pvL, a1, b1], ⟨a2, b2⟩, ?_⟩
        simp only [fillL, List.length_append]
        rw [b3, a3]; omega
      · cases h
end
theorem fitPOb_fill (p : KOb) (x : Ob) {l : List PV} (h : fitPOb p x = some l) (vs : List PV) (i : Nat) (hs : Seg vs i l) : (fillOb p vs i).1.ob = x ∧ (fillOb p vs i).1.ok ∧ (fillOb p vs i).2 = i + l.length := by
  cases p with
  | cells ty cs =>
    cases x with
    | cells ty' cs' =>
      simp only [fitPOb] at h
      split at h
      case isFalse => cases h
      rename_i hty
      subst hty
      obtain ⟨a, b, c⟩ := fitPL_fill cs cs' h vs i hs
      exact ⟨by simp [fillOb, KOb.ob, a], b, c⟩
    | _ => simp [fitPOb] at h
  | whole ty w =>
    cases x with
    | cells ty' cs' =>
      simp only [fitPOb] at h
      obtain ⟨h1, h2⟩ := chkO_some h
      cases h2
      simp only [Bool.and_eq_true, beq_iff_eq] at h1
      obtain ⟨rfl, h1⟩ := h1
      have : nth vs i = .agg cs' := hs.head
      exact ⟨by simp [fillOb, KOb.ob, this, cellsP, PV.cells], by simp only [fillOb, this]; simpa [KOb.ok, okV] using h1, rfl⟩
    | _ => simp [fitPOb] at h
  | arr k kt ws =>
    cases x with
    | arr k' kt' xs =>
      simp only [fitPOb] at h
      obtain ⟨h1, h2⟩ := chkO_some h
      cases h2
      simp only [Bool.and_eq_true, beq_iff_eq] at h1
      obtain ⟨⟨rfl, rfl⟩, h1⟩ := h1
      have : nth vs i = .sl k xs false := hs.head
      exact ⟨by simp [fillOb, KOb.ob, this, itemsP], by simp only [fillOb, this, itemsP]; exact h1, rfl⟩
    | _ => simp [fitPOb] at h
  | map ws =>
    cases x with
    | map es =>
      simp only [fitPOb] at h
      obtain ⟨h1, h2⟩ := chkO_some h
      cases h2
      have : nth vs i = .imap es := hs.head
      exact ⟨by simp [fillOb, KOb.ob, this, entsP], by simp only [fillOb, this, entsP]; exact h1, rfl⟩
    | _ => simp [fitPOb] at h
  | siter s0 p0 =>
    cases x with
    | siter s pos =>
      simp only [fitPOb] at h
      cases h
      have h1 : nth vs i = .str s := hs.head
      have h2 : nth vs (i + 1) = nI pos := hs 1 _ rfl
      exact ⟨by simp [fillOb, KOb.ob, h1, h2, strP, natP, nI], trivial, rfl⟩
    | _ => simp [fitPOb] at h
theorem fitPObL_fill : ∀ (ps : List KOb) (xs : List Ob) {l : List PV}, fitPObL ps xs = some l → ∀ (vs : List PV) (i : Nat), Seg vs i l → (fillObL ps vs i).1.map KOb.ob = xs ∧ (∀ o ∈ (fillObL ps vs i).1, o.ok) ∧ (fillObL ps vs i).2 = i + l.length
  | [], xs, l, h, vs, i, _ => by cases xs <;> simp [fitPObL] at h; subst h; exact ⟨rfl, by simp [fillObL], rfl⟩
  | p :: ps, xs, l, h, vs, i, hs => by
    cases xs with
    | nil => simp [fitPObL] at h
    | cons y ys =>
      simp only [fitPObL] at h
      split at h
      · rename_i a b ha hb
        cases h
        obtain ⟨a1, a2, a3⟩ := fitPOb_fill p y ha vs i hs.left
        obtain ⟨b1, b2, b3⟩ := fitPObL_fill ps ys hb vs (fillOb p vs i).2 (by rw [a3]; exact hs.right)
        refine ⟨by simp [fillObL, a1, b1], ?_, ?_⟩
        · intro o ho
          simp only [fillObL, List.mem_cons] at ho
          rcases ho with rfl | ho
          · exact a2
          · exact b2 o ho
        · simp only [fillObL, List.length_append]
          rw [b3, a3]; omega
      · cases h
mutual
theorem ren_ren (f g : Nm → Nm) : ∀ (x : PV), (x.ren f).ren g = x.ren fun m => g (f m)
  | .agg cs => by simp [PV.ren, renL_renL f g cs]
  | .iface t x => by simp [PV.ren, ren_ren f g x]
  | .fn h cap => by simp [PV.ren, renL_renL f g cap]
  | .tup xs => by simp [PV.ren, renL_renL f g xs]
  | .undef | .bool _ | .int _ _ | .str _ | .nilS | .nilP | .nilF | .nilI | .nilM | .sl _ _ _ | .ptr _ _ | .yld _ | .imap _ | .glob _ _ | .ref _ _ | .aref _ _ _ _ | .arr _ _ _ _ | .mp _ | .it _ => by simp [PV.ren]
theorem renL_renL (f g : Nm → Nm) : ∀ (xs : List PV), renL g (renL f xs) = renL (fun m => g (f m)) xs
  | [] => rfl
  | x :: xs => by simp [renL, ren_ren f g x, renL_renL f g xs]
end
mutual
theorem ren_congr {f g : Nm → Nm} : ∀ {x : PV}, (∀ m ∈ x.names, f m = g m) → x.ren f = x.ren g
  | .agg cs, h => by simp only [PV.ren]; rw [renL_congr (xs := cs) h]
  | .iface t x, h => by simp only [PV.ren]; rw [ren_congr (x := x) h]
  | .fn _ cap, h => by simp only [PV.ren]; rw [renL_congr (xs := cap) h]
  | .tup xs, h => by simp only [PV.ren]; rw [renL_congr (xs := xs) h]
  | .ref nm _, h | .aref nm _ _ _, h | .arr nm _ _ _, h | .mp nm, h | .it nm, h => by simp only [PV.ren]; rw [h nm (by simp [PV.names])]
  | .undef, _ | .bool _, _ | .int _ _, _ | .str _, _ | .nilS, _ | .nilP, _ | .nilF, _ | .nilI, _ | .nilM, _ | .sl _ _ _, _ | .ptr _ _, _ | .yld _, _ | .imap _, _ | .glob _ _, _ => by simp [PV.ren]
theorem renL_congr {f g : Nm → Nm} : ∀ {xs : List PV}, (∀ m ∈ namesL xs, f m = g m) → renL f xs = renL g xs
  | [], _ => rfl
  | x :: xs, h => by
    simp only [renL]
    rw [ren_congr (x := x) fun m hm => h m (List.mem_append_left _ hm), renL_congr (xs := xs) fun m hm => h m (List.mem_append_right _ hm)]
end
mutual
theorem cut_names {p : Nm → Bool} : ∀ {x : PV} {m : Nm}, m ∈ (x.sub fun m => if p m then none else some none).names → p m = true
  | .agg cs, m, h => cutL_names (xs := cs) (by simpa [PV.sub, PV.names] using h)
  | .iface t x, m, h => cut_names (x := x) (by simpa [PV.sub, PV.names] using h)
  | .fn _ cap, m, h => cutL_names (xs := cap) (by simpa [PV.sub, PV.names] using h)
  | .tup xs, m, h => cutL_names (xs := xs) (by simpa [PV.sub, PV.names] using h)
  | .ref nm _, m, h | .aref nm _ _ _, m, h | .arr nm _ _ _, m, h | .mp nm, m, h | .it nm, m, h => by
    simp only [PV.sub] at h
    cases hp : p nm with
    | true => simp [hp, PV.names] at h; rw [h]; exact hp
    | false => simp [hp, PV.names] at h
  | .undef, m, h | .bool _, m, h | .int _ _, m, h | .str _, m, h | .nilS, m, h | .nilP, m, h | .nilF, m, h | .nilI, m, h | .nilM, m, h | .sl _ _ _, m, h | .ptr _ _, m, h | .yld _, m, h | .imap _, m, h | .glob _ _, m, h => by simp [PV.sub, PV.names] at h
theorem cutL_names {p : Nm → Bool} : ∀ {xs : List PV} {m : Nm}, m ∈ namesL (subL (fun m => if p m then none else some none) xs) → p m = true
  | [], m, h => by simp [subL, namesL] at h
  | x :: xs, m, h => by
    simp only [subL, namesL] at h
    rcases List.mem_append.1 h with h | h
    · exact cut_names h
    · exact cutL_names h
end
theorem Ob.ren_ren (f g : Nm → Nm) (o : Ob) : (o.ren f).ren g = o.ren fun m => g (f m) := by
  cases o <;> simp [Ob.ren, renL_renL]
theorem Ob.ren_congr {f g : Nm → Nm} {o : Ob} (h : ∀ m ∈ o.names, f m = g m) : o.ren f = o.ren g := by
  cases o with
  | cells ty cs => simp only [Ob.ren]; rw [renL_congr h]
  | _ => rfl
theorem Ob.cut_names {p : Nm → Bool} {o : Ob} {m : Nm} (h : m ∈ (o.sub fun m => if p m then none else some none).names) : p m = true := by
  cases o with
  | cells ty cs => exact cutL_names h
  | _ => simp [Ob.sub, Ob.names] at h
theorem lookup_map2 (g : Nm → Nm) : ∀ (B : List (Nm × Nm)) (m : Nm), (B.map fun p => (p.1, g p.2)).lookup m = (B.lookup m).map g := by
  intro B
  induction B with
  | nil => intro m; rfl
  | cons p B ih =>
    obtain ⟨a, b⟩ := p
    intro m
    simp only [List.map_cons, List.lookup_cons]
    split <;> simp_all
theorem lookup_some {B : List (Nm × Nm)} : ∀ {m : Nm}, (B.map (·.1)).contains m = true → ∃ t, B.lookup m = some t := by
  induction B with
  | nil => intro m h; simp at h
  | cons p B ih =>
    obtain ⟨a, b⟩ := p
    intro m h
    rw [List.lookup_cons]
    split
    · exact ⟨_, rfl⟩
    · rename_i hne
      refine ih ?_
      simp only [List.map_cons, List.contains_cons, hne, Bool.false_or] at h
      exact h
theorem ioEnd_ren {R : List Nm} {sl : Option Nat} {d i0 : Nat} {st : St} {v : PV} {out : Out} (h : ioEnd none 1 0 (canonR R.length) st v = some out) :
    ioEnd sl d i0 R st v = some { v := out.v.ren (ioNm R d i0), new := out.new.map (Ob.ren (ioNm R d i0)), gone := out.gone.map (ioNm R d i0), ups := R.zip (out.ups.map fun p => p.2.ren (ioNm R d i0)), io := true, slot := sl } := by
  have hcl : (canonR R.length).length = R.length := by simp [canonR]
  have hA : ioPairs R st.keep = (ioPairs (canonR R.length) st.keep).map fun p => (p.1, ioNm R d i0 p.2) := by
    apply List.ext_getElem?
    intro i
    simp only [ioPairs, List.getElem?_map, List.getElem?_zipIdx, Nat.zero_add, canonR]
    by_cases hi : i < R.length
    · rw [List.getElem?_eq_getElem hi, List.getElem?_range hi]
      simp [ioNm, List.getD_eq_getElem?_getD, List.getElem?_eq_getElem hi]
    · rw [List.getElem?_eq_none_iff.2 (by omega), List.getElem?_eq_none_iff.2 (by simp; omega)]
      rfl
  have hF : (ioPairs R st.keep).map (·.1) = (ioPairs (canonR R.length) st.keep).map (·.1) := by
    rw [hA, List.map_map]; rfl
  have hN : ioNews (look st.objs) (ioPairs R st.keep) v = ioNews (look st.objs) (ioPairs (canonR R.length) st.keep) v := by
    unfold ioNews
    rw [hF]
    have : ∀ A A' : List (Nm × Nm), A.map (·.1) = A'.map (·.1) → (A.flatMap fun p => ((look st.objs p.1).map Ob.names).getD []) = A'.flatMap fun p => ((look st.objs p.1).map Ob.names).getD [] := by
      intro A A' h
      have e : ∀ A : List (Nm × Nm), (A.flatMap fun p => ((look st.objs p.1).map Ob.names).getD []) = (A.map (·.1)).flatMap fun m => ((look st.objs m).map Ob.names).getD [] := by
        intro A; rw [List.flatMap_map]
      rw [e, e, h]
    rw [this _ _ hF]
  unfold ioEnd at h ⊢
  simp only at h ⊢
  rw [hN]
  generalize ioNews (look st.objs) (ioPairs (canonR R.length) st.keep) v = N at h ⊢
  generalize hA0 : ioPairs (canonR R.length) st.keep = A0 at h hA
  generalize hB0 : (A0 ++ N.zipIdx.map fun p => (p.1, (1, 0 + p.2))) = B0 at h
  have hB : ioPairs R st.keep ++ N.zipIdx.map (fun p => (p.1, (d, i0 + p.2))) = B0.map fun p => (p.1, ioNm R d i0 p.2) := by
    rw [← hB0, List.map_append, hA, List.map_map]
    congr 1
    exact List.map_congr_left fun p _ => by simp [ioNm]
  rw [hB]
  have hBf : (B0.map fun p => (p.1, ioNm R d i0 p.2)).map (·.1) = B0.map (·.1) := by rw [List.map_map]; rfl
  rw [hBf]
  obtain ⟨h1, h2⟩ := chk_inv h
  cases h2
  have hnm : ∀ m, (B0.map (·.1)).contains m = true → ((B0.map fun p => (p.1, ioNm R d i0 p.2)).lookup m).getD m = ioNm R d i0 ((B0.lookup m).getD m) := by
    intro m hm
    obtain ⟨t, ht⟩ := lookup_some hm
    rw [lookup_map2, ht]; rfl
  have hob : ∀ nm, ioOb (look st.objs) (B0.map fun p => (p.1, ioNm R d i0 p.2)) nm = (ioOb (look st.objs) B0 nm).ren (ioNm R d i0) := by
    intro nm
    unfold ioOb
    rw [hBf, Ob.ren_ren]
    exact Ob.ren_congr fun m hm => hnm m (Ob.cut_names hm)
  simp only [chk, h1, if_true, Option.some.injEq, Out.mk.injEq, true_and, and_true]
  refine ⟨?_, ?_, ?_, ?_⟩
  · rw [ren_ren]
    exact ren_congr fun m hm => hnm m (cut_names hm)
  · rw [List.map_map]
    exact List.map_congr_left fun m _ => hob m
  · simp only [ioGone]
    apply List.ext_getElem?
    intro i
    have e : (R.zipIdx.filter fun p => (witNm (st.keep.getD p.2 .undef)).isNone).map (·.1) = (((canonR R.length).zipIdx.filter fun p => (witNm (st.keep.getD p.2 .undef)).isNone).map (·.1)).map (ioNm R d i0) := by
      have hz : R.zipIdx = (canonR R.length).zipIdx.map fun p => (ioNm R d i0 p.1, p.2) := by
        apply List.ext_getElem?
        intro i
        simp only [List.getElem?_map, List.getElem?_zipIdx, Nat.zero_add, canonR]
        by_cases hi : i < R.length
        · rw [List.getElem?_eq_getElem hi, List.getElem?_range hi]
          simp [ioNm, List.getD_eq_getElem?_getD, List.getElem?_eq_getElem hi]
        · rw [List.getElem?_eq_none_iff.2 (by omega), List.getElem?_eq_none_iff.2 (by simp; omega)]
          rfl
      rw [hz, List.filter_map, List.map_map, List.map_map]
      rfl
    rw [e]
  · have hR2 : A0.map (fun p => ioNm R d i0 p.2) = R := by
      rw [← hA0]
      apply List.ext_getElem?
      intro i
      simp only [ioPairs, List.getElem?_map, List.getElem?_zipIdx, Nat.zero_add, canonR]
      by_cases hi : i < R.length
      · rw [List.getElem?_eq_getElem hi, List.getElem?_range hi]
        simp [ioNm, List.getD_eq_getElem?_getD, List.getElem?_eq_getElem hi]
      · rw [List.getElem?_eq_none_iff.2 (by omega : R.length ≤ i), List.getElem?_eq_none_iff.2 (by simp; omega)]
        rfl
    have hz : ∀ (l : List (Nm × Nm)) (f : Nm × Nm → Nm) (g : Nm × Nm → Ob), l.map (fun p => (f p, g p)) = (l.map f).zip (l.map g) := by
      intro l f g
      induction l with
      | nil => rfl
      | cons p l ih => simp [ih]
    have e1 : (A0.map fun p => (p.1, ioNm R d i0 p.2)).map (fun p => (p.2, ioOb (look st.objs) (B0.map fun p => (p.1, ioNm R d i0 p.2)) p.1)) = A0.map fun p => (ioNm R d i0 p.2, (ioOb (look st.objs) B0 p.1).ren (ioNm R d i0)) := by
      rw [List.map_map]
      exact List.map_congr_left fun p _ => by simp only [Function.comp, hob]
    rw [hA, e1, hz, hR2, List.map_map]
    rfl
end Go.Ab

