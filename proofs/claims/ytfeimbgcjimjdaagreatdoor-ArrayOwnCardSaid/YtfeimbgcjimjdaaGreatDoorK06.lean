/-
  Part 6 of a proof: a machine of our own for the given program, its laws, and what it says of the program. Nothing here is a claim by itself.
-/
import Derived.Test.YtfeimbgcjimjdaaGreatDoorK03
import Derived.ChangeArms
import Derived.ChangeSlices
import Derived.ChangeMaps5
import Derived.JoinedOf
import Derived.RowKit
import Derived.Test.YtfeimbgcjimjdaaGreatDoorK05
import Derived.Lib.Mul64
import Derived.Lib.EndianBits
set_option linter.all false

namespace Go.Ab
open Go Go.ChangeShapes Go.WideShapes Go.RowKit
inductive DTy where
  | bool
  | int (k : IntKind)
  | str
  | slice (e : DTy)
  | struct (fs : List DTy)
mutual
def DTy.cells : DTy → Nat
  | .struct fs => DTy.cellsL fs
  | .bool | .int _ | .str | .slice _ => 1
def DTy.cellsL : List DTy → Nat
  | [] => 0
  | d :: ds => d.cells + DTy.cellsL ds
end
mutual
def isD (P : Program) : Nat → DTy → TypeId → Bool
  | 0, _, _ => false
  | n + 1, D, t => match D, P.underlying t with
    | .bool, some .bool => true
    | .int k, some (.int k') => k' == k
    | .str, some .string => true
    | .slice e, some (.slice et) => isD P n e et && P.cellsOf et == e.cells && decide (0 < e.cells)
    | .struct fs, some (.struct fields) => P.cellsOf t == DTy.cellsL fs && isFs P n 0 fs fields.toList
    | _, _ => false
def isFs (P : Program) : Nat → Nat → List DTy → List Field → Bool
  | 0, _, _, _ => false
  | _ + 1, _, [], [] => true
  | n + 1, off, D :: ds, f :: fs => f.offset == off && P.cellsOf f.type == D.cells && isD P n D f.type && isFs P n (off + D.cells) ds fs
  | _ + 1, _, _, _ => false
end
mutual
def HasV : DTy → PV → Prop
  | .bool, v => ∃ b, v = .bool b
  | .int k, v => ∃ n, v = .int k n ∧ (Lit.int k n).wf = true
  | .str, v => ∃ s, v = .str s ∧ s.length ≤ maxLen
  | .slice e, v => v = .nilS ∨ ∃ xs, v = .sl e.cells xs false ∧ xs.length ≤ maxLen ∧ ∀ x ∈ xs, HasV e x
  | .struct fs, v => ∃ vs, v = .agg (cellsL vs) ∧ HasVs fs vs
def HasVs : List DTy → List PV → Prop
  | [], vs => vs = []
  | D :: fs, vs => ∃ v r, vs = v :: r ∧ HasV D v ∧ HasVs fs r
end
theorem repL1' {w : World} {I : Nat → Prop} {lp : Nat → Option Nat} {L : Option Loc} {a : PV} {us : List Value} (h : RepL w I lp L [a] us) : ∃ u, us = [u] ∧ RepV w I lp L a u := by
  obtain ⟨u, r, h1, rfl, h2⟩ : ∃ u r, RepV w I lp L a u ∧ us = u :: r ∧ RepL w I lp L [] r := by
    cases h; exact ⟨_, _, by assumption, rfl, by assumption⟩
  cases h2
  exact ⟨u, rfl, h1⟩
section
variable {H : Type} {enc : TypeId × Value → H} {P : Program} {w : World} {I : Nat → Prop} {lp : Nat → Option Nat} {held : Bool} {sp : Nat → Bool}
def RepD (w : World) (I : Nat → Prop) (lp : Nat → Option Nat) (D : DTy) (cs : List Value) : Prop := ∃ v : PV, HasV D v ∧ RepL w I lp none v.cells cs ∧ One cs ∧ v.cells.length = D.cells
theorem cells?_get {base : Nat} {a : Addr} {n : Nat} {l : List Value} (h : w.cells? base a n = some l) : l.length = n ∧ ∀ i, i < n → w.cell? (a.add i) = l[i]? := by
  obtain ⟨_, h1, h2⟩ := World.cells?_some h
  exact ⟨h1, fun i hi => by rw [h2 i hi]⟩
theorem cell?_row {a : Addr} {v : Value} (h : w.cell? a = some v) : ∃ c E fr, w.heap[a.block]? = some (.cells c E fr) ∧ a.spot = none ∧ c[a.off]? = some v := by
  unfold World.cell? at h
  split at h
  · rename_i c E fr hb
    split at h
    · cases h
    · rename_i hs
      exact ⟨c, E, fr, hb, by simpa using hs, h⟩
  · cases h
theorem addr_off (a : Addr) (h : a.spot = none) (i : Nat) : a.add i = ⟨a.block, a.off + i, none⟩ := by
  unfold Addr.add
  split
  · rename_i hi; subst hi; cases a; simp_all
  · rfl
theorem list_rep {e : DTy} (hI : ∀ b, b < w.heap.size → I b) {a : Addr} {len cap : Nat} (hlc : len ≤ cap) (hcm : cap ≤ maxLen) (hpos : 0 < e.cells)
    (hel : ∀ i, i < len → ∃ cs, w.cells? 0 (a.add (i * e.cells)) e.cells = some cs ∧ RepD w I lp e cs) : RepD w I lp (.slice e) [.slice (some a) len cap] := by
  by_cases h0 : len = 0
  · subst h0
    exact ⟨.sl e.cells [] false, .inr ⟨[], rfl, Nat.zero_le _, fun x hx => by cases hx⟩, .cons _ _ _ _ (.slE _ _ _ _ (fun h => by cases h)) .nil, by simp [One, Value.oneCell'], rfl⟩
  · obtain ⟨cs0, hcs0, _⟩ := hel 0 (by omega)
    obtain ⟨hl0, hg0⟩ := cells?_get hcs0
    have hf := hg0 0 hpos
    rw [Nat.zero_mul] at hf
    have e0 : (a.add 0).add 0 = a := by simp [Addr.add]
    rw [e0, List.getElem?_eq_getElem (by omega)] at hf
    obtain ⟨c, E, fr, hb, hs, _⟩ := cell?_row hf
    have hblt : a.block < w.heap.size := (Array.getElem?_eq_some_iff.1 hb).1
    have each : ∀ i, i < len → ∃ v : PV, HasV e v ∧ v.cells.length = e.cells ∧ (a.off + i * e.cells) + e.cells ≤ c.size ∧ One ((c.toList.drop (a.off + i * e.cells)).take e.cells) ∧ RepL w I lp none v.cells ((c.toList.drop (a.off + i * e.cells)).take e.cells) := by
      intro i hi
      obtain ⟨cs, hcs, v, h1, h2, h3, h4⟩ := hel i hi
      obtain ⟨hl, hg⟩ := cells?_get hcs
      have key : ∀ j, j < e.cells → c[a.off + i * e.cells + j]? = cs[j]? := by
        intro j hj
        have := hg j hj
        rw [addr_off a hs, addr_off _ rfl, cell_row hb] at this
        exact this
      have hsz : a.off + i * e.cells + e.cells ≤ c.size := by
        have := key (e.cells - 1) (by omega)
        rw [List.getElem?_eq_getElem (by omega)] at this
        have := (Array.getElem?_eq_some_iff.1 this).1
        omega
      have e1 : (c.toList.drop (a.off + i * e.cells)).take e.cells = cs := by
        apply List.ext_getElem?
        intro j
        by_cases hj : j < e.cells
        · rw [List.getElem?_take_of_lt hj, List.getElem?_drop, ← key j hj]; simp
        · rw [List.getElem?_eq_none (by simp; omega), List.getElem?_eq_none (by omega)]
      exact ⟨v, h1, h4, hsz, by rw [e1]; exact h3, by rw [e1]; exact h2⟩
    have all : ∀ n, n ≤ len → ∃ xs : List PV, xs.length = n ∧ (∀ x ∈ xs, HasV e x) ∧ (∀ x ∈ xs, x.cells.length = e.cells) ∧ a.off + n * e.cells ≤ c.size ∧ One ((c.toList.drop a.off).take (n * e.cells)) ∧ RepL w I lp none (cellsL xs) ((c.toList.drop a.off).take (n * e.cells)) := by
      intro n
      induction n with
      | zero =>
        intro _
        refine ⟨[], rfl, by simp, by simp, ?_, by simp [One], by simp; exact .nil⟩
        obtain ⟨_, _, _, h, _⟩ := each 0 (by omega)
        omega
      | succ n ih =>
        intro hn
        obtain ⟨xs, h1, h2, h3, h4, h5, h6⟩ := ih (by omega)
        obtain ⟨v, g1, g2, g3, g4, g5⟩ := each n (by omega)
        have e2 : (c.toList.drop a.off).take ((n + 1) * e.cells) = (c.toList.drop a.off).take (n * e.cells) ++ (c.toList.drop (a.off + n * e.cells)).take e.cells := by
          rw [Nat.add_mul, Nat.one_mul, List.take_add, List.drop_drop]
        refine ⟨xs ++ [v], by simp [h1], ?_, ?_, by rw [Nat.add_mul]; omega, ?_, ?_⟩
        · intro x hx
          rcases List.mem_append.1 hx with hx | hx
          · exact h2 x hx
          · simp at hx; subst hx; exact g1
        · intro x hx
          rcases List.mem_append.1 hx with hx | hx
          · exact h3 x hx
          · simp at hx; subst hx; exact g2
        · rw [e2]; exact h5.append' g4
        · rw [e2, cellsL_append]
          refine h6.append ?_
          simpa [cellsL] using g5
    obtain ⟨xs, h1, h2, h3, h4, h5, h6⟩ := all len (Nat.le_refl _)
    have ea : a = ⟨a.block, a.off, none⟩ := by cases a; simp_all
    refine ⟨.sl e.cells xs false, .inr ⟨xs, rfl, by omega, h2⟩, ?_, by simp [One, Value.oneCell'], rfl⟩
    rw [ea, ← h1]
    exact .cons _ _ _ _ (.sl e.cells xs false a.block a.off cap c E fr (hI _ hblt) hb (by rw [h1]; exact h4) h3 (by omega) (fun h => by cases h) (by rw [h1]; exact h5) (by rw [h1]; exact h6)) .nil
theorem struct_rep {n : Nat} (ih : ∀ (m : Nat) (D : DTy) (t : TypeId) (cs : List Value) (x : DataW H × List MemPlace), isD P m D t = true → DataW.trod enc P w 0 (fun _ => true) held n t cs = some x → RepD w I lp D cs) :
    ∀ (m : Nat) (ds : List DTy) (fs : List Field) (off : Nat) (cs : List Value) (xs : List (DataW H × List MemPlace)), isFs P m off ds fs = true → xs.length = fs.length → cs.length = off + DTy.cellsL ds →
    (∀ (i : Nat) (f : Field), fs[i]? = some f → DataW.trod enc P w 0 (fun _ => true) held n f.type ((cs.drop f.offset).take (P.cellsOf f.type)) = xs[i]?) →
    ∃ vs : List PV, HasVs ds vs ∧ RepL w I lp none (cellsL vs) (cs.drop off) ∧ One (cs.drop off) ∧ (cellsL vs).length = DTy.cellsL ds := by
  intro m
  induction m with
  | zero => intro ds fs off cs xs h; cases h
  | succ m ihm =>
    intro ds fs off cs xs h hl hc hf
    match ds, fs, h with
    | [], [], _ =>
      refine ⟨[], rfl, ?_, ?_, rfl⟩
      · rw [List.drop_of_length_le (by simp [DTy.cellsL] at hc; omega)]; exact .nil
      · rw [List.drop_of_length_le (by simp [DTy.cellsL] at hc; omega)]; simp [One]
    | D :: ds, f :: fs, h =>
      simp only [isFs, Bool.and_eq_true, beq_iff_eq] at h
      obtain ⟨⟨⟨h1, h2⟩, h3⟩, h4⟩ := h
      match xs, hl with
      | x :: xs, hl =>
        have hx := hf 0 f rfl
        rw [h1, h2] at hx
        obtain ⟨v, g1, g2, g3, g4⟩ := ih m D f.type _ x h3 hx
        simp only [DTy.cellsL] at hc
        obtain ⟨vs, k1, k2, k3, k4⟩ := ihm ds fs (off + D.cells) cs xs h4 (by simpa using hl) (by omega) (fun i f hi => by simpa using hf (i + 1) f (by simpa using hi))
        have e1 : cs.drop off = (cs.drop off).take D.cells ++ cs.drop (off + D.cells) := by rw [← List.drop_drop, List.take_append_drop]
        refine ⟨v :: vs, ⟨v, vs, rfl, g1, k1⟩, ?_, ?_, by simp [cellsL, DTy.cellsL, g4, k4]⟩
        · rw [e1]; exact g2.append k2
        · rw [e1]; exact g3.append' k3
theorem rep_of_trod (hI : ∀ b, b < w.heap.size → I b) : ∀ (fuel m : Nat) (D : DTy) (t : TypeId) (cs : List Value) (x : DataW H × List MemPlace), isD P m D t = true → DataW.trod enc P w 0 (fun _ => true) held fuel t cs = some x → RepD w I lp D cs := by
  intro fuel
  induction fuel with
  | zero => intro m D t cs x _ h; simp [DataW.trod] at h
  | succ fuel ih =>
    intro m D t cs x hD h
    cases m with
    | zero => cases hD
    | succ m =>
      cases hu : P.underlying t with
      | none => cases D <;> simp [isD, hu] at hD
      | some d =>
        cases D with
        | bool =>
          cases d <;> simp [isD, hu] at hD
          obtain ⟨b, rfl, _⟩ := DataW.trod_bool hu h
          exact ⟨.bool b, ⟨b, rfl⟩, .cons _ _ _ _ (.bool b) .nil, by simp [One, Value.oneCell'], rfl⟩
        | int k =>
          cases d <;> simp [isD, hu] at hD
          subst hD
          obtain ⟨n, rfl, _, hw⟩ := DataW.trod_int hu h
          exact ⟨.int _ n, ⟨n, rfl, hw⟩, .cons _ _ _ _ (.int _ n) .nil, by simp [One, Value.oneCell'], rfl⟩
        | str =>
          cases d <;> simp [isD, hu] at hD
          obtain ⟨s, rfl, _, hw⟩ := DataW.trod_string hu h
          obtain ⟨l, rfl⟩ : ∃ l : List UInt8, s = ⟨l.toArray⟩ := ⟨s.data.toList, by cases s; simp⟩
          exact ⟨.str l, ⟨l, rfl, by simpa [ByteArray.size] using hw⟩, .cons _ _ _ _ (.str l) .nil, by simp [One, Value.oneCell'], rfl⟩
        | slice e =>
          cases d <;> simp [isD, hu] at hD
          rename_i et
          obtain ⟨⟨h1, h2⟩, h3⟩ := hD
          rcases DataW.trod_slice hu h with ⟨rfl, _⟩ | ⟨a, len, cap, elems, rest, n, hn, rfl, _, _, hl, hm, hlen, hel, _⟩
          · exact ⟨.nilS, .inl rfl, .cons _ _ _ _ .nilS .nil, by simp [One, Value.oneCell'], rfl⟩
          · cases hn
            refine list_rep hI hl hm h3 fun i hi => ?_
            have := hel i hi
            rw [List.getElem?_eq_getElem (by omega), Option.bind_eq_some_iff, h2] at this
            obtain ⟨cs, hcs, hx⟩ := this
            exact ⟨cs, hcs, ih m e et cs _ h1 hx⟩
        | struct ds =>
          cases d <;> simp [isD, hu] at hD
          rename_i fields
          obtain ⟨h1, h2⟩ := hD
          obtain ⟨xs, n, hn, _, hl, hlen, hf⟩ := DataW.trod_struct hu h
          cases hn
          obtain ⟨vs, k1, k2, k3, k4⟩ := struct_rep ih m ds fields.toList 0 cs xs h2 (by simpa using hlen) (by rw [hl, h1]; omega) (fun i f hi => hf i f (by simpa using hi))
          rw [List.drop_zero] at k2 k3
          exact ⟨.agg (cellsL vs), ⟨vs, rfl, k1⟩, k2, k3, by simpa [PV.cells, DTy.cells] using k4⟩
variable {w' : World} {sp' : Nat → Bool}
theorem cell?_keep (hk : ∀ b, b < w.heap.size → w'.heap[b]? = w.heap[b]?) {a : Addr} {v : Value} (h : w.cell? a = some v) : a.block < w.heap.size ∧ w'.cell? a = some v := by
  obtain ⟨c, E, fr, hb, hs, hv⟩ := cell?_row h
  have hlt : a.block < w.heap.size := (Array.getElem?_eq_some_iff.1 hb).1
  refine ⟨hlt, ?_⟩
  unfold World.cell?
  rw [hk _ hlt, hb]
  simp [hs, hv]
theorem mapM_congr' {α β : Type} {f g : α → Option β} : ∀ (l : List α) {ys : List β}, l.mapM f = some ys → (∀ x ∈ l, ∀ y, f x = some y → g x = some y) → l.mapM g = some ys
  | [], ys, h, _ => by simpa using h
  | x :: l, ys, h, hg => by
    rw [List.mapM_cons] at h ⊢
    simp only [Option.bind_eq_bind, Option.bind_eq_some_iff, Option.pure_def, Option.some.injEq] at h ⊢
    obtain ⟨y, h1, ys', h2, rfl⟩ := h
    exact ⟨y, hg x (by simp) y h1, ys', mapM_congr' l h2 (fun z hz => hg z (by simp [hz])), rfl⟩
theorem cells?_keep (hk : ∀ b, b < w.heap.size → w'.heap[b]? = w.heap[b]?) {a : Addr} {n : Nat} {l : List Value} (h : w.cells? 0 a n = some l) : w'.cells? 0 a n = some l ∧ (0 < n → a.block < w.heap.size) := by
  refine ⟨?_, fun hn => ?_⟩
  · unfold World.cells? at h ⊢
    rw [if_pos (Nat.zero_le _)] at h ⊢
    exact mapM_congr' _ h fun i _ v hv => (cell?_keep hk hv).2
  · obtain ⟨h1, h2⟩ := cells?_get h
    have := h2 0 hn
    rw [List.getElem?_eq_getElem (by omega)] at this
    have := (cell?_keep hk this).1
    rwa [block_add] at this
theorem fields_keep {n : Nat} (ih : ∀ (m : Nat) (D : DTy) (t : TypeId) (cs : List Value) (x : DataW H × List MemPlace), isD P m D t = true → DataW.trod enc P w 0 (fun _ => true) held n t cs = some x → DataW.trod enc P w' 0 sp' held n t cs = some x) :
    ∀ (m : Nat) (ds : List DTy) (fs : List Field) (off : Nat), isFs P m off ds fs = true → ∀ f ∈ fs, ∀ cs x, DataW.trod enc P w 0 (fun _ => true) held n f.type cs = some x → DataW.trod enc P w' 0 sp' held n f.type cs = some x := by
  intro m
  induction m with
  | zero => intro ds fs off h; cases h
  | succ m ihm =>
    intro ds fs off h f hf cs x hx
    match ds, fs, h with
    | [], [], _ => cases hf
    | D :: ds, g :: fs, h =>
      simp only [isFs, Bool.and_eq_true, beq_iff_eq] at h
      rcases List.mem_cons.1 hf with rfl | hf
      · exact ih m D _ cs x h.1.2 hx
      · exact ihm ds fs _ h.2 f hf cs x hx
theorem trod_keep (hk : ∀ b, b < w.heap.size → w'.heap[b]? = w.heap[b]?) (hsp : ∀ b, b < w.heap.size → sp' b = true) : ∀ (fuel m : Nat) (D : DTy) (t : TypeId) (cs : List Value) (x : DataW H × List MemPlace), isD P m D t = true →
    DataW.trod enc P w 0 (fun _ => true) held fuel t cs = some x → DataW.trod enc P w' 0 sp' held fuel t cs = some x := by
  intro fuel
  induction fuel with
  | zero => intro m D t cs x _ h; simp [DataW.trod] at h
  | succ fuel ih =>
    intro m D t cs x hD h
    cases m with
    | zero => cases hD
    | succ m =>
      cases hu : P.underlying t with
      | none => cases D <;> simp [isD, hu] at hD
      | some d =>
        cases D with
        | bool =>
          cases d <;> simp [isD, hu] at hD
          obtain ⟨b, rfl, rfl⟩ := DataW.trod_bool hu h
          simp [DataW.trod, hu]
        | int k =>
          cases d <;> simp [isD, hu] at hD
          subst hD
          obtain ⟨n, rfl, rfl, hw⟩ := DataW.trod_int hu h
          simp [DataW.trod, hu, hw]
        | str =>
          cases d <;> simp [isD, hu] at hD
          obtain ⟨s, rfl, rfl, hw⟩ := DataW.trod_string hu h
          simp [DataW.trod, hu, hw]
        | slice e =>
          cases d <;> simp [isD, hu] at hD
          rename_i et
          obtain ⟨⟨h1, h2⟩, h3⟩ := hD
          rcases DataW.trod_slice hu h with ⟨rfl, rfl⟩ | ⟨a, len, cap, elems, rest, n, hn, rfl, _, _, hl, hm, hlen, _, _⟩
          · simp [DataW.trod, hu]
          · unfold DataW.trod at h ⊢
            simp only [hu] at h ⊢
            rw [if_pos ⟨Nat.zero_le _, hl, hm⟩] at h ⊢
            have el : ∀ i y, (w.cells? 0 (a.add (i * P.cellsOf et)) (P.cellsOf et)).bind (DataW.trod enc P w 0 (fun _ => true) held fuel et) = some y → (w'.cells? 0 (a.add (i * P.cellsOf et)) (P.cellsOf et)).bind (DataW.trod enc P w' 0 sp' held fuel et) = some y ∧ a.block < w.heap.size := by
              intro i y hy
              obtain ⟨cs, hcs, hx⟩ := Option.bind_eq_some_iff.1 hy
              obtain ⟨k1, k2⟩ := cells?_keep hk hcs
              refine ⟨Option.bind_eq_some_iff.2 ⟨cs, k1, ih m e et cs y h1 hx⟩, ?_⟩
              have := k2 (by omega)
              rwa [block_add] at this
            obtain ⟨es, he, h⟩ := Option.bind_eq_some_iff.1 h
            refine Option.bind_eq_some_iff.2 ⟨es, mapM_congr' _ he fun i _ y hy => (el i y hy).1, ?_⟩
            obtain ⟨rs, hr, rfl⟩ := Option.map_eq_some_iff.1 h
            refine Option.map_eq_some_iff.2 ⟨rs, ?_, rfl⟩
            simp only [if_true] at hr
            cases hc : cap - len with
            | zero =>
              rw [hc] at hr
              simp at hr
              subst hr
              split <;> simp
            | succ q =>
              have hlt : a.block < w.heap.size := by
                rw [hc, List.range_succ_eq_map, List.mapM_cons] at hr
                simp only [Option.bind_eq_bind, Option.bind_eq_some_iff] at hr
                obtain ⟨y, hy, _⟩ := hr
                exact (el _ y (Option.bind_eq_some_iff.2 hy)).2
              rw [if_pos (hsp _ hlt), ← hc]
              exact mapM_congr' _ hr fun i _ y hy => (el _ y hy).1
        | struct ds =>
          cases d <;> simp [isD, hu] at hD
          rename_i fields
          obtain ⟨h1, h2⟩ := hD
          have key := fields_keep ih m ds fields.toList 0 h2
          unfold DataW.trod at h ⊢
          simp only [hu] at h ⊢
          split at h
          · rename_i hlc
            rw [if_pos hlc]
            obtain ⟨xs, hx, rfl⟩ := Option.map_eq_some_iff.1 h
            exact Option.map_eq_some_iff.2 ⟨xs, mapM_congr' _ hx fun f hf y hy => key f hf _ y hy, rfl⟩
          · cases h
def isDs (P : Program) (m : Nat) : List DTy → List TypeId → Bool
  | [], [] => true
  | D :: Ds, t :: ts => isD P m D t && isDs P m Ds ts
  | _, _ => false
theorem val_rep (hI : ∀ b, b < w.heap.size → I b) {m : Nat} {D : DTy} {t : TypeId} {v : Value} {d : DataW H} {ps : List MemPlace} {base : Nat} (hD : isD P m D t = true) (hv : Value.okWide P w .any base t v) (h : DataW.Trod enc P w 0 (fun _ => true) held t v d ps) :
    ∃ u : PV, HasV D u ∧ RepV w I lp none u v := by
  obtain ⟨fuel, h⟩ := h
  obtain ⟨u, h1, h2, h3, h4⟩ := rep_of_trod (lp := lp) hI fuel m D t _ _ hD h
  cases m with
  | zero => cases hD
  | succ m =>
    cases hu : P.underlying t with
    | none => cases D <;> simp [isD, hu] at hD
    | some dd =>
      have one : (∀ x, v.cells.toList = [x] → v = x) → (∀ x : PV, u.cells = [x] → u = x) → (∃ x, u.cells = [x]) → ∃ u : PV, HasV D u ∧ RepV w I lp none u v := by
        intro ho hp ⟨x, hx⟩
        have hux := hp x hx
        rw [hx] at h2
        obtain ⟨y, hy, hr⟩ := repL1' h2
        rw [ho y hy]
        exact ⟨u, h1, by rw [hux]; exact hr⟩
      have sc : (∀ vs, v ≠ .agg vs) → ∀ x, v.cells.toList = [x] → v = x := by
        intro hn x hx
        cases v <;> first | (simp [Value.cells] at hx; exact hx) | exact absurd rfl (hn _)
      cases D with
      | struct ds =>
        cases dd <;> simp [isD, hu] at hD
        obtain ⟨cs, rfl, _⟩ := okWide_struct hu hv
        obtain ⟨vs, rfl, hvs⟩ := h1
        exact ⟨_, ⟨vs, rfl, hvs⟩, .agg _ _ h3 h2⟩
      | bool =>
        cases dd <;> simp [isD, hu] at hD
        obtain ⟨b, rfl⟩ := h1
        exact one (sc fun vs e => by subst e; simp [Value.okWide, hu, Cell.okWide, Cell.ok] at hv) (fun x hx => by simpa [PV.cells] using hx) ⟨_, rfl⟩
      | int k =>
        cases dd <;> simp [isD, hu] at hD
        obtain ⟨b, rfl, _⟩ := h1
        exact one (sc fun vs e => by subst e; simp [Value.okWide, hu, Cell.okWide, Cell.ok] at hv) (fun x hx => by simpa [PV.cells] using hx) ⟨_, rfl⟩
      | str =>
        cases dd <;> simp [isD, hu] at hD
        obtain ⟨b, rfl, _⟩ := h1
        exact one (sc fun vs e => by subst e; simp [Value.okWide, hu, Cell.okWide, Cell.ok] at hv) (fun x hx => by simpa [PV.cells] using hx) ⟨_, rfl⟩
      | slice e =>
        cases dd <;> simp [isD, hu] at hD
        have hs := sc fun vs e => by subst e; simp [Value.okWide, hu, Cell.okWide, Cell.ok] at hv
        rcases h1 with rfl | ⟨xs, rfl, _, _⟩
        · exact one hs (fun x hx => by simpa [PV.cells] using hx) ⟨_, rfl⟩
        · exact one hs (fun x hx => by simpa [PV.cells] using hx) ⟨_, rfl⟩
theorem args_rep (hI : ∀ b, b < w.heap.size → I b) {m base : Nat} : ∀ (Ds : List DTy) (ts : List TypeId) (vs : List Value) (ds : List (DataW H)) (p : List MemPlace), isDs P m Ds ts = true →
    (∀ (j : Nat) t v, ts[j]? = some t → vs[j]? = some v → Value.okWide P w .any base t v) → DataW.TrodAll enc P w 0 (fun _ => true) held ts vs ds p → ∃ us : List PV, HasVs Ds us ∧ RepL w I lp none us vs
  | [], [], vs, ds, p, _, _, h => by
    obtain ⟨rfl, rfl, rfl⟩ := trodAll_nil h
    exact ⟨[], rfl, .nil⟩
  | D :: Ds, t :: ts, vs, ds, p, hD, hv, h => by
    obtain ⟨v, vs, d, ds, p, q, rfl, rfl, rfl, h1, h2⟩ := trodAll_cons h
    simp only [isDs, Bool.and_eq_true] at hD
    obtain ⟨u, a, b⟩ := val_rep (lp := lp) hI hD.1 (hv 0 t v rfl rfl) h1
    obtain ⟨us, a', b'⟩ := args_rep hI Ds ts vs ds q hD.2 (fun j t v ht hj => hv (j + 1) t v (by simpa using ht) (by simpa using hj)) h2
    exact ⟨u :: us, ⟨u, us, rfl, a, a'⟩, .cons _ _ _ _ b b'⟩
  | [], _ :: _, _, _, _, hD, _, _ => by cases hD
  | _ :: _, [], _, _, _, hD, _, _ => by cases hD
theorem args_keep (hk : ∀ b, b < w.heap.size → w'.heap[b]? = w.heap[b]?) (hsp : ∀ b, b < w.heap.size → sp' b = true) {m : Nat} : ∀ (Ds : List DTy) (ts : List TypeId) (vs : List Value) (ds : List (DataW H)) (p : List MemPlace), isDs P m Ds ts = true →
    DataW.TrodAll enc P w 0 (fun _ => true) held ts vs ds p → DataW.TrodAll enc P w' 0 sp' held ts vs ds p
  | [], [], vs, ds, p, _, h => by
    obtain ⟨rfl, rfl, rfl⟩ := trodAll_nil h
    exact rfl
  | D :: Ds, t :: ts, vs, ds, p, hD, h => by
    obtain ⟨v, vs, d, ds, p, q, rfl, rfl, rfl, ⟨fuel, h1⟩, h2⟩ := trodAll_cons h
    simp only [isDs, Bool.and_eq_true] at hD
    exact ⟨p, q, ⟨fuel, trod_keep hk hsp fuel m D t _ _ hD.1 h1⟩, args_keep hk hsp Ds ts vs ds q hD.2 h2, rfl⟩
  | [], _ :: _, _, _, _, hD, _ => by cases hD
  | _ :: _, [], _, _, _, hD, _ => by cases hD
end
end Go.Ab


namespace Go.Ab.Arrays
open Go Go.Ab
theorem w64 {n : Int} (h1 : -9223372036854775808 ≤ n) (h2 : n ≤ 9223372036854775807) : IntKind.i64.wrap n = n := IntWalk.i64_in _ ⟨h1, h2⟩
def I (n : Int) : PV := .int .i64 n
def ints (l : List Int) : List PV := l.map I
theorem ints_len (l : List Int) : (ints l).length = l.length := by simp [ints]
theorem ints_get {l : List Int} {i : Nat} (h : i < l.length) : (ints l)[i]? = some (I l[i]) := by simp [ints, h]
theorem ints_take (l : List Int) (k : Nat) : (ints l).take k = ints (l.take k) := by simp [ints, List.map_take]
theorem okVL_ints (l : List Int) : okVL (ints l) = true := by
  induction l with
  | nil => rfl
  | cons a l ih => simpa [ints, okVL, okV, I] using ih
inductive IsL : PV → List Int → Prop
  | nil : IsL .nilS []
  | sl (l : List Int) (f : Bool) : IsL (.sl 1 (ints l) f) l
theorem IsL.ok {v : PV} {l : List Int} (h : IsL v l) : okV v = true := by
  cases h with
  | nil => rfl
  | sl f => simp [okV, okVL_ints]
theorem IsL.cells {v : PV} {l : List Int} (h : IsL v l) : v.cells = [v] := by cases h <;> rfl
theorem IsL.val {v : PV} {l : List Int} (h : IsL v l) : v.isVal = true := by cases h <;> rfl
theorem IsL.cell {v : PV} {l : List Int} (h : IsL v l) : v.isCell = true := by cases h <;> rfl
theorem IsL.und {v : PV} {l : List Int} (h : IsL v l) : isUndef v = false := by cases h <;> rfl
theorem IsL.len {v : PV} {l : List Int} (h : IsL v l) : pureO (.len .slice (.c v)) = some (I l.length) := by
  cases h with
  | nil => rfl
  | sl f => rw [pure_lenl, ints_len]; rfl
theorem IsL.idx {v : PV} {l : List Int} (h : IsL v l) {i : Nat} (hi : i < l.length) : pureO (.idxAddr 1 (.c v) (.c (I i))) = some (.ptr [I l[i]] 0) := by
  cases h with
  | nil => simp at hi
  | sl f => exact pure_lidx (by omega) (ints_get hi)
theorem IsL.elems {v : PV} {l : List Int} (h : IsL v l) : elemsO 1 v = some (ints l) := by
  cases h with
  | nil => rfl
  | sl f => simp [elemsO, Go.Ab.elems, chk]
theorem IsL.hi {v : PV} {l : List Int} (h : IsL v l) {k : Nat} (hk : k ≤ l.length) : ∃ u, pureO (.slice 1 (.c v) none (some (.c (I k))) none) = some u ∧ IsL u (l.take k) := by
  cases h with
  | nil =>
    have : k = 0 := by simpa using hk
    subst this
    exact ⟨.nilS, by simp [pureO, exec, RX.ev, evO, bound, natOf, chk, I, sliceOf], .nil⟩
  | sl _ f =>
    have hk' : k ≤ (ints l).length := by rw [ints_len]; exact hk
    refine ⟨.sl 1 (ints (l.take k)) (f && k == (ints l).length), ?_, .sl _ _⟩
    simp [pureO, exec, RX.ev, evO, bound, natOf, chk, I, hk', ints_take, sliceOf]
@[simp] theorem load_I (n : Int) : pureO (.load 1 false (.c (.ptr [I n] 0))) = some (I n) := rfl
@[simp] theorem I_lss {c : TC} {b : Bool} (a n : Int) : pureO (.bin .lss c b (.c (I a)) (.c (I n))) = some (.bool (decide (a < n))) := pure_lss a n
@[simp] theorem I_eql {c : TC} {b : Bool} (a n : Int) : pureO (.bin .eql c b (.c (I a)) (.c (I n))) = some (.bool (a == n)) := pure_eql a n
@[simp] theorem I_neq {c : TC} {b : Bool} (a n : Int) : pureO (.bin .neq c b (.c (I a)) (.c (I n))) = some (.bool (a != n)) := pure_neq a n
@[simp] theorem I_add {c : TC} {b : Bool} (a n : Int) : pureO (.bin .add c b (.c (I a)) (.c (I n))) = some (I (IntKind.i64.wrap (a + n))) := pure_add a n
@[simp] theorem I_sub {c : TC} {b : Bool} (a n : Int) : pureO (.bin .sub c b (.c (I a)) (.c (I n))) = some (I (IntKind.i64.wrap (a - n))) := pure_sub a n
@[simp] theorem I_geq {c : TC} {b : Bool} (a n : Int) : pureO (.bin .geq c b (.c (I a)) (.c (I n))) = some (.bool (decide (n ≤ a))) := pure_geq a n
@[simp] theorem I_leq {c : TC} {b : Bool} (a n : Int) : pureO (.bin .leq c b (.c (I a)) (.c (I n))) = some (.bool (decide (a ≤ n))) := pure_leq a n
@[simp] theorem I_gtr {c : TC} {b : Bool} (a n : Int) : pureO (.bin .gtr c b (.c (I a)) (.c (I n))) = some (.bool (decide (n < a))) := pure_gtr a n
theorem I_def (n : Int) : PV.int .i64 n = I n := rfl
@[simp] theorem okV_I (n : Int) : okV (I n) = true := rfl
@[simp] theorem cells_I (n : Int) : (I n).cells = [I n] := rfl
@[simp] theorem isUndef_I (n : Int) : isUndef (I n) = false := rfl
@[simp] theorem isVal_I (n : Int) : (I n).isVal = true := rfl
@[simp] theorem isCell_I (n : Int) : (I n).isCell = true := rfl
@[simp] theorem natP_I (n : Int) : natP (I n) = n.toNat := rfl
theorem wsucc {i : Nat} (h : i < 9223372036854775807) : IntKind.i64.wrap ((i : Int) + 1) = ((i + 1 : Nat) : Int) := by rw [w64 (by omega) (by omega)]; omega
structure Arr where
  li : Bool
  ru : Bool
  n : List Int
inductive IsA : PV → Arr → Prop
  | mk (li ru : Bool) (x : PV) (l : List Int) (h : IsL x l) : IsA (.agg [.bool li, .bool ru, x]) ⟨li, ru, l⟩
theorem IsA.ok {v : PV} {a : Arr} (h : IsA v a) : okV v = true := by
  obtain ⟨li, ru, x, l, h⟩ := h
  simp [okV, okVL, h.ok]
theorem IsA.get {v : PV} {a : Arr} (h : IsA v a) : ∃ x, v = .agg [.bool a.li, .bool a.ru, x] ∧ IsL x a.n := by
  obtain ⟨li, ru, x, l, h⟩ := h
  exact ⟨x, rfl, h⟩
def noArr : Arr := ⟨false, false, []⟩
theorem noArr_is : IsA (.agg [.bool false, .bool false, .nilS]) noArr := .mk _ _ _ _ .nil
@[simp] theorem valO_agg (cs : List PV) : valO (.agg cs) = (PV.agg cs).isVal := rfl
theorem val3 {a b c : PV} (ha : a.isCell = true) (hb : b.isCell = true) (hc : c.isCell = true) : (PV.agg [a, b, c]).isVal = true := by simp [PV.isVal, ha, hb, hc]
theorem sel3_0 (a b c : PV) : sel [a, b, c] 0 1 false = some a := rfl
theorem sel3_1 (a b c : PV) : sel [a, b, c] 1 1 false = some b := rfl
theorem sel3_2 (a b c : PV) : sel [a, b, c] 2 1 false = some c := rfl
theorem sel3_a (a b c : PV) : sel [a, b, c] 0 3 true = some (.agg [a, b, c]) := rfl
theorem build3 {z a b c : PV} (ha : a.cells = [a]) (hb : b.cells = [b]) (hc : c.cells = [c]) (va : a.isVal = true) (vb : b.isVal = true) (vc : c.isVal = true) (x y : PV) :
    pureO (.build [x, y, z] [(0, (1, .c a)), (1, (1, .c b)), (2, (1, .c c))]) = some (.agg [a, b, c]) := by
  simp [pureO, exec, fillPV, RX.ev, ha, hb, hc, va, vb, vc, splice, chk]
theorem okCells3 {a b c : PV} (h : (PV.agg [a, b, c]).isVal = true) : okCells (.agg [a, b, c]) 3 = true := by simp [okCells, h]
@[simp] theorem cellP3_0 (a b c : PV) : cellP (.agg [a, b, c]) 0 = a := rfl
@[simp] theorem cellP3_1 (a b c : PV) : cellP (.agg [a, b, c]) 1 = b := rfl
@[simp] theorem cellP3_2 (a b c : PV) : cellP (.agg [a, b, c]) 2 = c := rfl
theorem min_run {n : Nat} (k : Nat) (c : Int) (hc : c = k) : pureO (.minmax false [.c (I n), .c (.int .i64 c)]) = some (I (min n k : Nat)) := by
  subst hc
  simp only [pureO, exec, List.map_cons, List.map_nil, RX.ev, foldMM, I]
  by_cases h : n ≤ k
  · have : ¬ (k : Int) < (n : Int) := by omega
    simp [this, Nat.min_eq_left h, chk]
  · have : (k : Int) < (n : Int) := by omega
    simp [this, Nat.min_eq_right (by omega : k ≤ n), chk]
def Arr.few (a : Arr) : Arr := ⟨a.li, a.ru, a.n.take 202⟩
theorem few_run {v : PV} {a : Arr} (h : IsA v a) : ∃ u, callO B0 .cl (.fn 9 []) [v] = some u ∧ IsA u a.few := by
  obtain ⟨x, rfl, hx⟩ := h.get
  obtain ⟨y, hy, hl⟩ := hx.hi (k := min a.n.length 202) (by omega)
  have e : a.n.take (min a.n.length 202) = a.n.take 202 := by
    rcases Nat.le_total a.n.length 202 with h | h
    · rw [Nat.min_eq_left h, List.take_length, List.take_of_length_le h]
    · rw [Nat.min_eq_right h]
  rw [e] at hl
  refine ⟨.agg [.bool a.li, .bool a.ru, y], ?_, .mk _ _ _ _ hl⟩
  refine call (d := fun _ => .cl) rfl (by decide) (by simp [okVL, h.ok]) rfl ?_
  rw [List.map_cons, List.map_nil, run9, valO_agg, val3 rfl rfl hx.cell, chkO_true]
  simp only [selO_eq, cells_agg', sel3_0, sel3_1, sel3_2, bindO_val, hx.len]
  rw [min_run 202 202 rfl]
  simp only [bindO_val, hy]
  rw [build3 (a := .bool a.li) (b := .bool a.ru) (c := y) rfl rfl hl.cells rfl rfl hl.val]
  simp only [bindO_val, okCells3 (val3 (a := .bool a.li) (b := .bool a.ru) rfl rfl hl.cell), chkO_true, cellP3_0, cellP3_1, cellP3_2]
def rune (n : Int) : Bool := decide (0 ≤ n) && (decide (n ≤ 1114111) && (decide (n < 55296) || decide (57343 < n)))
theorem rune_run (n : Int) : callO B0 .cl (.fn 29 []) [I n] = some (.bool (rune n)) := by
  refine call (d := fun _ => .cl) rfl (by decide) rfl rfl ?_
  rw [List.map_cons, List.map_nil, run29]
  simp only [I_def, I_geq, I_leq, I_lss, I_gtr, bindO_val, iteP_bool]
  unfold rune
  by_cases h1 : 0 ≤ n <;> by_cases h2 : n ≤ 1114111 <;> by_cases h3 : n < 55296 <;> simp [h1, h2, h3]
theorem other_run (n : Int) : callO B0 .cl (.fn 28 []) [I n] = some (.bool (!rune n)) := by
  refine call (d := fun _ => .cl) rfl (by decide) rfl rfl ?_
  rw [List.map_cons, List.map_nil, run28, rune_run]
  simp
def idxP (p : Int → Bool) (i : Nat) : List Int → Int
  | [] => -1
  | x :: l => if p x then (i : Int) else idxP p (i + 1) l
theorem idxP_any (p : Int → Bool) : ∀ (l : List Int) (i : Nat), decide (0 ≤ idxP p i l) = l.any p := by
  intro l
  induction l with
  | nil => intro i; rfl
  | cons x l ih =>
    intro i
    simp only [idxP, List.any_cons]
    by_cases hx : p x = true
    · simp [hx]
    · have := ih (i + 1)
      simp only [hx, Bool.false_eq_true, if_false, this]
      simp [hx]
theorem drop_cons {α : Type} {l : List α} {i : Nat} (h : i < l.length) : l.drop i = l[i] :: l.drop (i + 1) := by rw [List.drop_eq_getElem_cons h]
theorem index_run {v f : PV} {l : List Int} {p : Int → Bool} (hv : IsL v l) (hl : l.length ≤ 1000000) (hf : okV f = true) (hu : isUndef f = false) (hp : ∀ n ∈ l, callO B0 .cl f [I n] = some (.bool (p n))) :
    callO B0 .cl (.fn 48 []) [v, f] = some (I (idxP p 0 l)) := by
  refine call (d := fun _ => .cl) rfl (by decide) (by simp [okVL, hv.ok, hf]) rfl ?_
  rw [List.map_cons, List.map_cons, List.map_nil, run48, hv.len]
  simp only [bindO_val]
  have h0 : noUndef [v, f, I l.length, .int .i64 0] = true := by simp [noUndef, hv.und, hu, I_def]
  rw [h0, chkO_true]
  have key : ∀ m i, i + m = l.length → loopL (fun z2 => bindO (pureO (.bin .lss .num false (.c (nth z2.1 3)) (.c (nth z2.1 2)))) (fun z3 => iteP z3 (bindO (pureO (.idxAddr 1 (.c (nth z2.1 0)) (.c (nth z2.1 3)))) (fun z4 => bindO (pureO (.load 1 false (.c z4))) (fun z5 => bindO (callO B0 .cl (nth z2.1 1) [z5]) (fun z6 => iteP z6 (bindO (some (nth z2.1 3, z2.2)) (fun z7 => some (.inr z7))) (bindO (pureO (.bin .add .num true (.c (nth z2.1 3)) (.c (.int .i64 1)))) (fun z8 => some (.inl ([nth z2.1 0, nth z2.1 1, nth z2.1 2, z8], z2.2)))))))) (bindO (some (.int .i64 (-1), z2.2)) (fun z9 => some (.inr z9))))) (([v, f, I l.length, I i], ()) : List PV × Unit) = some (I (idxP p i (l.drop i)), ()) := by
    intro m
    induction m with
    | zero =>
      intro i hi
      refine loopL_inr ?_
      have : i = l.length := by omega
      subst this
      simp [idxP]; rfl
    | succ m ih =>
      intro i hi
      have hlt : i < l.length := by omega
      rw [drop_cons hlt]
      by_cases hpx : p l[i] = true
      · refine loopL_inr ?_
        simp only [nth_0, nth_1, nth_2, nth_3, I_lss, bindO_val, iteP_bool]
        rw [if_pos (by simpa using hlt), hv.idx hlt]
        simp [hp _ (List.getElem_mem hlt), hpx, idxP]
      · rw [loopL_inl (s' := ([v, f, I l.length, I ((i + 1 : Nat) : Int)], ()))]
        · rw [ih (i + 1) (by omega)]
          simp [idxP, hpx]
        · simp only [nth_0, nth_1, nth_2, nth_3, I_lss, bindO_val, iteP_bool]
          rw [if_pos (by simpa using hlt), hv.idx hlt]
          simp [hp _ (List.getElem_mem hlt), hpx, I_def, wsucc (by omega : i < 9223372036854775807)]
  have := key l.length 0 (by omega)
  simpa [I_def] using this
theorem any_run {v f : PV} {l : List Int} {p : Int → Bool} (hv : IsL v l) (hl : l.length ≤ 1000000) (hf : okV f = true) (hu : isUndef f = false) (hp : ∀ n ∈ l, callO B0 .cl f [I n] = some (.bool (p n))) :
    callO B0 .cl (.fn 30 []) [v, f] = some (.bool (l.any p)) := by
  refine call (d := fun _ => .cl) rfl (by decide) (by simp [okVL, hv.ok, hf]) rfl ?_
  rw [List.map_cons, List.map_cons, List.map_nil, run30, index_run hv hl hf hu hp]
  simp only [bindO_val, I_def, I_geq, idxP_any]
def Arr.right (a : Arr) : Bool := !(a.ru && a.n.any fun n => !rune n) && (if a.li then decide (a.n.length ≤ 200) else decide (a.n.length = 1))
theorem right_run {v : PV} {a : Arr} (h : IsA v a) (hl : a.n.length ≤ 1000000) : callO B0 .cl (.fn 12 []) [v] = some (.bool a.right) := by
  obtain ⟨x, rfl, hx⟩ := h.get
  refine call (d := fun _ => .cl) rfl (by decide) (by simp [okVL, h.ok]) rfl ?_
  rw [List.map_cons, List.map_nil, run12, valO_agg, val3 rfl rfl hx.cell, chkO_true]
  have ha := any_run (f := .fn 28 []) (p := fun n => !rune n) hx hl rfl rfl fun n _ => other_run n
  simp only [selO_eq, cells_agg', sel3_0, sel3_1, sel3_2, bindO_val, hx.len, ha, iteP_bool, I_def, I_leq, I_eql]
  unfold Arr.right
  have e1 : decide ((a.n.length : Int) ≤ 200) = decide (a.n.length ≤ 200) := by
    by_cases h : a.n.length ≤ 200
    · simp [h]; omega
    · have : ¬ (a.n.length : Int) ≤ 200 := by omega
      simp [h, this]
  have e2 : ((a.n.length : Int) == 1) = decide (a.n.length = 1) := by
    by_cases h : a.n.length = 1
    · simp [h]
    · have : ¬ (a.n.length : Int) = 1 := by omega
      simp [h, this]
  rw [e1, e2]
  cases a.ru <;> cases a.li <;> cases a.n.any (fun n => !rune n) <;> simp
def eqL : List Int → List Int → Bool
  | [], [] => true
  | x :: xs, y :: ys => x == y && eqL xs ys
  | _, _ => false
theorem eqL_iff : ∀ (a b : List Int), eqL a b = true ↔ a = b := by
  intro a
  induction a with
  | nil => intro b; cases b <;> simp [eqL]
  | cons x a ih => intro b; cases b <;> simp [eqL, ih]
def Arr.same (a b : Arr) : Bool := a.li == b.li && (a.ru == b.ru && eqL a.n b.n)
end Go.Ab.Arrays


namespace Go.Ab.Arrays
open Go Go.Ab
theorem lendN {g : FuncId} {fn : RFn} {fr : Bool} {args : List PV} {u : PV} {d : Nat → RSh} (ht : tab0 g = some fn) (ha : okVL args = true) (hl : Nat.ble args.length fn.nt = true)
    (hr : runK (cfg0 B0 d) fn .cl noHandler 0 (args.map KV.cv) () = some (u, ())) (hfr : (u.free && !leanFlag tab0 g) = fr) : lendO B0 .cl fr g args = some u :=
  lend_of_run (cfg_ok d) ht ha (Nat.le_of_ble_eq_true hl) hr hfr
inductive NE where
  | ok | over | div
  | dom (g : List UInt8)
def NE.pv : NE → PV
  | .ok => .nilI
  | .over => .glob 1 175
  | .div => .glob 2 175
  | .dom g => .iface 73 (.agg [.str g])
def NE.no : NE → Int
  | .ok => 0
  | .over => 100
  | .div => 101
  | .dom _ => 102
theorem NE.okV (e : NE) : okV e.pv = true := by cases e <;> rfl
theorem NE.und (e : NE) : isUndef e.pv = false := by cases e <;> rfl
theorem is_over (e : NE) : callO B0 .cl (.fn 81 []) [e.pv, .glob 1 175] = some (.bool (match e with | .over => true | _ => false)) := by
  refine call_of_sp (cfg_ok fun _ => .cl) ?_ rfl
  cases e <;> rfl
theorem is_div (e : NE) : callO B0 .cl (.fn 81 []) [e.pv, .glob 2 175] = some (.bool (match e with | .div => true | _ => false)) := by
  refine call_of_sp (cfg_ok fun _ => .cl) ?_ rfl
  cases e <;> rfl
theorem ntold_run (e : NE) : callO B0 .cl (.fn 47 []) [e.pv] = some (I e.no) := by
  refine call (d := fun _ => .cl) rfl (by decide) (by simp [okVL, NE.okV]) rfl ?_
  rw [List.map_cons, List.map_nil, run47]
  simp only [show pureO (.load 1 false (.c (.ptr [.glob 1 175] 0))) = some (.glob 1 175) from rfl, show pureO (.load 1 false (.c (.ptr [.glob 2 175] 0))) = some (.glob 2 175) from rfl, bindO_val, is_over, is_div, iteP_bool]
  cases e <;> rfl
def resV (r : Int × NE) : PV := .tup [I r.1, r.2.pv]
def chk1 (b : Bool) (n : Int) (e : NE) : Int × NE := if b then (n, .ok) else (0, e)
theorem resV_0 (r : Int × NE) : pureO (.extract 0 (.c (resV r))) = some (I r.1) := rfl
theorem resV_1 (r : Int × NE) : pureO (.extract 1 (.c (resV r))) = some r.2.pv := rfl
theorem must1 (n : Int) (e : NE) (b : Bool) : lendO B0 .cl false 88 [I n, e.pv, .sl 1 [.bool b] false] = some (resV (chk1 b n e)) := by
  refine lendN (d := fun _ => .cl) rfl (by simp [okVL, NE.okV, okV]) rfl ?_ (by rw [show leanFlag tab0 88 = true from rfl, Bool.not_true, Bool.and_false])
  rw [List.map_cons, List.map_cons, List.map_cons, List.map_nil, run88, pure_lenl]
  simp only [bindO_val]
  rw [show noUndef [I n, e.pv, .sl 1 [.bool b] false, .int .i64 (([PV.bool b].length : Nat) : Int), .int .i64 0] = true by simp only [noUndef, List.all_cons, NE.und]; rfl, chkO_true]
  cases b with
  | false => exact loopL_inr rfl
  | true =>
    rw [loopL_inl (s' := ([I n, e.pv, .sl 1 [.bool true] false, I 1, I 1], ()))]
    · exact loopL_inr rfl
    · rfl
theorem must2 (n : Int) (e : NE) (b c : Bool) : lendO B0 .cl false 88 [I n, e.pv, .sl 1 [.bool b, .bool c] false] = some (resV (chk1 (b && c) n e)) := by
  refine lendN (d := fun _ => .cl) rfl (by simp [okVL, NE.okV, okV]) rfl ?_ (by rw [show leanFlag tab0 88 = true from rfl, Bool.not_true, Bool.and_false])
  rw [List.map_cons, List.map_cons, List.map_cons, List.map_nil, run88, pure_lenl]
  simp only [bindO_val]
  rw [show noUndef [I n, e.pv, .sl 1 [.bool b, .bool c] false, .int .i64 (([PV.bool b, .bool c].length : Nat) : Int), .int .i64 0] = true by simp only [noUndef, List.all_cons, NE.und]; rfl, chkO_true]
  cases b with
  | false => exact loopL_inr rfl
  | true =>
    rw [loopL_inl (s' := ([I n, e.pv, .sl 1 [.bool true, .bool c] false, I 2, I 1], ()))]
    · cases c with
      | false => exact loopL_inr rfl
      | true =>
        rw [loopL_inl (s' := ([I n, e.pv, .sl 1 [.bool true, .bool true] false, I 2, I 2], ()))]
        · exact loopL_inr rfl
        · rfl
    · rfl
def two (x y : Int) : PV := .agg [I x, I y]
def i64 (n : Int) : Int := IntKind.i64.wrap n
theorem two_val (x y : Int) : valO (two x y) = true := rfl
theorem two_0 (x y : Int) : selO (two x y) 0 1 false = some (I x) := rfl
theorem two_1 (x y : Int) : selO (two x y) 1 1 false = some (I y) := rfl
theorem two_a (x y : Int) : selO (two x y) 0 2 true = some (two x y) := rfl
theorem load_over : pureO (.load 1 false (.c (.ptr [.glob 1 175] 0))) = some NE.over.pv := rfl
theorem load_div : pureO (.load 1 false (.c (.ptr [.glob 2 175] 0))) = some NE.div.pv := rfl
theorem okSls_b (b : Bool) : okSls 1 [.bool b] = true := rfl
theorem okSls_bb (b c : Bool) : okSls 1 [.bool b, .bool c] = true := rfl
theorem slO_b (b : Bool) : slO 1 1 [.bool b] 0 (lenL [.bool b]) = .sl 1 [.bool b] false := rfl
theorem slO_bb (b c : Bool) : slO 1 1 [.bool b, .bool c] 0 (lenL [.bool b, .bool c]) = .sl 1 [.bool b, .bool c] false := rfl
def nAdd (x y : Int) : Int × NE :=
  let s := i64 (x + y)
  chk1 (!(decide (x < 0) == decide (y < 0)) || (decide (s < 0) == decide (x < 0))) s .over
def nTake (x y : Int) : Int × NE :=
  let s := i64 (x - y)
  chk1 ((decide (x < 0) == decide (y < 0)) || (decide (s < 0) == decide (x < 0))) s .over
theorem add_run (x y : Int) : callO B0 .cl (.fn 70 []) [two x y] = some (resV (nAdd x y)) := by
  refine call (d := fun _ => .cl) rfl (by decide) rfl rfl ?_
  rw [List.map_cons, List.map_nil, run70, two_val, chkO_true]
  simp only [two_0, two_1, bindO_val, I_add, I_def, I_lss, pure_neb, pure_eqb, iteP_bool, load_over, okSls_b, chkO_true, slO_b, must1, resV_0, resV_1]
  unfold nAdd i64
  cases decide (x < 0) <;> cases decide (y < 0) <;> rfl
theorem take_run (x y : Int) : callO B0 .cl (.fn 71 []) [two x y] = some (resV (nTake x y)) := by
  refine call (d := fun _ => .cl) rfl (by decide) rfl rfl ?_
  rw [List.map_cons, List.map_nil, run71, two_val, chkO_true]
  simp only [two_0, two_1, bindO_val, I_sub, I_def, I_lss, pure_neb, pure_eqb, iteP_bool, load_over, okSls_b, chkO_true, slO_b, must1, resV_0, resV_1]
  unfold nTake i64
  cases decide (x < 0) <;> cases decide (y < 0) <;> rfl
def nDivide (x y : Int) : Int × NE :=
  if y = 0 then chk1 (x == 0) 1 .div
  else if y = -1 then chk1 (x != -9223372036854775808) (i64 (0 - x)) .over
  else chk1 (x.tmod y == 0) (i64 (x.tdiv y)) .div
theorem I_neg (x : Int) : pureO (.un .neg (.c (I x))) = some (I (i64 (0 - x))) := rfl
theorem divide_run (x y : Int) : callO B0 .cl (.fn 73 []) [two x y] = some (resV (nDivide x y)) := by
  refine call (d := fun _ => .cl) rfl (by decide) rfl rfl ?_
  rw [List.map_cons, List.map_nil, run73, two_val, chkO_true]
  simp only [two_0, two_1, bindO_val, I_def, I_eql, I_neq, iteP_bool, load_over, load_div, okSls_b, chkO_true, slO_b, must1, resV_0, resV_1]
  unfold nDivide
  by_cases h0 : y = 0
  · subst h0
    simp only [beq_self_eq_true, if_true]
    rfl
  · have e0 : ((y == 0) = true) ↔ False := by simp [h0]
    simp only [e0, if_false, h0]
    by_cases h1 : y = -1
    · subst h1
      simp only [beq_self_eq_true, if_true, I_neg, bindO_val, okSls_b, chkO_true, slO_b, must1, resV_0, resV_1]
      rfl
    · have e1 : ((y == -1) = true) ↔ False := by simp [h1]
      simp only [e1, if_false, h1]
      rw [I, I, pure_quo _ _ h0, pure_rem _ _ h0]
      simp only [bindO_val, I_def, I_eql, okSls_b, chkO_true, slO_b, must1, resV_0, resV_1]
      rfl
def nResidue (x y : Int) : Int :=
  if x = 0 then y else if x = -1 then 0
  else if (y.tmod x == 0) || (decide (y.tmod x < 0) == decide (x < 0)) then y.tmod x else i64 (y.tmod x + x)
theorem residue_run (x y : Int) : callO B0 .cl (.fn 74 []) [two x y] = some (resV (nResidue x y, .ok)) := by
  refine call (d := fun _ => .cl) rfl (by decide) rfl rfl ?_
  rw [List.map_cons, List.map_nil, run74, two_val, chkO_true]
  simp only [two_0, two_1, bindO_val, I_def, I_eql, iteP_bool]
  unfold nResidue
  by_cases h0 : x = 0
  · subst h0
    simp only [beq_self_eq_true, if_true]
    rfl
  · have e0 : ((x == 0) = true) ↔ False := by simp [h0]
    simp only [e0, if_false, h0]
    by_cases h1 : x = -1
    · subst h1
      simp only [beq_self_eq_true, if_true]
      rfl
    · have e1 : ((x == -1) = true) ↔ False := by simp [h1]
      simp only [e1, if_false, h1]
      rw [show pureO (.bin .rem .num false (.c (I y)) (.c (I x))) = some (I (y.tmod x)) from pure_rem _ _ h0]
      simp only [bindO_val]
      rw [show noUndef [I (y.tmod x), I 0] = true from rfl, chkO_true]
      generalize y.tmod x = r
      by_cases hc : ((r == 0) || (decide (r < 0) == decide (x < 0))) = true
      · rw [if_pos hc]
        refine loopL_inr ?_
        simp only [nth_0, nth_1, nth_2, I_def, I_lss, I_eql, bindO_val, iteP_bool, two_0, pure_eqb]
        cases hr : (r == 0) with
        | true => rfl
        | false =>
          simp only [hr, Bool.false_or] at hc
          simp only [hc, Bool.false_eq_true, if_false, bindO_val, iteP_bool, if_true]
          rfl
      · rw [if_neg hc]
        rw [loopL_inl (s' := ([I (i64 (r + x)), I 1, two x y], ()))]
        · exact loopL_inr rfl
        · simp only [nth_0, nth_1, nth_2, I_def, I_lss, I_eql, bindO_val, iteP_bool, two_0, pure_eqb]
          simp only [Bool.or_eq_true, not_or, Bool.not_eq_true] at hc
          simp only [hc.1, hc.2, Bool.false_eq_true, if_false, bindO_val, iteP_bool, I_add]
          rfl
def u64 (n : Int) : PV := .int .u64 n
def nSize (x : Int) : Int := if x < 0 then IntKind.u64.wrap (0 - IntKind.u64.wrap x) else IntKind.u64.wrap x
theorem size_run (x : Int) : callO B0 .cl (.fn 111 []) [I x] = some (u64 (nSize x)) := by
  refine call (d := fun _ => .cl) rfl (by decide) rfl rfl ?_
  rw [List.map_cons, List.map_nil, run111]
  simp only [I_def, I_lss, bindO_val, iteP_bool, show pureO (.conv .u64 (.c (I x))) = some (.int .u64 (IntKind.u64.wrap x)) from rfl, pure_neg]
  unfold nSize
  by_cases h : x < 0 <;> simp [h] <;> rfl
theorem u64_wrap (n : Nat) (h : n < 18446744073709551616) : IntKind.u64.wrap (n : Int) = n := by rw [IntKind.wrap_u64]; omega
theorem nSize_nat (x : Int) : ∃ n : Nat, nSize x = n ∧ n < 18446744073709551616 := by
  unfold nSize
  refine ⟨(if x < 0 then IntKind.u64.wrap (0 - IntKind.u64.wrap x) else IntKind.u64.wrap x).toNat, ?_, ?_⟩ <;> (simp only [IntKind.wrap_u64]; split <;> omega)
theorem and32 (n : Nat) (h : n < 18446744073709551616) : pureO (.bin .and .num true (.c (.int .u64 (n : Int))) (.c (.int .u64 4294967295))) = some (.int .u64 ((n % 4294967296 : Nat) : Int)) := by
  have e : (BitVec.ofInt 64 (n : Int) &&& BitVec.ofInt 64 4294967295).toNat = n % 4294967296 := by
    rw [BitVec.toNat_and]
    have h1 : (BitVec.ofInt 64 (n : Int)).toNat = n := by rw [BitVec.toNat_ofInt]; omega
    have h2 : (BitVec.ofInt 64 (4294967295 : Int)).toNat = 2 ^ 32 - 1 := by rw [BitVec.toNat_ofInt]; rfl
    rw [h1, h2, Nat.and_two_pow_sub_one_eq_mod]
  rw [show pureO (.bin .and .num true (.c (.int .u64 (n : Int))) (.c (.int .u64 4294967295))) = some (.int .u64 (IntKind.u64.wrap (((BitVec.ofInt 64 (n : Int) &&& BitVec.ofInt 64 4294967295).toNat : Nat) : Int))) from rfl, e, u64_wrap _ (by omega)]
theorem shr32 (n : Nat) : pureO (.bin .shr .num true (.c (.int .u64 (n : Int))) (.c (.int .u64 32))) = some (.int .u64 ((n / 4294967296 : Nat) : Int)) := by
  have e : (n : Int).fdiv (2 ^ (min (32 : Int).toNat 64)) = ((n / 4294967296 : Nat) : Int) := by
    rw [show (2 : Int) ^ (min (32 : Int).toNat 64) = 4294967296 from rfl, Int.fdiv_eq_ediv_of_nonneg _ (by decide)]
    omega
  rw [show pureO (.bin .shr .num true (.c (.int .u64 (n : Int))) (.c (.int .u64 32))) = some (.int .u64 ((n : Int).fdiv (2 ^ (min (32 : Int).toNat 64)))) from rfl, e]
theorem mul64_run (a b : Nat) (ha : a < 18446744073709551616) (hb : b < 18446744073709551616) :
    callO B0 .cl (.fn 110 []) [u64 a, u64 b] = some (.tup [u64 ((a * b / 18446744073709551616 : Nat) : Int), u64 ((a * b % 18446744073709551616 : Nat) : Int)]) := by
  refine call (d := fun _ => .cl) rfl (by decide) rfl rfl ?_
  rw [List.map_cons, List.map_cons, List.map_nil, run110]
  obtain ⟨h1, h2, h3, h4⟩ := Lib.mul64_hi a b ha hb
  have c1 : ∀ (m n : Nat), ((m : Int) * (n : Int)) = ((m * n : Nat) : Int) := fun m n => by simp
  have c2 : ∀ (m n : Nat), ((m : Int) + (n : Int)) = ((m + n : Nat) : Int) := fun m n => by simp
  have ka := Lib.half_mul_le (a := a / 4294967296) (b := b / 4294967296) (by omega) (by omega)
  have kb := Lib.half_mul_le (a := a / 4294967296) (b := b % 4294967296) (by omega) (by omega)
  have kc := Lib.half_mul_le (a := a % 4294967296) (b := b / 4294967296) (by omega) (by omega)
  simp only [u64, and32 _ ha, and32 _ hb, shr32, bindO_val, pure_mul, pure_add, c1, c2]
  rw [u64_wrap _ h1, u64_wrap (a / 4294967296 * (b % 4294967296)) (by omega)]
  simp only [shr32, bindO_val, pure_mul, pure_add, c1, c2]
  rw [u64_wrap _ h2]
  simp only [and32 _ h2, shr32, bindO_val, pure_mul, pure_add, c1, c2]
  rw [u64_wrap (a % 4294967296 * (b / 4294967296)) (by omega)]
  simp only [c2]
  rw [u64_wrap _ h3, u64_wrap (a / 4294967296 * (b / 4294967296)) (by omega)]
  simp only [shr32, bindO_val, pure_mul, pure_add, c1, c2]
  have h5 : a * b / 18446744073709551616 < 18446744073709551616 := by
    refine Nat.div_lt_of_lt_mul ?_
    exact Nat.mul_lt_mul'' ha hb
  rw [u64_wrap (a / 4294967296 * (b / 4294967296) + (a / 4294967296 * (b % 4294967296) + a % 4294967296 * (b % 4294967296) / 4294967296) / 4294967296) (by omega)]
  simp only [c2]
  have e : IntKind.u64.wrap ((a * b : Nat) : Int) = ((a * b % 18446744073709551616 : Nat) : Int) := by rw [IntKind.wrap_u64]; omega
  rw [h4, u64_wrap _ h5, e]
def nTim (hi lo : Nat) (x y : Int) : Int × NE :=
  let below := !(decide (x < 0) == decide (y < 0))
  let v := i64 (lo : Int)
  chk1 (decide (hi = 0) && (decide (lo ≤ 9223372036854775807) || below && decide (lo = 9223372036854775808))) (if below then i64 (0 - v) else v) .over
def nTimes (x y : Int) : Int × NE := nTim ((nSize x).toNat * (nSize y).toNat / 18446744073709551616) ((nSize x).toNat * (nSize y).toNat % 18446744073709551616) x y
theorem times_aux (hi lo : Nat) (x y : Int) (hs1 : callO B0 .cl (.fn 111 []) [I x] = some (u64 (nSize x))) (hs2 : callO B0 .cl (.fn 111 []) [I y] = some (u64 (nSize y)))
    (hm : callO B0 .cl (.fn 110 []) [u64 (nSize x), u64 (nSize y)] = some (.tup [u64 hi, u64 lo])) : callO B0 .cl (.fn 72 []) [two x y] = some (resV (nTim hi lo x y)) := by
  refine call (d := fun _ => .cl) rfl (by decide) rfl rfl ?_
  rw [List.map_cons, List.map_nil, run72, two_val, chkO_true]
  simp only [u64] at hs1 hs2 hm
  simp only [two_0, two_1, bindO_val, hs1, hs2, hm, pure_tup, List.getElem?_cons_zero, List.getElem?_cons_succ, I_def, I_lss, pure_neb, u64, pure_conv, iteP_bool, pure_eql, pure_leq]
  unfold nTim
  have e1 : ((hi : Int) == 0) = decide (hi = 0) := by by_cases h : hi = 0 <;> simp [h]
  have e2 : decide ((lo : Int) ≤ 9223372036854775807) = decide (lo ≤ 9223372036854775807) := by by_cases h : lo ≤ 9223372036854775807 <;> simp [h] <;> omega
  have e3 : ((lo : Int) == 9223372036854775808) = decide (lo = 9223372036854775808) := by by_cases h : lo = 9223372036854775808 <;> simp [h]; omega
  rw [e1, e2, e3]
  generalize decide (hi = 0) = p1
  generalize decide (lo ≤ 9223372036854775807) = p2
  generalize decide (lo = 9223372036854775808) = p3
  cases hb' : !(decide (x < 0) == decide (y < 0)) with
  | false =>
    simp only [Bool.false_eq_true, if_false, load_over, bindO_val, I_def, Bool.false_and, Bool.or_false]
    cases p2 <;> simp only [Bool.false_eq_true, if_false, if_true, okSls_bb, chkO_true, slO_bb, bindO_val, must2, resV_0, resV_1] <;> rfl
  | true =>
    simp only [if_true, I_neg, load_over, bindO_val, I_def, Bool.true_and]
    cases p2 <;> simp only [Bool.false_eq_true, if_false, if_true, I_neg, okSls_bb, chkO_true, slO_bb, bindO_val, must2, resV_0, resV_1, Bool.false_or, Bool.true_or] <;> rfl
theorem times_run (x y : Int) : callO B0 .cl (.fn 72 []) [two x y] = some (resV (nTimes x y)) := by
  obtain ⟨a, ha, hal⟩ := nSize_nat x
  obtain ⟨b, hb, hbl⟩ := nSize_nat y
  have hm := mul64_run a b hal hbl
  refine times_aux _ _ x y (size_run x) (size_run y) ?_
  rw [ha, hb, hm]
  rfl
end Go.Ab.Arrays


namespace Go.Ab.Arrays
open Go Go.Ab
theorem callC {d : Nat → RSh} {g : FuncId} {fn : RFn} {sh : RSh} {args cap : List PV} {u : PV} (ht : tab0 g = some fn) (hg : NotSp g) (ha : okVL (args ++ cap) = true) (hl : Nat.ble (args ++ cap).length fn.nt = true)
    (hr : runK (cfg0 B0 d) fn sh noHandler 0 ((args ++ cap).map KV.cv) () = some (u, ())) (hio : fn.io = false := by rfl) : callO B0 sh (.fn g cap) args = some u :=
  call_of_run (cfg_ok d) ht ha (Nat.le_of_ble_eq_true hl) (sp_none hg (fun _ => none) _) hr hio
def gAdd : List UInt8 := [43]
def gSub : List UInt8 := [45]
def gMul : List UInt8 := [195, 151]
def gDiv : List UInt8 := [195, 183]
def gRes : List UInt8 := [124]
def gMax : List UInt8 := [226, 140, 136]
def gMin : List UInt8 := [226, 140, 138]
def gEq : List UInt8 := [61]
def gNe : List UInt8 := [226, 137, 160]
def gLt : List UInt8 := [60]
def gGt : List UInt8 := [62]
def gLe : List UInt8 := [226, 137, 164]
def gGe : List UInt8 := [226, 137, 165]
def gAnd : List UInt8 := [226, 136, 167]
def gOr : List UInt8 := [226, 136, 168]
def gNot : List UInt8 := [126]
def bitI (b : Bool) : Int := if b then 1 else 0
theorem bit_run (b : Bool) : callO B0 .cl (.fn 85 []) [.bool b] = some (I (bitI b)) := by
  refine call (d := fun _ => .cl) rfl (by decide) rfl rfl ?_
  rw [List.map_cons, List.map_nil, run85]
  cases b <;> rfl
theorem or_bits (a b : Bool) : pureO (.bin .or .num false (.c (I (bitI a))) (.c (I (bitI b)))) = some (I (bitI (a || b))) := by cases a <;> cases b <;> rfl
theorem or_zero (b : Bool) : pureO (.bin .or .num false (.c (I 0)) (.c (I (bitI b)))) = some (I (bitI b)) := by cases b <;> rfl
theorem eqs_t (a : List UInt8) : pureO (.bin .eql .str true (.c (.str a)) (.c (.str a))) = some (.bool true) := by rw [pure_eqs]; simp
theorem eqs_f {a b : List UInt8} (h : Nat.beq a.length b.length = false ∨ (a == b) = false) : pureO (.bin .eql .str true (.c (.str a)) (.c (.str b))) = some (.bool false) := by
  rw [pure_eqs]
  rcases h with h | h
  · have : ¬ a = b := fun e => by subst e; simp at h
    simp [this]
  · rw [h]
def nCmp (g : List UInt8) (x y : Int) : Bool :=
  if g = gEq then x == y else if g = gNe then x != y else if g = gLt then decide (x < y) else if g = gGt then decide (y < x)
  else if g = gLe then (x == y || decide (x < y)) else (x == y || decide (y < x))
theorem cmp_eq (x y : Int) : callO B0 .cl (.fn 78 []) [two x y, .str gEq] = some (resV (bitI (nCmp gEq x y), .ok)) := by
  refine call (d := fun _ => .cl) rfl (by decide) rfl rfl ?_
  rw [List.map_cons, List.map_cons, List.map_nil, run78, two_val, chkO_true, gEq]
  simp only [eqs_t, eqs_f (a := [61]) (b := [226, 137, 160]) (.inr rfl), eqs_f (a := [61]) (b := [226, 137, 164]) (.inr rfl), eqs_f (a := [61]) (b := [60]) (.inr rfl), bindO_val, iteP_true, iteP_false, two_0, two_1, I_eql, bit_run]
  rfl
theorem cmp_ne (x y : Int) : callO B0 .cl (.fn 78 []) [two x y, .str gNe] = some (resV (bitI (nCmp gNe x y), .ok)) := by
  refine call (d := fun _ => .cl) rfl (by decide) rfl rfl ?_
  rw [List.map_cons, List.map_cons, List.map_nil, run78, two_val, chkO_true, gNe]
  simp only [eqs_t, bindO_val, iteP_true, two_0, two_1, I_neq, bit_run]
  rfl
theorem cmp_lt (x y : Int) : callO B0 .cl (.fn 78 []) [two x y, .str gLt] = some (resV (bitI (nCmp gLt x y), .ok)) := by
  refine call (d := fun _ => .cl) rfl (by decide) rfl rfl ?_
  rw [List.map_cons, List.map_cons, List.map_nil, run78, two_val, chkO_true, gLt]
  simp only [eqs_t, eqs_f (a := [60]) (b := [226, 137, 160]) (.inr rfl), eqs_f (a := [60]) (b := [226, 137, 164]) (.inr rfl), bindO_val, iteP_true, iteP_false, two_0, two_1, I_lss, bit_run, I_def, or_zero]
  rfl
theorem cmp_le (x y : Int) : callO B0 .cl (.fn 78 []) [two x y, .str gLe] = some (resV (bitI (nCmp gLe x y), .ok)) := by
  refine call (d := fun _ => .cl) rfl (by decide) rfl rfl ?_
  rw [List.map_cons, List.map_cons, List.map_nil, run78, two_val, chkO_true, gLe]
  simp only [eqs_t, eqs_f (a := [226, 137, 164]) (b := [226, 137, 160]) (.inr rfl), bindO_val, iteP_true, iteP_false, two_0, two_1, I_lss, I_eql, bit_run, or_bits]
  rfl
theorem cmp_gt (x y : Int) : callO B0 .cl (.fn 78 []) [two x y, .str gGt] = some (resV (bitI (nCmp gGt x y), .ok)) := by
  refine call (d := fun _ => .cl) rfl (by decide) rfl rfl ?_
  rw [List.map_cons, List.map_cons, List.map_nil, run78, two_val, chkO_true, gGt]
  simp only [eqs_t, eqs_f (a := [62]) (b := [226, 137, 160]) (.inr rfl), eqs_f (a := [62]) (b := [226, 137, 164]) (.inr rfl), eqs_f (a := [62]) (b := [60]) (.inr rfl), eqs_f (a := [62]) (b := [61]) (.inr rfl), eqs_f (a := [62]) (b := [226, 137, 165]) (.inr rfl), bindO_val, iteP_true, iteP_false, two_0, two_1, I_gtr, bit_run, I_def, or_zero]
  rfl
theorem cmp_ge (x y : Int) : callO B0 .cl (.fn 78 []) [two x y, .str gGe] = some (resV (bitI (nCmp gGe x y), .ok)) := by
  refine call (d := fun _ => .cl) rfl (by decide) rfl rfl ?_
  rw [List.map_cons, List.map_cons, List.map_nil, run78, two_val, chkO_true, gGe]
  simp only [eqs_t, eqs_f (a := [226, 137, 165]) (b := [226, 137, 160]) (.inr rfl), eqs_f (a := [226, 137, 165]) (b := [226, 137, 164]) (.inr rfl), eqs_f (a := [226, 137, 165]) (b := [60]) (.inr rfl), eqs_f (a := [226, 137, 165]) (b := [61]) (.inr rfl), bindO_val, iteP_true, iteP_false, two_0, two_1, I_gtr, I_eql, bit_run, or_bits]
  rfl
theorem clos_cmp {g : List UInt8} {x y : Int} {r : Int × NE} (h : callO B0 .cl (.fn 78 []) [two x y, .str g] = some (resV r)) : callO B0 .cl (.fn 77 [.ptr [.str g] 0]) [two x y] = some (resV r) := by
  refine callC (d := fun _ => .cl) rfl (by decide) rfl rfl ?_
  simp only [List.cons_append, List.nil_append, List.map_cons, List.map_nil]
  rw [run77, two_val, chkO_true]
  simp only [two_a, bindO_val, pure_load, sel_one, h, resV_0, resV_1]
  rfl
def andI (x y : Int) : Int := IntKind.i64.wrap (BitVec.ofInt 64 x &&& BitVec.ofInt 64 y).toNat
def orI (x y : Int) : Int := IntKind.i64.wrap (BitVec.ofInt 64 x ||| BitVec.ofInt 64 y).toNat
theorem and_run (x y : Int) : pureO (.bin .and .num false (.c (I x)) (.c (I y))) = some (I (andI x y)) := rfl
theorem or_run (x y : Int) : pureO (.bin .or .num false (.c (I x)) (.c (I y))) = some (I (orI x y)) := rfl
theorem shr1 (x : Int) : pureO (.bin .shr .num true (.c (I x)) (.c (.int .u64 1))) = some (I (x.fdiv 2)) := rfl
theorem build_g (g : List UInt8) : pureO (.build [.str []] [(0, (1, .c (.str g)))]) = some (.agg [.str g]) := rfl
def nLogic (g : List UInt8) (x y : Int) : Int × NE := chk1 ((x.fdiv 2 == 0) && (y.fdiv 2 == 0)) (if g = gOr then orI x y else andI x y) (.dom g)
theorem logic_run (g : List UInt8) (x y : Int) : callO B0 .cl (.fn 80 []) [two x y, .str g] = some (resV (nLogic g x y)) := by
  refine call (d := fun _ => .cl) rfl (by decide) rfl rfl ?_
  rw [List.map_cons, List.map_cons, List.map_nil, run80, two_val, chkO_true]
  simp only [two_0, two_1, bindO_val, and_run, or_run, shr1, I_def, I_eql, pure_eqs, iteP_bool, build_g, okSls_bb, chkO_true, slO_bb, show PV.iface 73 (.agg [.str g]) = (NE.dom g).pv from rfl, must2, resV_0, resV_1]
  unfold nLogic
  by_cases h : g = gOr
  · subst h; rfl
  · have : (g == [226, 136, 168]) = false := by simpa [gOr] using h
    simp only [this, h, Bool.false_eq_true, if_false]
    rfl
theorem clos_logic (g : List UInt8) (x y : Int) : callO B0 .cl (.fn 79 [.ptr [.str g] 0]) [two x y] = some (resV (nLogic g x y)) := by
  refine callC (d := fun _ => .cl) rfl (by decide) rfl rfl ?_
  simp only [List.cons_append, List.nil_append, List.map_cons, List.map_nil]
  rw [run79, two_val, chkO_true]
  simp only [two_a, bindO_val, pure_load, sel_one, logic_run, resV_0, resV_1]
  rfl
theorem max_run (x y : Int) : callO B0 .cl (.fn 75 []) [two x y] = some (resV (max x y, .ok)) := by
  refine call (d := fun _ => .cl) rfl (by decide) rfl rfl ?_
  rw [List.map_cons, List.map_nil, run75, two_val, chkO_true]
  simp only [two_0, two_1, bindO_val, pureO, exec, List.map_cons, List.map_nil, RX.ev, foldMM, I]
  by_cases h : y > x
  · simp [h, Int.max_eq_right (by omega : x ≤ y)]; rfl
  · simp [h, Int.max_eq_left (by omega : y ≤ x)]; rfl
theorem min_run' (x y : Int) : callO B0 .cl (.fn 76 []) [two x y] = some (resV (min x y, .ok)) := by
  refine call (d := fun _ => .cl) rfl (by decide) rfl rfl ?_
  rw [List.map_cons, List.map_nil, run76, two_val, chkO_true]
  simp only [two_0, two_1, bindO_val, pureO, exec, List.map_cons, List.map_nil, RX.ev, foldMM, I]
  by_cases h : y < x
  · simp [h, Int.min_eq_right (by omega : y ≤ x)]; rfl
  · simp [h, Int.min_eq_left (by omega : x ≤ y)]; rfl
def dyads : PV := .imap [.str gAdd, .fn 70 [], .str gSub, .fn 71 [], .str gMul, .fn 72 [], .str gDiv, .fn 73 [], .str gRes, .fn 74 [],
  .str gMax, .fn 75 [], .str gMin, .fn 76 [],
  .str gEq, .fn 77 [.ptr [.str gEq] 0], .str gNe, .fn 77 [.ptr [.str gNe] 0], .str gLt, .fn 77 [.ptr [.str gLt] 0], .str gGt, .fn 77 [.ptr [.str gGt] 0], .str gLe, .fn 77 [.ptr [.str gLe] 0], .str gGe, .fn 77 [.ptr [.str gGe] 0],
  .str gAnd, .fn 79 [.ptr [.str gAnd] 0], .str gOr, .fn 79 [.ptr [.str gOr] 0]]
theorem dyads_run : callO B0 .cl (.fn 44 []) [] = some dyads := call_eval (n := 60) (by decide) (by kernel_rfl) rfl rfl
theorem find_no {g x : List UInt8} {v : PV} {es : List PV} (h : ¬ g = x) : findE (.str g) (.str x :: v :: es) = findE (.str g) es := by
  have : (g == x) = false := by simp [h]
  simp [findE, keyEq, this]
theorem find_hit {g : List UInt8} {v : PV} {es : List PV} : findE (.str g) (.str g :: v :: es) = some (some v) := by simp [findE, keyEq]
def isDyad (g : List UInt8) : Bool := [gAdd, gSub, gMul, gDiv, gRes, gMax, gMin, gEq, gNe, gLt, gGt, gLe, gGe, gAnd, gOr].contains g
def nDy (g : List UInt8) (x y : Int) : Int × NE :=
  if g = gAdd then nAdd x y else if g = gSub then nTake x y else if g = gMul then nTimes x y else if g = gDiv then nDivide x y else if g = gRes then (nResidue x y, .ok)
  else if g = gMax then (max x y, .ok) else if g = gMin then (min x y, .ok)
  else if g = gEq ∨ g = gNe ∨ g = gLt ∨ g = gGt ∨ g = gLe ∨ g = gGe then (bitI (nCmp g x y), .ok)
  else if g = gAnd ∨ g = gOr then nLogic g x y else (0, .dom g)
theorem dy_find (g : List UInt8) : (∃ f, findE (.str g) (match dyads with | .imap es => es | _ => []) = some (some f) ∧ isDyad g = true ∧ (∀ x y, callO B0 .cl f [two x y] = some (resV (nDy g x y))) ∧ okV f = true ∧ ∃ k c, f = .fn k c)
    ∨ (findE (.str g) (match dyads with | .imap es => es | _ => []) = some none ∧ isDyad g = false ∧ ∀ x y, nDy g x y = (0, .dom g)) := by
  unfold dyads
  dsimp only
  by_cases h1 : g = gAdd
  · subst h1; exact .inl ⟨_, find_hit, rfl, fun x y => add_run x y, rfl, _, _, rfl⟩
  rw [find_no h1]
  by_cases h2 : g = gSub
  · subst h2; exact .inl ⟨_, find_hit, rfl, fun x y => take_run x y, rfl, _, _, rfl⟩
  rw [find_no h2]
  by_cases h3 : g = gMul
  · subst h3; exact .inl ⟨_, find_hit, rfl, fun x y => times_run x y, rfl, _, _, rfl⟩
  rw [find_no h3]
  by_cases h4 : g = gDiv
  · subst h4; exact .inl ⟨_, find_hit, rfl, fun x y => divide_run x y, rfl, _, _, rfl⟩
  rw [find_no h4]
  by_cases h5 : g = gRes
  · subst h5; exact .inl ⟨_, find_hit, rfl, fun x y => residue_run x y, rfl, _, _, rfl⟩
  rw [find_no h5]
  by_cases h6 : g = gMax
  · subst h6; exact .inl ⟨_, find_hit, rfl, fun x y => max_run x y, rfl, _, _, rfl⟩
  rw [find_no h6]
  by_cases h7 : g = gMin
  · subst h7; exact .inl ⟨_, find_hit, rfl, fun x y => min_run' x y, rfl, _, _, rfl⟩
  rw [find_no h7]
  by_cases h8 : g = gEq
  · subst h8; exact .inl ⟨_, find_hit, rfl, fun x y => clos_cmp (cmp_eq x y), rfl, _, _, rfl⟩
  rw [find_no h8]
  by_cases h9 : g = gNe
  · subst h9; exact .inl ⟨_, find_hit, rfl, fun x y => clos_cmp (cmp_ne x y), rfl, _, _, rfl⟩
  rw [find_no h9]
  by_cases h10 : g = gLt
  · subst h10; exact .inl ⟨_, find_hit, rfl, fun x y => clos_cmp (cmp_lt x y), rfl, _, _, rfl⟩
  rw [find_no h10]
  by_cases h11 : g = gGt
  · subst h11; exact .inl ⟨_, find_hit, rfl, fun x y => clos_cmp (cmp_gt x y), rfl, _, _, rfl⟩
  rw [find_no h11]
  by_cases h12 : g = gLe
  · subst h12; exact .inl ⟨_, find_hit, rfl, fun x y => clos_cmp (cmp_le x y), rfl, _, _, rfl⟩
  rw [find_no h12]
  by_cases h13 : g = gGe
  · subst h13; exact .inl ⟨_, find_hit, rfl, fun x y => clos_cmp (cmp_ge x y), rfl, _, _, rfl⟩
  rw [find_no h13]
  by_cases h14 : g = gAnd
  · subst h14; exact .inl ⟨_, find_hit, rfl, fun x y => clos_logic gAnd x y, rfl, _, _, rfl⟩
  rw [find_no h14]
  by_cases h15 : g = gOr
  · subst h15; exact .inl ⟨_, find_hit, rfl, fun x y => clos_logic gOr x y, rfl, _, _, rfl⟩
  rw [find_no h15]
  refine .inr ⟨rfl, ?_, fun x y => ?_⟩
  · simp [isDyad, h1, h2, h3, h4, h5, h6, h7, h8, h9, h10, h11, h12, h13, h14, h15]
  · simp [nDy, h1, h2, h3, h4, h5, h6, h7, h8, h9, h10, h11, h12, h13, h14, h15]
theorem isDy_run (g : List UInt8) : callO B0 .cl (.fn 23 []) [.str g] = some (.bool (isDyad g)) := by
  refine call (d := fun _ => .cl) rfl (by decide) rfl rfl ?_
  rw [List.map_cons, List.map_nil, run23, dyads_run]
  simp only [bindO_val]
  rcases dy_find g with ⟨f, h1, h2, _, _, k, c, rfl⟩ | ⟨h1, h2, _⟩
  · rw [h2, show pureO (.lookup .str .nilF false (.c dyads) (.c (.str g))) = some (.fn k c) by unfold dyads at h1 ⊢; simp only [pureO, exec, RX.ev]; rw [h1]; rfl]
    rfl
  · rw [h2, show pureO (.lookup .str .nilF false (.c dyads) (.c (.str g))) = some .nilF by unfold dyads at h1 ⊢; simp only [pureO, exec, RX.ev]; rw [h1]; rfl]
    rfl
theorem dy_run (g : List UInt8) (x y : Int) : callO B0 .cl (.fn 27 []) [.str g, I x, I y] = some (.tup [I (nDy g x y).1, I (nDy g x y).2.no]) := by
  refine call (d := fun _ => .cl) rfl (by decide) rfl rfl ?_
  rw [List.map_cons, List.map_cons, List.map_cons, List.map_nil, run27, dyads_run]
  simp only [bindO_val]
  rcases dy_find g with ⟨f, h1, h2, h3, _, k, c, rfl⟩ | ⟨h1, h2, h3⟩
  · rw [show pureO (.lookup .str .nilF true (.c dyads) (.c (.str g))) = some (.tup [.fn k c, .bool true]) by unfold dyads at h1 ⊢; simp only [pureO, exec, RX.ev]; rw [h1]; rfl]
    simp only [bindO_val, pure_tup, List.getElem?_cons_zero, List.getElem?_cons_succ, pure_not, Bool.not_true, iteP_false]
    rw [show pureO (.build [.int .i64 0, .int .i64 0] [(0, (1, .c (I x))), (1, (1, .c (I y)))]) = some (two x y) from rfl]
    simp only [bindO_val]
    rw [show pureO (.build [.int .i64 0, .int .i64 0] [(0, (2, .c (two x y)))]) = some (two x y) from rfl]
    simp only [bindO_val, h3, resV_0, resV_1, ntold_run]
  · rw [show pureO (.lookup .str .nilF true (.c dyads) (.c (.str g))) = some (.tup [.nilF, .bool false]) by unfold dyads at h1 ⊢; simp only [pureO, exec, RX.ev]; rw [h1]; rfl]
    simp only [bindO_val, pure_tup, List.getElem?_cons_zero, List.getElem?_cons_succ, pure_not, Bool.not_false, iteP_true, build_g, show PV.iface 73 (.agg [.str g]) = (NE.dom g).pv from rfl, ntold_run, h3]
    rfl
def nNeg (y : Int) : Int × NE := nTake 0 y
def nSign (y : Int) : Int := i64 (bitI (decide (0 < y)) - bitI (decide (y < 0)))
def nNot (y : Int) : Int × NE := chk1 ((y == 0) || (y == 1)) (i64 (1 - y)) (.dom gNot)
theorem self_run (y : Int) : callO B0 .cl (.fn 82 []) [I y] = some (resV (y, .ok)) := by
  refine call (d := fun _ => .cl) rfl (by decide) rfl rfl ?_
  rw [List.map_cons, List.map_nil, run82]
  rfl
theorem neg_run (y : Int) : callO B0 .cl (.fn 83 []) [I y] = some (resV (nNeg y)) := by
  refine call (d := fun _ => .cl) rfl (by decide) rfl rfl ?_
  rw [List.map_cons, List.map_nil, run83]
  rw [show pureO (.build [.int .i64 0, .int .i64 0] [(0, (1, .c (.int .i64 0))), (1, (1, .c (I y)))]) = some (two 0 y) from rfl]
  simp only [bindO_val]
  rw [show pureO (.build [.int .i64 0, .int .i64 0] [(0, (2, .c (two 0 y)))]) = some (two 0 y) from rfl]
  simp only [bindO_val, take_run, resV_0, resV_1]
  rfl
theorem sign_run (y : Int) : callO B0 .cl (.fn 84 []) [I y] = some (resV (nSign y, .ok)) := by
  refine call (d := fun _ => .cl) rfl (by decide) rfl rfl ?_
  rw [List.map_cons, List.map_nil, run84]
  simp only [I_def, I_gtr, I_lss, bindO_val, bit_run, I_sub]
  rfl
theorem recip_run (y : Int) : callO B0 .cl (.fn 86 []) [I y] = some (resV (nDivide 1 y)) := by
  refine call (d := fun _ => .cl) rfl (by decide) rfl rfl ?_
  rw [List.map_cons, List.map_nil, run86]
  rw [show pureO (.build [.int .i64 0, .int .i64 0] [(0, (1, .c (.int .i64 1))), (1, (1, .c (I y)))]) = some (two 1 y) from rfl]
  simp only [bindO_val]
  rw [show pureO (.build [.int .i64 0, .int .i64 0] [(0, (2, .c (two 1 y)))]) = some (two 1 y) from rfl]
  simp only [bindO_val, divide_run, resV_0, resV_1]
  rfl
theorem not_run (y : Int) : callO B0 .cl (.fn 87 []) [I y] = some (resV (nNot y)) := by
  refine call (d := fun _ => .cl) rfl (by decide) rfl rfl ?_
  rw [List.map_cons, List.map_nil, run87]
  simp only [I_def, I_sub, I_eql, bindO_val, build_g, iteP_bool, okSls_b, chkO_true, slO_b, show PV.iface 73 (.agg [.str [126]]) = (NE.dom gNot).pv from rfl, must1, resV_0, resV_1]
  unfold nNot
  cases y == 0 <;> rfl
def nAbs (y : Int) : Int × NE := if y < 0 then nNeg y else (y, .ok)
theorem abs_run (y : Int) : callO B0 .cl (.fn 89 [.ptr [.fn 83 []] 0]) [I y] = some (resV (nAbs y)) := by
  refine callC (d := fun _ => .cl) rfl (by decide) rfl rfl ?_
  simp only [List.cons_append, List.nil_append, List.map_cons, List.map_nil]
  rw [run89]
  simp only [I_def, I_lss, bindO_val, iteP_bool, pure_load, sel_one, neg_run, resV_0, resV_1]
  unfold nAbs
  by_cases h : y < 0 <;> simp [h] <;> rfl
def monads : PV := .imap [.str gAdd, .fn 82 [], .str gMax, .fn 82 [], .str gMin, .fn 82 [], .str gSub, .fn 83 [], .str gMul, .fn 84 [], .str gDiv, .fn 86 [], .str gNot, .fn 87 [],
  .str gRes, .fn 89 [.ptr [.fn 83 []] 0]]
theorem monads_run : callO B0 .cl (.fn 49 []) [] = some monads := call_eval (n := 60) (by decide) (by kernel_rfl) rfl rfl
def isMonad (g : List UInt8) : Bool := [gAdd, gMax, gMin, gSub, gMul, gDiv, gNot, gRes].contains g
def nMon (g : List UInt8) (y : Int) : Int × NE :=
  if g = gAdd then (y, .ok) else if g = gMax then (y, .ok) else if g = gMin then (y, .ok) else if g = gSub then nNeg y else if g = gMul then (nSign y, .ok) else if g = gDiv then nDivide 1 y else if g = gNot then nNot y
  else if g = gRes then nAbs y else (0, .dom g)
theorem mon_find (g : List UInt8) : (∃ f, findE (.str g) (match monads with | .imap es => es | _ => []) = some (some f) ∧ isMonad g = true ∧ (∀ y, callO B0 .cl f [I y] = some (resV (nMon g y))) ∧ okV f = true ∧ ∃ k c, f = .fn k c)
    ∨ (findE (.str g) (match monads with | .imap es => es | _ => []) = some none ∧ isMonad g = false ∧ ∀ y, nMon g y = (0, .dom g)) := by
  unfold monads
  dsimp only
  by_cases h1 : g = gAdd
  · subst h1; exact .inl ⟨_, find_hit, rfl, fun y => self_run y, rfl, _, _, rfl⟩
  rw [find_no h1]
  by_cases h2 : g = gMax
  · subst h2; exact .inl ⟨_, find_hit, rfl, fun y => self_run y, rfl, _, _, rfl⟩
  rw [find_no h2]
  by_cases h3 : g = gMin
  · subst h3; exact .inl ⟨_, find_hit, rfl, fun y => self_run y, rfl, _, _, rfl⟩
  rw [find_no h3]
  by_cases h4 : g = gSub
  · subst h4; exact .inl ⟨_, find_hit, rfl, fun y => neg_run y, rfl, _, _, rfl⟩
  rw [find_no h4]
  by_cases h5 : g = gMul
  · subst h5; exact .inl ⟨_, find_hit, rfl, fun y => sign_run y, rfl, _, _, rfl⟩
  rw [find_no h5]
  by_cases h6 : g = gDiv
  · subst h6; exact .inl ⟨_, find_hit, rfl, fun y => recip_run y, rfl, _, _, rfl⟩
  rw [find_no h6]
  by_cases h7 : g = gNot
  · subst h7; exact .inl ⟨_, find_hit, rfl, fun y => not_run y, rfl, _, _, rfl⟩
  rw [find_no h7]
  by_cases h8 : g = gRes
  · subst h8; exact .inl ⟨_, find_hit, rfl, fun y => abs_run y, rfl, _, _, rfl⟩
  rw [find_no h8]
  refine .inr ⟨rfl, ?_, fun y => ?_⟩
  · simp [isMonad, h1, h2, h3, h4, h5, h6, h7, h8]
  · simp [nMon, h1, h2, h3, h4, h5, h6, h7, h8]
theorem isMon_run (g : List UInt8) : callO B0 .cl (.fn 32 []) [.str g] = some (.bool (isMonad g)) := by
  refine call (d := fun _ => .cl) rfl (by decide) rfl rfl ?_
  rw [List.map_cons, List.map_nil, run32, monads_run]
  simp only [bindO_val]
  rcases mon_find g with ⟨f, h1, h2, _, _, k, c, rfl⟩ | ⟨h1, h2, _⟩
  · rw [h2, show pureO (.lookup .str .nilF false (.c monads) (.c (.str g))) = some (.fn k c) by unfold monads at h1 ⊢; simp only [pureO, exec, RX.ev]; rw [h1]; rfl]
    rfl
  · rw [h2, show pureO (.lookup .str .nilF false (.c monads) (.c (.str g))) = some .nilF by unfold monads at h1 ⊢; simp only [pureO, exec, RX.ev]; rw [h1]; rfl]
    rfl
theorem mon_run (g : List UInt8) (y : Int) : callO B0 .cl (.fn 33 []) [.str g, I y] = some (.tup [I (nMon g y).1, I (nMon g y).2.no]) := by
  refine call (d := fun _ => .cl) rfl (by decide) rfl rfl ?_
  rw [List.map_cons, List.map_cons, List.map_nil, run33, monads_run]
  simp only [bindO_val]
  rcases mon_find g with ⟨f, h1, h2, h3, _, k, c, rfl⟩ | ⟨h1, h2, h3⟩
  · rw [show pureO (.lookup .str .nilF true (.c monads) (.c (.str g))) = some (.tup [.fn k c, .bool true]) by unfold monads at h1 ⊢; simp only [pureO, exec, RX.ev]; rw [h1]; rfl]
    simp only [bindO_val, pure_tup, List.getElem?_cons_zero, List.getElem?_cons_succ, pure_not, Bool.not_true, iteP_false, h3, resV_0, resV_1, ntold_run]
  · rw [show pureO (.lookup .str .nilF true (.c monads) (.c (.str g))) = some (.tup [.nilF, .bool false]) by unfold monads at h1 ⊢; simp only [pureO, exec, RX.ev]; rw [h1]; rfl]
    simp only [bindO_val, pure_tup, List.getElem?_cons_zero, List.getElem?_cons_succ, pure_not, Bool.not_false, iteP_true, build_g, show PV.iface 73 (.agg [.str g]) = (NE.dom g).pv from rfl, ntold_run, h3]
    rfl
end Go.Ab.Arrays


namespace Go.Ab.Arrays
open Go Go.Ab
def errV (c : Int) : PV := if c = 0 then .nilI else .iface 64 (.agg [I c])
theorem errV_ok (c : Int) : okV (errV c) = true := by unfold errV; split <;> rfl
theorem errV_free (c : Int) : (errV c).free = true := by unfold errV; split <;> rfl
theorem err_neq (c : Int) : pureO (.bin .neq .iface true (.c (errV c)) (.c .nilI)) = some (.bool (decide (c ≠ 0))) := by
  unfold errV
  by_cases h : c = 0
  · simp only [h, if_true]; rfl
  · rw [if_neg h, show decide (c ≠ 0) = true by simp [h]]; rfl
theorem build1 (c : Int) : pureO (.build [.int .i64 0] [(0, (1, .c (.int .i64 c)))]) = some (.agg [I c]) := rfl
theorem build0 : pureO (.build [.bool false, .bool false, .nilS] []) = some (.agg [.bool false, .bool false, .nilS]) := rfl
def none3 : PV := .agg [.bool false, .bool false, .nilS]
theorem told_run (c : Int) : callO B0 .cl (.fn 22 []) [errV c] = some (I c) := by
  refine call (d := fun _ => .cl) rfl (by decide) (by simp [okVL, errV_ok]) rfl ?_
  rw [List.map_cons, List.map_nil, run22]
  unfold errV
  by_cases h : c = 0
  · subst h; rfl
  · simp only [h, if_false]; rfl
inductive AllA : List PV → List Arr → Prop
  | nil : AllA [] []
  | cons {v : PV} {a : Arr} {vs : List PV} {l : List Arr} : IsA v a → AllA vs l → AllA (v :: vs) (a :: l)
theorem AllA.ok {vs : List PV} {l : List Arr} (h : AllA vs l) : okVL vs = true := by
  induction h with
  | nil => rfl
  | cons h _ ih => simp [okVL, h.ok, ih]
theorem AllA.len {vs : List PV} {l : List Arr} (h : AllA vs l) : vs.length = l.length := by
  induction h with
  | nil => rfl
  | cons h _ ih => simp [ih]
theorem AllA.get {vs : List PV} {l : List Arr} (h : AllA vs l) : ∀ i (hi : i < l.length), ∃ v, vs[i]? = some v ∧ IsA v l[i] := by
  induction h with
  | nil => intro i hi; simp at hi
  | cons h _ ih =>
    intro i hi
    cases i with
    | zero => exact ⟨_, rfl, h⟩
    | succ i => exact ih i (by simpa using hi)
theorem lidx3 {xs : List PV} {j : Nat} {f : Bool} {a b c : PV} (h : xs[j]? = some (.agg [a, b, c])) : pureO (.idxAddr 3 (.c (.sl 3 xs f)) (.c (I j))) = some (.ptr [a, b, c] 0) := by
  rw [I, pure_lidx (by omega) h]; rfl
theorem load3 (a b c : PV) : pureO (.load 3 true (.c (.ptr [a, b, c] 0))) = some (.agg [a, b, c]) := rfl
theorem areRight_run {vs : List PV} {l : List Arr} (h : AllA vs l) (hl : l.length ≤ 1000000) (hs : ∀ a ∈ l, a.n.length ≤ 1000000) : lendO B0 .cl true 21 [.sl 3 vs false] = some (errV (if l.all Arr.right then 0 else 114)) := by
  refine lendN (d := fun _ => .cl) rfl (by simp [okVL, okV, h.ok]) rfl ?_ (by rw [errV_free]; rfl)
  rw [List.map_cons, List.map_nil, run21, pure_lenl, h.len]
  simp only [bindO_val]
  rw [show noUndef [.sl 3 vs false, .int .i64 ((l.length : Nat) : Int), .int .i64 0] = true from rfl, chkO_true]
  have key : ∀ m i, i + m = l.length → loopL (fun z2 => bindO (pureO (.bin .lss .num false (.c (nth z2.1 2)) (.c (nth z2.1 1)))) (fun z3 => iteP z3 (bindO (pureO (.idxAddr 3 (.c (nth z2.1 0)) (.c (nth z2.1 2)))) (fun z4 => bindO (pureO (.load 3 true (.c z4))) (fun z5 => chkO (okCells z5 3) (bindO (callO B0 .cl (.fn 12 []) [.agg [cellP z5 0, cellP z5 1, cellP z5 2]]) (fun z6 => bindO (pureO (.un .not (.c z6))) (fun z7 => iteP z7 (bindO (pureO (.build [.int .i64 0] [(0, (1, .c (.int .i64 114)))])) (fun z8 => bindO (some (PV.iface 64 z8, z2.2)) (fun z9 => some (.inr z9)))) (bindO (pureO (.bin .add .num true (.c (nth z2.1 2)) (.c (.int .i64 1)))) (fun z10 => some (.inl ([nth z2.1 0, nth z2.1 1, z10], z2.2)))))))))) (bindO (some (PV.nilI, z2.2)) (fun z11 => some (.inr z11))))) (([.sl 3 vs false, I l.length, I i], ()) : List PV × Unit) = some (errV (if (l.drop i).all Arr.right then 0 else 114), ()) := by
    intro m
    induction m with
    | zero =>
      intro i hi
      refine loopL_inr ?_
      have : i = l.length := by omega
      subst this
      simp [errV]
    | succ m ih =>
      intro i hi
      have hlt : i < l.length := by omega
      rw [drop_cons hlt]
      obtain ⟨v, hv, ha⟩ := h.get i hlt
      have hr := right_run ha (hs _ (List.getElem_mem hlt))
      obtain ⟨x, rfl, hx⟩ := ha.get
      cases hrt : (l[i]).right with
      | false =>
        refine loopL_inr ?_
        simp only [nth_0, nth_1, nth_2, I_lss, bindO_val, iteP_bool]
        rw [if_pos (by simpa using hlt), lidx3 hv]
        simp only [bindO_val, load3, okCells3 (val3 (a := .bool (l[i]).li) (b := .bool (l[i]).ru) rfl rfl hx.cell), chkO_true, cellP3_0, cellP3_1, cellP3_2, hr, pure_not, hrt, Bool.not_false, iteP_bool, if_true, build1]
        rw [List.all_cons, hrt]
        rfl
      | true =>
        rw [loopL_inl (s' := ([.sl 3 vs false, I l.length, I ((i + 1 : Nat) : Int)], ()))]
        · rw [ih (i + 1) (by omega), List.all_cons, hrt, Bool.true_and]
        · simp only [nth_0, nth_1, nth_2, I_lss, bindO_val, iteP_bool]
          rw [if_pos (by simpa using hlt), lidx3 hv]
          simp only [bindO_val, load3, okCells3 (val3 (a := .bool (l[i]).li) (b := .bool (l[i]).ru) rfl rfl hx.cell), chkO_true, cellP3_0, cellP3_1, cellP3_2, hr, pure_not, hrt, Bool.not_true, iteP_bool, if_false, Bool.false_eq_true, I_def, I_add, wsucc (by omega : i < 9223372036854775807)]
  have := key l.length 0 (by omega)
  simpa [I_def] using this
def Arr.sz (a b : Arr) : Int × Int := if a.li && (b.li && decide (a.n.length ≠ b.n.length)) then (0, 110) else if a.li then (a.n.length, 0) else (b.n.length, 0)
theorem size6 {a b : Arr} {x y : PV} (hx : IsL x a.n) (hy : IsL y b.n) : callO B0 .cl (.fn 24 []) [.agg [.bool a.li, .bool a.ru, x, .bool b.li, .bool b.ru, y]] = some (.tup [I (a.sz b).1, errV (a.sz b).2]) := by
  have hv : (PV.agg [.bool a.li, .bool a.ru, x, .bool b.li, .bool b.ru, y]).isVal = true := by simp [PV.isVal, PV.isCell, hx.cell, hy.cell]
  refine call (d := fun _ => .cl) rfl (by decide) (by simp [okVL, okV, hx.ok, hy.ok]) rfl ?_
  rw [List.map_cons, List.map_nil, run24, valO_agg, hv, chkO_true]
  simp only [selO_eq, cells_agg', show sel [PV.bool a.li, .bool a.ru, x, .bool b.li, .bool b.ru, y] 0 1 false = some (.bool a.li) from rfl, show sel [PV.bool a.li, .bool a.ru, x, .bool b.li, .bool b.ru, y] 3 1 false = some (.bool b.li) from rfl, show sel [PV.bool a.li, .bool a.ru, x, .bool b.li, .bool b.ru, y] 2 1 false = some x from rfl, show sel [PV.bool a.li, .bool a.ru, x, .bool b.li, .bool b.ru, y] 5 1 false = some y from rfl,
    bindO_val, iteP_bool, hx.len, hy.len, I_neq, build1]
  unfold Arr.sz
  have e : ((a.n.length : Int) != (b.n.length : Int)) = decide (a.n.length ≠ b.n.length) := by
    by_cases h : a.n.length = b.n.length
    · simp [h]
    · have : ¬ (a.n.length : Int) = (b.n.length : Int) := by omega
      simp [h, this]
  rw [e]
  cases a.li <;> cases b.li <;> simp [errV] <;> (try (by_cases h : a.n.length = b.n.length <;> simp [h, errV])) <;> rfl
def Arr.text (a : Arr) : Bool := a.ru && decide (0 < a.n.length)
theorem text_run {v : PV} {a : Arr} (h : IsA v a) : callO B0 .cl (.fn 25 []) [v] = some (.bool a.text) := by
  obtain ⟨x, rfl, hx⟩ := h.get
  refine call (d := fun _ => .cl) rfl (by decide) (by simp [okVL, h.ok]) rfl ?_
  rw [List.map_cons, List.map_nil, run25, valO_agg, val3 rfl rfl hx.cell, chkO_true]
  simp only [selO_eq, cells_agg', sel3_0, sel3_1, sel3_2, bindO_val, hx.len, iteP_bool, I_def, I_gtr]
  unfold Arr.text
  have e : decide ((0 : Int) < (a.n.length : Int)) = decide (0 < a.n.length) := by by_cases h : 0 < a.n.length <;> simp [h]
  rw [e]
  cases a.ru <;> simp
def Arr.at (a : Arr) (i : Nat) : Int := if a.li then a.n.getD i 0 else a.n.getD 0 0
def Arr.fits (a : Arr) (i : Nat) : Prop := if a.li then i < a.n.length else 0 < a.n.length
theorem of_run {v : PV} {a : Arr} (h : IsA v a) {i : Nat} (hi : a.fits i) : callO B0 .cl (.fn 46 []) [v, I i] = some (I (a.at i)) := by
  obtain ⟨x, rfl, hx⟩ := h.get
  refine call (d := fun _ => .cl) rfl (by decide) (by simp [okVL, h.ok]) rfl ?_
  rw [List.map_cons, List.map_cons, List.map_nil, run46, valO_agg, val3 rfl rfl hx.cell, chkO_true]
  simp only [selO_eq, cells_agg', sel3_0, sel3_1, sel3_2, bindO_val, iteP_bool]
  unfold Arr.at
  unfold Arr.fits at hi
  cases hli : a.li with
  | true =>
    simp only [hli, if_true] at hi
    simp only [if_true, hx.idx hi, bindO_val, load_I]
    rw [List.getD_eq_getElem?_getD, List.getElem?_eq_getElem hi]
    rfl
  | false =>
    simp only [hli, Bool.false_eq_true, if_false] at hi
    simp only [Bool.false_eq_true, if_false]
    rw [show (PV.int .i64 0) = I ((0 : Nat) : Int) from rfl, hx.idx hi]
    simp only [bindO_val, load_I]
    rw [List.getD_eq_getElem?_getD, List.getElem?_eq_getElem hi]
    rfl
def yieldAll {E : Type} (h : Handler E) (d : Nat) : List (List PV) → E → Option E
  | [], e => some e
  | args :: l, e => match h d args e with
    | some (true, e') => yieldAll h d l e'
    | some (false, e') => some e'
    | none => none
def pairsFrom (a b : Arr) (i : Nat) : Nat → List (Int × Int)
  | 0 => []
  | m + 1 => (a.at i, b.at i) :: pairsFrom a b (i + 1) m
def pairV (p : Int × Int) : List PV := [I p.1, I p.2]
theorem both_run {a b : Arr} {x y : PV} (hx : IsL x a.n) (hy : IsL y b.n) (n : Nat) : callO B0 .cl (.fn 26 []) [.agg [.bool a.li, .bool a.ru, x, .bool b.li, .bool b.ru, y], I n] = some (.fn 45 [.ptr [I n] 0, .ptr [.bool a.li, .bool a.ru, x, .bool b.li, .bool b.ru, y] 0]) := by
  have hv : (PV.agg [.bool a.li, .bool a.ru, x, .bool b.li, .bool b.ru, y]).isVal = true := by simp [PV.isVal, PV.isCell, hx.cell, hy.cell]
  refine call (d := fun _ => .cl) rfl (by decide) (by simp [okVL, okV, hx.ok, hy.ok]) rfl ?_
  rw [List.map_cons, List.map_cons, List.map_nil, run26, valO_agg, hv, chkO_true, show valO (I (n : Int)) = true from rfl, chkO_true]
  rw [show okU (.fn 45 [ptrO (cellsP (I n)) 0, ptrO (cellsP (.agg [.bool a.li, .bool a.ru, x, .bool b.li, .bool b.ru, y])) 0]) = true by
    show okV _ = true
    have : okV (PV.fn 45 [.ptr [I n] 0, .ptr [.bool a.li, .bool a.ru, x, .bool b.li, .bool b.ru, y] 0]) = true := by simp [okV, okVL, hx.ok, hy.ok]
    exact this]
  rfl
theorem pairs_run {E : Type} (h : Handler E) (dep : Nat) {a b : Arr} {x y : PV} (hx : IsL x a.n) (hy : IsL y b.n) (n : Nat) (hn : n ≤ 1000000) (hf : ∀ i, i < n → a.fits i ∧ b.fits i) {e e' : E}
    (hyy : yieldAll h dep ((pairsFrom a b 0 n).map pairV) e = some e') : rangeO B0 h dep (.fn 45 [.ptr [I n] 0, .ptr [.bool a.li, .bool a.ru, x, .bool b.li, .bool b.ru, y] 0]) e = some e' := by
  have hA : IsA (.agg [.bool a.li, .bool a.ru, x]) a := .mk _ _ _ _ hx
  have hB : IsA (.agg [.bool b.li, .bool b.ru, y]) b := .mk _ _ _ _ hy
  refine range_of_run (cfg_ok fun _ => .cl) (g := 45) (fn := fn45) rfl (by simp [okVL, okV, hx.ok, hy.ok]) (Nat.le_of_ble_eq_true rfl) (u := .tup []) ?_
  simp only [List.map_cons, List.map_nil]
  rw [run45, pure_load, sel_one]
  simp only [bindO_val]
  rw [show noUndef [nI dep, .ptr [.bool a.li, .bool a.ru, x, .bool b.li, .bool b.ru, y] 0, I n, .int .i64 0] = true from rfl, chkO_true]
  have key : ∀ m i, i + m = n → ∀ e e', yieldAll h dep ((pairsFrom a b i m).map pairV) e = some e' → loopL (fun z2 => bindO (pureO (.bin .lss .num false (.c (nth z2.1 3)) (.c (nth z2.1 2)))) (fun z3 => iteP z3 (bindO (pureO (.fieldAddr 0 (.c (nth z2.1 1)))) (fun z4 => bindO (pureO (.load 3 true (.c z4))) (fun z5 => bindO (callO B0 .cl (.fn 46 []) [z5, nth z2.1 3]) (fun z6 => bindO (pureO (.fieldAddr 3 (.c (nth z2.1 1)))) (fun z7 => bindO (pureO (.load 3 true (.c z7))) (fun z8 => bindO (callO B0 .cl (.fn 46 []) [z8, nth z2.1 3]) (fun z9 => bindO (h (natP (nth z2.1 0)) [z6, z9] z2.2) (fun z10 => bindO (pureO (.un .not (.c (.bool z10.1)))) (fun z11 => iteP z11 (bindO (some (PV.tup [], z10.2)) (fun z12 => some (.inr z12))) (bindO (pureO (.bin .add .num true (.c (nth z2.1 3)) (.c (.int .i64 1)))) (fun z13 => some (.inl ([nI (natP (nth z2.1 0)), nth z2.1 1, nth z2.1 2, z13], z10.2))))))))))))) (bindO (some (PV.tup [], z2.2)) (fun z14 => some (.inr z14))))) (([nI dep, .ptr [.bool a.li, .bool a.ru, x, .bool b.li, .bool b.ru, y] 0, I n, I i], e) : List PV × E) = some (.tup [], e') := by
    intro m
    induction m with
    | zero =>
      intro i hi e e' hq
      have : i = n := by omega
      subst this
      cases hq
      refine loopL_inr ?_
      simp
    | succ m ih =>
      intro i hi e e' hq
      have hlt : i < n := by omega
      obtain ⟨f1, f2⟩ := hf i hlt
      have o1 := of_run hA f1
      have o2 := of_run hB f2
      have q0 : pureO (.load 3 true (.c (.ptr [.bool a.li, .bool a.ru, x, .bool b.li, .bool b.ru, y] 0))) = some (.agg [.bool a.li, .bool a.ru, x]) := rfl
      have q3 : pureO (.load 3 true (.c (.ptr [.bool a.li, .bool a.ru, x, .bool b.li, .bool b.ru, y] 3))) = some (.agg [.bool b.li, .bool b.ru, y]) := rfl
      have g0 : pureO (.fieldAddr 0 (.c (.ptr [.bool a.li, .bool a.ru, x, .bool b.li, .bool b.ru, y] 0))) = some (.ptr [.bool a.li, .bool a.ru, x, .bool b.li, .bool b.ru, y] 0) := rfl
      have g3 : pureO (.fieldAddr 3 (.c (.ptr [.bool a.li, .bool a.ru, x, .bool b.li, .bool b.ru, y] 0))) = some (.ptr [.bool a.li, .bool a.ru, x, .bool b.li, .bool b.ru, y] 3) := rfl
      unfold pairsFrom at hq
      simp only [List.map_cons, yieldAll, pairV] at hq
      split at hq
      · rename_i e1 hh
        rw [loopL_inl (s' := ([nI dep, .ptr [.bool a.li, .bool a.ru, x, .bool b.li, .bool b.ru, y] 0, I n, I ((i + 1 : Nat) : Int)], e1))]
        · exact ih (i + 1) (by omega) _ _ hq
        · simp only [nth_0, nth_1, nth_2, nth_3, I_lss, bindO_val, iteP_bool]
          rw [if_pos (by simpa using hlt)]
          simp only [g0, g3, q0, q3, o1, o2, bindO_val, nI_eq, natP_int, natP_I, Int.toNat_natCast, hh, pure_not, Bool.not_true, iteP_bool, if_false, Bool.false_eq_true, I_def, I_add, wsucc (by omega : i < 9223372036854775807)]
      · rename_i e1 hh
        cases hq
        refine loopL_inr ?_
        simp only [nth_0, nth_1, nth_2, nth_3, I_lss, bindO_val, iteP_bool]
        rw [if_pos (by simpa using hlt)]
        simp only [g0, g3, q0, q3, o1, o2, bindO_val, nI_eq, natP_int, natP_I, Int.toNat_natCast, hh, pure_not, Bool.not_false, iteP_bool, if_true]
      · cases hq
  have := key n 0 (by omega) e e' hyy
  simpa [I_def] using this
noncomputable def dyBody : List PV → List PV → Unit → Option (Bool × KRec Unit) := (fun z25 => fun z26 => fun z27 => chkO (okArgs z26 2) (bindO (iteP (nth z25 8) (bindO (selO (nth z25 2) 1 1 false) (fun z28 => bindO (selO (nth z25 3) 1 1 false) (fun z29 => bindO (pureO (.bin .neq .bool false (.c z28) (.c z29))) (fun z30 => some z30)))) (some (.bool false))) (fun z31 => iteP z31 (bindO (selO (nth z25 1) 0 1 false) (fun z32 => bindO (callO B0 .cl (.fn 27 []) [z32, .int .i64 0, .int .i64 1]) (fun z33 => bindO (pureO (.extract 0 (.c z33))) (fun z34 => bindO (pureO (.extract 1 (.c z33))) (fun z35 => bindO (pureO (.bin .neq .num true (.c z35) (.c (.int .i64 0)))) (fun z36 => iteP z36 (bindO (pureO (.build [.bool false, .bool false, .nilS] [])) (fun z37 => chkO (okCells z37 3) (chkO (okCells z35 1) (some (false, ([nth z25 0, nth z25 1, nth z25 2, nth z25 3, cellP z37 0, cellP z37 1, cellP z37 2, cellP z35 0, nth z25 8, nth z25 9, nth z25 10, nI (natP (nth z25 11)), .sl 1 (itemsP (nth z25 12)) false], (some .ret, z27))))))) (chkO (okSls 1 [z34]) (chkO (leN (addN 0 (lenL [z34])) (lenL [z34])) (chkO (andB (leN (natP (nth z25 11)) (lenL (itemsP (nth z25 12)))) (leN (addN (natP (nth z25 11)) (lenL (takeL (lenL [z34]) (dropL 0 [z34])))) 2147483648)) (some (true, ([nth z25 0, nth z25 1, nth z25 2, nth z25 3, nth z25 4, nth z25 5, nth z25 6, nth z25 7, nth z25 8, nth z25 9, nth z25 10, nI (addN (natP (nth z25 11)) (lenL (takeL (lenL [z34]) (dropL 0 [z34])))), .sl 1 (catL (takeL (natP (nth z25 11)) (itemsP (nth z25 12))) (takeL (lenL [z34]) (dropL 0 [z34]))) false], (none, z27))))))))))))) (bindO (selO (nth z25 1) 0 1 false) (fun z38 => bindO (callO B0 .cl (.fn 27 []) [z38, nth z26 0, nth z26 1]) (fun z39 => bindO (pureO (.extract 0 (.c z39))) (fun z40 => bindO (pureO (.extract 1 (.c z39))) (fun z41 => bindO (pureO (.bin .neq .num true (.c z41) (.c (.int .i64 0)))) (fun z42 => iteP z42 (bindO (pureO (.build [.bool false, .bool false, .nilS] [])) (fun z43 => chkO (okCells z43 3) (chkO (okCells z41 1) (some (false, ([nth z25 0, nth z25 1, nth z25 2, nth z25 3, cellP z43 0, cellP z43 1, cellP z43 2, cellP z41 0, nth z25 8, nth z25 9, nth z25 10, nI (natP (nth z25 11)), .sl 1 (itemsP (nth z25 12)) false], (some .ret, z27))))))) (chkO (okSls 1 [z40]) (chkO (leN (addN 0 (lenL [z40])) (lenL [z40])) (chkO (andB (leN (natP (nth z25 11)) (lenL (itemsP (nth z25 12)))) (leN (addN (natP (nth z25 11)) (lenL (takeL (lenL [z40]) (dropL 0 [z40])))) 2147483648)) (some (true, ([nth z25 0, nth z25 1, nth z25 2, nth z25 3, nth z25 4, nth z25 5, nth z25 6, nth z25 7, nth z25 8, nth z25 9, nth z25 10, nI (addN (natP (nth z25 11)) (lenL (takeL (lenL [z40]) (dropL 0 [z40])))), .sl 1 (catL (takeL (natP (nth z25 11)) (itemsP (nth z25 12))) (takeL (lenL [z40]) (dropL 0 [z40]))) false], (none, z27))))))))))))))))
def dyL (f : Int → Int → Int × NE) : List (Int × Int) → Sum Int (List Int)
  | [] => .inr []
  | p :: l => if (f p.1 p.2).2.no ≠ 0 then .inl (f p.1 p.2).2.no else match dyL f l with
    | .inl c => .inl c
    | .inr r => .inr ((f p.1 p.2).1 :: r)
def dyF (g : List UInt8) (sub : Bool) (x y : Int) : Int × NE := if sub then nDy g 0 1 else nDy g x y
def dySt (z : PV) (g : List UInt8) (a b : Arr) (x y : PV) (eqv li : Bool) (w : List PV) (k : Nat) (xs : List PV) : List PV :=
  [z, .str g, .agg [.bool a.li, .bool a.ru, x], .agg [.bool b.li, .bool b.ru, y]] ++ w ++ [.bool eqv, .bool li, .bool false, nI k, .sl 1 xs false]
theorem okSls_one (n : Int) : okSls 1 [I n] = true := rfl
theorem dyBody_run (z : PV) (g : List UInt8) (a b : Arr) (x y : PV) (eqv li : Bool) (c0 c1 c2 c3 : PV) (acc : List Int) (hacc : acc.length < 1000000) (p : Int × Int) :
    dyBody (dySt z g a b x y eqv li [c0, c1, c2, c3] acc.length (ints acc)) (pairV p) () =
      let r := dyF g (eqv && (a.ru != b.ru)) p.1 p.2
      if r.2.no ≠ 0 then some (false, (dySt z g a b x y eqv li [.bool false, .bool false, .nilS, I r.2.no] acc.length (ints acc), (some .ret, ())))
      else some (true, (dySt z g a b x y eqv li [c0, c1, c2, c3] (acc ++ [r.1]).length (ints (acc ++ [r.1])), (none, ()))) := by
  unfold dyBody dySt
  simp only [List.cons_append, List.nil_append, nth_0, nth_1, nth_2, nth_3, nth_4, nth_5, nth_6, nth_7, nth_8, pairV]
  rw [show okArgs [I p.1, I p.2] 2 = true from rfl, chkO_true]
  simp only [iteP_bool, selO_eq, cells_agg', cells_str, sel_one, sel3_1, bindO_val, pure_neb, dy_run, pure_tup, List.getElem?_cons_zero, List.getElem?_cons_succ, I_def, I_neq, build0, nth_0, nth_1,
    show okCells (.agg [.bool false, .bool false, .nilS]) 3 = true from rfl, chkO_true, cellP3_0, cellP3_1, cellP3_2, okSls_one]
  have hlen : ∀ n, (decide (acc.length ≤ (ints acc).length) && decide (acc.length + ((ints acc).length - (ints acc).length + 1) ≤ n)) = decide (acc.length + 1 ≤ n) := fun n => by simp [ints_len]
  have fin : ∀ r : Int × NE, (if (r.2.no != 0) = true then chkO (okCells (I r.2.no) 1) (some (false, ([z, .str g, .agg [.bool a.li, .bool a.ru, x], .agg [.bool b.li, .bool b.ru, y], .bool false, .bool false, .nilS, cellP (I r.2.no) 0, .bool eqv, .bool li, .bool false, nI (natP (nth [z, .str g, .agg [.bool a.li, .bool a.ru, x], .agg [.bool b.li, .bool b.ru, y], c0, c1, c2, c3, .bool eqv, .bool li, .bool false, nI acc.length, .sl 1 (ints acc) false] 11)), .sl 1 (itemsP (nth [z, .str g, .agg [.bool a.li, .bool a.ru, x], .agg [.bool b.li, .bool b.ru, y], c0, c1, c2, c3, .bool eqv, .bool li, .bool false, nI acc.length, .sl 1 (ints acc) false] 12)) false], (some Ex.ret, ()))))
      else chkO (leN (addN 0 (lenL [I r.1])) (lenL [I r.1])) (chkO (andB (leN (natP (nth [z, .str g, .agg [.bool a.li, .bool a.ru, x], .agg [.bool b.li, .bool b.ru, y], c0, c1, c2, c3, .bool eqv, .bool li, .bool false, nI acc.length, .sl 1 (ints acc) false] 11)) (lenL (itemsP (nth [z, .str g, .agg [.bool a.li, .bool a.ru, x], .agg [.bool b.li, .bool b.ru, y], c0, c1, c2, c3, .bool eqv, .bool li, .bool false, nI acc.length, .sl 1 (ints acc) false] 12)))) (leN (addN (natP (nth [z, .str g, .agg [.bool a.li, .bool a.ru, x], .agg [.bool b.li, .bool b.ru, y], c0, c1, c2, c3, .bool eqv, .bool li, .bool false, nI acc.length, .sl 1 (ints acc) false] 11)) (lenL (takeL (lenL [I r.1]) (dropL 0 [I r.1])))) 2147483648)) (some (true, ([z, .str g, .agg [.bool a.li, .bool a.ru, x], .agg [.bool b.li, .bool b.ru, y], c0, c1, c2, c3, .bool eqv, .bool li, .bool false, nI (addN (natP (nth [z, .str g, .agg [.bool a.li, .bool a.ru, x], .agg [.bool b.li, .bool b.ru, y], c0, c1, c2, c3, .bool eqv, .bool li, .bool false, nI acc.length, .sl 1 (ints acc) false] 11)) (lenL (takeL (lenL [I r.1]) (dropL 0 [I r.1])))), .sl 1 (catL (takeL (natP (nth [z, .str g, .agg [.bool a.li, .bool a.ru, x], .agg [.bool b.li, .bool b.ru, y], c0, c1, c2, c3, .bool eqv, .bool li, .bool false, nI acc.length, .sl 1 (ints acc) false] 11)) (itemsP (nth [z, .str g, .agg [.bool a.li, .bool a.ru, x], .agg [.bool b.li, .bool b.ru, y], c0, c1, c2, c3, .bool eqv, .bool li, .bool false, nI acc.length, .sl 1 (ints acc) false] 12))) (takeL (lenL [I r.1]) (dropL 0 [I r.1]))) false], ((none : Option Ex), ())))))) =
      (if r.2.no ≠ 0 then some (false, ([z, .str g, .agg [.bool a.li, .bool a.ru, x], .agg [.bool b.li, .bool b.ru, y], .bool false, .bool false, .nilS, I r.2.no, .bool eqv, .bool li, .bool false, nI acc.length, .sl 1 (ints acc) false], (some Ex.ret, ())))
      else some (true, ([z, .str g, .agg [.bool a.li, .bool a.ru, x], .agg [.bool b.li, .bool b.ru, y], c0, c1, c2, c3, .bool eqv, .bool li, .bool false, nI (acc ++ [r.1]).length, .sl 1 (ints (acc ++ [r.1])) false], (none, ())))) := by
    intro r
    by_cases h : r.2.no = 0
    · rw [if_neg (by simp [h]), if_neg (by simp [h])]
      show chkO (leN (0 + 1) 1) (chkO (andB (leN (natP (nI acc.length)) (ints acc).length) (leN (natP (nI acc.length) + 1) 2147483648)) (some (true, (_, (none, ()))))) = _
      simp only [leN_eq, andB_eq, nI_eq, natP_int, Int.toNat_natCast, ints_len]
      rw [show (decide (0 + 1 ≤ 1)) = true from rfl, chkO_true, show (decide (acc.length ≤ acc.length) && decide (acc.length + 1 ≤ 2147483648)) = true by simp; omega, chkO_true]
      have e1 : natP (nI acc.length) = acc.length := by simp
      show some (true, ([z, .str g, .agg [.bool a.li, .bool a.ru, x], .agg [.bool b.li, .bool b.ru, y], c0, c1, c2, c3, .bool eqv, .bool li, .bool false, nI (natP (nI acc.length) + 1), .sl 1 ((ints acc).take (natP (nI acc.length)) ++ [I r.1]) false], ((none : Option Ex), ()))) = _
      rw [e1, List.take_of_length_le (by rw [ints_len]; exact Nat.le_refl _), List.length_append, show ints (acc ++ [r.1]) = ints acc ++ [I r.1] by simp [ints]]
      rfl
    · rw [if_pos (by simp [h]), if_pos h]
      rfl
  unfold dyF
  cases eqv with
  | false =>
    simp only [Bool.false_eq_true, if_false, Bool.false_and]
    exact fin _
  | true =>
    simp only [if_true, Bool.true_and]
    have e : (!(a.ru == b.ru)) = (a.ru != b.ru) := rfl
    rw [e]
    cases a.ru != b.ru with
    | false =>
      simp only [Bool.false_eq_true, if_false]
      exact fin _
    | true =>
      simp only [if_true]
      exact fin _
theorem onRound_hit (body : List PV → List PV → Unit → Option (Bool × KRec Unit)) (vs args : List PV) : onRound 0 noHandler body 0 args (vs, (none, ())) = body vs args () := rfl
theorem dyAll_run (z : PV) (g : List UInt8) (a b : Arr) (x y : PV) (eqv li : Bool) (c0 c1 c2 c3 : PV) : ∀ (ps : List (Int × Int)) (acc : List Int), acc.length + ps.length < 1000000 →
    match dyL (dyF g (eqv && (a.ru != b.ru))) ps with
    | .inl c => ∃ k xs, yieldAll (onRound 0 noHandler dyBody) 0 (ps.map pairV) (dySt z g a b x y eqv li [c0, c1, c2, c3] acc.length (ints acc), (none, ())) = some (dySt z g a b x y eqv li [.bool false, .bool false, .nilS, I c] k xs, (some .ret, ()))
    | .inr r => yieldAll (onRound 0 noHandler dyBody) 0 (ps.map pairV) (dySt z g a b x y eqv li [c0, c1, c2, c3] acc.length (ints acc), (none, ())) = some (dySt z g a b x y eqv li [c0, c1, c2, c3] (acc ++ r).length (ints (acc ++ r)), (none, ())) := by
  intro ps
  induction ps with
  | nil => intro acc _; simp [dyL, yieldAll]
  | cons p ps ih =>
    intro acc hl
    simp only [List.length_cons] at hl
    have hb := dyBody_run z g a b x y eqv li c0 c1 c2 c3 acc (by omega) p
    simp only at hb
    unfold dyL
    simp only [List.map_cons, yieldAll, onRound_hit]
    rw [hb]
    by_cases h : (dyF g (eqv && (a.ru != b.ru)) p.1 p.2).2.no = 0
    · simp only [h, ne_eq, not_true_eq_false, if_false]
      have hi := ih (acc ++ [(dyF g (eqv && (a.ru != b.ru)) p.1 p.2).1]) (by simp; omega)
      cases hd : dyL (dyF g (eqv && (a.ru != b.ru))) ps with
      | inl c =>
        rw [hd] at hi
        exact hi
      | inr r =>
        rw [hd] at hi
        simp only at hi ⊢
        rw [hi]
        simp
    · simp only [h, ne_eq, not_false_eq_true, if_true]
      exact ⟨_, _, rfl⟩
theorem dyTail {a b : Arr} {x y : PV} (hx : IsL x a.n) (hy : IsL y b.n) (g : List UInt8) (eqv li : Bool) (n : Nat) (hn : n < 1000000) (hf : ∀ i, i < n → a.fits i ∧ b.fits i) :
    (bindO (callO B0 .cl (.fn 26 []) [.agg [.bool a.li, .bool a.ru, x, .bool b.li, .bool b.ru, y], I n]) (fun z24 => nilO (.nilS) (bindO (rangeO B0 (onRound 0 noHandler dyBody) 0 z24 ([z24, .str g, .agg [.bool a.li, .bool a.ru, x], .agg [.bool b.li, .bool b.ru, y], .bool false, .bool false, .nilS, .int .i64 0, .bool eqv, .bool li, .bool false, nI 0, .sl 1 [] false], (none, ()))) (fun z44 => iteB (isNoneE z44.2.1) (chkO (okCells (.int .i64 0) 1) (chkO (eqN (natP (nth z44.1 11)) (lenL (itemsP (nth z44.1 12)))) (some (PV.tup [.agg [nth z44.1 9, nth z44.1 10, .sl 1 (itemsP (nth z44.1 12)) false], cellP (.int .i64 0) 0], z44.2.2)))) (iteB (isRetE z44.2.1) (nilO (nth z44.1 6) (some (PV.tup [.agg [nth z44.1 4, nth z44.1 5, .nilS], nth z44.1 7], z44.2.2))) none))))) =
      match dyL (dyF g (eqv && (a.ru != b.ru))) (pairsFrom a b 0 n) with
      | .inl c => some (PV.tup [none3, I c], ())
      | .inr r => some (PV.tup [.agg [.bool li, .bool false, .sl 1 (ints r) false], I 0], ()) := by
  rw [both_run hx hy n]
  simp only [bindO_val]
  have hlen : (pairsFrom a b 0 n).length = n := by
    have : ∀ m i, (pairsFrom a b i m).length = m := by
      intro m
      induction m with
      | zero => intro i; rfl
      | succ m ih => intro i; simp [pairsFrom, ih]
    exact this n 0
  have hall := dyAll_run (.fn 45 [.ptr [I n] 0, .ptr [.bool a.li, .bool a.ru, x, .bool b.li, .bool b.ru, y] 0]) g a b x y eqv li (.bool false) (.bool false) .nilS (.int .i64 0) (pairsFrom a b 0 n) [] (by simp [hlen]; omega)
  unfold nilO
  dsimp only
  cases hd : dyL (dyF g (eqv && (a.ru != b.ru))) (pairsFrom a b 0 n) with
  | inl c =>
    rw [hd] at hall
    obtain ⟨k, xs, hall⟩ := hall
    have hr := pairs_run (onRound 0 noHandler dyBody) 0 hx hy n (by omega) hf hall
    unfold dySt at hr
    simp only [List.cons_append, List.nil_append, List.length_nil, show ints [] = [] from rfl] at hr
    rw [hr]
    rfl
  | inr r =>
    rw [hd] at hall
    simp only [List.nil_append] at hall
    have hr := pairs_run (onRound 0 noHandler dyBody) 0 hx hy n (by omega) hf hall
    unfold dySt at hr
    simp only [List.cons_append, List.nil_append, List.length_nil, show ints [] = [] from rfl] at hr
    rw [hr]
    simp only [bindO_val]
    show chkO (okCells (.int .i64 0) 1) (chkO (eqN (natP (nI r.length)) (lenL (ints r))) (some (PV.tup [.agg [.bool li, .bool false, .sl 1 (ints r) false], cellP (.int .i64 0) 0], ()))) = _
    rw [nI_eq, natP_int, Int.toNat_natCast, show okCells (.int .i64 0) 1 = true from rfl, chkO_true, show eqN r.length (lenL (ints r)) = true by simp [eqN, lenL, ints_len], chkO_true]
    rfl
end Go.Ab.Arrays


namespace Go.Ab.Arrays
open Go Go.Ab
theorem build6 {a b : Arr} {x y : PV} (hx : IsL x a.n) (hy : IsL y b.n) :
    pureO (.build [.bool false, .bool false, .nilS, .bool false, .bool false, .nilS] [(0, (3, .c (.agg [.bool a.li, .bool a.ru, x]))), (3, (3, .c (.agg [.bool b.li, .bool b.ru, y])))]) = some (.agg [.bool a.li, .bool a.ru, x, .bool b.li, .bool b.ru, y]) := by
  simp [pureO, exec, fillPV, RX.ev, PV.cells, val3 (a := .bool a.li) (b := .bool a.ru) rfl rfl hx.cell, val3 (a := .bool b.li) (b := .bool b.ru) rfl rfl hy.cell, splice, chk]
theorem okCells6 {a b : Arr} {x y : PV} (hx : IsL x a.n) (hy : IsL y b.n) : okCells (.agg [.bool a.li, .bool a.ru, x, .bool b.li, .bool b.ru, y]) 6 = true := by
  simp [okCells, PV.isVal, PV.isCell, hx.cell, hy.cell]
theorem okSls3 {a : Arr} {x : PV} (hx : IsL x a.n) : okSls 3 [.agg [.bool a.li, .bool a.ru, x]] = true := by
  simp [okSls, val3 (a := .bool a.li) (b := .bool a.ru) rfl rfl hx.cell, PV.cells]
theorem okSls33 {a b : Arr} {x y : PV} (hx : IsL x a.n) (hy : IsL y b.n) : okSls 3 [.agg [.bool a.li, .bool a.ru, x], .agg [.bool b.li, .bool b.ru, y]] = true := by
  simp [okSls, val3 (a := .bool a.li) (b := .bool a.ru) rfl rfl hx.cell, val3 (a := .bool b.li) (b := .bool b.ru) rfl rfl hy.cell, PV.cells]
def Arr.isEq (g : List UInt8) : Bool := (g == gEq) || (g == gNe)
def Arr.dy (g : List UInt8) (a b : Arr) : Arr × Int :=
  if (a.right && b.right) = false then (noArr, 114)
  else if isDyad g = false then (noArr, 102)
  else if (a.sz b).2 ≠ 0 then (noArr, (a.sz b).2)
  else if !Arr.isEq g && (a.text || b.text) then (noArr, 102)
  else match dyL (dyF g (Arr.isEq g && (a.ru != b.ru))) (pairsFrom a b 0 (a.sz b).1.toNat) with
    | .inl c => (noArr, c)
    | .inr r => (⟨a.li || b.li, false, r⟩, 0)
theorem right_len {a : Arr} (h : a.right = true) : a.n.length ≤ 200 := by
  unfold Arr.right at h
  simp only [Bool.and_eq_true] at h
  cases hl : a.li with
  | true => simpa [hl] using h.2
  | false => simp [hl] at h; omega
theorem sz_fits {a b : Arr} (ha : a.right = true) (hb : b.right = true) (hs : (a.sz b).2 = 0) : (a.sz b).1 = ((a.sz b).1.toNat : Nat) ∧ (a.sz b).1.toNat ≤ 200 ∧ ∀ i, i < (a.sz b).1.toNat → a.fits i ∧ b.fits i := by
  have la := right_len ha
  have lb := right_len hb
  unfold Arr.right at ha hb
  simp only [Bool.and_eq_true] at ha hb
  have h1 := ha.2
  have h2 := hb.2
  unfold Arr.sz at hs ⊢
  unfold Arr.fits
  cases hl : a.li <;> cases hr : b.li <;> simp [hl, hr] at h1 h2 hs ⊢
  · refine ⟨by omega, fun i hi => by omega⟩
  · refine ⟨by omega, fun i hi => by omega⟩
  · refine ⟨by omega, fun i hi => by omega⟩
  · by_cases h : a.n.length = b.n.length
    · simp [h]; omega
    · simp [h] at hs
set_option maxHeartbeats 2000000 in
theorem adyR {v u : PV} {a b : Arr} (hv : IsA v a) (hu : IsA u b) (hla : a.n.length ≤ 1000000) (hlb : b.n.length ≤ 1000000) (g : List UInt8) :
    ∃ w, callO B0 (.tup [.agg [.cl, .cl, .opt 1], .cl]) (.fn 10 []) [.str g, v, u] = some (.tup [w, I (Arr.dy g a b).2]) ∧ IsA w (Arr.dy g a b).1 := by
  have hok : okVL [.str g, v, u] = true := by simp [okVL, okV, hv.ok, hu.ok]
  have hri := areRight_run (.cons hv (.cons hu .nil)) (by simp) (by intro c hc; simp at hc; rcases hc with rfl | rfl <;> assumption)
  have htx := text_run hv
  have hty := text_run hu
  obtain ⟨x, rfl, hx⟩ := hv.get
  obtain ⟨y, rfl, hy⟩ := hu.get
  have hsz := size6 hx hy
  suffices key : ∃ w, runK (cfg0 B0 (fun _ => .cl)) fn10 (.tup [.agg [.cl, .cl, .opt 1], .cl]) noHandler 0 [.cv (.str g), .cv (.agg [.bool a.li, .bool a.ru, x]), .cv (.agg [.bool b.li, .bool b.ru, y])] () = some (.tup [w, I (Arr.dy g a b).2], ()) ∧ IsA w (Arr.dy g a b).1 by
    obtain ⟨w, h1, h2⟩ := key
    exact ⟨w, call (d := fun _ => .cl) rfl (by decide) hok rfl h1, h2⟩
  rw [run10, show valO (.str g) = true from rfl, chkO_true, valO_agg, valO_agg, val3 rfl rfl hx.cell, val3 rfl rfl hy.cell, chkO_true, chkO_true]
  simp only [selO_eq, cells_agg', sel3_a, sel3_0, sel3_1, cells_str, sel_one, bindO_val, build6 hx hy, okCells6 hx hy, chkO_true, okSls33 hx hy]
  rw [show slO 3 3 [.agg [.bool a.li, .bool a.ru, x], .agg [.bool b.li, .bool b.ru, y]] 0 (lenL [.agg [.bool a.li, .bool a.ru, x], .agg [.bool b.li, .bool b.ru, y]]) = .sl 3 [.agg [.bool a.li, .bool a.ru, x], .agg [.bool b.li, .bool b.ru, y]] false from rfl, hri]
  simp only [bindO_val, err_neq, iteP_bool, build0, told_run, List.all_cons, List.all_nil, Bool.and_true]
  unfold Arr.dy
  by_cases hr : (a.right && b.right) = true
  · simp only [hr, if_true, ne_eq, not_true_eq_false, decide_false, Bool.false_eq_true, if_false, isDy_run, bindO_val, pure_not, iteP_bool, Bool.true_eq_false]
    by_cases hd : isDyad g = true
    · simp only [hd, Bool.not_true, Bool.false_eq_true, if_false, Bool.true_eq_false]
      rw [show callO B0 .cl (.fn 24 []) [.agg [cellP (.agg [.bool a.li, .bool a.ru, x, .bool b.li, .bool b.ru, y]) 0, cellP (.agg [.bool a.li, .bool a.ru, x, .bool b.li, .bool b.ru, y]) 1, cellP (.agg [.bool a.li, .bool a.ru, x, .bool b.li, .bool b.ru, y]) 2, cellP (.agg [.bool a.li, .bool a.ru, x, .bool b.li, .bool b.ru, y]) 3, cellP (.agg [.bool a.li, .bool a.ru, x, .bool b.li, .bool b.ru, y]) 4, cellP (.agg [.bool a.li, .bool a.ru, x, .bool b.li, .bool b.ru, y]) 5]] = some (.tup [I (a.sz b).1, errV (a.sz b).2]) from hsz]
      simp only [bindO_val, pure_tup, List.getElem?_cons_zero, List.getElem?_cons_succ, pure_eqs, iteP_bool, err_neq, told_run]
      by_cases hs : (a.sz b).2 = 0
      · simp only [Bool.and_eq_true] at hr
        obtain ⟨z1, z2, z3⟩ := sz_fits hr.1 hr.2 hs
        rw [z1]
        generalize (a.sz b).1.toNat = n at z2 z3 ⊢
        have tail := fun eqv li => dyTail hx hy g eqv li n (by omega) z3
        have fin : ∀ (eqv li : Bool), ∃ w, (match dyL (dyF g (eqv && (a.ru != b.ru))) (pairsFrom a b 0 n) with
            | .inl c => some (PV.tup [none3, I c], ())
            | .inr r => some (PV.tup [.agg [.bool li, .bool false, .sl 1 (ints r) false], I 0], ())) = some (PV.tup [w, I (match dyL (dyF g (eqv && (a.ru != b.ru))) (pairsFrom a b 0 n) with
              | .inl c => (noArr, c)
              | .inr r => ((⟨li, false, r⟩ : Arr), 0)).2], ()) ∧ IsA w (match dyL (dyF g (eqv && (a.ru != b.ru))) (pairsFrom a b 0 n) with
              | .inl c => (noArr, c)
              | .inr r => ((⟨li, false, r⟩ : Arr), 0)).1 := by
          intro eqv li
          cases dyL (dyF g (eqv && (a.ru != b.ru))) (pairsFrom a b 0 n) with
          | inl c => exact ⟨_, rfl, noArr_is⟩
          | inr r => exact ⟨_, rfl, .mk _ _ _ _ (.sl _ _)⟩
        have bl : ∀ li : Bool, pureO (.build [.bool false, .bool false, .nilS] [(0, (1, .c (.bool li)))]) = some (.agg [.bool li, .bool false, .nilS]) := fun li => rfl
        have ok3 : ∀ li : Bool, okCells (.agg [.bool li, .bool false, .nilS]) 3 = true := fun li => rfl
        by_cases h1 : g = gEq
        · subst h1
          have q1 : (gEq == [61]) = true := rfl
          have q2 : Arr.isEq gEq = true := rfl
          simp only [q1, q2, hs, ne_eq, not_true_eq_false, decide_false, Bool.false_eq_true, if_true, if_false, bl, bindO_val, ok3, chkO_true, Bool.not_true, Bool.false_and, Bool.true_and]
          cases hli : a.li with
          | true =>
            simp only [if_true, Bool.true_or]
            obtain ⟨w, f1, f2⟩ := fin true true
            refine ⟨w, Eq.trans (Eq.trans ?_ (tail true true)) f1, f2⟩
            rw [hli]
            rfl
          | false =>
            simp only [if_false, Bool.false_or, Bool.false_eq_true]
            obtain ⟨w, f1, f2⟩ := fin true b.li
            refine ⟨w, Eq.trans (Eq.trans ?_ (tail true b.li)) f1, f2⟩
            rw [hli]
            rfl
        · have q1 : (g == [61]) = false := by simpa [gEq] using h1
          simp only [q1, hs, ne_eq, not_true_eq_false, decide_false, Bool.false_eq_true, if_true, if_false, bl, bindO_val, ok3, chkO_true]
          rw [show okCells (.bool (g == [226, 137, 160])) 1 = true from rfl, chkO_true, show cellP (.bool (g == [226, 137, 160])) 0 = .bool (g == [226, 137, 160]) from rfl]
          have q2 : Arr.isEq g = (g == [226, 137, 160]) := by
            unfold Arr.isEq
            rw [show (g == gEq) = false from q1, Bool.false_or]; rfl
          rw [q2]
          simp only [pure_not, bindO_val, iteP_bool, htx, hty]
          cases h2 : (g == [226, 137, 160]) with
          | true =>
            simp only [Bool.not_true, Bool.false_eq_true, if_false, Bool.false_and, Bool.true_and]
            cases hli : a.li with
            | true =>
              simp only [if_true, Bool.true_or]
              obtain ⟨w, f1, f2⟩ := fin true true
              refine ⟨w, Eq.trans (Eq.trans ?_ (tail true true)) f1, f2⟩
              rw [hli]
              rfl
            | false =>
              simp only [if_false, Bool.false_or, Bool.false_eq_true]
              obtain ⟨w, f1, f2⟩ := fin true b.li
              refine ⟨w, Eq.trans (Eq.trans ?_ (tail true b.li)) f1, f2⟩
              rw [hli]
              rfl
          | false =>
            simp only [Bool.not_false, if_true, Bool.true_and]
            cases ht1 : a.text with
            | true => simp only [if_true, Bool.true_or]; exact ⟨_, rfl, noArr_is⟩
            | false =>
              cases ht2 : b.text with
              | true => simp only [if_true, Bool.false_or, if_false, Bool.false_eq_true]; exact ⟨_, rfl, noArr_is⟩
              | false =>
                simp only [if_false, Bool.false_or, Bool.false_eq_true]
                cases hli : a.li with
                | true =>
                  simp only [if_true, Bool.true_or]
                  obtain ⟨w, f1, f2⟩ := fin false true
                  refine ⟨w, Eq.trans (Eq.trans ?_ (tail false true)) f1, f2⟩
                  rw [hli]
                  rfl
                | false =>
                  simp only [if_false, Bool.false_or, Bool.false_eq_true]
                  obtain ⟨w, f1, f2⟩ := fin false b.li
                  refine ⟨w, Eq.trans (Eq.trans ?_ (tail false b.li)) f1, f2⟩
                  rw [hli]
                  rfl
      · simp only [hs, ne_eq, not_false_eq_true, decide_true, if_true]
        cases (g == [61]) with
        | true => exact ⟨none3, rfl, noArr_is⟩
        | false => exact ⟨none3, rfl, noArr_is⟩
    · have hd' : isDyad g = false := by simpa using hd
      simp only [hd', Bool.not_false, if_true]
      exact ⟨none3, rfl, noArr_is⟩
  · have hr' : (a.right && b.right) = false := by simpa using hr
    simp only [hr', Bool.false_eq_true, if_false, if_true]
    exact ⟨none3, rfl, noArr_is⟩
def monL (f : Int → Int × NE) : List Int → Sum Int (List Int)
  | [] => .inr []
  | x :: l => if (f x).2.no ≠ 0 then .inl (f x).2.no else match monL f l with
    | .inl c => .inl c
    | .inr r => .inr ((f x).1 :: r)
def Arr.mon (g : List UInt8) (a : Arr) : Arr × Int :=
  if a.right = false then (noArr, 114)
  else if isMonad g = false then (noArr, 102)
  else if a.text then (noArr, 102)
  else match monL (nMon g) a.n with
    | .inl c => (noArr, c)
    | .inr r => (⟨a.li, false, r⟩, 0)
theorem amonR {v : PV} {a : Arr} (hv : IsA v a) (hla : a.n.length ≤ 1000000) (g : List UInt8) :
    ∃ w, callO B0 (.tup [.agg [.cl, .cl, .opt 1], .cl]) (.fn 14 []) [.str g, v] = some (.tup [w, I (Arr.mon g a).2]) ∧ IsA w (Arr.mon g a).1 := by
  have hok : okVL [.str g, v] = true := by simp [okVL, okV, hv.ok]
  have hri := areRight_run (.cons hv .nil) (by simp) (by intro c hc; simp at hc; rcases hc with rfl; assumption)
  have htx := text_run hv
  obtain ⟨x, rfl, hx⟩ := hv.get
  suffices key : ∃ w, runK (cfg0 B0 (fun _ => .cl)) fn14 (.tup [.agg [.cl, .cl, .opt 1], .cl]) noHandler 0 [.cv (.str g), .cv (.agg [.bool a.li, .bool a.ru, x])] () = some (.tup [w, I (Arr.mon g a).2], ()) ∧ IsA w (Arr.mon g a).1 by
    obtain ⟨w, h1, h2⟩ := key
    exact ⟨w, call (d := fun _ => .cl) rfl (by decide) hok rfl h1, h2⟩
  rw [run14, valO_agg, val3 rfl rfl hx.cell, chkO_true]
  simp only [selO_eq, cells_agg', sel3_a, sel3_0, sel3_2, bindO_val, chkO_true, okSls3 hx]
  rw [show slO 3 3 [.agg [.bool a.li, .bool a.ru, x]] 0 (lenL [.agg [.bool a.li, .bool a.ru, x]]) = .sl 3 [.agg [.bool a.li, .bool a.ru, x]] false from rfl, hri]
  simp only [bindO_val, err_neq, iteP_bool, build0, told_run, List.all_cons, List.all_nil, Bool.and_true]
  unfold Arr.mon
  by_cases hr : a.right = true
  · have hlen := right_len hr
    simp only [hr, if_true, ne_eq, not_true_eq_false, decide_false, Bool.false_eq_true, if_false, isMon_run, bindO_val, pure_not, iteP_bool, Bool.true_eq_false]
    by_cases hd : isMonad g = true
    · simp only [hd, Bool.not_true, Bool.false_eq_true, if_false, Bool.true_eq_false, htx, bindO_val, iteP_bool]
      cases ht1 : a.text with
      | true => simp only [if_true]; exact ⟨_, rfl, noArr_is⟩
      | false =>
        simp only [Bool.false_eq_true, if_false]
        rw [show pureO (.build [.bool false, .bool false, .nilS] [(0, (1, .c (.bool a.li)))]) = some (.agg [.bool a.li, .bool false, .nilS]) from rfl]
        simp only [bindO_val, hx.len]
        rw [show okCells (.agg [.bool a.li, .bool false, .nilS]) 3 = true from rfl, chkO_true]
        unfold nilO
        dsimp only [cellP3_2]
        rw [show noUndef [.str g, x, I a.n.length, .int .i64 0] = true by simp only [noUndef, List.all_cons, hx.und]; rfl, chkO_true]
        have key : ∀ (m i : Nat) (acc : List Int), i + m = a.n.length → acc.length = i → ∃ w, loopL (fun z16 => bindO (pureO (.bin .lss .num false (.c (nth z16.1 3)) (.c (nth z16.1 2)))) (fun z17 => iteP z17 (bindO (pureO (.idxAddr 1 (.c (nth z16.1 1)) (.c (nth z16.1 3)))) (fun z18 => bindO (pureO (.load 1 false (.c z18))) (fun z19 => bindO (callO B0 .cl (.fn 33 []) [nth z16.1 0, z19]) (fun z20 => bindO (pureO (.extract 0 (.c z20))) (fun z21 => bindO (pureO (.extract 1 (.c z20))) (fun z22 => bindO (pureO (.bin .neq .num true (.c z22) (.c (.int .i64 0)))) (fun z23 => iteP z23 (bindO (pureO (.build [.bool false, .bool false, .nilS] [])) (fun z24 => chkO (okCells z24 3) (bindO (nilO (cellP z24 2) (some (PV.tup [.agg [cellP z24 0, cellP z24 1, .nilS], z22], z16.2))) (fun z25 => some (.inr z25))))) (chkO (okSls 1 [z21]) (chkO (leN (addN 0 (lenL [z21])) (lenL [z21])) (chkO (andB (leN (natP (nth z16.1 9)) (lenL (itemsP (nth z16.1 10)))) (leN (addN (natP (nth z16.1 9)) (lenL (takeL (lenL [z21]) (dropL 0 [z21])))) 2147483648)) (bindO (pureO (.bin .add .num true (.c (nth z16.1 3)) (.c (.int .i64 1)))) (fun z26 => some (.inl ([nth z16.1 0, nth z16.1 1, nth z16.1 2, z26, nth z16.1 4, nth z16.1 5, nth z16.1 6, nth z16.1 7, nth z16.1 8, nI (addN (natP (nth z16.1 9)) (lenL (takeL (lenL [z21]) (dropL 0 [z21])))), .sl 1 (catL (takeL (natP (nth z16.1 9)) (itemsP (nth z16.1 10))) (takeL (lenL [z21]) (dropL 0 [z21]))) false], z16.2)))))))))))))) (bindO (chkO (eqN (natP (nth z16.1 9)) (lenL (itemsP (nth z16.1 10)))) (some (PV.tup [.agg [nth z16.1 7, nth z16.1 8, .sl 1 (itemsP (nth z16.1 10)) false], .int .i64 0], z16.2))) (fun z27 => some (.inr z27))))) (([.str g, x, I a.n.length, I i, .bool false, .bool false, .nilS, .bool a.li, .bool false, nI acc.length, .sl 1 (ints acc) false], ()) : List PV × Unit) =
            some (.tup [w, I (match monL (nMon g) (a.n.drop i) with | .inl c => (noArr, c) | .inr r => ((⟨a.li, false, acc ++ r⟩ : Arr), 0)).2], ()) ∧ IsA w (match monL (nMon g) (a.n.drop i) with | .inl c => (noArr, c) | .inr r => ((⟨a.li, false, acc ++ r⟩ : Arr), 0)).1 := by
          intro m
          induction m with
          | zero =>
            intro i acc hi ha
            have hd0 : a.n.drop i = [] := List.drop_eq_nil_of_le (by omega)
            rw [hd0]
            refine ⟨.agg [.bool a.li, .bool false, .sl 1 (ints acc) false], loopL_inr ?_, ?_⟩
            · have hlt : ¬ ((i : Int) < (a.n.length : Int)) := by omega
              simp only [nth_2, nth_3, I_lss, bindO_val, iteP_bool, hlt, decide_false, Bool.false_eq_true, if_false]
              show bindO (chkO (eqN (natP (nI acc.length)) (lenL (ints acc))) (some (PV.tup [.agg [.bool a.li, .bool false, .sl 1 (ints acc) false], .int .i64 0], ()))) (fun z27 => some (Sum.inr z27)) = _
              rw [nI_eq, natP_int, Int.toNat_natCast, show eqN acc.length (lenL (ints acc)) = true by simp [eqN, lenL, ints_len], chkO_true]
              rfl
            · simp only [monL, List.append_nil]
              exact .mk _ _ _ _ (.sl _ _)
          | succ m ih =>
            intro i acc hi ha
            have hlt : i < a.n.length := by omega
            have hlt' : (i : Int) < (a.n.length : Int) := by omega
            rw [drop_cons hlt]
            unfold monL
            by_cases hno : (nMon g a.n[i]).2.no = 0
            · simp only [hno, ne_eq, not_true_eq_false, if_false]
              rw [loopL_inl (s' := ([.str g, x, I a.n.length, I ((i + 1 : Nat) : Int), .bool false, .bool false, .nilS, .bool a.li, .bool false, nI (acc ++ [(nMon g a.n[i]).1]).length, .sl 1 (ints (acc ++ [(nMon g a.n[i]).1])) false], ()))]
              · obtain ⟨w, h1, h2⟩ := ih (i + 1) (acc ++ [(nMon g a.n[i]).1]) (by omega) (by simp [ha])
                cases hm : monL (nMon g) (a.n.drop (i + 1)) with
                | inl c => rw [hm] at h1 h2; exact ⟨w, h1, h2⟩
                | inr r =>
                  rw [hm] at h1 h2
                  simp only [List.append_assoc, List.cons_append, List.nil_append] at h1 h2
                  exact ⟨w, h1, h2⟩
              · simp only [nth_0, nth_1, nth_2, nth_3, nth_4, nth_5, nth_6, nth_7, nth_8, I_lss, bindO_val, iteP_bool, hlt', decide_true, if_true, hx.idx hlt, load_I, mon_run, pure_tup, List.getElem?_cons_zero, List.getElem?_cons_succ, I_def, I_neq, hno, bne_self_eq_false, Bool.false_eq_true, if_false, okSls_one, chkO_true]
                show chkO (leN (0 + 1) 1) (chkO (andB (leN (natP (nI acc.length)) (ints acc).length) (leN (natP (nI acc.length) + 1) 2147483648)) _) = _
                have e1 : natP (nI acc.length) = acc.length := by simp
                simp only [leN_eq, andB_eq, e1, ints_len]
                rw [show (decide (0 + 1 ≤ 1)) = true from rfl, chkO_true, show (decide (acc.length ≤ acc.length) && decide (acc.length + 1 ≤ 2147483648)) = true by simp; omega, chkO_true]
                simp only [I_add, bindO_val, wsucc (by omega : i < 9223372036854775807)]
                show some (Sum.inl ([.str g, x, I a.n.length, I ((i + 1 : Nat) : Int), .bool false, .bool false, .nilS, .bool a.li, .bool false, nI (natP (nI acc.length) + 1), .sl 1 ((ints acc).take (natP (nI acc.length)) ++ [I (nMon g a.n[i]).1]) false], ())) = _
                rw [e1, List.take_of_length_le (by rw [ints_len]; exact Nat.le_refl _), List.length_append, show ints (acc ++ [(nMon g a.n[i]).1]) = ints acc ++ [I (nMon g a.n[i]).1] by simp [ints]]
                rfl
            · simp only [hno, ne_eq, not_false_eq_true, if_true]
              refine ⟨none3, loopL_inr ?_, noArr_is⟩
              have hb : ((nMon g a.n[i]).2.no != 0) = true := by simpa using hno
              simp only [nth_0, nth_1, nth_2, nth_3, I_lss, bindO_val, iteP_bool, hlt', decide_true, if_true, hx.idx hlt, load_I, mon_run, pure_tup, List.getElem?_cons_zero, List.getElem?_cons_succ, I_def, I_neq, hb, build0]
              rfl
        have := key a.n.length 0 [] (by omega) rfl
        simp only [List.drop_zero, List.nil_append, List.length_nil, show ints [] = [] from rfl] at this
        exact this
    · have hd' : isMonad g = false := by simpa using hd
      simp only [hd', Bool.not_false, if_true]
      exact ⟨none3, rfl, noArr_is⟩
  · have hr' : a.right = false := by simpa using hr
    simp only [hr', Bool.false_eq_true, if_false, if_true]
    exact ⟨none3, rfl, noArr_is⟩
end Go.Ab.Arrays


namespace Go.Ab.Arrays
open Go Go.Ab
theorem valO_is {v : PV} {a : Arr} (h : IsA v a) : valO v = true := by
  obtain ⟨x, rfl, hx⟩ := h.get
  rw [valO_agg, val3 rfl rfl hx.cell]
theorem sel_is {v : PV} {a : Arr} (h : IsA v a) : selO v 0 3 true = some v := by
  obtain ⟨x, rfl, hx⟩ := h.get
  rfl
theorem okSto_is {v u : PV} {a b : Arr} (h : IsA v a) (hu : IsA u b) : okSto v u 0 3 = true := by
  obtain ⟨x, rfl, hx⟩ := h.get
  obtain ⟨y, rfl, hy⟩ := hu.get
  simp [okSto, val3 (a := .bool a.li) (b := .bool a.ru) rfl rfl hx.cell]
theorem stoP_is {v u : PV} {a b : Arr} (h : IsA v a) (hu : IsA u b) : stoP v u 0 = v := by
  obtain ⟨x, rfl, hx⟩ := h.get
  obtain ⟨y, rfl, hy⟩ := hu.get
  rfl
theorem few_len (a : Arr) : a.few.n.length ≤ 202 := by simp [Arr.few]; omega
theorem c2_is {v : PV} {a : Arr} (h : IsA v a) : IsL (cellP v 2) a.n := by obtain ⟨x, rfl, hx⟩ := h.get; exact hx
theorem s2_is {v : PV} {a : Arr} (h : IsA v a) : selO v 2 1 false = some (cellP v 2) := by obtain ⟨x, rfl, hx⟩ := h.get; rfl
theorem bV {α β : Type} (a : α) (f : α → Option β) : bindO (some a) f = f a := Eq.trans rfl rfl
theorem cT {β : Type} (a : Option β) : chkO true a = a := Eq.trans rfl rfl
theorem iD (n : Int) : PV.int .i64 n = I n := Eq.trans rfl rfl
theorem IsL.at {v : PV} {l : List Int} (h : IsL v l) {i : Nat} {n : Int} (hi : l[i]? = some n) : pureO (.idxAddr 1 (.c v) (.c (I i))) = some (.ptr [I n] 0) := by
  obtain ⟨h1, h2⟩ := List.getElem?_eq_some_iff.1 hi
  rw [h.idx h1, h2]
theorem dyL_inl {f : Int → Int → Int × NE} : ∀ {ps : List (Int × Int)} {c : Int}, dyL f ps = .inl c → c ≠ 0 := by
  intro ps
  induction ps with
  | nil => intro c h; cases h
  | cons p ps ih =>
    intro c h
    unfold dyL at h
    split at h
    · rename_i hn
      cases h
      exact hn
    · split at h
      · rename_i c' hc
        cases h
        exact ih hc
      · cases h
theorem dyL_len {f : Int → Int → Int × NE} : ∀ {ps : List (Int × Int)} {r : List Int}, dyL f ps = .inr r → r.length = ps.length := by
  intro ps
  induction ps with
  | nil => intro r h; cases h; rfl
  | cons p ps ih =>
    intro r h
    unfold dyL at h
    split at h
    · cases h
    · split at h
      · cases h
      · rename_i r' hr
        cases h
        simp [ih hr]
theorem pairs_len (a b : Arr) : ∀ (m i : Nat), (pairsFrom a b i m).length = m := by
  intro m
  induction m with
  | zero => intro i; rfl
  | succ m ih => intro i; simp [pairsFrom, ih]
theorem dy_err {g : List UInt8} {a b : Arr} (h : (Arr.dy g a b).2 ≠ 0) : (Arr.dy g a b).1 = noArr := by
  unfold Arr.dy at h ⊢
  split
  · rfl
  split
  · rfl
  split
  · rfl
  split
  · rfl
  split
  · rfl
  · rename_i h1 h2 h3 h4 _ r hr
    rw [if_neg h1, if_neg h2, if_neg h3, if_neg h4, hr] at h
    exact absurd rfl h
structure DyOK (g : List UInt8) (a b : Arr) (r : List Int) : Prop where
  ra : a.right = true
  rb : b.right = true
  gl : isDyad g = true
  sz : (a.sz b).2 = 0
  tx : (!Arr.isEq g && (a.text || b.text)) = false
  l : dyL (dyF g (Arr.isEq g && (a.ru != b.ru))) (pairsFrom a b 0 (a.sz b).1.toNat) = .inr r
theorem dy_ok {g : List UInt8} {a b : Arr} (h : (Arr.dy g a b).2 = 0) : ∃ r, (Arr.dy g a b).1 = ⟨a.li || b.li, false, r⟩ ∧ DyOK g a b r := by
  unfold Arr.dy at h ⊢
  split at h
  · cases h
  rename_i h1
  split at h
  · cases h
  rename_i h2
  split at h
  · rename_i h3; exact absurd h h3
  rename_i h3
  split at h
  · cases h
  rename_i h4
  split at h
  · rename_i c hc; exact absurd h (dyL_inl hc)
  · rename_i r hr
    simp only [Bool.and_eq_false_imp, Classical.not_imp, Bool.not_eq_false] at h1
    rw [if_neg (by simp [h1]), if_neg h2, if_neg h3, if_neg h4]
    exact ⟨r, rfl, h1.1, h1.2, by simpa using h2, by simpa using h3, by simpa using h4, hr⟩
theorem DyOK.len {g : List UInt8} {a b : Arr} {r : List Int} (h : DyOK g a b r) : r.length = (a.sz b).1.toNat := by rw [dyL_len h.l, pairs_len]
theorem DyOK.right {g : List UInt8} {a b : Arr} {r : List Int} (h : DyOK g a b r) : (⟨a.li || b.li, false, r⟩ : Arr).right = true := by
  obtain ⟨z1, z2, _⟩ := sz_fits h.ra h.rb h.sz
  have hl := h.len
  have h1 := h.ra
  have h2 := h.rb
  unfold Arr.right at h1 h2 ⊢
  simp only [Bool.false_and, Bool.not_false, Bool.true_and]
  cases ha : a.li with
  | true => simp; omega
  | false =>
    cases hb : b.li with
    | true => simp; omega
    | false =>
      have : (a.sz b).1 = (b.n.length : Int) := by simp [Arr.sz, ha, hb]
      simp [hb] at h2
      simp
      rw [hl, this]
      simp [h2.2]
theorem monL_inl {f : Int → Int × NE} : ∀ {l : List Int} {c : Int}, monL f l = .inl c → c ≠ 0 := by
  intro l
  induction l with
  | nil => intro c h; cases h
  | cons p ps ih =>
    intro c h
    unfold monL at h
    split at h
    · rename_i hn
      cases h
      exact hn
    · split at h
      · rename_i c' hc
        cases h
        exact ih hc
      · cases h
theorem monL_len {f : Int → Int × NE} : ∀ {l r : List Int}, monL f l = .inr r → r.length = l.length := by
  intro l
  induction l with
  | nil => intro r h; cases h; rfl
  | cons p ps ih =>
    intro r h
    unfold monL at h
    split at h
    · cases h
    · split at h
      · cases h
      · rename_i r' hr
        cases h
        simp [ih hr]
theorem mon_err {g : List UInt8} {a : Arr} (h : (Arr.mon g a).2 ≠ 0) : (Arr.mon g a).1 = noArr := by
  unfold Arr.mon at h ⊢
  split
  · rfl
  split
  · rfl
  split
  · rfl
  split
  · rfl
  · rename_i h1 h2 h3 _ r hr
    rw [if_neg h1, if_neg h2, if_neg h3, hr] at h
    exact absurd rfl h
theorem mon_ok {g : List UInt8} {a : Arr} (h : (Arr.mon g a).2 = 0) : ∃ r, (Arr.mon g a).1 = ⟨a.li, false, r⟩ ∧ a.right = true ∧ r.length = a.n.length := by
  unfold Arr.mon at h ⊢
  split at h
  · cases h
  rename_i h1
  split at h
  · cases h
  rename_i h2
  split at h
  · cases h
  rename_i h3
  split at h
  · rename_i c hc; exact absurd h (monL_inl hc)
  · rename_i r hr
    rw [if_neg h1, if_neg h2, if_neg h3]
    exact ⟨r, rfl, by simpa using h1, monL_len hr⟩
end Go.Ab.Arrays


namespace Go.Ab
def memoCall (memo : FuncId → List PV → Option PV) (c : CallT) : CallT := fun E h dep g args e =>
  match dep, memo g args with
  | 0, some r => some (r, [], e)
  | _, _ => c E h dep g args e
def evalMm (memo : FuncId → List PV → Option PV) (sp : FuncId → (Nm → Option Ob) → List PV → Option Out) (tab : FuncId → Option RFn) : Nat → Mach
  | 0 => evalM sp tab 0
  | n + 1 => { evalM sp tab 0 with call := memoCall memo (callOf (evalMm memo sp tab n) n tab), io := ioOf (evalMm memo sp tab n) n tab }
def evalFm (memo : FuncId → List PV → Option PV) (sp : FuncId → (Nm → Option Ob) → List PV → Option Out) (tab : FuncId → Option RFn) (n : Nat) : CallT := (evalMm memo sp tab n).call
section memo
variable {memo : FuncId → List PV → Option PV} {sp : FuncId → (Nm → Option Ob) → List PV → Option Out} {tab : FuncId → Option RFn}
  (hm : ∀ g args r, memo g args = some r → ∃ n, evalFn sp tab n Unit noHandler 0 g args () = some (r, [], ()))
include hm
theorem evalMm_le : ∀ n, MLe (evalMm memo sp tab n) (evalM sp tab) := by
  intro n
  induction n with
  | zero => exact evalM_le 0
  | succ n ih =>
    have hk := callOf_par ih n tab
    refine MLe.of_tail ⟨fun k => rfl, ?_, fun k => rfl, fun k => rfl, fun g dst σ vs out h => ioOf_par ih n tab g dst σ vs out h⟩ rfl rfl rfl
    intro E1 E2 RE h1 h2 hh dep g args e1 e2 he r obs e1' h
    simp only [evalMm, memoCall] at h
    split at h
    · rename_i r' hr
      cases h
      obtain ⟨m, hm'⟩ := hm g args r hr
      obtain ⟨_, rfl, a, ha⟩ := evalFn_par m Unit E2 (fun _ e => e2 = e) noHandler (fun k => h2 (k - 1)) (fun _ _ _ _ _ _ _ h => by cases h) 0 g args () e2 rfl r [] () hm'
      exact ⟨e2, he, a, fun k hk => ha (k + 1) (by omega)⟩
    · exact hk E1 E2 RE h1 h2 hh _ g args e1 e2 he r obs e1' h
theorem ev_memo {n : Nat} {g : FuncId} {args : List PV} {r : PV} (h : evalFm memo sp tab n Unit noHandler 0 g args () = some (r, [], ())) : ∃ m, evalFn sp tab m Unit noHandler 0 g args () = some (r, [], ()) := by
  obtain ⟨m, hm'⟩ := unit_call (evalMm_le hm n) g args h
  exact ⟨m, hm' m (Nat.le_refl _)⟩
end memo
mutual
def sameV : PV → PV → Bool
  | .bool a, .bool b => a == b
  | .int k n, .int k' n' => decide (k = k') && decide (n = n')
  | .str s, .str s' => decide (s = s')
  | .nilS, .nilS => true
  | .nilI, .nilI => true
  | .agg cs, .agg cs' => sameL cs cs'
  | .sl k xs f, .sl k' xs' f' => decide (k = k') && (f == f') && sameL xs xs'
  | _, _ => false
def sameL : List PV → List PV → Bool
  | [], [] => true
  | x :: xs, y :: ys => sameV x y && sameL xs ys
  | _, _ => false
end
mutual
theorem sameV_eq : ∀ (x y : PV), sameV x y = true → x = y
  | x, y, h => by
    unfold sameV at h
    split at h
    · simpa using h
    · simp only [Bool.and_eq_true, decide_eq_true_eq] at h; rw [h.1, h.2]
    · simp only [decide_eq_true_eq] at h; rw [h]
    · rfl
    · rfl
    · rename_i cs cs'; rw [sameL_eq cs cs' h]
    · rename_i k xs f k' xs' f'
      simp only [Bool.and_eq_true, decide_eq_true_eq, beq_iff_eq] at h
      rw [h.1.1, h.1.2, sameL_eq xs xs' h.2]
    · cases h
theorem sameL_eq : ∀ (xs ys : List PV), sameL xs ys = true → xs = ys
  | xs, ys, h => by
    unfold sameL at h
    split at h
    · rfl
    · rename_i x xs y ys
      simp only [Bool.and_eq_true] at h
      rw [sameV_eq x y h.1, sameL_eq xs ys h.2]
    · cases h
end
abbrev Known := List (FuncId × List PV × PV)
def memoOf : Known → FuncId → List PV → Option PV
  | [], _, _ => none
  | p :: l, g, args => if p.1 = g ∧ sameL p.2.1 args = true then some p.2.2 else memoOf l g args
def Rights (sp : FuncId → (Nm → Option Ob) → List PV → Option Out) (tab : FuncId → Option RFn) (l : Known) : Prop :=
  ∀ p ∈ l, ∃ n, evalFn sp tab n Unit noHandler 0 p.1 p.2.1 () = some (p.2.2, [], ())
theorem rights_nil {sp : FuncId → (Nm → Option Ob) → List PV → Option Out} {tab : FuncId → Option RFn} : Rights sp tab [] := fun _ h => by cases h
theorem rights_cons {sp : FuncId → (Nm → Option Ob) → List PV → Option Out} {tab : FuncId → Option RFn} {g : FuncId} {args : List PV} {r : PV} {l : Known}
    (h : ∃ n, evalFn sp tab n Unit noHandler 0 g args () = some (r, [], ())) (hl : Rights sp tab l) : Rights sp tab ((g, args, r) :: l) := fun p hp => by
  rcases List.mem_cons.1 hp with rfl | hp
  · exact h
  · exact hl p hp
theorem memo_right {sp : FuncId → (Nm → Option Ob) → List PV → Option Out} {tab : FuncId → Option RFn} : ∀ {l : Known}, Rights sp tab l → ∀ g args r, memoOf l g args = some r → ∃ n, evalFn sp tab n Unit noHandler 0 g args () = some (r, [], ())
  | [], _, _, _, _, h => by cases h
  | p :: l, hl, g, args, r, h => by
    unfold memoOf at h
    split at h
    · rename_i hp
      cases h
      have := hl p List.mem_cons_self
      rwa [hp.1, sameL_eq _ _ hp.2] at this
    · exact memo_right (fun q hq => hl q (List.mem_cons_of_mem _ hq)) g args r h
theorem ev_known {sp : FuncId → (Nm → Option Ob) → List PV → Option Out} {tab : FuncId → Option RFn} {l : Known} (hl : Rights sp tab l) {n : Nat} {g : FuncId} {args : List PV} {r : PV}
    (h : evalFm (memoOf l) sp tab n Unit noHandler 0 g args () = some (r, [], ())) : ∃ m, evalFn sp tab m Unit noHandler 0 g args () = some (r, [], ()) := ev_memo (memo_right hl) h
end Go.Ab

