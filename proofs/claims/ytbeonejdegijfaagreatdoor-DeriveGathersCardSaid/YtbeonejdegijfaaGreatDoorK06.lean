/-
  Part 6 of a proof: a machine of our own for the given program, its laws, and what it says of the program. Nothing here is a claim by itself.
-/
import Derived.Test.YtbeonejdegijfaaGreatDoorK05
import Derived.Test.YtbeonejdegijfaaGreatDoorK03
import Derived.KernelRfl
set_option linter.all false

namespace Go.Ab.Derive
open Go Go.Ab
theorem w64 {n : Int} (h1 : -9223372036854775808 ≤ n) (h2 : n ≤ 9223372036854775807) : IntKind.i64.wrap n = n := IntWalk.i64_in _ ⟨h1, h2⟩
def I (n : Int) : PV := .int .i64 n
def ints (l : List Int) : List PV := l.map I
theorem ints_len (l : List Int) : (ints l).length = l.length := by simp [ints]
theorem ints_get {l : List Int} {i : Nat} (h : i < l.length) : (ints l)[i]? = some (I l[i]) := by simp [ints, h]
theorem ints_take (l : List Int) (k : Nat) : (ints l).take k = ints (l.take k) := by simp [ints, List.map_take]
theorem ints_app (l m : List Int) : ints l ++ ints m = ints (l ++ m) := by simp [ints]
theorem okVL_ints (l : List Int) : okVL (ints l) = true := by
  induction l with
  | nil => rfl
  | cons a l ih => simpa [ints, okVL, okV, I] using ih
inductive IsL : PV → List Int → Prop
  | nil : IsL .nilS []
  | sl (l : List Int) (f : Bool) : IsL (.sl 1 (ints l) f) l
theorem IsL.ok {v : PV} {l : List Int} (h : IsL v l) : okV v = true := by
  cases h with
  | nil => rfl
  | sl f => simp [okV, okVL_ints]
theorem IsL.cells {v : PV} {l : List Int} (h : IsL v l) : v.cells = [v] := by cases h <;> rfl
theorem IsL.val {v : PV} {l : List Int} (h : IsL v l) : v.isVal = true := by cases h <;> rfl
theorem IsL.cell {v : PV} {l : List Int} (h : IsL v l) : v.isCell = true := by cases h <;> rfl
theorem IsL.und {v : PV} {l : List Int} (h : IsL v l) : isUndef v = false := by cases h <;> rfl
theorem IsL.len {v : PV} {l : List Int} (h : IsL v l) : pureO (.len .slice (.c v)) = some (I l.length) := by
  cases h with
  | nil => rfl
  | sl f => rw [pure_lenl, ints_len]; rfl
theorem IsL.idx {v : PV} {l : List Int} (h : IsL v l) {i : Nat} (hi : i < l.length) : pureO (.idxAddr 1 (.c v) (.c (I i))) = some (.ptr [I l[i]] 0) := by
  cases h with
  | nil => simp at hi
  | sl f => exact pure_lidx (by omega) (ints_get hi)
theorem IsL.elems {v : PV} {l : List Int} (h : IsL v l) : elemsO 1 v = some (ints l) := by
  cases h with
  | nil => rfl
  | sl f => simp [elemsO, Go.Ab.elems, chk]
theorem IsL.hi {v : PV} {l : List Int} (h : IsL v l) {k : Nat} (hk : k ≤ l.length) : ∃ u, pureO (.slice 1 (.c v) none (some (.c (I k))) none) = some u ∧ IsL u (l.take k) := by
  cases h with
  | nil =>
    have : k = 0 := by simpa using hk
    subst this
    exact ⟨.nilS, by simp [pureO, exec, RX.ev, evO, bound, natOf, chk, I, sliceOf], .nil⟩
  | sl _ f =>
    have hk' : k ≤ (ints l).length := by rw [ints_len]; exact hk
    refine ⟨.sl 1 (ints (l.take k)) (f && k == (ints l).length), ?_, .sl _ _⟩
    simp [pureO, exec, RX.ev, evO, bound, natOf, chk, I, hk', ints_take, sliceOf]
@[simp] theorem load_I (n : Int) : pureO (.load 1 false (.c (.ptr [I n] 0))) = some (I n) := rfl
@[simp] theorem I_lss {c : TC} {b : Bool} (a n : Int) : pureO (.bin .lss c b (.c (I a)) (.c (I n))) = some (.bool (decide (a < n))) := pure_lss a n
@[simp] theorem I_eql {c : TC} {b : Bool} (a n : Int) : pureO (.bin .eql c b (.c (I a)) (.c (I n))) = some (.bool (a == n)) := pure_eql a n
@[simp] theorem I_neq {c : TC} {b : Bool} (a n : Int) : pureO (.bin .neq c b (.c (I a)) (.c (I n))) = some (.bool (a != n)) := pure_neq a n
@[simp] theorem I_add {c : TC} {b : Bool} (a n : Int) : pureO (.bin .add c b (.c (I a)) (.c (I n))) = some (I (IntKind.i64.wrap (a + n))) := pure_add a n
@[simp] theorem I_sub {c : TC} {b : Bool} (a n : Int) : pureO (.bin .sub c b (.c (I a)) (.c (I n))) = some (I (IntKind.i64.wrap (a - n))) := pure_sub a n
@[simp] theorem I_geq {c : TC} {b : Bool} (a n : Int) : pureO (.bin .geq c b (.c (I a)) (.c (I n))) = some (.bool (decide (n ≤ a))) := pure_geq a n
@[simp] theorem I_leq {c : TC} {b : Bool} (a n : Int) : pureO (.bin .leq c b (.c (I a)) (.c (I n))) = some (.bool (decide (a ≤ n))) := pure_leq a n
@[simp] theorem I_gtr {c : TC} {b : Bool} (a n : Int) : pureO (.bin .gtr c b (.c (I a)) (.c (I n))) = some (.bool (decide (n < a))) := pure_gtr a n
theorem I_def (n : Int) : PV.int .i64 n = I n := rfl
@[simp] theorem okV_I (n : Int) : okV (I n) = true := rfl
@[simp] theorem cells_I (n : Int) : (I n).cells = [I n] := rfl
@[simp] theorem isUndef_I (n : Int) : isUndef (I n) = false := rfl
@[simp] theorem isVal_I (n : Int) : (I n).isVal = true := rfl
@[simp] theorem isCell_I (n : Int) : (I n).isCell = true := rfl
@[simp] theorem natP_I (n : Int) : natP (I n) = n.toNat := rfl
theorem wsucc {i : Nat} (h : i < 9223372036854775807) : IntKind.i64.wrap ((i : Int) + 1) = ((i + 1 : Nat) : Int) := by rw [w64 (by omega) (by omega)]; omega
structure Arr where
  li : Bool
  ru : Bool
  n : List Int
inductive IsA : PV → Arr → Prop
  | mk (li ru : Bool) (x : PV) (l : List Int) (h : IsL x l) : IsA (.agg [.bool li, .bool ru, x]) ⟨li, ru, l⟩
theorem IsA.ok {v : PV} {a : Arr} (h : IsA v a) : okV v = true := by
  obtain ⟨li, ru, x, l, h⟩ := h
  simp [okV, okVL, h.ok]
theorem IsA.get {v : PV} {a : Arr} (h : IsA v a) : ∃ x, v = .agg [.bool a.li, .bool a.ru, x] ∧ IsL x a.n := by
  obtain ⟨li, ru, x, l, h⟩ := h
  exact ⟨x, rfl, h⟩
def noArr : Arr := ⟨false, false, []⟩
theorem noArr_is : IsA (.agg [.bool false, .bool false, .nilS]) noArr := .mk _ _ _ _ .nil
@[simp] theorem valO_agg (cs : List PV) : valO (.agg cs) = (PV.agg cs).isVal := rfl
theorem val3 {a b c : PV} (ha : a.isCell = true) (hb : b.isCell = true) (hc : c.isCell = true) : (PV.agg [a, b, c]).isVal = true := by simp [PV.isVal, ha, hb, hc]
theorem sel3_0 (a b c : PV) : sel [a, b, c] 0 1 false = some a := rfl
theorem sel3_1 (a b c : PV) : sel [a, b, c] 1 1 false = some b := rfl
theorem sel3_2 (a b c : PV) : sel [a, b, c] 2 1 false = some c := rfl
theorem sel3_a (a b c : PV) : sel [a, b, c] 0 3 true = some (.agg [a, b, c]) := rfl
theorem build3 {z a b c : PV} (ha : a.cells = [a]) (hb : b.cells = [b]) (hc : c.cells = [c]) (va : a.isVal = true) (vb : b.isVal = true) (vc : c.isVal = true) (x y : PV) :
    pureO (.build [x, y, z] [(0, (1, .c a)), (1, (1, .c b)), (2, (1, .c c))]) = some (.agg [a, b, c]) := by
  simp [pureO, exec, fillPV, RX.ev, ha, hb, hc, va, vb, vc, splice, chk]
theorem okCells3 {a b c : PV} (h : (PV.agg [a, b, c]).isVal = true) : okCells (.agg [a, b, c]) 3 = true := by simp [okCells, h]
@[simp] theorem cellP3_0 (a b c : PV) : cellP (.agg [a, b, c]) 0 = a := rfl
@[simp] theorem cellP3_1 (a b c : PV) : cellP (.agg [a, b, c]) 1 = b := rfl
@[simp] theorem cellP3_2 (a b c : PV) : cellP (.agg [a, b, c]) 2 = c := rfl
theorem min_run {n : Nat} (k : Nat) (c : Int) (hc : c = k) : pureO (.minmax false [.c (I n), .c (.int .i64 c)]) = some (I (min n k : Nat)) := by
  subst hc
  simp only [pureO, exec, List.map_cons, List.map_nil, RX.ev, foldMM, I]
  by_cases h : n ≤ k
  · have : ¬ (k : Int) < (n : Int) := by omega
    simp [this, Nat.min_eq_left h, chk]
  · have : (k : Int) < (n : Int) := by omega
    simp [this, Nat.min_eq_right (by omega : k ≤ n), chk]
def Arr.few (a : Arr) : Arr := ⟨a.li, a.ru, a.n.take 202⟩
theorem few_run {v : PV} {a : Arr} (h : IsA v a) : ∃ u, callO B0 .cl (.fn 12 []) [v] = some u ∧ IsA u a.few := by
  obtain ⟨x, rfl, hx⟩ := h.get
  obtain ⟨y, hy, hl⟩ := hx.hi (k := min a.n.length 202) (by omega)
  have e : a.n.take (min a.n.length 202) = a.n.take 202 := by
    rcases Nat.le_total a.n.length 202 with h | h
    · rw [Nat.min_eq_left h, List.take_length, List.take_of_length_le h]
    · rw [Nat.min_eq_right h]
  rw [e] at hl
  refine ⟨.agg [.bool a.li, .bool a.ru, y], ?_, .mk _ _ _ _ hl⟩
  refine call (d := fun _ => .cl) rfl (by decide) (by simp [okVL, h.ok]) rfl ?_
  rw [List.map_cons, List.map_nil, run12, valO_agg, val3 rfl rfl hx.cell, chkO_true]
  simp only [selO_eq, cells_agg', sel3_0, sel3_1, sel3_2, bindO_val, hx.len]
  rw [min_run 202 202 rfl]
  simp only [bindO_val, hy]
  rw [build3 (a := .bool a.li) (b := .bool a.ru) (c := y) rfl rfl hl.cells rfl rfl hl.val]
  simp only [bindO_val, okCells3 (val3 (a := .bool a.li) (b := .bool a.ru) rfl rfl hl.cell), chkO_true, cellP3_0, cellP3_1, cellP3_2]
def rune (n : Int) : Bool := decide (0 ≤ n) && (decide (n ≤ 1114111) && (decide (n < 55296) || decide (57343 < n)))
theorem rune_run (n : Int) : callO B0 .cl (.fn 54 []) [I n] = some (.bool (rune n)) := by
  refine call (d := fun _ => .cl) rfl (by decide) rfl rfl ?_
  rw [List.map_cons, List.map_nil, run54]
  simp only [I_def, I_geq, I_leq, I_lss, I_gtr, bindO_val, iteP_bool]
  unfold rune
  by_cases h1 : 0 ≤ n <;> by_cases h2 : n ≤ 1114111 <;> by_cases h3 : n < 55296 <;> simp [h1, h2, h3]
theorem other_run (n : Int) : callO B0 .cl (.fn 53 []) [I n] = some (.bool (!rune n)) := by
  refine call (d := fun _ => .cl) rfl (by decide) rfl rfl ?_
  rw [List.map_cons, List.map_nil, run53, rune_run]
  simp
def idxP (p : Int → Bool) (i : Nat) : List Int → Int
  | [] => -1
  | x :: l => if p x then (i : Int) else idxP p (i + 1) l
theorem idxP_any (p : Int → Bool) : ∀ (l : List Int) (i : Nat), decide (0 ≤ idxP p i l) = l.any p := by
  intro l
  induction l with
  | nil => intro i; rfl
  | cons x l ih =>
    intro i
    simp only [idxP, List.any_cons]
    by_cases hx : p x = true
    · simp [hx]
    · have := ih (i + 1)
      simp only [hx, Bool.false_eq_true, if_false, this]
      simp [hx]
theorem drop_cons {α : Type} {l : List α} {i : Nat} (h : i < l.length) : l.drop i = l[i] :: l.drop (i + 1) := by rw [List.drop_eq_getElem_cons h]
theorem index_run {v f : PV} {l : List Int} {p : Int → Bool} (hv : IsL v l) (hl : l.length ≤ 1000000) (hf : okV f = true) (hu : isUndef f = false) (hp : ∀ n ∈ l, callO B0 .cl f [I n] = some (.bool (p n))) :
    callO B0 .cl (.fn 91 []) [v, f] = some (I (idxP p 0 l)) := by
  refine call (d := fun _ => .cl) rfl (by decide) (by simp [okVL, hv.ok, hf]) rfl ?_
  rw [List.map_cons, List.map_cons, List.map_nil, run91, hv.len]
  simp only [bindO_val]
  have h0 : noUndef [v, f, I l.length, .int .i64 0] = true := by simp [noUndef, hv.und, hu, I_def]
  rw [h0, chkO_true]
  have key : ∀ m i, i + m = l.length → loopL (fun z2 => bindO (pureO (.bin .lss .num false (.c (nth z2.1 3)) (.c (nth z2.1 2)))) (fun z3 => iteP z3 (bindO (pureO (.idxAddr 1 (.c (nth z2.1 0)) (.c (nth z2.1 3)))) (fun z4 => bindO (pureO (.load 1 false (.c z4))) (fun z5 => bindO (callO B0 .cl (nth z2.1 1) [z5]) (fun z6 => iteP z6 (bindO (some (nth z2.1 3, z2.2)) (fun z7 => some (.inr z7))) (bindO (pureO (.bin .add .num true (.c (nth z2.1 3)) (.c (.int .i64 1)))) (fun z8 => some (.inl ([nth z2.1 0, nth z2.1 1, nth z2.1 2, z8], z2.2)))))))) (bindO (some (.int .i64 (-1), z2.2)) (fun z9 => some (.inr z9))))) (([v, f, I l.length, I i], ()) : List PV × Unit) = some (I (idxP p i (l.drop i)), ()) := by
    intro m
    induction m with
    | zero =>
      intro i hi
      refine loopL_inr ?_
      have : i = l.length := by omega
      subst this
      simp [idxP]; rfl
    | succ m ih =>
      intro i hi
      have hlt : i < l.length := by omega
      rw [drop_cons hlt]
      by_cases hpx : p l[i] = true
      · refine loopL_inr ?_
        simp only [nth_0, nth_1, nth_2, nth_3, I_lss, bindO_val, iteP_bool]
        rw [if_pos (by simpa using hlt), hv.idx hlt]
        simp [hp _ (List.getElem_mem hlt), hpx, idxP]
      · rw [loopL_inl (s' := ([v, f, I l.length, I ((i + 1 : Nat) : Int)], ()))]
        · rw [ih (i + 1) (by omega)]
          simp [idxP, hpx]
        · simp only [nth_0, nth_1, nth_2, nth_3, I_lss, bindO_val, iteP_bool]
          rw [if_pos (by simpa using hlt), hv.idx hlt]
          simp [hp _ (List.getElem_mem hlt), hpx, I_def, wsucc (by omega : i < 9223372036854775807)]
  have := key l.length 0 (by omega)
  simpa [I_def] using this
theorem any_run {v f : PV} {l : List Int} {p : Int → Bool} (hv : IsL v l) (hl : l.length ≤ 1000000) (hf : okV f = true) (hu : isUndef f = false) (hp : ∀ n ∈ l, callO B0 .cl f [I n] = some (.bool (p n))) :
    callO B0 .cl (.fn 55 []) [v, f] = some (.bool (l.any p)) := by
  refine call (d := fun _ => .cl) rfl (by decide) (by simp [okVL, hv.ok, hf]) rfl ?_
  rw [List.map_cons, List.map_cons, List.map_nil, run55, index_run hv hl hf hu hp]
  simp only [bindO_val, I_def, I_geq, idxP_any]
def Arr.right (a : Arr) : Bool := !(a.ru && a.n.any fun n => !rune n) && (if a.li then decide (a.n.length ≤ 200) else decide (a.n.length = 1))
theorem right_run {v : PV} {a : Arr} (h : IsA v a) (hl : a.n.length ≤ 1000000) : callO B0 .cl (.fn 27 []) [v] = some (.bool a.right) := by
  obtain ⟨x, rfl, hx⟩ := h.get
  refine call (d := fun _ => .cl) rfl (by decide) (by simp [okVL, h.ok]) rfl ?_
  rw [List.map_cons, List.map_nil, run27, valO_agg, val3 rfl rfl hx.cell, chkO_true]
  have ha := any_run (f := .fn 53 []) (p := fun n => !rune n) hx hl rfl rfl fun n _ => other_run n
  simp only [selO_eq, cells_agg', sel3_0, sel3_1, sel3_2, bindO_val, hx.len, ha, iteP_bool, I_def, I_leq, I_eql]
  unfold Arr.right
  have e1 : decide ((a.n.length : Int) ≤ 200) = decide (a.n.length ≤ 200) := by
    by_cases h : a.n.length ≤ 200
    · simp [h]; omega
    · have : ¬ (a.n.length : Int) ≤ 200 := by omega
      simp [h, this]
  have e2 : ((a.n.length : Int) == 1) = decide (a.n.length = 1) := by
    by_cases h : a.n.length = 1
    · simp [h]
    · have : ¬ (a.n.length : Int) = 1 := by omega
      simp [h, this]
  rw [e1, e2]
  cases a.ru <;> cases a.li <;> cases a.n.any (fun n => !rune n) <;> simp
def eqL : List Int → List Int → Bool
  | [], [] => true
  | x :: xs, y :: ys => x == y && eqL xs ys
  | _, _ => false
theorem eqL_iff : ∀ (a b : List Int), eqL a b = true ↔ a = b := by
  intro a
  induction a with
  | nil => intro b; cases b <;> simp [eqL]
  | cons x a ih => intro b; cases b <;> simp [eqL, ih]
theorem equal_run {v u : PV} {l m : List Int} (hv : IsL v l) (hu : IsL u m) (hl : l.length ≤ 1000000) (hm : m.length ≤ 1000000) : callO B0 .cl (.fn 52 []) [v, u] = some (.bool (eqL l m)) := by
  refine call (d := fun _ => .cl) rfl (by decide) (by simp [okVL, hv.ok, hu.ok]) rfl ?_
  rw [List.map_cons, List.map_cons, List.map_nil, run52, hv.len, hu.len]
  simp only [bindO_val, I_neq, iteP_bool]
  by_cases hlm : l.length = m.length
  · have h1 : (((l.length : Int) != (m.length : Int)) = true) ↔ False := by simp [hlm]
    simp only [h1, if_false]
    have h0 : noUndef [v, u, I l.length, .int .i64 0] = true := by simp [noUndef, hv.und, hu.und, I_def]
    rw [h0, chkO_true]
    have key : ∀ k i, i + k = l.length → loopL (fun z5 => bindO (pureO (.bin .lss .num false (.c (nth z5.1 3)) (.c (nth z5.1 2)))) (fun z6 => iteP z6 (bindO (pureO (.idxAddr 1 (.c (nth z5.1 0)) (.c (nth z5.1 3)))) (fun z7 => bindO (pureO (.load 1 false (.c z7))) (fun z8 => bindO (pureO (.idxAddr 1 (.c (nth z5.1 1)) (.c (nth z5.1 3)))) (fun z9 => bindO (pureO (.load 1 false (.c z9))) (fun z10 => bindO (pureO (.bin .neq .num false (.c z8) (.c z10))) (fun z11 => iteP z11 (bindO (some (PV.bool false, z5.2)) (fun z12 => some (.inr z12))) (bindO (pureO (.bin .add .num true (.c (nth z5.1 3)) (.c (.int .i64 1)))) (fun z13 => some (.inl ([nth z5.1 0, nth z5.1 1, nth z5.1 2, z13], z5.2)))))))))) (bindO (some (PV.bool true, z5.2)) (fun z14 => some (.inr z14))))) (([v, u, I l.length, I i], ()) : List PV × Unit) = some (.bool (eqL (l.drop i) (m.drop i)), ()) := by
      intro k
      induction k with
      | zero =>
        intro i hi
        refine loopL_inr ?_
        have h2 : l.drop i = [] := List.drop_eq_nil_of_le (by omega)
        have h3 : m.drop i = [] := List.drop_eq_nil_of_le (by omega)
        have : ¬ (i < l.length) := by omega
        simp [h2, h3, eqL, this]
      | succ k ih =>
        intro i hi
        have hlt : i < l.length := by omega
        have hlt' : i < m.length := by omega
        rw [drop_cons hlt, drop_cons hlt']
        by_cases hx : l[i] = m[i]
        · rw [loopL_inl (s' := ([v, u, I l.length, I ((i + 1 : Nat) : Int)], ()))]
          · rw [ih (i + 1) (by omega)]
            simp [eqL, hx]
          · simp only [nth_0, nth_1, nth_2, nth_3, I_lss, bindO_val, iteP_bool]
            rw [if_pos (by simpa using hlt), hv.idx hlt, hu.idx hlt']
            simp [hx, I_def, wsucc (by omega : i < 9223372036854775807)]
        · refine loopL_inr ?_
          simp only [nth_0, nth_1, nth_2, nth_3, I_lss, bindO_val, iteP_bool]
          rw [if_pos (by simpa using hlt), hv.idx hlt, hu.idx hlt']
          simp [hx, eqL]
    have := key l.length 0 (by omega)
    simpa [I_def] using this
  · have : ¬ (l.length : Int) = (m.length : Int) := by omega
    have h2 : eqL l m = false := by
      cases he : eqL l m with
      | false => rfl
      | true => exact absurd (congrArg List.length ((eqL_iff l m).1 he)) hlm
    simp [this, h2]
def Arr.same (a b : Arr) : Bool := a.li == b.li && (a.ru == b.ru && eqL a.n b.n)
theorem same_run {v u : PV} {a b : Arr} (hv : IsA v a) (hu : IsA u b) (ha : a.n.length ≤ 1000000) (hb : b.n.length ≤ 1000000) : callO B0 .cl (.fn 26 []) [v, u] = some (.bool (a.same b)) := by
  obtain ⟨x, rfl, hx⟩ := hv.get
  obtain ⟨y, rfl, hy⟩ := hu.get
  refine call (d := fun _ => .cl) rfl (by decide) (by simp [okVL, hv.ok, hu.ok]) rfl ?_
  rw [List.map_cons, List.map_cons, List.map_nil, run26, valO_agg, valO_agg, val3 rfl rfl hx.cell, val3 rfl rfl hy.cell, chkO_true, chkO_true]
  simp only [selO_eq, cells_agg', sel3_0, sel3_1, sel3_2, bindO_val, pure_eqb, iteP_bool, equal_run hx hy ha hb]
  unfold Arr.same
  cases (a.li == b.li) <;> cases (a.ru == b.ru) <;> simp
end Go.Ab.Derive


namespace Go.Ab
theorem loop_inv {σ ρ α : Type} {step : σ → Option (Sum σ ρ)} (st : Nat → α → σ) (n : Nat) (P : Nat → α → Prop) (Q : ρ → Prop)
    (hs : ∀ i a, i < n → P i a → (∃ a', step (st i a) = some (.inl (st (i + 1) a')) ∧ P (i + 1) a') ∨ ∃ r, step (st i a) = some (.inr r) ∧ Q r)
    (he : ∀ a, P n a → ∃ r, step (st n a) = some (.inr r) ∧ Q r) {a0 : α} (h0 : P 0 a0) : ∃ r, loopL step (st 0 a0) = some r ∧ Q r := by
  have key : ∀ m i a, i + m = n → P i a → ∃ r, loopL step (st i a) = some r ∧ Q r := by
    intro m
    induction m with
    | zero =>
      intro i a hi hp
      obtain rfl : i = n := by omega
      obtain ⟨r, h1, h2⟩ := he a hp
      exact ⟨r, loopL_inr h1, h2⟩
    | succ m ih =>
      intro i a hi hp
      rcases hs i a (by omega) hp with ⟨a', h1, h2⟩ | ⟨r, h1, h2⟩
      · rw [loopL_inl h1]; exact ih _ _ (by omega) h2
      · exact ⟨r, loopL_inr h1, h2⟩
  exact key n 0 a0 (by omega) h0
theorem yield_inv {E α : Type} {h : Handler E} {d : Nat} (st : Nat → α → E) (l : List (List PV)) (P : Nat → α → Prop) (Q : E → Prop)
    (hs : ∀ i a (hi : i < l.length), P i a → (∃ a', h d l[i] (st i a) = some (true, st (i + 1) a') ∧ P (i + 1) a') ∨ ∃ e', h d l[i] (st i a) = some (false, e') ∧ Q e')
    (he : ∀ a, P l.length a → Q (st l.length a)) {a0 : α} (h0 : P 0 a0) : ∃ e', yieldAll h d l (st 0 a0) = some e' ∧ Q e' := by
  have key : ∀ m i a, i + m = l.length → P i a → ∃ e', yieldAll h d (l.drop i) (st i a) = some e' ∧ Q e' := by
    intro m
    induction m with
    | zero =>
      intro i a hi hp
      obtain rfl : i = l.length := by omega
      rw [List.drop_eq_nil_of_le (Nat.le_refl _)]
      exact ⟨_, rfl, he a hp⟩
    | succ m ih =>
      intro i a hi hp
      have hlt : i < l.length := by omega
      rw [List.drop_eq_getElem_cons hlt]
      rcases hs i a hlt hp with ⟨a', h1, h2⟩ | ⟨e', h1, h2⟩
      · simp only [yieldAll, h1]; exact ih _ _ (by omega) h2
      · simp only [yieldAll, h1]; exact ⟨_, rfl, h2⟩
  exact key l.length 0 a0 (by omega) h0
theorem yield_run {E : Type} {h : Handler E} {d : Nat} (st : Nat → E) (l : List (List PV)) (hs : ∀ i (hi : i < l.length), h d l[i] (st i) = some (true, st (i + 1))) : yieldAll h d l (st 0) = some (st l.length) := by
  obtain ⟨e, h1, h2⟩ := yield_inv (α := Unit) (h := h) (d := d) (fun i _ => st i) l (fun _ _ => True) (fun e => e = st l.length) (fun i _ hi _ => .inl ⟨(), hs i hi, trivial⟩) (fun _ _ => rfl) (a0 := ()) trivial
  rw [h1, h2]
theorem range_then {E β : Type} {B : KB} {h : Handler E} {dep : Nat} {f : PV} {e : E} {K : E → Option β} {r : β} (e' : E) (h1 : rangeO B h dep f e = some e') (h2 : K e' = some r) : bindO (rangeO B h dep f e) K = some r := by
  rw [h1]; exact h2
theorem loop_yield {E ρ : Type} {step : List PV × E → Option (Sum (List PV × E) ρ)} {h : Handler E} {d : Nat} (st : Nat → List PV) (l : List (List PV)) (fin : E → ρ)
    (hs : ∀ i (hi : i < l.length) e e', h d l[i] e = some (true, e') → step (st i, e) = some (.inl (st (i + 1), e')))
    (hf : ∀ i (hi : i < l.length) e e', h d l[i] e = some (false, e') → step (st i, e) = some (.inr (fin e')))
    (he : ∀ e, step (st l.length, e) = some (.inr (fin e))) {e e' : E} (hy : yieldAll h d l e = some e') : loopL step (st 0, e) = some (fin e') := by
  have key : ∀ m i e, i + m = l.length → yieldAll h d (l.drop i) e = some e' → loopL step (st i, e) = some (fin e') := by
    intro m
    induction m with
    | zero =>
      intro i e hi hq
      obtain rfl : i = l.length := by omega
      rw [List.drop_eq_nil_of_le (Nat.le_refl _)] at hq
      rw [← Option.some.inj hq]
      exact loopL_inr (he e)
    | succ m ih =>
      intro i e hi hq
      have hlt : i < l.length := by omega
      rw [List.drop_eq_getElem_cons hlt] at hq
      simp only [yieldAll] at hq
      split at hq
      · rename_i e1 hh
        rw [loopL_inl (hs i hlt e e1 hh)]
        exact ih _ _ (by omega) hq
      · rename_i e1 hh
        rw [← Option.some.inj hq]
        exact loopL_inr (hf i hlt e e1 hh)
      · cases hq
  exact key l.length 0 e (by omega) hy
@[simp] theorem nth_9 (a0 a1 a2 a3 a4 a5 a6 a7 a8 x : PV) (l : List PV) : nth (a0 :: a1 :: a2 :: a3 :: a4 :: a5 :: a6 :: a7 :: a8 :: x :: l) 9 = x := rfl
@[simp] theorem nth_10 (a0 a1 a2 a3 a4 a5 a6 a7 a8 a9 x : PV) (l : List PV) : nth (a0 :: a1 :: a2 :: a3 :: a4 :: a5 :: a6 :: a7 :: a8 :: a9 :: x :: l) 10 = x := rfl
@[simp] theorem nth_11 (a0 a1 a2 a3 a4 a5 a6 a7 a8 a9 a10 x : PV) (l : List PV) : nth (a0 :: a1 :: a2 :: a3 :: a4 :: a5 :: a6 :: a7 :: a8 :: a9 :: a10 :: x :: l) 11 = x := rfl
@[simp] theorem nth_12 (a0 a1 a2 a3 a4 a5 a6 a7 a8 a9 a10 a11 x : PV) (l : List PV) : nth (a0 :: a1 :: a2 :: a3 :: a4 :: a5 :: a6 :: a7 :: a8 :: a9 :: a10 :: a11 :: x :: l) 12 = x := rfl
@[simp] theorem nth_13 (a0 a1 a2 a3 a4 a5 a6 a7 a8 a9 a10 a11 a12 x : PV) (l : List PV) : nth (a0 :: a1 :: a2 :: a3 :: a4 :: a5 :: a6 :: a7 :: a8 :: a9 :: a10 :: a11 :: a12 :: x :: l) 13 = x := rfl
end Go.Ab


namespace Go.Ab.Derive
open Go Go.Ab
inductive AllA : List PV → List Arr → Prop
  | nil : AllA [] []
  | cons {v : PV} {a : Arr} {vs : List PV} {l : List Arr} : IsA v a → AllA vs l → AllA (v :: vs) (a :: l)
theorem AllA.ok {vs : List PV} {l : List Arr} (h : AllA vs l) : okVL vs = true := by
  induction h with
  | nil => rfl
  | cons h _ ih => simp [okVL, h.ok, ih]
theorem AllA.len {vs : List PV} {l : List Arr} (h : AllA vs l) : vs.length = l.length := by
  induction h with
  | nil => rfl
  | cons h _ ih => simp [ih]
theorem AllA.get {vs : List PV} {l : List Arr} (h : AllA vs l) : ∀ i (hi : i < l.length), ∃ v, vs[i]? = some v ∧ IsA v l[i] := by
  induction h with
  | nil => intro i hi; simp at hi
  | cons h _ ih =>
    intro i hi
    cases i with
    | zero => exact ⟨_, rfl, h⟩
    | succ i => exact ih i (by simpa using hi)
theorem lidx3 {xs : List PV} {j : Nat} {f : Bool} {a b c : PV} (h : xs[j]? = some (.agg [a, b, c])) : pureO (.idxAddr 3 (.c (.sl 3 xs f)) (.c (I j))) = some (.ptr [a, b, c] 0) := by
  rw [I, pure_lidx (by omega) h]; rfl
theorem fa3_0 (a b c : PV) : pureO (.fieldAddr 0 (.c (.ptr [a, b, c] 0))) = some (.ptr [a, b, c] 0) := rfl
theorem fa3_1 (a b c : PV) : pureO (.fieldAddr 1 (.c (.ptr [a, b, c] 0))) = some (.ptr [a, b, c] 1) := rfl
theorem fa3_2 (a b c : PV) : pureO (.fieldAddr 2 (.c (.ptr [a, b, c] 0))) = some (.ptr [a, b, c] 2) := rfl
theorem ld3_0 (a b c : PV) : pureO (.load 1 false (.c (.ptr [a, b, c] 0))) = some a := rfl
theorem ld3_1 (a b c : PV) : pureO (.load 1 false (.c (.ptr [a, b, c] 1))) = some b := rfl
theorem ld3_2 (a b c : PV) : pureO (.load 1 false (.c (.ptr [a, b, c] 2))) = some c := rfl
theorem okC_b (b : Bool) : okCells (.bool b) 1 = true := rfl
theorem cellP_b (b : Bool) : cellP (.bool b) 0 = .bool b := rfl
theorem bV {α β : Type} (a : α) (f : α → Option β) : bindO (some a) f = f a := Eq.trans rfl rfl
theorem cT {β : Type} (a : Option β) : chkO true a = a := Eq.trans rfl rfl
theorem iD (n : Int) : PV.int .i64 n = I n := Eq.trans rfl rfl
theorem okCells_v {a : Arr} {x : PV} (h : IsL x a.n) : okCells (.agg [.bool a.li, .bool a.ru, x]) 3 = true := okCells3 (val3 rfl rfl h.cell)
theorem valO_v {a : Arr} {x : PV} (h : IsL x a.n) : valO (.agg [.bool a.li, .bool a.ru, x]) = true := val3 rfl rfl h.cell
inductive IsB : PV → List Arr → Prop
  | nil : IsB .nilS []
  | sl {vs : List PV} {l : List Arr} (f : Bool) (h : AllA vs l) : IsB (.sl 3 vs f) l
theorem IsB.ok {v : PV} {l : List Arr} (h : IsB v l) : okV v = true := by
  cases h with
  | nil => rfl
  | sl f h => simp [okV, h.ok]
theorem IsB.und {v : PV} {l : List Arr} (h : IsB v l) : isUndef v = false := by cases h <;> rfl
theorem IsB.len {v : PV} {l : List Arr} (h : IsB v l) : pureO (.len .slice (.c v)) = some (I l.length) := by
  cases h with
  | nil => rfl
  | sl f h => rw [pure_lenl, h.len]; rfl
theorem IsB.idx {v : PV} {l : List Arr} (h : IsB v l) {i : Nat} (hi : i < l.length) : ∃ x, pureO (.idxAddr 3 (.c v) (.c (I i))) = some (.ptr [.bool l[i].li, .bool l[i].ru, x] 0) ∧ IsL x l[i].n := by
  cases h with
  | nil => simp at hi
  | sl f h =>
    obtain ⟨u, h1, h2⟩ := h.get i hi
    obtain ⟨x, rfl, hx⟩ := h2.get
    exact ⟨x, lidx3 h1, hx⟩
theorem AllA.snoc {vs : List PV} {l : List Arr} (h : AllA vs l) {v : PV} {a : Arr} (ha : IsA v a) : AllA (vs ++ [v]) (l ++ [a]) := by
  induction h with
  | nil => exact .cons ha .nil
  | cons h1 _ ih => exact .cons h1 ih
def itmA (ru : Bool) (n : Int) : Arr := ⟨false, ru, [n]⟩
def itmV (ru : Bool) (n : Int) : PV := .agg [.bool false, .bool ru, .sl 1 [I n] false]
theorem itm_is (ru : Bool) (n : Int) : IsA (itmV ru n) (itmA ru n) := .mk _ _ _ _ (.sl [n] false)
theorem okSls_I (n : Int) : okSls 1 [I n] = true := rfl
theorem slO_I (n : Int) : slO 1 1 [I n] 0 (lenL [I n]) = .sl 1 [I n] false := rfl
theorem okSls_itm (ru : Bool) (n : Int) : okSls 3 [.agg [.bool false, .bool ru, .sl 1 [I n] false]] = true := rfl
theorem itms_is (ru : Bool) : ∀ l : List Int, AllA (l.map (itmV ru)) (l.map (itmA ru))
  | [] => .nil
  | n :: l => .cons (itm_is ru n) (itms_is ru l)
end Go.Ab.Derive


namespace Go.Ab.Derive
open Go Go.Ab
theorem one_run {v : PV} {a : Arr} (h : IsA v a) (n : Int) : callO B0 .cl (.fn 94 []) [v, I n] = some (itmV a.ru n) := by
  obtain ⟨x, rfl, hx⟩ := h.get
  refine call (d := fun _ => .cl) rfl (by decide) (by simp [okVL, h.ok]) rfl ?_
  rw [List.map_cons, List.map_cons, List.map_nil, run94, valO_v hx, cT]
  rfl
theorem agg33 {a : Arr} {x : PV} (h : IsL x a.n) : pureO (.build [.bool false, .bool false, .nilS] [(0, (3, .c (.agg [.bool a.li, .bool a.ru, x])))]) = some (.agg [.bool a.li, .bool a.ru, x]) := by
  have := val3 (a := .bool a.li) (b := .bool a.ru) rfl rfl h.cell
  simp [pureO, exec, fillPV, RX.ev, this, splice, chk, PV.cells]
theorem items_fn {a : Arr} {x : PV} (h : IsL x a.n) : callO B0 .cl (.fn 57 []) [.agg [.bool a.li, .bool a.ru, x]] = some (.fn 93 [.ptr [.bool a.li, .bool a.ru, x] 0]) := by
  refine call (d := fun _ => .cl) rfl (by decide) (by simp [okVL, okV, h.ok]) rfl ?_
  rw [List.map_cons, List.map_nil, run57, valO_v h, cT]
  have : okU (.fn 93 [.ptr [.bool a.li, .bool a.ru, x] 0]) = true := by simp [okU, okV, okVL, h.ok]
  show chkO (okU (.fn 93 [.ptr [.bool a.li, .bool a.ru, x] 0])) _ = _
  rw [this]; rfl
theorem items_range {E : Type} (h : Handler E) (dep : Nat) {a : Arr} {x : PV} (hx : IsL x a.n) (hl : a.n.length ≤ 1000000) {e e' : E} (hy : yieldAll h dep (a.n.map fun n => [itmV a.ru n]) e = some e') :
    rangeO B0 h dep (.fn 93 [.ptr [.bool a.li, .bool a.ru, x] 0]) e = some e' := by
  refine range_of_run (cfg_ok fun _ => .cl) (g := 93) (fn := fn93) rfl (by simp [okVL, okV, hx.ok]) (Nat.le_of_ble_eq_true rfl) (u := .tup []) ?_
  simp only [List.map_cons, List.map_nil]
  rw [run93, fa3_0, bV, fa3_2, bV, ld3_2, bV, hx.len, bV, show noUndef [nI dep, .ptr [.bool a.li, .bool a.ru, x] 0, x, I a.n.length, .int .i64 0] = true by simp only [noUndef, List.all_cons, hx.und]; rfl, cT]
  have hA : IsA (.agg [.bool a.li, .bool a.ru, x]) a := .mk _ _ _ _ hx
  have l3 : pureO (.load 3 true (.c (.ptr [.bool a.li, .bool a.ru, x] 0))) = some (.agg [.bool a.li, .bool a.ru, x]) := rfl
  refine (loop_yield (h := h) (d := dep) (fun i => [nI dep, .ptr [.bool a.li, .bool a.ru, x] 0, x, I a.n.length, I i]) (a.n.map fun n => [itmV a.ru n]) (fun e => (PV.tup [], e)) ?_ ?_ ?_ hy)
  · intro i hi e e' hq
    rw [List.length_map] at hi
    rw [List.getElem_map] at hq
    simp only [nth_0, nth_1, nth_2, nth_3, nth_4, I_lss, bV, iteP_bool]
    rw [if_pos (by simpa using hi), hx.idx hi]
    simp only [bV, load_I, l3, one_run hA, nI_eq, natP_int, natP_I, Int.toNat_natCast, hq, pure_not, Bool.not_true, iteP_bool, Bool.false_eq_true, if_false, iD, I_add, wsucc (by omega : i < 9223372036854775807)]
  · intro i hi e e' hq
    rw [List.length_map] at hi
    rw [List.getElem_map] at hq
    simp only [nth_0, nth_1, nth_2, nth_3, nth_4, I_lss, bV, iteP_bool]
    rw [if_pos (by simpa using hi), hx.idx hi]
    simp only [bV, load_I, l3, one_run hA, nI_eq, natP_int, natP_I, Int.toNat_natCast, hq, pure_not, Bool.not_false, iteP_bool, if_true]
  · intro e
    rw [List.length_map]
    simp only [nth_0, nth_1, nth_2, nth_3, nth_4, I_lss, bV, iteP_bool, Int.lt_irrefl, decide_false, Bool.false_eq_true, if_false]
theorem slO_3 (vs : List PV) : slO 3 3 vs 0 vs.length = .sl 3 vs false := by
  unfold slO
  rw [if_pos ⟨rfl, by omega⟩, List.drop_zero, List.take_of_length_le (Nat.le_refl _)]
theorem slO_1 (l : List Int) : slO 1 1 (ints l) 0 l.length = .sl 1 (ints l) false := by
  unfold slO
  rw [if_pos ⟨rfl, by rw [ints_len]; omega⟩, List.drop_zero, List.take_of_length_le (by rw [ints_len]; exact Nat.le_refl _)]
theorem collect_run {f : PV} {l : List Arr} {vs : List PV} (hf : okV f = true) (hv : AllA vs l) (hl : l.length ≤ 1000000)
    (hr : ∀ {E : Type} (h : Handler E) {e e' : E}, yieldAll h 0 (vs.map fun v => [v]) e = some e' → rangeO B0 h 0 f e = some e') :
    callO B0 .cl (.fn 56 []) [f] = some (.sl 3 vs false) := by
  refine call (d := fun _ => .cl) rfl (by decide) (by simp [okVL, hf]) rfl ?_
  rw [List.map_cons, List.map_nil, run56]
  have h1 : callO B0 .cl (.fn 92 []) [.nilS, f] = some (.sl 3 vs false) := by
    refine callK (d := fun _ => .cl) (xs := [.nils, .cv f]) rfl (by decide) ⟨trivial, hf, trivial⟩ (by intro x hx; simp at hx; rcases hx with rfl | rfl <;> rfl) rfl rfl ?_
    rw [run92]
    have hlen := hv.len
    refine range_then (([.nilS, f, nI vs.length, .sl 3 vs false], (none, ())) : KRec Unit) (hr _ ?_) ?_
    · refine (yield_run (fun i => (([.nilS, f, nI i, .sl 3 (vs.take i) false], (none, ())) : KRec Unit)) _ fun i hi => ?_).trans ?_
      · rw [List.length_map] at hi
        rw [List.getElem_map]
        obtain ⟨v, h3, h4⟩ := hv.get i (by omega)
        rw [List.getElem?_eq_getElem hi] at h3
        obtain ⟨x, hx, hx2⟩ := h4.get
        have hvi : vs[i] = .agg [.bool l[i].li, .bool l[i].ru, x] := (Option.some.inj h3).trans hx
        simp only [onRound, if_true, nth_0, nth_1, nth_2, nth_3, hvi]
        rw [show okArgs [PV.agg [.bool l[i].li, .bool l[i].ru, x]] 1 = true by simp [okArgs, okVL, okV, hx2.ok], cT, okCells_v hx2, cT]
        simp only [cellP3_0, cellP3_1, cellP3_2]
        rw [show okSls 3 [PV.agg [.bool l[i].li, .bool l[i].ru, x]] = true by simp [okSls, PV.isVal, PV.isCell, hx2.cell, PV.cells], cT]
        simp only [addN_eq, lenL_eq, leN_eq, nI_eq, natP_int, Int.toNat_natCast, itemsP_sl, takeL_eq, dropL_eq, catL_eq, andB_eq, List.length_singleton, List.drop_zero, List.take_succ_cons, List.take_zero, List.length_take, Nat.min_eq_left (Nat.le_of_lt hi)]
        rw [show decide (0 + 1 ≤ 1) = true from rfl, cT, show (decide (i ≤ i) && decide (i + 1 ≤ 2147483648)) = true by simp; omega, cT, List.take_take, Nat.min_self, ← hvi, List.take_append_getElem hi]
      · rw [List.length_map, List.take_of_length_le (Nat.le_refl _)]
    · simp only [nth_2, nth_3, itemsP_sl, nI_eq, natP_int, Int.toNat_natCast, slO_3]
      rw [show okU (.sl 3 vs false) = true by simp [okU, okV, hv.ok]]
      rfl
  rw [h1]; rfl
theorem items_run {v : PV} {a : Arr} (h : IsA v a) (hl : a.n.length ≤ 1000000) : ∃ w, callO B0 .cl (.fn 29 []) [v] = some (.tup [w, I (if a.right then 0 else 114)]) ∧ IsB w (if a.right then a.n.map (itmA a.ru) else []) := by
  have hr := right_run h hl
  obtain ⟨x, rfl, hx⟩ := h.get
  have hok : okVL [PV.agg [.bool a.li, .bool a.ru, x]] = true := by simp [okVL, h.ok]
  cases ha : a.right with
  | false =>
    refine ⟨.nilS, call (d := fun _ => .cl) rfl (by decide) hok rfl ?_, .nil⟩
    rw [List.map_cons, List.map_nil, run29, valO_v hx, cT]
    simp only [selO_eq, cells_agg', sel3_a, bV, hr, ha, pure_not, Bool.not_false, iteP_bool, if_true]
    rfl
  | true =>
    refine ⟨.sl 3 (a.n.map (itmV a.ru)) false, call (d := fun _ => .cl) rfl (by decide) hok rfl ?_, .sl _ (itms_is _ _)⟩
    rw [List.map_cons, List.map_nil, run29, valO_v hx, cT]
    simp only [selO_eq, cells_agg', sel3_a, bV, hr, ha, pure_not, Bool.not_true, iteP_bool, Bool.false_eq_true, if_false, agg33 hx, items_fn hx]
    rw [collect_run (f := .fn 93 [.ptr [.bool a.li, .bool a.ru, x] 0]) (l := a.n.map (itmA a.ru)) (vs := a.n.map (itmV a.ru)) (by simp [okV, okVL, hx.ok]) (itms_is _ _) (by simpa using hl) fun h e e' hq => items_range h 0 hx hl (by rw [List.map_map] at hq; exact hq)]
    rfl
def errD (c : Int) : PV := if c = 0 then .nilI else .iface 124 (.agg [I c])
theorem errD_ok (c : Int) : okV (errD c) = true := by unfold errD; split <;> rfl
theorem dtold_run (c : Int) : callO B0 .cl (.fn 59 []) [errD c] = some (I c) := by
  refine call (d := fun _ => .cl) rfl (by decide) (by simp [okVL, errD_ok]) rfl ?_
  rw [List.map_cons, List.map_nil, run59]
  unfold errD
  by_cases h : c = 0
  · subst h; rfl
  · simp only [h, if_false]; rfl
def hdA (l : List Arr) : Arr := l.headD noArr
def gatE (li : Bool) (l : List Arr) : Int :=
  if l.all Arr.right = false then 114 else if l.any Arr.li then 111 else if l.any (fun a => a.ru != (hdA l).ru) then 102
  else if li = false ∧ l.length ≠ 1 then 111 else if 200 < l.length then 113 else 0
def catA (l : List Arr) : List Int := l.flatMap Arr.n
def gatA (li ru : Bool) (l : List Arr) : Arr := if gatE li l = 0 then ⟨li, if l.length = 0 then ru else (hdA l).ru, catA l⟩ else noArr
theorem right_le {a : Arr} (h : a.right = true) : a.n.length ≤ 200 := by
  unfold Arr.right at h
  simp only [Bool.and_eq_true] at h
  cases hl : a.li with
  | true => simpa [hl] using h.2
  | false => simp [hl] at h; omega
theorem catA_len {l : List Arr} (h : ∀ a ∈ l, a.right = true) : (catA l).length ≤ 200 * l.length := by
  induction l with
  | nil => simp [catA]
  | cons a l ih =>
    have h1 := right_le (h a List.mem_cons_self)
    have h2 := ih fun b hb => h b (List.mem_cons_of_mem _ hb)
    simp only [catA, List.flatMap_cons, List.length_append, List.length_cons] at h2 ⊢
    omega
theorem take_snoc {α : Type} {l : List α} {i : Nat} (h : i < l.length) : l.take (i + 1) = l.take i ++ [l[i]] := (List.take_append_getElem h).symm
theorem catA_snoc {l : List Arr} {i : Nat} (h : i < l.length) : catA (l.take (i + 1)) = catA (l.take i) ++ l[i].n := by unfold catA; rw [take_snoc h, List.flatMap_append]; simp only [List.flatMap_cons, List.flatMap_nil, List.append_nil]
theorem any_snoc {p : Arr → Bool} {l : List Arr} {i : Nat} (h : i < l.length) : (l.take (i + 1)).any p = ((l.take i).any p || p l[i]) := by rw [take_snoc h, List.any_append]; simp only [List.any_cons, List.any_nil, Bool.or_false]
theorem hd_get {l : List Arr} (h : 0 < l.length) : hdA l = l[0] := by
  cases l with
  | nil => simp at h
  | cons a l => rfl
theorem not_all {l : List Arr} {i : Nat} (h : i < l.length) (hr : l[i].right = false) : l.all Arr.right = false := by
  cases hq : l.all Arr.right with
  | false => rfl
  | true => rw [List.all_eq_true.1 hq _ (List.getElem_mem h)] at hr; cases hr
theorem gat_not {li ru : Bool} {l : List Arr} (h : l.all Arr.right = false) : gatE li l = 114 ∧ gatA li ru l = noArr := by
  have e : gatE li l = 114 := by unfold gatE; rw [if_pos h]
  exact ⟨e, by unfold gatA; rw [e]; rfl⟩
theorem gat_bad {li ru : Bool} {l : List Arr} (h : gatE li l ≠ 0) : gatA li ru l = noArr := by unfold gatA; rw [if_neg h]
theorem build_lr (b c : Bool) : pureO (.build [.bool false, .bool false, .nilS] [(0, (1, .c (.bool b))), (1, (1, .c (.bool c)))]) = some (.agg [.bool b, .bool c, .nilS]) := rfl
theorem okC_lr (b c : Bool) : okCells (.agg [.bool b, .bool c, .nilS]) 3 = true := rfl
theorem build0 : pureO (.build [.bool false, .bool false, .nilS] []) = some (.agg [.bool false, .bool false, .nilS]) := rfl
theorem build1 (c : Int) : pureO (.build [.int .i64 0] [(0, (1, .c (.int .i64 c)))]) = some (.agg [I c]) := rfl
theorem gather_run {v u : PV} {is : Arr} {l : List Arr} (hv : IsA v is) (hu : IsB u l) (hl : l.length ≤ 1000000) (hs : ∀ a ∈ l, a.n.length ≤ 1000000) :
    ∃ w, callO B0 .cl (.fn 58 []) [v, u] = some (.tup [w, errD (gatE is.li l)]) ∧ IsA w (gatA is.li is.ru l) := by
  obtain ⟨x, rfl, hx⟩ := hv.get
  suffices key : ∃ r, runK (cfg0 B0 (fun _ => .cl)) fn58 (.cl) noHandler 0 [.cv (.agg [.bool is.li, .bool is.ru, x]), .cv u] () = some r ∧ ∃ w, r = (.tup [w, errD (gatE is.li l)], ()) ∧ IsA w (gatA is.li is.ru l) by
    obtain ⟨r, h1, w, rfl, h2⟩ := key
    exact ⟨w, call (d := fun _ => .cl) rfl (by decide) (by simp [okVL, okV, hv.ok, hu.ok, hx.ok]) rfl h1, h2⟩
  rw [run58, valO_v hx, cT]
  simp only [selO_eq, cells_agg', sel3_0, sel3_1, bV, build_lr, okC_lr, cT, hu.len, cellP3_0, cellP3_1, cellP3_2]
  unfold nilO
  dsimp only
  rw [show noUndef [u, .bool false, .bool false, u, I l.length, .int .i64 0] = true by simp only [noUndef, List.all_cons, hu.und]; rfl, cT]
  have hI : ∀ i (hi : i < l.length), ∃ y, pureO (.idxAddr 3 (.c u) (.c (I i))) = some (.ptr [.bool l[i].li, .bool l[i].ru, y] 0) ∧ IsL y l[i].n := fun i hi => hu.idx hi
  refine loop_inv (α := Unit) (fun i _ => (([u, .bool ((l.take i).any Arr.li), .bool ((l.take i).any fun a => a.ru != (hdA l).ru), u, I l.length, I i, .agg [.bool is.li, .bool is.ru, x], .bool false, .bool false, .nilS, .bool is.li, .bool (if i = 0 then is.ru else (hdA l).ru), nI (catA (l.take i)).length, .sl 1 (ints (catA (l.take i))) false], ()) : List PV × Unit)) l.length (fun i _ => ∀ a ∈ l.take i, a.right = true) _ ?_ ?_ (by simp) (a0 := ())
  · intro i _ hi hp
    obtain ⟨y, h1, h2⟩ := hI i hi
    obtain ⟨y0, h3, h4⟩ := hI 0 (by omega)
    have hR := right_run (.mk _ _ _ _ h2 : IsA (.agg [.bool l[i].li, .bool l[i].ru, y]) l[i]) (hs _ (List.getElem_mem hi))
    have hcl := catA_len hp
    have hcl : (catA (l.take i)).length ≤ 200 * i := by simpa [Nat.min_eq_left (Nat.le_of_lt hi)] using hcl
    have e0 : l[0].ru = (hdA l).ru := by rw [hd_get (by omega)]
    simp only [nth_0, nth_1, nth_2, nth_3, nth_4, nth_5, I_lss, bV, iteP_bool]
    rw [if_pos (by simpa using hi), h1]
    rw [show pureO (.idxAddr 3 (.c u) (.c (.int .i64 0))) = _ from h3]
    simp only [bV, show ∀ a b c : PV, pureO (.load 3 true (.c (.ptr [a, b, c] 0))) = some (.agg [a, b, c]) from fun _ _ _ => rfl, okCells_v h2, cT, cellP3_0, cellP3_1, cellP3_2, hR, pure_not, iteP_bool]
    cases hr : l[i].right with
    | false =>
      right
      simp only [Bool.not_false, if_true]
      obtain ⟨g1, g2⟩ := gat_not (li := is.li) (ru := is.ru) (not_all hi hr)
      rw [build0, bV, build1, bV]
      exact ⟨_, rfl, _, by rw [g1]; rfl, by rw [g2]; exact noArr_is⟩
    | true =>
      left
      refine ⟨(), ?_, ?_⟩
      · have hn := right_le hr
        simp only [Bool.not_true, Bool.false_eq_true, if_false, fa3_1, bV, ld3_1, okC_b, cellP_b, cT, pure_neb, h2.elems, I_add, iD, wsucc (by omega : i < 9223372036854775807)]
        have hw : andB (leN (natP (nth [u, .bool ((l.take i).any Arr.li), .bool ((l.take i).any fun a => a.ru != (hdA l).ru), u, I l.length, I i, .agg [.bool is.li, .bool is.ru, x], .bool false, .bool false, .nilS, .bool is.li, .bool (if i = 0 then is.ru else (hdA l).ru), nI (catA (l.take i)).length, .sl 1 (ints (catA (l.take i))) false] 12)) (lenL (itemsP (nth [u, .bool ((l.take i).any Arr.li), .bool ((l.take i).any fun a => a.ru != (hdA l).ru), u, I l.length, I i, .agg [.bool is.li, .bool is.ru, x], .bool false, .bool false, .nilS, .bool is.li, .bool (if i = 0 then is.ru else (hdA l).ru), nI (catA (l.take i)).length, .sl 1 (ints (catA (l.take i))) false] 13)))) (leN (addN (natP (nth [u, .bool ((l.take i).any Arr.li), .bool ((l.take i).any fun a => a.ru != (hdA l).ru), u, I l.length, I i, .agg [.bool is.li, .bool is.ru, x], .bool false, .bool false, .nilS, .bool is.li, .bool (if i = 0 then is.ru else (hdA l).ru), nI (catA (l.take i)).length, .sl 1 (ints (catA (l.take i))) false] 12)) (lenL (ints l[i].n))) 2147483648) = true := by
          show andB (leN (natP (nI (catA (l.take i)).length)) (ints (catA (l.take i))).length) (leN (addN (natP (nI (catA (l.take i)).length)) (ints l[i].n).length) 2147483648) = true
          simp only [nI_eq, natP_int, Int.toNat_natCast, leN_eq, andB_eq, addN_eq, ints_len, decide_eq_true_eq, Bool.and_eq_true]
          omega
        rw [hw]
        have e1 : nI (addN (natP (nI (catA (l.take i)).length)) (lenL (ints l[i].n))) = nI (catA (l.take (i + 1))).length := by
          rw [catA_snoc hi]; simp [ints_len]
        have e2 : (PV.sl 1 (catL (takeL (natP (nI (catA (l.take i)).length)) (ints (catA (l.take i)))) (ints l[i].n)) false) = .sl 1 (ints (catA (l.take (i + 1)))) false := by
          rw [catA_snoc hi]; simp [ints_take, ints_app]
        have e3 : (if i + 1 = 0 then is.ru else (hdA l).ru) = (hdA l).ru := if_neg (by omega)
        have fin : ∀ b c : Bool, b = (l.take (i + 1)).any Arr.li → c = ((l.take (i + 1)).any fun a => a.ru != (hdA l).ru) →
            (some (Sum.inl (([u, .bool b, .bool c, u, I l.length, I ((i + 1 : Nat) : Int), .agg [.bool is.li, .bool is.ru, x], .bool false, .bool false, .nilS, .bool is.li, .bool l[0].ru, nI (addN (natP (nI (catA (l.take i)).length)) (lenL (ints l[i].n))), .sl 1 (catL (takeL (natP (nI (catA (l.take i)).length)) (ints (catA (l.take i)))) (ints l[i].n)) false], ()) : List PV × Unit)) : Option (Sum (List PV × Unit) (PV × Unit))) =
            some (Sum.inl ([u, .bool ((l.take (i + 1)).any Arr.li), .bool ((l.take (i + 1)).any fun a => a.ru != (hdA l).ru), u, I l.length, I ((i + 1 : Nat) : Int), .agg [.bool is.li, .bool is.ru, x], .bool false, .bool false, .nilS, .bool is.li, .bool (if i + 1 = 0 then is.ru else (hdA l).ru), nI (catA (l.take (i + 1))).length, .sl 1 (ints (catA (l.take (i + 1)))) false], ())) := by
          intro b c hb hc
          rw [e1, e2, e3, e0, hb, hc]
        simp only [cT]
        cases hb : (l.take i).any Arr.li <;> cases hc : (l.take i).any (fun a => a.ru != (hdA l).ru) <;>
          simp only [if_true, if_false, Bool.false_eq_true]
        · exact fin _ _ (by rw [any_snoc hi, hb]; rfl) (by rw [any_snoc hi, hc, ← e0]; rfl)
        · exact fin _ _ (by rw [any_snoc hi, hb]; rfl) (by rw [any_snoc hi, hc]; rfl)
        · exact fin _ _ (by rw [any_snoc hi, hb]; rfl) (by rw [any_snoc hi, hc, ← e0]; rfl)
        · exact fin _ _ (by rw [any_snoc hi, hb]; rfl) (by rw [any_snoc hi, hc]; rfl)
      · intro a ha
        rw [take_snoc hi] at ha
        rcases List.mem_append.1 ha with h | h
        · exact hp a h
        · rw [List.mem_singleton.1 h]; exact hr
  · intro _ hp
    rw [List.take_of_length_le (Nat.le_refl _)] at hp ⊢
    have hall : l.all Arr.right = true := List.all_eq_true.2 hp
    simp only [nth_0, nth_1, nth_2, nth_3, nth_4, nth_5, nth_6, I_lss, bV, iteP_bool, Int.lt_irrefl, decide_false, Bool.false_eq_true, if_false, build0, build1, okC_lr, cT, selO_eq, cells_agg', sel3_0, pure_not, hu.len, iD, I_neq, I_gtr, cellP3_0, cellP3_1, cellP3_2]
    have hA : ¬ l.all Arr.right = false := by rw [hall]; simp
    have bad : ∀ {c : Int}, gatE is.li l = c → c ≠ 0 → errD (gatE is.li l) = .iface 124 (.agg [I c]) ∧ gatA is.li is.ru l = noArr := fun {c} h h0 => ⟨by rw [h]; exact if_neg h0, gat_bad (by rw [h]; exact h0)⟩
    simp only [nth_10, nth_11, nth_12, nth_13, nI_eq, natP_int, natP_I, itemsP_sl, iD, Int.toNat_natCast, slO_1]
    cases h1 : l.any Arr.li with
    | true =>
      obtain ⟨b1, b2⟩ := bad (c := 111) (by unfold gatE; rw [if_neg hA, if_pos h1]) (by decide)
      exact ⟨_, rfl, _, by rw [b1]; rfl, by rw [b2]; exact noArr_is⟩
    | false =>
      have n1 : ¬ l.any Arr.li = true := by rw [h1]; simp
      cases h2 : l.any (fun a => a.ru != (hdA l).ru) with
      | true =>
        obtain ⟨b1, b2⟩ := bad (c := 102) (by unfold gatE; rw [if_neg hA, if_neg n1, if_pos h2]) (by decide)
        exact ⟨_, rfl, _, by rw [b1]; rfl, by rw [b2]; exact noArr_is⟩
      | false =>
        have n2 : ¬ (l.any fun a => a.ru != (hdA l).ru) = true := by rw [h2]; simp
        by_cases h3 : is.li = false ∧ l.length ≠ 1
        · have e5 : ((l.length : Int) != 1) = true := by have := h3.2; simp; omega
          obtain ⟨b1, b2⟩ := bad (c := 111) (by unfold gatE; rw [if_neg hA, if_neg n1, if_neg n2, if_pos h3]) (by decide)
          rw [h3.1] at b1 b2 ⊢
          rw [e5]
          exact ⟨_, rfl, _, by rw [b1]; rfl, by rw [b2]; exact noArr_is⟩
        · have e5 : (if (!is.li) = true then some (PV.bool ((l.length : Int) != 1)) else some (.bool false)) = some (.bool false) := by
            cases hq : is.li with
            | true => rfl
            | false =>
              have : l.length = 1 := by
                rw [hq] at h3
                by_cases hz : l.length = 1
                · exact hz
                · exact absurd ⟨rfl, hz⟩ h3
              simp [this]
          rw [e5]
          by_cases h4 : 200 < l.length
          · obtain ⟨b1, b2⟩ := bad (c := 113) (by unfold gatE; rw [if_neg hA, if_neg n1, if_neg n2, if_neg h3, if_pos h4]) (by decide)
            rw [decide_eq_true (by omega : (200 : Int) < (l.length : Int))]
            exact ⟨_, rfl, _, by rw [b1]; rfl, by rw [b2]; exact noArr_is⟩
          · have hE : gatE is.li l = 0 := by unfold gatE; rw [if_neg hA, if_neg n1, if_neg n2, if_neg h3, if_neg h4]
            rw [decide_eq_false (by omega : ¬ (200 : Int) < (l.length : Int)), hE, show gatA is.li is.ru l = ⟨is.li, if l.length = 0 then is.ru else (hdA l).ru, catA l⟩ from if_pos hE,
              show okU (.tup [.agg [.bool is.li, .bool (if l.length = 0 then is.ru else (hdA l).ru), .sl 1 (ints (catA l)) false], .nilI]) = true by simp [okU, okV, okVL, okVL_ints]]
            exact ⟨_, rfl, _, rfl, .mk _ _ _ _ (.sl _ _)⟩
theorem Gather_run {u : PV} {l : List Arr} (hu : IsB u l) (hl : l.length ≤ 1000000) (hs : ∀ a ∈ l, a.n.length ≤ 1000000) (li ru : Bool) :
    ∃ w, callO B0 .cl (.fn 31 []) [u, .bool li, .bool ru] = some (.tup [w, I (gatE li l)]) ∧ IsA w (gatA li ru l) := by
  obtain ⟨w, h1, h2⟩ := gather_run (is := ⟨li, ru, []⟩) (.mk _ _ _ _ .nil) hu hl hs
  obtain ⟨x, rfl, hx⟩ := h2.get
  refine ⟨_, call (d := fun _ => .cl) rfl (by decide) (by simp [okVL, okV, hu.ok]) rfl ?_, h2⟩
  rw [List.map_cons, List.map_cons, List.map_cons, List.map_nil, run31, build_lr, bV]
  rw [show pureO (.build [.bool false, .bool false, .nilS] [(0, (3, .c (.agg [.bool li, .bool ru, .nilS])))]) = some (.agg [.bool li, .bool ru, .nilS]) from rfl, bV, h1, bV]
  simp only [pure_tup, List.getElem?_cons_zero, List.getElem?_cons_succ, bV, okCells_v hx, cT, dtold_run, cellP3_0, cellP3_1, cellP3_2]
end Go.Ab.Derive


namespace Go.Ab.Derive
open Go Go.Ab
theorem valO_is {v : PV} {a : Arr} (h : IsA v a) : valO v = true := by
  obtain ⟨x, rfl, hx⟩ := h.get
  rw [valO_agg, val3 rfl rfl hx.cell]
theorem sel_is {v : PV} {a : Arr} (h : IsA v a) : selO v 0 3 true = some v := by
  obtain ⟨x, rfl, hx⟩ := h.get
  rfl
theorem okCells_is {v : PV} {a : Arr} (h : IsA v a) : okCells v 3 = true := by
  obtain ⟨x, rfl, hx⟩ := h.get
  exact okCells3 (val3 rfl rfl hx.cell)
theorem agg_is {v : PV} {a : Arr} (h : IsA v a) : PV.agg [cellP v 0, cellP v 1, cellP v 2] = v := by
  obtain ⟨x, rfl, hx⟩ := h.get
  rfl
theorem okSto_is {v u : PV} {a b : Arr} (h : IsA v a) (hu : IsA u b) : okSto v u 0 3 = true := by
  obtain ⟨x, rfl, hx⟩ := h.get
  obtain ⟨y, rfl, hy⟩ := hu.get
  simp [okSto, val3 (a := .bool a.li) (b := .bool a.ru) rfl rfl hx.cell]
theorem stoP_is {v u : PV} {a b : Arr} (h : IsA v a) (hu : IsA u b) : stoP v u 0 = v := by
  obtain ⟨x, rfl, hx⟩ := h.get
  obtain ⟨y, rfl, hy⟩ := hu.get
  rfl
theorem few_len (a : Arr) : a.few.n.length ≤ 202 := by simp [Arr.few]; omega
theorem c2_is {v : PV} {a : Arr} (h : IsA v a) : IsL (cellP v 2) a.n := by obtain ⟨x, rfl, hx⟩ := h.get; exact hx
theorem s0_is {v : PV} {a : Arr} (h : IsA v a) : selO v 0 1 false = some (.bool a.li) := by obtain ⟨x, rfl, hx⟩ := h.get; rfl
theorem s1_is {v : PV} {a : Arr} (h : IsA v a) : selO v 1 1 false = some (.bool a.ru) := by obtain ⟨x, rfl, hx⟩ := h.get; rfl
theorem s2_is {v : PV} {a : Arr} (h : IsA v a) : selO v 2 1 false = some (cellP v 2) := by obtain ⟨x, rfl, hx⟩ := h.get; rfl
theorem IsL.at {v : PV} {l : List Int} (h : IsL v l) {i : Nat} {n : Int} (hi : l[i]? = some n) : pureO (.idxAddr 1 (.c v) (.c (I i))) = some (.ptr [I n] 0) := by
  obtain ⟨h1, h2⟩ := List.getElem?_eq_some_iff.1 hi
  rw [h.idx h1, h2]
end Go.Ab.Derive


namespace Go.Ab.Derive
open Go Go.Ab
theorem rrune_run (n : Int) : callO B0 .cl (.fn 90 []) [I n] = some (.bool (rune n)) := by
  refine call (d := fun _ => .cl) rfl (by decide) rfl rfl ?_
  rw [List.map_cons, List.map_nil, run90]
  simp only [I_def, I_geq, I_leq, I_lss, I_gtr, bindO_val, iteP_bool]
  unfold rune
  by_cases h1 : 0 ≤ n <;> by_cases h2 : n ≤ 1114111 <;> by_cases h3 : n < 55296 <;> simp [h1, h2, h3]
theorem rright_run {v : PV} {a : Arr} (h : IsA v a) (hl : a.n.length ≤ 1000000) : callO B0 .cl (.fn 51 []) [v] = some (.bool a.right) := by
  refine call (d := fun _ => .cl) rfl (by decide) (by simp [okVL, h.ok]) rfl ?_
  rw [List.map_cons, List.map_nil, run51, valO_is h, cT]
  rw [show noUndef [.int .i64 0] = true from rfl, cT]
  have lx := c2_is h
  have tail : (if a.li = true then (if decide ((a.n.length : Int) ≤ 200) = true then some (PV.bool true) else if (!a.li) = true then some (.bool ((a.n.length : Int) == 1)) else some (.bool false)) else if (!a.li) = true then some (.bool ((a.n.length : Int) == 1)) else some (.bool false)) = some (PV.bool (if a.li then decide (a.n.length ≤ 200) else decide (a.n.length = 1))) := by
    have e1 : decide ((a.n.length : Int) ≤ 200) = decide (a.n.length ≤ 200) := by
      by_cases h : a.n.length ≤ 200
      · simp [h]; omega
      · have : ¬ (a.n.length : Int) ≤ 200 := by omega
        simp [h, this]
    have e2 : ((a.n.length : Int) == 1) = decide (a.n.length = 1) := by
      by_cases h : a.n.length = 1
      · simp [h]
      · have : ¬ (a.n.length : Int) = 1 := by omega
        simp [h, this]
    rw [e1, e2]
    cases a.li
    · simp
    · by_cases h : a.n.length ≤ 200 <;> simp [h]
  have key : ∀ m i, i + m = a.n.length → loopL (fun z1 => bindO (bindO (selO (nth z1.1 1) 2 1 false) (fun z2 => bindO (pureO (.len .slice (.c z2))) (fun z3 => bindO (pureO (.bin .lss .num false (.c (nth z1.1 0)) (.c z3))) (fun z4 => iteP z4 (bindO (selO (nth z1.1 1) 1 1 false) (fun z5 => some z5)) (some (PV.bool false)))))) (fun z6 => iteP z6 (bindO (selO (nth z1.1 1) 2 1 false) (fun z7 => bindO (pureO (.idxAddr 1 (.c z7) (.c (nth z1.1 0)))) (fun z8 => bindO (pureO (.load 1 false (.c z8))) (fun z9 => bindO (callO B0 .cl (.fn 90 []) [z9]) (fun z10 => bindO (pureO (.un .not (.c z10))) (fun z11 => iteP z11 (bindO (some (PV.bool false, z1.2)) (fun z12 => some (.inr z12))) (bindO (pureO (.bin .add .num true (.c (nth z1.1 0)) (.c (.int .i64 1)))) (fun z13 => some (.inl ([z13, nth z1.1 1], z1.2)))))))))) (bindO (bindO (bindO (selO (nth z1.1 1) 0 1 false) (fun z14 => iteP z14 (bindO (selO (nth z1.1 1) 2 1 false) (fun z15 => bindO (pureO (.len .slice (.c z15))) (fun z16 => bindO (pureO (.bin .leq .num true (.c z16) (.c (.int .i64 200)))) (fun z17 => iteP z17 (some (PV.bool true)) (bindO (selO (nth z1.1 1) 0 1 false) (fun z18 => bindO (pureO (.un .not (.c z18))) (fun z19 => iteP z19 (bindO (selO (nth z1.1 1) 2 1 false) (fun z20 => bindO (pureO (.len .slice (.c z20))) (fun z21 => bindO (pureO (.bin .eql .num true (.c z21) (.c (.int .i64 1)))) (fun z22 => some z22)))) (some (PV.bool false))))))))) (bindO (selO (nth z1.1 1) 0 1 false) (fun z23 => bindO (pureO (.un .not (.c z23))) (fun z24 => iteP z24 (bindO (selO (nth z1.1 1) 2 1 false) (fun z25 => bindO (pureO (.len .slice (.c z25))) (fun z26 => bindO (pureO (.bin .eql .num true (.c z26) (.c (.int .i64 1)))) (fun z27 => some z27)))) (some (PV.bool false))))))) (fun z28 => some (z28, z1.2))) (fun z29 => some (.inr z29))))) (([I i, v], ()) : List PV × Unit) = some (.bool (!(a.ru && (a.n.drop i).any fun n => !rune n) && (if a.li then decide (a.n.length ≤ 200) else decide (a.n.length = 1))), ()) := by
    intro m
    induction m with
    | zero =>
      intro i hi
      refine loopL_inr ?_
      have hd0 : a.n.drop i = [] := List.drop_eq_nil_of_le (by omega)
      have hlt : ¬ ((i : Int) < (a.n.length : Int)) := by omega
      simp only [nth_0, nth_1, s0_is h, s2_is h, lx.len, bV, I_lss, hlt, decide_false, iteP_false, iteP_bool, pure_not, iD, I_leq, I_eql, hd0, List.any_nil, Bool.and_false, Bool.not_false, Bool.true_and]
      rw [tail]
      rfl
    | succ m ih =>
      intro i hi
      have hlt : i < a.n.length := by omega
      have hlt' : (i : Int) < (a.n.length : Int) := by omega
      cases hru : a.ru with
      | false =>
        refine loopL_inr ?_
        simp only [nth_0, nth_1, s0_is h, s1_is h, s2_is h, lx.len, bV, I_lss, hlt', decide_true, iteP_true, hru, iteP_false, iteP_bool, pure_not, iD, I_leq, I_eql, Bool.false_and, Bool.not_false, Bool.true_and]
        rw [tail]
        rfl
      | true =>
        rw [drop_cons hlt, List.any_cons]
        cases hq : rune a.n[i] with
        | false =>
          refine loopL_inr ?_
          simp only [nth_0, nth_1, s1_is h, s2_is h, lx.len, bV, I_lss, hlt', decide_true, iteP_true, hru, lx.idx hlt, load_I, rrune_run, hq, pure_not, Bool.not_false, Bool.true_or, Bool.and_self, Bool.not_true, Bool.false_and]
        | true =>
          rw [loopL_inl (s' := ([I ((i + 1 : Nat) : Int), v], ()))]
          · rw [ih (i + 1) (by omega), hru]
            simp only [Bool.not_true, Bool.false_or]
          · simp only [nth_0, nth_1, s1_is h, s2_is h, lx.len, bV, I_lss, hlt', decide_true, iteP_true, hru, lx.idx hlt, load_I, rrune_run, hq, pure_not, Bool.not_true, iteP_false, iD, I_add, wsucc (by omega : i < 9223372036854775807)]
  have := key a.n.length 0 (by omega)
  unfold Arr.right
  simpa [I_def] using this
theorem rnums_run {v u : PV} {l m : List Int} (hv : IsL v l) (hu : IsL u m) (hl : l.length ≤ 1000000) (hm : m.length ≤ 1000000) : callO B0 .cl (.fn 47 []) [v, u] = some (.bool (eqL l m)) := by
  refine call (d := fun _ => .cl) rfl (by decide) (by simp [okVL, hv.ok, hu.ok]) rfl ?_
  rw [List.map_cons, List.map_cons, List.map_nil, run47, hv.len, hu.len]
  simp only [bV, I_neq, iteP_bool]
  by_cases hlm : l.length = m.length
  · have h1 : (((l.length : Int) != (m.length : Int)) = true) ↔ False := by simp [hlm]
    simp only [h1, if_false]
    have h0 : noUndef [v, u, .int .i64 0] = true := by simp only [noUndef, List.all_cons, hv.und, hu.und]; rfl
    rw [h0, cT]
    have key : ∀ k i, i + k = l.length → loopL (fun z4 => bindO (pureO (.len .slice (.c (nth z4.1 0)))) (fun z5 => bindO (pureO (.bin .lss .num false (.c (nth z4.1 2)) (.c z5))) (fun z6 => iteP z6 (bindO (pureO (.idxAddr 1 (.c (nth z4.1 0)) (.c (nth z4.1 2)))) (fun z7 => bindO (pureO (.load 1 false (.c z7))) (fun z8 => bindO (pureO (.idxAddr 1 (.c (nth z4.1 1)) (.c (nth z4.1 2)))) (fun z9 => bindO (pureO (.load 1 false (.c z9))) (fun z10 => bindO (pureO (.bin .neq .num false (.c z8) (.c z10))) (fun z11 => iteP z11 (bindO (some (PV.bool false, z4.2)) (fun z12 => some (.inr z12))) (bindO (pureO (.bin .add .num true (.c (nth z4.1 2)) (.c (.int .i64 1)))) (fun z13 => some (.inl ([nth z4.1 0, nth z4.1 1, z13], z4.2)))))))))) (bindO (some (PV.bool true, z4.2)) (fun z14 => some (.inr z14)))))) (([v, u, I i], ()) : List PV × Unit) = some (.bool (eqL (l.drop i) (m.drop i)), ()) := by
      intro k
      induction k with
      | zero =>
        intro i hi
        refine loopL_inr ?_
        have h2 : l.drop i = [] := List.drop_eq_nil_of_le (by omega)
        have h3 : m.drop i = [] := List.drop_eq_nil_of_le (by omega)
        have hlt : ¬ ((i : Int) < (l.length : Int)) := by omega
        simp only [nth_0, nth_1, nth_2, hv.len, bV, I_lss, hlt, decide_false, iteP_false, h2, h3, eqL]
      | succ k ih =>
        intro i hi
        have hlt : i < l.length := by omega
        have hlt2 : i < m.length := by omega
        have hlt' : (i : Int) < (l.length : Int) := by omega
        rw [drop_cons hlt, drop_cons hlt2]
        cases hx : (l[i] == m[i]) with
        | true =>
          have hb : (l[i] != m[i]) = false := by simp [bne, hx]
          rw [loopL_inl (s' := ([v, u, I ((i + 1 : Nat) : Int)], ()))]
          · rw [ih (i + 1) (by omega)]
            simp only [eqL, hx, Bool.true_and]
          · simp only [nth_0, nth_1, nth_2, hv.len, bV, I_lss, hlt', decide_true, iteP_true, hv.idx hlt, hu.idx hlt2, load_I, I_neq, hb, iteP_false, iD, I_add, wsucc (by omega : i < 9223372036854775807)]
        | false =>
          have hb : (l[i] != m[i]) = true := by simp [bne, hx]
          refine loopL_inr ?_
          simp only [nth_0, nth_1, nth_2, hv.len, bV, I_lss, hlt', decide_true, iteP_true, hv.idx hlt, hu.idx hlt2, load_I, I_neq, hb, eqL, hx, Bool.false_and]
    have := key l.length 0 (by omega)
    simpa [I_def] using this
  · have : ¬ (l.length : Int) = (m.length : Int) := by omega
    have h2 : eqL l m = false := by
      cases he : eqL l m with
      | false => rfl
      | true => exact absurd (congrArg List.length ((eqL_iff l m).1 he)) hlm
    simp [this, h2]
theorem rsame_run {v u : PV} {a b : Arr} (hv : IsA v a) (hu : IsA u b) (ha : a.n.length ≤ 1000000) (hb : b.n.length ≤ 1000000) : callO B0 .cl (.fn 18 []) [v, u] = some (.bool (a.same b)) := by
  refine call (d := fun _ => .cl) rfl (by decide) (by simp [okVL, hv.ok, hu.ok]) rfl ?_
  rw [List.map_cons, List.map_cons, List.map_nil, run18, valO_is hv, valO_is hu, cT, cT]
  simp only [s0_is hv, s0_is hu, s1_is hv, s1_is hu, s2_is hv, s2_is hu, bV, pure_eqb, iteP_bool, rnums_run (c2_is hv) (c2_is hu) ha hb]
  unfold Arr.same
  cases (a.li == b.li) <;> cases (a.ru == b.ru) <;> simp
end Go.Ab.Derive


namespace Go.Ab.Derive
open Go Go.Ab
theorem few_any (a : Arr) : a.few.n.length ≤ 1000000 := Nat.le_trans (few_len a) (by decide)
theorem ritems_run {v : PV} {a : Arr} (h : IsA v a) (hl : a.n.length ≤ 1000000) : ∃ w, callO B0 .cl (.fn 30 []) [v] = some (.tup [w, I (if a.right then 0 else 114)]) ∧ IsB w (if a.right then a.n.map (itmA a.ru) else []) := by
  have hr := rright_run h hl
  obtain ⟨x, rfl, hx⟩ := h.get
  have hok : okVL [PV.agg [.bool a.li, .bool a.ru, x]] = true := by simp [okVL, h.ok]
  cases ha : a.right with
  | false =>
    refine ⟨.nilS, call (d := fun _ => .cl) rfl (by decide) hok rfl ?_, .nil⟩
    rw [List.map_cons, List.map_nil, run30, valO_v hx, cT]
    simp only [selO_eq, cells_agg', sel3_a, bV, hr, ha, pure_not, Bool.not_false, iteP_bool, if_true]
    rfl
  | true =>
    refine ⟨.sl 3 (a.n.map (itmV a.ru)) false, call (d := fun _ => .cl) rfl (by decide) hok rfl ?_, .sl _ (itms_is _ _)⟩
    rw [List.map_cons, List.map_nil, run30, valO_v hx, cT]
    simp only [selO_eq, cells_agg', sel3_a, bV, hr, ha, pure_not, Bool.not_true, iteP_bool, Bool.false_eq_true, if_false]
    rw [show noUndef [nI 0, .int .i64 0] = true from rfl, cT]
    refine loop_run (fun i => (([nI i, I i, .agg [.bool a.li, .bool a.ru, x], .sl 3 ((a.n.take i).map (itmV a.ru)) false], ()) : List PV × Unit)) a.n.length rfl (fun i hi => ?_) ?_
    · simp only [nth_0, nth_1, nth_2, nth_3, selO_eq, cells_agg', sel3_1, sel3_2, bV, hx.len, I_lss, iteP_bool]
      rw [if_pos (by simpa using hi), hx.idx hi]
      simp only [bV, load_I, okSls_I, okC_b, cellP_b, cT, slO_I, okSls_itm, nI_eq, natP_int, natP_I, Int.toNat_natCast, itemsP_sl, iD, I_add, wsucc (by omega : i < 9223372036854775807)]
      rw [show (leN (addN 0 (lenL [PV.agg [.bool false, .bool a.ru, .sl 1 [I a.n[i]] false]])) (lenL [PV.agg [.bool false, .bool a.ru, .sl 1 [I a.n[i]] false]])) = true from rfl, cT]
      rw [show andB (leN i (lenL ((a.n.take i).map (itmV a.ru)))) (leN (addN i (lenL (takeL (lenL [PV.agg [.bool false, .bool a.ru, .sl 1 [I a.n[i]] false]]) (dropL 0 [PV.agg [.bool false, .bool a.ru, .sl 1 [I a.n[i]] false]])))) 2147483648) = true by
        show andB (leN i ((a.n.take i).map (itmV a.ru)).length) (leN (i + 1) 2147483648) = true
        simp only [leN_eq, andB_eq, List.length_map, List.length_take, decide_eq_true_eq, Bool.and_eq_true]
        omega, cT]
      have e : catL (takeL i ((a.n.take i).map (itmV a.ru))) (takeL (lenL [PV.agg [.bool false, .bool a.ru, .sl 1 [I a.n[i]] false]]) (dropL 0 [PV.agg [.bool false, .bool a.ru, .sl 1 [I a.n[i]] false]])) = (a.n.take (i + 1)).map (itmV a.ru) := by
        show ((a.n.take i).map (itmV a.ru)).take i ++ [itmV a.ru a.n[i]] = _
        rw [List.take_of_length_le (by simp; omega), take_snoc hi, List.map_append]
        rfl
      rw [e]
      rfl
    · simp only [nth_0, nth_1, nth_2, nth_3, selO_eq, cells_agg', sel3_1, sel3_2, bV, hx.len, I_lss, iteP_bool, Int.lt_irrefl, decide_false, Bool.false_eq_true, if_false, itemsP_sl, nI_eq, natP_int, Int.toNat_natCast]
      rw [List.take_of_length_le (Nat.le_refl _), show slO 3 3 (a.n.map (itmV a.ru)) 0 a.n.length = .sl 3 (a.n.map (itmV a.ru)) false by have := slO_3 (a.n.map (itmV a.ru)); rwa [List.length_map] at this]
      rw [show okU (.tup [.sl 3 (a.n.map (itmV a.ru)) false, .int .i64 0]) = true by simp [okU, okV, okVL, (itms_is a.ru a.n).ok]]
      rfl
theorem rgather_run {u : PV} {l : List Arr} (hu : IsB u l) (hl : l.length ≤ 1000000) (hs : ∀ a ∈ l, a.n.length ≤ 1000000) (li ru : Bool) :
    ∃ w, callO B0 .cl (.fn 32 []) [u, .bool li, .bool ru] = some (.tup [w, I (gatE li l)]) ∧ IsA w (gatA li ru l) := by
  suffices key : ∃ r, runK (cfg0 B0 (fun _ => .cl)) fn32 (.cl) noHandler 0 [.cv u, .cv (.bool li), .cv (.bool ru)] () = some r ∧ ∃ w, r = (.tup [w, I (gatE li l)], ()) ∧ IsA w (gatA li ru l) by
    obtain ⟨r, h1, w, rfl, h2⟩ := key
    exact ⟨w, call (d := fun _ => .cl) rfl (by decide) (by simp [okVL, okV, hu.ok]) rfl h1, h2⟩
  rw [run32, build_lr, bV, okC_lr, cT]
  simp only [cellP3_0, cellP3_1, cellP3_2]
  unfold nilO
  dsimp only
  rw [show noUndef [u, .bool li, .bool false, .bool false, .int .i64 0] = true by simp only [noUndef, List.all_cons, hu.und]; rfl, cT]
  refine loop_inv (α := Unit) (fun i _ => (([u, .bool li, .bool ((l.take i).any Arr.li), .bool ((l.take i).any fun a => a.ru != (hdA l).ru), I i, .bool false, .bool false, .nilS, .bool li, .bool (if i = 0 then ru else (hdA l).ru), nI (catA (l.take i)).length, .sl 1 (ints (catA (l.take i))) false], ()) : List PV × Unit)) l.length (fun i _ => ∀ a ∈ l.take i, a.right = true) _ ?_ ?_ (by simp) (a0 := ())
  · intro i _ hi hp
    obtain ⟨y, h1, h2⟩ := hu.idx hi
    obtain ⟨y0, h3, h4⟩ := hu.idx (i := 0) (by omega)
    have hR := rright_run (.mk _ _ _ _ h2 : IsA (.agg [.bool l[i].li, .bool l[i].ru, y]) l[i]) (hs _ (List.getElem_mem hi))
    have hcl := catA_len hp
    have hcl : (catA (l.take i)).length ≤ 200 * i := by simpa [Nat.min_eq_left (Nat.le_of_lt hi)] using hcl
    have e0 : l[0].ru = (hdA l).ru := by rw [hd_get (by omega)]
    simp only [nth_0, nth_1, nth_2, nth_3, nth_4, nth_5, hu.len, I_lss, bV, iteP_bool]
    rw [if_pos (by simpa using hi), h1]
    rw [show pureO (.idxAddr 3 (.c u) (.c (.int .i64 0))) = _ from h3]
    simp only [bV, show ∀ a b c : PV, pureO (.load 3 true (.c (.ptr [a, b, c] 0))) = some (.agg [a, b, c]) from fun _ _ _ => rfl, hR, pure_not, iteP_bool]
    cases hr : l[i].right with
    | false =>
      right
      simp only [Bool.not_false, if_true]
      obtain ⟨g1, g2⟩ := gat_not (li := li) (ru := ru) (not_all hi hr)
      rw [build0, bV]
      exact ⟨_, rfl, _, by rw [g1]; rfl, by rw [g2]; exact noArr_is⟩
    | true =>
      left
      refine ⟨(), ?_, ?_⟩
      · have hn := right_le hr
        simp only [Bool.not_true, Bool.false_eq_true, if_false, fa3_0, fa3_1, fa3_2, bV, ld3_0, ld3_1, ld3_2, okC_b, cellP_b, cT, pure_neb, h2.elems, I_add, iD, wsucc (by omega : i < 9223372036854775807), nth_6, nth_7, nth_8, nth_9, nth_10, nth_11, nI_eq, natP_I, natP_int, Int.toNat_natCast, itemsP_sl]
        have hw : andB (leN (catA (l.take i)).length (lenL (ints (catA (l.take i))))) (leN (addN (catA (l.take i)).length (lenL (ints l[i].n))) 2147483648) = true := by
          simp only [lenL_eq, leN_eq, andB_eq, addN_eq, ints_len, decide_eq_true_eq, Bool.and_eq_true]
          omega
        rw [hw]
        have e1 : addN (catA (l.take i)).length (lenL (ints l[i].n)) = (catA (l.take (i + 1))).length := by
          rw [catA_snoc hi]; simp [ints_len]
        have e2 : catL (takeL (catA (l.take i)).length (ints (catA (l.take i)))) (ints l[i].n) = ints (catA (l.take (i + 1))) := by
          rw [catA_snoc hi]; simp [ints_take, ints_app]
        rw [e1, e2, e0, if_neg (by omega : ¬ i + 1 = 0), any_snoc hi, any_snoc hi, ← e0]
        simp only [cT]
        cases hb : (l.take i).any Arr.li <;> cases hc : (l.take i).any (fun a => a.ru != l[0].ru) <;>
          simp only [if_true, if_false, Bool.false_eq_true, bV, iteP_bool, Bool.true_or, Bool.false_or, Bool.true_and] <;> rfl
      · intro a ha
        rw [take_snoc hi] at ha
        rcases List.mem_append.1 ha with h | h
        · exact hp a h
        · rw [List.mem_singleton.1 h]; exact hr
  · intro _ hp
    rw [List.take_of_length_le (Nat.le_refl _)] at hp ⊢
    have hall : l.all Arr.right = true := List.all_eq_true.2 hp
    simp only [nth_0, nth_1, nth_2, nth_3, nth_4, nth_5, nth_6, hu.len, I_lss, bV, iteP_bool, Int.lt_irrefl, decide_false, Bool.false_eq_true, if_false, build0, okC_lr, cT, pure_not, iD, I_neq, I_gtr, cellP3_0, cellP3_1, cellP3_2]
    have hA : ¬ l.all Arr.right = false := by rw [hall]; simp
    have bad : ∀ {c : Int}, gatE li l = c → c ≠ 0 → gatA li ru l = noArr := fun {c} h h0 => gat_bad (by rw [h]; exact h0)
    simp only [nth_8, nth_9, nth_10, nth_11, nI_eq, natP_int, natP_I, itemsP_sl, iD, Int.toNat_natCast, slO_1]
    cases h1 : l.any Arr.li with
    | true =>
      have hE : gatE li l = 111 := by unfold gatE; rw [if_neg hA, if_pos h1]
      exact ⟨_, rfl, _, by rw [hE], by rw [bad hE (by decide)]; exact noArr_is⟩
    | false =>
      have n1 : ¬ l.any Arr.li = true := by rw [h1]; simp
      cases h2 : l.any (fun a => a.ru != (hdA l).ru) with
      | true =>
        have hE : gatE li l = 102 := by unfold gatE; rw [if_neg hA, if_neg n1, if_pos h2]
        exact ⟨_, rfl, _, by rw [hE], by rw [bad hE (by decide)]; exact noArr_is⟩
      | false =>
        have n2 : ¬ (l.any fun a => a.ru != (hdA l).ru) = true := by rw [h2]; simp
        by_cases h3 : li = false ∧ l.length ≠ 1
        · have e5 : ((l.length : Int) != 1) = true := by have := h3.2; simp; omega
          have hE : gatE li l = 111 := by unfold gatE; rw [if_neg hA, if_neg n1, if_neg n2, if_pos h3]
          have hB := bad hE (by decide)
          rw [h3.1] at hE hB ⊢
          rw [e5]
          exact ⟨_, rfl, _, by rw [hE], by rw [hB]; exact noArr_is⟩
        · have e5 : (if (!li) = true then some (PV.bool ((l.length : Int) != 1)) else some (.bool false)) = some (.bool false) := by
            cases hq : li with
            | true => rfl
            | false =>
              have : l.length = 1 := by
                rw [hq] at h3
                by_cases hz : l.length = 1
                · exact hz
                · exact absurd ⟨rfl, hz⟩ h3
              simp [this]
          rw [e5]
          by_cases h4 : 200 < l.length
          · have hE : gatE li l = 113 := by unfold gatE; rw [if_neg hA, if_neg n1, if_neg n2, if_neg h3, if_pos h4]
            rw [decide_eq_true (by omega : (200 : Int) < (l.length : Int))]
            exact ⟨_, rfl, _, by rw [hE], by rw [bad hE (by decide)]; exact noArr_is⟩
          · have hE : gatE li l = 0 := by unfold gatE; rw [if_neg hA, if_neg n1, if_neg n2, if_neg h3, if_neg h4]
            rw [decide_eq_false (by omega : ¬ (200 : Int) < (l.length : Int)), hE, show gatA li ru l = ⟨li, if l.length = 0 then ru else (hdA l).ru, catA l⟩ from if_pos hE,
              show okU (.tup [.agg [.bool li, .bool (if l.length = 0 then ru else (hdA l).ru), .sl 1 (ints (catA l)) false], I 0]) = true by simp [okU, okV, okVL, okVL_ints]]
            exact ⟨_, rfl, _, rfl, .mk _ _ _ _ (.sl _ _)⟩
end Go.Ab.Derive


namespace Go.Ab
def memoCall (memo : FuncId → List PV → Option PV) (c : CallT) : CallT := fun E h dep g args e =>
  match dep, memo g args with
  | 0, some r => some (r, [], e)
  | _, _ => c E h dep g args e
def evalMm (memo : FuncId → List PV → Option PV) (sp : FuncId → (Nm → Option Ob) → List PV → Option Out) (tab : FuncId → Option RFn) : Nat → Mach
  | 0 => evalM sp tab 0
  | n + 1 => { evalM sp tab 0 with call := memoCall memo (callOf (evalMm memo sp tab n) n tab), io := ioOf (evalMm memo sp tab n) n tab }
def evalFm (memo : FuncId → List PV → Option PV) (sp : FuncId → (Nm → Option Ob) → List PV → Option Out) (tab : FuncId → Option RFn) (n : Nat) : CallT := (evalMm memo sp tab n).call
section memo
variable {memo : FuncId → List PV → Option PV} {sp : FuncId → (Nm → Option Ob) → List PV → Option Out} {tab : FuncId → Option RFn}
  (hm : ∀ g args r, memo g args = some r → ∃ n, evalFn sp tab n Unit noHandler 0 g args () = some (r, [], ()))
include hm
theorem evalMm_le : ∀ n, MLe (evalMm memo sp tab n) (evalM sp tab) := by
  intro n
  induction n with
  | zero => exact evalM_le 0
  | succ n ih =>
    have hk := callOf_par ih n tab
    refine MLe.of_tail ⟨fun k => rfl, ?_, fun k => rfl, fun k => rfl, fun g dst σ vs out h => ioOf_par ih n tab g dst σ vs out h⟩ rfl rfl rfl
    intro E1 E2 RE h1 h2 hh dep g args e1 e2 he r obs e1' h
    simp only [evalMm, memoCall] at h
    split at h
    · rename_i r' hr
      cases h
      obtain ⟨m, hm'⟩ := hm g args r hr
      obtain ⟨_, rfl, a, ha⟩ := evalFn_par m Unit E2 (fun _ e => e2 = e) noHandler (fun k => h2 (k - 1)) (fun _ _ _ _ _ _ _ h => by cases h) 0 g args () e2 rfl r [] () hm'
      exact ⟨e2, he, a, fun k hk => ha (k + 1) (by omega)⟩
    · exact hk E1 E2 RE h1 h2 hh _ g args e1 e2 he r obs e1' h
theorem ev_memo {n : Nat} {g : FuncId} {args : List PV} {r : PV} (h : evalFm memo sp tab n Unit noHandler 0 g args () = some (r, [], ())) : ∃ m, evalFn sp tab m Unit noHandler 0 g args () = some (r, [], ()) := by
  obtain ⟨m, hm'⟩ := unit_call (evalMm_le hm n) g args h
  exact ⟨m, hm' m (Nat.le_refl _)⟩
end memo
mutual
def sameV : PV → PV → Bool
  | .bool a, .bool b => a == b
  | .int k n, .int k' n' => decide (k = k') && decide (n = n')
  | .str s, .str s' => decide (s = s')
  | .nilS, .nilS => true
  | .nilI, .nilI => true
  | .agg cs, .agg cs' => sameL cs cs'
  | .sl k xs f, .sl k' xs' f' => decide (k = k') && (f == f') && sameL xs xs'
  | _, _ => false
def sameL : List PV → List PV → Bool
  | [], [] => true
  | x :: xs, y :: ys => sameV x y && sameL xs ys
  | _, _ => false
end
mutual
theorem sameV_eq : ∀ (x y : PV), sameV x y = true → x = y
  | x, y, h => by
    unfold sameV at h
    split at h
    · simpa using h
    · simp only [Bool.and_eq_true, decide_eq_true_eq] at h; rw [h.1, h.2]
    · simp only [decide_eq_true_eq] at h; rw [h]
    · rfl
    · rfl
    · rename_i cs cs'; rw [sameL_eq cs cs' h]
    · rename_i k xs f k' xs' f'
      simp only [Bool.and_eq_true, decide_eq_true_eq, beq_iff_eq] at h
      rw [h.1.1, h.1.2, sameL_eq xs xs' h.2]
    · cases h
theorem sameL_eq : ∀ (xs ys : List PV), sameL xs ys = true → xs = ys
  | xs, ys, h => by
    unfold sameL at h
    split at h
    · rfl
    · rename_i x xs y ys
      simp only [Bool.and_eq_true] at h
      rw [sameV_eq x y h.1, sameL_eq xs ys h.2]
    · cases h
end
abbrev Known := List (FuncId × List PV × PV)
def memoOf : Known → FuncId → List PV → Option PV
  | [], _, _ => none
  | p :: l, g, args => if p.1 = g ∧ sameL p.2.1 args = true then some p.2.2 else memoOf l g args
def Rights (sp : FuncId → (Nm → Option Ob) → List PV → Option Out) (tab : FuncId → Option RFn) (l : Known) : Prop :=
  ∀ p ∈ l, ∃ n, evalFn sp tab n Unit noHandler 0 p.1 p.2.1 () = some (p.2.2, [], ())
theorem rights_nil {sp : FuncId → (Nm → Option Ob) → List PV → Option Out} {tab : FuncId → Option RFn} : Rights sp tab [] := fun _ h => by cases h
theorem rights_cons {sp : FuncId → (Nm → Option Ob) → List PV → Option Out} {tab : FuncId → Option RFn} {g : FuncId} {args : List PV} {r : PV} {l : Known}
    (h : ∃ n, evalFn sp tab n Unit noHandler 0 g args () = some (r, [], ())) (hl : Rights sp tab l) : Rights sp tab ((g, args, r) :: l) := fun p hp => by
  rcases List.mem_cons.1 hp with rfl | hp
  · exact h
  · exact hl p hp
theorem memo_right {sp : FuncId → (Nm → Option Ob) → List PV → Option Out} {tab : FuncId → Option RFn} : ∀ {l : Known}, Rights sp tab l → ∀ g args r, memoOf l g args = some r → ∃ n, evalFn sp tab n Unit noHandler 0 g args () = some (r, [], ())
  | [], _, _, _, _, h => by cases h
  | p :: l, hl, g, args, r, h => by
    unfold memoOf at h
    split at h
    · rename_i hp
      cases h
      have := hl p List.mem_cons_self
      rwa [hp.1, sameL_eq _ _ hp.2] at this
    · exact memo_right (fun q hq => hl q (List.mem_cons_of_mem _ hq)) g args r h
theorem ev_known {sp : FuncId → (Nm → Option Ob) → List PV → Option Out} {tab : FuncId → Option RFn} {l : Known} (hl : Rights sp tab l) {n : Nat} {g : FuncId} {args : List PV} {r : PV}
    (h : evalFm (memoOf l) sp tab n Unit noHandler 0 g args () = some (r, [], ())) : ∃ m, evalFn sp tab m Unit noHandler 0 g args () = some (r, [], ()) := ev_memo (memo_right hl) h
end Go.Ab


namespace Go.Ab.Derive
open Go Go.Ab
theorem ev_t75 : ∃ n, evalFn sp0 tab0 n Unit noHandler 0 75 [] () = some (.imap [.str [43], .fn 132 [], .str [45], .fn 102 [], .str [195, 151], .fn 133 [], .str [195, 183], .fn 106 [], .str [124], .fn 134 [], .str [226, 140, 136], .fn 135 [], .str [226, 140, 138], .fn 136 [], .str [61], .fn 137 [.ptr [.str [61]] 0], .str [226, 137, 160], .fn 137 [.ptr [.str [226, 137, 160]] 0], .str [60], .fn 137 [.ptr [.str [60]] 0], .str [62], .fn 137 [.ptr [.str [62]] 0], .str [226, 137, 164], .fn 137 [.ptr [.str [226, 137, 164]] 0], .str [226, 137, 165], .fn 137 [.ptr [.str [226, 137, 165]] 0], .str [226, 136, 167], .fn 139 [.ptr [.str [226, 136, 167]] 0], .str [226, 136, 168], .fn 139 [.ptr [.str [226, 136, 168]] 0]], [], ()) := ⟨60, by kernel_rfl⟩
theorem ev_t61 : ∃ n, evalFn sp0 tab0 n Unit noHandler 0 61 [] () = some (.imap [.str [43], .fn 100 [], .str [226, 140, 136], .fn 100 [], .str [226, 140, 138], .fn 100 [], .str [45], .fn 101 [], .str [195, 151], .fn 103 [], .str [195, 183], .fn 105 [], .str [126], .fn 107 [], .str [124], .fn 109 [.ptr [.fn 101 []] 0]], [], ()) := ⟨60, by kernel_rfl⟩
theorem ev_t66 : ∃ n, evalFn sp0 tab0 n Unit noHandler 0 66 [] () = some (.imap [.str [226, 141, 180], .agg [.fn 111 [], .fn 112 []], .str [226, 141, 179], .agg [.fn 113 [], .fn 114 []], .str [44], .agg [.fn 115 [], .fn 118 []], .str [226, 140, 189], .agg [.fn 119 [], .fn 120 []], .str [226, 134, 145], .agg [.fn 121 [], .fn 122 []], .str [226, 134, 147], .agg [.nilF, .fn 123 []], .str [226, 137, 162], .agg [.fn 124 [], .fn 126 []]], [], ()) := ⟨60, by kernel_rfl⟩
def kn1 : Known :=
  (75, [], .imap [.str [43], .fn 132 [], .str [45], .fn 102 [], .str [195, 151], .fn 133 [], .str [195, 183], .fn 106 [], .str [124], .fn 134 [], .str [226, 140, 136], .fn 135 [], .str [226, 140, 138], .fn 136 [], .str [61], .fn 137 [.ptr [.str [61]] 0], .str [226, 137, 160], .fn 137 [.ptr [.str [226, 137, 160]] 0], .str [60], .fn 137 [.ptr [.str [60]] 0], .str [62], .fn 137 [.ptr [.str [62]] 0], .str [226, 137, 164], .fn 137 [.ptr [.str [226, 137, 164]] 0], .str [226, 137, 165], .fn 137 [.ptr [.str [226, 137, 165]] 0], .str [226, 136, 167], .fn 139 [.ptr [.str [226, 136, 167]] 0], .str [226, 136, 168], .fn 139 [.ptr [.str [226, 136, 168]] 0]]) ::
  (61, [], .imap [.str [43], .fn 100 [], .str [226, 140, 136], .fn 100 [], .str [226, 140, 138], .fn 100 [], .str [45], .fn 101 [], .str [195, 151], .fn 103 [], .str [195, 183], .fn 105 [], .str [126], .fn 107 [], .str [124], .fn 109 [.ptr [.fn 101 []] 0]]) ::
  (66, [], .imap [.str [226, 141, 180], .agg [.fn 111 [], .fn 112 []], .str [226, 141, 179], .agg [.fn 113 [], .fn 114 []], .str [44], .agg [.fn 115 [], .fn 118 []], .str [226, 140, 189], .agg [.fn 119 [], .fn 120 []], .str [226, 134, 145], .agg [.fn 121 [], .fn 122 []], .str [226, 134, 147], .agg [.nilF, .fn 123 []], .str [226, 137, 162], .agg [.fn 124 [], .fn 126 []]]) ::
  []
theorem kn1_ok : Rights sp0 tab0 kn1 := rights_cons ev_t75 <| rights_cons ev_t61 <| rights_cons ev_t66 <| rights_nil
end Go.Ab.Derive

