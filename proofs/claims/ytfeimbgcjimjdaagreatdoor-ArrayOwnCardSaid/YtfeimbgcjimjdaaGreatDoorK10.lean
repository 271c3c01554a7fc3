/-
  Part 10 of a proof: a machine of our own for the given program, its laws, and what it says of the program. Nothing here is a claim by itself.
-/
import Derived.Test.YtfeimbgcjimjdaaGreatDoorK05
import Derived.Test.YtfeimbgcjimjdaaGreatDoorK06
import Derived.Test.YtfeimbgcjimjdaaGreatDoorK09
import Derived.Test.YtfeimbgcjimjdaaGreatDoorRows
import Derived.ProofKit
import Derived.ChangeMaps5
import Derived.ChangeSame
import Derived.ChangeVars
import Derived.JoinedOf
import Derived.RowKit
import Derived.RowKitTokens
import Derived.LaidLaws
import Derived.LaidHandle
import Derived.Stop.Joined
import Derived.Carry
import Derived.Stop.LaidTwo
import Derived.Stop.LaidErr
import Derived.LaidSub
import Derived.Lib.LaidTab
import Derived.Shelf.Vars
import Derived.Handed
set_option linter.all false

namespace Go.Ab
theorem loop_inv {σ ρ α : Type} {step : σ → Option (Sum σ ρ)} (st : Nat → α → σ) (n : Nat) (P : Nat → α → Prop) (Q : ρ → Prop)
    (hs : ∀ i a, i < n → P i a → (∃ a', step (st i a) = some (.inl (st (i + 1) a')) ∧ P (i + 1) a') ∨ ∃ r, step (st i a) = some (.inr r) ∧ Q r)
    (he : ∀ a, P n a → ∃ r, step (st n a) = some (.inr r) ∧ Q r) {a0 : α} (h0 : P 0 a0) : ∃ r, loopL step (st 0 a0) = some r ∧ Q r := by
  have key : ∀ m i a, i + m = n → P i a → ∃ r, loopL step (st i a) = some r ∧ Q r := by
    intro m
    induction m with
    | zero =>
      intro i a hi hp
      obtain rfl : i = n := by omega
      obtain ⟨r, h1, h2⟩ := he a hp
      exact ⟨r, loopL_inr h1, h2⟩
    | succ m ih =>
      intro i a hi hp
      rcases hs i a (by omega) hp with ⟨a', h1, h2⟩ | ⟨r, h1, h2⟩
      · rw [loopL_inl h1]; exact ih _ _ (by omega) h2
      · exact ⟨r, loopL_inr h1, h2⟩
  exact key n 0 a0 (by omega) h0
@[simp] theorem nth_9 (a0 a1 a2 a3 a4 a5 a6 a7 a8 x : PV) (l : List PV) : nth (a0 :: a1 :: a2 :: a3 :: a4 :: a5 :: a6 :: a7 :: a8 :: x :: l) 9 = x := rfl
@[simp] theorem nth_10 (a0 a1 a2 a3 a4 a5 a6 a7 a8 a9 x : PV) (l : List PV) : nth (a0 :: a1 :: a2 :: a3 :: a4 :: a5 :: a6 :: a7 :: a8 :: a9 :: x :: l) 10 = x := rfl
@[simp] theorem nth_11 (a0 a1 a2 a3 a4 a5 a6 a7 a8 a9 a10 x : PV) (l : List PV) : nth (a0 :: a1 :: a2 :: a3 :: a4 :: a5 :: a6 :: a7 :: a8 :: a9 :: a10 :: x :: l) 11 = x := rfl
@[simp] theorem nth_12 (a0 a1 a2 a3 a4 a5 a6 a7 a8 a9 a10 a11 x : PV) (l : List PV) : nth (a0 :: a1 :: a2 :: a3 :: a4 :: a5 :: a6 :: a7 :: a8 :: a9 :: a10 :: a11 :: x :: l) 12 = x := rfl
@[simp] theorem nth_13 (a0 a1 a2 a3 a4 a5 a6 a7 a8 a9 a10 a11 a12 x : PV) (l : List PV) : nth (a0 :: a1 :: a2 :: a3 :: a4 :: a5 :: a6 :: a7 :: a8 :: a9 :: a10 :: a11 :: a12 :: x :: l) 13 = x := rfl
end Go.Ab


namespace Go.Ab.Arrays
open Go Go.Ab
theorem rnums_lend {v u : PV} {l m : List Int} (hv : IsL v l) (hu : IsL u m) (hl : l.length ≤ 1000000) (hm : m.length ≤ 1000000) : lendO B0 .cl true 18 [v, u] = some (.bool (eqL l m)) := by
  refine lendN (d := fun _ => .cl) rfl (by simp [okVL, hv.ok, hu.ok]) rfl ?_ rfl
  rw [List.map_cons, List.map_cons, List.map_nil, run18, hv.len, hu.len]
  simp only [bV, I_neq, iteP_bool]
  by_cases hlm : l.length = m.length
  · have h1 : (((l.length : Int) != (m.length : Int)) = true) ↔ False := by simp [hlm]
    simp only [h1, if_false]
    have h0 : noUndef [v, u, .int .i64 0] = true := by simp only [noUndef, List.all_cons, hv.und, hu.und]; rfl
    rw [h0, cT]
    have key : ∀ k i, i + k = l.length → loopL (fun z4 => bindO (pureO (.len .slice (.c (nth z4.1 0)))) (fun z5 => bindO (pureO (.bin .lss .num false (.c (nth z4.1 2)) (.c z5))) (fun z6 => iteP z6 (bindO (pureO (.idxAddr 1 (.c (nth z4.1 0)) (.c (nth z4.1 2)))) (fun z7 => bindO (pureO (.load 1 false (.c z7))) (fun z8 => bindO (pureO (.idxAddr 1 (.c (nth z4.1 1)) (.c (nth z4.1 2)))) (fun z9 => bindO (pureO (.load 1 false (.c z9))) (fun z10 => bindO (pureO (.bin .neq .num false (.c z8) (.c z10))) (fun z11 => iteP z11 (bindO (some (PV.bool false, z4.2)) (fun z12 => some (.inr z12))) (bindO (pureO (.bin .add .num true (.c (nth z4.1 2)) (.c (.int .i64 1)))) (fun z13 => some (.inl ([nth z4.1 0, nth z4.1 1, z13], z4.2)))))))))) (bindO (some (PV.bool true, z4.2)) (fun z14 => some (.inr z14)))))) (([v, u, I i], ()) : List PV × Unit) = some (.bool (eqL (l.drop i) (m.drop i)), ()) := by
      intro k
      induction k with
      | zero =>
        intro i hi
        refine loopL_inr ?_
        have h2 : l.drop i = [] := List.drop_eq_nil_of_le (by omega)
        have h3 : m.drop i = [] := List.drop_eq_nil_of_le (by omega)
        have hlt : ¬ ((i : Int) < (l.length : Int)) := by omega
        simp only [nth_0, nth_1, nth_2, hv.len, bV, I_lss, hlt, decide_false, iteP_false, h2, h3, eqL]
      | succ k ih =>
        intro i hi
        have hlt : i < l.length := by omega
        have hlt2 : i < m.length := by omega
        have hlt' : (i : Int) < (l.length : Int) := by omega
        rw [drop_cons hlt, drop_cons hlt2]
        cases hx : (l[i] == m[i]) with
        | true =>
          have hb : (l[i] != m[i]) = false := by simp [bne, hx]
          rw [loopL_inl (s' := ([v, u, I ((i + 1 : Nat) : Int)], ()))]
          · rw [ih (i + 1) (by omega)]
            simp only [eqL, hx, Bool.true_and]
          · simp only [nth_0, nth_1, nth_2, hv.len, bV, I_lss, hlt', decide_true, iteP_true, hv.idx hlt, hu.idx hlt2, load_I, I_neq, hb, iteP_false, iD, I_add, wsucc (by omega : i < 9223372036854775807)]
        | false =>
          have hb : (l[i] != m[i]) = true := by simp [bne, hx]
          refine loopL_inr ?_
          simp only [nth_0, nth_1, nth_2, hv.len, bV, I_lss, hlt', decide_true, iteP_true, hv.idx hlt, hu.idx hlt2, load_I, I_neq, hb, eqL, hx, Bool.false_and]
    have := key l.length 0 (by omega)
    simpa [I_def] using this
  · have : ¬ (l.length : Int) = (m.length : Int) := by omega
    have h2 : eqL l m = false := by
      cases he : eqL l m with
      | false => rfl
      | true => exact absurd (congrArg List.length ((eqL_iff l m).1 he)) hlm
    simp [this, h2]
theorem nth_14 (a0 a1 a2 a3 a4 a5 a6 a7 a8 a9 a10 a11 a12 a13 x : PV) (l : List PV) : nth (a0 :: a1 :: a2 :: a3 :: a4 :: a5 :: a6 :: a7 :: a8 :: a9 :: a10 :: a11 :: a12 :: a13 :: x :: l) 14 = x := Eq.trans rfl rfl
theorem nth_15 (a0 a1 a2 a3 a4 a5 a6 a7 a8 a9 a10 a11 a12 a13 a14 x : PV) (l : List PV) : nth (a0 :: a1 :: a2 :: a3 :: a4 :: a5 :: a6 :: a7 :: a8 :: a9 :: a10 :: a11 :: a12 :: a13 :: a14 :: x :: l) 15 = x := Eq.trans rfl rfl
theorem nth_16 (a0 a1 a2 a3 a4 a5 a6 a7 a8 a9 a10 a11 a12 a13 a14 a15 x : PV) (l : List PV) : nth (a0 :: a1 :: a2 :: a3 :: a4 :: a5 :: a6 :: a7 :: a8 :: a9 :: a10 :: a11 :: a12 :: a13 :: a14 :: a15 :: x :: l) 16 = x := Eq.trans rfl rfl
theorem nth_17 (a0 a1 a2 a3 a4 a5 a6 a7 a8 a9 a10 a11 a12 a13 a14 a15 a16 x : PV) (l : List PV) : nth (a0 :: a1 :: a2 :: a3 :: a4 :: a5 :: a6 :: a7 :: a8 :: a9 :: a10 :: a11 :: a12 :: a13 :: a14 :: a15 :: a16 :: x :: l) 17 = x := Eq.trans rfl rfl
theorem nI_I (n : Nat) : nI n = I n := Eq.trans rfl rfl
theorem natP_In (n : Nat) : natP (I n) = n := Eq.trans rfl rfl
theorem items_sl (k : Nat) (xs : List PV) (f : Bool) : itemsP (.sl k xs f) = xs := Eq.trans rfl rfl
theorem natO_I (n : Nat) : natO (I n) = some n := by simp [natO, natOf, I]
theorem ltN_t {a b : Nat} (h : a < b) : ltN a b = true := by simp [ltN, h]
theorem set_ints {l : List Int} {i : Nat} (h : i < l.length) (n : Int) : setO 1 (ints l) (addN 0 i) 0 1 (I n) = some (ints (l.set i n)) := by
  have h1 : (ints l)[i]? = some (I l[i]) := by simp [ints, List.getElem?_eq_getElem h]
  unfold setO addN
  rw [Nat.zero_add, h1]
  simp [I, chkO, PV.isCell, ints, List.map_set]
theorem slO_all (l : List Int) : slO 1 1 (ints l) 0 l.length = .sl 1 (ints l) false := by
  unfold slO
  rw [if_pos ⟨rfl, by rw [ints_len]; omega⟩, List.drop_zero, List.take_of_length_le (by rw [ints_len]; exact Nat.le_refl _)]
theorem prj_t0 (a b : PV) : prjP (.tup [a, b]) 0 = a := Eq.trans rfl rfl
theorem prj_t1 (a b : PV) : prjP (.tup [a, b]) 1 = b := Eq.trans rfl rfl
theorem prj_a0 (a b c : PV) : prjP (.agg [a, b, c]) 0 = a := Eq.trans rfl rfl
theorem prj_a1 (a b c : PV) : prjP (.agg [a, b, c]) 1 = b := Eq.trans rfl rfl
theorem prj_a2 (a b c : PV) : prjP (.agg [a, b, c]) 2 = c := Eq.trans rfl rfl
theorem nilB_nil {β : Type} (a b : Option β) : nilB .nilS a b = a := Eq.trans rfl rfl
theorem nilB_sl {β : Type} (k : Nat) (xs : List PV) (f : Bool) (a b : Option β) : nilB (.sl k xs f) a b = b := Eq.trans rfl rfl
theorem len_nil : pureO (.len .slice (.c .nilS)) = some (I 0) := IsL.nil.len
theorem bO {α β : Type} {x : Option α} {f : α → Option β} {r : Option β} (a : α) (h : x = some a) (h2 : f a = r) : bindO x f = r := by subst h; exact h2
theorem cO {β : Type} {c : Bool} {x r : Option β} (h : c = true) (h2 : x = r) : chkO c x = r := by subst h; exact h2
theorem fill_loop {β : Type} {step : List PV × Unit → Option (Sum (List PV × Unit) β)} (st : Int → List PV → List PV) (n : Nat) (r : β)
    (hs : ∀ (i : Nat) (l : List Int), i < n → l.length = n → step (st i (ints l), ()) = some (.inl (st ((i + 1 : Nat) : Int) (ints (l.set i 99)), ())))
    (he : ∀ l : List Int, l.length = n → step (st n (ints l), ()) = some (.inr r)) {l : List Int} (h : l.length = n) : loopL step (st 0 (ints l), ()) = some r := by
  obtain ⟨r', h1, rfl⟩ := loop_inv (α := List Int) (fun i a => (st i (ints a), ())) n (fun _ a => a.length = n) (fun r' => r' = r)
    (fun i a hi ha => .inl ⟨_, hs i a hi ha, by simp [ha]⟩) (fun a ha => ⟨r, he a ha, rfl⟩) (a0 := l) h
  exact h1
set_option maxHeartbeats 1000000 in
theorem law_own {v u : PV} {a b : Arr} (hv : IsA v a) (hu : IsA u b) : runK (cfg0 B0 fun _ => .cl) fn7 .cl noHandler 0 [.cv v, .cv u] () = some (.bool true, ()) := by
  obtain ⟨v1, f1, i1⟩ := few_run hv
  obtain ⟨u1, f2, i2⟩ := few_run hu
  have la := few_len a
  have lb := few_len b
  generalize a.few = a' at *
  generalize b.few = b' at *
  obtain ⟨c, hc, ic⟩ := amonR i1 (by omega) [43]
  obtain ⟨d, hd, id⟩ := adyR i1 i2 (by omega) (by omega) [226, 140, 136]
  have l1 := c2_is i1
  have l2 := c2_is i2
  have mres : (Arr.mon [43] a').2 = 0 ∨ ((Arr.mon [43] a').2 ≠ 0 ∧ (Arr.mon [43] a').1 = noArr) := by
    by_cases h : (Arr.mon [43] a').2 = 0
    · exact .inl h
    · exact .inr ⟨h, mon_err h⟩
  have dres : (Arr.dy [226, 140, 136] a' b').2 = 0 ∨ ((Arr.dy [226, 140, 136] a' b').2 ≠ 0 ∧ (Arr.dy [226, 140, 136] a' b').1 = noArr) := by
    by_cases h : (Arr.dy [226, 140, 136] a' b').2 = 0
    · exact .inl h
    · exact .inr ⟨h, dy_err h⟩
  have bm : (Arr.mon [43] a').1.n.length ≤ 1000 := by
    by_cases h : (Arr.mon [43] a').2 = 0
    · obtain ⟨r, h1, _, h3⟩ := mon_ok h
      rw [h1]
      show r.length ≤ 1000
      omega
    · rw [mon_err h]; exact Nat.zero_le _
  have bd : (Arr.dy [226, 140, 136] a' b').1.n.length ≤ 1000 := by
    by_cases h : (Arr.dy [226, 140, 136] a' b').2 = 0
    · obtain ⟨r, h1, h2⟩ := dy_ok h
      rw [h1]
      have := right_len h2.right
      show r.length ≤ 1000
      simp only at this
      omega
    · rw [dy_err h]; exact Nat.zero_le _
  have n1 := rnums_lend l1 (.sl a'.n false) (by omega) (by omega)
  have n2 := rnums_lend l2 (.sl b'.n false) (by omega) (by omega)
  rw [(eqL_iff _ _).2 rfl] at n1 n2
  rw [run7, valO_is hv, valO_is hu, cT, cT, shown_run]
  simp only [bV, sel_is hv, sel_is hu, f1, f2, okSto_is i1 hv, okSto_is i2 hu, stoP_is i1 hv, stoP_is i2 hu, cT, s2_is i1, s2_is i2, l1.elems, l2.elems, sel_is i1, sel_is i2]
  have e1 : leN (lenL (ints a'.n)) 2147483648 = true := by simp [leN, lenL, ints_len]; omega
  have e2 : leN (lenL (ints b'.n)) 2147483648 = true := by simp [leN, lenL, ints_len]; omega
  simp only [e1, e2, cT, hc, hd, bV]
  have le1 : ∀ x, lenL (ints x) = x.length := fun x => by simp [lenL, ints_len]
  generalize (Arr.mon [43] a').2 = e at *
  generalize (Arr.mon [43] a').1 = cc at *
  generalize (Arr.dy [226, 140, 136] a' b').2 = f at *
  generalize (Arr.dy [226, 140, 136] a' b').1 = dd at *
  obtain ⟨x, rfl, hx⟩ := ic.get
  obtain ⟨y, rfl, hy⟩ := id.get
  have eb : (e == 0) = true ∨ ((e == 0) = false ∧ cc.n.length = 0) := by
    rcases mres with h | ⟨h, rfl⟩
    · exact .inl (by simpa using h)
    · exact .inr ⟨by simpa using h, rfl⟩
  have fb : (f == 0) = true ∨ ((f == 0) = false ∧ dd.n.length = 0) := by
    rcases dres with h | ⟨h, rfl⟩
    · exact .inl (by simpa using h)
    · exact .inr ⟨by simpa using h, rfl⟩
  simp only [prj_t0, prj_t1, prj_a0, prj_a1, prj_a2]
  clear mres dres ic id hc hd hv hu f1 f2
  have z0 : ((0 : Int) == 0) = true := rfl
  have z1 : (((0 : Nat) : Int) == 0) = true := rfl
  have s1 := slO_all a'.n
  have s2 := slO_all b'.n
  generalize hcl : cc.n = cl at *
  generalize hdl : dd.n = dl at *
  cases hx with
  | nil =>
    rw [nilB_nil]
    cases hy with
    | nil =>
      rw [nilB_nil]
      refine cO rfl ?_
      refine loopL_inr ?_
      simp only [nth_0, nth_1, nth_2, nth_3, nth_4, nth_5, nth_6, nth_7, nth_8, nth_9, nth_10, nth_11, nth_12, nth_13, nth_14, nth_15, nth_16, nth_17, bV, cT, nI_I, natP_In, items_sl, iD, len_nil, I_lss, Int.lt_irrefl, decide_false, iteP_false]
      refine bO (PV.bool true, ()) (cO rfl ?_) rfl
      refine loopL_inr ?_
      simp only [nth_0, nth_1, nth_2, nth_3, nth_4, nth_5, nth_6, nth_7, nth_8, nth_9, nth_10, nth_11, nth_12, nth_13, nth_14, nth_15, nth_16, nth_17, bV, cT, nI_I, natP_In, items_sl, iD, len_nil, I_lss, Int.lt_irrefl, decide_false, iteP_false]
      rcases eb with eb | ⟨eb, hn⟩ <;> rcases fb with fb | ⟨fb, hm⟩ <;>
        simp (config := { decide := false }) only [nth_0, nth_1, nth_2, nth_3, nth_4, nth_5, nth_6, nth_7, nth_8, nth_9, nth_10, nth_11, nth_12, nth_13, nth_14, nth_15, nth_16, nth_17, bV, cT, nI_I, natP_In, items_sl, iD, s2_is i1, s2_is i2, s1, s2, n1, n2, iteP_true, iteP_false, I_eql, eb, fb, len_nil, z0, z1, *]
    | sl _ ff =>
      rw [nilB_sl]
      simp only [items_sl, le1, nI_I]
      refine cO rfl ?_
      refine loopL_inr ?_
      simp only [nth_0, nth_1, nth_2, nth_3, nth_4, nth_5, nth_6, nth_7, nth_8, nth_9, nth_10, nth_11, nth_12, nth_13, nth_14, nth_15, nth_16, nth_17, bV, cT, nI_I, natP_In, items_sl, iD, len_nil, I_lss, Int.lt_irrefl, decide_false, iteP_false]
      refine bO (PV.bool true, ()) (cO rfl ?_) rfl
      refine fill_loop (st := fun i ys => [.bool true, I a'.n.length, I b'.n.length, I e, I f, I i, v1, u1, .bool cc.li, .bool cc.ru, .nilS, .bool dd.li, .bool dd.ru, I dl.length, .sl 1 (ints a'.n) false, .sl 1 (ints b'.n) false, .sl 1 ys false]) dl.length _ (fun i l hi hl => ?_) (fun l hl => ?_) rfl
      · have hi0 : (i : Int) < (dl.length : Int) := by omega
        have hi1 : i < l.length := by omega
        simp only [nth_0, nth_1, nth_2, nth_3, nth_4, nth_5, nth_6, nth_7, nth_8, nth_9, nth_10, nth_11, nth_12, nth_13, nth_14, nth_15, nth_16, nth_17, bV, cT, nI_I, natP_In, items_sl, iD, I_lss, hi0, decide_true, iteP_true, natO_I, ltN_t hi, set_ints hi1, I_add, wsucc (by omega : i < 9223372036854775807)]
      · simp only [nth_0, nth_1, nth_2, nth_3, nth_4, nth_5, nth_6, nth_7, nth_8, nth_9, nth_10, nth_11, nth_12, nth_13, nth_14, nth_15, nth_16, nth_17, bV, cT, nI_I, natP_In, items_sl, iD, I_lss, Int.lt_irrefl, decide_false, iteP_false]
        rcases eb with eb | ⟨eb, hn⟩ <;> rcases fb with fb | ⟨fb, hm⟩ <;>
          simp (config := { decide := false }) only [nth_0, nth_1, nth_2, nth_3, nth_4, nth_5, nth_6, nth_7, nth_8, nth_9, nth_10, nth_11, nth_12, nth_13, nth_14, nth_15, nth_16, nth_17, bV, cT, nI_I, natP_In, items_sl, iD, s2_is i1, s2_is i2, s1, s2, n1, n2, iteP_true, iteP_false, I_eql, eb, fb, len_nil, z0, z1, *]
  | sl _ fc =>
    rw [nilB_sl]
    cases hy with
    | nil =>
      rw [nilB_nil]
      simp only [items_sl, le1, nI_I]
      refine cO rfl ?_
      refine fill_loop (st := fun i ys => [.bool true, I a'.n.length, I b'.n.length, I e, I f, I i, v1, u1, .bool cc.li, .bool cc.ru, I cl.length, .bool dd.li, .bool dd.ru, .nilS, .sl 1 (ints a'.n) false, .sl 1 (ints b'.n) false, .sl 1 ys false]) cl.length _ (fun i l hi hl => ?_) (fun l hl => ?_) rfl
      · have hi0 : (i : Int) < (cl.length : Int) := by omega
        have hi1 : i < l.length := by omega
        simp only [nth_0, nth_1, nth_2, nth_3, nth_4, nth_5, nth_6, nth_7, nth_8, nth_9, nth_10, nth_11, nth_12, nth_13, nth_14, nth_15, nth_16, nth_17, bV, cT, nI_I, natP_In, items_sl, iD, I_lss, hi0, decide_true, iteP_true, natO_I, ltN_t hi, set_ints hi1, I_add, wsucc (by omega : i < 9223372036854775807)]
      · simp only [nth_0, nth_1, nth_2, nth_3, nth_4, nth_5, nth_6, nth_7, nth_8, nth_9, nth_10, nth_11, nth_12, nth_13, nth_14, nth_15, nth_16, nth_17, bV, cT, nI_I, natP_In, items_sl, iD, I_lss, Int.lt_irrefl, decide_false, iteP_false]
        refine bO (PV.bool true, ()) (cO rfl ?_) rfl
        refine loopL_inr ?_
        simp only [nth_0, nth_1, nth_2, nth_3, nth_4, nth_5, nth_6, nth_7, nth_8, nth_9, nth_10, nth_11, nth_12, nth_13, nth_14, nth_15, nth_16, nth_17, bV, cT, nI_I, natP_In, items_sl, iD, len_nil, I_lss, Int.lt_irrefl, decide_false, iteP_false]
        rcases eb with eb | ⟨eb, hn⟩ <;> rcases fb with fb | ⟨fb, hm⟩ <;>
          simp (config := { decide := false }) only [nth_0, nth_1, nth_2, nth_3, nth_4, nth_5, nth_6, nth_7, nth_8, nth_9, nth_10, nth_11, nth_12, nth_13, nth_14, nth_15, nth_16, nth_17, bV, cT, nI_I, natP_In, items_sl, iD, s2_is i1, s2_is i2, s1, s2, n1, n2, iteP_true, iteP_false, I_eql, eb, fb, len_nil, z0, z1, *]
    | sl _ ff =>
      rw [nilB_sl]
      simp only [items_sl, le1, nI_I]
      refine cO rfl ?_
      refine fill_loop (st := fun i ys => [.bool true, I a'.n.length, I b'.n.length, I e, I f, I i, v1, u1, .bool cc.li, .bool cc.ru, I cl.length, .bool dd.li, .bool dd.ru, I dl.length, .sl 1 (ints a'.n) false, .sl 1 (ints b'.n) false, .sl 1 ys false, .sl 1 (ints dl) false]) cl.length _ (fun i l hi hl => ?_) (fun l hl => ?_) rfl
      · have hi0 : (i : Int) < (cl.length : Int) := by omega
        have hi1 : i < l.length := by omega
        simp only [nth_0, nth_1, nth_2, nth_3, nth_4, nth_5, nth_6, nth_7, nth_8, nth_9, nth_10, nth_11, nth_12, nth_13, nth_14, nth_15, nth_16, nth_17, bV, cT, nI_I, natP_In, items_sl, iD, I_lss, hi0, decide_true, iteP_true, natO_I, ltN_t hi, set_ints hi1, I_add, wsucc (by omega : i < 9223372036854775807)]
      · simp only [nth_0, nth_1, nth_2, nth_3, nth_4, nth_5, nth_6, nth_7, nth_8, nth_9, nth_10, nth_11, nth_12, nth_13, nth_14, nth_15, nth_16, nth_17, bV, cT, nI_I, natP_In, items_sl, iD, I_lss, Int.lt_irrefl, decide_false, iteP_false]
        refine bO (PV.bool true, ()) (cO rfl ?_) rfl
        refine fill_loop (st := fun i ys => [.bool true, I a'.n.length, I b'.n.length, I e, I f, I i, v1, u1, .bool cc.li, .bool cc.ru, I cl.length, .bool dd.li, .bool dd.ru, I dl.length, .sl 1 (ints a'.n) false, .sl 1 (ints b'.n) false, .sl 1 (ints l) false, .sl 1 ys false]) dl.length _ (fun i l hi hl => ?_) (fun l hl => ?_) rfl
        · have hi0 : (i : Int) < (dl.length : Int) := by omega
          have hi1 : i < l.length := by omega
          simp only [nth_0, nth_1, nth_2, nth_3, nth_4, nth_5, nth_6, nth_7, nth_8, nth_9, nth_10, nth_11, nth_12, nth_13, nth_14, nth_15, nth_16, nth_17, bV, cT, nI_I, natP_In, items_sl, iD, I_lss, hi0, decide_true, iteP_true, natO_I, ltN_t hi, set_ints hi1, I_add, wsucc (by omega : i < 9223372036854775807)]
        · simp only [nth_0, nth_1, nth_2, nth_3, nth_4, nth_5, nth_6, nth_7, nth_8, nth_9, nth_10, nth_11, nth_12, nth_13, nth_14, nth_15, nth_16, nth_17, bV, cT, nI_I, natP_In, items_sl, iD, I_lss, Int.lt_irrefl, decide_false, iteP_false]
          rcases eb with eb | ⟨eb, hn⟩ <;> rcases fb with fb | ⟨fb, hm⟩ <;>
            simp (config := { decide := false }) only [nth_0, nth_1, nth_2, nth_3, nth_4, nth_5, nth_6, nth_7, nth_8, nth_9, nth_10, nth_11, nth_12, nth_13, nth_14, nth_15, nth_16, nth_17, bV, cT, nI_I, natP_In, items_sl, iD, s2_is i1, s2_is i2, s1, s2, n1, n2, iteP_true, iteP_false, I_eql, eb, fb, len_nil, z0, z1, *]
end Go.Ab.Arrays


namespace Go.Ab.Arrays
open Go Go.Ab Go.Proofs
theorem sp_loc : SpLocal sp0 := by
  intro g σ σ' vs h
  unfold sp0
  split
  · unfold spAs
    split
    · rfl
    · rename_i t x p nm o
      have hm : nm ∈ reach σ deepest (namesL [.iface t x, .iface p (.ref nm o)]) := reach_mem _ _ nm (by simp [namesL, PV.names])
      rw [h nm hm]
    · rfl
  iterate 5
    split
    · rfl
  split
  · unfold spCheck
    split
    · rename_i n
      have hm : n ∈ reach σ deepest (namesL [.ref n 0]) := reach_mem _ _ n (by simp [namesL, PV.names])
      rw [h n hm]
    · rfl
  split
  · unfold spStr
    split
    · rename_i n
      have hm : n ∈ reach σ deepest (namesL [.ref n 0]) := reach_mem _ _ n (by simp [namesL, PV.names])
      rw [← h n hm]
      have h2 : ∀ a n' k, σ n = some (.cells 99 [a, .arr n' 1 0 k]) → σ n' = σ' n' := by
        intro a n' k he
        refine h n' ?_
        show n' ∈ reach σ 3 [n]
        unfold reach
        refine List.mem_append_right _ (reach_mem _ _ n' ?_)
        simp [he, Ob.names, namesL, PV.names]
      generalize hx : σ n = o at *
      split
      · rfl
      · rename_i a n' k
        rw [h2 a n' k rfl]
      · rfl
    · rfl
  rfl
theorem tab_ok : TabOK cx0 tab0 (deadOf Tryz.prog) := by
  intro f fn h
  unfold tab0 at h
  split at h
  · cases h; exact mkF_comp (by kernel_rfl)
  · cases h; exact mkF_comp (by kernel_rfl)
  · cases h; exact mkF_comp (by kernel_rfl)
  · cases h; exact mkF_comp (by kernel_rfl)
  · cases h; exact mkF_comp (by kernel_rfl)
  · cases h; exact mkF_comp (by kernel_rfl)
  · cases h; exact mkF_comp (by kernel_rfl)
  · cases h; exact mkF_comp (by kernel_rfl)
  · cases h; exact mkF_comp (by kernel_rfl)
  · cases h; exact mkF_comp (by kernel_rfl)
  · cases h; exact mkF_comp (by kernel_rfl)
  · cases h; exact mkF_comp (by kernel_rfl)
  · cases h; exact mkF_comp (by kernel_rfl)
  · cases h; exact mkF_comp (by kernel_rfl)
  · cases h; exact mkF_comp (by kernel_rfl)
  · cases h; exact mkF_comp (by kernel_rfl)
  · cases h; exact mkF_comp (by kernel_rfl)
  · cases h; exact mkF_comp (by kernel_rfl)
  · cases h; exact mkF_comp (by kernel_rfl)
  · cases h; exact mkF_comp (by kernel_rfl)
  · cases h; exact mkF_comp (by kernel_rfl)
  · cases h; exact mkF_comp (by kernel_rfl)
  · cases h; exact mkF_comp (by kernel_rfl)
  · cases h; exact mkF_comp (by kernel_rfl)
  · cases h; exact mkF_comp (by kernel_rfl)
  · cases h; exact mkF_comp (by kernel_rfl)
  · cases h; exact mkF_comp (by kernel_rfl)
  · cases h; exact mkF_comp (by kernel_rfl)
  · cases h; exact mkF_comp (by kernel_rfl)
  · cases h; exact mkF_comp (by kernel_rfl)
  · cases h; exact mkF_comp (by kernel_rfl)
  · cases h; exact mkF_comp (by kernel_rfl)
  · cases h; exact mkF_comp (by kernel_rfl)
  · cases h; exact mkF_comp (by kernel_rfl)
  · cases h; exact mkF_comp (by kernel_rfl)
  · cases h; exact mkF_comp (by kernel_rfl)
  · cases h; exact mkF_comp (by kernel_rfl)
  · cases h; exact mkF_comp (by kernel_rfl)
  · cases h; exact mkF_comp (by kernel_rfl)
  · cases h; exact mkF_comp (by kernel_rfl)
  · cases h; exact mkF_comp (by kernel_rfl)
  · cases h; exact mkF_comp (by kernel_rfl)
  · cases h; exact mkF_comp (by kernel_rfl)
  · cases h; exact mkF_comp (by kernel_rfl)
  · cases h; exact mkF_comp (by kernel_rfl)
  · cases h; exact mkF_comp (by kernel_rfl)
  · cases h; exact mkF_comp (by kernel_rfl)
  · cases h; exact mkF_comp (by kernel_rfl)
  · cases h; exact mkF_comp (by kernel_rfl)
  · cases h; exact mkF_comp (by kernel_rfl)
  · cases h; exact mkF_comp (by kernel_rfl)
  · cases h; exact mkF_comp (by kernel_rfl)
  · cases h; exact mkF_comp (by kernel_rfl)
  · cases h; exact mkF_comp (by kernel_rfl)
  · cases h; exact mkF_comp (by kernel_rfl)
  · cases h; exact mkF_comp (by kernel_rfl)
  · cases h; exact mkF_comp (by kernel_rfl)
  · cases h; exact mkF_comp (by kernel_rfl)
  · cases h; exact mkF_comp (by kernel_rfl)
  · cases h; exact mkF_comp (by kernel_rfl)
  · cases h; exact mkF_comp (by kernel_rfl)
  · cases h; exact mkF_comp (by kernel_rfl)
  · cases h; exact mkF_comp (by kernel_rfl)
  · cases h; exact mkF_comp (by kernel_rfl)
  · cases h; exact mkF_comp (by kernel_rfl)
  · cases h; exact mkF_comp (by kernel_rfl)
  · cases h; exact mkF_comp (by kernel_rfl)
  · cases h; exact mkF_comp (by kernel_rfl)
  · cases h; exact mkF_comp (by kernel_rfl)
  · cases h; exact mkF_comp (by kernel_rfl)
  · cases h; exact mkF_comp (by kernel_rfl)
  · cases h; exact mkF_comp (by kernel_rfl)
  · cases h
theorem law_done {g : FuncId} {fn : RFn} (ht : tab0 g = some fn) {args : List PV} (ha : okVL args = true) (hl : args.length ≤ fn.nt)
    (hr : runK (cfg0 B0 fun _ => .cl) fn .cl noHandler 0 (args.map KV.cv) () = some (.bool true, ())) {I : Nat → Prop} {w : World} {vs : List Value}
    (hI : ∀ b, I b → b < w.heap.size) (hw : cx0.Wd I w) (hrep : RepL w I (fun _ => none) none args vs) :
    Calls cx0.P g vs.toArray w fun e w' => e = .returned (.bool true) ∧ LawEnd w w' := by
  obtain ⟨n, hn⟩ := law_of_run (cfg_ok fun _ => .cl) ht ha hl hr
  exact law_calls (fn_ok sp_ok sp_loc tab_ok n) hn hI hw hrep
def arrD : DTy := .struct [.bool, .bool, .slice (.int .i64)]
theorem ints_of : ∀ (xs : List PV), (∀ x ∈ xs, HasV (.int .i64) x) → ∃ l, xs = ints l
  | [], _ => ⟨[], rfl⟩
  | x :: xs, h => by
    obtain ⟨n, rfl, _⟩ := h x List.mem_cons_self
    obtain ⟨l, rfl⟩ := ints_of xs fun y hy => h y (List.mem_cons_of_mem _ hy)
    exact ⟨n :: l, rfl⟩
theorem arr_of {v : PV} (h : HasV arrD v) : ∃ a, IsA v a := by
  obtain ⟨vs, rfl, b, r, rfl, ⟨b, rfl⟩, c, r, rfl, ⟨c, rfl⟩, x, r, rfl, hx, rfl⟩ := h
  have key : ∃ l, IsL x l ∧ x.cells = [x] := by
    rcases hx with rfl | ⟨xs, rfl, _, hx⟩
    · exact ⟨[], .nil, rfl⟩
    · obtain ⟨l, rfl⟩ := ints_of xs hx
      exact ⟨l, .sl l false, rfl⟩
  obtain ⟨l, h1, h2⟩ := key
  refine ⟨⟨b, c, l⟩, ?_⟩
  rw [show cellsL [PV.bool b, PV.bool c, x] = [.bool b, .bool c, x] by simp only [cellsL, h2]; rfl]
  exact .mk _ _ _ _ h1
def Told (fn : RFn) (Ds : List DTy) : Prop := ∀ us, HasVs Ds us → okVL us = true ∧ us.length ≤ fn.nt ∧ runK (cfg0 B0 fun _ => .cl) fn .cl noHandler 0 (us.map KV.cv) () = some (.bool true, ())
theorem told_own : Told fn7 [arrD, arrD] := by
  rintro us ⟨_, _, rfl, ha, _, _, rfl, hb, rfl⟩
  obtain ⟨a, ha⟩ := arr_of ha
  obtain ⟨b, hb⟩ := arr_of hb
  exact ⟨by simp [okVL, ha.ok, hb.ok], Nat.le_of_ble_eq_true rfl, law_own ha hb⟩
end Go.Ab.Arrays


namespace Go.Ab.Arrays
open Go Go.Ab Go.Proofs Go.Proofs.YtfeimbgcjimjdaaGreatDoor Go.ChangeShapes Go.WideShapes Go.RowKit
theorem p_own : ownKnob Tryz.prog.godebug = none := by kernel_rfl
theorem p_et : Tryz.prog.globalNamed "errors.errorType" = some 0 := by kernel_rfl
theorem p_e1 : Tryz.prog.globalNamed "diaeresis/number.errOver" = some 1 := by kernel_rfl
theorem p_e2 : Tryz.prog.globalNamed "diaeresis/number.errDivide" = some 2 := by kernel_rfl
theorem p_t1 : (Tryz.prog.globals[1]?).map (·.type) = some 42 := by kernel_rfl
theorem p_t2 : (Tryz.prog.globals[2]?).map (·.type) = some 42 := by kernel_rfl
theorem p_p : Tryz.prog.globalNamed "internal/strconv.uint64pow10" = some 8 := by kernel_rfl
theorem p_pt : (Tryz.prog.globals[8]?).map (·.type) = some 184 := by kernel_rfl
theorem p_rt : (Tryz.prog.cutTypes.find? (·.1 == "internal/reflectlite.rtype")).map (·.2) = some 130 := by kernel_rfl
theorem p_oneRow : ((List.range 221).filter fun t => Tryz.prog.rowNamed t [101, 114, 114, 111, 114]) = [42] := by kernel_rfl
theorem p_size : Tryz.prog.types.size = 221 := by kernel_rfl
theorem p_c177 : Tryz.prog.cellsOf 177 = 1 := by kernel_rfl
theorem p_c9 : Tryz.prog.cellsOf 9 = 1 := by kernel_rfl
theorem p_star : "*" ++ "errors.errorString" = "*errors.errorString" := by decide
theorem p_row (u : TypeId) (h : Tryz.prog.typeName? 3 u = some "*errors.errorString") : u = 175 :=
  typeName_ptr_named (nm := "errors.errorString") (by rw [p_star]; kernel_rfl) (by kernel_rfl) (by decide) u (by rw [p_star]; exact h)
theorem row_of_var {W : World} {n : String} {g : Nat} {cs : Array Value} (hg : Tryz.prog.globalNamed n = some g) (h : W.var? Tryz.prog n = some cs) : ∃ E fr, W.heap[g]? = some (.cells cs E fr) := by
  unfold World.var? at h
  rw [hg] at h
  simp only [Option.bind_some] at h
  split at h
  · rename_i cs' E fr hh
    cases h
    exact ⟨E, fr, hh⟩
  · cases h
theorem in_heap {W : World} {b : Nat} {o : Obj} (h : W.heap[b]? = some o) : b < W.heap.size := (Array.getElem?_eq_some_iff.1 h).1
set_option maxRecDepth 100000 in
theorem vars_of_laid {W : World} (hsh : W.ShapedOpen Tryz.prog) (h : laidMetH Tryz.prog Rows.arrayOwnRow.laid W) : Vars (fun b => b < W.heap.size) W := by
  have h' : handlesMet Tryz.prog [("errors.errorType", Rows.laid_errors_errorType)] W := h.2
  have hd : laidMet Tryz.prog [("math/bits.deBruijn32tab", Rows.laid_math_bits_deBruijn32tab), ("math/bits.deBruijn64tab", Rows.laid_math_bits_deBruijn64tab), ("internal/strconv.uint64pow10", Rows.laid_internal_strconv_uint64pow10), ("unicode/utf8.acceptRanges", Rows.laid_unicode_utf8_acceptRanges), ("diaeresis/number.errOver", Rows.laid_diaeresis_number_errOver), ("diaeresis/number.errDivide", Rows.laid_diaeresis_number_errDivide), ("strconv.ErrRange", Rows.laid_strconv_ErrRange), ("strconv.ErrSyntax", Rows.laid_strconv_ErrSyntax), ("unicode/utf8.first", Rows.laid_unicode_utf8_first)] W := h.1
  have hs := hd.filter fun x => x.1 == "diaeresis/number.errOver" || x.1 == "diaeresis/number.errDivide"
  have hp := hd.filter fun x => x.1 == "internal/strconv.uint64pow10"
  have hs : laidMet Tryz.prog [("diaeresis/number.errOver", Rows.laid_diaeresis_number_errOver), ("diaeresis/number.errDivide", Rows.laid_diaeresis_number_errDivide)] W := hs
  have hp : laidMet Tryz.prog [("internal/strconv.uint64pow10", Lib.tabData .u64 Lib.pow10Tab)] W := hp
  obtain ⟨name, u, ty, e1, e2, e3, e4, e5⟩ := h' _ (List.mem_singleton.2 rfl)
  have en : name = [101, 114, 114, 111, 114] := (Option.some.inj e1).symm
  subst en
  obtain rfl := Option.some.inj (p_rt.symm.trans e2)
  have hm : ty ∈ (List.range 221).filter fun t => Tryz.prog.rowNamed t [101, 114, 114, 111, 114] := List.mem_filter.2 ⟨List.mem_range.2 (by rw [← p_size]; exact e3), e4⟩
  rw [p_oneRow] at hm
  obtain rfl := List.mem_singleton.1 hm
  have hh : typeHandle Tryz.prog 42 = .pointer (some ⟨11, 42, none⟩) := by kernel_rfl
  rw [hh] at e5
  obtain ⟨a0, a1, s0, s1, c0, c1, t0, t1, hv0, hv1, hc0, hs0, hz0, hc1, hs1, hz1, hne, hb0, hb1⟩ := laid_sentinels2 hs p_e1 p_t1 p_e2 p_t2 Tryz.underlying42 p_row Tryz.underlying175 Tryz.underlying177 rfl rfl Tryz.underlying9 p_c177 p_c9
  obtain ⟨E1, f1, r1⟩ := row_of_var p_e1 hv0
  obtain ⟨E2, f2, r2⟩ := row_of_var p_e2 hv1
  have hpw : Lib.TabIs Tryz.prog W "internal/strconv.uint64pow10" .u64 Lib.pow10Tab := Lib.tabIs_of_head p_p p_pt Tryz.underlying184 Tryz.underlying143 (by kernel_rfl) (by kernel_rfl) hp
  obtain ⟨E3, f3, r3⟩ := row_of_var p_p hpw
  have hml : ∃ m, W.cell? ⟨3, 0, none⟩ = some (.int .i64 m) := cell_of_shapedOpen_int hsh (g := 3) (t := 3) (zero := #[.int .i64 0]) (of_decide_eq_true (by kernel_rfl)) (by kernel_rfl) rfl (by kernel_rfl) (by kernel_rfl) Tryz.underlying3
  exact ⟨by simpa using World.var?_cell p_et e5 0, ⟨a0, a1, c0, c1, t0, t1, E1, E2, f1, f2, r1, r2, hne, in_heap hb0, in_heap hb1, hb0, hb1⟩, hml, ⟨E3, f3, r3⟩⟩
theorem wd_of_laid {W : World} (hsh : W.ShapedOpen Tryz.prog) (h : laidMetH Tryz.prog Rows.arrayOwnRow.laid W) : cx0.Wd (fun b => b < W.heap.size) W := by
  have hv := vars_of_laid hsh h
  refine ⟨?_, hv⟩
  have h8 : 8 < W.heap.size := by
    obtain ⟨E, fr, r⟩ := hv.pw
    exact in_heap r
  exact ⟨by omega, by omega, by omega, by omega, h8⟩
theorem change_and_shaped {H : Type} {enc : TypeId × Value → H} {C : Checked} {os : Os} {f : FuncId} {fn : Func} {s : ChangeSpec} {conds : List PathCond} {apart fresh handsOn again : Bool} {X : World → Array Value → Prop}
    (hX : ∀ (w w' : World) (args : Array Value), w.heap = w'.heap → X w args → X w' args)
    (own : ownKnob C.prog.godebug = none) (started : os.Started) (noInit : C.prog.inits.idxOf? f = none) (hfn : C.prog.funcs[f]? = some fn)
    (witness : ∃ (w : World) (tape : Tape) (i : Input), w.os = os ∧ (w.forCall tape i).Shaped C.prog ∧ i.vars = [] ∧ Input.okWide C.prog (w.forCall tape i) .any w.heap.size f i ∧
      ((s.pre enc C.prog fn conds apart (w.forCall tape i).memory i.args ∧ X (w.forCall tape i).memory i.args) ∧ sizedMet enc C.prog fn (OpenSpec.ofChange s) apart (w.forCall tape i).memory i.args) ∧ ({} : Assume).holds C.prog (lone (Frame.enter C.prog f i.args .normal) [] (w.forCall tape i)))
    (contract : ∀ (W : World) (base : Nat) (args : Array Value) (ds gs : List (DataW H)) (before : List MemPlace),
      (∀ (j : Nat) t v, fn.params[j]? = some t → args[j]? = some v → Value.okWide C.prog W .any base t v) →
      DataW.Whole enc C.prog fn.params.toList s.vars apart W args.toList ds gs before → X W args → W.ShapedOpen C.prog →
      Calls C.prog f args W fun e W' => ∃ v, e = .returned v ∧ s.post enc C.prog fn apart fresh handsOn again W args v W') :
    ReturnsInHanded {} C os f .any (fun w args => (s.pre enc C.prog fn conds apart w args ∧ X w args) ∧ sizedMet enc C.prog fn (OpenSpec.ofChange s) apart w args) (s.post enc C.prog fn apart fresh handsOn again) := by
  refine returnsInHanded_of_calls own started noInit witness ?_
  intro w tape i _ hsh _ hok hpre _
  obtain ⟨_, _, _, fn', hfn', _, _, _, _, hval⟩ := hok
  have e : fn' = fn := Option.some.inj (hfn'.symm.trans hfn)
  subst e
  obtain ⟨⟨⟨ds, gs, before, hw, hc⟩, hx⟩, hz⟩ := hpre
  have hw' := DataW.Whole.of_heap (w' := w.forCall tape i) (by rfl) hw
  refine (contract (w.forCall tape i) w.heap.size i.args ds gs before hval hw' (hX _ _ _ (by rfl) hx) hsh).mono fun e W' ⟨v, he, hp⟩ => ?_
  subst he
  exact ChangeSpec.post_blind hp
mutual
def tabCells : DataW Unit → List Value
  | .lit (.int k n) => [.int k n]
  | .agg ds => tabCellsL ds
  | _ => []
def tabCellsL : List (DataW Unit) → List Value
  | [] => []
  | d :: ds => tabCells d ++ tabCellsL ds
end
def textOf : DataW Unit → ByteArray
  | .iface _ (.ptr (.agg [.lit (.string s)])) => ⟨s.toArray⟩
  | _ => ⟨#[]⟩
def putTab (h : Array Obj) (i : Nat) (d : DataW Unit) : Array Obj := h.modify i fun
  | .cells _ t frozen => .cells (tabCells d).toArray t frozen
  | o => o
def putCell (h : Array Obj) (i : Nat) (v : Value) : Array Obj := h.modify i fun
  | .cells _ t frozen => .cells #[v] t frozen
  | o => o
noncomputable def low : Nat := (World.holding Tryz.prog default ⟨#[], #[], []⟩).heap.size
noncomputable def laidWorld (os : Os) : World :=
  let w0 := World.holding Tryz.prog os ⟨#[.cells #[.string (textOf Rows.laid_diaeresis_number_errOver)] 177, .cells #[.string (textOf Rows.laid_diaeresis_number_errDivide)] 177, .cells #[.string (textOf Rows.laid_strconv_ErrSyntax)] 177, .cells #[.string (textOf Rows.laid_strconv_ErrRange)] 177], #[], []⟩
  let h0 := putCell w0.heap 0 (.iface 130 (.agg #[.pointer (some ⟨11, 42, none⟩)]))
  let h1 := putCell (putCell (putCell (putCell h0 1 (.iface 175 (.pointer (some ⟨low, 0, none⟩)))) 2 (.iface 175 (.pointer (some ⟨low + 1, 0, none⟩)))) 4 (.iface 175 (.pointer (some ⟨low + 2, 0, none⟩)))) 5 (.iface 175 (.pointer (some ⟨low + 3, 0, none⟩)))
  { w0 with heap := putTab (putTab (putTab (putTab (putTab h1 6 Rows.laid_unicode_utf8_first) 7 Rows.laid_unicode_utf8_acceptRanges) 8 Rows.laid_internal_strconv_uint64pow10) 9 Rows.laid_math_bits_deBruijn32tab) 10 Rows.laid_math_bits_deBruijn64tab }
theorem laidWorld_met (os : Os) (args : Array Value) : laidMetH Tryz.prog Rows.arrayOwnRow.laid ((laidWorld os).forCall (fun _ _ => 0) ⟨#[], args, []⟩).memory :=
  laidMetH_of_parts (laidMet_of_run' 8 (by kernel_rfl) (by kernel_rfl)) (by kernel_rfl)
end Go.Ab.Arrays

