/-
  Part 8 of a proof: a machine of our own for the given program, its laws, and what it says of the program. Nothing here is a claim by itself.
-/
import Derived.Test.YtfeimbgcjimjdaaGreatDoorK07
import Derived.IntWalk
import Derived.Test.YtfeimbgcjimjdaaGreatDoorRows
import Derived.ProofKit
import Derived.ChangeMaps5
import Derived.ChangeSame
import Derived.ChangeVars
import Derived.JoinedOf
import Derived.RowKit
import Derived.RowKitTokens
import Derived.LaidLaws
import Derived.LaidHandle
import Derived.Stop.Joined
import Derived.Carry
import Derived.Stop.LaidTwo
import Derived.Stop.LaidErr
import Derived.LaidSub
import Derived.Lib.LaidTab
import Derived.Shelf.Vars
import Derived.Handed
set_option linter.all false

namespace Go.Ab.Arrays
open Go Go.Ab
theorem IsL.mid {v : PV} {l : List Int} (h : IsL v l) {i : Nat} (hi : i < l.length) : ∃ u, pureO (.slice 1 (.c v) (some (.c (I i))) (some (.c (I ((i + 1 : Nat) : Int)))) none) = some u ∧ IsL u [l[i]] := by
  cases h with
  | nil => simp at hi
  | sl _ f =>
    have hk' : i + 1 ≤ (ints l).length := by rw [ints_len]; omega
    have e : ((ints l).take (i + 1)).drop i = ints [l[i]] := by
      rw [ints_take, ints_drop]
      rw [List.drop_take, drop_cons hi, show i + 1 - i = 1 by omega]
      rfl
    refine ⟨.sl 1 (ints [l[i]]) (f && i + 1 == (ints l).length), ?_, .sl _ _⟩
    have h0 : (0 : Int) ≤ (i : Int) + 1 := by omega
    have h2 : ((i : Int) + 1).toNat = i + 1 := by omega
    simp [pureO, exec, RX.ev, evO, bound, natOf, chk, I, hk', e, h0, h2, sliceOf]
theorem build_x {ru : Bool} {z : PV} (hz : z.cells = [z]) (hv : z.isVal = true) : pureO (.build [.bool false, .bool false, .nilS] [(1, (1, .c (.bool ru))), (2, (1, .c z))]) = some (.agg [.bool false, .bool ru, z]) := by
  have hb : (PV.bool ru).isVal = true := rfl
  simp [pureO, exec, fillPV, RX.ev, hz, hv, hb, splice, chk]
theorem nth_9 (a0 a1 a2 a3 a4 a5 a6 a7 a8 x : PV) (l : List PV) : nth (a0 :: a1 :: a2 :: a3 :: a4 :: a5 :: a6 :: a7 :: a8 :: x :: l) 9 = x := Eq.trans rfl rfl
theorem nth_10 (a0 a1 a2 a3 a4 a5 a6 a7 a8 a9 x : PV) (l : List PV) : nth (a0 :: a1 :: a2 :: a3 :: a4 :: a5 :: a6 :: a7 :: a8 :: a9 :: x :: l) 10 = x := Eq.trans rfl rfl
theorem nth_11 (a0 a1 a2 a3 a4 a5 a6 a7 a8 a9 a10 x : PV) (l : List PV) : nth (a0 :: a1 :: a2 :: a3 :: a4 :: a5 :: a6 :: a7 :: a8 :: a9 :: a10 :: x :: l) 11 = x := Eq.trans rfl rfl
theorem nth_12 (a0 a1 a2 a3 a4 a5 a6 a7 a8 a9 a10 a11 x : PV) (l : List PV) : nth (a0 :: a1 :: a2 :: a3 :: a4 :: a5 :: a6 :: a7 :: a8 :: a9 :: a10 :: a11 :: x :: l) 12 = x := Eq.trans rfl rfl
theorem nth_13 (a0 a1 a2 a3 a4 a5 a6 a7 a8 a9 a10 a11 a12 x : PV) (l : List PV) : nth (a0 :: a1 :: a2 :: a3 :: a4 :: a5 :: a6 :: a7 :: a8 :: a9 :: a10 :: a11 :: a12 :: x :: l) 13 = x := Eq.trans rfl rfl
theorem item_pv {v : PV} {a : Arr} (h : IsA v a) {i : Nat} (hf : a.fits i) :
    ∃ z19 z20, pureO (.slice 1 (.c (cellP v 2)) none (some (.c (I 1))) none) = some z19 ∧ pureO (.build [.bool false, .bool false, .nilS] [(1, (1, .c (.bool a.ru))), (2, (1, .c z19))]) = some z20 ∧ okCells z20 3 = true ∧
      (a.li = true → ∃ z24, pureO (.slice 1 (.c (cellP v 2)) (some (.c (I i))) (some (.c (I ((i + 1 : Nat) : Int)))) none) = some z24 ∧ okCells z24 1 = true ∧ IsA (.agg [cellP z20 0, cellP z20 1, cellP z24 0]) (a.item i)) ∧
      (a.li = false → IsA (.agg [cellP z20 0, cellP z20 1, cellP z20 2]) (a.item i)) := by
  have hl := c2_is h
  have pos : 0 < a.n.length := by
    unfold Arr.fits at hf
    cases hli : a.li with
    | true => simp [hli] at hf; omega
    | false => simp [hli] at hf; omega
  obtain ⟨z, hz, iz⟩ := hl.hi (k := 1) (by omega)
  have e1 : a.n.take 1 = [a.n[0]] := by
    obtain ⟨y, l, hn⟩ : ∃ y l, a.n = y :: l := List.exists_cons_of_length_pos pos
    simp [hn]
  rw [e1] at iz
  refine ⟨z, .agg [.bool false, .bool a.ru, z], hz, build_x iz.cells iz.val, okCells3 (val3 rfl rfl iz.cell), fun hli => ?_, fun hli => ?_⟩
  · have hi : i < a.n.length := by
      unfold Arr.fits at hf
      simpa [hli] using hf
    obtain ⟨y, hy, iy⟩ := hl.mid hi
    refine ⟨y, hy, by simp [okCells, iy.val, iy.cells], ?_⟩
    have ey : cellP y 0 = y := by simp [cellP, iy.cells]
    rw [ey]
    have ea : a.at i = a.n[i] := by
      unfold Arr.at
      rw [if_pos hli, List.getD_eq_getElem?_getD, List.getElem?_eq_getElem hi]; rfl
    unfold Arr.item
    rw [ea]
    exact .mk _ _ _ _ iy
  · have ea : a.at i = a.n[0] := by
      unfold Arr.at
      rw [if_neg (by simp [hli]), List.getD_eq_getElem?_getD, List.getElem?_eq_getElem pos]; rfl
    unfold Arr.item
    rw [ea]
    exact .mk _ _ _ _ iz
theorem law_items (s : List UInt8) {v u : PV} {a b : Arr} (hv : IsA v a) (hu : IsA u b) (n : Int) : runK (cfg0 B0 fun _ => .cl) fn3 .cl noHandler 0 [.cv (.str s), .cv v, .cv u, .cv (I n)] () = some (.bool true, ()) := by
  obtain ⟨v1, f1, i1⟩ := few_run hv
  obtain ⟨u1, f2, i2⟩ := few_run hu
  have la := few_len a
  have lb := few_len b
  generalize a.few = a' at *
  generalize b.few = b' at *
  obtain ⟨c, hc, ic⟩ := adyR i1 i2 (by omega) (by omega) (s.take 20)
  rw [run3, valO_is hv, valO_is hu, cT, cT, shown_run]
  simp only [bV, sel_is hv, sel_is hu, f1, f2, okSto_is i1 hv, okSto_is i2 hu, stoP_is i1 hv, stoP_is i2 hu, cT, sel_is i1, sel_is i2, short_run, hc, pure_tup, List.getElem?_cons_zero, List.getElem?_cons_succ, okCells_is ic, iD, I_neq, I_lss, iteP_bool, (c2_is ic).len, I_geq]
  by_cases he : (Arr.dy (s.take 20) a' b').2 = 0
  · obtain ⟨r, e1, hd⟩ := dy_ok he
    rw [e1] at ic ⊢
    simp only [he, bne_self_eq_false, Bool.false_eq_true, if_false]
    by_cases h0 : n < 0
    · simp only [h0, decide_true, if_true, bV, iteP_true]
    · simp only [h0, decide_false, Bool.false_eq_true, if_false]
      by_cases h1 : (r.length : Int) ≤ n
      · simp only [h1, decide_true, bV, iteP_true]
      · simp only [h1, decide_false, bV, iteP_false]
        obtain ⟨i, rfl⟩ : ∃ i : Nat, n = i := ⟨n.toNat, by omega⟩
        have hi : i < r.length := by omega
        obtain ⟨z1, z2, z3⟩ := sz_fits hd.ra hd.rb hd.sz
        obtain ⟨fa, fb⟩ := z3 i (by rw [← hd.len]; exact hi)
        have hrl := hd.len
        obtain ⟨x19, x20, p1, p2, p3, p4, p5⟩ := item_pv i1 fa
        obtain ⟨y19, y20, q1, q2, q3, q4, q5⟩ := item_pv i2 fb
        have hdi := item_dy hd hi
        have hdy := dy_of hdi
        have hidx := (c2_is ic).idx hi
        have fin : ∀ {x y : PV}, IsA x (a'.item i) → IsA y (b'.item i) → ∃ w, callO B0 .cl (.fn 10 []) [.str (s.take 20), x, y] = some (.tup [w, I 0]) ∧ IsA w ⟨false, false, [r[i]]⟩ := by
          intro x y hx hy
          obtain ⟨w, h1, h2⟩ := adyR hx hy (by simp [Arr.item]) (by simp [Arr.item]) (s.take 20)
          rw [hdy] at h1 h2
          exact ⟨w, h1, h2⟩
        have hw : IntKind.i64.wrap ((i : Int) + 1) = ((i + 1 : Nat) : Int) := wsucc (by omega)
        simp only [s0_is i1, s1_is i1, s2_is i1, s0_is i2, s1_is i2, s2_is i2, bV, p1, p2, p3, q1, q2, q3, cT, iteP_bool, I_add, hw]
        cases hla : a'.li with
        | true =>
          obtain ⟨x24, p6, p7, p8⟩ := p4 hla
          simp only [if_true, p6, p7, bV, cT]
          cases hlb : b'.li with
          | true =>
            obtain ⟨y24, q6, q7, q8⟩ := q4 hlb
            obtain ⟨w, w1, w2⟩ := fin p8 q8
            have hj := idx0 (c2_is w2)
            rw [iD] at hj
            simp only [if_true, q6, q7, bV, cT, w1, pure_tup, List.getElem?_cons_zero, List.getElem?_cons_succ, okCells_is w2, iteP_true, iD, I_eql, beq_self_eq_true, iteP_bool, (c2_is w2).len, c0_is w2, pure_not, Bool.not_false, hj, load_I, hidx, List.length_singleton]
            rfl
          | false =>
            obtain ⟨w, w1, w2⟩ := fin p8 (q5 hlb)
            have hj := idx0 (c2_is w2)
            rw [iD] at hj
            simp only [if_false, Bool.false_eq_true, bV, cT, w1, pure_tup, List.getElem?_cons_zero, List.getElem?_cons_succ, okCells_is w2, iteP_true, iD, I_eql, beq_self_eq_true, iteP_bool, (c2_is w2).len, c0_is w2, pure_not, Bool.not_false, hj, load_I, hidx, List.length_singleton, if_true]
            rfl
        | false =>
          simp only [if_false, Bool.false_eq_true, bV, cT]
          cases hlb : b'.li with
          | true =>
            obtain ⟨y24, q6, q7, q8⟩ := q4 hlb
            obtain ⟨w, w1, w2⟩ := fin (p5 hla) q8
            have hj := idx0 (c2_is w2)
            rw [iD] at hj
            simp only [if_true, q6, q7, bV, cT, w1, pure_tup, List.getElem?_cons_zero, List.getElem?_cons_succ, okCells_is w2, iteP_true, iD, I_eql, beq_self_eq_true, iteP_bool, (c2_is w2).len, c0_is w2, pure_not, Bool.not_false, hj, load_I, hidx, List.length_singleton]
            rfl
          | false =>
            obtain ⟨w, w1, w2⟩ := fin (p5 hla) (q5 hlb)
            have hj := idx0 (c2_is w2)
            rw [iD] at hj
            simp only [if_false, Bool.false_eq_true, bV, cT, w1, pure_tup, List.getElem?_cons_zero, List.getElem?_cons_succ, okCells_is w2, iteP_true, iD, I_eql, beq_self_eq_true, iteP_bool, (c2_is w2).len, c0_is w2, pure_not, Bool.not_false, hj, load_I, hidx, List.length_singleton, if_true]
            rfl
  · have hb : ((Arr.dy (s.take 20) a' b').2 != 0) = true := by simpa using he
    simp only [hb, if_true, bV, iteP_true]
theorem i64_comm (x y : Int) : nAdd x y = nAdd y x := by
  unfold nAdd
  rw [Int.add_comm]
  generalize i64 (y + x) = s
  simp only
  congr 1
  by_cases hx : x < 0 <;> by_cases hy : y < 0 <;> simp [hx, hy]
theorem eq_self {a : Arr} (h : a.right = true) : DyOK gEq a a (List.replicate a.n.length 1) := by
  have hsz : a.sz a = ((a.n.length : Int), 0) := by unfold Arr.sz; simp
  refine ⟨h, h, rfl, by rw [hsz], rfl, ?_⟩
  rw [hsz]
  have hsub : (Arr.isEq gEq && (a.ru != a.ru)) = false := by simp
  rw [hsub]
  have hp : ∀ p ∈ pairsFrom a a 0 ((a.n.length : Int).toNat), dyF gEq false p.1 p.2 = (1, .ok) := by
    intro p hp
    obtain ⟨j, hj⟩ := List.getElem?_of_mem hp
    have hlt : j < (a.n.length : Int).toNat := by
      have := (List.getElem?_eq_some_iff.1 hj).1
      rwa [pairs_len] at this
    rw [pairs_get _ _ _ _ _ hlt] at hj
    cases hj
    show nDy gEq _ _ = _
    simp [nDy, nCmp, bitI, gEq, gAdd, gSub, gMul, gDiv, gRes, gMax, gMin]
  rw [dyL_all (fun p hm => by rw [hp p hm]; rfl)]
  congr 1
  apply List.ext_getElem
  · simp [pairs_len]
  · intro j h1 h2
    simp only [List.getElem_map, List.getElem_replicate]
    rw [hp _ (List.getElem_mem _)]
theorem dy_comm (a b : Arr) : Arr.dy gAdd a b = Arr.dy gAdd b a := by
  by_cases hr : (a.right && b.right) = true
  · simp only [Bool.and_eq_true] at hr
    obtain ⟨ha, hb⟩ := hr
    have hs : (a.sz b).2 = (b.sz a).2 := by
      unfold Arr.sz
      cases a.li <;> cases b.li <;> simp
      by_cases h : a.n.length = b.n.length
      · simp [h]
      · have h' : ¬ b.n.length = a.n.length := fun e => h e.symm
        simp [h, h']
    unfold Arr.dy
    have hd : ¬ isDyad gAdd = false := by decide
    have c1 : ¬ (a.right && b.right) = false := by simp [ha, hb]
    have c2 : ¬ (b.right && a.right) = false := by simp [ha, hb]
    rw [if_neg c1, if_neg c2, if_neg hd, if_neg hd, hs]
    by_cases h0 : (b.sz a).2 = 0
    · have n0 : ¬ (b.sz a).2 ≠ 0 := by simp [h0]
      rw [if_neg n0, if_neg n0, Bool.or_comm b.text a.text]
      by_cases ht : (!Arr.isEq gAdd && (a.text || b.text)) = true
      · rw [if_pos ht, if_pos ht]
      · rw [if_neg ht, if_neg ht]
        have e1 : (a.sz b).1 = (b.sz a).1 := by
          rw [← hs] at h0
          have h1 := right_len1 ha
          have h2 := right_len1 hb
          unfold Arr.sz at h0 ⊢
          cases hl : a.li <;> cases hm : b.li <;> simp [hl, hm] at h0 h1 h2 ⊢
          · omega
          · split at h0
            · rename_i hh; simp [hh]
            · cases h0
        rw [e1, show (Arr.isEq gAdd && (a.ru != b.ru)) = false from rfl, show (Arr.isEq gAdd && (b.ru != a.ru)) = false from rfl]
        rw [dyL_congr (f' := dyF gAdd false) (ps' := pairsFrom b a 0 (b.sz a).1.toNat) (by rw [pairs_len, pairs_len]) (by
          intro i p p' h1 h2
          have hlt : i < (b.sz a).1.toNat := by
            have := (List.getElem?_eq_some_iff.1 h1).1
            rwa [pairs_len] at this
          rw [pairs_get _ _ _ _ _ hlt] at h1 h2
          cases h1
          cases h2
          show nAdd _ _ = nAdd _ _
          exact i64_comm _ _)]
        rw [Bool.or_comm a.li b.li]
    · rw [if_pos h0, if_pos h0]
  · have h2 : (b.right && a.right) = false := by rw [Bool.and_comm]; simpa using hr
    unfold Arr.dy
    rw [if_pos (by simpa using hr), if_pos h2]
theorem dy_any {g : List UInt8} {a b : Arr} : (Arr.dy g a b).1.n.length ≤ 200 := by
  by_cases h : (Arr.dy g a b).2 = 0
  · obtain ⟨r, e, hd⟩ := dy_ok h
    rw [e]
    have := (sz_fits hd.ra hd.rb hd.sz).2.1
    have := hd.len
    simp only
    omega
  · rw [dy_err h]
    simp [noArr]
theorem same_self (a : Arr) : a.same a = true := by
  unfold Arr.same
  simp [(eqL_iff a.n a.n).2 rfl]
theorem law_self {v u : PV} {a b : Arr} (hv : IsA v a) (hu : IsA u b) : runK (cfg0 B0 fun _ => .cl) fn4 .cl noHandler 0 [.cv v, .cv u] () = some (.bool true, ()) := by
  obtain ⟨v1, f1, i1⟩ := few_run hv
  obtain ⟨u1, f2, i2⟩ := few_run hu
  have la := few_len a
  have lb := few_len b
  generalize a.few = a' at *
  generalize b.few = b' at *
  obtain ⟨c, hc, ic⟩ := adyR i1 i1 (by omega) (by omega) gEq
  obtain ⟨d, hd, id⟩ := adyR i1 i2 (by omega) (by omega) gAdd
  obtain ⟨e, hE, ie⟩ := adyR i2 i1 (by omega) (by omega) gAdd
  rw [dy_comm b' a'] at hE ie
  have hrt := right_run i1 (by omega)
  rw [run4, valO_is hv, valO_is hu, cT, cT, shown_run]
  rw [show ([61] : List UInt8) = gEq from rfl, show ([43] : List UInt8) = gAdd from rfl]
  simp only [bV, sel_is hv, sel_is hu, f1, f2, okSto_is i1 hv, okSto_is i2 hu, stoP_is i1 hv, stoP_is i2 hu, cT, sel_is i1, sel_is i2, hc, hd, hE, pure_tup, List.getElem?_cons_zero, List.getElem?_cons_succ, okCells_is ic, okCells_is id, okCells_is ie, iD, I_neq, I_eql, iteP_bool, hrt, pure_not, iteP_true]
  by_cases hr : a'.right = true
  · have hs := eq_self hr
    have e1 := dy_of hs
    rw [e1] at ic ⊢
    have hlc : (List.replicate a'.n.length (1 : Int)).length = a'.n.length := by simp
    have l3 := c2_is ic
    have la2 := right_len hr
    simp only [bne_self_eq_false, Bool.false_eq_true, if_false]
    have hsame := same_run id ie (Nat.le_trans dy_any (by decide)) (Nat.le_trans dy_any (by decide))
    rw [same_self] at hsame
    have ea := agg_is id
    have eb := agg_is ie
    have key : ∀ m i, i + m = a'.n.length → loopL (fun z28 => bindO (pureO (.len .slice (.c (nth z28.1 7)))) (fun z29 => bindO (pureO (.bin .lss .num false (.c (nth z28.1 3)) (.c z29))) (fun z30 => iteP z30 (bindO (pureO (.idxAddr 1 (.c (nth z28.1 7)) (.c (nth z28.1 3)))) (fun z31 => bindO (pureO (.load 1 false (.c z31))) (fun z32 => bindO (pureO (.bin .neq .num true (.c z32) (.c (.int .i64 1)))) (fun z33 => iteP z33 (bindO (some (PV.bool false, z28.2)) (fun z34 => some (.inr z34))) (bindO (pureO (.bin .add .num true (.c (nth z28.1 3)) (.c (.int .i64 1)))) (fun z35 => some (.inl ([nth z28.1 0, nth z28.1 1, nth z28.1 2, z35, nth z28.1 4, nth z28.1 5, nth z28.1 6, nth z28.1 7, nth z28.1 8, nth z28.1 9, nth z28.1 10, nth z28.1 11, nth z28.1 12, nth z28.1 13], z28.2)))))))) (bindO (iteP (nth z28.1 0) (bindO (pureO (.len .slice (.c (nth z28.1 7)))) (fun z36 => bindO (selO (nth z28.1 4) 2 1 false) (fun z37 => bindO (pureO (.len .slice (.c z37))) (fun z38 => bindO (pureO (.bin .eql .num false (.c z36) (.c z38))) (fun z39 => iteP z39 (bindO (pureO (.bin .eql .num false (.c (nth z28.1 1)) (.c (nth z28.1 2)))) (fun z40 => iteP z40 (bindO (callO B0 .cl (.fn 13 []) [.agg [nth z28.1 8, nth z28.1 9, nth z28.1 10], .agg [nth z28.1 11, nth z28.1 12, nth z28.1 13]]) (fun z41 => some (z41, z28.2))) (some (PV.bool false, z28.2)))) (some (PV.bool false, z28.2))))))) (some (PV.bool false, z28.2))) (fun z42 => some (.inr z42)))))) (([.bool true, I (Arr.dy gAdd a' b').2, I (Arr.dy gAdd a' b').2, I i, v1, cellP c 0, cellP c 1, cellP c 2, cellP d 0, cellP d 1, cellP d 2, cellP e 0, cellP e 1, cellP e 2], ()) : List PV × Unit) = some (.bool true, ()) := by
      intro m
      induction m with
      | zero =>
        intro i hi
        have : i = a'.n.length := by omega
        subst this
        refine loopL_inr ?_
        simp only [nth_0, nth_1, nth_2, nth_3, nth_4, nth_7, nth_5, nth_6, nth_8, nth_9, nth_10, nth_11, nth_12, nth_13, l3.len, bV, hlc, I_lss, Int.lt_irrefl, decide_false, iteP_false, iteP_true, s2_is i1, (c2_is i1).len, I_eql, beq_self_eq_true, ea, eb, hsame]
      | succ m ih =>
        intro i hi
        have hlt : i < a'.n.length := by omega
        have hlt' : (i : Int) < (a'.n.length : Int) := by omega
        rw [loopL_inl (s' := ([.bool true, I (Arr.dy gAdd a' b').2, I (Arr.dy gAdd a' b').2, I ((i + 1 : Nat) : Int), v1, cellP c 0, cellP c 1, cellP c 2, cellP d 0, cellP d 1, cellP d 2, cellP e 0, cellP e 1, cellP e 2], ()))]
        · exact ih (i + 1) (by omega)
        · have hx := l3.at (i := i) (n := 1) (by simp [List.getElem?_replicate, hlt])
          simp only [nth_0, nth_1, nth_2, nth_3, nth_4, nth_7, nth_5, nth_6, nth_8, nth_9, nth_10, nth_11, nth_12, nth_13, l3.len, bV, hlc, I_lss, hlt', decide_true, iteP_true, hx, load_I, iD, I_neq, bne_self_eq_false, iteP_false, I_add, wsucc (by omega : i < 9223372036854775807)]
    have hk := key a'.n.length 0 (by omega)
    rw [show noUndef [.bool true, I (Arr.dy gAdd a' b').2, I (Arr.dy gAdd a' b').2, I 0] = true from rfl, cT]
    exact hk
  · have hr' : a'.right = false := by simpa using hr
    have e1 : Arr.dy gEq a' a' = (noArr, 114) := by unfold Arr.dy; rw [if_pos (by simp [hr'])]
    have e2 : Arr.dy gAdd a' b' = (noArr, 114) := by unfold Arr.dy; rw [if_pos (by simp [hr'])]
    rw [e1, e2]
    simp only [show ((114 : Int) != 0) = true from rfl, if_true, beq_self_eq_true, hr', Bool.not_false]
end Go.Ab.Arrays


namespace Go.Ab.Arrays
open Go Go.Ab
def inR (n : Int) : Prop := -9223372036854775808 ≤ n ∧ n ≤ 9223372036854775807
def nres (r : Int × NE) : PV := .tup [I r.1, I r.2.no]
theorem i64_in {n : Int} (h : inR n) : i64 n = n := IntWalk.i64_in n h
def strs (l : List (List UInt8)) : List PV := l.map PV.str
end Go.Ab.Arrays


namespace Go.Ab.Arrays
open Go Go.Ab
def bits (x y : Int) : Bool := decide (0 ≤ x) && (decide (x ≤ 1) && (decide (0 ≤ y) && decide (y ≤ 1)))
end Go.Ab.Arrays


namespace Go.Ab.Arrays
open Go Go.Ab
def Arr.inr (a : Arr) : Prop := ∀ n ∈ a.n, inR n
end Go.Ab.Arrays


namespace Go.Ab.Arrays
open Go Go.Ab
end Go.Ab.Arrays


namespace Go.Ab.Arrays
open Go Go.Ab Go.Proofs
theorem sp_loc : SpLocal sp0 := by
  intro g σ σ' vs h
  unfold sp0
  split
  · unfold spAs
    split
    · rfl
    · rename_i t x p nm o
      have hm : nm ∈ reach σ deepest (namesL [.iface t x, .iface p (.ref nm o)]) := reach_mem _ _ nm (by simp [namesL, PV.names])
      rw [h nm hm]
    · rfl
  iterate 5
    split
    · rfl
  split
  · unfold spCheck
    split
    · rename_i n
      have hm : n ∈ reach σ deepest (namesL [.ref n 0]) := reach_mem _ _ n (by simp [namesL, PV.names])
      rw [h n hm]
    · rfl
  split
  · unfold spStr
    split
    · rename_i n
      have hm : n ∈ reach σ deepest (namesL [.ref n 0]) := reach_mem _ _ n (by simp [namesL, PV.names])
      rw [← h n hm]
      have h2 : ∀ a n' k, σ n = some (.cells 99 [a, .arr n' 1 0 k]) → σ n' = σ' n' := by
        intro a n' k he
        refine h n' ?_
        show n' ∈ reach σ 3 [n]
        unfold reach
        refine List.mem_append_right _ (reach_mem _ _ n' ?_)
        simp [he, Ob.names, namesL, PV.names]
      generalize hx : σ n = o at *
      split
      · rfl
      · rename_i a n' k
        rw [h2 a n' k rfl]
      · rfl
    · rfl
  rfl
theorem tab_ok : TabOK cx0 tab0 (deadOf Tryz.prog) := by
  intro f fn h
  unfold tab0 at h
  split at h
  · cases h; exact mkF_comp (by kernel_rfl)
  · cases h; exact mkF_comp (by kernel_rfl)
  · cases h; exact mkF_comp (by kernel_rfl)
  · cases h; exact mkF_comp (by kernel_rfl)
  · cases h; exact mkF_comp (by kernel_rfl)
  · cases h; exact mkF_comp (by kernel_rfl)
  · cases h; exact mkF_comp (by kernel_rfl)
  · cases h; exact mkF_comp (by kernel_rfl)
  · cases h; exact mkF_comp (by kernel_rfl)
  · cases h; exact mkF_comp (by kernel_rfl)
  · cases h; exact mkF_comp (by kernel_rfl)
  · cases h; exact mkF_comp (by kernel_rfl)
  · cases h; exact mkF_comp (by kernel_rfl)
  · cases h; exact mkF_comp (by kernel_rfl)
  · cases h; exact mkF_comp (by kernel_rfl)
  · cases h; exact mkF_comp (by kernel_rfl)
  · cases h; exact mkF_comp (by kernel_rfl)
  · cases h; exact mkF_comp (by kernel_rfl)
  · cases h; exact mkF_comp (by kernel_rfl)
  · cases h; exact mkF_comp (by kernel_rfl)
  · cases h; exact mkF_comp (by kernel_rfl)
  · cases h; exact mkF_comp (by kernel_rfl)
  · cases h; exact mkF_comp (by kernel_rfl)
  · cases h; exact mkF_comp (by kernel_rfl)
  · cases h; exact mkF_comp (by kernel_rfl)
  · cases h; exact mkF_comp (by kernel_rfl)
  · cases h; exact mkF_comp (by kernel_rfl)
  · cases h; exact mkF_comp (by kernel_rfl)
  · cases h; exact mkF_comp (by kernel_rfl)
  · cases h; exact mkF_comp (by kernel_rfl)
  · cases h; exact mkF_comp (by kernel_rfl)
  · cases h; exact mkF_comp (by kernel_rfl)
  · cases h; exact mkF_comp (by kernel_rfl)
  · cases h; exact mkF_comp (by kernel_rfl)
  · cases h; exact mkF_comp (by kernel_rfl)
  · cases h; exact mkF_comp (by kernel_rfl)
  · cases h; exact mkF_comp (by kernel_rfl)
  · cases h; exact mkF_comp (by kernel_rfl)
  · cases h; exact mkF_comp (by kernel_rfl)
  · cases h; exact mkF_comp (by kernel_rfl)
  · cases h; exact mkF_comp (by kernel_rfl)
  · cases h; exact mkF_comp (by kernel_rfl)
  · cases h; exact mkF_comp (by kernel_rfl)
  · cases h; exact mkF_comp (by kernel_rfl)
  · cases h; exact mkF_comp (by kernel_rfl)
  · cases h; exact mkF_comp (by kernel_rfl)
  · cases h; exact mkF_comp (by kernel_rfl)
  · cases h; exact mkF_comp (by kernel_rfl)
  · cases h; exact mkF_comp (by kernel_rfl)
  · cases h; exact mkF_comp (by kernel_rfl)
  · cases h; exact mkF_comp (by kernel_rfl)
  · cases h; exact mkF_comp (by kernel_rfl)
  · cases h; exact mkF_comp (by kernel_rfl)
  · cases h; exact mkF_comp (by kernel_rfl)
  · cases h; exact mkF_comp (by kernel_rfl)
  · cases h; exact mkF_comp (by kernel_rfl)
  · cases h; exact mkF_comp (by kernel_rfl)
  · cases h; exact mkF_comp (by kernel_rfl)
  · cases h; exact mkF_comp (by kernel_rfl)
  · cases h; exact mkF_comp (by kernel_rfl)
  · cases h; exact mkF_comp (by kernel_rfl)
  · cases h; exact mkF_comp (by kernel_rfl)
  · cases h; exact mkF_comp (by kernel_rfl)
  · cases h; exact mkF_comp (by kernel_rfl)
  · cases h; exact mkF_comp (by kernel_rfl)
  · cases h; exact mkF_comp (by kernel_rfl)
  · cases h; exact mkF_comp (by kernel_rfl)
  · cases h; exact mkF_comp (by kernel_rfl)
  · cases h; exact mkF_comp (by kernel_rfl)
  · cases h; exact mkF_comp (by kernel_rfl)
  · cases h; exact mkF_comp (by kernel_rfl)
  · cases h; exact mkF_comp (by kernel_rfl)
  · cases h; exact mkF_comp (by kernel_rfl)
  · cases h; exact mkF_comp (by kernel_rfl)
  · cases h; exact mkF_comp (by kernel_rfl)
  · cases h; exact mkF_comp (by kernel_rfl)
  · cases h; exact mkF_comp (by kernel_rfl)
  · cases h; exact mkF_comp (by kernel_rfl)
  · cases h; exact mkF_comp (by kernel_rfl)
  · cases h; exact mkF_comp (by kernel_rfl)
  · cases h; exact mkF_comp (by kernel_rfl)
  · cases h; exact mkF_comp (by kernel_rfl)
  · cases h; exact mkF_comp (by kernel_rfl)
  · cases h; exact mkF_comp (by kernel_rfl)
  · cases h; exact mkF_comp (by kernel_rfl)
  · cases h; exact mkF_comp (by kernel_rfl)
  · cases h; exact mkF_comp (by kernel_rfl)
  · cases h; exact mkF_comp (by kernel_rfl)
  · cases h; exact mkF_comp (by kernel_rfl)
  · cases h; exact mkF_comp (by kernel_rfl)
  · cases h; exact mkF_comp (by kernel_rfl)
  · cases h; exact mkF_comp (by kernel_rfl)
  · cases h; exact mkF_comp (by kernel_rfl)
  · cases h; exact mkF_comp (by kernel_rfl)
  · cases h; exact mkF_comp (by kernel_rfl)
  · cases h; exact mkF_comp (by kernel_rfl)
  · cases h
theorem law_done {g : FuncId} {fn : RFn} (ht : tab0 g = some fn) {args : List PV} (ha : okVL args = true) (hl : args.length ≤ fn.nt)
    (hr : runK (cfg0 B0 fun _ => .cl) fn .cl noHandler 0 (args.map KV.cv) () = some (.bool true, ())) {I : Nat → Prop} {w : World} {vs : List Value}
    (hI : ∀ b, I b → b < w.heap.size) (hw : cx0.Wd I w) (hrep : RepL w I (fun _ => none) none args vs) :
    Calls cx0.P g vs.toArray w fun e w' => e = .returned (.bool true) ∧ LawEnd w w' := by
  obtain ⟨n, hn⟩ := law_of_run (cfg_ok fun _ => .cl) ht ha hl hr
  exact law_calls (fn_ok sp_ok sp_loc tab_ok n) hn hI hw hrep
def arrD : DTy := .struct [.bool, .bool, .slice (.int .i64)]
theorem ints_of : ∀ (xs : List PV), (∀ x ∈ xs, HasV (.int .i64) x) → ∃ l, xs = ints l
  | [], _ => ⟨[], rfl⟩
  | x :: xs, h => by
    obtain ⟨n, rfl, _⟩ := h x List.mem_cons_self
    obtain ⟨l, rfl⟩ := ints_of xs fun y hy => h y (List.mem_cons_of_mem _ hy)
    exact ⟨n :: l, rfl⟩
theorem arr_of {v : PV} (h : HasV arrD v) : ∃ a, IsA v a := by
  obtain ⟨vs, rfl, b, r, rfl, ⟨b, rfl⟩, c, r, rfl, ⟨c, rfl⟩, x, r, rfl, hx, rfl⟩ := h
  have key : ∃ l, IsL x l ∧ x.cells = [x] := by
    rcases hx with rfl | ⟨xs, rfl, _, hx⟩
    · exact ⟨[], .nil, rfl⟩
    · obtain ⟨l, rfl⟩ := ints_of xs hx
      exact ⟨l, .sl l false, rfl⟩
  obtain ⟨l, h1, h2⟩ := key
  refine ⟨⟨b, c, l⟩, ?_⟩
  rw [show cellsL [PV.bool b, PV.bool c, x] = [.bool b, .bool c, x] by simp only [cellsL, h2]; rfl]
  exact .mk _ _ _ _ h1
def Told (fn : RFn) (Ds : List DTy) : Prop := ∀ us, HasVs Ds us → okVL us = true ∧ us.length ≤ fn.nt ∧ runK (cfg0 B0 fun _ => .cl) fn .cl noHandler 0 (us.map KV.cv) () = some (.bool true, ())
theorem told_items : Told fn3 [.str, arrD, arrD, .int .i64] := by
  rintro us ⟨_, _, rfl, ⟨s, rfl, _⟩, _, _, rfl, ha, _, _, rfl, hb, _, _, rfl, ⟨n, rfl, hn⟩, rfl⟩
  obtain ⟨a, ha⟩ := arr_of ha
  obtain ⟨b, hb⟩ := arr_of hb
  exact ⟨by simp [okVL, okV, ha.ok, hb.ok], Nat.le_of_ble_eq_true rfl, law_items s ha hb n⟩
theorem told_self : Told fn4 [arrD, arrD] := by
  rintro us ⟨_, _, rfl, ha, _, _, rfl, hb, rfl⟩
  obtain ⟨a, ha⟩ := arr_of ha
  obtain ⟨b, hb⟩ := arr_of hb
  exact ⟨by simp [okVL, ha.ok, hb.ok], Nat.le_of_ble_eq_true rfl, law_self ha hb⟩
theorem told_rights : Told fn6 [.str, arrD, arrD] := by
  rintro us ⟨_, _, rfl, ⟨s, rfl, _⟩, _, _, rfl, ha, _, _, rfl, hb, rfl⟩
  obtain ⟨a, ha⟩ := arr_of ha
  obtain ⟨b, hb⟩ := arr_of hb
  exact ⟨by simp [okVL, okV, ha.ok, hb.ok], Nat.le_of_ble_eq_true rfl, law_rights s ha hb⟩
end Go.Ab.Arrays


namespace Go.Ab.Arrays
open Go Go.Ab Go.Proofs Go.Proofs.YtfeimbgcjimjdaaGreatDoor Go.ChangeShapes Go.WideShapes Go.RowKit
theorem p_own : ownKnob Tryz.prog.godebug = none := by kernel_rfl
theorem p_et : Tryz.prog.globalNamed "errors.errorType" = some 0 := by kernel_rfl
theorem p_e1 : Tryz.prog.globalNamed "diaeresis/number.errOver" = some 1 := by kernel_rfl
theorem p_e2 : Tryz.prog.globalNamed "diaeresis/number.errDivide" = some 2 := by kernel_rfl
theorem p_t1 : (Tryz.prog.globals[1]?).map (·.type) = some 42 := by kernel_rfl
theorem p_t2 : (Tryz.prog.globals[2]?).map (·.type) = some 42 := by kernel_rfl
theorem p_p : Tryz.prog.globalNamed "internal/strconv.uint64pow10" = some 8 := by kernel_rfl
theorem p_pt : (Tryz.prog.globals[8]?).map (·.type) = some 184 := by kernel_rfl
theorem p_rt : (Tryz.prog.cutTypes.find? (·.1 == "internal/reflectlite.rtype")).map (·.2) = some 130 := by kernel_rfl
theorem p_oneRow : ((List.range 221).filter fun t => Tryz.prog.rowNamed t [101, 114, 114, 111, 114]) = [42] := by kernel_rfl
theorem p_size : Tryz.prog.types.size = 221 := by kernel_rfl
theorem p_c177 : Tryz.prog.cellsOf 177 = 1 := by kernel_rfl
theorem p_c9 : Tryz.prog.cellsOf 9 = 1 := by kernel_rfl
theorem p_star : "*" ++ "errors.errorString" = "*errors.errorString" := by decide
theorem p_row (u : TypeId) (h : Tryz.prog.typeName? 3 u = some "*errors.errorString") : u = 175 :=
  typeName_ptr_named (nm := "errors.errorString") (by rw [p_star]; kernel_rfl) (by kernel_rfl) (by decide) u (by rw [p_star]; exact h)
theorem row_of_var {W : World} {n : String} {g : Nat} {cs : Array Value} (hg : Tryz.prog.globalNamed n = some g) (h : W.var? Tryz.prog n = some cs) : ∃ E fr, W.heap[g]? = some (.cells cs E fr) := by
  unfold World.var? at h
  rw [hg] at h
  simp only [Option.bind_some] at h
  split at h
  · rename_i cs' E fr hh
    cases h
    exact ⟨E, fr, hh⟩
  · cases h
theorem in_heap {W : World} {b : Nat} {o : Obj} (h : W.heap[b]? = some o) : b < W.heap.size := (Array.getElem?_eq_some_iff.1 h).1
set_option maxRecDepth 100000 in
theorem vars_of_laid {W : World} (hsh : W.ShapedOpen Tryz.prog) (h : laidMetH Tryz.prog Rows.arrayRightsRow.laid W) : Vars (fun b => b < W.heap.size) W := by
  have h' : handlesMet Tryz.prog [("errors.errorType", Rows.laid_errors_errorType)] W := h.2
  have hd : laidMet Tryz.prog [("math/bits.deBruijn32tab", Rows.laid_math_bits_deBruijn32tab), ("math/bits.deBruijn64tab", Rows.laid_math_bits_deBruijn64tab), ("internal/strconv.uint64pow10", Rows.laid_internal_strconv_uint64pow10), ("unicode/utf8.acceptRanges", Rows.laid_unicode_utf8_acceptRanges), ("diaeresis/number.errOver", Rows.laid_diaeresis_number_errOver), ("diaeresis/number.errDivide", Rows.laid_diaeresis_number_errDivide), ("strconv.ErrRange", Rows.laid_strconv_ErrRange), ("strconv.ErrSyntax", Rows.laid_strconv_ErrSyntax), ("unicode/utf8.first", Rows.laid_unicode_utf8_first)] W := h.1
  have hs := hd.filter fun x => x.1 == "diaeresis/number.errOver" || x.1 == "diaeresis/number.errDivide"
  have hp := hd.filter fun x => x.1 == "internal/strconv.uint64pow10"
  have hs : laidMet Tryz.prog [("diaeresis/number.errOver", Rows.laid_diaeresis_number_errOver), ("diaeresis/number.errDivide", Rows.laid_diaeresis_number_errDivide)] W := hs
  have hp : laidMet Tryz.prog [("internal/strconv.uint64pow10", Lib.tabData .u64 Lib.pow10Tab)] W := hp
  obtain ⟨name, u, ty, e1, e2, e3, e4, e5⟩ := h' _ (List.mem_singleton.2 rfl)
  have en : name = [101, 114, 114, 111, 114] := (Option.some.inj e1).symm
  subst en
  obtain rfl := Option.some.inj (p_rt.symm.trans e2)
  have hm : ty ∈ (List.range 221).filter fun t => Tryz.prog.rowNamed t [101, 114, 114, 111, 114] := List.mem_filter.2 ⟨List.mem_range.2 (by rw [← p_size]; exact e3), e4⟩
  rw [p_oneRow] at hm
  obtain rfl := List.mem_singleton.1 hm
  have hh : typeHandle Tryz.prog 42 = .pointer (some ⟨11, 42, none⟩) := by kernel_rfl
  rw [hh] at e5
  obtain ⟨a0, a1, s0, s1, c0, c1, t0, t1, hv0, hv1, hc0, hs0, hz0, hc1, hs1, hz1, hne, hb0, hb1⟩ := laid_sentinels2 hs p_e1 p_t1 p_e2 p_t2 Tryz.underlying42 p_row Tryz.underlying175 Tryz.underlying177 rfl rfl Tryz.underlying9 p_c177 p_c9
  obtain ⟨E1, f1, r1⟩ := row_of_var p_e1 hv0
  obtain ⟨E2, f2, r2⟩ := row_of_var p_e2 hv1
  have hpw : Lib.TabIs Tryz.prog W "internal/strconv.uint64pow10" .u64 Lib.pow10Tab := Lib.tabIs_of_head p_p p_pt Tryz.underlying184 Tryz.underlying143 (by kernel_rfl) (by kernel_rfl) hp
  obtain ⟨E3, f3, r3⟩ := row_of_var p_p hpw
  have hml : ∃ m, W.cell? ⟨3, 0, none⟩ = some (.int .i64 m) := cell_of_shapedOpen_int hsh (g := 3) (t := 3) (zero := #[.int .i64 0]) (of_decide_eq_true (by kernel_rfl)) (by kernel_rfl) rfl (by kernel_rfl) (by kernel_rfl) Tryz.underlying3
  exact ⟨by simpa using World.var?_cell p_et e5 0, ⟨a0, a1, c0, c1, t0, t1, E1, E2, f1, f2, r1, r2, hne, in_heap hb0, in_heap hb1, hb0, hb1⟩, hml, ⟨E3, f3, r3⟩⟩
theorem wd_of_laid {W : World} (hsh : W.ShapedOpen Tryz.prog) (h : laidMetH Tryz.prog Rows.arrayRightsRow.laid W) : cx0.Wd (fun b => b < W.heap.size) W := by
  have hv := vars_of_laid hsh h
  refine ⟨?_, hv⟩
  have h8 : 8 < W.heap.size := by
    obtain ⟨E, fr, r⟩ := hv.pw
    exact in_heap r
  exact ⟨by omega, by omega, by omega, by omega, h8⟩
theorem change_and_shaped {H : Type} {enc : TypeId × Value → H} {C : Checked} {os : Os} {f : FuncId} {fn : Func} {s : ChangeSpec} {conds : List PathCond} {apart fresh handsOn again : Bool} {X : World → Array Value → Prop}
    (hX : ∀ (w w' : World) (args : Array Value), w.heap = w'.heap → X w args → X w' args)
    (own : ownKnob C.prog.godebug = none) (started : os.Started) (noInit : C.prog.inits.idxOf? f = none) (hfn : C.prog.funcs[f]? = some fn)
    (witness : ∃ (w : World) (tape : Tape) (i : Input), w.os = os ∧ (w.forCall tape i).Shaped C.prog ∧ i.vars = [] ∧ Input.okWide C.prog (w.forCall tape i) .any w.heap.size f i ∧
      ((s.pre enc C.prog fn conds apart (w.forCall tape i).memory i.args ∧ X (w.forCall tape i).memory i.args) ∧ sizedMet enc C.prog fn (OpenSpec.ofChange s) apart (w.forCall tape i).memory i.args) ∧ ({} : Assume).holds C.prog (lone (Frame.enter C.prog f i.args .normal) [] (w.forCall tape i)))
    (contract : ∀ (W : World) (base : Nat) (args : Array Value) (ds gs : List (DataW H)) (before : List MemPlace),
      (∀ (j : Nat) t v, fn.params[j]? = some t → args[j]? = some v → Value.okWide C.prog W .any base t v) →
      DataW.Whole enc C.prog fn.params.toList s.vars apart W args.toList ds gs before → X W args → W.ShapedOpen C.prog →
      Calls C.prog f args W fun e W' => ∃ v, e = .returned v ∧ s.post enc C.prog fn apart fresh handsOn again W args v W') :
    ReturnsInHanded {} C os f .any (fun w args => (s.pre enc C.prog fn conds apart w args ∧ X w args) ∧ sizedMet enc C.prog fn (OpenSpec.ofChange s) apart w args) (s.post enc C.prog fn apart fresh handsOn again) := by
  refine returnsInHanded_of_calls own started noInit witness ?_
  intro w tape i _ hsh _ hok hpre _
  obtain ⟨_, _, _, fn', hfn', _, _, _, _, hval⟩ := hok
  have e : fn' = fn := Option.some.inj (hfn'.symm.trans hfn)
  subst e
  obtain ⟨⟨⟨ds, gs, before, hw, hc⟩, hx⟩, hz⟩ := hpre
  have hw' := DataW.Whole.of_heap (w' := w.forCall tape i) (by rfl) hw
  refine (contract (w.forCall tape i) w.heap.size i.args ds gs before hval hw' (hX _ _ _ (by rfl) hx) hsh).mono fun e W' ⟨v, he, hp⟩ => ?_
  subst he
  exact ChangeSpec.post_blind hp
mutual
def tabCells : DataW Unit → List Value
  | .lit (.int k n) => [.int k n]
  | .agg ds => tabCellsL ds
  | _ => []
def tabCellsL : List (DataW Unit) → List Value
  | [] => []
  | d :: ds => tabCells d ++ tabCellsL ds
end
def textOf : DataW Unit → ByteArray
  | .iface _ (.ptr (.agg [.lit (.string s)])) => ⟨s.toArray⟩
  | _ => ⟨#[]⟩
def putTab (h : Array Obj) (i : Nat) (d : DataW Unit) : Array Obj := h.modify i fun
  | .cells _ t frozen => .cells (tabCells d).toArray t frozen
  | o => o
def putCell (h : Array Obj) (i : Nat) (v : Value) : Array Obj := h.modify i fun
  | .cells _ t frozen => .cells #[v] t frozen
  | o => o
noncomputable def low : Nat := (World.holding Tryz.prog default ⟨#[], #[], []⟩).heap.size
noncomputable def laidWorld (os : Os) : World :=
  let w0 := World.holding Tryz.prog os ⟨#[.cells #[.string (textOf Rows.laid_diaeresis_number_errOver)] 177, .cells #[.string (textOf Rows.laid_diaeresis_number_errDivide)] 177, .cells #[.string (textOf Rows.laid_strconv_ErrSyntax)] 177, .cells #[.string (textOf Rows.laid_strconv_ErrRange)] 177], #[], []⟩
  let h0 := putCell w0.heap 0 (.iface 130 (.agg #[.pointer (some ⟨11, 42, none⟩)]))
  let h1 := putCell (putCell (putCell (putCell h0 1 (.iface 175 (.pointer (some ⟨low, 0, none⟩)))) 2 (.iface 175 (.pointer (some ⟨low + 1, 0, none⟩)))) 4 (.iface 175 (.pointer (some ⟨low + 2, 0, none⟩)))) 5 (.iface 175 (.pointer (some ⟨low + 3, 0, none⟩)))
  { w0 with heap := putTab (putTab (putTab (putTab (putTab h1 6 Rows.laid_unicode_utf8_first) 7 Rows.laid_unicode_utf8_acceptRanges) 8 Rows.laid_internal_strconv_uint64pow10) 9 Rows.laid_math_bits_deBruijn32tab) 10 Rows.laid_math_bits_deBruijn64tab }
theorem laidWorld_met (os : Os) (args : Array Value) : laidMetH Tryz.prog Rows.arrayRightsRow.laid ((laidWorld os).forCall (fun _ _ => 0) ⟨#[], args, []⟩).memory :=
  laidMetH_of_parts (laidMet_of_run' 8 (by kernel_rfl) (by kernel_rfl)) (by kernel_rfl)
end Go.Ab.Arrays

