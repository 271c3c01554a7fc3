/-
  Part 6 of a proof: a machine of our own for the given program, its laws, and what it says of the program. Nothing here is a claim by itself.
-/
import Derived.Test.YtglakhjbcnajfaaGreatDoorK05
import Derived.Test.YtglakhjbcnajfaaGreatDoorRows
import Derived.ProofKit
import Derived.ChangeMaps5
import Derived.ChangeSame
import Derived.ChangeVars
import Derived.JoinedOf
import Derived.RowKit
import Derived.RowKitTokens
import Derived.LaidLaws
import Derived.LaidHandle
import Derived.Stop.Joined
import Derived.Carry
set_option linter.all false

/-
  Shape: functions of two: places, so many items, rotated, dropped.
-/
namespace Go.Ab.Shape
open Go Go.Ab

theorem IsL.lo {v : PV} {l : List Int} (h : IsL v l) {k : Nat} (hk : k ≤ l.length) : ∃ u, pureO (.slice 1 (.c v) (some (.c (I k))) none none) = some u ∧ IsL u (l.drop k) := by
  cases h with
  | nil =>
    have : k = 0 := by simpa using hk
    subst this
    exact ⟨.nilS, by simp [pureO, exec, RX.ev, evO, bound, natOf, chk, I, sliceOf], .nil⟩
  | sl _ f =>
    have hk' : k ≤ (ints l).length := by rw [ints_len]; exact hk
    refine ⟨.sl 1 (ints (l.drop k)) f, ?_, .sl _ _⟩
    simp [pureO, exec, RX.ev, evO, bound, natOf, chk, I, hk', ints_drop, sliceOf]
theorem IsL.himx {v : PV} {l : List Int} (h : IsL v l) {k : Nat} (hk : k ≤ l.length) : ∃ u, pureO (.slice 1 (.c v) none (some (.c (I k))) (some (.c (I k)))) = some u ∧ IsL u (l.take k) := by
  cases h with
  | nil =>
    have : k = 0 := by simpa using hk
    subst this
    exact ⟨.nilS, by simp [pureO, exec, RX.ev, evO, bound, natOf, chk, I, sliceOf], .nil⟩
  | sl _ f =>
    have hk' : k ≤ (ints l).length := by rw [ints_len]; exact hk
    refine ⟨.sl 1 (ints (l.take k)) true, ?_, .sl _ _⟩
    simp [pureO, exec, RX.ev, evO, bound, natOf, chk, I, hk', ints_take, sliceOf]

/-! ### Places -/

def idxAt (a b : Arr) (n : Int) : Int := if idxP (fun x => n == x) 0 a.n < 0 ∨ a.ru ≠ b.ru then (a.n.length : Int) + 1 else idxP (fun x => n == x) 0 a.n + 1
def indexE (a : Arr) : Int := if a.li then 0 else 111
def indexA (a b : Arr) : Arr := if a.li then ⟨b.li, false, b.n.map (idxAt a b)⟩ else noArr

theorem idxP_le (p : Int → Bool) : ∀ (l : List Int) (i : Nat), -1 ≤ idxP p i l ∧ idxP p i l ≤ i + l.length := by
  intro l
  induction l with
  | nil => intro i; simp [idxP]
  | cons x l ih =>
    intro i
    simp only [idxP]
    split
    · simp only [List.length_cons]; omega
    · have := ih (i + 1)
      simp only [List.length_cons]; omega

theorem app_one {l : List Int} {n : Int} {c : Nat} (hc : c = l.length) : catL (takeL c (ints l)) (takeL (lenL [I n]) (dropL 0 [I n])) = ints (l ++ [n]) := by
  subst hc
  rw [show takeL (lenL [I n]) (dropL 0 [I n]) = [I n] from rfl]
  simp [ints, List.take_of_length_le]
theorem app_chk {l : List Int} {n : Int} {c : Nat} (hc : c = l.length) (hl : l.length ≤ 1000000) : andB (leN c (lenL (ints l))) (leN (addN c (lenL (takeL (lenL [I n]) (dropL 0 [I n])))) 2147483648) = true := by
  subst hc
  have : l.length + 1 ≤ 2147483648 := by omega
  simp [ints_len, this]
theorem app_len {n : Int} (c : Nat) : nI (addN c (lenL (takeL (lenL [I n]) (dropL 0 [I n])))) = I ((c + 1 : Nat) : Int) := by simp [I]

theorem take_snoc {l : List Int} {i : Nat} (h : i < l.length) : l.take (i + 1) = l.take i ++ [l[i]] := by rw [List.take_succ_eq_append_getElem h]

set_option maxHeartbeats 1000000 in
theorem index_of_run {v : PV} {b a : Arr} (h : IsP v b a) (hb : b.n.length ≤ 400000) (ha : a.n.length ≤ 400000) : Gives 49 v (indexA a b) (indexE a) := by
  obtain ⟨x, y, rfl, hx, hy⟩ := h.get
  by_cases hli : a.li = true
  case neg =>
    rw [Bool.not_eq_true] at hli
    refine ⟨.agg [.bool false, .bool false, .nilS], ?_, by unfold indexA; rw [hli]; exact noArr_is⟩
    refine call (d := fun _ => .cl) rfl (by decide) (by simp [okVL, h.ok]) rfl ?_
    rw [List.map_cons, List.map_nil, run49, h.val, chkO_true]
    simp only [selO_eq, cells_agg', sel6_3, bindO_val, pure_not, hli, iteP_bool, Bool.not_false, if_true]
    unfold indexE
    rw [hli]
    rfl
  case pos =>
    refine ⟨.agg [.bool b.li, .bool false, .sl 1 (ints (b.n.map (idxAt a b))) false], ?_, by unfold indexA; rw [hli]; exact .mk _ _ _ _ (.sl _ _)⟩
    rw [show indexE a = 0 by unfold indexE; rw [hli]; rfl]
    refine call (d := fun _ => .cl) rfl (by decide) (by simp [okVL, h.ok]) rfl ?_
    rw [List.map_cons, List.map_nil, run49, h.val, chkO_true]
    simp only [selO_eq, cells_agg', sel6_0, sel6_2, sel6_3, bindO_val, pure_not, hli, iteP_bool, Bool.not_true, Bool.false_eq_true, if_false]
    rw [show pureO (.build [.bool false, .bool false, .nilS] [(0, (1, .c (.bool b.li)))]) = some (.agg [.bool b.li, .bool false, .nilS]) from rfl]
    simp only [bindO_val, hx.len, okCells3 (a := .bool b.li) (b := .bool false) (c := .nilS) rfl, chkO_true, cellP3_0, cellP3_1, cellP3_2, nilO]
    rw [show noUndef [x, I b.n.length, .int .i64 0] = true by simp [noUndef, hx.und, I_def], chkO_true]
    refine loop_run (fun i => ([x, I b.n.length, I i, .agg [.bool b.li, .bool b.ru, x, .bool true, .bool a.ru, y], .bool false, .bool false, .nilS, .bool b.li, .bool false, I i, .sl 1 (ints ((b.n.take i).map (idxAt a b))) false], ())) b.n.length (by simp [ints, I]) (fun i hlt => ?_) ?_
    · have n9 : ∀ (a0 a1 a2 a3 a4 a5 a6 a7 a8 a9 : PV) (l : List PV), nth (a0 :: a1 :: a2 :: a3 :: a4 :: a5 :: a6 :: a7 :: a8 :: a9 :: l) 9 = a9 := fun _ _ _ _ _ _ _ _ _ _ _ => rfl
      have n10 : ∀ (a0 a1 a2 a3 a4 a5 a6 a7 a8 a9 a10 : PV) (l : List PV), nth (a0 :: a1 :: a2 :: a3 :: a4 :: a5 :: a6 :: a7 :: a8 :: a9 :: a10 :: l) 10 = a10 := fun _ _ _ _ _ _ _ _ _ _ _ _ => rfl
      simp only [nth_0, nth_1, nth_2, nth_3, nth_4, nth_5, nth_6, nth_7, nth_8, n9, n10, I_lss, bindO_val, iteP_bool, natP_I, Int.toNat_natCast, itemsP_sl]
      rw [if_pos (by simpa using hlt), hx.idx hlt]
      simp only [bindO_val, load_I, cells_agg', sel6_5, find_run hy (by omega), sel6_4, sel6_1, pure_neb, I_def, I_lss, iteP_bool]
      have hle := idxP_le (fun x => b.n[i] == x) a.n 0
      have hln : ((b.n.take i).map (idxAt a b)).length = i := by simp; omega
      have hfin : ((b.n.take i).map (idxAt a b)) ++ [idxAt a b b.n[i]] = (b.n.take (i + 1)).map (idxAt a b) := by rw [take_snoc hlt, List.map_append]; rfl
      by_cases hc : idxP (fun x => b.n[i] == x) 0 a.n < 0 ∨ a.ru ≠ b.ru
      · have e1 : (if decide (idxP (fun x => b.n[i] == x) 0 a.n < 0) = true then some (PV.bool true) else some (PV.bool (!(a.ru == b.ru)))) = some (.bool true) := by
          rcases hc with hc | hc
          · simp [hc]
          · by_cases q : idxP (fun x => b.n[i] == x) 0 a.n < 0 <;> simp [q, hc]
        rw [e1]
        simp only [bindO_val, iteP_bool, if_true, hy.len, I_add]
        have e2 : IntKind.i64.wrap ((a.n.length : Int) + 1) = idxAt a b b.n[i] := by
          rw [w64 (by omega) (by omega)]; unfold idxAt; rw [if_pos hc]
        rw [e2]
        simp only [bindO_val, okSls_I, chkO_true]
        rw [show leN (addN 0 (lenL [I (idxAt a b b.n[i])])) (lenL [I (idxAt a b b.n[i])]) = true from rfl, app_chk hln.symm (by omega), app_one hln.symm, app_len]
        simp only [chkO_true, wsucc (by omega : i < 9223372036854775807), hfin]
      · have e1 : (if decide (idxP (fun x => b.n[i] == x) 0 a.n < 0) = true then some (PV.bool true) else some (PV.bool (!(a.ru == b.ru)))) = some (.bool false) := by
          have q1 : ¬ idxP (fun x => b.n[i] == x) 0 a.n < 0 := fun q => hc (.inl q)
          have q2 : a.ru = b.ru := Classical.byContradiction fun q => hc (.inr q)
          rw [decide_eq_false q1, q2]; simp
        rw [e1]
        simp only [bindO_val, iteP_bool, Bool.false_eq_true, if_false, I_add]
        have e2 : IntKind.i64.wrap (idxP (fun x => b.n[i] == x) 0 a.n + 1) = idxAt a b b.n[i] := by
          rw [w64 (by omega) (by omega)]; unfold idxAt; rw [if_neg hc]
        rw [e2]
        simp only [bindO_val, okSls_I, chkO_true]
        rw [show leN (addN 0 (lenL [I (idxAt a b b.n[i])])) (lenL [I (idxAt a b b.n[i])]) = true from rfl, app_chk hln.symm (by omega), app_one hln.symm, app_len]
        simp only [chkO_true, wsucc (by omega : i < 9223372036854775807), hfin]
    · have n9 : ∀ (a0 a1 a2 a3 a4 a5 a6 a7 a8 a9 : PV) (l : List PV), nth (a0 :: a1 :: a2 :: a3 :: a4 :: a5 :: a6 :: a7 :: a8 :: a9 :: l) 9 = a9 := fun _ _ _ _ _ _ _ _ _ _ _ => rfl
      have n10 : ∀ (a0 a1 a2 a3 a4 a5 a6 a7 a8 a9 a10 : PV) (l : List PV), nth (a0 :: a1 :: a2 :: a3 :: a4 :: a5 :: a6 :: a7 :: a8 :: a9 :: a10 :: l) 10 = a10 := fun _ _ _ _ _ _ _ _ _ _ _ _ => rfl
      simp only [nth_0, nth_1, nth_2, nth_7, nth_8, n9, n10, I_lss, bindO_val, iteP_bool, natP_I, Int.toNat_natCast, itemsP_sl]
      rw [if_neg (by simp), List.take_length]
      have e1 : slO 1 1 (ints (b.n.map (idxAt a b))) 0 b.n.length = .sl 1 (ints (b.n.map (idxAt a b))) false := by
        have := slO_all (b.n.map (idxAt a b))
        simpa [ints_len] using this
      rw [e1]
      have e7 : okU (.tup [.agg [.bool b.li, .bool false, .sl 1 (ints (b.n.map (idxAt a b))) false], .nilI]) = true := by simp [okU, okV, okVL, okVL_ints]
      rw [e7]
      rfl

/-! ### How many -/

def amtE (lo hi : Int) (a : Arr) : Int := if firstE a = 0 ∧ (firstN a < lo ∨ hi < firstN a) then 113 else firstE a

theorem amount_run {v : PV} {b a : Arr} (h : IsP v b a) (ha : a.n.length ≤ 1000000) (lo hi : Int) : callO B0 .cl (.fn 76 []) [v, I lo, I hi] = some (.tup [I (firstN a), errV (amtE lo hi a)]) := by
  obtain ⟨x, y, rfl, hx, hy⟩ := h.get
  have hf := first_run (isA3 a.li a.ru hy) ha
  refine call (d := fun _ => .cl) rfl (by decide) (by simp [okVL, h.ok]) rfl ?_
  rw [List.map_cons, List.map_cons, List.map_cons, List.map_nil, run76, h.val, chkO_true]
  simp only [selO_eq, cells_agg', sel6_b, bindO_val, hf, pure_tup, List.getElem?_cons_zero, List.getElem?_cons_succ, err_eql, iteP_bool, I_lss, I_gtr]
  have ef : firstE ⟨a.li, a.ru, a.n⟩ = firstE a := rfl
  have en : firstN ⟨a.li, a.ru, a.n⟩ = firstN a := rfl
  rw [ef, en]
  unfold amtE
  by_cases h1 : firstE a = 0
  · by_cases h2 : firstN a < lo
    · simp only [h1, h2, decide_true, if_true, bindO_val, iteP_bool, true_or, true_and]
      rfl
    · by_cases h3 : hi < firstN a
      · simp only [h1, h2, h3, decide_true, decide_false, if_true, Bool.false_eq_true, if_false, bindO_val, iteP_bool, or_true, true_and]
        rfl
      · simp only [h1, h2, h3, decide_true, decide_false, if_true, Bool.false_eq_true, if_false, bindO_val, iteP_bool, or_false, and_false]
  · simp only [h1, decide_false, Bool.false_eq_true, if_false, bindO_val, iteP_bool, false_and]

/-! ### Reshaped -/

def shE (a b : Arr) : Int := if amtE (-9223372036854775808) 200 a ≠ 0 then amtE (-9223372036854775808) 200 a else if firstN a < 0 then 102 else if 0 < firstN a ∧ b.n.length = 0 then 110 else 0
def cyc (b : Arr) (n : Nat) : List Int := (List.range n).map fun i => b.n.getD (i % b.n.length) 0
def shA (a b : Arr) : Arr := if shE a b = 0 then ⟨true, b.ru, cyc b (firstN a).toNat⟩ else noArr

theorem cyc_succ (b : Arr) (n : Nat) : cyc b (n + 1) = cyc b n ++ [b.n.getD (n % b.n.length) 0] := by simp [cyc, List.range_succ]
theorem cyc_len (b : Arr) (n : Nat) : (cyc b n).length = n := by simp [cyc]

set_option maxHeartbeats 1000000 in
theorem reshape_run {v : PV} {b a : Arr} (h : IsP v b a) (hb : b.n.length ≤ 400000) (ha : a.n.length ≤ 400000) : Gives 47 v (shA a b) (shE a b) := by
  have ham := amount_run h (by omega) (-9223372036854775808) 200
  obtain ⟨x, y, rfl, hx, hy⟩ := h.get
  have elen : ((b.n.length : Int) == 0) = decide (b.n.length = 0) := by
    rw [Bool.eq_iff_iff, beq_iff_eq, decide_eq_true_iff]; omega
  by_cases h1 : amtE (-9223372036854775808) 200 a = 0
  · by_cases h2 : firstN a < 0
    · have hE : shE a b = 102 := by unfold shE; rw [if_neg (by simpa using h1), if_pos h2]
      refine ⟨.agg [.bool false, .bool false, .nilS], ?_, by unfold shA; rw [hE, if_neg (by decide)]; exact noArr_is⟩
      rw [hE]
      refine call (d := fun _ => .cl) rfl (by decide) (by simp [okVL, h.ok]) rfl ?_
      rw [List.map_cons, List.map_nil, run47, h.val, chkO_true]
      simp only [selO_eq, cells_agg', sel6_w, bindO_val, I_def, ham, pure_tup, List.getElem?_cons_zero, List.getElem?_cons_succ, err_eql, iteP_bool, I_lss, h1, h2, decide_true, if_true]
      rfl
    · by_cases h3 : 0 < firstN a ∧ b.n.length = 0
      · have hE : shE a b = 110 := by unfold shE; rw [if_neg (by simpa using h1), if_neg h2, if_pos h3]
        refine ⟨.agg [.bool false, .bool false, .nilS], ?_, by unfold shA; rw [hE, if_neg (by decide)]; exact noArr_is⟩
        rw [hE]
        refine call (d := fun _ => .cl) rfl (by decide) (by simp [okVL, h.ok]) rfl ?_
        rw [List.map_cons, List.map_nil, run47, h.val, chkO_true]
        simp only [selO_eq, cells_agg', sel6_w, sel6_2, bindO_val, I_def, ham, pure_tup, List.getElem?_cons_zero, List.getElem?_cons_succ, err_eql, err_neq, iteP_bool, I_lss, I_gtr, I_eql, hx.len, h1, h2, h3.1, h3.2, decide_true, decide_false, if_true, Bool.false_eq_true, if_false, ne_eq, not_true_eq_false]
        rfl
      · have hE : shE a b = 0 := by unfold shE; rw [if_neg (by simpa using h1), if_neg h2, if_neg h3]
        refine ⟨likeV b.ru (.sl 1 (ints (cyc b (firstN a).toNat)) false), ?_, by unfold shA; rw [if_pos hE]; exact .mk _ _ _ _ (.sl _ _)⟩
        rw [hE]
        refine call (d := fun _ => .cl) rfl (by decide) (by simp [okVL, h.ok]) rfl ?_
        rw [List.map_cons, List.map_nil, run47, h.val, chkO_true]
        have h4 : ¬ 200 < firstN a := fun q => by
          unfold amtE at h1
          by_cases q2 : firstE a = 0
          · rw [if_pos ⟨q2, .inr q⟩] at h1; cases h1
          · rw [if_neg (fun q3 => q2 q3.1)] at h1; exact q2 h1
        obtain ⟨N, hN⟩ : ∃ N : Nat, firstN a = N := ⟨(firstN a).toNat, by omega⟩
        simp only [selO_eq, cells_agg', sel6_w, sel6_2, bindO_val, I_def, ham, pure_tup, List.getElem?_cons_zero, List.getElem?_cons_succ, err_eql, err_neq, iteP_bool, I_lss, I_gtr, I_eql, hx.len, h1, h2, elen, decide_true, decide_false, if_true, Bool.false_eq_true, if_false, ne_eq, not_true_eq_false]
        rw [show pureO (.build [I 0] [(0, (1, .c (I 110)))]) = some (.agg [I 110]) from rfl]
        simp only [bindO_val]
        have e0 : (if decide (0 < firstN a) = true then some (PV.bool (decide (b.n.length = 0))) else some (.bool false)) = some (.bool false) := by
          by_cases q : 0 < firstN a
          · have : ¬ b.n.length = 0 := fun q2 => h3 ⟨q, q2⟩
            simp only [q, this, decide_true, decide_false, if_true]
          · simp only [q, decide_false, Bool.false_eq_true, if_false]
        rw [e0]
        simp only [bindO_val, iteP_bool, Bool.false_eq_true, if_false]
        rw [hN] at h3 h4 ⊢
        have hN2 : N ≤ 200 := by omega
        rw [show noUndef [nI 0, I N, I 0] = true from rfl, chkO_true]
        refine loop_run (fun i => ([I i, I N, I i, .agg [.bool b.li, .bool b.ru, x, .bool a.li, .bool a.ru, y], .bool false, .bool false, .nilS, .sl 1 (ints (cyc b i)) false], ())) N rfl (fun i hlt => ?_) ?_
        · have hbl : 0 < b.n.length := by
            rcases Nat.eq_zero_or_pos b.n.length with q | q
            · exact absurd ⟨by omega, q⟩ h3
            · exact q
          have hmod : i % b.n.length < b.n.length := Nat.mod_lt _ hbl
          simp only [nth_0, nth_1, nth_2, nth_3, nth_4, nth_5, nth_6, nth_7, I_lss, bindO_val, iteP_bool, natP_I, Int.toNat_natCast, itemsP_sl]
          rw [if_pos (by simpa using hlt)]
          simp only [cells_agg', sel6_2, bindO_val, hx.len]
          have er : pureO (.bin .rem .num false (.c (I i)) (.c (I b.n.length))) = some (I ((i % b.n.length : Nat) : Int)) := by
            rw [I, I, pure_rem _ _ (by omega)]
            rfl
          rw [er]
          simp only [bindO_val, hx.idx hmod, load_I, okSls_I, chkO_true]
          have ei : b.n[i % b.n.length] = b.n.getD (i % b.n.length) 0 := by rw [List.getD_eq_getElem?_getD, List.getElem?_eq_getElem hmod]; rfl
          rw [ei, show leN (addN 0 (lenL [I (b.n.getD (i % b.n.length) 0)])) (lenL [I (b.n.getD (i % b.n.length) 0)]) = true from rfl, app_chk (cyc_len b i).symm (by rw [cyc_len]; omega), app_one (cyc_len b i).symm, app_len, ← cyc_succ]
          simp only [chkO_true, I_add, bindO_val, wsucc (by omega : i < 9223372036854775807)]
        · simp only [nth_0, nth_1, nth_2, nth_3, nth_7, I_lss, bindO_val, iteP_bool, natP_I, Int.toNat_natCast, itemsP_sl]
          rw [if_neg (by simp)]
          simp only [cells_agg', sel6_a, bindO_val]
          have e1 : slO 1 1 (ints (cyc b N)) 0 N = .sl 1 (ints (cyc b N)) false := by
            have := slO_all (cyc b N)
            simpa [ints_len, cyc_len] using this
          rw [e1, like_lend (isA3 b.li b.ru hx)]
          rfl
  · have hE : shE a b = amtE (-9223372036854775808) 200 a := by unfold shE; rw [if_pos h1]
    refine ⟨.agg [.bool false, .bool false, .nilS], ?_, by unfold shA; rw [hE, if_neg h1]; exact noArr_is⟩
    rw [hE]
    refine call (d := fun _ => .cl) rfl (by decide) (by simp [okVL, h.ok]) rfl ?_
    rw [List.map_cons, List.map_nil, run47, h.val, chkO_true]
    simp only [selO_eq, cells_agg', sel6_w, bindO_val, I_def, ham, pure_tup, List.getElem?_cons_zero, List.getElem?_cons_succ, err_eql, err_neq, iteP_bool, h1, decide_false, Bool.false_eq_true, if_false, ne_eq, not_false_eq_true, decide_true, if_true]
    rfl
end Go.Ab.Shape

/-
  Shape: functions of two: turned round, taken, dropped.
-/
namespace Go.Ab.Shape
open Go Go.Ab

/-! ### Turned round -/

/-- The place that a number turns an array to. -/
def turnAt (n : Int) (k : Nat) : Nat := (n % (k : Int)).toNat
def turn (n : Int) (l : List Int) : List Int := l.drop (turnAt n l.length) ++ l.take (turnAt n l.length)
def rotA (a b : Arr) : Arr := if firstE a = 0 then ⟨b.li, b.ru, if b.n.length = 0 then [] else turn (firstN a) b.n⟩ else noArr

theorem turnAt_lt {n : Int} {k : Nat} (hk : 0 < k) : turnAt n k < k := by
  unfold turnAt
  have h1 := Int.emod_nonneg n (show (k : Int) ≠ 0 by omega)
  have h2 := Int.emod_lt_of_pos n (show (0 : Int) < (k : Int) by omega)
  omega

theorem turn_rem {n : Int} {k : Nat} (hk : 0 < k) (hs : k ≤ 1000000) : IntKind.i64.wrap (n.tmod k + k) = n.tmod k + k ∧ (n.tmod k + k).tmod k = (turnAt n k : Int) := by
  have h2 := Int.tmod_lt_of_pos n (show (0 : Int) < (k : Int) by omega)
  have h1 : -(k : Int) < n.tmod k := by
    have := Int.tmod_lt_of_pos (-n) (show (0 : Int) < (k : Int) by omega)
    rw [Int.neg_tmod] at this
    omega
  refine ⟨w64 (by omega) (by omega), ?_⟩
  rw [Int.tmod_eq_emod_of_nonneg (by omega)]
  unfold turnAt
  rw [Int.toNat_of_nonneg (Int.emod_nonneg n (show (k : Int) ≠ 0 by omega)), Int.add_emod_right]
  have e := Int.tmod_add_mul_tdiv n k
  have : n.tmod k = n + k * (-(n.tdiv k)) := by rw [Int.mul_neg]; omega
  rw [this, Int.add_mul_emod_self_left]

set_option maxHeartbeats 1000000 in
theorem rotate_run {v : PV} {b a : Arr} (h : IsP v b a) (hb : b.n.length ≤ 400000) (ha : a.n.length ≤ 400000) : Gives 55 v (rotA a b) (firstE a) := by
  obtain ⟨x, y, rfl, hx, hy⟩ := h.get
  have hf := first_run (isA3 a.li a.ru hy) (by simpa using (by omega : a.n.length ≤ 1000000))
  have ho := own_run (isA3 b.li b.ru hx) (by simpa using (by omega : b.n.length ≤ 1000000))
  have ef : firstE ⟨a.li, a.ru, a.n⟩ = firstE a := rfl
  have en : firstN ⟨a.li, a.ru, a.n⟩ = firstN a := rfl
  rw [ef, en] at hf
  have oc : okCells (.agg [.bool b.li, .bool b.ru, x]) 3 = true := okCells3 (val3 rfl rfl hx.cell)
  have e0 : ∀ l : List Int, decide ((0 : Int) < (l.length : Int)) = decide (0 < l.length) := by
    intro l
    rw [Bool.eq_iff_iff, decide_eq_true_iff, decide_eq_true_iff]; omega
  by_cases h1 : firstE a = 0
  · have fin : ∀ l : List Int, okU (.tup [.agg [.bool b.li, .bool b.ru, .sl 1 (ints l) false], .nilI]) = true := fun l => by simp [okU, okV, okVL, okVL_ints]
    by_cases h2 : 0 < b.n.length
    · have hk := turnAt_lt (n := firstN a) h2
      obtain ⟨p, hp1, hp2⟩ := hx.lo (k := turnAt (firstN a) b.n.length) (by omega)
      obtain ⟨q, hq1, hq2⟩ := hx.himx (k := turnAt (firstN a) b.n.length) (by omega)
      have hcc := concat_run hp2 hq2 (by simp; omega) (by simp; omega)
      obtain ⟨w1, w2⟩ := turn_rem (n := firstN a) h2 (by omega)
      refine ⟨.agg [.bool b.li, .bool b.ru, .sl 1 (ints (turn (firstN a) b.n)) false], ?_, by unfold rotA; rw [if_pos h1, if_neg (by omega)]; exact .mk _ _ _ _ (.sl _ _)⟩
      rw [h1]
      refine call (d := fun _ => .cl) rfl (by decide) (by simp [okVL, h.ok]) rfl ?_
      rw [List.map_cons, List.map_nil, run55, h.val, chkO_true]
      simp only [selO_eq, cells_agg', sel6_b, sel6_a, sel6_2, bindO_val, hf, pure_tup, List.getElem?_cons_zero, List.getElem?_cons_succ, err_neq, h1, ne_eq, not_true_eq_false, decide_false, iteP_bool, Bool.false_eq_true, if_false, oc, chkO_true, ho, hx.len, I_def, I_gtr, e0, h2, decide_true, if_true]
      have r1 : pureO (.bin .rem .num false (.c (I (firstN a))) (.c (I b.n.length))) = some (I ((firstN a).tmod b.n.length)) := by
        rw [I, I, pure_rem _ _ (by omega)]; rfl
      have r2 : ∀ m : Int, pureO (.bin .rem .num false (.c (I m)) (.c (I b.n.length))) = some (I (m.tmod b.n.length)) := fun m => by
        rw [I, I, pure_rem _ _ (by omega)]; rfl
      rw [r1]
      simp only [bindO_val, I_add, w1, r2, w2, hp1, hq1]
      rw [show okSls 1 [p, q] = true by simp [okSls, hp2.val, hq2.val, hp2.cells, hq2.cells], chkO_true, show slO 1 1 [p, q] 0 (lenL [p, q]) = .sl 1 [p, q] false from rfl, hcc]
      simp only [bindO_val, itemsP_sl, slO_all, cellP3_0, cellP3_1, fin, chkO_true]
      rfl
    · have hnil : b.n = [] := List.length_eq_zero_iff.1 (by omega)
      refine ⟨.agg [.bool b.li, .bool b.ru, .sl 1 (ints b.n) false], ?_, by unfold rotA; rw [if_pos h1, if_pos (by omega), hnil]; exact .mk _ _ _ _ (.sl _ _)⟩
      rw [h1]
      refine call (d := fun _ => .cl) rfl (by decide) (by simp [okVL, h.ok]) rfl ?_
      rw [List.map_cons, List.map_nil, run55, h.val, chkO_true]
      simp only [selO_eq, cells_agg', sel6_b, sel6_a, sel6_2, bindO_val, hf, pure_tup, List.getElem?_cons_zero, List.getElem?_cons_succ, err_neq, h1, ne_eq, not_true_eq_false, decide_false, iteP_bool, Bool.false_eq_true, if_false, oc, chkO_true, ho, hx.len, I_def, I_gtr, e0, h2, itemsP_sl, slO_all, cellP3_0, cellP3_1, fin]
      rfl
  · refine ⟨.agg [.bool false, .bool false, .nilS], ?_, by unfold rotA; rw [if_neg h1]; exact noArr_is⟩
    refine call (d := fun _ => .cl) rfl (by decide) (by simp [okVL, h.ok]) rfl ?_
    rw [List.map_cons, List.map_nil, run55, h.val, chkO_true]
    simp only [selO_eq, cells_agg', sel6_b, bindO_val, hf, pure_tup, List.getElem?_cons_zero, List.getElem?_cons_succ, err_neq, h1, ne_eq, not_false_eq_true, decide_true, iteP_bool, if_true]
    rfl

/-! ### Dropped -/

def dropL' (n : Int) (l : List Int) : List Int := if 0 ≤ n then l.drop (min n l.length).toNat else l.take (max ((l.length : Int) + max n (-(l.length : Int))) 0).toNat
def dropA (a b : Arr) : Arr := if firstE a = 0 then ⟨true, b.ru, dropL' (firstN a) b.n⟩ else noArr

theorem minI (a b : Int) : pureO (.minmax false [.c (I a), .c (I b)]) = some (I (min a b)) := by
  simp only [pureO, exec, List.map_cons, List.map_nil, RX.ev, foldMM, I, chk]
  by_cases h : b < a
  · have : min a b = b := by omega
    simp [h, this]
  · have : min a b = a := by omega
    simp [h, this]
theorem maxI (a b : Int) : pureO (.minmax true [.c (I a), .c (I b)]) = some (I (max a b)) := by
  simp only [pureO, exec, List.map_cons, List.map_nil, RX.ev, foldMM, I, chk]
  by_cases h : a < b
  · have : max a b = b := by omega
    simp [h, this]
  · have : max a b = a := by omega
    simp [h, this]
theorem negI (n : Int) : pureO (.un .neg (.c (I n))) = some (I (IntKind.i64.wrap (0 - n))) := pure_neg n

theorem bound_I {n : Int} {d top : Nat} (h0 : 0 ≤ n) (h1 : n ≤ top) : boundO (some (I n)) d top = some n.toNat := by
  have : n.toNat ≤ top := by omega
  simp [boundO, bound, natOf, chk, I, h0, this]
theorem bound_none (d top : Nat) : boundO none d top = some d := rfl

set_option maxHeartbeats 1000000 in
theorem drop_run {v : PV} {b a : Arr} (h : IsP v b a) (hb : b.n.length ≤ 400000) (ha : a.n.length ≤ 400000) : Gives 58 v (dropA a b) (firstE a) := by
  obtain ⟨x, y, rfl, hx, hy⟩ := h.get
  have hf := first_run (isA3 a.li a.ru hy) (by simpa using (by omega : a.n.length ≤ 1000000))
  have ho := own_run (isA3 b.li b.ru hx) (by simpa using (by omega : b.n.length ≤ 1000000))
  have ef : firstE ⟨a.li, a.ru, a.n⟩ = firstE a := rfl
  have en : firstN ⟨a.li, a.ru, a.n⟩ = firstN a := rfl
  rw [ef, en] at hf
  have fin : ∀ (r : Bool) (l : List Int), okCells (likeV r (.sl 1 (ints l) false)) 3 = true := fun r l => rfl
  by_cases h1 : firstE a = 0
  · by_cases h2 : 0 ≤ firstN a
    · obtain ⟨m, hm⟩ : ∃ m : Nat, min (firstN a) b.n.length = m := ⟨(min (firstN a) b.n.length).toNat, by omega⟩
      have hml : m ≤ b.n.length := by omega
      refine ⟨likeV b.ru (.sl 1 (ints (b.n.drop m)) false), ?_, by
        have e : dropL' (firstN a) b.n = b.n.drop m := by unfold dropL'; rw [if_pos h2, hm]; rfl
        unfold dropA; rw [if_pos h1, e]; exact .mk _ _ _ _ (.sl _ _)⟩
      rw [h1]
      refine call (d := fun _ => .cl) rfl (by decide) (by simp [okVL, h.ok]) rfl ?_
      rw [List.map_cons, List.map_nil, run58, h.val, chkO_true]
      simp only [selO_eq, cells_agg', sel6_b, sel6_a, sel6_2, bindO_val, hf, pure_tup, List.getElem?_cons_zero, List.getElem?_cons_succ, err_neq, h1, ne_eq, not_true_eq_false, decide_false, iteP_bool, Bool.false_eq_true, if_false, ho, hx.len, I_def, I_geq, h2, decide_true, if_true, minI, hm, itemsP_sl, bound_none]
      rw [bound_I (by omega) (by simp [ints_len]; omega)]
      simp only [bindO_val, lenL_eq, ints_len, Int.toNat_natCast, eqN_eq, ltN_eq, andB_eq, iteB_bool, addN_eq, subN_eq, Nat.zero_add]
      by_cases h3 : b.n.length = m ∧ 0 < m
      · rw [if_pos (by simp [h3.1, h3.2])]
        rw [like_call (isA3 b.li b.ru hx)]
        have : b.n.drop m = [] := List.drop_eq_nil_of_le (by omega)
        rw [this]
        rfl
      · rw [if_neg (by simpa using h3)]
        rw [slO_drop _ (by omega), List.take_of_length_le (by simp), like_lend (isA3 b.li b.ru hx)]
        simp only [bindO_val, fin, chkO_true]
        rfl
    · obtain ⟨m, hm⟩ : ∃ m : Nat, max ((b.n.length : Int) + max (firstN a) (-(b.n.length : Int))) 0 = m := ⟨(max ((b.n.length : Int) + max (firstN a) (-(b.n.length : Int))) 0).toNat, by omega⟩
      have hml : m ≤ b.n.length := by omega
      refine ⟨likeV b.ru (.sl 1 (ints (b.n.take m)) false), ?_, by
        have e : dropL' (firstN a) b.n = b.n.take m := by unfold dropL'; rw [if_neg h2, hm]; rfl
        unfold dropA; rw [if_pos h1, e]; exact .mk _ _ _ _ (.sl _ _)⟩
      rw [h1]
      refine call (d := fun _ => .cl) rfl (by decide) (by simp [okVL, h.ok]) rfl ?_
      rw [List.map_cons, List.map_nil, run58, h.val, chkO_true]
      simp only [selO_eq, cells_agg', sel6_b, sel6_a, sel6_2, bindO_val, hf, pure_tup, List.getElem?_cons_zero, List.getElem?_cons_succ, err_neq, h1, ne_eq, not_true_eq_false, decide_false, iteP_bool, Bool.false_eq_true, if_false, ho, hx.len, I_def, I_geq, h2, negI, maxI, itemsP_sl, bound_none, I_add]
      rw [w64 (n := 0 - (b.n.length : Int)) (by omega) (by omega), show (0 : Int) - (b.n.length : Int) = -(b.n.length : Int) by omega, w64 (by omega) (by omega), hm]
      rw [bound_I (by omega) (by simp [ints_len]; omega)]
      simp only [bindO_val, Int.toNat_natCast]
      rw [slO_take _ hml, like_lend (isA3 b.li b.ru hx)]
      simp only [bindO_val, fin, chkO_true]
      rfl
  · refine ⟨.agg [.bool false, .bool false, .nilS], ?_, by unfold dropA; rw [if_neg h1]; exact noArr_is⟩
    refine call (d := fun _ => .cl) rfl (by decide) (by simp [okVL, h.ok]) rfl ?_
    rw [List.map_cons, List.map_nil, run58, h.val, chkO_true]
    simp only [selO_eq, cells_agg', sel6_b, bindO_val, hf, pure_tup, List.getElem?_cons_zero, List.getElem?_cons_succ, err_neq, h1, ne_eq, not_false_eq_true, decide_true, iteP_bool, if_true]
    rfl
end Go.Ab.Shape

/-
  Shape: functions of two: taken. What glyphs do, all of them.
-/
namespace Go.Ab.Shape
open Go Go.Ab

/-! ### Taken -/

def itm (b : Arr) (f : Int) (j : Nat) : Int := if 0 ≤ f + j ∧ f + j < b.n.length then b.n.getD (f + j).toNat 0 else fillI b.ru
def tkL (b : Arr) (f : Int) (k i : Nat) : List Int := (List.range k).map fun j => if j < i then itm b f j else 0
def tkF (b : Arr) (n : Int) : Int := if n < 0 then (b.n.length : Int) + n else 0
def tkN (n : Int) : Nat := if n < 0 then (-n).toNat else n.toNat
def takeL' (b : Arr) (n : Int) : List Int := (List.range (tkN n)).map fun j => itm b (tkF b n) j
def takeE (a : Arr) : Int := amtE (-200) 200 a
def takeA (a b : Arr) : Arr := if takeE a = 0 then ⟨true, b.ru, takeL' b (firstN a)⟩ else noArr

theorem tkL_len (b : Arr) (f : Int) (k i : Nat) : (tkL b f k i).length = k := by simp [tkL]
theorem tkL_get {b : Arr} {f : Int} {k i j : Nat} (h : j < k) : (tkL b f k i)[j]? = some (if j < i then itm b f j else 0) := by
  unfold tkL; rw [List.getElem?_map, List.getElem?_range h]; rfl
theorem tkL_zero (b : Arr) (f : Int) (k : Nat) : ints (tkL b f k 0) = List.replicate k (I 0) := by
  apply List.ext_getElem?
  intro j
  by_cases h : j < k
  · simp [ints, tkL_get h, h]
  · rw [List.getElem?_eq_none (by rw [ints_len, tkL_len]; omega), List.getElem?_eq_none (by simp; omega)]
theorem tkL_end (b : Arr) (f : Int) (k : Nat) : tkL b f k k = (List.range k).map fun j => itm b f j := by
  unfold tkL
  apply List.map_congr_left
  intro j hj
  rw [if_pos (List.mem_range.1 hj)]
theorem tkL_set {b : Arr} {f : Int} {k i : Nat} (h : i < k) : (tkL b f k i).set i (itm b f i) = tkL b f k (i + 1) := by
  apply List.ext_getElem?
  intro j
  by_cases hj : j < k
  · rw [List.getElem?_set, tkL_get hj, tkL_get hj, tkL_len]
    by_cases h1 : i = j
    · subst h1
      rw [if_pos rfl, if_pos h, if_pos (by omega)]
    · rw [if_neg h1]
      by_cases h2 : j < i
      · rw [if_pos h2, if_pos (by omega)]
      · rw [if_neg h2, if_neg (by omega)]
  · rw [List.getElem?_eq_none (by rw [List.length_set, tkL_len]; omega), List.getElem?_eq_none (by rw [tkL_len]; omega)]

set_option maxHeartbeats 2000000 in
theorem take_loop {x y : PV} {b a : Arr} (hx : IsL x b.n) (hy : IsL y a.n) (hb : b.n.length ≤ 400000) (f : Int) (k : Nat) (hk : k ≤ 200) (hf : -1000000 ≤ f ∧ f ≤ 1000000) :
    loopL (fun z13 => bindO (pureO (.bin .lss .num false (.c (nth z13.1 3)) (.c (nth z13.1 2)))) (fun z14 => iteP z14 (bindO (selO (nth z13.1 4) 1 1 false) (fun z15 => bindO (callO B0 .cl (.fn 26 []) [z15]) (fun z16 => bindO (natO (nth z13.1 3)) (fun z17 => chkO (ltN z17 (natP (nth z13.1 1))) (bindO (setO 1 (itemsP (nth z13.1 8)) (addN 0 z17) 0 1 z16) (fun z18 => bindO (pureO (.bin .add .num false (.c (nth z13.1 0)) (.c (nth z13.1 3)))) (fun z19 => bindO (bindO (pureO (.bin .geq .num true (.c z19) (.c (PV.int .i64 0)))) (fun z20 => iteP z20 (bindO (selO (nth z13.1 4) 2 1 false) (fun z21 => bindO (pureO (.len .slice (.c z21))) (fun z22 => bindO (pureO (.bin .lss .num false (.c z19) (.c z22))) (fun z23 => some z23)))) (some (PV.bool false)))) (fun z24 => iteP z24 (bindO (selO (nth z13.1 4) 2 1 false) (fun z25 => bindO (pureO (.idxAddr 1 (.c z25) (.c z19))) (fun z26 => bindO (pureO (.load 1 false (.c z26))) (fun z27 => bindO (natO (nth z13.1 3)) (fun z28 => chkO (ltN z28 (natP (nth z13.1 1))) (bindO (setO 1 z18 (addN 0 z28) 0 1 z27) (fun z29 => bindO (pureO (.bin .add .num true (.c (nth z13.1 3)) (.c (PV.int .i64 1)))) (fun z30 => some (.inl ([nth z13.1 0, nI (natP (nth z13.1 1)), nth z13.1 2, z30, nth z13.1 4, nth z13.1 5, nth z13.1 6, nth z13.1 7, PV.sl 1 z29 false], z13.2)))))))))) (bindO (pureO (.bin .add .num true (.c (nth z13.1 3)) (.c (PV.int .i64 1)))) (fun z31 => some (.inl ([nth z13.1 0, nI (natP (nth z13.1 1)), nth z13.1 2, z31, nth z13.1 4, nth z13.1 5, nth z13.1 6, nth z13.1 7, PV.sl 1 z18 false], z13.2)))))))))))) (bindO (bindO (selO (nth z13.1 4) 0 3 true) (fun z32 => bindO (lendO B0 .cl false 51 [z32, slO 1 1 (itemsP (nth z13.1 8)) 0 (natP (nth z13.1 1))]) (fun z33 => chkO (okCells z33 3) (some (PV.tup [PV.agg [cellP z33 0, cellP z33 1, cellP z33 2], PV.nilI], z13.2))))) (fun z34 => some (.inr z34))))) (([I f, I k, I k, I 0, .agg [.bool b.li, .bool b.ru, x, .bool a.li, .bool a.ru, y], .bool false, .bool false, .nilS, .sl 1 (List.replicate k (I 0)) false], ()) : List PV × Unit) =
      some (.tup [likeV b.ru (.sl 1 (ints (tkL b f k k)) false), .nilI], ()) := by
  refine loop_run (fun i => ([I f, I k, I k, I i, .agg [.bool b.li, .bool b.ru, x, .bool a.li, .bool a.ru, y], .bool false, .bool false, .nilS, .sl 1 (ints (tkL b f k i)) false], ())) k (by rw [tkL_zero]; rfl) (fun i hlt => ?_) ?_
  · simp only [nth_0, nth_1, nth_2, nth_3, nth_4, nth_5, nth_6, nth_7, nth_8, I_lss, bindO_val, iteP_bool, natP_I, Int.toNat_natCast, itemsP_sl, natO_I, selO_eq, cells_agg', sel6_1, sel6_2, fill_run]
    rw [if_pos (by simpa using hlt)]
    have c1 : ltN i k = true := by simpa using hlt
    rw [c1, setO_ints (by rw [tkL_len]; exact hlt)]
    simp only [chkO_true, bindO_val, I_add]
    rw [w64 (n := f + (i : Int)) (by omega) (by omega)]
    simp only [I_def, I_geq, I_lss, bindO_val, iteP_bool, hx.len]
    by_cases h1 : 0 ≤ f + (i : Int)
    · by_cases h2 : f + (i : Int) < b.n.length
      · obtain ⟨m, hm⟩ : ∃ m : Nat, f + (i : Int) = m := ⟨(f + i).toNat, by omega⟩
        have hml : m < b.n.length := by omega
        have e1 : (if decide (0 ≤ f + (i : Int)) = true then some (PV.bool (decide (f + (i : Int) < b.n.length))) else some (.bool false)) = some (.bool true) := by
          simp only [h1, h2, decide_true, if_true]
        rw [e1]
        simp only [bindO_val, iteP_bool, if_true]
        rw [hm, hx.idx hml]
        simp only [bindO_val, load_I]
        rw [setO_ints (by rw [List.length_set, tkL_len]; exact hlt)]
        have e2 : ((tkL b f k i).set i (fillI b.ru)).set i b.n[m] = tkL b f k (i + 1) := by
          rw [List.set_set, ← tkL_set hlt]
          congr 1
          unfold itm
          rw [if_pos ⟨h1, h2⟩, hm, Int.toNat_natCast, List.getD_eq_getElem?_getD, List.getElem?_eq_getElem hml]; rfl
        rw [e2]
        simp only [bindO_val, I_add, wsucc (by omega : i < 9223372036854775807)]
        rfl
      · have e1 : (if decide (0 ≤ f + (i : Int)) = true then some (PV.bool (decide (f + (i : Int) < b.n.length))) else some (.bool false)) = some (.bool false) := by
          simp only [h1, h2, decide_true, decide_false, if_true]
        rw [e1]
        simp only [bindO_val, iteP_bool, Bool.false_eq_true, if_false]
        have e2 : (tkL b f k i).set i (fillI b.ru) = tkL b f k (i + 1) := by
          rw [← tkL_set hlt]; congr 1; unfold itm; rw [if_neg (fun q => h2 q.2)]
        rw [e2]
        simp only [bindO_val, I_add, wsucc (by omega : i < 9223372036854775807)]
        rfl
    · have e1 : (if decide (0 ≤ f + (i : Int)) = true then some (PV.bool (decide (f + (i : Int) < b.n.length))) else some (.bool false)) = some (.bool false) := by
        simp only [h1, decide_false, Bool.false_eq_true, if_false]
      rw [e1]
      simp only [bindO_val, iteP_bool, Bool.false_eq_true, if_false]
      have e2 : (tkL b f k i).set i (fillI b.ru) = tkL b f k (i + 1) := by
        rw [← tkL_set hlt]; congr 1; unfold itm; rw [if_neg (fun q => h1 q.1)]
      rw [e2]
      simp only [bindO_val, I_add, wsucc (by omega : i < 9223372036854775807)]
      rfl
  · simp only [nth_0, nth_1, nth_2, nth_3, nth_4, nth_8, I_lss, bindO_val, iteP_bool, natP_I, Int.toNat_natCast, itemsP_sl]
    rw [if_neg (by simp)]
    simp only [selO_eq, cells_agg', sel6_a, bindO_val]
    have e1 : slO 1 1 (ints (tkL b f k k)) 0 k = .sl 1 (ints (tkL b f k k)) false := by
      have := slO_all (tkL b f k k)
      simpa [ints_len, tkL_len] using this
    rw [e1, like_lend (isA3 b.li b.ru hx)]
    rfl

set_option maxHeartbeats 1000000 in
theorem take_run {v : PV} {b a : Arr} (h : IsP v b a) (hb : b.n.length ≤ 400000) (ha : a.n.length ≤ 400000) : Gives 57 v (takeA a b) (takeE a) := by
  have ham := amount_run h (by omega) (-200) 200
  obtain ⟨x, y, rfl, hx, hy⟩ := h.get
  have ee : takeE a = amtE (-200) 200 a := rfl
  by_cases h1 : amtE (-200) 200 a = 0
  · have h3 : firstE a = 0 ∧ ¬ firstN a < -200 ∧ ¬ 200 < firstN a := by
      unfold amtE at h1
      by_cases q : firstE a = 0 ∧ (firstN a < -200 ∨ 200 < firstN a)
      · rw [if_pos q] at h1; cases h1
      · rw [if_neg q] at h1
        exact ⟨h1, fun q2 => q ⟨h1, .inl q2⟩, fun q2 => q ⟨h1, .inr q2⟩⟩
    have hl := take_loop hx hy hb (tkF b (firstN a)) (tkN (firstN a)) (by unfold tkN; split <;> omega) (by unfold tkF; split <;> omega)
    rw [tkL_end] at hl
    simp only [selO_eq, cells_agg', sel6_w, sel6_2, bindO_val, I_def, ham, pure_tup, List.getElem?_cons_zero, List.getElem?_cons_succ, err_neq, h1, ne_eq, not_true_eq_false, decide_false, iteP_bool, Bool.false_eq_true, if_false, I_lss, hx.len, I_add, negI] at hl
    refine ⟨likeV b.ru (.sl 1 (ints (takeL' b (firstN a))) false), ?_, by unfold takeA; rw [if_pos (ee.trans h1)]; exact .mk _ _ _ _ (.sl _ _)⟩
    rw [ee, h1]
    refine call (d := fun _ => .cl) rfl (by decide) (by simp [okVL, h.ok]) rfl ?_
    rw [List.map_cons, List.map_nil, run57, h.val, chkO_true]
    simp only [selO_eq, cells_agg', sel6_w, sel6_2, bindO_val, I_def, ham, pure_tup, List.getElem?_cons_zero, List.getElem?_cons_succ, err_neq, h1, ne_eq, not_true_eq_false, decide_false, iteP_bool, Bool.false_eq_true, if_false, I_lss, hx.len, I_add, negI]
    by_cases h2 : firstN a < 0
    · have ef : tkF b (firstN a) = (b.n.length : Int) + firstN a := by unfold tkF; rw [if_pos h2]
      have ek : ((tkN (firstN a) : Nat) : Int) = -(firstN a) := by unfold tkN; rw [if_pos h2]; omega
      simp only [h2, decide_true, if_true]
      rw [w64 (n := (b.n.length : Int) + firstN a) (by omega) (by omega), w64 (n := 0 - firstN a) (by omega) (by omega), show (0 : Int) - firstN a = -(firstN a) by omega, ← ef, ← ek, mkSO_I (by unfold tkN; split <;> omega)]
      simp only [bindO_val]
      rw [show noUndef [I (tkF b (firstN a)), nI (tkN (firstN a)), nI (tkN (firstN a)), I 0] = true from rfl, chkO_true]
      exact hl
    · have ef : tkF b (firstN a) = 0 := by unfold tkF; rw [if_neg h2]
      have ek : firstN a = ((tkN (firstN a) : Nat) : Int) := by unfold tkN; rw [if_neg h2]; omega
      simp only [h2, decide_false, Bool.false_eq_true, if_false]
      have em : mkSO (I (firstN a)) (I (firstN a)) = some (tkN (firstN a)) := by
        have := mkSO_I (n := tkN (firstN a)) (by unfold tkN; split <;> omega)
        rwa [← ek] at this
      rw [em]
      simp only [bindO_val]
      rw [show noUndef [I 0, nI (tkN (firstN a)), nI (tkN (firstN a)), I 0] = true from rfl, chkO_true]
      rw [ef] at hl
      have et : takeL' b (firstN a) = (List.range (tkN (firstN a))).map fun j => itm b 0 j := by unfold takeL'; rw [ef]
      rw [et]
      exact hl
  · refine ⟨.agg [.bool false, .bool false, .nilS], ?_, by unfold takeA; rw [if_neg (fun q => h1 (ee.symm.trans q))]; exact noArr_is⟩
    rw [ee]
    refine call (d := fun _ => .cl) rfl (by decide) (by simp [okVL, h.ok]) rfl ?_
    rw [List.map_cons, List.map_nil, run57, h.val, chkO_true]
    simp only [selO_eq, cells_agg', sel6_w, bindO_val, I_def, ham, pure_tup, List.getElem?_cons_zero, List.getElem?_cons_succ, err_neq, h1, ne_eq, not_false_eq_true, decide_true, iteP_bool, if_true]
    rfl

/-! ### What glyphs do -/

def monE (g : List UInt8) (b : Arr) : Int :=
  if b.right = false then 114
  else if g = gR then 0 else if g = gI then countE b else if g = gC then 0 else if g = gT then 0 else if g = gU then 0 else if g = gN then 0 else 102
def monA (g : List UInt8) (b : Arr) : Arr :=
  if b.right = false then noArr
  else if g = gR then sizeA b else if g = gI then countA b else if g = gC then ⟨true, b.ru, b.n⟩ else if g = gT then ⟨b.li, b.ru, b.n.reverse⟩ else if g = gU then headA b else if g = gN then oneA b.n.length else noArr

theorem func_ne (f : FuncId) : pureO (.bin .eql .func true (.c (.fn f [])) (.c .nilF)) = some (.bool false) := rfl
theorem func_eq : pureO (.bin .eql .func true (.c .nilF) (.c .nilF)) = some (.bool true) := rfl
theorem okSls3 {v : PV} {a : Arr} (h : IsA v a) : okSls 3 [v] = true := by
  obtain ⟨x, rfl, hx⟩ := h.get
  simp [okSls, val3 (a := .bool a.li) (b := .bool a.ru) rfl rfl hx.cell]
theorem okSls33 {v u : PV} {a b : Arr} (h : IsA v a) (hu : IsA u b) : okSls 3 [v, u] = true := by
  obtain ⟨x, rfl, hx⟩ := h.get
  obtain ⟨y, rfl, hy⟩ := hu.get
  simp [okSls, val3 (a := .bool a.li) (b := .bool a.ru) rfl rfl hx.cell, val3 (a := .bool b.li) (b := .bool b.ru) rfl rfl hy.cell]
theorem valO_is {v : PV} {a : Arr} (h : IsA v a) : valO v = true := by
  obtain ⟨x, rfl, hx⟩ := h.get
  exact val3 rfl rfl hx.cell
theorem sel_is {v : PV} {a : Arr} (h : IsA v a) : selO v 0 3 true = some v := by
  obtain ⟨x, rfl, hx⟩ := h.get
  rfl

theorem mon_gives {g : FuncId} {v : PV} {r : Arr} {c : Int} (h : Gives g v r c) : ∃ y, IsA y r ∧ (bindO (callO B0 .cl (.fn g []) [v]) (fun z10 => bindO (pureO (.extract 0 (.c z10))) (fun z11 => bindO (pureO (.extract 1 (.c z10))) (fun z12 => chkO (okCells z11 3) (bindO (callO B0 .cl (.fn 32 []) [z12]) (fun z13 => some (PV.tup [.agg [cellP z11 0, cellP z11 1, cellP z11 2], z13], ()))))))) = some (.tup [y, I c], ()) := by
  obtain ⟨y, h1, h2⟩ := h
  refine ⟨y, h2, ?_⟩
  rw [h1]
  simp only [bindO_val, pure_tup, List.getElem?_cons_zero, List.getElem?_cons_succ, okCells_is h2, chkO_true, told_run, cells_is h2]

theorem mon_run (g : List UInt8) {v : PV} {b : Arr} (h : IsA v b) (hl : b.n.length ≤ 1000000) : ∃ y, callO B0 .cl (.fn 13 []) [.str g, v] = some (.tup [y, I (monE g b)]) ∧ IsA y (monA g b) := by
  have key : ∃ y, IsA y (monA g b) ∧ runK (cfg0 B0 fun _ => .cl) fn13 .cl noHandler 0 [.cv (.str g), .cv v] () = some (.tup [y, I (monE g b)], ()) := by
    rw [run13, valO_is h, chkO_true, funs_run]
    simp only [bindO_val, look_run, sel_is h, okSls3 h, chkO_true]
    rw [show okCells (.agg [monF g, dyF g]) 2 = true by
      unfold monF dyF okCells
      simp only [PV.isVal]
      by_cases h1 : g = gR; · simp [h1, PV.isCell]
      by_cases h2 : g = gI; · simp [h1, h2, PV.isCell]
      by_cases h3 : g = gC; · simp [h1, h2, h3, PV.isCell]
      by_cases h4 : g = gT; · simp [h1, h2, h3, h4, PV.isCell]
      by_cases h5 : g = gU; · simp [h1, h2, h3, h4, h5, PV.isCell]
      by_cases h6 : g = gD; · simp [h1, h2, h3, h4, h5, h6, PV.isCell]
      by_cases h7 : g = gN; · simp [h1, h2, h3, h4, h5, h6, h7, PV.isCell]
      simp [h1, h2, h3, h4, h5, h6, h7, PV.isCell], chkO_true]
    have e0 : slO 3 3 [v] 0 (lenL [v]) = .sl 3 [v] false := rfl
    rw [e0, right1 h hl]
    simp only [bindO_val, pure_not, iteP_bool]
    unfold monE monA
    cases hr : b.right with
    | false => exact ⟨_, noArr_is, rfl⟩
    | true =>
      simp only [Bool.not_true, Bool.false_eq_true, if_false]
      rw [show cellP (.agg [monF g, dyF g]) 0 = monF g from rfl]
      unfold monF
      by_cases h1 : g = gR
      · simp only [h1, if_true, func_ne, bindO_val, iteP_bool, Bool.false_eq_true, if_false]
        exact mon_gives (size_run h hl)
      simp only [h1, if_false]
      by_cases h2 : g = gI
      · simp only [h2, if_true, func_ne, bindO_val, iteP_bool, Bool.false_eq_true, if_false]
        exact mon_gives (count_run h hl)
      simp only [h2, if_false]
      by_cases h3 : g = gC
      · simp only [h3, if_true, func_ne, bindO_val, iteP_bool, Bool.false_eq_true, if_false]
        exact mon_gives (comma_run h hl)
      simp only [h3, if_false]
      by_cases h4 : g = gT
      · simp only [h4, if_true, func_ne, bindO_val, iteP_bool, Bool.false_eq_true, if_false]
        exact mon_gives (reversed_run h hl)
      simp only [h4, if_false]
      by_cases h5 : g = gU
      · simp only [h5, if_true, func_ne, bindO_val, iteP_bool, Bool.false_eq_true, if_false]
        exact mon_gives (head_run h hl)
      simp only [h5, if_false]
      by_cases h6 : g = gN
      · simp only [h6, if_true, func_ne, bindO_val, iteP_bool, Bool.false_eq_true, if_false]
        exact mon_gives (len_run h)
      simp only [h6, if_false, func_eq, bindO_val, iteP_bool, if_true]
      exact ⟨_, noArr_is, rfl⟩
  obtain ⟨y, h1, h2⟩ := key
  refine ⟨y, ?_, h1⟩
  exact call (d := fun _ => .cl) rfl (by decide) (by simp [okVL, okV, h.ok]) rfl h2

def dyE (g : List UInt8) (a b : Arr) : Int :=
  if (a.right && b.right) = false then 114
  else if g = gR then shE a b else if g = gI then indexE a else if g = gC then joinE a b else if g = gT then firstE a else if g = gU then takeE a else if g = gD then firstE a else if g = gN then 0 else 102
def dyA (g : List UInt8) (a b : Arr) : Arr :=
  if (a.right && b.right) = false then noArr
  else if g = gR then shA a b else if g = gI then indexA a b else if g = gC then joinA a b else if g = gT then rotA a b else if g = gU then takeA a b else if g = gD then dropA a b else if g = gN then oneA (if a.same b then 0 else 1) else noArr

theorem pair_build {v u : PV} {a b : Arr} (h : IsA v a) (hu : IsA u b) : ∃ p, pureO (.build [.bool false, .bool false, .nilS, .bool false, .bool false, .nilS] [(0, (3, .c u)), (3, (3, .c v))]) = some p ∧ IsP p b a := by
  obtain ⟨x, rfl, hx⟩ := h.get
  obtain ⟨y, rfl, hy⟩ := hu.get
  refine ⟨.agg [.bool b.li, .bool b.ru, y, .bool a.li, .bool a.ru, x], ?_, .mk _ _ _ _ _ _ _ _ hy hx⟩
  simp [pureO, exec, fillPV, RX.ev, val3 (a := .bool a.li) (b := .bool a.ru) rfl rfl hx.cell, val3 (a := .bool b.li) (b := .bool b.ru) rfl rfl hy.cell, splice, chk]

theorem dy_key (g : List UInt8) {v u : PV} {a b : Arr} (h : IsA v a) (hu : IsA u b) (ha : a.n.length ≤ 400000) (hb : b.n.length ≤ 400000) :
    ∃ y, IsA y (dyA g a b) ∧ runK (cfg0 B0 fun _ => .cl) fn15 .cl noHandler 0 [.cv (.str g), .cv v, .cv u] () = some (.tup [y, I (dyE g a b)], ()) := by
  obtain ⟨p, hp1, hp2⟩ := pair_build h hu
  rw [run15, valO_is h, valO_is hu, chkO_true, chkO_true, funs_run]
  simp only [bindO_val, look_run, sel_is h, sel_is hu, okSls33 h hu, chkO_true, hp1]
  rw [show okCells (.agg [monF g, dyF g]) 2 = true by
    unfold monF dyF okCells
    simp only [PV.isVal]
    by_cases h1 : g = gR; · simp [h1, PV.isCell]
    by_cases h2 : g = gI; · simp [h1, h2, PV.isCell]
    by_cases h3 : g = gC; · simp [h1, h2, h3, PV.isCell]
    by_cases h4 : g = gT; · simp [h1, h2, h3, h4, PV.isCell]
    by_cases h5 : g = gU; · simp [h1, h2, h3, h4, h5, PV.isCell]
    by_cases h6 : g = gD; · simp [h1, h2, h3, h4, h5, h6, PV.isCell]
    by_cases h7 : g = gN; · simp [h1, h2, h3, h4, h5, h6, h7, PV.isCell]
    simp [h1, h2, h3, h4, h5, h6, h7, PV.isCell], chkO_true]
  have e0 : slO 3 3 [v, u] 0 (lenL [v, u]) = .sl 3 [v, u] false := rfl
  rw [e0, right2 h hu (by omega) (by omega)]
  simp only [bindO_val, pure_not, iteP_bool]
  unfold dyE dyA
  cases hr : (a.right && b.right) with
  | false => exact ⟨_, noArr_is, rfl⟩
  | true =>
    simp only [Bool.not_true, Bool.false_eq_true, if_false]
    rw [show cellP (.agg [monF g, dyF g]) 1 = dyF g from rfl]
    unfold dyF
    by_cases h1 : g = gR
    · simp only [h1, if_true, func_ne, bindO_val, iteP_bool, Bool.false_eq_true, if_false]
      exact mon_gives (reshape_run hp2 hb ha)
    simp only [h1, if_false]
    by_cases h2 : g = gI
    · simp only [h2, if_true, func_ne, bindO_val, iteP_bool, Bool.false_eq_true, if_false]
      exact mon_gives (index_of_run hp2 hb ha)
    simp only [h2, if_false]
    by_cases h3 : g = gC
    · simp only [h3, if_true, func_ne, bindO_val, iteP_bool, Bool.false_eq_true, if_false]
      exact mon_gives (join_run hp2 hb ha)
    simp only [h3, if_false]
    by_cases h4 : g = gT
    · simp only [h4, if_true, func_ne, bindO_val, iteP_bool, Bool.false_eq_true, if_false]
      exact mon_gives (rotate_run hp2 hb ha)
    simp only [h4, if_false]
    by_cases h5 : g = gU
    · simp only [h5, if_true, func_ne, bindO_val, iteP_bool, Bool.false_eq_true, if_false]
      exact mon_gives (take_run hp2 hb ha)
    simp only [h5, if_false]
    by_cases h6 : g = gD
    · simp only [h6, if_true, func_ne, bindO_val, iteP_bool, Bool.false_eq_true, if_false]
      exact mon_gives (drop_run hp2 hb ha)
    simp only [h6, if_false]
    by_cases h7 : g = gN
    · simp only [h7, if_true, func_ne, bindO_val, iteP_bool, Bool.false_eq_true, if_false]
      exact mon_gives (differ_run hp2 (by omega) (by omega))
    simp only [h7, if_false, func_eq, bindO_val, iteP_bool, if_true]
    exact ⟨_, noArr_is, rfl⟩

theorem dy_run (g : List UInt8) {v u : PV} {a b : Arr} (h : IsA v a) (hu : IsA u b) (ha : a.n.length ≤ 400000) (hb : b.n.length ≤ 400000) : ∃ y, callO B0 .cl (.fn 15 []) [.str g, v, u] = some (.tup [y, I (dyE g a b)]) ∧ IsA y (dyA g a b) := by
  obtain ⟨y, h1, h2⟩ := dy_key g h hu ha hb
  refine ⟨y, ?_, h1⟩
  exact call (d := fun _ => .cl) rfl (by decide) (by simp [okVL, okV, h.ok, hu.ok]) rfl h2
end Go.Ab.Shape

/-
  Shape: the laws: two arrays differ, lists of so many items.
-/
namespace Go.Ab.Shape
open Go Go.Ab

theorem okSto_is {v u : PV} {a b : Arr} (h : IsA v a) (hu : IsA u b) : okSto v u 0 3 = true := by
  obtain ⟨x, rfl, hx⟩ := h.get
  obtain ⟨y, rfl, hy⟩ := hu.get
  simp [okSto, val3 (a := .bool a.li) (b := .bool a.ru) rfl rfl hx.cell]
theorem stoP_is {v u : PV} {a b : Arr} (h : IsA v a) (hu : IsA u b) : stoP v u 0 = v := by
  obtain ⟨x, rfl, hx⟩ := h.get
  obtain ⟨y, rfl, hy⟩ := hu.get
  rfl
theorem few_len (a : Arr) : a.few.n.length ≤ 202 := by simp [Arr.few]; omega
theorem c0_is {v : PV} {a : Arr} (h : IsA v a) : cellP v 0 = .bool a.li := by obtain ⟨x, rfl, hx⟩ := h.get; rfl
theorem c1_is {v : PV} {a : Arr} (h : IsA v a) : cellP v 1 = .bool a.ru := by obtain ⟨x, rfl, hx⟩ := h.get; rfl
theorem c2_is {v : PV} {a : Arr} (h : IsA v a) : IsL (cellP v 2) a.n := by obtain ⟨x, rfl, hx⟩ := h.get; exact hx
theorem s0_is {v : PV} {a : Arr} (h : IsA v a) : selO v 0 1 false = some (.bool a.li) := by obtain ⟨x, rfl, hx⟩ := h.get; rfl
theorem s1_is {v : PV} {a : Arr} (h : IsA v a) : selO v 1 1 false = some (.bool a.ru) := by obtain ⟨x, rfl, hx⟩ := h.get; rfl
theorem s2_is {v : PV} {a : Arr} (h : IsA v a) : selO v 2 1 false = some (cellP v 2) := by obtain ⟨x, rfl, hx⟩ := h.get; rfl
theorem idx0 {v : PV} {n : Int} {l : List Int} (h : IsL v (n :: l)) : pureO (.idxAddr 1 (.c v) (.c (.int .i64 0))) = some (.ptr [I n] 0) := h.idx (i := 0) (by simp)

theorem bV {α β : Type} (a : α) (f : α → Option β) : bindO (some a) f = f a := Eq.trans rfl rfl
theorem cT {β : Type} (a : Option β) : chkO true a = a := Eq.trans rfl rfl
theorem iD (n : Int) : PV.int .i64 n = I n := Eq.trans rfl rfl

theorem IsL.at {v : PV} {l : List Int} (h : IsL v l) {i : Nat} {n : Int} (hi : l[i]? = some n) : pureO (.idxAddr 1 (.c v) (.c (I i))) = some (.ptr [I n] 0) := by
  obtain ⟨h1, h2⟩ := List.getElem?_eq_some_iff.1 hi
  rw [h.idx h1, h2]

/-! What each glyph does to right arrays. -/
section
variable {a b : Arr}
theorem mon_R (h : b.right = true) : monE gR b = 0 ∧ monA gR b = sizeA b := by unfold monE monA; simp [h]
theorem mon_I (h : b.right = true) : monE gI b = countE b ∧ monA gI b = countA b := by unfold monE monA; simp [h, show ¬ gI = gR by decide]
theorem mon_C (h : b.right = true) : monE gC b = 0 ∧ monA gC b = ⟨true, b.ru, b.n⟩ := by unfold monE monA; simp [h, show ¬ gC = gR by decide, show ¬ gC = gI by decide]
theorem mon_T (h : b.right = true) : monE gT b = 0 ∧ monA gT b = ⟨b.li, b.ru, b.n.reverse⟩ := by unfold monE monA; simp [h, show ¬ gT = gR by decide, show ¬ gT = gI by decide, show ¬ gT = gC by decide]
theorem mon_U (h : b.right = true) : monE gU b = 0 ∧ monA gU b = headA b := by unfold monE monA; simp [h, show ¬ gU = gR by decide, show ¬ gU = gI by decide, show ¬ gU = gC by decide, show ¬ gU = gT by decide]
theorem mon_N (h : b.right = true) : monE gN b = 0 ∧ monA gN b = oneA b.n.length := by unfold monE monA; simp [h, show ¬ gN = gR by decide, show ¬ gN = gI by decide, show ¬ gN = gC by decide, show ¬ gN = gT by decide, show ¬ gN = gU by decide]
theorem mon_not {g : List UInt8} (h : b.right = false) : monE g b = 114 ∧ monA g b = noArr := by unfold monE monA; simp [h]
theorem dy_not {g : List UInt8} (h : (a.right && b.right) = false) : dyE g a b = 114 ∧ dyA g a b = noArr := by unfold dyE dyA; rw [if_pos h, if_pos h]; exact ⟨rfl, rfl⟩
theorem dy_R (ha : a.right = true) (h : b.right = true) : dyE gR a b = shE a b ∧ dyA gR a b = shA a b := by unfold dyE dyA; simp [h, ha]
theorem dy_I (ha : a.right = true) (h : b.right = true) : dyE gI a b = indexE a ∧ dyA gI a b = indexA a b := by unfold dyE dyA; simp [h, ha, show ¬ gI = gR by decide]
theorem dy_C (ha : a.right = true) (h : b.right = true) : dyE gC a b = joinE a b ∧ dyA gC a b = joinA a b := by unfold dyE dyA; simp [h, ha, show ¬ gC = gR by decide, show ¬ gC = gI by decide]
theorem dy_T (ha : a.right = true) (h : b.right = true) : dyE gT a b = firstE a ∧ dyA gT a b = rotA a b := by unfold dyE dyA; simp [h, ha, show ¬ gT = gR by decide, show ¬ gT = gI by decide, show ¬ gT = gC by decide]
theorem dy_U (ha : a.right = true) (h : b.right = true) : dyE gU a b = takeE a ∧ dyA gU a b = takeA a b := by unfold dyE dyA; simp [h, ha, show ¬ gU = gR by decide, show ¬ gU = gI by decide, show ¬ gU = gC by decide, show ¬ gU = gT by decide]
theorem dy_D (ha : a.right = true) (h : b.right = true) : dyE gD a b = firstE a ∧ dyA gD a b = dropA a b := by unfold dyE dyA; simp [h, ha, show ¬ gD = gR by decide, show ¬ gD = gI by decide, show ¬ gD = gC by decide, show ¬ gD = gT by decide, show ¬ gD = gU by decide]
theorem dy_N (ha : a.right = true) (h : b.right = true) : dyE gN a b = 0 ∧ dyA gN a b = oneA (if a.same b then 0 else 1) := by unfold dyE dyA; simp [h, ha, show ¬ gN = gR by decide, show ¬ gN = gI by decide, show ¬ gN = gC by decide, show ¬ gN = gT by decide, show ¬ gN = gU by decide, show ¬ gN = gD by decide]
end

/-- Two arrays differ just if they are not the same. -/
theorem law_differs {v u : PV} {a b : Arr} (hv : IsA v a) (hu : IsA u b) : runK (cfg0 B0 fun _ => .cl) fn9 .cl noHandler 0 [.cv v, .cv u] () = some (.bool true, ()) := by
  obtain ⟨v1, f1, i1⟩ := few_run hv
  obtain ⟨u1, f2, i2⟩ := few_run hu
  have la := few_len a
  have lb := few_len b
  obtain ⟨c, hc, ic⟩ := dy_run gN i1 i2 (by omega) (by omega)
  have hr1 := right_run i1 (by omega)
  have hr2 := right_run i2 (by omega)
  have hs := same_run i1 i2 (by omega) (by omega)
  rw [run9, valO_is hv, valO_is hu, chkO_true, chkO_true, shown_run]
  simp only [bindO_val, sel_is hv, sel_is hu, f1, f2, okSto_is i1 hv, okSto_is i2 hu, stoP_is i1 hv, stoP_is i2 hu, chkO_true, sel_is i1, sel_is i2, iteP_bool, if_true, hr1, hr2, hs]
  rw [show ([226, 137, 162] : List UInt8) = gN from rfl, hc]
  simp only [bindO_val, pure_tup, List.getElem?_cons_zero, List.getElem?_cons_succ, okCells_is ic, chkO_true, I_def, I_neq, iteP_bool]
  cases hq : (a.few.right && b.few.right) with
  | false =>
    have e := (dy_not (g := gN) hq).1
    rw [e]
    simp only [show ((114 : Int) != 0) = true from rfl, if_true, pure_not, bindO_val, iteP_bool]
    cases h1 : a.few.right <;> cases h2 : b.few.right <;> simp_all
  | true =>
    rw [Bool.and_eq_true] at hq
    obtain ⟨e, ea⟩ := dy_N hq.1 hq.2
    rw [ea] at ic
    have i2' := c2_is ic
    have hn : (oneA (if a.few.same b.few then 0 else 1)).n = [if a.few.same b.few then 0 else 1] := rfl
    rw [hn] at i2'
    have hx := idx0 i2'
    rw [I_def] at hx
    rw [e]
    simp only [show ((0 : Int) != 0) = false from rfl, Bool.false_eq_true, if_false, i2'.len, bindO_val, I_eql, iteP_bool, List.length_singleton, c0_is ic, pure_not, hx, load_I, pure_eqb]
    cases a.few.same b.few <;> rfl

theorem right_one (n : Int) : (oneA n).right = true := by simp [Arr.right, oneA]

end Go.Ab.Shape

/-
  Shape: the law of counts.
-/
namespace Go.Ab.Shape
open Go Go.Ab

theorem firstE_one (n : Int) : firstE (oneA n) = 0 := by simp [firstE, oneA]
theorem firstN_one (n : Int) : firstN (oneA n) = n := by simp [firstN, firstE, oneA]
theorem countE_one (n : Int) : countE (oneA n) = if n < 0 then 102 else if 200 < n then 113 else 0 := by
  unfold countE; rw [firstE_one, firstN_one, if_neg (by simp)]
theorem countA_one {N : Nat} (h : N ≤ 200) : countE (oneA N) = 0 ∧ countA (oneA N) = ⟨true, false, upto N⟩ := by
  have e : countE (oneA N) = 0 := by rw [countE_one, if_neg (by omega), if_neg (by omega)]
  refine ⟨e, ?_⟩
  unfold countA; rw [if_pos e, firstN_one]; simp
theorem right_upto {N : Nat} (h : N ≤ 200) : (⟨true, false, upto N⟩ : Arr).right = true := by simp [Arr.right, upto_len, h]
theorem size_upto (N : Nat) : sizeA ⟨true, false, upto N⟩ = ⟨true, false, [(N : Int)]⟩ := by simp [sizeA, upto_len]
theorem shE_one {N : Nat} (h : N ≤ 200) {b : Arr} (hb : 0 < b.n.length) : shE (oneA N) b = 0 ∧ shA (oneA N) b = ⟨true, b.ru, cyc b N⟩ := by
  have hm : amtE (-9223372036854775808) 200 (oneA N) = 0 := by
    unfold amtE
    rw [firstE_one, firstN_one, if_neg (by omega)]
  have e : shE (oneA N) b = 0 := by
    unfold shE
    rw [hm, firstN_one, if_neg (by simp), if_neg (by omega), if_neg (by omega)]
  refine ⟨e, ?_⟩
  unfold shA; rw [if_pos e, firstN_one]; simp
theorem upto_get {N i : Nat} (h : i < N) : (upto N)[i]? = some ((i + 1 : Nat) : Int) := by
  unfold upto; rw [List.getElem?_map, List.getElem?_range h]; rfl
theorem cyc_get {b : Arr} {N i : Nat} (h : i < N) : (cyc b N)[i]? = some (b.n.getD (i % b.n.length) 0) := by
  unfold cyc; rw [List.getElem?_map, List.getElem?_range h]; rfl

/-- A list of so many items has so many, and says so. -/
theorem law_counts (n : Int) : runK (cfg0 B0 fun _ => .cl) fn7 .cl noHandler 0 [.cv (I n)] () = some (.bool true, ()) := by
  obtain ⟨l, hl, il⟩ := mon_run gI (one_is n) (by simp [oneA])
  obtain ⟨m1, m2⟩ := mon_I (right_one n)
  rw [m1] at hl
  rw [m2] at il
  rw [run7, shown_run]
  simp only [bV, one_run]
  rw [show ([226, 141, 179] : List UInt8) = gI from rfl, hl]
  simp only [bV, pure_tup, List.getElem?_cons_zero, List.getElem?_cons_succ, okCells_is il, cT, iD, I_lss, I_gtr, iteP_bool, I_eql, if_true]
  by_cases h1 : n < 0
  · rw [countE_one, if_pos h1]
    simp only [h1, decide_true, if_true, bV, iteP_bool, beq_self_eq_true]
  · by_cases h2 : 200 < n
    · rw [countE_one, if_neg h1, if_pos h2]
      have e : ((113 : Int) == 102) = false := by decide
      simp only [h1, h2, decide_true, decide_false, Bool.false_eq_true, if_false, if_true, bV, iteP_bool, beq_self_eq_true, e]
    · obtain ⟨N, rfl⟩ : ∃ N : Nat, n = N := ⟨n.toNat, by omega⟩
      have hN2 : N ≤ 200 := by omega
      obtain ⟨c1, c2⟩ := countA_one hN2
      rw [c2] at il
      rw [c1]
      simp only [h1, h2, decide_false, Bool.false_eq_true, if_false, bV, iteP_bool, cells_is il]
      obtain ⟨k, hk, ik⟩ := mon_run gR il (by simp [upto_len]; omega)
      obtain ⟨r1, r2⟩ := mon_R (right_upto hN2)
      rw [r1] at hk
      rw [r2, size_upto] at ik
      obtain ⟨r, hr1, ir⟩ := dy_run gR (one_is N) (one_is 7) (by simp [oneA]) (by simp [oneA])
      obtain ⟨d1, d2⟩ := dy_R (right_one N) (right_one 7)
      obtain ⟨s1, s2⟩ := shE_one hN2 (b := oneA 7) (by simp [oneA])
      rw [d1, s1] at hr1
      rw [d2, s2] at ir
      have i1 := c2_is il
      have i2 := c2_is ik
      have i3 := c2_is ir
      simp only at i1 i2 i3
      rw [show ([226, 141, 180] : List UInt8) = gR from rfl, hk]
      have hx := idx0 i2
      rw [iD] at hx
      simp only [bV, pure_tup, List.getElem?_cons_zero, List.getElem?_cons_succ, okCells_is ik, cT, one_run, hr1, okCells_is ir, beq_self_eq_true, if_true, i1.len, i2.len, i3.len, I_eql, iteP_bool, upto_len, cyc_len, List.length_singleton, hx, load_I]
      have e1 : (((1 : Nat) : Int) == 1) = true := by decide
      simp only [e1, if_true]
      by_cases h0 : N = 0
      · subst h0
        have e0 : (((0 : Nat) : Int) == 0) = true := by decide
        simp only [e0, if_true, bV]
      · have hz : (((N : Nat) : Int) == 0) = false := by simp; omega
        have hw : IntKind.i64.wrap ((N : Int) - 1) = ((N - 1 : Nat) : Int) := by rw [w64 (by omega) (by omega)]; omega
        have g1 := i1.at (upto_get (N := N) (i := N - 1) (by omega))
        have g2 := i3.at (cyc_get (b := oneA 7) (N := N) (i := N - 1) (by omega))
        have v1 : ((N - 1 + 1 : Nat) : Int) = (N : Int) := by omega
        have v2 : (oneA 7).n.getD ((N - 1) % (oneA 7).n.length) 0 = 7 := by simp [oneA, Nat.mod_one]
        rw [v1] at g1
        rw [v2] at g2
        simp only [hz, Bool.false_eq_true, if_false, I_sub, bV, hw, g1, g2, load_I, I_eql, beq_self_eq_true, iteP_bool, if_true]
end Go.Ab.Shape

/-
  Shape: the laws of sizes and of parts.
-/
namespace Go.Ab.Shape
open Go Go.Ab

theorem few_right {a : Arr} (h : a.few.right = true) : a.few.n.length ≤ 202 := few_len a
theorem right_len {a : Arr} (h : a.right = true) : a.n.length ≤ 200 := by
  unfold Arr.right at h
  rw [Bool.and_eq_true] at h
  have h2 := h.2
  split at h2
  · simpa using h2
  · have : a.n.length = 1 := by simpa using h2
    omega
theorem right_runes {a : Arr} (h : a.right = true) (hr : a.ru = true) : ∀ n ∈ a.n, rune n = true := by
  unfold Arr.right at h
  rw [Bool.and_eq_true] at h
  have h1 := h.1
  rw [hr] at h1
  simp only [Bool.true_and, Bool.not_eq_true'] at h1
  intro n hn
  cases hq : rune n with
  | true => rfl
  | false =>
    have : (a.n.any fun n => !rune n) = true := List.any_eq_true.2 ⟨n, hn, by simp [hq]⟩
    rw [this] at h1; cases h1
theorem right_mk {li ru : Bool} {l : List Int} (h1 : ru = true → ∀ n ∈ l, rune n = true) (h2 : if li then l.length ≤ 200 else l.length = 1) : (⟨li, ru, l⟩ : Arr).right = true := by
  unfold Arr.right
  rw [Bool.and_eq_true]
  refine ⟨?_, ?_⟩
  · cases ru with
    | false => rfl
    | true =>
      simp only [Bool.true_and, Bool.not_eq_true']
      rw [Bool.eq_false_iff]
      intro ha
      obtain ⟨n, hn, hq⟩ := List.any_eq_true.1 ha
      rw [h1 rfl n hn] at hq; cases hq
  · cases li with
    | true => simpa using h2
    | false => simpa using h2

/-- A list made of so many items has so many, each from its place. -/
theorem law_sizes {v : PV} {b : Arr} (hv : IsA v b) (n : Int) : runK (cfg0 B0 fun _ => .cl) fn8 .cl noHandler 0 [.cv v, .cv (I n)] () = some (.bool true, ()) := by
  obtain ⟨v1, f1, i1⟩ := few_run hv
  have lb := few_len b
  have hr1 := right_run i1 (by omega)
  rw [run8, valO_is hv, cT, shown_run]
  simp only [bV, sel_is hv, f1, okSto_is i1 hv, stoP_is i1 hv, cT, sel_is i1, hr1, pure_not, iteP_bool, s2_is i1, (c2_is i1).len, iD, I_eql, I_lss, I_gtr]
  generalize b.few = a at *
  cases hq : a.right with
  | false => rfl
  | true =>
    have e0 : ((!true) = true) = False := by simp
    simp only [e0, if_false]
    by_cases h0 : a.n.length = 0
    · have : ((a.n.length : Int) == 0) = true := by simp [h0]
      simp only [this, if_true]
    · have e1 : ((a.n.length : Int) == 0) = false := beq_eq_false_iff_ne.2 (by omega)
      simp only [e1, Bool.false_eq_true, if_false]
      by_cases h1 : n < 0
      · simp only [h1, decide_true, if_true]
      · by_cases h2 : 200 < n
        · simp only [h1, h2, decide_true, decide_false, Bool.false_eq_true, if_false, if_true]
        · obtain ⟨N, rfl⟩ : ∃ N : Nat, n = N := ⟨n.toNat, by omega⟩
          have hN2 : N ≤ 200 := by omega
          simp only [h1, h2, decide_false, Bool.false_eq_true, if_false, one_run, bV]
          obtain ⟨c, hc, ic⟩ := dy_run gR (one_is N) i1 (by simp [oneA]) (by omega)
          obtain ⟨d1, d2⟩ := dy_R (right_one N) hq
          obtain ⟨s1, s2⟩ := shE_one hN2 (b := a) (by omega)
          rw [d1, s1] at hc
          rw [d2, s2] at ic
          have hrc : (⟨true, a.ru, cyc a N⟩ : Arr).right = true := by
            refine right_mk (fun hr n hn => ?_) (by simp [cyc_len, hN2])
            unfold cyc at hn
            obtain ⟨i, _, rfl⟩ := List.mem_map.1 hn
            have hm : i % a.n.length < a.n.length := Nat.mod_lt _ (by omega)
            rw [List.getD_eq_getElem?_getD, List.getElem?_eq_getElem hm]
            exact right_runes hq hr _ (List.getElem_mem hm)
          obtain ⟨d, hd, id⟩ := mon_run gN ic (by simp [cyc_len]; omega)
          obtain ⟨m1, m2⟩ := mon_N hrc
          rw [m1] at hd
          rw [m2] at id
          have j1 := c2_is ic
          have j2 := c2_is id
          have j0 := c2_is i1
          simp only [oneA, cyc_len] at j1 j2
          have hx := idx0 j2
          rw [iD] at hx
          rw [show ([226, 141, 180] : List UInt8) = gR from rfl, hc]
          simp only [bV, pure_tup, List.getElem?_cons_zero, List.getElem?_cons_succ, okCells_is ic, cT, cells_is ic]
          rw [show ([226, 137, 162] : List UInt8) = gN from rfl, hd]
          simp only [bV, pure_tup, List.getElem?_cons_zero, List.getElem?_cons_succ, okCells_is id, cT, I_neq, iteP_bool, j1.len, j2.len, cyc_len, List.length_singleton]
          have b1 : ((0 : Int) != 0) = false := by decide
          have b2 : (((N : Nat) : Int) != (N : Int)) = false := by simp
          have b3 : (((1 : Nat) : Int) != 1) = false := by decide
          simp only [b1, b2, b3, Bool.false_eq_true, if_false, bV, iteP_bool]
          have hnu : noUndef [I (N : Int), .bool true, I 0] = true := rfl
          rw [hnu, cT]
          refine loop_run (fun i => ([I N, .bool true, I i, v1, cellP c 0, cellP c 1, cellP c 2, cellP d 0, cellP d 1, cellP d 2], ())) N rfl (fun i hlt => ?_) ?_
          · have n9 : ∀ (a0 a1 a2 a3 a4 a5 a6 a7 a8 a9 : PV) (l : List PV), nth (a0 :: a1 :: a2 :: a3 :: a4 :: a5 :: a6 :: a7 :: a8 :: a9 :: l) 9 = a9 := fun _ _ _ _ _ _ _ _ _ _ _ => Eq.trans rfl rfl
            simp only [nth_0, nth_1, nth_2, nth_3, nth_4, nth_5, nth_6, nth_7, nth_8, n9, I_lss, bV, iteP_bool]
            rw [if_pos (by simpa using hlt), j1.at (cyc_get hlt)]
            have hbl : 0 < a.n.length := by omega
            have hmod : i % a.n.length < a.n.length := Nat.mod_lt _ hbl
            have er : pureO (.bin .rem .num false (.c (I i)) (.c (I a.n.length))) = some (I ((i % a.n.length : Nat) : Int)) := by
              rw [I, I, pure_rem _ _ (by omega)]
              rfl
            have eg : a.n[i % a.n.length]? = some (a.n.getD (i % a.n.length) 0) := by rw [List.getD_eq_getElem?_getD, List.getElem?_eq_getElem hmod]; rfl
            have b4 : (a.n.getD (i % a.n.length) 0 != a.n.getD (i % a.n.length) 0) = false := by simp
            simp only [bV, load_I, s2_is i1, j0.len, er, j0.at eg, I_neq, b4, iteP_bool, Bool.false_eq_true, if_false, iD, I_add, wsucc (by omega : i < 9223372036854775807)]
          · have n9 : ∀ (a0 a1 a2 a3 a4 a5 a6 a7 a8 a9 : PV) (l : List PV), nth (a0 :: a1 :: a2 :: a3 :: a4 :: a5 :: a6 :: a7 :: a8 :: a9 :: l) 9 = a9 := fun _ _ _ _ _ _ _ _ _ _ _ => Eq.trans rfl rfl
            have b5 : decide ((N : Int) < (N : Int)) = false := by simp
            simp only [nth_0, nth_1, nth_2, nth_3, nth_4, nth_5, n9, I_lss, bV, iteP_bool, b5, Bool.false_eq_true, if_false, if_true, hx, load_I, I_eql, beq_self_eq_true, s1_is i1, c0_is ic, c1_is ic, pure_eqb]

/-- What is taken, and what is dropped, joined, is the whole, as a list. -/
theorem take_all {a : Arr} (hq : a.right = true) {N : Nat} (h : N ≤ a.n.length) : takeE (oneA N) = 0 ∧ takeA (oneA N) a = ⟨true, a.ru, a.n.take N⟩ := by
  have hl := right_len hq
  have e : takeE (oneA N) = 0 := by
    unfold takeE amtE; rw [firstE_one, firstN_one, if_neg (by omega)]
  refine ⟨e, ?_⟩
  unfold takeA
  rw [if_pos e, firstN_one]
  congr 1
  unfold takeL' tkF tkN
  rw [if_neg (by omega), if_neg (by omega), Int.toNat_natCast]
  apply List.ext_getElem?
  intro k
  by_cases hk : k < N
  · rw [List.getElem?_map, List.getElem?_range hk, List.getElem?_take_of_lt hk]
    simp only [Option.map_some]
    unfold itm
    rw [if_pos (by omega)]
    have : ((0 : Int) + (k : Int)).toNat = k := by omega
    rw [this, List.getD_eq_getElem?_getD, List.getElem?_eq_getElem (by omega)]; rfl
  · rw [List.getElem?_eq_none (by simp; omega), List.getElem?_eq_none (by simp; omega)]

theorem drop_all {a : Arr} {N : Nat} (h : N ≤ a.n.length) : dropA (oneA N) a = ⟨true, a.ru, a.n.drop N⟩ := by
  unfold dropA
  rw [if_pos (firstE_one _), firstN_one]
  congr 1
  unfold dropL'
  rw [if_pos (by omega)]
  congr 1
  omega

theorem law_parts {v : PV} {b : Arr} (hv : IsA v b) (n : Int) : runK (cfg0 B0 fun _ => .cl) fn5 .cl noHandler 0 [.cv v, .cv (I n)] () = some (.bool true, ()) := by
  obtain ⟨v1, f1, i1⟩ := few_run hv
  have lb := few_len b
  have hr1 := right_run i1 (by omega)
  rw [run5, valO_is hv, cT, shown_run]
  simp only [bV, sel_is hv, f1, okSto_is i1 hv, stoP_is i1 hv, cT, sel_is i1, hr1, pure_not, iteP_bool, s2_is i1, (c2_is i1).len, iD, I_eql, I_lss, I_gtr]
  generalize b.few = a at *
  cases hq : a.right with
  | false => rfl
  | true =>
    have e0 : ((!true) = true) = False := by simp
    simp only [e0, if_false]
    by_cases h1 : n < 0
    · simp only [h1, decide_true, if_true]
    · by_cases h2 : (a.n.length : Int) < n
      · simp only [h1, h2, decide_true, decide_false, Bool.false_eq_true, if_false, if_true]
      · obtain ⟨N, rfl⟩ : ∃ N : Nat, n = N := ⟨n.toNat, by omega⟩
        have hN : N ≤ a.n.length := by omega
        have hl := right_len hq
        simp only [h1, h2, decide_false, Bool.false_eq_true, if_false, one_run, bV]
        obtain ⟨x, hx, ix⟩ := dy_run gU (one_is N) i1 (by simp [oneA]) (by omega)
        obtain ⟨x1, x2⟩ := dy_U (right_one N) hq
        obtain ⟨x3, x4⟩ := take_all hq hN
        rw [x1, x3] at hx
        rw [x2, x4] at ix
        obtain ⟨y, hy, iy⟩ := dy_run gD (one_is N) i1 (by simp [oneA]) (by omega)
        obtain ⟨y1, y2⟩ := dy_D (right_one N) hq
        rw [y1, firstE_one] at hy
        rw [y2, drop_all hN] at iy
        have rx : (⟨true, a.ru, a.n.take N⟩ : Arr).right = true := right_mk (fun hr m hm => right_runes hq hr m (List.mem_of_mem_take hm)) (by simp; omega)
        have ry : (⟨true, a.ru, a.n.drop N⟩ : Arr).right = true := right_mk (fun hr m hm => right_runes hq hr m (List.mem_of_mem_drop hm)) (by simp; omega)
        obtain ⟨z, hz, iz⟩ := dy_run gC ix iy (by simp; omega) (by simp; omega)
        obtain ⟨z1, z2⟩ := dy_C rx ry
        have j0 : joinE ⟨true, a.ru, a.n.take N⟩ ⟨true, a.ru, a.n.drop N⟩ = 0 := by
          unfold joinE
          rw [if_neg (by simp), if_neg (by simp; omega)]
        have j1 : joinA ⟨true, a.ru, a.n.take N⟩ ⟨true, a.ru, a.n.drop N⟩ = ⟨true, a.ru, a.n⟩ := by
          unfold joinA
          rw [if_pos j0]
          simp only [List.take_append_drop, isText]
          congr 1
          cases a.ru <;> simp
        rw [z1, j0] at hz
        rw [z2, j1] at iz
        obtain ⟨w, hw, iw⟩ := mon_run gC i1 (by omega)
        obtain ⟨w1, w2⟩ := mon_C hq
        rw [w1] at hw
        rw [w2] at iw
        have hs := same_run iz iw (by simp; omega) (by simp; omega)
        have es : (⟨true, a.ru, a.n⟩ : Arr).same ⟨true, a.ru, a.n⟩ = true := by
          unfold Arr.same
          simp [(eqL_iff a.n a.n).2 rfl]
        rw [es] at hs
        have k1 := (c2_is ix).len
        have k2 := (c2_is iy).len
        have b1 : (((a.n.take N).length : Nat) : Int) = (N : Int) := by simp; omega
        have b2 : (((a.n.drop N).length : Nat) : Int) = (a.n.length : Int) - N := by simp; omega
        simp only [b1] at k1
        simp only [b2] at k2
        rw [show ([226, 134, 145] : List UInt8) = gU from rfl, hx]
        simp only [bV, pure_tup, List.getElem?_cons_zero, List.getElem?_cons_succ, okCells_is ix, cT, cells_is ix]
        rw [show ([226, 134, 147] : List UInt8) = gD from rfl, hy]
        simp only [bV, pure_tup, List.getElem?_cons_zero, List.getElem?_cons_succ, okCells_is iy, cT, cells_is iy]
        rw [show ([44] : List UInt8) = gC from rfl, hz]
        simp only [bV, pure_tup, List.getElem?_cons_zero, List.getElem?_cons_succ, okCells_is iz, cT, cells_is iz, hw, okCells_is iw, cells_is iw, iteP_bool, if_true, I_eql, beq_self_eq_true, hs, k1, k2, I_sub]
        rw [w64 (by omega) (by omega)]
        simp only [bV, I_eql, beq_self_eq_true]
end Go.Ab.Shape

/-
  Shape: the laws of right arrays, of turns, of finds.
-/
namespace Go.Ab.Shape
open Go Go.Ab

theorem noArr_wrong : noArr.right = false := by simp [Arr.right, noArr]
theorem rune_32 : rune 32 = true := by decide
theorem firstE_or (a : Arr) : firstE a = 0 ∨ firstE a = 111 ∨ firstE a = 102 := by
  unfold firstE
  split
  · exact .inr (.inl rfl)
  · split
    · exact .inr (.inr rfl)
    · exact .inl rfl
theorem amtE_or (lo hi : Int) (a : Arr) : amtE lo hi a = 0 ∨ amtE lo hi a = 111 ∨ amtE lo hi a = 102 ∨ amtE lo hi a = 113 := by
  unfold amtE
  split
  · exact .inr (.inr (.inr rfl))
  · rcases firstE_or a with h | h | h
    · exact .inl h
    · exact .inr (.inl h)
    · exact .inr (.inr (.inl h))
theorem amtE_zero {lo hi : Int} {a : Arr} (h : amtE lo hi a = 0) : firstE a = 0 ∧ lo ≤ firstN a ∧ firstN a ≤ hi := by
  unfold amtE at h
  by_cases q : firstE a = 0 ∧ (firstN a < lo ∨ hi < firstN a)
  · rw [if_pos q] at h; cases h
  · rw [if_neg q] at h
    refine ⟨h, ?_, ?_⟩
    · exact Int.not_lt.1 fun q2 => q ⟨h, .inl q2⟩
    · exact Int.not_lt.1 fun q2 => q ⟨h, .inr q2⟩

theorem getD_mem {l : List Int} {i : Nat} (h : i < l.length) (d : Int) : l.getD i d ∈ l := by
  rw [List.getD_eq_getElem?_getD, List.getElem?_eq_getElem h]
  exact List.getElem_mem h

theorem fill_rune {r : Bool} (h : r = true) : rune (fillI r) = true := by rw [h]; exact rune_32

/-- What comes of right arrays is right, of one. -/
theorem mon_right (g : List UInt8) (b : Arr) : (monE g b = 0 ↔ (monA g b).right = true) ∧ (monE g b = 114 → b.right = false) := by
  cases hq : b.right with
  | false =>
    obtain ⟨e1, e2⟩ := mon_not (g := g) hq
    rw [e1, e2, noArr_wrong]
    simp
  | true =>
    have hl := right_len hq
    have hr := right_runes hq
    have fin : ∀ {e : Int} {r : Arr}, (e = 0 → r.right = true) → (e ≠ 0 → r = noArr) → e ≠ 114 → (e = 0 ↔ r.right = true) ∧ (e = 114 → true = false) := by
      intro e r h1 h2 h3
      refine ⟨⟨h1, fun h => ?_⟩, fun h => absurd h h3⟩
      refine Classical.byContradiction fun hne => ?_
      rw [h2 hne, noArr_wrong] at h; cases h
    by_cases h1 : g = gR
    · subst h1
      obtain ⟨e1, e2⟩ := mon_R hq
      rw [e1, e2]
      exact fin (fun _ => right_mk (fun h => by cases h) (by rw [if_pos rfl]; split <;> simp)) (fun h => absurd rfl h) (by decide)
    by_cases h2 : g = gI
    · subst h2
      obtain ⟨e1, e2⟩ := mon_I hq
      rw [e1, e2]
      refine fin (fun h => ?_) (fun h => ?_) ?_
      · unfold countA
        rw [if_pos h]
        refine right_mk (fun h => by cases h) ?_
        rw [if_pos rfl, upto_len]
        unfold countE at h
        by_cases q1 : firstE b ≠ 0
        · rw [if_pos q1] at h; exact absurd h q1
        · rw [if_neg q1] at h
          by_cases q2 : firstN b < 0
          · rw [if_pos q2] at h; cases h
          · rw [if_neg q2] at h
            by_cases q3 : 200 < firstN b
            · rw [if_pos q3] at h; cases h
            · omega
      · unfold countA; rw [if_neg h]
      · unfold countE
        rcases firstE_or b with q | q | q <;> rw [q]
        · rw [if_neg (by simp)]
          split
          · decide
          · split <;> decide
        · rw [if_pos (by decide)]; decide
        · rw [if_pos (by decide)]; decide
    by_cases h3 : g = gC
    · subst h3
      obtain ⟨e1, e2⟩ := mon_C hq
      rw [e1, e2]
      exact fin (fun _ => right_mk hr (by simpa using hl)) (fun h => absurd rfl h) (by decide)
    by_cases h4 : g = gT
    · subst h4
      obtain ⟨e1, e2⟩ := mon_T hq
      rw [e1, e2]
      refine fin (fun _ => right_mk (fun h n hn => hr h n (List.mem_reverse.1 hn)) ?_) (fun h => absurd rfl h) (by decide)
      unfold Arr.right at hq
      rw [Bool.and_eq_true] at hq
      have := hq.2
      rw [List.length_reverse]
      split at this <;> simp_all
    by_cases h5 : g = gU
    · subst h5
      obtain ⟨e1, e2⟩ := mon_U hq
      rw [e1, e2]
      refine fin (fun _ => right_mk (fun h n hn => ?_) (by simp)) (fun h => absurd rfl h) (by decide)
      rcases List.mem_append.1 (List.mem_of_mem_take hn) with hm | hm
      · exact hr h n hm
      · simp only [List.mem_singleton] at hm
        subst hm
        exact fill_rune h
    by_cases h6 : g = gN
    · subst h6
      obtain ⟨e1, e2⟩ := mon_N hq
      rw [e1, e2]
      exact fin (fun _ => right_one _) (fun h => absurd rfl h) (by decide)
    have e1 : monE g b = 102 := by unfold monE; simp [hq, h1, h2, h3, h4, h5, h6]
    have e2 : monA g b = noArr := by unfold monA; simp [hq, h1, h2, h3, h4, h5, h6]
    rw [e1, e2]
    exact fin (fun h => by cases h) (fun _ => rfl) (by decide)

/-- What comes of right arrays is right, of two. -/
theorem dy_right (g : List UInt8) (a b : Arr) : (dyE g a b = 0 ↔ (dyA g a b).right = true) ∧ (dyE g a b = 114 → (a.right && b.right) = false) := by
  cases hq : (a.right && b.right) with
  | false =>
    obtain ⟨e1, e2⟩ := dy_not (g := g) hq
    rw [e1, e2, noArr_wrong]
    simp
  | true =>
    rw [Bool.and_eq_true] at hq
    obtain ⟨ha, hb⟩ := hq
    have hl := right_len hb
    have hla := right_len ha
    have hr := right_runes hb
    have hli : if b.li then b.n.length ≤ 200 else b.n.length = 1 := by
      have hb2 := hb
      unfold Arr.right at hb2
      rw [Bool.and_eq_true] at hb2
      have := hb2.2
      split at this
      · rename_i q; rw [if_pos q]; simpa using this
      · rename_i q; rw [if_neg q]; simpa using this
    have fin : ∀ {e : Int} {r : Arr}, (e = 0 → r.right = true) → (e ≠ 0 → r = noArr) → e ≠ 114 → (e = 0 ↔ r.right = true) ∧ (e = 114 → true = false) := by
      intro e r h1 h2 h3
      refine ⟨⟨h1, fun h => ?_⟩, fun h => absurd h h3⟩
      refine Classical.byContradiction fun hne => ?_
      rw [h2 hne, noArr_wrong] at h; cases h
    have f114 : firstE a ≠ 114 := by rcases firstE_or a with q | q | q <;> rw [q] <;> decide
    by_cases h1 : g = gR
    · subst h1
      obtain ⟨e1, e2⟩ := dy_R ha hb
      rw [e1, e2]
      refine fin (fun h => ?_) (fun h => ?_) ?_
      · unfold shA
        rw [if_pos h]
        unfold shE at h
        by_cases q1 : amtE (-9223372036854775808) 200 a ≠ 0
        · rw [if_pos q1] at h; exact absurd h q1
        · rw [if_neg q1] at h
          have q0 := amtE_zero (Classical.not_not.1 q1)
          by_cases q2 : firstN a < 0
          · rw [if_pos q2] at h; cases h
          · rw [if_neg q2] at h
            by_cases q3 : 0 < firstN a ∧ b.n.length = 0
            · rw [if_pos q3] at h; cases h
            · refine right_mk (fun hru n hn => ?_) (by rw [if_pos rfl, cyc_len]; omega)
              unfold cyc at hn
              obtain ⟨i, hi, rfl⟩ := List.mem_map.1 hn
              have hi := List.mem_range.1 hi
              exact hr hru _ (getD_mem (Nat.mod_lt _ (by omega)) 0)
      · unfold shA; rw [if_neg h]
      · unfold shE
        rcases amtE_or (-9223372036854775808) 200 a with q | q | q | q <;> rw [q]
        · rw [if_neg (by simp)]
          split
          · decide
          · split <;> decide
        · rw [if_pos (by decide)]; decide
        · rw [if_pos (by decide)]; decide
        · rw [if_pos (by decide)]; decide
    by_cases h2 : g = gI
    · subst h2
      obtain ⟨e1, e2⟩ := dy_I ha hb
      rw [e1, e2]
      unfold indexE indexA
      cases hal : a.li with
      | true => exact fin (fun _ => right_mk (fun h => by cases h) (by rw [List.length_map]; exact hli)) (fun h => absurd rfl h) (by decide)
      | false => exact fin (fun h => by cases h) (fun _ => rfl) (by decide)
    by_cases h3 : g = gC
    · subst h3
      obtain ⟨e1, e2⟩ := dy_C ha hb
      rw [e1, e2]
      refine fin (fun h => ?_) (fun h => ?_) ?_
      · unfold joinA
        rw [if_pos h]
        unfold joinE at h
        by_cases q1 : 0 < a.n.length ∧ 0 < b.n.length ∧ a.ru ≠ b.ru
        · rw [if_pos q1] at h; cases h
        · rw [if_neg q1] at h
          by_cases q2 : 200 < a.n.length + b.n.length
          · rw [if_pos q2] at h; cases h
          · refine right_mk (fun hru n hn => ?_) (by simp; omega)
            have hcase : (a.ru = true ∨ a.n = []) ∧ (b.ru = true ∨ b.n = []) := by
              cases ea : a.ru <;> cases eb : b.ru
              · simp [isText, ea, eb] at hru
              · simp [isText, ea, eb] at hru
                refine ⟨.inr ?_, .inl rfl⟩
                rcases Nat.eq_zero_or_pos a.n.length with q | q
                · exact List.length_eq_zero_iff.1 q
                · exact absurd ⟨q, hru, by rw [ea, eb]; decide⟩ q1
              · simp [isText, ea, eb] at hru
                refine ⟨.inl rfl, .inr ?_⟩
                rcases Nat.eq_zero_or_pos b.n.length with q | q
                · exact List.length_eq_zero_iff.1 q
                · exact absurd ⟨hru, q, by rw [ea, eb]; decide⟩ q1
              · exact ⟨.inl rfl, .inl rfl⟩
            rcases List.mem_append.1 hn with hm | hm
            · rcases hcase.1 with q | q
              · exact right_runes ha q n hm
              · rw [q] at hm; cases hm
            · rcases hcase.2 with q | q
              · exact hr q n hm
              · rw [q] at hm; cases hm
      · unfold joinA; rw [if_neg h]
      · unfold joinE
        split
        · decide
        · split <;> decide
    by_cases h4 : g = gT
    · subst h4
      obtain ⟨e1, e2⟩ := dy_T ha hb
      rw [e1, e2]
      refine fin (fun h => ?_) (fun h => ?_) f114
      · unfold rotA
        rw [if_pos h]
        by_cases q : b.n.length = 0
        · rw [if_pos q]
          refine right_mk (fun _ n hn => by cases hn) ?_
          rw [q] at hli
          exact hli
        · rw [if_neg q]
          refine right_mk (fun hru n hn => ?_) ?_
          · unfold turn at hn
            rcases List.mem_append.1 hn with hm | hm
            · exact hr hru n (List.mem_of_mem_drop hm)
            · exact hr hru n (List.mem_of_mem_take hm)
          · have hk := turnAt_lt (n := firstN a) (k := b.n.length) (by omega)
            have : (turn (firstN a) b.n).length = b.n.length := by
              unfold turn
              rw [List.length_append, List.length_drop, List.length_take]
              omega
            rw [this]; exact hli
      · unfold rotA; rw [if_neg h]
    by_cases h5 : g = gU
    · subst h5
      obtain ⟨e1, e2⟩ := dy_U ha hb
      rw [e1, e2]
      refine fin (fun h => ?_) (fun h => ?_) ?_
      · have q0 := amtE_zero (lo := -200) (hi := 200) (a := a) h
        unfold takeA
        rw [if_pos h]
        refine right_mk (fun hru n hn => ?_) ?_
        · unfold takeL' at hn
          obtain ⟨j, hj, rfl⟩ := List.mem_map.1 hn
          unfold itm
          split
          · rename_i q; exact hr hru _ (getD_mem (by omega) 0)
          · exact fill_rune hru
        · rw [if_pos rfl]
          unfold takeL' tkN
          rw [List.length_map, List.length_range]
          split <;> omega
      · unfold takeA; rw [if_neg h]
      · unfold takeE
        rcases amtE_or (-200) 200 a with q | q | q | q <;> rw [q] <;> decide
    by_cases h6 : g = gD
    · subst h6
      obtain ⟨e1, e2⟩ := dy_D ha hb
      rw [e1, e2]
      refine fin (fun h => ?_) (fun h => ?_) f114
      · unfold dropA
        rw [if_pos h]
        refine right_mk (fun hru n hn => ?_) ?_
        · unfold dropL' at hn
          split at hn
          · exact hr hru n (List.mem_of_mem_drop hn)
          · exact hr hru n (List.mem_of_mem_take hn)
        · rw [if_pos rfl]
          unfold dropL'
          split
          · rw [List.length_drop]; omega
          · rw [List.length_take]; omega
      · unfold dropA; rw [if_neg h]
    by_cases h7 : g = gN
    · subst h7
      obtain ⟨e1, e2⟩ := dy_N ha hb
      rw [e1, e2]
      exact fin (fun _ => right_one _) (fun h => absurd rfl h) (by decide)
    have e1 : dyE g a b = 102 := by unfold dyE; simp [ha, hb, h1, h2, h3, h4, h5, h6, h7]
    have e2 : dyA g a b = noArr := by unfold dyA; simp [ha, hb, h1, h2, h3, h4, h5, h6, h7]
    rw [e1, e2]
    exact fin (fun h => by cases h) (fun _ => rfl) (by decide)

theorem dyA_len (g : List UInt8) {a b : Arr} (hl : a.n.length ≤ 202) (hm : b.n.length ≤ 202) : (dyA g a b).n.length ≤ 1000000 := by
  by_cases h : (dyA g a b).right = true
  · have := right_len h; omega
  · have h2 := (dy_right g a b).1
    have h3 : dyE g a b ≠ 0 := fun q => h (h2.1 q)
    unfold dyE at h3
    unfold dyA
    by_cases q : (a.right && b.right) = false
    · rw [if_pos q]; simp [noArr]
    · rw [if_neg q] at h3 ⊢
      by_cases h1 : g = gR
      · simp only [h1, if_true] at h3 ⊢; unfold shA; rw [if_neg h3]; simp [noArr]
      simp only [h1, if_false] at h3 ⊢
      by_cases h2 : g = gI
      · simp only [h2, if_true] at h3 ⊢
        unfold indexA
        split
        · simp; omega
        · simp [noArr]
      simp only [h2, if_false] at h3 ⊢
      by_cases h4 : g = gC
      · simp only [h4, if_true] at h3 ⊢; unfold joinA; rw [if_neg h3]; simp [noArr]
      simp only [h4, if_false] at h3 ⊢
      by_cases h5 : g = gT
      · simp only [h5, if_true] at h3 ⊢; unfold rotA; rw [if_neg h3]; simp [noArr]
      simp only [h5, if_false] at h3 ⊢
      by_cases h6 : g = gU
      · simp only [h6, if_true] at h3 ⊢; unfold takeA; rw [if_neg h3]; simp [noArr]
      simp only [h6, if_false] at h3 ⊢
      by_cases h7 : g = gD
      · simp only [h7, if_true] at h3 ⊢; unfold dropA; rw [if_neg h3]; simp [noArr]
      simp only [h7, if_false] at h3 ⊢
      split <;> simp [noArr, oneA]

theorem monA_len (g : List UInt8) {b : Arr} (hm : b.n.length ≤ 202) : (monA g b).n.length ≤ 1000000 := by
  by_cases h : (monA g b).right = true
  · have := right_len h; omega
  · have h2 := (mon_right g b).1
    have h3 : monE g b ≠ 0 := fun q => h (h2.1 q)
    unfold monE at h3
    unfold monA
    by_cases q : b.right = false
    · rw [if_pos q]; simp [noArr]
    · rw [if_neg q] at h3 ⊢
      by_cases h1 : g = gR
      · simp [h1] at h3
      simp only [h1, if_false] at h3 ⊢
      by_cases h2 : g = gI
      · simp only [h2, if_true] at h3 ⊢; unfold countA; rw [if_neg h3]; simp [noArr]
      simp only [h2, if_false] at h3 ⊢
      by_cases h4 : g = gC
      · simp [h4] at h3
      simp only [h4, if_false] at h3 ⊢
      by_cases h5 : g = gT
      · simp [h5] at h3
      simp only [h5, if_false] at h3 ⊢
      by_cases h6 : g = gU
      · simp [h6] at h3
      simp only [h6, if_false] at h3 ⊢
      split <;> simp [noArr, oneA]

/-- What comes of right arrays is right. -/
theorem law_rights (g : List UInt8) {v u : PV} {a b : Arr} (hv : IsA v a) (hu : IsA u b) : runK (cfg0 B0 fun _ => .cl) fn3 .cl noHandler 0 [.cv (.str g), .cv v, .cv u] () = some (.bool true, ()) := by
  obtain ⟨v1, f1, i1⟩ := few_run hv
  obtain ⟨u1, f2, i2⟩ := few_run hu
  have la := few_len a
  have lb := few_len b
  obtain ⟨c, hc, ic⟩ := mon_run (g.take 20) i2 (by omega)
  obtain ⟨d, hd, id⟩ := dy_run (g.take 20) i1 i2 (by omega) (by omega)
  have hr1 := right_run i1 (by omega)
  have hr2 := right_run i2 (by omega)
  have hrc := right_run ic (monA_len _ lb)
  have hrd := right_run id (dyA_len _ la lb)
  obtain ⟨p1, p2⟩ := mon_right (g.take 20) b.few
  obtain ⟨p3, p4⟩ := dy_right (g.take 20) a.few b.few
  rw [run3, valO_is hv, valO_is hu, cT, cT, shown_run]
  simp only [bV, sel_is hv, sel_is hu, f1, f2, okSto_is i1 hv, okSto_is i2 hu, stoP_is i1 hv, stoP_is i2 hu, cT, sel_is i1, sel_is i2, short_run, hc, hd, pure_tup, List.getElem?_cons_zero, List.getElem?_cons_succ, okCells_is ic, okCells_is id, cells_is ic, cells_is id, iteP_bool, if_true, hrc, hrd, hr1, hr2, iD, I_eql, I_neq, pure_eqb, pure_not]
  generalize monE (g.take 20) b.few = e at *
  generalize dyE (g.take 20) a.few b.few = f at *
  generalize (monA (g.take 20) b.few).right = r at *
  generalize (dyA (g.take 20) a.few b.few).right = s at *
  generalize a.few.right = x at *
  generalize b.few.right = y at *
  have c1 : ((e == 0) == r) = true := by
    cases r with
    | true => simp [p1.2 rfl]
    | false =>
      have : ¬ e = 0 := fun q => by have := p1.1 q; cases this
      simp [this]
  have c2 : ((f == 0) == s) = true := by
    cases s with
    | true => simp [p3.2 rfl]
    | false =>
      have : ¬ f = 0 := fun q => by have := p3.1 q; cases this
      simp [this]
  simp only [c1, c2, if_true]
  by_cases q1 : e = 114
  · have hy : y = false := p2 q1
    have d1 : (e != 114) = false := by simp [q1]
    subst hy
    by_cases q2 : f = 114
    · have d2 : (f != 114) = false := by simp [q2]
      simp only [d1, d2, Bool.false_eq_true, if_false, Bool.not_false, if_true]
      cases x <;> rfl
    · have d2 : (f != 114) = true := by simp [q2]
      simp only [d1, d2, Bool.false_eq_true, if_false, Bool.not_false, if_true]
  · have d1 : (e != 114) = true := by simp [q1]
    by_cases q2 : f = 114
    · have d2 : (f != 114) = false := by simp [q2]
      have hxy := p4 q2
      simp only [d1, d2, Bool.false_eq_true, if_false, if_true]
      cases x <;> cases y <;> simp_all
    · have d2 : (f != 114) = true := by simp [q2]
      simp only [d1, d2, if_true]
end Go.Ab.Shape

/-
  Shape: the laws of turns and of finds.
-/
namespace Go.Ab.Shape
open Go Go.Ab

theorem turn_len {n : Int} {l : List Int} (h : 0 < l.length) : (turn n l).length = l.length := by
  have hk := turnAt_lt (n := n) h
  unfold turn
  rw [List.length_append, List.length_drop, List.length_take]
  omega

theorem turn_back {n : Int} {l : List Int} (h : 0 < l.length) : turn (-n) (turn n l) = l := by
  have hl := turn_len (n := n) h
  have hk := turnAt_lt (n := n) h
  have hk2 := turnAt_lt (n := -n) h
  have hsum : turnAt n l.length + turnAt (-n) l.length = 0 ∨ turnAt n l.length + turnAt (-n) l.length = l.length := by
    unfold turnAt at *
    have h1 := Int.emod_nonneg n (show (l.length : Int) ≠ 0 by omega)
    have h2 := Int.emod_nonneg (-n) (show (l.length : Int) ≠ 0 by omega)
    have h3 : (n % (l.length : Int) + (-n) % (l.length : Int)) % (l.length : Int) = 0 := by
      rw [← Int.add_emod]
      have : n + -n = 0 := by omega
      rw [this]; simp
    have h4 := Int.emod_add_mul_ediv (n % (l.length : Int) + (-n) % (l.length : Int)) (l.length : Int)
    rw [h3] at h4
    have h5 : (n % (l.length : Int) + (-n) % (l.length : Int)) / (l.length : Int) < 2 := by
      apply Int.ediv_lt_of_lt_mul (by omega)
      omega
    have h6 : 0 ≤ (n % (l.length : Int) + (-n) % (l.length : Int)) / (l.length : Int) := Int.ediv_nonneg (by omega) (by omega)
    have h7 : (n % (l.length : Int) + (-n) % (l.length : Int)) / (l.length : Int) = 0 ∨ (n % (l.length : Int) + (-n) % (l.length : Int)) / (l.length : Int) = 1 := by omega
    rcases h7 with h7 | h7
    · rw [h7] at h4; left; omega
    · rw [h7] at h4; right; omega
  have e : turn (-n) (turn n l) = (turn n l).drop (turnAt (-n) l.length) ++ (turn n l).take (turnAt (-n) l.length) := by
    show (turn n l).drop (turnAt (-n) (turn n l).length) ++ (turn n l).take (turnAt (-n) (turn n l).length) = _
    rw [hl]
  rw [e]
  rcases hsum with hs | hs
  · have h1 : turnAt n l.length = 0 := by omega
    have h2 : turnAt (-n) l.length = 0 := by omega
    rw [h2]
    unfold turn
    rw [h1]
    simp
  · have h2 : turnAt (-n) l.length = (l.drop (turnAt n l.length)).length := by rw [List.length_drop]; omega
    unfold turn
    rw [h2, List.drop_left, List.take_left, List.take_append_drop]

theorem rot_one {n : Int} {b : Arr} : rotA (oneA n) b = ⟨b.li, b.ru, if b.n.length = 0 then [] else turn n b.n⟩ := by
  unfold rotA; rw [if_pos (firstE_one n), firstN_one]
theorem rot_len {n : Int} {b : Arr} : (rotA (oneA n) b).n.length = b.n.length := by
  rw [rot_one]
  simp only
  split
  · rename_i h; rw [h]; rfl
  · exact turn_len (by omega)
theorem rot_back {n : Int} {b : Arr} : rotA (oneA (-n)) (rotA (oneA n) b) = b := by
  rw [rot_one]
  have hl := rot_len (n := n) (b := b)
  rw [hl]
  rw [rot_one]
  obtain ⟨li, ru, l⟩ := b
  simp only
  split
  · rename_i h
    rw [List.length_eq_zero_iff.1 h]
  · rename_i h
    rw [turn_back (by omega)]

theorem same_self (a : Arr) : a.same a = true := by
  unfold Arr.same
  simp [(eqL_iff a.n a.n).2 rfl]

theorem right_congr {a b : Arr} (h : b.right = true) (h1 : a.li = b.li) (h2 : a.ru = b.ru) (h3 : a.n.length = b.n.length) (h4 : ∀ n ∈ a.n, n ∈ b.n) : a.right = true := by
  obtain ⟨li, ru, l⟩ := a
  simp only at h1 h2 h3 h4
  subst h1; subst h2
  refine right_mk (fun hr n hn => right_runes h hr n (h4 n hn)) ?_
  have hq := h
  unfold Arr.right at hq
  rw [Bool.and_eq_true] at hq
  have := hq.2
  rw [h3]
  split at this
  · rename_i q; rw [if_pos q]; simpa using this
  · rename_i q; rw [if_neg q]; simpa using this

/-- What is reversed twice is as it was; turned round and back, too. -/
theorem law_turns {v : PV} {b : Arr} (hv : IsA v b) (n : Int) : runK (cfg0 B0 fun _ => .cl) fn4 .cl noHandler 0 [.cv v, .cv (I n)] () = some (.bool true, ()) := by
  obtain ⟨v1, f1, i1⟩ := few_run hv
  have lb := few_len b
  rw [run4, valO_is hv, cT, shown_run]
  simp only [bV, sel_is hv, f1, okSto_is i1 hv, stoP_is i1 hv, cT, sel_is i1, iteP_bool, s2_is i1, (c2_is i1).len, iD, one_run]
  generalize b.few = a at *
  obtain ⟨c, hc, ic⟩ := mon_run gT i1 (by omega)
  obtain ⟨x, hx, ix⟩ := dy_run gT (one_is n) i1 (by simp [oneA]) (by omega)
  rw [show ([226, 140, 189] : List UInt8) = gT from rfl, hc]
  simp only [bV, pure_tup, List.getElem?_cons_zero, List.getElem?_cons_succ, okCells_is ic, cT, cells_is ic]
  obtain ⟨d, hd, id⟩ := mon_run gT ic (monA_len _ (by omega))
  simp only [hd, bV, pure_tup, List.getElem?_cons_zero, List.getElem?_cons_succ, okCells_is id, cT, cells_is id, hx, okCells_is ix, cells_is ix, I_neq, iteP_bool]
  cases hq : a.right with
  | false =>
    have e1 := (mon_not (g := gT) hq).1
    have e2 := (dy_not (g := gT) (a := oneA n) (b := a) (by rw [hq]; simp)).1
    have b1 : ((114 : Int) != 0) = true := by decide
    simp only [e1, e2, b1, if_true, iteP_bool, I_eql, bV, beq_self_eq_true]
  | true =>
    have hl := right_len hq
    obtain ⟨e1, a1⟩ := mon_T hq
    obtain ⟨e2, a2⟩ := dy_T (right_one n) hq
    rw [firstE_one] at e2
    rw [e1, e2]
    rw [a1] at ic
    rw [a2] at ix
    have rr : (⟨a.li, a.ru, a.n.reverse⟩ : Arr).right = true := right_congr hq rfl rfl (by simp) (fun n hn => List.mem_reverse.1 hn)
    obtain ⟨e3, a3⟩ := mon_T rr
    have e3' : monE gT (monA gT a) = 0 := by rw [a1]; exact e3
    have a3' : monA gT (monA gT a) = a := by rw [a1, a3]; simp
    rw [a3'] at id
    have b1 : ((0 : Int) != 0) = false := by decide
    have hs := same_run i1 id (by omega) (by omega)
    rw [same_self] at hs
    have lx := (c2_is ix).len
    rw [rot_len] at lx
    simp only [e3', b1, Bool.false_eq_true, if_false, I_lss, I_gtr, bV, iteP_bool, I_eql, beq_self_eq_true, if_true, hs, lx]
    by_cases h1 : n < -1000000
    · simp only [h1, decide_true, if_true, bV, iteP_bool]
    · by_cases h2 : 1000000 < n
      · simp only [h1, h2, decide_true, decide_false, Bool.false_eq_true, if_false, if_true, bV, iteP_bool]
      · simp only [h1, h2, decide_false, Bool.false_eq_true, if_false, bV, iteP_bool, negI]
        have w : IntKind.i64.wrap (0 - n) = -n := by rw [w64 (by omega) (by omega)]; omega
        have rx : (rotA (oneA n) a).right = true := by
          refine right_congr hq (by rw [rot_one]) (by rw [rot_one]) rot_len (fun m hm => ?_)
          rw [rot_one] at hm
          simp only at hm
          split at hm
          · cases hm
          · unfold turn at hm
            rcases List.mem_append.1 hm with q | q
            · exact List.mem_of_mem_drop q
            · exact List.mem_of_mem_take q
        obtain ⟨y, hy, iy⟩ := dy_run gT (one_is (-n)) ix (by simp [oneA]) (by rw [rot_len]; omega)
        obtain ⟨e4, a4⟩ := dy_T (right_one (-n)) rx
        rw [firstE_one] at e4
        rw [e4] at hy
        rw [a4, rot_back] at iy
        have hs2 := same_run i1 iy (by omega) (by omega)
        rw [same_self] at hs2
        simp only [w, one_run, bV, hy, pure_tup, List.getElem?_cons_zero, List.getElem?_cons_succ, okCells_is iy, cT, cells_is iy, I_eql, beq_self_eq_true, iteP_bool, if_true, hs2]
end Go.Ab.Shape

/-
  Shape: the law of finds.
-/
namespace Go.Ab.Shape
open Go Go.Ab

/-- Where an item is first. -/
theorem idxP_first {p : Int → Bool} : ∀ (l : List Int) (k i : Nat) (n : Int), l[i]? = some n → p n = true → ∃ j m, j ≤ i ∧ idxP p k l = ((k + j : Nat) : Int) ∧ l[j]? = some m ∧ p m = true := by
  intro l
  induction l with
  | nil => intro k i n h; simp at h
  | cons x l ih =>
    intro k i n h hp
    by_cases hx : p x = true
    · exact ⟨0, x, Nat.zero_le _, by simp [idxP, hx], rfl, hx⟩
    · cases i with
      | zero => simp at h; subst h; exact absurd hp hx
      | succ i =>
        obtain ⟨j, m, h1, h2, h3, h4⟩ := ih (k + 1) i n (by simpa using h) hp
        refine ⟨j + 1, m, by omega, ?_, by simpa using h3, h4⟩
        simp only [idxP, hx, Bool.false_eq_true, if_false, h2]
        congr 1; omega

theorem idxAt_self {a : Arr} {i : Nat} {n : Int} (h : a.n[i]? = some n) : ∃ j : Nat, j ≤ i ∧ idxAt a a n = ((j + 1 : Nat) : Int) ∧ a.n[j]? = some n := by
  obtain ⟨j, m, h1, h2, h3, h4⟩ := idxP_first (p := fun x => n == x) a.n 0 i n h (by simp)
  have : n = m := by simpa using h4
  subst this
  refine ⟨j, h1, ?_, h3⟩
  unfold idxAt
  rw [if_neg (by rw [h2]; simp), h2]
  omega

def fiveA (r : Bool) : Arr := ⟨false, r, [5]⟩
theorem five_right (r : Bool) : (fiveA r).right = true := by
  refine right_mk (fun _ n hn => ?_) (by simp)
  simp only [List.mem_singleton] at hn
  subst hn; decide

theorem find_lend {v : PV} {a : Arr} (h : IsA v a) (hl : a.n.length ≤ 400000) (r : Bool) : ∃ y, lendO B0 .cl false 15 [.str gI, v, .agg [.bool false, .bool r, .sl 1 (ints [5]) false]] = some (.tup [y, I (dyE gI a (fiveA r))]) ∧ IsA y (dyA gI a (fiveA r)) ∨ dyA gI a (fiveA r) = noArr := by
  by_cases hn : dyA gI a (fiveA r) = noArr
  · exact ⟨.undef, .inr hn⟩
  have hu : IsA (.agg [.bool false, .bool r, .sl 1 (ints [5]) false]) (fiveA r) := .mk _ _ _ _ (.sl _ _)
  obtain ⟨y, h1, h2⟩ := dy_key gI h hu hl (by simp [fiveA])
  refine ⟨y, .inl ⟨?_, h1⟩⟩
  refine lend (d := fun _ => .cl) rfl (by simp [okVL, okV, h.ok, hu.ok, okVL_ints]) rfl h2 ?_
  obtain ⟨x, rfl, hx⟩ := h1.get
  have hne : (dyA gI a (fiveA r)).n ≠ [] := by
    intro hq
    by_cases ha : (a.right && (fiveA r).right) = true
    · rw [Bool.and_eq_true] at ha
      rw [(dy_I ha.1 ha.2).2] at hq hn
      unfold indexA at hq hn
      split at hq
      · simp [fiveA] at hq
      · rename_i q; rw [if_neg q] at hn; exact hn rfl
    · exact hn (dy_not (by simpa using ha)).2
  generalize (dyA gI a (fiveA r)).n = q at hx hne
  cases hx with
  | nil => exact absurd rfl hne
  | sl _ f => rfl

/-- Each item of a list is found where it is first; what is not there is found behind. -/
theorem law_finds {v : PV} {b : Arr} (hv : IsA v b) : runK (cfg0 B0 fun _ => .cl) fn6 .cl noHandler 0 [.cv v] () = some (.bool true, ()) := by
  obtain ⟨v1, f1, i1⟩ := few_run hv
  have lb := few_len b
  rw [run6, valO_is hv, cT, shown_run]
  simp only [bV, sel_is hv, f1, okSto_is i1 hv, stoP_is i1 hv, cT, sel_is i1, iteP_bool, s2_is i1, s0_is i1, (c2_is i1).len, iD]
  generalize b.few = a at *
  obtain ⟨c, hc, ic⟩ := dy_run gI i1 i1 (by omega) (by omega)
  have hr := right_run i1 (by omega)
  rw [show ([226, 141, 179] : List UInt8) = gI from rfl, hc]
  simp only [bV, pure_tup, List.getElem?_cons_zero, List.getElem?_cons_succ, okCells_is ic, cT, I_neq, iteP_bool, hr, pure_not, if_true]
  cases hq : a.right with
  | false =>
    have e1 := (dy_not (g := gI) (a := a) (b := a) (by rw [hq]; simp)).1
    have b1 : ((114 : Int) != 0) = true := by decide
    simp only [e1, b1, if_true, Bool.not_false]
  | true =>
    obtain ⟨e1, a1⟩ := dy_I hq hq
    cases hli : a.li with
    | false =>
      have e2 : indexE a = 111 := by unfold indexE; rw [hli]; rfl
      have b1 : ((111 : Int) != 0) = true := by decide
      have b2 : ((!true) = true) = False := by simp
      simp only [e1, e2, b1, if_true, Bool.not_true, b2, if_false, Bool.not_false, Bool.false_eq_true]
    | true =>
      have e2 : indexE a = 0 := by unfold indexE; rw [hli]; rfl
      have a2 : indexA a a = ⟨true, false, a.n.map (idxAt a a)⟩ := by unfold indexA; rw [hli]; rfl
      rw [a1, a2] at ic
      have ci := c2_is ic
      have hlen : ((a.n.map (idxAt a a)).length : Int) = (a.n.length : Int) := by simp
      have b1 : ((0 : Int) != 0) = false := by decide
      have b2 : ((a.n.length : Int) != (a.n.length : Int)) = false := by simp
      have cl := ci.len
      simp only [hlen] at cl
      simp only [e1, e2, b1, Bool.false_eq_true, if_false, cl, bV, I_neq, b2, iteP_bool]
      have hnu : noUndef [.bool true, I 0] = true := rfl
      rw [hnu, cT]
      obtain ⟨m, hm, im⟩ := mon_run gN i1 (by omega)
      obtain ⟨m1, m2⟩ := mon_N hq
      rw [m1] at hm
      rw [m2] at im
      have mi := c2_is im
      simp only [oneA] at mi
      have five : dyE gI a (fiveA (!a.ru)) = 0 ∧ dyA gI a (fiveA (!a.ru)) = ⟨false, false, [(a.n.length : Int) + 1]⟩ := by
        obtain ⟨q1, q2⟩ := dy_I hq (five_right (!a.ru))
        rw [q1, q2]
        refine ⟨e2, ?_⟩
        unfold indexA
        rw [if_pos hli]
        simp only [fiveA, List.map_cons, List.map_nil]
        congr 2
        unfold idxAt
        rw [if_pos (.inr (by simp))]
      obtain ⟨w, hw⟩ := find_lend i1 (by omega) (!a.ru)
      rw [five.1, five.2] at hw
      rcases hw with ⟨hw, iw⟩ | hw
      case inr => exact absurd (congrArg Arr.n hw) (by simp [noArr])
      have wi := c2_is iw
      simp only at wi
      have mx := idx0 mi
      have wx := idx0 wi
      rw [iD] at mx wx
      refine loop_run (fun i => ([.bool true, I i, v1, cellP c 0, cellP c 1, cellP c 2], ())) a.n.length rfl (fun i hlt => ?_) ?_
      · simp only [nth_0, nth_1, nth_2, nth_3, nth_4, nth_5, cl, I_lss, bV, iteP_bool]
        rw [if_pos (by simpa using hlt)]
        have hi : a.n[i]? = some a.n[i] := List.getElem?_eq_getElem hlt
        obtain ⟨j, j1, j2, j3⟩ := idxAt_self hi
        have hci : (a.n.map (idxAt a a))[i]? = some ((j + 1 : Nat) : Int) := by rw [List.getElem?_map, hi, Option.map_some, j2]
        have w1 : IntKind.i64.wrap (((j + 1 : Nat) : Int) - 1) = (j : Int) := by rw [w64 (by omega) (by omega)]; omega
        have d1 : decide ((j : Int) < 0) = false := by simp
        have d2 : decide ((i : Int) < (j : Int)) = false := by simp; omega
        have d3 : (a.n[i] != a.n[i]) = false := by simp
        simp only [ci.at hci, bV, load_I, iD, I_sub, w1, I_lss, d1, iteP_bool, Bool.false_eq_true, if_false, I_gtr, d2, s2_is i1, (c2_is i1).at j3, (c2_is i1).at hi, I_neq, d3, I_add, wsucc (by omega : i < 9223372036854775807)]
      · have d1 : decide ((a.n.length : Int) < (a.n.length : Int)) = false := by simp
        simp only [nth_0, nth_1, nth_2, nth_5, cl, I_lss, bV, iteP_bool, d1, Bool.false_eq_true, if_false, sel_is i1, iD]
        rw [show ([226, 137, 162] : List UInt8) = gN from rfl, hm]
        simp only [bV, pure_tup, List.getElem?_cons_zero, List.getElem?_cons_succ, okCells_is im, cT, s1_is i1, pure_not, okSls_I]
        have oc : okCells (PV.bool (!a.ru)) 1 = true := rfl
        have cp : cellP (PV.bool (!a.ru)) 0 = .bool (!a.ru) := rfl
        rw [oc, cp, cT, slO_one, hw]
        have w2 : IntKind.i64.wrap ((a.n.length : Int) + 1) = (a.n.length : Int) + 1 := w64 (by omega) (by omega)
        have b5 : (((1 : Nat) : Int) == 1) = true := by decide
        simp only [bV, pure_tup, List.getElem?_cons_zero, List.getElem?_cons_succ, okCells_is iw, cT, iteP_bool, if_true, I_eql, beq_self_eq_true, mi.len, wi.len, List.length_singleton, b5, mx, wx, load_I, I_add, w2, s2_is i1, (c2_is i1).len]
end Go.Ab.Shape

/-
  Shape: the laws' calls.
-/
namespace Go.Ab.Shape
open Go Go.Ab Go.Proofs

theorem sp_loc : SpLocal sp0 := by
  intro g σ σ' vs h
  unfold sp0
  split
  · unfold spAs
    split
    · rfl
    · rename_i t x p nm o
      have hm : nm ∈ reach σ deepest (namesL [.iface t x, .iface p (.ref nm o)]) := reach_mem _ _ nm (by simp [namesL, PV.names])
      rw [h nm hm]
    · rfl
  split
  · rfl
  split
  · rfl
  split
  · unfold spCheck
    split
    · rename_i n
      have hm : n ∈ reach σ deepest (namesL [.ref n 0]) := reach_mem _ _ n (by simp [namesL, PV.names])
      rw [h n hm]
    · rfl
  split
  · unfold spStr
    split
    · rename_i n
      have hm : n ∈ reach σ deepest (namesL [.ref n 0]) := reach_mem _ _ n (by simp [namesL, PV.names])
      rw [← h n hm]
      have h2 : ∀ a n' k, σ n = some (.cells 81 [a, .arr n' 1 0 k]) → σ n' = σ' n' := by
        intro a n' k he
        refine h n' ?_
        show n' ∈ reach σ 3 [n]
        unfold reach
        refine List.mem_append_right _ (reach_mem _ _ n' ?_)
        simp [he, Ob.names, namesL, PV.names]
      generalize hx : σ n = o at *
      split
      · rfl
      · rename_i a n' k
        rw [h2 a n' k rfl]
      · rfl
    · rfl
  rfl

theorem tab_ok : TabOK cx0 tab0 (deadOf Tryz.prog) := by
  intro f fn h
  unfold tab0 at h
  split at h
  · cases h; exact mkF_comp (by kernel_rfl)
  · cases h; exact mkF_comp (by kernel_rfl)
  · cases h; exact mkF_comp (by kernel_rfl)
  · cases h; exact mkF_comp (by kernel_rfl)
  · cases h; exact mkF_comp (by kernel_rfl)
  · cases h; exact mkF_comp (by kernel_rfl)
  · cases h; exact mkF_comp (by kernel_rfl)
  · cases h; exact mkF_comp (by kernel_rfl)
  · cases h; exact mkF_comp (by kernel_rfl)
  · cases h; exact mkF_comp (by kernel_rfl)
  · cases h; exact mkF_comp (by kernel_rfl)
  · cases h; exact mkF_comp (by kernel_rfl)
  · cases h; exact mkF_comp (by kernel_rfl)
  · cases h; exact mkF_comp (by kernel_rfl)
  · cases h; exact mkF_comp (by kernel_rfl)
  · cases h; exact mkF_comp (by kernel_rfl)
  · cases h; exact mkF_comp (by kernel_rfl)
  · cases h; exact mkF_comp (by kernel_rfl)
  · cases h; exact mkF_comp (by kernel_rfl)
  · cases h; exact mkF_comp (by kernel_rfl)
  · cases h; exact mkF_comp (by kernel_rfl)
  · cases h; exact mkF_comp (by kernel_rfl)
  · cases h; exact mkF_comp (by kernel_rfl)
  · cases h; exact mkF_comp (by kernel_rfl)
  · cases h; exact mkF_comp (by kernel_rfl)
  · cases h; exact mkF_comp (by kernel_rfl)
  · cases h; exact mkF_comp (by kernel_rfl)
  · cases h; exact mkF_comp (by kernel_rfl)
  · cases h; exact mkF_comp (by kernel_rfl)
  · cases h; exact mkF_comp (by kernel_rfl)
  · cases h; exact mkF_comp (by kernel_rfl)
  · cases h; exact mkF_comp (by kernel_rfl)
  · cases h; exact mkF_comp (by kernel_rfl)
  · cases h; exact mkF_comp (by kernel_rfl)
  · cases h; exact mkF_comp (by kernel_rfl)
  · cases h; exact mkF_comp (by kernel_rfl)
  · cases h; exact mkF_comp (by kernel_rfl)
  · cases h; exact mkF_comp (by kernel_rfl)
  · cases h; exact mkF_comp (by kernel_rfl)
  · cases h; exact mkF_comp (by kernel_rfl)
  · cases h; exact mkF_comp (by kernel_rfl)
  · cases h; exact mkF_comp (by kernel_rfl)
  · cases h; exact mkF_comp (by kernel_rfl)
  · cases h; exact mkF_comp (by kernel_rfl)
  · cases h; exact mkF_comp (by kernel_rfl)
  · cases h; exact mkF_comp (by kernel_rfl)
  · cases h; exact mkF_comp (by kernel_rfl)
  · cases h; exact mkF_comp (by kernel_rfl)
  · cases h; exact mkF_comp (by kernel_rfl)
  · cases h; exact mkF_comp (by kernel_rfl)
  · cases h; exact mkF_comp (by kernel_rfl)
  · cases h; exact mkF_comp (by kernel_rfl)
  · cases h; exact mkF_comp (by kernel_rfl)
  · cases h; exact mkF_comp (by kernel_rfl)
  · cases h; exact mkF_comp (by kernel_rfl)
  · cases h; exact mkF_comp (by kernel_rfl)
  · cases h; exact mkF_comp (by kernel_rfl)
  · cases h; exact mkF_comp (by kernel_rfl)
  · cases h; exact mkF_comp (by kernel_rfl)
  · cases h; exact mkF_comp (by kernel_rfl)
  · cases h; exact mkF_comp (by kernel_rfl)
  · cases h; exact mkF_comp (by kernel_rfl)
  · cases h; exact mkF_comp (by kernel_rfl)
  · cases h; exact mkF_comp (by kernel_rfl)
  · cases h; exact mkF_comp (by kernel_rfl)
  · cases h; exact mkF_comp (by kernel_rfl)
  · cases h; exact mkF_comp (by kernel_rfl)
  · cases h; exact mkF_comp (by kernel_rfl)
  · cases h; exact mkF_comp (by kernel_rfl)
  · cases h; exact mkF_comp (by kernel_rfl)
  · cases h; exact mkF_comp (by kernel_rfl)
  · cases h; exact mkF_comp (by kernel_rfl)
  · cases h; exact mkF_comp (by kernel_rfl)
  · cases h; exact mkF_comp (by kernel_rfl)
  · cases h; exact mkF_comp (by kernel_rfl)
  · cases h; exact mkF_comp (by kernel_rfl)
  · cases h; exact mkF_comp (by kernel_rfl)
  · cases h; exact mkF_comp (by kernel_rfl)
  · cases h; exact mkF_comp (by kernel_rfl)
  · cases h; exact mkF_comp (by kernel_rfl)
  · cases h; exact mkF_comp (by kernel_rfl)
  · cases h; exact mkF_comp (by kernel_rfl)
  · cases h

/-- A law's call. -/
theorem law_done {g : FuncId} {fn : RFn} (ht : tab0 g = some fn) {args : List PV} (ha : okVL args = true) (hl : args.length ≤ fn.nt)
    (hr : runK (cfg0 B0 fun _ => .cl) fn .cl noHandler 0 (args.map KV.cv) () = some (.bool true, ())) {I : Nat → Prop} {w : World} {vs : List Value}
    (hI : ∀ b, I b → b < w.heap.size) (hw : cx0.Wd I w) (hrep : RepL w I (fun _ => none) none args vs) :
    Calls cx0.P g vs.toArray w fun e w' => e = .returned (.bool true) ∧ LawEnd w w' := by
  obtain ⟨n, hn⟩ := law_of_run (cfg_ok fun _ => .cl) ht ha hl hr
  exact law_calls (fn_ok sp_ok sp_loc tab_ok n) hn hI hw hrep

/-! ### The laws' arguments -/

def arrD : DTy := .struct [.bool, .bool, .slice (.int .i64)]

theorem ints_of : ∀ (xs : List PV), (∀ x ∈ xs, HasV (.int .i64) x) → ∃ l, xs = ints l
  | [], _ => ⟨[], rfl⟩
  | x :: xs, h => by
    obtain ⟨n, rfl, _⟩ := h x List.mem_cons_self
    obtain ⟨l, rfl⟩ := ints_of xs fun y hy => h y (List.mem_cons_of_mem _ hy)
    exact ⟨n :: l, rfl⟩

theorem arr_of {v : PV} (h : HasV arrD v) : ∃ a, IsA v a := by
  obtain ⟨vs, rfl, b, r, rfl, ⟨b, rfl⟩, c, r, rfl, ⟨c, rfl⟩, x, r, rfl, hx, rfl⟩ := h
  have key : ∃ l, IsL x l ∧ x.cells = [x] := by
    rcases hx with rfl | ⟨xs, rfl, _, hx⟩
    · exact ⟨[], .nil, rfl⟩
    · obtain ⟨l, rfl⟩ := ints_of xs hx
      exact ⟨l, .sl l false, rfl⟩
  obtain ⟨l, h1, h2⟩ := key
  refine ⟨⟨b, c, l⟩, ?_⟩
  rw [show cellsL [PV.bool b, PV.bool c, x] = [.bool b, .bool c, x] by simp only [cellsL, h2]; rfl]
  exact .mk _ _ _ _ h1

/-- Of these arguments each law tells true. -/
def Told (fn : RFn) (Ds : List DTy) : Prop := ∀ us, HasVs Ds us → okVL us = true ∧ us.length ≤ fn.nt ∧ runK (cfg0 B0 fun _ => .cl) fn .cl noHandler 0 (us.map KV.cv) () = some (.bool true, ())

theorem told_rights : Told fn3 [.str, arrD, arrD] := by
  rintro us ⟨_, _, rfl, ⟨s, rfl, _⟩, _, _, rfl, ha, _, _, rfl, hb, rfl⟩
  obtain ⟨a, ha⟩ := arr_of ha
  obtain ⟨b, hb⟩ := arr_of hb
  exact ⟨by simp [okVL, okV, ha.ok, hb.ok], Nat.le_of_ble_eq_true rfl, law_rights s ha hb⟩
theorem told_turns : Told fn4 [arrD, .int .i64] := by
  rintro us ⟨_, _, rfl, ha, _, _, rfl, ⟨n, rfl, _⟩, rfl⟩
  obtain ⟨a, ha⟩ := arr_of ha
  exact ⟨by simp [okVL, okV, ha.ok], Nat.le_of_ble_eq_true rfl, law_turns ha n⟩
theorem told_parts : Told fn5 [arrD, .int .i64] := by
  rintro us ⟨_, _, rfl, ha, _, _, rfl, ⟨n, rfl, _⟩, rfl⟩
  obtain ⟨a, ha⟩ := arr_of ha
  exact ⟨by simp [okVL, okV, ha.ok], Nat.le_of_ble_eq_true rfl, law_parts ha n⟩
theorem told_finds : Told fn6 [arrD] := by
  rintro us ⟨_, _, rfl, ha, rfl⟩
  obtain ⟨a, ha⟩ := arr_of ha
  exact ⟨by simp [okVL, ha.ok], Nat.le_of_ble_eq_true rfl, law_finds ha⟩
theorem told_counts : Told fn7 [.int .i64] := by
  rintro us ⟨_, _, rfl, ⟨n, rfl, _⟩, rfl⟩
  exact ⟨rfl, Nat.le_of_ble_eq_true rfl, law_counts n⟩
theorem told_sizes : Told fn8 [arrD, .int .i64] := by
  rintro us ⟨_, _, rfl, ha, _, _, rfl, ⟨n, rfl, _⟩, rfl⟩
  obtain ⟨a, ha⟩ := arr_of ha
  exact ⟨by simp [okVL, okV, ha.ok], Nat.le_of_ble_eq_true rfl, law_sizes ha n⟩
theorem told_differs : Told fn9 [arrD, arrD] := by
  rintro us ⟨_, _, rfl, ha, _, _, rfl, hb, rfl⟩
  obtain ⟨a, ha⟩ := arr_of ha
  obtain ⟨b, hb⟩ := arr_of hb
  exact ⟨by simp [okVL, ha.ok, hb.ok], Nat.le_of_ble_eq_true rfl, law_differs ha hb⟩
end Go.Ab.Shape

/-
  What the rows share: a start that fits.
-/
namespace Go.Ab.Shape
open Go Go.Ab Go.Proofs Go.Proofs.YtglakhjbcnajfaaGreatDoor Go.ChangeShapes Go.WideShapes Go.RowKit

theorem p_own : ownKnob Tryz.prog.godebug = none := by kernel_rfl

theorem p_et : Tryz.prog.globalNamed "errors.errorType" = some 0 := by kernel_rfl
theorem p_rt : (Tryz.prog.cutTypes.find? (·.1 == "internal/reflectlite.rtype")).map (·.2) = some 112 := by kernel_rfl
theorem p_oneRow : ((List.range 183).filter fun t => Tryz.prog.rowNamed t [101, 114, 114, 111, 114]) = [53] := by kernel_rfl
theorem p_size : Tryz.prog.types.size = 183 := by kernel_rfl

set_option maxRecDepth 100000 in
theorem vars_of_laid {W : World} (h : laidMetH Tryz.prog Rows.shapeRightsRow.laid W) : Vars W := by
  have h' : handlesMet Tryz.prog [("errors.errorType", Rows.laid_errors_errorType)] W := h.2
  obtain ⟨name, u, ty, e1, e2, e3, e4, e5⟩ := h' _ (List.mem_singleton.2 rfl)
  have en : name = [101, 114, 114, 111, 114] := (Option.some.inj e1).symm
  subst en
  obtain rfl := Option.some.inj (p_rt.symm.trans e2)
  have hm : ty ∈ (List.range 183).filter fun t => Tryz.prog.rowNamed t [101, 114, 114, 111, 114] := List.mem_filter.2 ⟨List.mem_range.2 (by rw [← p_size]; exact e3), e4⟩
  rw [p_oneRow] at hm
  obtain rfl := List.mem_singleton.1 hm
  have hh : typeHandle Tryz.prog 53 = .pointer (some ⟨7, 53, none⟩) := by kernel_rfl
  rw [hh] at e5
  exact ⟨by simpa using World.var?_cell p_et e5 0⟩

theorem wd_of_laid {W : World} (h : laidMetH Tryz.prog Rows.shapeRightsRow.laid W) : cx0.Wd (fun b => b < W.heap.size) W := by
  have hv := vars_of_laid h
  refine ⟨?_, hv⟩
  have := hv.et
  rcases Nat.lt_or_ge 0 W.heap.size with h | h
  · exact h
  · simp [World.cell?, Array.getElem?_eq_none h] at this

mutual
/-- The cells of a table. -/
def tabCells : DataW Unit → List Value
  | .lit (.int k n) => [.int k n]
  | .agg ds => tabCellsL ds
  | _ => []
def tabCellsL : List (DataW Unit) → List Value
  | [] => []
  | d :: ds => tabCells d ++ tabCellsL ds
end
def putTab (h : Array Obj) (i : Nat) (d : DataW Unit) : Array Obj := h.modify i fun
  | .cells _ t frozen => .cells (tabCells d).toArray t frozen
  | o => o
noncomputable def laidWorld (os : Os) : World :=
  let w0 := World.holding Tryz.prog os ⟨#[], #[], []⟩
  let h0 := w0.heap.modify 0 fun
    | .cells _ t frozen => .cells #[.iface 112 (.agg #[.pointer (some ⟨7, 53, none⟩)])] t frozen
    | o => o
  { w0 with heap := putTab (putTab (putTab (putTab (putTab h0 2 Rows.laid_unicode_utf8_first) 3 Rows.laid_unicode_utf8_acceptRanges) 4 Rows.laid_internal_strconv_uint64pow10) 5 Rows.laid_math_bits_deBruijn32tab) 6 Rows.laid_math_bits_deBruijn64tab }
theorem laidWorld_met (os : Os) (args : Array Value) : laidMetH Tryz.prog Rows.shapeRightsRow.laid ((laidWorld os).forCall (fun _ _ => 0) ⟨#[], args, []⟩).memory :=
  laidMetH_of_parts (laidMet_of_run' 8 (by kernel_rfl) (by kernel_rfl)) (by kernel_rfl)

end Go.Ab.Shape
