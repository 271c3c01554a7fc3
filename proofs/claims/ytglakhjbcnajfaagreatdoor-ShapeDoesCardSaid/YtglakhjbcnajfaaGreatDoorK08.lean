/-
  Part 8 of a proof: a machine of our own for the given program, its laws, and what it says of the program. Nothing here is a claim by itself.
-/
import Derived.Test.YtglakhjbcnajfaaGreatDoorK07
import Derived.Test.YtglakhjbcnajfaaGreatDoorRows
import Derived.ProofKit
import Derived.ChangeMaps5
import Derived.ChangeSame
import Derived.ChangeVars
import Derived.JoinedOf
import Derived.RowKit
import Derived.RowKitTokens
import Derived.LaidLaws
import Derived.LaidHandle
import Derived.Stop.Joined
import Derived.Carry
set_option linter.all false

namespace Go.Ab.Shape
open Go Go.Ab
theorem rreshape {v : PV} {b : Arr} (h : IsA v b) (hb : b.n.length ≤ 400000) (N : Nat) (hN : N ≤ 200) (h0 : 0 < N → 0 < b.n.length) : TellsA 67 [I N, v] ⟨true, b.ru, cyc b N⟩ := by
  refine ⟨likeV b.ru (.sl 1 (ints (cyc b N)) false), ?_, .mk _ _ _ _ (.sl _ _)⟩
  refine call (d := fun _ => .cl) rfl (by decide) (by simp [okVL, h.ok]) rfl ?_
  rw [List.map_cons, List.map_cons, List.map_nil, run67, valO_is h, cT, show noUndef [I N, nI 0, PV.int .i64 0] = true from rfl, cT]
  refine loop_run (fun i => ([I N, I i, I i, v, .bool false, .bool false, .nilS, .sl 1 (ints (cyc b i)) false], ())) N rfl (fun i hlt => ?_) ?_
  · have hk : i % b.n.length < b.n.length := Nat.mod_lt _ (h0 (by omega))
    have d : decide ((i : Int) < (N : Int)) = true := decide_eq_true (by omega)
    have r1 : pureO (.bin .rem .num false (.c (I i)) (.c (I b.n.length))) = some (I ((i % b.n.length : Nat) : Int)) := by
      rw [← iD, ← iD, pure_rem _ _ (by omega), Int.tmod_eq_emod_of_nonneg (by omega)]
      rfl
    have e : b.n[i % b.n.length] = b.n.getD (i % b.n.length) 0 := by rw [List.getD_eq_getElem?_getD, List.getElem?_eq_getElem hk]; rfl
    simp only [nth_0, nth_1, nth_2, nth_3, nth_4, nth_5, nth_6, nth_7, I_lss, bV, iteP_bool, d, if_true, s2_is h, (c2_is h).len, r1, (c2_is h).idx hk, load_I, okSls_I, cT, one_chk, natP_I, Int.toNat_natCast, itemsP_sl]
    rw [app_chk (cyc_len b i).symm (by rw [cyc_len]; omega), app_one (cyc_len b i).symm, app_len, e, ← cyc_succ]
    simp only [cT, iD, I_add, bV, wsucc (by omega : i < 9223372036854775807)]
  · have d : decide ((N : Int) < (N : Int)) = false := by simp
    simp only [nth_0, nth_1, nth_2, nth_3, nth_4, nth_5, nth_6, nth_7, I_lss, bV, iteP_bool, d, Bool.false_eq_true, if_false, natP_I, Int.toNat_natCast, itemsP_sl, s1_is h]
    rw [slO_n (cyc_len b N).symm, rlist_lend]
    rfl
theorem turn_get {n : Int} {l : List Int} {i : Nat} (hi : i < l.length) (hs : l.length ≤ 1000000) :
    ∃ j : Nat, j < l.length ∧ (turn n l)[i]? = l[j]? ∧ IntKind.i64.wrap (n.tmod l.length + i) = n.tmod l.length + i ∧ IntKind.i64.wrap ((n.tmod l.length + i).tmod l.length + l.length) = (n.tmod l.length + i).tmod l.length + l.length ∧ ((n.tmod l.length + i).tmod l.length + l.length).tmod l.length = (j : Int) := by
  have hk : 0 < l.length := by omega
  have h2 := Int.tmod_lt_of_pos n (show (0 : Int) < (l.length : Int) by omega)
  have h1 : -(l.length : Int) < n.tmod l.length := by
    have := Int.tmod_lt_of_pos (-n) (show (0 : Int) < (l.length : Int) by omega)
    rw [Int.neg_tmod] at this
    omega
  have hw : IntKind.i64.wrap (n.tmod l.length + i) = n.tmod l.length + i := w64 (by omega) (by omega)
  obtain ⟨w1, w2⟩ := turn_rem (n := n.tmod l.length + i) hk hs
  have hj := turnAt_lt (n := n.tmod l.length + i) hk
  have ht := turnAt_lt (n := n) hk
  refine ⟨turnAt (n.tmod l.length + i) l.length, hj, ?_, hw, w1, w2⟩
  have em : (n.tmod l.length + i) % (l.length : Int) = (n % (l.length : Int) + i) % (l.length : Int) := by
    have e := Int.tmod_add_mul_tdiv n l.length
    have : n.tmod l.length + i = (n + i) + l.length * (-(n.tdiv l.length)) := by rw [Int.mul_neg]; omega
    rw [this, Int.add_mul_emod_self_left, Int.emod_add_emod]
  have t0 := Int.emod_nonneg n (show (l.length : Int) ≠ 0 by omega)
  have e2 : turnAt (n.tmod l.length + i) l.length = (turnAt n l.length + i) % l.length := by
    unfold turnAt
    rw [em]
    have : (n % (l.length : Int) + (i : Int)) = (((n % (l.length : Int)).toNat + i : Nat) : Int) := by omega
    rw [this, ← Int.natCast_emod]
    exact Int.toNat_natCast _
  rw [e2]
  unfold turn
  by_cases hc : turnAt n l.length + i < l.length
  · rw [Nat.mod_eq_of_lt hc, List.getElem?_append_left (by simp; omega), List.getElem?_drop]
  · have : (turnAt n l.length + i) % l.length = turnAt n l.length + i - l.length := by
      rw [Nat.mod_eq_sub_mod (by omega), Nat.mod_eq_of_lt (by omega)]
    rw [this, List.getElem?_append_right (by simp; omega), List.getElem?_take_of_lt (by simp; omega)]
    congr 1
    simp; omega
theorem turnLen (n : Int) (l : List Int) : (turn n l).length = l.length := by
  rcases Nat.eq_zero_or_pos l.length with h | h
  · have := List.length_eq_zero_iff.1 h; subst this; simp [turn]
  · have := turnAt_lt (n := n) h
    simp [turn]; omega
theorem rrotate {v : PV} {b : Arr} (h : IsA v b) (hb : b.n.length ≤ 400000) (n : Int) : TellsA 68 [I n, v] ⟨b.li, b.ru, if b.n.length = 0 then [] else turn n b.n⟩ := by
  have e0 : (if b.n.length = 0 then [] else turn n b.n) = turn n b.n := by
    split
    · rename_i hz
      have := List.length_eq_zero_iff.1 hz
      rw [this]; simp [turn]
    · rfl
  rw [e0]
  refine ⟨.agg [.bool b.li, .bool b.ru, .sl 1 (ints (turn n b.n)) false], ?_, .mk _ _ _ _ (.sl _ _)⟩
  refine call (d := fun _ => .cl) rfl (by decide) (by simp [okVL, h.ok]) rfl ?_
  rw [List.map_cons, List.map_cons, List.map_nil, run68, valO_is h, cT]
  simp only [s2_is h, bV, (c2_is h).len]
  rw [show noUndef [I n, nI 0, I b.n.length, PV.int .i64 0] = true from rfl, cT]
  refine loop_run (fun i => ([I n, I i, I b.n.length, I i, v, .bool false, .bool false, .nilS, .sl 1 (ints ((turn n b.n).take i)) false], ())) b.n.length rfl (fun i hlt => ?_) ?_
  · have d : decide ((i : Int) < (b.n.length : Int)) = true := decide_eq_true (by omega)
    obtain ⟨j, hj, hg, w1, w2, w3⟩ := turn_get (n := n) hlt (by omega)
    have rem : ∀ x : Int, pureO (.bin .rem .num false (.c (I x)) (.c (I b.n.length))) = some (I (x.tmod b.n.length)) := fun x => by
      rw [← iD, ← iD, pure_rem _ _ (by omega)]; rfl
    have hl : ((turn n b.n).take i).length = i := by rw [List.length_take, turnLen]; omega
    have hti : i < (turn n b.n).length := by rw [turnLen]; exact hlt
    have hv : b.n[j] = (turn n b.n)[i] := by
      rw [List.getElem?_eq_getElem hti, List.getElem?_eq_getElem hj] at hg
      exact (Option.some.inj hg).symm
    simp only [nth_0, nth_1, nth_2, nth_3, nth_4, nth_5, nth_6, nth_7, nth_8, I_lss, bV, iteP_bool, d, if_true, s2_is h, rem, I_add, w1, w2, w3, (c2_is h).idx hj, load_I, okSls_I, cT, one_chk, natP_I, Int.toNat_natCast, itemsP_sl]
    rw [app_chk hl.symm (by omega), app_one hl.symm, app_len, hv, ← take_snoc hti]
    simp only [cT, iD, I_add, bV, wsucc (by omega : i < 9223372036854775807)]
  · have d : decide ((b.n.length : Int) < (b.n.length : Int)) = false := by simp
    have ht : (turn n b.n).take b.n.length = turn n b.n := List.take_of_length_le (by rw [turnLen]; omega)
    simp only [nth_0, nth_1, nth_2, nth_3, nth_4, nth_5, nth_6, nth_7, nth_8, I_lss, bV, iteP_bool, d, Bool.false_eq_true, if_false, natP_I, Int.toNat_natCast, itemsP_sl, s0_is h, s1_is h, okB, cellB, cT, ht]
    rw [slO_n (turnLen n b.n).symm, okU3]
    rfl
theorem tk_succ (b : Arr) (f : Int) (k : Nat) : ((List.range (k + 1)).map fun j => itm b f j) = ((List.range k).map fun j => itm b f j) ++ [itm b f k] := by simp [List.range_succ]
theorem tk_len (b : Arr) (f : Int) (k : Nat) : ((List.range k).map fun j => itm b f j).length = k := by simp
theorem rtake_loop {v : PV} {b : Arr} (h : IsA v b) (hb : b.n.length ≤ 400000) (f : Int) (hf : -1000000 ≤ f ∧ f ≤ 1000000) (k : Nat) (hk : k ≤ 200) :
    loopL (fun z24 => bindO (pureO (.bin .add .num false (.c (nth z24.1 2)) (.c (nth z24.1 0)))) (fun z25 => bindO (pureO (.bin .lss .num false (.c (nth z24.1 3)) (.c z25))) (fun z26 => iteP z26 (bindO (bindO (pureO (.bin .lss .num true (.c (nth z24.1 3)) (.c (.int .i64 0)))) (fun z27 => iteP z27 (some (PV.bool true)) (bindO (selO (nth z24.1 4) 2 1 false) (fun z28 => bindO (pureO (.len .slice (.c z28))) (fun z29 => bindO (pureO (.bin .geq .num false (.c (nth z24.1 3)) (.c z29))) (fun z30 => some z30)))))) (fun z31 => iteP z31 (bindO (selO (nth z24.1 4) 1 1 false) (fun z32 => bindO (callO B0 .cl (.fn 27 []) [z32]) (fun z33 => chkO (okSls 1 [z33]) (chkO (leN (addN 0 (lenL [z33])) (lenL [z33])) (chkO (andB (leN (natP (nth z24.1 1)) (lenL (itemsP (nth z24.1 8)))) (leN (addN (natP (nth z24.1 1)) (lenL (takeL (lenL [z33]) (dropL 0 [z33])))) 2147483648)) (bindO (pureO (.bin .add .num true (.c (nth z24.1 3)) (.c (.int .i64 1)))) (fun z34 => some (.inl ([nth z24.1 0, nI (addN (natP (nth z24.1 1)) (lenL (takeL (lenL [z33]) (dropL 0 [z33])))), nth z24.1 2, z34, nth z24.1 4, nth z24.1 5, nth z24.1 6, nth z24.1 7, .sl 1 (catL (takeL (natP (nth z24.1 1)) (itemsP (nth z24.1 8))) (takeL (lenL [z33]) (dropL 0 [z33]))) false], z24.2))))))))) (bindO (selO (nth z24.1 4) 2 1 false) (fun z35 => bindO (pureO (.idxAddr 1 (.c z35) (.c (nth z24.1 3)))) (fun z36 => bindO (pureO (.load 1 false (.c z36))) (fun z37 => chkO (okSls 1 [z37]) (chkO (leN (addN 0 (lenL [z37])) (lenL [z37])) (chkO (andB (leN (natP (nth z24.1 1)) (lenL (itemsP (nth z24.1 8)))) (leN (addN (natP (nth z24.1 1)) (lenL (takeL (lenL [z37]) (dropL 0 [z37])))) 2147483648)) (bindO (pureO (.bin .add .num true (.c (nth z24.1 3)) (.c (.int .i64 1)))) (fun z38 => some (.inl ([nth z24.1 0, nI (addN (natP (nth z24.1 1)) (lenL (takeL (lenL [z37]) (dropL 0 [z37])))), nth z24.1 2, z38, nth z24.1 4, nth z24.1 5, nth z24.1 6, nth z24.1 7, .sl 1 (catL (takeL (natP (nth z24.1 1)) (itemsP (nth z24.1 8))) (takeL (lenL [z37]) (dropL 0 [z37]))) false], z24.2)))))))))))) (bindO (bindO (selO (nth z24.1 4) 1 1 false) (fun z39 => bindO (lendO B0 .cl false 38 [slO 1 1 (itemsP (nth z24.1 8)) 0 (natP (nth z24.1 1)), z39]) (fun z40 => chkO (okCells z40 3) (some (PV.agg [cellP z40 0, cellP z40 1, cellP z40 2], z24.2))))) (fun z41 => some (.inr z41)))))) (([I k, nI 0, I f, I f, v, .bool false, .bool false, .nilS, .sl 1 [] false], ()) : List PV × Unit) = some (likeV b.ru (.sl 1 (ints ((List.range k).map fun j => itm b f j)) false), ()) := by
  refine loop_run (fun i => ([I k, I i, I f, I (f + i), v, .bool false, .bool false, .nilS, .sl 1 (ints ((List.range i).map fun j => itm b f j)) false], ())) k (by simp [ints, I]) (fun i hlt => ?_) ?_
  · have w1 : IntKind.i64.wrap (f + k) = f + k := w64 (by omega) (by omega)
    have w2 : IntKind.i64.wrap (f + i + 1) = f + (i + 1 : Nat) := by rw [w64 (by omega) (by omega)]; omega
    have d : decide (f + i < f + k) = true := decide_eq_true (by omega)
    simp only [nth_0, nth_1, nth_2, nth_3, nth_4, nth_5, nth_6, nth_7, nth_8, iD, I_add, w1, I_lss, bV, iteP_bool, d, if_true, s1_is h, s2_is h, (c2_is h).len, I_geq]
    by_cases hin : 0 ≤ f + i ∧ f + i < b.n.length
    · have d1 : decide (f + i < 0) = false := decide_eq_false (by omega)
      have d2 : decide ((b.n.length : Int) ≤ f + i) = false := decide_eq_false (by omega)
      obtain ⟨j, hj⟩ : ∃ j : Nat, f + i = j := ⟨(f + i).toNat, by omega⟩
      have hj2 : j < b.n.length := by omega
      have ei : itm b f i = b.n[j] := by
        unfold itm
        rw [if_pos hin, hj, List.getD_eq_getElem?_getD, Int.toNat_natCast, List.getElem?_eq_getElem hj2]; rfl
      have hix := (c2_is h).idx hj2
      rw [← hj] at hix
      simp only [d1, d2, Bool.false_eq_true, if_false, bV, iteP_bool, hix, load_I, okSls_I, cT, one_chk, natP_I, Int.toNat_natCast, itemsP_sl]
      rw [app_chk (tk_len b f i).symm (by rw [tk_len]; omega), app_one (tk_len b f i).symm, app_len, ← ei, ← tk_succ]
      simp only [cT, w2, bV]
    · have e1 : (if decide (f + i < 0) = true then some (PV.bool true) else some (PV.bool (decide ((b.n.length : Int) ≤ f + i)))) = some (.bool true) := by
        by_cases q : f + i < 0
        · simp [q]
        · have : (b.n.length : Int) ≤ f + i := by omega
          simp [q, this]
      have ei : itm b f i = fillI b.ru := by unfold itm; rw [if_neg hin]
      simp only [e1, bV, iteP_bool, if_true, rfill_run, okSls_I, cT, one_chk, natP_I, Int.toNat_natCast, itemsP_sl]
      rw [app_chk (tk_len b f i).symm (by rw [tk_len]; omega), app_one (tk_len b f i).symm, app_len, ← ei, ← tk_succ]
      simp only [cT, w2, bV]
  · have w1 : IntKind.i64.wrap (f + k) = f + k := w64 (by omega) (by omega)
    have d : decide (f + k < f + k) = false := by simp
    simp only [nth_0, nth_1, nth_2, nth_3, nth_4, nth_5, nth_6, nth_7, nth_8, iD, I_add, w1, I_lss, bV, iteP_bool, d, Bool.false_eq_true, if_false, natP_I, Int.toNat_natCast, itemsP_sl, s1_is h]
    rw [slO_n (tk_len b f k).symm, rlist_lend]
    rfl
theorem rtake {v : PV} {b : Arr} (h : IsA v b) (hb : b.n.length ≤ 400000) (n : Int) (hn : -200 ≤ n ∧ n ≤ 200) : TellsA 69 [I n, v] ⟨true, b.ru, takeL' b n⟩ := by
  refine ⟨likeV b.ru (.sl 1 (ints (takeL' b n)) false), ?_, .mk _ _ _ _ (.sl _ _)⟩
  refine call (d := fun _ => .cl) rfl (by decide) (by simp [okVL, h.ok]) rfl ?_
  rw [List.map_cons, List.map_cons, List.map_nil, run69, valO_is h, cT]
  simp only [iD, I_lss, bV, iteP_bool, s2_is h, (c2_is h).len, I_add, negI]
  by_cases h1 : n < 0
  · have w1 : IntKind.i64.wrap ((b.n.length : Int) + n) = (b.n.length : Int) + n := w64 (by omega) (by omega)
    obtain ⟨k, hk⟩ : ∃ k : Nat, 0 - n = k := ⟨(0 - n).toNat, by omega⟩
    have w2 : IntKind.i64.wrap (0 - n) = k := by rw [w64 (by omega) (by omega)]; exact hk
    rw [decide_eq_true h1, if_pos rfl, w1, w2]
    rw [show noUndef [I k, nI 0, I ((b.n.length : Int) + n), I ((b.n.length : Int) + n)] = true from rfl, cT]
    have := rtake_loop h hb ((b.n.length : Int) + n) (by omega) k (by omega)
    have e : takeL' b n = (List.range k).map fun j => itm b ((b.n.length : Int) + n) j := by
      unfold takeL' tkN tkF
      rw [if_pos h1, if_pos h1]
      have : (-n).toNat = k := by omega
      rw [this]
    rw [e]
    exact this
  · obtain ⟨k, rfl⟩ : ∃ k : Nat, n = k := ⟨n.toNat, by omega⟩
    rw [decide_eq_false h1, if_neg (by simp)]
    rw [show noUndef [I k, nI 0, I 0, I 0] = true from rfl, cT]
    have := rtake_loop h hb 0 (by omega) k (by omega)
    have e : takeL' b k = (List.range k).map fun j => itm b 0 j := by
      unfold takeL' tkN tkF
      rw [if_neg h1, if_neg h1, Int.toNat_natCast]
    rw [e]
    exact this
def lft (n : Int) (l : List Int) (i : Nat) : List Int := if 0 ≤ n then (l.take i).drop n.toNat else (l.take i).take ((l.length : Int) + n).toNat
theorem lft_0 (n : Int) (l : List Int) : lft n l 0 = [] := by unfold lft; split <;> simp
theorem lft_all {n : Int} {l : List Int} : lft n l l.length = dropL' n l := by
  unfold lft dropL'
  rw [List.take_length]
  split
  · rename_i h
    by_cases q : n ≤ l.length
    · have : (min n (l.length : Int)).toNat = n.toNat := by omega
      rw [this]
    · have : (min n (l.length : Int)).toNat = l.length := by omega
      rw [this, List.drop_length, List.drop_eq_nil_of_le (by omega)]
  · rename_i h
    have : (max ((l.length : Int) + max n (-(l.length : Int))) 0).toNat = ((l.length : Int) + n).toNat := by omega
    rw [this]
theorem lft_in {n : Int} {l : List Int} {i : Nat} (hi : i < l.length) (h : 0 ≤ n ∧ n ≤ i ∨ n < 0 ∧ (i : Int) - l.length < n) : lft n l (i + 1) = lft n l i ++ [l[i]] := by
  unfold lft
  rw [take_snoc hi]
  rcases h with ⟨h1, h2⟩ | ⟨h1, h2⟩
  · rw [if_pos h1, if_pos h1, List.drop_append_of_le_length (by simp; omega)]
  · rw [if_neg (by omega), if_neg (by omega)]
    have : (l.take i).length = i := by simp; omega
    have e1 : (l.take i ++ [l[i]]).take ((l.length : Int) + n).toNat = l.take i ++ [l[i]] := List.take_of_length_le (by simp; omega)
    have e2 : (l.take i).take ((l.length : Int) + n).toNat = l.take i := List.take_of_length_le (by omega)
    rw [e1, e2]
theorem lft_out {n : Int} {l : List Int} {i : Nat} (hi : i < l.length) (h : ¬ (0 ≤ n ∧ n ≤ i ∨ n < 0 ∧ (i : Int) - l.length < n)) : lft n l (i + 1) = lft n l i := by
  unfold lft
  rw [take_snoc hi]
  by_cases h1 : 0 ≤ n
  · rw [if_pos h1, if_pos h1, List.drop_eq_nil_of_le (by simp; omega), List.drop_eq_nil_of_le (by simp; omega)]
  · rw [if_neg h1, if_neg h1, List.take_append_of_le_length (by simp; omega)]
theorem lft_len (n : Int) (l : List Int) (i : Nat) : (lft n l i).length ≤ l.length := by
  unfold lft
  split <;> simp <;> omega
theorem rdrop {v : PV} {b : Arr} (h : IsA v b) (hb : b.n.length ≤ 400000) (n : Int) : TellsA 70 [I n, v] ⟨true, b.ru, dropL' n b.n⟩ := by
  refine ⟨likeV b.ru (.sl 1 (ints (dropL' n b.n)) false), ?_, .mk _ _ _ _ (.sl _ _)⟩
  refine call (d := fun _ => .cl) rfl (by decide) (by simp [okVL, h.ok]) rfl ?_
  rw [List.map_cons, List.map_cons, List.map_nil, run70, valO_is h, cT]
  simp only [s2_is h, bV, (c2_is h).len]
  rw [show noUndef [I n, nI 0, I b.n.length, PV.int .i64 0] = true from rfl, cT]
  refine loop_run (fun i => ([I n, I (lft n b.n i).length, I b.n.length, I i, v, .bool false, .bool false, .nilS, .sl 1 (ints (lft n b.n i)) false], ())) b.n.length (by simp [lft_0, ints, I]) (fun i hlt => ?_) ?_
  · have d : decide ((i : Int) < (b.n.length : Int)) = true := decide_eq_true (by omega)
    have w1 : IntKind.i64.wrap ((i : Int) - b.n.length) = (i : Int) - b.n.length := w64 (by omega) (by omega)
    have hll := lft_len n b.n i
    simp only [nth_0, nth_1, nth_2, nth_3, nth_4, nth_5, nth_6, nth_7, nth_8, iD, I_lss, I_geq, I_sub, w1, bV, iteP_bool, d, if_true, s2_is h]
    by_cases hin : 0 ≤ n ∧ n ≤ i ∨ n < 0 ∧ (i : Int) - b.n.length < n
    · have e : (if decide (0 ≤ n) = true then (if decide (n ≤ (i : Int)) = true then some (PV.bool true) else if decide (n < 0) = true then some (.bool (decide ((i : Int) - b.n.length < n))) else some (.bool false)) else if decide (n < 0) = true then some (.bool (decide ((i : Int) - b.n.length < n))) else some (.bool false)) = some (.bool true) := by
        rcases hin with ⟨q1, q2⟩ | ⟨q1, q2⟩
        · simp [q1, q2]
        · have : ¬ 0 ≤ n := by omega
          simp [q1, q2, this]
      simp only [e, bV, iteP_bool, if_true, (c2_is h).idx hlt, load_I, okSls_I, cT, one_chk, natP_I, Int.toNat_natCast, itemsP_sl]
      rw [app_chk rfl (by omega), app_one rfl, app_len, ← lft_in hlt hin]
      have hl : (lft n b.n i).length + 1 = (lft n b.n (i + 1)).length := by rw [lft_in hlt hin]; simp
      rw [hl]
      simp only [cT, I_add, bV, wsucc (by omega : i < 9223372036854775807)]
    · have e : (if decide (0 ≤ n) = true then (if decide (n ≤ (i : Int)) = true then some (PV.bool true) else if decide (n < 0) = true then some (.bool (decide ((i : Int) - b.n.length < n))) else some (.bool false)) else if decide (n < 0) = true then some (.bool (decide ((i : Int) - b.n.length < n))) else some (.bool false)) = some (.bool false) := by
        by_cases q1 : 0 ≤ n
        · have q2 : ¬ n ≤ i := fun q => hin (.inl ⟨q1, q⟩)
          have q3 : ¬ n < 0 := by omega
          simp [q1, q2, q3]
        · have q2 : n < 0 := by omega
          have q3 : ¬ (i : Int) - b.n.length < n := fun q => hin (.inr ⟨q2, q⟩)
          simp [q1, q2, q3]
      simp only [e, bV, iteP_bool, Bool.false_eq_true, if_false, natP_I, Int.toNat_natCast, itemsP_sl, nI_eq, iD, I_add, wsucc (by omega : i < 9223372036854775807), lft_out hlt hin]
  · have d : decide ((b.n.length : Int) < (b.n.length : Int)) = false := by simp
    simp only [nth_0, nth_1, nth_2, nth_3, nth_4, nth_5, nth_6, nth_7, nth_8, I_lss, bV, iteP_bool, d, Bool.false_eq_true, if_false, natP_I, Int.toNat_natCast, itemsP_sl, s1_is h]
    rw [slO_n rfl, rlist_lend, lft_all]
    rfl
end Go.Ab.Shape


namespace Go.Ab.Shape
open Go Go.Ab
theorem idxP_spec (p : Int → Bool) : ∀ (l : List Int) (k : Nat), (idxP p k l = -1 ∧ ∀ (i : Nat) (m : Int), l[i]? = some m → p m = false) ∨ ∃ (j : Nat) (m : Int), l[j]? = some m ∧ p m = true ∧ idxP p k l = ((k + j : Nat) : Int) ∧ ∀ i : Nat, i < j → ∀ m : Int, l[i]? = some m → p m = false := by
  intro l
  induction l with
  | nil => intro k; exact .inl ⟨rfl, fun i m h => by simp at h⟩
  | cons x l ih =>
    intro k
    by_cases hx : p x = true
    · exact .inr ⟨0, x, rfl, hx, by simp [idxP, hx], fun i h => by omega⟩
    · rw [Bool.not_eq_true] at hx
      rcases ih (k + 1) with ⟨h1, h2⟩ | ⟨j, m, h1, h2, h3, h4⟩
      · refine .inl ⟨by simp [idxP, hx, h1], fun i m h => ?_⟩
        cases i with
        | zero => simp at h; subst h; exact hx
        | succ i => exact h2 i m (by simpa using h)
      · refine .inr ⟨j + 1, m, by simpa using h1, h2, ?_, fun i hi m h => ?_⟩
        · simp only [idxP, hx, Bool.false_eq_true, if_false, h3]
          congr 1; omega
        · cases i with
          | zero => simp at h; subst h; exact hx
          | succ i => exact h4 i (by omega) m (by simpa using h)
theorem idxAt_stop (a b : Arr) (n : Int) : ∃ K : Nat, K ≤ a.n.length ∧ idxAt a b n = ((K + 1 : Nat) : Int) ∧ (∀ (j : Nat) (m : Int), j < K → a.n[j]? = some m → (m != n) = true ∨ (a.ru == b.ru) = false) ∧ (∀ m : Int, a.n[K]? = some m → (m != n) = false ∧ (a.ru == b.ru) = true) := by
  by_cases hr : a.ru = b.ru
  · rcases idxP_spec (fun x => n == x) a.n 0 with ⟨h1, h2⟩ | ⟨j, m, h1, h2, h3, h4⟩
    · refine ⟨a.n.length, Nat.le_refl _, by unfold idxAt; rw [if_pos (.inl (by rw [h1]; omega))]; omega, fun j m _ hj => .inl ?_, fun m hm => by simp at hm⟩
      have := h2 j m hj
      simp only [beq_eq_false_iff_ne, ne_eq] at this
      simp; intro q; exact this q.symm
    · have hjl : j < a.n.length := (List.getElem?_eq_some_iff.1 h1).1
      refine ⟨j, by omega, ?_, fun i m' hi hm => .inl ?_, fun m' hm => ?_⟩
      · unfold idxAt
        rw [if_neg (by rw [h3]; exact fun q => q.elim (fun q => by omega) (fun q => q hr)), h3]
        omega
      · have := h4 i hi m' hm
        simp only [beq_eq_false_iff_ne, ne_eq] at this
        simp; intro q; exact this q.symm
      · rw [h1] at hm
        obtain rfl := Option.some.inj hm
        have : n = m := by simpa using h2
        subst this
        simp [hr]
  · refine ⟨a.n.length, Nat.le_refl _, by unfold idxAt; rw [if_pos (.inr hr)]; omega, fun j m _ hj => .inr (by simpa using hr), fun m hm => by simp at hm⟩
theorem app_lenI {n : Int} (c : Nat) : I ((addN c (lenL (takeL (lenL [I n]) (dropL 0 [I n]))) : Nat) : Int) = I ((c + 1 : Nat) : Int) := app_len c
theorem rindex {v u : PV} {a b : Arr} (hv : IsA v a) (hu : IsA u b) (ha : a.n.length ≤ 400000) (hb : b.n.length ≤ 400000) : TellsA 42 [v, u] ⟨b.li, false, b.n.map (idxAt a b)⟩ := by
  refine ⟨.agg [.bool b.li, .bool false, .sl 1 (ints (b.n.map (idxAt a b))) false], ?_, .mk _ _ _ _ (.sl _ _)⟩
  refine call (d := fun _ => .cl) rfl (by decide) (by simp [okVL, hv.ok, hu.ok]) rfl ?_
  rw [List.map_cons, List.map_cons, List.map_nil, run42, valO_is hv, valO_is hu, cT, cT]
  simp only [s0_is hu, bV]
  rw [show pureO (.build [.bool false, .bool false, .nilS] [(0, (1, .c (.bool b.li)))]) = some (.agg [.bool b.li, .bool false, .nilS]) from rfl]
  simp only [bV, okCells3 (a := .bool b.li) (b := .bool false) (c := .nilS) rfl, cT, cellP3_0, cellP3_1, cellP3_2, nilO]
  rw [show noUndef [PV.int .i64 0] = true from rfl, cT]
  refine loop_run (fun i => ([I i, v, u, .bool false, .bool false, .nilS, .bool b.li, .bool false, I i, .sl 1 (ints ((b.n.take i).map (idxAt a b))) false], ())) b.n.length rfl (fun i hlt => ?_) ?_
  · have d : decide ((i : Int) < (b.n.length : Int)) = true := decide_eq_true (by omega)
    simp only [nth_0, nth_1, nth_2, nth_3, nth_4, nth_5, nth_6, nth_7, nth_8, nth_9, I_lss, bV, iteP_bool, d, if_true, s2_is hu, (c2_is hu).len, natP_I, Int.toNat_natCast, itemsP_sl, nI_eq, iD]
    rw [show noUndef [I i, I 0] = true from rfl, cT]
    obtain ⟨K, k1, k2, k3, k4⟩ := idxAt_stop a b b.n[i]
    have hln : ((b.n.take i).map (idxAt a b)).length = i := by simp; omega
    have hfin : ((b.n.take i).map (idxAt a b)) ++ [idxAt a b b.n[i]] = (b.n.take (i + 1)).map (idxAt a b) := by rw [take_snoc hlt, List.map_append]; rfl
    refine loop_run (fun j => ([I i, I j, v, u, .bool false, .bool false, .nilS, .bool b.li, .bool false, I i, .sl 1 (ints ((b.n.take i).map (idxAt a b))) false], ())) K rfl (fun j hj => ?_) ?_
    · have hja : j < a.n.length := by omega
      have d1 : decide ((j : Int) < (a.n.length : Int)) = true := decide_eq_true (by omega)
      simp only [nth_0, nth_1, nth_2, nth_3, nth_4, nth_5, nth_6, nth_7, nth_8, nth_9, nth_10, I_lss, bV, iteP_bool, d1, if_true, s2_is hv, s2_is hu, s1_is hv, s1_is hu, (c2_is hv).len, (c2_is hv).idx hja, (c2_is hu).idx hlt, load_I, I_neq, pure_neb, natP_I, Int.toNat_natCast, itemsP_sl, nI_eq, iD, I_add, wsucc (by omega : j < 9223372036854775807)]
      rcases k3 j _ hj (List.getElem?_eq_getElem hja) with q | q
      · simp only [q, if_true]
      · simp only [q, Bool.not_false, if_true]
        split <;> rfl
    · by_cases hK : K < a.n.length
      · have d1 : decide ((K : Int) < (a.n.length : Int)) = true := decide_eq_true (by omega)
        obtain ⟨q1, q2⟩ := k4 _ (List.getElem?_eq_getElem hK)
        simp only [nth_0, nth_1, nth_2, nth_3, nth_4, nth_5, nth_6, nth_7, nth_8, nth_9, nth_10, I_lss, bV, iteP_bool, d1, if_true, s2_is hv, s2_is hu, s1_is hv, s1_is hu, (c2_is hv).len, (c2_is hv).idx hK, (c2_is hu).idx hlt, load_I, I_neq, pure_neb, natP_I, Int.toNat_natCast, itemsP_sl, nI_eq, iD, I_add, q1, q2, Bool.false_eq_true, if_false, Bool.not_true, wsucc (by omega : K < 9223372036854775807), okSls_I, cT, one_chk]
        rw [app_chk hln.symm (by omega), app_one hln.symm, app_lenI, ← k2, hfin]
        simp only [cT, bV, wsucc (by omega : i < 9223372036854775807)]
      · have hKe : K = a.n.length := by omega
        have d1 : decide ((K : Int) < (a.n.length : Int)) = false := decide_eq_false (by omega)
        simp only [nth_0, nth_1, nth_2, nth_3, nth_4, nth_5, nth_6, nth_7, nth_8, nth_9, nth_10, I_lss, bV, iteP_bool, d1, s2_is hv, s2_is hu, (c2_is hv).len, natP_I, Int.toNat_natCast, itemsP_sl, nI_eq, iD, I_add, Bool.false_eq_true, if_false, wsucc (by omega : K < 9223372036854775807), okSls_I, cT, one_chk]
        rw [app_chk hln.symm (by omega), app_one hln.symm, app_lenI, ← k2, hfin]
        simp only [cT, bV, wsucc (by omega : i < 9223372036854775807)]
  · have d : decide ((b.n.length : Int) < (b.n.length : Int)) = false := by simp
    simp only [nth_0, nth_1, nth_2, nth_3, nth_4, nth_5, nth_6, nth_7, nth_8, nth_9, I_lss, bV, iteP_bool, d, Bool.false_eq_true, if_false, s2_is hu, (c2_is hu).len, natP_I, Int.toNat_natCast, itemsP_sl, List.take_length]
    rw [slO_n (by simp), okU3]
    rfl
theorem rjoin {v u : PV} {a b : Arr} (hv : IsA v a) (hu : IsA u b) (ha : a.n.length ≤ 400000) (hb : b.n.length ≤ 400000) : Tells 43 [v, u] (joinA a b) (joinE a b) := by
  have e1 : ∀ l : List Int, decide ((0 : Int) < (l.length : Int)) = decide (0 < l.length) := by
    intro l
    rw [Bool.eq_iff_iff, decide_eq_true_iff, decide_eq_true_iff]; omega
  have e2 : decide ((200 : Int) < (a.n.length : Int) + (b.n.length : Int)) = decide (200 < a.n.length + b.n.length) := by
    rw [Bool.eq_iff_iff, decide_eq_true_iff, decide_eq_true_iff]; omega
  have w : IntKind.i64.wrap ((a.n.length : Int) + (b.n.length : Int)) = (a.n.length : Int) + (b.n.length : Int) := w64 (by omega) (by omega)
  have key : ∃ y, IsA y (joinA a b) ∧ runK (cfg0 B0 fun _ => .cl) fn43 .cl noHandler 0 [.cv v, .cv u] () = some (.tup [y, I (joinE a b)], ()) := by
    rw [run43, valO_is hv, valO_is hu, cT, cT]
    simp only [s2_is hv, s2_is hu, s1_is hv, s1_is hu, bV, (c2_is hv).len, (c2_is hu).len, iD, I_gtr, iteP_bool, e1, pure_neb, I_add, w, e2]
    by_cases h1 : 0 < a.n.length ∧ 0 < b.n.length ∧ a.ru ≠ b.ru
    · have ej : joinE a b = 102 := by unfold joinE; rw [if_pos h1]
      refine ⟨noV, by unfold joinA; rw [ej]; exact noArr_is, ?_⟩
      obtain ⟨q1, q2, q3⟩ := h1
      have : (a.ru == b.ru) = false := by simpa using q3
      simp only [q1, q2, this, decide_true, if_true, bV, iteP_bool, Bool.not_false, ej]
      exact rno' 102
    · have c1 : (if decide (0 < a.n.length) = true then (if decide (0 < b.n.length) = true then some (PV.bool (!(a.ru == b.ru))) else some (.bool false)) else some (.bool false)) = some (.bool false) := by
        by_cases q1 : 0 < a.n.length
        · by_cases q2 : 0 < b.n.length
          · have : a.ru = b.ru := Classical.byContradiction fun q => h1 ⟨q1, q2, q⟩
            simp [q1, q2, this]
          · simp [q1, q2]
        · simp [q1]
      rw [c1]
      simp only [bV, iteP_bool, Bool.false_eq_true, if_false]
      by_cases h2 : 200 < a.n.length + b.n.length
      · have ej : joinE a b = 113 := by unfold joinE; rw [if_neg h1, if_pos h2]
        refine ⟨noV, by unfold joinA; rw [ej]; exact noArr_is, ?_⟩
        simp only [decide_eq_true h2, if_true, ej]
        exact rno' 113
      · have ej : joinE a b = 0 := by unfold joinE; rw [if_neg h1, if_neg h2]
        refine ⟨likeV (isText a || (isText b || (a.ru && b.ru))) (.sl 1 (ints (a.n ++ b.n)) false), by unfold joinA; rw [ej]; exact .mk _ _ _ _ (.sl _ _), ?_⟩
        have z1 : leN (lenL (ints a.n)) 2147483648 = true := by simp [ints_len]; omega
        have z2 : andB (leN (lenL (ints a.n)) (lenL (ints a.n))) (leN (a.n ++ b.n).length 2147483648) = true := by simp [ints_len]; omega
        have z3 : catL (takeL (lenL (ints a.n)) (ints a.n)) (ints b.n) = ints (a.n ++ b.n) := by simp [ints, List.take_of_length_le]
        have z4 : addN (lenL (ints a.n)) (lenL (ints b.n)) = (a.n ++ b.n).length := by simp [ints_len]
        simp only [decide_eq_false h2, Bool.false_eq_true, if_false, (c2_is hv).elems, (c2_is hu).elems, bV, z1, z2, z3, z4, cT, slO_n rfl, rlist_lend, okLike, ej]
        unfold isText
        cases a.ru <;> cases b.ru <;> by_cases q1 : 0 < a.n.length <;> by_cases q2 : 0 < b.n.length <;> simp [q1, q2] <;> rfl
  obtain ⟨y, h1, h2⟩ := key
  exact ⟨y, call (d := fun _ => .cl) rfl (by decide) (by simp [okVL, hv.ok, hu.ok]) rfl h2, h1⟩
theorem amt_ne {lo hi : Int} {a : Arr} (h : firstE a ≠ 0) : amtE lo hi a = firstE a := by unfold amtE; rw [if_neg (fun q => h q.1)]
theorem by_ne {g : List UInt8} {a b : Arr} (hr : (a.right && b.right) = true) (hg : g = gR ∨ g = gT ∨ g = gU ∨ g = gD) (h : firstE a ≠ 0) : dyE g a b = firstE a ∧ dyA g a b = noArr := by
  rw [Bool.and_eq_true] at hr
  rcases hg with rfl | rfl | rfl | rfl
  · obtain ⟨e1, e2⟩ := dy_R (a := a) (b := b) hr.1 hr.2
    have e : shE a b = firstE a := by unfold shE; rw [amt_ne h, if_pos h]
    rw [e1, e2]; exact ⟨e, by unfold shA; rw [e, if_neg h]⟩
  · obtain ⟨e1, e2⟩ := dy_T (a := a) (b := b) hr.1 hr.2
    rw [e1, e2]; exact ⟨rfl, by unfold rotA; rw [if_neg h]⟩
  · obtain ⟨e1, e2⟩ := dy_U (a := a) (b := b) hr.1 hr.2
    have e : takeE a = firstE a := by unfold takeE; rw [amt_ne h]
    rw [e1, e2]; exact ⟨e, by unfold takeA; rw [e, if_neg h]⟩
  · obtain ⟨e1, e2⟩ := dy_D (a := a) (b := b) hr.1 hr.2
    rw [e1, e2]; exact ⟨rfl, by unfold dropA; rw [if_neg h]⟩
theorem rsome' {y : PV} {a : Arr} (h : IsA y a) (c : Int) : chkO (okCells y 3) (some (PV.tup [.agg [cellP y 0, cellP y 1, cellP y 2], I c], ())) = some (.tup [y, I c], ()) := rsome h _
theorem rby {g : List UInt8} {v u : PV} {a b : Arr} (hg : g = gR ∨ g = gT ∨ g = gU ∨ g = gD) (hv : IsA v a) (hu : IsA u b) (ha : a.n.length ≤ 400000) (hb : b.n.length ≤ 400000) (hr : (a.right && b.right) = true) (hin : ∀ n ∈ a.n, -9223372036854775808 ≤ n ∧ n ≤ 9223372036854775807) :
    Tells 41 [.str g, v, u] (dyA g a b) (dyE g a b) := by
  have hr2 := hr
  rw [Bool.and_eq_true] at hr2
  have key : ∃ y, IsA y (dyA g a b) ∧ runK (cfg0 B0 fun _ => .cl) fn41 .cl noHandler 0 [.cv (.str g), .cv v, .cv u] () = some (.tup [y, I (dyE g a b)], ()) := by
    rw [run41, valO_is hv, valO_is hu, cT, cT]
    simp only [s2_is hv, s2_is hu, s1_is hv, sel_is hu, bV, (c2_is hv).len, (c2_is hu).len, iD, I_neq, iteP_bool, len_ne]
    by_cases h1 : a.n.length = 1
    case neg =>
      have e := firstE_len h1
      obtain ⟨e1, e2⟩ := by_ne (b := b) hr hg (by rw [e]; decide)
      refine ⟨noV, by rw [e2]; exact noArr_is, ?_⟩
      simp only [decide_eq_true h1, if_true, e1, e]
      exact rno' 111
    case pos =>
      obtain ⟨n, hn⟩ := List.length_eq_one_iff.1 h1
      have hx := c2_is hv
      rw [hn] at hx
      have hi := idx0 hx
      rw [iD] at hi
      obtain ⟨n1, n2⟩ := hin n (by rw [hn]; exact List.mem_singleton.2 rfl)
      simp only [h1, ne_eq, not_true_eq_false, decide_false, Bool.false_eq_true, if_false, hi, bV, load_I, I_lss, I_gtr, I_eql, iteP_bool]
      cases hru : a.ru with
      | true =>
        have e := firstE_ru h1 hru
        obtain ⟨e1, e2⟩ := by_ne (b := b) hr hg (by rw [e]; decide)
        refine ⟨noV, by rw [e2]; exact noArr_is, ?_⟩
        simp only [if_true, bV, iteP_bool, e1, e]
        exact rno' 102
      | false =>
        obtain ⟨f1, f2⟩ := firstE_ok hn hru
        simp only [show ([226, 141, 180] : List UInt8) = gR from rfl, show ([226, 140, 189] : List UInt8) = gT from rfl, show ([226, 134, 145] : List UInt8) = gU from rfl, Bool.false_eq_true, if_false, bV, iteP_bool]
        rcases hg with rfl | rfl | rfl | rfl
        · obtain ⟨e1, e2⟩ := dy_R (a := a) (b := b) hr2.1 hr2.2
          rw [e1, e2]
          simp only [eqs_t, bV, iteP_bool, if_true]
          by_cases h2 : n < 0
          · have am : amtE (-9223372036854775808) 200 a = 0 := by unfold amtE; rw [f1, f2, if_neg (by omega)]
            have es : shE a b = 102 := by unfold shE; rw [am, f2, if_neg (by simp), if_pos h2]
            refine ⟨noV, by unfold shA; rw [es]; exact noArr_is, ?_⟩
            simp only [decide_eq_true h2, if_true, es]
            exact rno' 102
          · simp only [decide_eq_false h2, Bool.false_eq_true, if_false]
            by_cases h3 : 200 < n
            · have am : amtE (-9223372036854775808) 200 a = 113 := by unfold amtE; rw [f1, f2, if_pos ⟨rfl, .inr h3⟩]
              have es : shE a b = 113 := by unfold shE; rw [am, if_pos (by decide)]
              refine ⟨noV, by unfold shA; rw [es]; exact noArr_is, ?_⟩
              simp only [decide_eq_true h3, if_true, bV, iteP_bool, es]
              exact rno' 113
            · have am : amtE (-9223372036854775808) 200 a = 0 := by unfold amtE; rw [f1, f2, if_neg (by omega)]
              have d4 : decide (n < -200) = false := decide_eq_false (by omega)
              simp only [decide_eq_false h3, d4, Bool.false_eq_true, if_false, bV, iteP_bool]
              obtain ⟨N, rfl⟩ : ∃ N : Nat, n = N := ⟨n.toNat, by omega⟩
              have e5 : ((b.n.length : Int) == 0) = decide (b.n.length = 0) := by
                by_cases q : b.n.length = 0
                · simp [q]
                · have : ¬ (b.n.length : Int) = 0 := by omega
                  simp [q, this]
              by_cases h5 : 0 < (N : Int) ∧ b.n.length = 0
              · have es : shE a b = 110 := by unfold shE; rw [am, f2, if_neg (by simp), if_neg h2, if_pos h5]
                refine ⟨noV, by unfold shA; rw [es]; exact noArr_is, ?_⟩
                simp only [decide_eq_true h5.1, if_true, bV, iteP_bool, e5, decide_eq_true h5.2, es]
                exact rno' 110
              · have es : shE a b = 0 := by unfold shE; rw [am, f2, if_neg (by simp), if_neg h2, if_neg h5]
                have c5 : (if decide (0 < (N : Int)) = true then some (PV.bool (decide (b.n.length = 0))) else some (.bool false)) = some (.bool false) := by
                  by_cases q : 0 < (N : Int)
                  · have : ¬ b.n.length = 0 := fun z => h5 ⟨q, z⟩
                    rw [decide_eq_true q, decide_eq_false this]; rfl
                  · rw [decide_eq_false q]; rfl
                obtain ⟨y, y1, y2⟩ := rreshape hu hb N (by omega) (fun q => Nat.pos_of_ne_zero fun z => h5 ⟨by omega, z⟩)
                refine ⟨y, by unfold shA; rw [es, f2]; exact y2, ?_⟩
                simp only [e5, c5, bV, iteP_bool, Bool.false_eq_true, if_false, y1, es]
                exact rsome' y2 0
        · obtain ⟨e1, e2⟩ := dy_T (a := a) (b := b) hr2.1 hr2.2
          obtain ⟨y, y1, y2⟩ := rrotate hu hb n
          rw [e1, e2]
          refine ⟨y, by unfold rotA; rw [f1, f2]; exact y2, ?_⟩
          simp only [eqs_t, eqs_f (show ¬ gT = gR by decide), eqs_f (show ¬ gT = gU by decide), bV, iteP_bool, Bool.false_eq_true, if_false, if_true, y1, f1]
          exact rsome' y2 0
        · obtain ⟨e1, e2⟩ := dy_U (a := a) (b := b) hr2.1 hr2.2
          rw [e1, e2]
          simp only [eqs_t, eqs_f (show ¬ gU = gR by decide), eqs_f (show ¬ gU = gT by decide), bV, iteP_bool, Bool.false_eq_true, if_false, if_true]
          by_cases h3 : n < -200 ∨ 200 < n
          · have et : takeE a = 113 := by unfold takeE amtE; rw [f1, f2, if_pos ⟨rfl, h3⟩]
            have c : (if decide (200 < n) = true then some (PV.bool true) else some (.bool (decide (n < -200)))) = some (.bool true) := by
              by_cases q : 200 < n
              · simp [q]
              · have : n < -200 := by omega
                simp [q, this]
            refine ⟨noV, by unfold takeA; rw [et]; exact noArr_is, ?_⟩
            simp only [c, bV, iteP_bool, if_true, et]
            exact rno' 113
          · have et : takeE a = 0 := by unfold takeE amtE; rw [f1, f2, if_neg (fun q => h3 q.2)]
            have d3 : decide (200 < n) = false := decide_eq_false (fun q => h3 (.inr q))
            have d4 : decide (n < -200) = false := decide_eq_false (fun q => h3 (.inl q))
            obtain ⟨y, y1, y2⟩ := rtake hu hb n (by omega)
            refine ⟨y, by unfold takeA; rw [et, f2]; exact y2, ?_⟩
            simp only [d3, d4, Bool.false_eq_true, if_false, bV, iteP_bool, y1, et]
            exact rsome' y2 0
        · obtain ⟨e1, e2⟩ := dy_D (a := a) (b := b) hr2.1 hr2.2
          obtain ⟨y, y1, y2⟩ := rdrop hu hb n
          rw [e1, e2]
          refine ⟨y, by unfold dropA; rw [f1, f2]; exact y2, ?_⟩
          simp only [eqs_f (show ¬ gD = gR by decide), eqs_f (show ¬ gD = gU by decide), eqs_f (show ¬ gD = gT by decide), bV, iteP_bool, Bool.false_eq_true, if_false, y1, f1]
          exact rsome' y2 0
  obtain ⟨y, h1, h2⟩ := key
  exact ⟨y, call (d := fun _ => .cl) rfl (by decide) (by simp [okVL, okV, hv.ok, hu.ok]) rfl h2, h1⟩
set_option maxHeartbeats 1000000 in
theorem rdyR (g : List UInt8) {v u : PV} {a b : Arr} (hv : IsA v a) (hu : IsA u b) (ha : a.n.length ≤ 400000) (hb : b.n.length ≤ 400000) (hin : ∀ n ∈ a.n, -9223372036854775808 ≤ n ∧ n ≤ 9223372036854775807) :
    Tells 20 [.str g, v, u] (dyA g a b) (dyE g a b) := by
  have key : ∃ y, IsA y (dyA g a b) ∧ runK (cfg0 B0 fun _ => .cl) fn20 .cl noHandler 0 [.cv (.str g), .cv v, .cv u] () = some (.tup [y, I (dyE g a b)], ()) := by
    rw [run20, valO_is hv, valO_is hu, cT, cT]
    simp only [sel_is hv, sel_is hu, bV, rright_run hv (by omega), rright_run hu (by omega), pure_not, iteP_bool]
    cases hra : a.right with
    | false =>
      obtain ⟨e1, e2⟩ := dy_not (g := g) (a := a) (b := b) (by rw [hra]; rfl)
      rw [e1, e2]
      exact ⟨noV, noArr_is, rno 114⟩
    | true =>
    cases hrb : b.right with
    | false =>
      obtain ⟨e1, e2⟩ := dy_not (g := g) (a := a) (b := b) (by rw [hra, hrb]; rfl)
      rw [e1, e2]
      exact ⟨noV, noArr_is, rno 114⟩
    | true =>
      have hr : (a.right && b.right) = true := by rw [hra, hrb]; rfl
      simp only [Bool.not_true, Bool.false_eq_true, if_false]
      simp only [show ([226, 141, 180] : List UInt8) = gR from rfl, show ([226, 141, 179] : List UInt8) = gI from rfl, show ([44] : List UInt8) = gC from rfl, show ([226, 140, 189] : List UInt8) = gT from rfl, show ([226, 134, 145] : List UInt8) = gU from rfl, show ([226, 134, 147] : List UInt8) = gD from rfl, show ([226, 137, 162] : List UInt8) = gN from rfl]
      by_cases h1 : g = gR
      · subst h1
        obtain ⟨y, y1, y2⟩ := rby (.inl rfl) hv hu ha hb hr hin
        refine ⟨y, y2, ?_⟩
        simp only [eqs_t, bV, iteP_bool, if_true, y1, pure_tup, List.getElem?_cons_zero, List.getElem?_cons_succ, rsome y2]
      simp only [eqs_f h1, bV, iteP_bool, Bool.false_eq_true, if_false]
      by_cases h4 : g = gT
      · subst h4
        obtain ⟨y, y1, y2⟩ := rby (.inr (.inl rfl)) hv hu ha hb hr hin
        refine ⟨y, y2, ?_⟩
        simp only [eqs_t, bV, iteP_bool, if_true, y1, pure_tup, List.getElem?_cons_zero, List.getElem?_cons_succ, rsome y2]
      simp only [eqs_f h4, bV, iteP_bool, Bool.false_eq_true, if_false]
      by_cases h5 : g = gU
      · subst h5
        obtain ⟨y, y1, y2⟩ := rby (.inr (.inr (.inl rfl))) hv hu ha hb hr hin
        refine ⟨y, y2, ?_⟩
        simp only [eqs_t, bV, iteP_bool, if_true, y1, pure_tup, List.getElem?_cons_zero, List.getElem?_cons_succ, rsome y2]
      simp only [eqs_f h5, bV, iteP_bool, Bool.false_eq_true, if_false]
      by_cases h6 : g = gD
      · subst h6
        obtain ⟨y, y1, y2⟩ := rby (.inr (.inr (.inr rfl))) hv hu ha hb hr hin
        refine ⟨y, y2, ?_⟩
        simp only [eqs_t, bV, iteP_bool, if_true, y1, pure_tup, List.getElem?_cons_zero, List.getElem?_cons_succ, rsome y2]
      simp only [eqs_f h6, bV, iteP_bool, Bool.false_eq_true, if_false]
      by_cases h2 : g = gI
      · subst h2
        obtain ⟨e1, e2⟩ := dy_I (a := a) (b := b) hra hrb
        rw [e1, e2]
        simp only [eqs_t, bV, iteP_bool, if_true, s0_is hv, pure_not]
        unfold indexE indexA
        cases a.li with
        | false =>
          exact ⟨noV, noArr_is, rno 111⟩
        | true =>
          obtain ⟨y, y1, y2⟩ := rindex hv hu ha hb
          refine ⟨y, y2, ?_⟩
          simp only [Bool.not_true, Bool.false_eq_true, if_false, y1, bV]
          exact rsome' y2 0
      simp only [eqs_f h2, bV, iteP_bool, Bool.false_eq_true, if_false]
      by_cases h3 : g = gC
      · subst h3
        obtain ⟨e1, e2⟩ := dy_C (a := a) (b := b) hra hrb
        obtain ⟨y, y1, y2⟩ := rjoin hv hu ha hb
        rw [e1, e2]
        refine ⟨y, y2, ?_⟩
        simp only [eqs_t, bV, iteP_bool, if_true, y1, pure_tup, List.getElem?_cons_zero, List.getElem?_cons_succ, rsome y2]
      simp only [eqs_f h3, bV, iteP_bool, Bool.false_eq_true, if_false]
      by_cases h7 : g = gN
      · subst h7
        obtain ⟨e1, e2⟩ := dy_N (a := a) (b := b) hra hrb
        rw [e1, e2]
        refine ⟨oneV (if a.same b then 0 else 1), one_is _, ?_⟩
        simp only [eqs_t, bV, iteP_bool, if_true, rsame_run hv hu (by omega) (by omega), iD, rnumber_run]
        cases a.same b <;> rfl
      simp only [eqs_f h7, bV, iteP_bool, Bool.false_eq_true, if_false]
      have e1 : dyE g a b = 102 := by unfold dyE; simp [hra, hrb, h1, h2, h3, h4, h5, h6, h7]
      have e2 : dyA g a b = noArr := by unfold dyA; simp [hra, hrb, h1, h2, h3, h4, h5, h6, h7]
      rw [e1, e2]
      exact ⟨noV, noArr_is, rno 102⟩
  obtain ⟨y, h1, h2⟩ := key
  exact ⟨y, call (d := fun _ => .cl) rfl (by decide) (by simp [okVL, okV, hv.ok, hu.ok]) rfl h2, h1⟩
theorem func_nn (f : FuncId) : pureO (.bin .neq .func true (.c (.fn f [])) (.c .nilF)) = some (.bool true) := rfl
theorem func_ee : pureO (.bin .neq .func true (.c .nilF) (.c .nilF)) = some (.bool false) := rfl
def isMonB (g : List UInt8) : Bool := decide (g = gR ∨ g = gI ∨ g = gC ∨ g = gT ∨ g = gU ∨ g = gN)
def isDyB (g : List UInt8) : Bool := isMonB g || decide (g = gD)
theorem ismon_run (g : List UInt8) : callO B0 .cl (.fn 22 []) [.str g] = some (.bool (isMonB g)) := by
  refine call (d := fun _ => .cl) rfl (by decide) rfl rfl ?_
  rw [List.map_cons, List.map_nil, run22, funs_run]
  simp only [bV, look_run]
  rw [show pureO (.field 0 1 false (.c (.agg [monF g, dyF g]))) = some (monF g) from rfl]
  simp only [bV]
  unfold monF isMonB
  by_cases h1 : g = gR
  · subst h1; simp [func_nn]
  by_cases h2 : g = gI
  · subst h2; simp [func_nn, show ¬ gI = gR by decide]
  by_cases h3 : g = gC
  · subst h3; simp [func_nn, show ¬ gC = gR by decide, show ¬ gC = gI by decide]
  by_cases h4 : g = gT
  · subst h4; simp [func_nn, show ¬ gT = gR by decide, show ¬ gT = gI by decide, show ¬ gT = gC by decide]
  by_cases h5 : g = gU
  · subst h5; simp [func_nn, show ¬ gU = gR by decide, show ¬ gU = gI by decide, show ¬ gU = gC by decide, show ¬ gU = gT by decide]
  by_cases h6 : g = gN
  · subst h6; simp [func_nn, show ¬ gN = gR by decide, show ¬ gN = gI by decide, show ¬ gN = gC by decide, show ¬ gN = gT by decide, show ¬ gN = gU by decide]
  simp [h1, h2, h3, h4, h5, h6, func_ee]
theorem isdy_run (g : List UInt8) : callO B0 .cl (.fn 24 []) [.str g] = some (.bool (isDyB g)) := by
  refine call (d := fun _ => .cl) rfl (by decide) rfl rfl ?_
  rw [List.map_cons, List.map_nil, run24, funs_run]
  simp only [bV, look_run]
  rw [show pureO (.field 1 1 false (.c (.agg [monF g, dyF g]))) = some (dyF g) from rfl]
  simp only [bV]
  unfold dyF isDyB isMonB
  by_cases h1 : g = gR
  · subst h1; simp [func_nn]
  by_cases h2 : g = gI
  · subst h2; simp [func_nn, show ¬ gI = gR by decide]
  by_cases h3 : g = gC
  · subst h3; simp [func_nn, show ¬ gC = gR by decide, show ¬ gC = gI by decide]
  by_cases h4 : g = gT
  · subst h4; simp [func_nn, show ¬ gT = gR by decide, show ¬ gT = gI by decide, show ¬ gT = gC by decide]
  by_cases h5 : g = gU
  · subst h5; simp [func_nn, show ¬ gU = gR by decide, show ¬ gU = gI by decide, show ¬ gU = gC by decide, show ¬ gU = gT by decide]
  by_cases h7 : g = gD
  · subst h7; simp [func_nn, show ¬ gD = gR by decide, show ¬ gD = gI by decide, show ¬ gD = gC by decide, show ¬ gD = gT by decide, show ¬ gD = gU by decide]
  by_cases h6 : g = gN
  · subst h6; simp [func_nn, show ¬ gN = gR by decide, show ¬ gN = gI by decide, show ¬ gN = gC by decide, show ¬ gN = gT by decide, show ¬ gN = gU by decide, show ¬ gN = gD by decide]
  simp [h1, h2, h3, h4, h5, h6, h7, func_ee]
theorem rismon_run (g : List UInt8) : callO B0 .cl (.fn 23 []) [.str g] = some (.bool (isMonB g)) := by
  refine call (d := fun _ => .cl) rfl (by decide) rfl rfl ?_
  rw [List.map_cons, List.map_nil, run23]
  simp only [show ([226, 141, 180] : List UInt8) = gR from rfl, show ([226, 141, 179] : List UInt8) = gI from rfl, show ([44] : List UInt8) = gC from rfl, show ([226, 140, 189] : List UInt8) = gT from rfl, show ([226, 134, 145] : List UInt8) = gU from rfl, show ([226, 137, 162] : List UInt8) = gN from rfl, pure_eqs, bV, iteP_bool]
  unfold isMonB
  by_cases h1 : g = gR
  · simp [h1]
  by_cases h2 : g = gI
  · simp [h1, h2]
  by_cases h3 : g = gC
  · simp [h1, h2, h3]
  by_cases h4 : g = gT
  · simp [h1, h2, h3, h4]
  by_cases h5 : g = gU
  · simp [h1, h2, h3, h4, h5]
  by_cases h6 : g = gN
  · simp [h1, h2, h3, h4, h5, h6]
  simp [h1, h2, h3, h4, h5, h6]
theorem risdy_run (g : List UInt8) : callO B0 .cl (.fn 25 []) [.str g] = some (.bool (isDyB g)) := by
  refine call (d := fun _ => .cl) rfl (by decide) rfl rfl ?_
  rw [List.map_cons, List.map_nil, run25, rismon_run]
  simp only [show ([226, 134, 147] : List UInt8) = gD from rfl, pure_eqs, bV, iteP_bool]
  unfold isDyB
  cases isMonB g
  · by_cases h : g = gD <;> simp [h]
  · rfl
end Go.Ab.Shape


namespace Go.Ab.Shape
open Go Go.Ab
theorem sameMe {a : Arr} : a.same a = true := by unfold Arr.same; rw [(eqL_iff a.n a.n).2 rfl]; simp
def Arr.inr (a : Arr) : Prop := ∀ n ∈ a.n, -9223372036854775808 ≤ n ∧ n ≤ 9223372036854775807
theorem few_inr {a : Arr} (h : a.inr) : a.few.inr := fun n hn => h n (List.mem_of_mem_take hn)
theorem law_does (s : List UInt8) {v u : PV} {a b : Arr} (hv : IsA v a) (hu : IsA u b) (ha : a.inr) : runK (cfg0 B0 fun _ => .cl) fn10 .cl noHandler 0 [.cv (.str s), .cv v, .cv u] () = some (.bool true, ()) := by
  obtain ⟨v1, f1, i1⟩ := few_run hv
  obtain ⟨u1, f2, i2⟩ := few_run hu
  have la := few_len a
  have lb := few_len b
  have hin := few_inr ha
  obtain ⟨c, hc, ic⟩ := mon_run (s.take 20) i2 (by omega)
  obtain ⟨d, hd, id⟩ := rmonR (s.take 20) i2 (by omega)
  obtain ⟨x, hx, ix⟩ := dy_run (s.take 20) i1 i2 (by omega) (by omega)
  obtain ⟨y, hy, iy⟩ := rdyR (s.take 20) i1 i2 (by omega) (by omega) hin
  have s1 := rsame_run ic id (monA_len _ lb) (monA_len _ lb)
  have s2 := rsame_run ix iy (dyA_len _ la lb) (dyA_len _ la lb)
  rw [run10, valO_is hv, valO_is hu, cT, cT, shown_run]
  simp only [bV, sel_is hv, sel_is hu, f1, f2, okSto_is i1 hv, okSto_is i2 hu, stoP_is i1 hv, stoP_is i2 hu, cT, sel_is i1, sel_is i2, short_run, hc, hd, hx, hy, pure_tup, List.getElem?_cons_zero, List.getElem?_cons_succ, okCells_is ic, okCells_is id, okCells_is ix, okCells_is iy, rcells ic, rcells id, rcells ix, rcells iy, s1, s2, sameMe, iteP_bool, if_true, I_eql, beq_self_eq_true, ismon_run, isdy_run, rismon_run, risdy_run, pure_eqb, s1_is i1, fill_run, rfill_run]
end Go.Ab.Shape


namespace Go.Ab.Shape
open Go Go.Ab Go.Proofs
theorem wf_in {n : Int} (h : (Lit.int .i64 n).wf = true) : (-9223372036854775808 ≤ n ∧ n ≤ 9223372036854775807) := by
  unfold Lit.wf at h
  rw [Bool.and_eq_true, decide_eq_true_eq, decide_eq_true_eq] at h
  exact h
theorem ints_in : ∀ (xs : List PV), (∀ x ∈ xs, HasV (.int .i64) x) → ∃ l, xs = ints l ∧ ∀ n ∈ l, (-9223372036854775808 ≤ n ∧ n ≤ 9223372036854775807)
  | [], _ => ⟨[], rfl, by simp⟩
  | x :: xs, h => by
    obtain ⟨n, rfl, hn⟩ := h x List.mem_cons_self
    obtain ⟨l, rfl, hl⟩ := ints_in xs fun y hy => h y (List.mem_cons_of_mem _ hy)
    exact ⟨n :: l, rfl, fun m hm => by
      rcases List.mem_cons.1 hm with rfl | hm
      · exact wf_in hn
      · exact hl m hm⟩
theorem arr_in {v : PV} (h : HasV arrD v) : ∃ a, IsA v a ∧ a.inr := by
  obtain ⟨vs, rfl, b, r, rfl, ⟨b, rfl⟩, c, r, rfl, ⟨c, rfl⟩, x, r, rfl, hx, rfl⟩ := h
  have key : ∃ l, IsL x l ∧ x.cells = [x] ∧ ∀ n ∈ l, (-9223372036854775808 ≤ n ∧ n ≤ 9223372036854775807) := by
    rcases hx with rfl | ⟨xs, rfl, _, hx⟩
    · exact ⟨[], .nil, rfl, by simp⟩
    · obtain ⟨l, rfl, hl⟩ := ints_in xs hx
      exact ⟨l, .sl l false, rfl, hl⟩
  obtain ⟨l, h1, h2, h3⟩ := key
  refine ⟨⟨b, c, l⟩, ?_, h3⟩
  rw [show cellsL [PV.bool b, PV.bool c, x] = [.bool b, .bool c, x] by simp only [cellsL, h2]; rfl]
  exact .mk _ _ _ _ h1
theorem told_does : Told fn10 [.str, arrD, arrD] := by
  rintro us ⟨_, _, rfl, ⟨s, rfl, _⟩, _, _, rfl, ha, _, _, rfl, hb, rfl⟩
  obtain ⟨a, ha, ia⟩ := arr_in ha
  obtain ⟨b, hb, ib⟩ := arr_in hb
  exact ⟨by simp [okVL, okV, ha.ok, hb.ok], Nat.le_of_ble_eq_true rfl, law_does s ha hb ia⟩
end Go.Ab.Shape


namespace Go.Ab.Shape
open Go Go.Ab Go.Proofs Go.Proofs.YtglakhjbcnajfaaGreatDoor Go.ChangeShapes Go.WideShapes Go.RowKit
theorem p_own : ownKnob Tryz.prog.godebug = none := by kernel_rfl
theorem p_et : Tryz.prog.globalNamed "errors.errorType" = some 0 := by kernel_rfl
theorem p_rt : (Tryz.prog.cutTypes.find? (·.1 == "internal/reflectlite.rtype")).map (·.2) = some 112 := by kernel_rfl
theorem p_oneRow : ((List.range 183).filter fun t => Tryz.prog.rowNamed t [101, 114, 114, 111, 114]) = [53] := by kernel_rfl
theorem p_size : Tryz.prog.types.size = 183 := by kernel_rfl
set_option maxRecDepth 100000 in
theorem vars_of_laid {W : World} (h : laidMetH Tryz.prog Rows.shapeRightsRow.laid W) : Vars W := by
  have h' : handlesMet Tryz.prog [("errors.errorType", Rows.laid_errors_errorType)] W := h.2
  obtain ⟨name, u, ty, e1, e2, e3, e4, e5⟩ := h' _ (List.mem_singleton.2 rfl)
  have en : name = [101, 114, 114, 111, 114] := (Option.some.inj e1).symm
  subst en
  obtain rfl := Option.some.inj (p_rt.symm.trans e2)
  have hm : ty ∈ (List.range 183).filter fun t => Tryz.prog.rowNamed t [101, 114, 114, 111, 114] := List.mem_filter.2 ⟨List.mem_range.2 (by rw [← p_size]; exact e3), e4⟩
  rw [p_oneRow] at hm
  obtain rfl := List.mem_singleton.1 hm
  have hh : typeHandle Tryz.prog 53 = .pointer (some ⟨7, 53, none⟩) := by kernel_rfl
  rw [hh] at e5
  exact ⟨by simpa using World.var?_cell p_et e5 0⟩
theorem wd_of_laid {W : World} (h : laidMetH Tryz.prog Rows.shapeRightsRow.laid W) : cx0.Wd (fun b => b < W.heap.size) W := by
  have hv := vars_of_laid h
  refine ⟨?_, hv⟩
  have := hv.et
  rcases Nat.lt_or_ge 0 W.heap.size with h | h
  · exact h
  · simp [World.cell?, Array.getElem?_eq_none h] at this
mutual
def tabCells : DataW Unit → List Value
  | .lit (.int k n) => [.int k n]
  | .agg ds => tabCellsL ds
  | _ => []
def tabCellsL : List (DataW Unit) → List Value
  | [] => []
  | d :: ds => tabCells d ++ tabCellsL ds
end
def putTab (h : Array Obj) (i : Nat) (d : DataW Unit) : Array Obj := h.modify i fun
  | .cells _ t frozen => .cells (tabCells d).toArray t frozen
  | o => o
noncomputable def laidWorld (os : Os) : World :=
  let w0 := World.holding Tryz.prog os ⟨#[], #[], []⟩
  let h0 := w0.heap.modify 0 fun
    | .cells _ t frozen => .cells #[.iface 112 (.agg #[.pointer (some ⟨7, 53, none⟩)])] t frozen
    | o => o
  { w0 with heap := putTab (putTab (putTab (putTab (putTab h0 2 Rows.laid_unicode_utf8_first) 3 Rows.laid_unicode_utf8_acceptRanges) 4 Rows.laid_internal_strconv_uint64pow10) 5 Rows.laid_math_bits_deBruijn32tab) 6 Rows.laid_math_bits_deBruijn64tab }
theorem laidWorld_met (os : Os) (args : Array Value) : laidMetH Tryz.prog Rows.shapeRightsRow.laid ((laidWorld os).forCall (fun _ _ => 0) ⟨#[], args, []⟩).memory :=
  laidMetH_of_parts (laidMet_of_run' 8 (by kernel_rfl) (by kernel_rfl)) (by kernel_rfl)
end Go.Ab.Shape

