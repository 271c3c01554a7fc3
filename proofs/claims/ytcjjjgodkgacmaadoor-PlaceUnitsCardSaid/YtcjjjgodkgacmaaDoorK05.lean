/-
  Part 5 of a proof: a machine of our own for the given program, its laws, and what it says of the program. Nothing here is a claim by itself.
-/
import Derived.Test.YtcjjjgodkgacmaaDoorK04
import Derived.Test.YtcjjjgodkgacmaaDoorRows
import Derived.Lib.LaidU8
import Derived.LaidHandle
import Derived.LaidLaws
import Derived.ProofKit
import Derived.ChangeMaps5
import Derived.ChangeSame
import Derived.ChangeVars
import Derived.JoinedOf
import Derived.RowKit
import Derived.RowKitTokens
import Derived.Stop.Joined
import Derived.Carry
set_option linter.all false

/-
  Place: units, columns.
-/
namespace Go.Ab.Place
open Go Go.Ab

/-- How many bytes the first rune has. -/
def stepU (s : List UInt8) : Nat := (Lib.decodeGo ⟨s.toArray⟩).2

theorem decode_bd (s : ByteArray) (hs : 0 < s.size) : 1 ≤ (Utf8.decode s 0).2 ∧ (Utf8.decode s 0).2 ≤ 4 ∧ (Utf8.decode s 0).2 ≤ s.size := by
  unfold Utf8.decode
  simp only [Nat.zero_add]
  split
  · omega
  · split
    · rename_i h
      simp only [Bool.and_eq_true, decide_eq_true_eq] at h
      split <;> simp <;> omega
    · split
      · rename_i h
        simp only [Bool.and_eq_true, decide_eq_true_eq] at h
        split <;> simp <;> omega
      · split
        · rename_i h
          simp only [Bool.and_eq_true, decide_eq_true_eq] at h
          split <;> simp <;> omega
        · simp; omega

theorem stepU_bd {s : List UInt8} (hs : s ≠ []) : 1 ≤ stepU s ∧ stepU s ≤ 4 ∧ stepU s ≤ s.length := by
  have hsz : (⟨s.toArray⟩ : ByteArray).size = s.length := by simp [ByteArray.size]
  have hpos : 0 < s.length := List.length_pos_iff.2 hs
  have := decode_bd ⟨s.toArray⟩ (by omega)
  unfold stepU Lib.decodeGo
  rw [if_neg (by omega)]
  omega

def stU (u : Int) (s : List UInt8) : Nat := if u = 1 then 1 else stepU s

theorem stU_bd {u : Int} {s : List UInt8} (hs : s ≠ []) : 1 ≤ stU u s ∧ stU u s ≤ 4 ∧ stU u s ≤ s.length := by
  have := stepU_bd hs
  have hpos : 0 < s.length := List.length_pos_iff.2 hs
  unfold stU; split <;> omega

/-- Places and columns, from some on. -/
def colsGo (u : Int) : Nat → List UInt8 → Nat → Nat → List (Nat × Nat)
  | 0, _, a, c => [(a, c)]
  | f + 1, t, a, c => match t with
    | [] => [(a, c)]
    | b :: t' => (a, c) :: colsGo u f ((b :: t').drop (stU u (b :: t'))) (a + stU u (b :: t')) (c + sizeU (stU u (b :: t')) u)
def cols (u : Int) (t : List UInt8) : List (Nat × Nat) := colsGo u t.length t 0 0

theorem colsGo_cons (u : Int) (f : Nat) {t : List UInt8} (ht : t ≠ []) (a c : Nat) : colsGo u (f + 1) t a c = (a, c) :: colsGo u f (t.drop (stU u t)) (a + stU u t) (c + sizeU (stU u t) u) := by
  cases t with
  | nil => exact absurd rfl ht
  | cons b t => rfl
theorem colsGo_nil (u : Int) (f : Nat) (a c : Nat) : colsGo u f [] a c = [(a, c)] := by cases f <;> rfl

theorem sizeU_le {n : Nat} (h : 1 ≤ n) (u : Int) : 1 ≤ sizeU n u ∧ sizeU n u ≤ n := by
  unfold sizeU; split
  · omega
  · split <;> omega

/-- What comes behind one. -/
theorem colsGo_next (u : Int) : ∀ (f : Nat) (t : List UInt8) (a c : Nat), t.length ≤ f → ∀ (k x y : Nat), (colsGo u f t a c)[k]? = some (x, y) → a ≤ x ∧ x ≤ a + t.length ∧ c ≤ y ∧ y + a ≤ x + c ∧
    (colsGo u f t a c)[k + 1]? = if x = a + t.length then none else some (x + stU u (t.drop (x - a)), y + sizeU (stU u (t.drop (x - a))) u) := by
  intro f
  induction f with
  | zero =>
    intro t a c hf k x y h
    have : t = [] := List.eq_nil_of_length_eq_zero (by omega)
    subst this
    cases k with
    | zero => simp [colsGo] at h; obtain ⟨rfl, rfl⟩ := h; simp [colsGo]; omega
    | succ k => simp [colsGo] at h
  | succ f ih =>
    intro t a c hf k x y h
    by_cases ht : t = []
    · subst ht
      rw [colsGo_nil] at h ⊢
      cases k with
      | zero => simp at h; obtain ⟨rfl, rfl⟩ := h; simp; omega
      | succ k => simp at h
    · rw [colsGo_cons u f ht] at h ⊢
      have hb := stU_bd (u := u) ht
      have hsz := sizeU_le hb.1 u
      have hpos : 0 < t.length := List.length_pos_iff.2 ht
      cases k with
      | zero =>
        simp at h; obtain ⟨rfl, rfl⟩ := h
        refine ⟨Nat.le_refl _, by omega, Nat.le_refl _, by omega, ?_⟩
        rw [if_neg (by omega)]
        simp only [List.getElem?_cons_succ, Nat.sub_self, List.drop_zero]
        by_cases h0 : t.drop (stU u t) = []
        · rw [h0, colsGo_nil]; rfl
        · cases f with
          | zero => have : (t.drop (stU u t)).length = 0 := by simp; omega
                    exact absurd (List.eq_nil_of_length_eq_zero this) h0
          | succ f => rw [colsGo_cons u f h0]; rfl
      | succ k =>
        simp only [List.getElem?_cons_succ] at h ⊢
        obtain ⟨h1, h2, h3, h4, h5⟩ := ih (t.drop (stU u t)) (a + stU u t) (c + sizeU (stU u t) u) (by simp; omega) k x y h
        simp only [List.length_drop] at h2 h5
        refine ⟨by omega, by omega, by omega, by omega, ?_⟩
        rw [h5]
        have e1 : (x = a + stU u t + (t.length - stU u t)) ↔ x = a + t.length := by omega
        rw [List.drop_drop, show stU u t + (x - (a + stU u t)) = x - a by omega]
        simp only [e1]

theorem cols_next {u : Int} {t : List UInt8} {k x y : Nat} (h : (cols u t)[k]? = some (x, y)) : x ≤ t.length ∧ y ≤ x ∧ (cols u t)[k + 1]? = if x = t.length then none else some (x + stU u (t.drop x), y + sizeU (stU u (t.drop x)) u) := by
  obtain ⟨_, h2, _, h4, h5⟩ := colsGo_next u t.length t 0 0 (Nat.le_refl _) k x y h
  simp only [Nat.zero_add, Nat.sub_zero] at h2 h5
  exact ⟨h2, by omega, h5⟩

theorem cols_zero (u : Int) (t : List UInt8) : (cols u t)[0]? = some (0, 0) := by
  unfold cols
  cases t with
  | nil => rfl
  | cons b t => rfl

theorem cols_len (u : Int) (t : List UInt8) : (cols u t).length ≤ t.length + 1 := by
  have key : ∀ (f : Nat) (t : List UInt8) (a c : Nat), t.length ≤ f → (colsGo u f t a c).length ≤ t.length + 1 := by
    intro f
    induction f with
    | zero => intro t a c _; simp [colsGo]
    | succ f ih =>
      intro t a c hf
      by_cases ht : t = []
      · subst ht; rw [colsGo_nil]; simp
      · rw [colsGo_cons u f ht]
        have hb := stU_bd (u := u) ht
        have := ih (t.drop (stU u t)) (a + stU u t) (c + sizeU (stU u t) u) (by simp; omega)
        simp only [List.length_drop] at this
        simp only [List.length_cons]; omega
  exact key t.length t 0 0 (Nat.le_refl _)

/-! ### The program's units -/

def stepF (u : Int) : PV := if u = 1 then .fn 37 [] else .fn 38 []
def sizeF (u : Int) : PV := if u = 3 then .fn 39 [] else .fn 36 []

theorem unit_bad (n : Int) (hn : ¬ (1 ≤ n ∧ n ≤ 3)) : callO B0 .cl (.fn 30 []) [.int .i64 n] = some (.tup [.agg [.nilF, .nilF], errV 2]) := by
  refine call (d := fun _ => .cl) rfl (by decide) rfl rfl ?_
  rw [List.map_cons, List.map_nil, run30]
  have h1 : (n == 1) = false := by simp; omega
  have h2 : (n == 2) = false := by simp; omega
  have h3 : (n == 3) = false := by simp; omega
  have hb1 : pureO (.build [.nilF, .nilF] [(0, (1, .c (.fn 37 []))), (1, (1, .c (.fn 36 [])))]) = some (.agg [.fn 37 [], .fn 36 []]) := rfl
  have hb2 : pureO (.build [.nilF, .nilF] [(0, (1, .c (.fn 38 []))), (1, (1, .c (.fn 36 [])))]) = some (.agg [.fn 38 [], .fn 36 []]) := rfl
  have hb3 : pureO (.build [.nilF, .nilF] [(0, (1, .c (.fn 38 []))), (1, (1, .c (.fn 39 [])))]) = some (.agg [.fn 38 [], .fn 39 []]) := rfl
  have hb4 : pureO (.build [.nilF, .nilF] []) = some (.agg [.nilF, .nilF]) := rfl
  have hb5 : pureO (.build [.int .i64 0] [(0, (1, .c (.int .i64 2)))]) = some (.agg [.int .i64 2]) := rfl
  have hc : okCells (.agg [.nilF, .nilF]) 2 = true := rfl
  have hi1 : insO .num [] (.int .i64 1) (.agg [.fn 37 [], .fn 36 []]) = some [.int .i64 1, .agg [.fn 37 [], .fn 36 []]] := rfl
  have hi2 : insO .num [.int .i64 1, .agg [.fn 37 [], .fn 36 []]] (.int .i64 2) (.agg [.fn 38 [], .fn 36 []]) = some [.int .i64 1, .agg [.fn 37 [], .fn 36 []], .int .i64 2, .agg [.fn 38 [], .fn 36 []]] := rfl
  have hi3 : insO .num [.int .i64 1, .agg [.fn 37 [], .fn 36 []], .int .i64 2, .agg [.fn 38 [], .fn 36 []]] (.int .i64 3) (.agg [.fn 38 [], .fn 39 []]) = some [.int .i64 1, .agg [.fn 37 [], .fn 36 []], .int .i64 2, .agg [.fn 38 [], .fn 36 []], .int .i64 3, .agg [.fn 38 [], .fn 39 []]] := rfl
  simp only [hb1, hb2, hb3, hb4, hb5, bindO_val, hi1, hi2, hi3]
  simp [lookO, findE, keyEq, chk, h1, h2, h3, chkO, isKey, hc, cellP, errV]

theorem unit_ok (u : Int) (h1 : 1 ≤ u) (h3 : u ≤ 3) : callO B0 .cl (.fn 30 []) [.int .i64 u] = some (.tup [.agg [stepF u, sizeF u], .nilI]) := by
  refine call (d := fun _ => .cl) rfl (by decide) rfl rfl ?_
  rw [List.map_cons, List.map_nil, run30]
  have : u = 1 ∨ u = 2 ∨ u = 3 := by omega
  rcases this with rfl | rfl | rfl <;> rfl

theorem walk_unit (s : List UInt8) (n u : Int) (hu : ¬ (1 ≤ u ∧ u ≤ 3)) : callO B0 .cl (.fn 24 []) [.str s, .int .i64 n, .int .i64 u] = some (.tup [.nilP, errV 2]) := by
  refine call (d := fun _ => .cl) rfl (by decide) rfl rfl ?_
  rw [List.map_cons, List.map_cons, List.map_cons, List.map_nil, run24, unit_bad u hu]
  rfl

theorem walk_line (s : List UInt8) (hs : s.length ≤ 1000000) (n u : Int) (h1 : 1 ≤ u) (h3 : u ≤ 3) (hn : n < 0 ∨ ((linesL s).length : Int) ≤ n) : callO B0 .cl (.fn 24 []) [.str s, .int .i64 n, .int .i64 u] = some (.tup [.nilP, errV 20]) := by
  refine call (d := fun _ => .cl) rfl (by decide) rfl rfl ?_
  rw [List.map_cons, List.map_cons, List.map_cons, List.map_nil, run24, unit_ok u h1 h3, lineOf_bad s hs n hn]
  have : u = 1 ∨ u = 2 ∨ u = 3 := by omega
  rcases this with rfl | rfl | rfl <;> rfl

def walker (t : List UInt8) (j : Nat) (u : Int) : List PV := [.str t, inat j, stepF u, sizeF u]

theorem walk_ok (s : List UInt8) (hs : s.length ≤ 1000000) (k j : Nat) (hk : (linesL s)[k]? = some j) (u : Int) (h1 : 1 ≤ u) (h3 : u ≤ 3) :
    callO B0 .cl (.fn 24 []) [.str s, inat k, .int .i64 u] = some (.tup [.ptr (walker (line1 (s.drop j)) j u) 0, .nilI]) := by
  refine call (d := fun _ => .cl) rfl (by decide) rfl rfl ?_
  rw [List.map_cons, List.map_cons, List.map_cons, List.map_nil, run24, unit_ok u h1 h3, lineOf_ok s hs k j hk]
  have : u = 1 ∨ u = 2 ∨ u = 3 := by omega
  rcases this with rfl | rfl | rfl <;> rfl

def placesV (t : List UInt8) (j : Nat) (u : Int) : PV := .fn 32 [.ptr [.ptr (walker t j u) 0] 0]

theorem places_run (t : List UInt8) (j : Nat) (u : Int) (h1 : 1 ≤ u) (h3 : u ≤ 3) : callO B0 .cl (.fn 26 []) [.ptr (walker t j u) 0] = some (placesV t j u) := by
  have : u = 1 ∨ u = 2 ∨ u = 3 := by omega
  rcases this with rfl | rfl | rfl
  all_goals
    refine call (d := fun _ => .cl) rfl (by decide) rfl rfl ?_
    rw [List.map_cons, List.map_nil, run26]
    rfl

theorem decode_run (s : List UInt8) : callO B0 .cl (.fn 45 []) [.str s] = some (.tup [.int .i32 ((Lib.decodeGo ⟨s.toArray⟩).1 : Int), inat (stepU s)]) :=
  call_of_sp (cfg_ok fun _ => .cl) (cap := []) (by rfl) rfl

theorem step_run (u : Int) (h1 : 1 ≤ u) (h3 : u ≤ 3) (s : List UInt8) : callO B0 .cl (stepF u) [.str s] = some (inat (stU u s)) := by
  have hr : callO B0 .cl (.fn 38 []) [.str s] = some (inat (stepU s)) := by
    refine call (d := fun _ => .cl) rfl (by decide) rfl rfl ?_
    rw [List.map_cons, List.map_nil, run38, decode_run]
    rfl
  unfold stepF stU
  split
  · refine call (d := fun _ => .cl) rfl (by decide) rfl rfl ?_
    rw [List.map_cons, List.map_nil, run37]
    rfl
  · exact hr

theorem size_run' (u : Int) (h1 : 1 ≤ u) (h3 : u ≤ 3) (n : Nat) (hn : 1 ≤ n ∧ n ≤ 4) (hu : u = 1 → n = 1) : callO B0 .cl (sizeF u) [inat n] = some (inat (sizeU n u)) := by
  have hu' : u = 1 ∨ u = 2 ∨ u = 3 := by omega
  have hn' : n = 1 ∨ n = 2 ∨ n = 3 ∨ n = 4 := by omega
  rcases hu' with rfl | rfl | rfl
  · have := hu rfl; subst this
    refine call (d := fun _ => .cl) rfl (by decide) rfl rfl ?_
    rw [List.map_cons, List.map_nil, run36]
    rfl
  · refine call (d := fun _ => .cl) rfl (by decide) rfl rfl ?_
    rw [List.map_cons, List.map_nil, run36]
    rcases hn' with rfl | rfl | rfl | rfl <;> rfl
  · refine call (d := fun _ => .cl) rfl (by decide) rfl rfl ?_
    rw [List.map_cons, List.map_nil, run39]
    rcases hn' with rfl | rfl | rfl | rfl <;> rfl

/-- What the iterator hands over. -/
def pairs (j : Nat) (l : List (Nat × Nat)) : List (List PV) := l.map fun p => [inat (j + p.1), inat p.2]

theorem iter_run {E : Type} (h : Handler E) (dep d : Nat) (t : List UInt8) (j : Nat) (u : Int) (h1 : 1 ≤ u) (h3 : u ≤ 3) (ht : t.length ≤ 1000000) (hj : j ≤ 1000000) {e e' : E} (hy : yieldAll h d (pairs j (cols u t)) e = some e') :
    runK (cfg0 B0 (fun _ => .cl)) fn32 .cl h dep [.yld d, .cv (.ptr [.ptr (walker t j u) 0] 0)] e = some (.tup [], e') := by
  rw [run32]
  have hu0 : noUndef [nI d, .ptr [.ptr (walker t j u) 0] 0, .int .i64 0, .int .i64 0] = true := rfl
  rw [hu0, chkO_true]
  refine loop_ind (fun s r => ∃ f a c e e', s = ([nI d, .ptr [.ptr (walker t j u) 0] 0, inat a, inat c], e) ∧ r = (.tup [], e') ∧ a ≤ t.length ∧ c ≤ a ∧ t.length - a ≤ f ∧ yieldAll h d (pairs j (colsGo u f (t.drop a) a c)) e = some e')
    (fun s => t.length - natP (nth s.1 2)) ?_ ⟨t.length, 0, 0, e, e', rfl, rfl, by omega, by omega, by omega, by simpa [cols] using hy⟩
  rintro s r ⟨f, a, c, e, e', rfl, rfl, ha, hca, hf, hy⟩
  have hw : IntKind.i64.wrap ((j : Int) + (a : Int)) = ((j + a : Nat) : Int) := by rw [w64 (by omega) (by omega)]; omega
  have hld : pureO (.load 1 false (.c (.ptr [.ptr (walker t j u) 0] 0))) = some (.ptr (walker t j u) 0) := rfl
  have hf0 : pureO (.fieldAddr 0 (.c (.ptr (walker t j u) 0))) = some (.ptr (walker t j u) 0) := rfl
  have hf1 : pureO (.fieldAddr 1 (.c (.ptr (walker t j u) 0))) = some (.ptr (walker t j u) 1) := rfl
  have hf2 : pureO (.fieldAddr 2 (.c (.ptr (walker t j u) 0))) = some (.ptr (walker t j u) 2) := rfl
  have hf20 : pureO (.fieldAddr 0 (.c (.ptr (walker t j u) 2))) = some (.ptr (walker t j u) 2) := rfl
  have hf21 : pureO (.fieldAddr 1 (.c (.ptr (walker t j u) 2))) = some (.ptr (walker t j u) 3) := rfl
  have hl0 : pureO (.load 1 false (.c (.ptr (walker t j u) 0))) = some (.str t) := rfl
  have hl1 : pureO (.load 1 false (.c (.ptr (walker t j u) 1))) = some (.int .i64 (j : Int)) := rfl
  have hl2 : pureO (.load 1 false (.c (.ptr (walker t j u) 2))) = some (stepF u) := rfl
  have hl3 : pureO (.load 1 false (.c (.ptr (walker t j u) 3))) = some (sizeF u) := rfl
  have hhead : ∃ l, colsGo u f (t.drop a) a c = (a, c) :: l := by
    by_cases h0 : t.drop a = []
    · rw [h0, colsGo_nil]; exact ⟨_, rfl⟩
    · cases f with
      | zero => have : (t.drop a).length = 0 := by simp; omega
                exact absurd (List.eq_nil_of_length_eq_zero this) h0
      | succ f => rw [colsGo_cons u f h0]; exact ⟨_, rfl⟩
  obtain ⟨l, hl⟩ := hhead
  have hy' := hy
  rw [hl] at hy'
  simp only [pairs, List.map_cons, yieldAll] at hy'
  simp only [nth_0, nth_1, nth_2, nth_3, hld, bindO_val, pure_nilck, hf0, hf1, hl1, inat, pure_add, hw, nI_eq, natP_int, Int.toNat_natCast, hf2, hf20, hf21, hl0, hl2, hl3, pure_lens, pure_geq] at hy' ⊢
  cases hh : h d [.int .i64 ((j + a : Nat) : Int), .int .i64 (c : Int)] e with
  | none => rw [hh] at hy'; cases hy'
  | some q =>
    obtain ⟨b, e1⟩ := q
    rw [hh] at hy'
    simp only [bindO_val, iteP_bool]
    cases b with
    | false => simp only at hy'; cases hy'; left; rfl
    | true =>
      simp only at hy'
      simp only [if_true]
      by_cases hlt : a < t.length
      · right
        have hge : ¬ ((t.length : Int) ≤ (a : Int)) := by omega
        have hne : t.drop a ≠ [] := by intro h0; have := congrArg List.length h0; simp at this; omega
        have hb := stU_bd (u := u) hne
        have hsz := sizeU_le hb.1 u
        simp only [List.length_drop] at hb
        simp only [hge, decide_false, Bool.false_eq_true, if_false]
        rw [pure_ssl1 ha]
        have hu1 : u = 1 → stU u (t.drop a) = 1 := fun e => by simp [stU, e]
        have hr1 := step_run u h1 h3 (t.drop a)
        have hr2 := size_run' u h1 h3 (stU u (t.drop a)) ⟨hb.1, hb.2.1⟩ hu1
        unfold inat at hr1 hr2
        have hw1 : IntKind.i64.wrap ((a : Int) + (stU u (t.drop a) : Int)) = ((a + stU u (t.drop a) : Nat) : Int) := by rw [w64 (by omega) (by omega)]; omega
        have hw2 : IntKind.i64.wrap ((c : Int) + (sizeU (stU u (t.drop a)) u : Int)) = ((c + sizeU (stU u (t.drop a)) u : Nat) : Int) := by rw [w64 (by omega) (by omega)]; omega
        simp only [bindO_val, hr1, hr2, pure_add, hw1, hw2]
        refine ⟨_, rfl, ?_, ?_⟩
        · cases f with
          | zero => omega
          | succ f =>
            rw [colsGo_cons u f hne] at hl
            simp only [List.cons.injEq, true_and] at hl
            refine ⟨f, a + stU u (t.drop a), c + sizeU (stU u (t.drop a)) u, e1, e', rfl, rfl, by omega, by omega, by omega, ?_⟩
            rw [← List.drop_drop, hl]
            simpa [pairs, inat] using hy'
        · simp only [nth_2, natP_int, Int.toNat_natCast]; omega
      · left
        have hge : ((t.length : Int) ≤ (a : Int)) := by omega
        have h0 : t.drop a = [] := List.drop_eq_nil_of_le (by omega)
        rw [h0, colsGo_nil] at hl
        simp only [List.cons.injEq, true_and] at hl
        subst hl
        simp only [List.map_nil, yieldAll] at hy'
        cases hy'
        simp [hge]
end Go.Ab.Place

/-
  Place: the program's Width, At, Offset.
-/
namespace Go.Ab.Place
open Go Go.Ab

/-- A loop over the places of a line. -/
theorem range_run {E : Type} (h : Handler E) (dep : Nat) (t : List UInt8) (j : Nat) (u : Int) (h1 : 1 ≤ u) (h3 : u ≤ 3) (ht : t.length ≤ 1000000) (hj : j ≤ 1000000) {e e' : E} (hy : yieldAll h dep (pairs j (cols u t)) e = some e') :
    rangeO B0 h dep (placesV t j u) e = some e' := by
  have hok : okVL [.ptr [.ptr (walker t j u) 0] 0] = true := by
    have : u = 1 ∨ u = 2 ∨ u = 3 := by omega
    rcases this with rfl | rfl | rfl <;> rfl
  exact range_of_run (cfg_ok fun _ => .cl) (g := 32) (fn := fn32) rfl (cap := [.ptr [.ptr (walker t j u) 0] 0]) hok (Nat.le_of_ble_eq_true rfl) (iter_run h (dep + 1) dep t j u h1 h3 ht hj hy)

/-- Where a line begins, which line it is. -/
def lineAt (s : List UInt8) (n : Int) : Option (Nat × List UInt8) :=
  if n < 0 then none else match (linesL s)[n.toNat]? with
    | some j => some (j, line1 (s.drop j))
    | none => none

theorem lineAt_none {s : List UInt8} {n : Int} (h : lineAt s n = none) : n < 0 ∨ ((linesL s).length : Int) ≤ n := by
  unfold lineAt at h
  split at h
  · left; assumption
  · split at h
    · cases h
    · rename_i hn
      right
      have := List.getElem?_eq_none_iff.1 hn
      omega

theorem lineAt_some {s : List UInt8} {n : Int} {j : Nat} {t : List UInt8} (h : lineAt s n = some (j, t)) : ∃ k : Nat, n = k ∧ (linesL s)[k]? = some j ∧ t = line1 (s.drop j) ∧ j ≤ s.length ∧ j + t.length ≤ s.length := by
  unfold lineAt at h
  split at h
  · cases h
  · rename_i hn
    split at h
    · rename_i j' hj
      cases h
      obtain ⟨j2, h1, h2, _⟩ := linesL_at (List.getElem?_eq_some_iff.1 hj).1
      rw [hj] at h1; cases h1
      have := line1_le (s.drop j)
      simp at this
      exact ⟨n.toNat, by omega, hj, rfl, h2, by omega⟩
    · cases h

def isU (u : Int) : Prop := 1 ≤ u ∧ u ≤ 3
instance (u : Int) : Decidable (isU u) := inferInstanceAs (Decidable (_ ∧ _))

/-- The last column. -/
def lastC (l : List (Nat × Nat)) : Nat := (l.getLast?.map (·.2)).getD 0

def widthV (s : List UInt8) (n u : Int) : PV :=
  if isU u then match lineAt s n with
    | some (_, t) => .tup [inat (lastC (cols u t)), .int .i64 0]
    | none => .tup [.int .i64 0, .int .i64 20]
  else .tup [.int .i64 0, .int .i64 2]

theorem neq_nil (n : Int) : pureO (.bin .neq .iface true (.c (errV n)) (.c .nilI)) = some (.bool true) := rfl
theorem neq_nil' : pureO (.bin .neq .iface true (.c .nilI) (.c .nilI)) = some (.bool false) := rfl

theorem okArgs2 (a b : Nat) : okArgs [inat a, inat b] 2 = true := rfl
theorem okC (n : Int) : okCells (.int .i64 n) 1 = true := rfl
theorem cellI (n : Int) : cellP (.int .i64 n) 0 = .int .i64 n := rfl

theorem width_loop {E : Type} (h : Handler E) (dep j : Nat) (a b c : PV) (e : E) : ∀ (l : List (Nat × Nat)) (x : Nat),
    yieldAll (onRound dep h (fun z7 => fun z8 => fun z9 => chkO (okArgs z8 2) (chkO (okCells (nth z8 1) 1) (some (true, ([nth z7 0, nth z7 1, nth z7 2, cellP (nth z8 1) 0], (none, z9))))))) dep (pairs j l) ([a, b, c, inat x], none, e) =
      some ([a, b, c, inat (((l.getLast?.map (·.2))).getD x)], none, e) := by
  intro l
  induction l with
  | nil => intro x; rfl
  | cons p l ih =>
    intro x
    simp only [pairs, List.map_cons, yieldAll, onRound, if_true, okArgs2, chkO_true, nth_1, nth_0, nth_2]
    unfold inat at ih ⊢
    simp only [okC, chkO_true, cellI]
    have := ih p.2
    simp only [pairs, onRound, inat] at this
    rw [this]
    cases l with
    | nil => rfl
    | cons q l => rfl

theorem Width_run (s : List UInt8) (hs : s.length ≤ 100000) (n u : Int) : callO B0 .cl (.fn 19 []) [.str s, .int .i64 n, .int .i64 u] = some (widthV s n u) := by
  refine call (d := fun _ => .cl) rfl (by decide) rfl rfl ?_
  rw [List.map_cons, List.map_cons, List.map_cons, List.map_nil, run19]
  unfold widthV
  by_cases hu : isU u
  · rw [if_pos hu]
    cases hl : lineAt s n with
    | none =>
      have hn := lineAt_none hl
      rw [walk_line s (by omega) n u hu.1 hu.2 hn]
      simp [neq_nil, told_err]
    | some p =>
      obtain ⟨j, t⟩ := p
      obtain ⟨k, rfl, hk, rfl, hj, hjt⟩ := lineAt_some hl
      have hw := walk_ok s (by omega) k j hk u hu.1 hu.2
      unfold inat at hw
      rw [hw]
      simp only [bindO_val, pure_tup, List.getElem?_cons_zero, List.getElem?_cons_succ, neq_nil', iteP_bool, Bool.false_eq_true, if_false, okC, chkO_true, cellI]
      rw [places_run _ j u hu.1 hu.2]
      simp only [bindO_val]
      have hy := width_loop noHandler 0 j (.int .i64 0) (.int .i64 0) (placesV (line1 (s.drop j)) j u) () (cols u (line1 (s.drop j))) 0
      unfold inat at hy
      have h0 : ((0 : Nat) : Int) = 0 := rfl
      rw [h0] at hy
      rw [range_run _ 0 _ j u hu.1 hu.2 (by omega) (by omega) hy]
      simp [isNoneE, lastC, inat]
  · rw [if_neg hu, walk_unit s n u hu]
    simp [neq_nil, told_err]

/-! ### The last line that begins no later -/

def lastGo (at' : Int) : List Nat → Nat → Nat → Nat
  | [], _, n => n
  | x :: t, i, n => lastGo at' t (i + 1) (if (x : Int) ≤ at' then i else n)
def lastI (at' : Int) (l : List Nat) : Nat := lastGo at' l 0 0

theorem last_run (at' : Int) (l : List Nat) (hl : l.length ≤ 1000000) (f : Bool) : lendO B0 .cl true 23 [.int .i64 at', .sl 1 (ints l) f] = some (inat (lastI at' l)) := by
  have hok : okVL [.int .i64 at', .sl 1 (ints l) f] = true := by
    have : okVL (ints l) = true := okVL_iff.2 fun x hx => by
      obtain ⟨n, _, rfl⟩ := List.mem_map.1 hx
      rfl
    simp [okVL, okV, this]
  refine lend_of_run (cfg_ok fun _ => .cl) (g := 23) (fn := fn23) rfl hok (Nat.le_of_ble_eq_true rfl) ?_ rfl
  rw [List.map_cons, List.map_cons, List.map_nil, run23]
  simp only [pure_lenl, bindO_val, ints_len]
  have hu0 : noUndef [.int .i64 at', .int .i64 0, .sl 1 (ints l) f, .int .i64 (l.length : Int), .int .i64 0] = true := rfl
  rw [hu0, chkO_true]
  refine loop_ind (fun s r => ∃ i n : Nat, s = ([.int .i64 at', inat n, .sl 1 (ints l) f, .int .i64 (l.length : Int), inat i], ()) ∧ r = (inat (lastGo at' (l.drop i) i n), ()) ∧ i ≤ l.length)
    (fun s => l.length - natP (nth s.1 4)) ?_ ⟨0, 0, rfl, rfl, by omega⟩
  rintro s r ⟨i, n, rfl, rfl, hi⟩
  simp only [nth_0, nth_1, nth_2, nth_3, nth_4, inat, pure_lss, bindO_val, iteP_bool, natP_int, Int.toNat_natCast]
  by_cases hlt : i < l.length
  · right
    have hlt' : (i : Int) < (l.length : Int) := by omega
    have hg : (ints l)[i]? = some (.int .i64 ((l[i] : Nat) : Int)) := by simp [ints, hlt, inat]
    have hw : IntKind.i64.wrap ((i : Int) + 1) = ((i + 1 : Nat) : Int) := by rw [w64 (by omega) (by omega)]; omega
    simp only [hlt', decide_true, if_true]
    rw [pure_lidx (by omega) hg]
    simp only [bindO_val, cells_int, pure_load, sel_one, pure_leq, iteP_bool, pure_add, hw]
    have hd : l.drop i = l[i] :: l.drop (i + 1) := List.drop_eq_getElem_cons hlt
    rw [hd]
    simp only [lastGo]
    by_cases hc : ((l[i] : Nat) : Int) ≤ at'
    · refine ⟨_, by simp only [hc, decide_true, if_true], ⟨i + 1, i, rfl, by simp only [hc, if_true], by omega⟩, by simp only [nth_4, natP_int, Int.toNat_natCast]; omega⟩
    · refine ⟨_, by simp only [hc, decide_false, Bool.false_eq_true, if_false], ⟨i + 1, n, rfl, by simp only [hc, if_false], by omega⟩, by simp only [nth_4, natP_int, Int.toNat_natCast]; omega⟩
  · left
    have hlt' : ¬ ((i : Int) < (l.length : Int)) := by omega
    have hd : l.drop i = [] := List.drop_eq_nil_of_le (by omega)
    simp [hlt', hd, lastGo]

theorem lastGo_spec (at' : Int) : ∀ (l : List Nat) (i n : Nat), (lastGo at' l i n = n ∧ ∀ x ∈ l, at' < (x : Int)) ∨ ∃ (k x : Nat), l[k]? = some x ∧ (x : Int) ≤ at' ∧ lastGo at' l i n = i + k ∧ ∀ m y, k < m → l[m]? = some y → at' < (y : Int) := by
  intro l
  induction l with
  | nil => intro i n; left; simp [lastGo]
  | cons a t ih =>
    intro i n
    simp only [lastGo]
    rcases ih (i + 1) (if (a : Int) ≤ at' then i else n) with ⟨h1, h2⟩ | ⟨k, x, h1, h2, h3, h4⟩
    · by_cases hc : (a : Int) ≤ at'
      · right
        refine ⟨0, a, rfl, hc, by rw [h1, if_pos hc]; rfl, fun m y hm hy => ?_⟩
        obtain ⟨m, rfl⟩ : ∃ m', m = m' + 1 := ⟨m - 1, by omega⟩
        exact h2 y (List.mem_of_getElem? (by simpa using hy))
      · left
        refine ⟨by rw [h1, if_neg hc], fun x hx => ?_⟩
        rcases List.mem_cons.1 hx with rfl | hx
        · omega
        · exact h2 x hx
    · right
      refine ⟨k + 1, x, by simpa using h1, h2, by rw [h3]; omega, fun m y hm hy => ?_⟩
      obtain ⟨m, rfl⟩ : ∃ m', m = m' + 1 := ⟨m - 1, by omega⟩
      exact h4 m y (by omega) (by simpa using hy)

theorem lastI_lt (s : List UInt8) (at' : Int) : ∃ j, (linesL s)[lastI at' (linesL s)]? = some j ∧ ((0 ≤ at' → (j : Int) ≤ at') ∧ ∀ m y, lastI at' (linesL s) < m → (linesL s)[m]? = some y → at' < (y : Int)) := by
  unfold lastI
  rcases lastGo_spec at' (linesL s) 0 0 with ⟨h1, h2⟩ | ⟨k, x, h1, h2, h3, h4⟩
  · rw [h1]
    refine ⟨0, rfl, fun h => by have := h2 0 (by simp [linesL]); omega, fun m y _ hy => h2 y (List.mem_of_getElem? hy)⟩
  · rw [h3, Nat.zero_add]
    exact ⟨x, h1, fun _ => h2, fun m y hm hy => h4 m y (by omega) hy⟩

/-! ### At, Offset -/

def atV (s : List UInt8) (at' u : Int) : PV :=
  if isU u then
    match (linesL s)[lastI at' (linesL s)]? with
    | some j => match (cols u (line1 (s.drop j))).find? fun p => (((j + p.1 : Nat) : Int) == at') with
      | some p => .tup [inat (lastI at' (linesL s)), inat p.2, .int .i64 0]
      | none => .tup [.int .i64 0, .int .i64 0, .int .i64 20]
    | none => .undef
  else .tup [.int .i64 0, .int .i64 0, .int .i64 2]

def offV (s : List UInt8) (n col u : Int) : PV :=
  if isU u then
    match lineAt s n with
    | some (j, t) => match (cols u t).find? fun p => ((p.2 : Int) == col) with
      | some p => .tup [inat (j + p.1), .int .i64 0]
      | none => .tup [.int .i64 0, .int .i64 20]
    | none => .tup [.int .i64 0, .int .i64 20]
  else .tup [.int .i64 0, .int .i64 2]

theorem selO_int (n : Int) : selO (.int .i64 n) 0 1 false = some (.int .i64 n) := rfl

theorem at_loop {E : Type} (h : Handler E) (dep j : Nat) (at' : Int) (a : PV) (k : Nat) (e : E) : ∀ (l : List (Nat × Nat)),
    yieldAll (onRound dep h (fun z10 => fun z11 => fun z12 => chkO (okArgs z11 2) (bindO (selO (nth z10 1) 0 1 false) (fun z13 => bindO (pureO (.bin .eql .num false (.c (nth z11
    0)) (.c z13))) (fun z14 => iteP z14 (chkO (okCells (nth z10 5) 1) (chkO (okCells (nth z11 1) 1) (chkO (okCells (.int .i64 0) 1) (some (false, ([nth z10 0, nth z10 1, cellP (nth z10
    5) 0, cellP (nth z11 1) 0, cellP (.int .i64 0) 0, nth z10 5], (some .ret, z12))))))) (some (true, ([nth z10 0, nth z10 1, nth z10 2, nth z10 3, nth z10 4, nth z10 5], (none,
    z12))))))))) dep (pairs j l) ([a, .int .i64 at', .int .i64 0, .int .i64 0, .int .i64 0, inat k], none, e) =
      some (match l.find? fun p => (((j + p.1 : Nat) : Int) == at') with
        | some p => ([a, .int .i64 at', inat k, inat p.2, .int .i64 0, inat k], some .ret, e)
        | none => ([a, .int .i64 at', .int .i64 0, .int .i64 0, .int .i64 0, inat k], none, e)) := by
  intro l
  induction l with
  | nil => rfl
  | cons p l ih =>
    simp only [pairs, List.map_cons, yieldAll, onRound, if_true, okArgs2, chkO_true, nth_1, nth_0, nth_2, nth_3, nth_4, nth_5, List.find?_cons, selO_int, bindO_val]
    unfold inat at ih ⊢
    simp only [okC, chkO_true, cellI, pure_eql, bindO_val, iteP_bool]
    by_cases hc : (((j + p.1 : Nat) : Int) == at') = true
    · simp only [hc, if_true]
    · have hc' : (((j + p.1 : Nat) : Int) == at') = false := by simpa using hc
      simp only [hc', Bool.false_eq_true, if_false]
      simp only [pairs, onRound, okC, chkO_true, cellI] at ih
      exact ih

theorem off_loop {E : Type} (h : Handler E) (dep j : Nat) (col : Int) (a : PV) (e : E) : ∀ (l : List (Nat × Nat)),
    yieldAll (onRound dep h (fun z7 => fun z8 => fun z9 => chkO (okArgs z8 2) (bindO
    (selO (nth z7 1) 0 1 false) (fun z10 => bindO (pureO (.bin .eql .num false (.c (nth z8 1)) (.c z10))) (fun z11 => iteP z11 (chkO (okCells (nth z8 0) 1) (chkO (okCells (.int .i64 0)
    1) (some (false, ([nth z7 0, nth z7 1, cellP (nth z8 0) 0, cellP (.int .i64 0) 0], (some .ret, z9)))))) (some (true, ([nth z7 0, nth z7 1, nth z7 2, nth z7 3], (none, z9)))))))))
    dep (pairs j l) ([a, .int .i64 col, .int .i64 0, .int .i64 0], none, e) =
      some (match l.find? fun p => ((p.2 : Int) == col) with
        | some p => ([a, .int .i64 col, inat (j + p.1), .int .i64 0], some .ret, e)
        | none => ([a, .int .i64 col, .int .i64 0, .int .i64 0], none, e)) := by
  intro l
  induction l with
  | nil => rfl
  | cons p l ih =>
    simp only [pairs, List.map_cons, yieldAll, onRound, if_true, okArgs2, chkO_true, nth_1, nth_0, nth_2, nth_3, List.find?_cons, selO_int, bindO_val]
    unfold inat at ih ⊢
    simp only [okC, chkO_true, cellI, pure_eql, bindO_val, iteP_bool]
    by_cases hc : ((p.2 : Int) == col) = true
    · simp only [hc, if_true]
    · have hc' : ((p.2 : Int) == col) = false := by simpa using hc
      simp only [hc', Bool.false_eq_true, if_false]
      simp only [pairs, onRound, okC, chkO_true, cellI] at ih
      exact ih

theorem At_run (s : List UInt8) (hs : s.length ≤ 100000) (at' u : Int) : callO B0 .cl (.fn 12 []) [.str s, .int .i64 at', .int .i64 u] = some (atV s at' u) := by
  refine call (d := fun _ => .cl) rfl (by decide) rfl rfl ?_
  rw [List.map_cons, List.map_cons, List.map_cons, List.map_nil, run12]
  have hv : valO (.int .i64 at') = true := rfl
  have hll := linesL_len s
  simp only [hv, chkO_true, selO_int, bindO_val]
  rw [lines_run s (by omega)]
  have hsl : slO 1 1 (itemsP (.sl 1 (ints (linesL s)) false)) 0 (lenL (itemsP (.sl 1 (ints (linesL s)) false))) = .sl 1 (ints (linesL s)) false := by
    simp [slO]
  simp only [bindO_val, hsl]
  rw [last_run at' (linesL s) (by omega) false]
  unfold inat
  simp only [bindO_val, okC, chkO_true, cellI]
  unfold atV
  by_cases hu : isU u
  · rw [if_pos hu]
    obtain ⟨j, hj, _⟩ := lastI_lt s at'
    have hw := walk_ok s (by omega) _ j hj u hu.1 hu.2
    unfold inat at hw
    rw [hw, hj]
    simp only [bindO_val, pure_tup, List.getElem?_cons_zero, List.getElem?_cons_succ, neq_nil', iteP_bool, Bool.false_eq_true, if_false]
    rw [places_run _ j u hu.1 hu.2]
    simp only [bindO_val]
    obtain ⟨j', hj', hjs, _⟩ := linesL_at (List.getElem?_eq_some_iff.1 hj).1
    rw [hj] at hj'; cases hj'
    have ht := line1_le (s.drop j)
    simp only [List.length_drop] at ht
    have hy := at_loop noHandler 0 j at' (placesV (line1 (s.drop j)) j u) (lastI at' (linesL s)) () (cols u (line1 (s.drop j)))
    unfold inat at hy
    simp only [okC, chkO_true, cellI] at hy
    rw [range_run _ 0 _ j u hu.1 hu.2 (by omega) (by omega) hy]
    simp only [bindO_val]
    cases hfd : (cols u (line1 (s.drop j))).find? fun p => (((j + p.1 : Nat) : Int) == at') with
    | some p => simp [isNoneE, isRetE, inat]
    | none =>
      have hb : pureO (.build [.int .i64 0] [(0, (1, .c (.int .i64 20)))]) = some (.agg [.int .i64 20]) := rfl
      have := told_err 20
      unfold errV at this
      simp [isNoneE, hb, this, okC, cellI]
  · rw [if_neg hu, walk_unit s _ u hu]
    simp [neq_nil, told_err, okC, cellI]

theorem Offset_run (s : List UInt8) (hs : s.length ≤ 100000) (n col u : Int) : callO B0 .cl (.fn 14 []) [.str s, .int .i64 n, .int .i64 col, .int .i64 u] = some (offV s n col u) := by
  refine call (d := fun _ => .cl) rfl (by decide) rfl rfl ?_
  rw [List.map_cons, List.map_cons, List.map_cons, List.map_cons, List.map_nil, run14]
  have hv : valO (.int .i64 col) = true := rfl
  rw [hv, chkO_true]
  unfold offV
  by_cases hu : isU u
  · rw [if_pos hu]
    cases hl : lineAt s n with
    | none =>
      have hn := lineAt_none hl
      rw [walk_line s (by omega) n u hu.1 hu.2 hn]
      simp [neq_nil, told_err, okC, cellI]
    | some p =>
      obtain ⟨j, t⟩ := p
      obtain ⟨k, rfl, hk, rfl, hj, hjt⟩ := lineAt_some hl
      have hw := walk_ok s (by omega) k j hk u hu.1 hu.2
      unfold inat at hw
      rw [hw]
      simp only [bindO_val, pure_tup, List.getElem?_cons_zero, List.getElem?_cons_succ, neq_nil', iteP_bool, Bool.false_eq_true, if_false, okC, chkO_true, cellI]
      rw [places_run _ j u hu.1 hu.2]
      simp only [bindO_val]
      have hy := off_loop noHandler 0 j col (placesV (line1 (s.drop j)) j u) () (cols u (line1 (s.drop j)))
      simp only [okC, chkO_true, cellI] at hy
      rw [range_run _ 0 _ j u hu.1 hu.2 (by omega) (by omega) hy]
      simp only [bindO_val]
      cases hfd : (cols u (line1 (s.drop j))).find? fun p => ((p.2 : Int) == col) with
      | some p => simp [isNoneE, isRetE]
      | none =>
        have hb : pureO (.build [.int .i64 0] [(0, (1, .c (.int .i64 20)))]) = some (.agg [.int .i64 20]) := rfl
        have := told_err 20
        unfold errV at this
        simp [isNoneE, hb, this, okC, cellI]
  · rw [if_neg hu, walk_unit s n u hu]
    simp [neq_nil, told_err, okC, cellI]
end Go.Ab.Place

/-
  Place: the answer's Step.
-/
namespace Go.Ab.Place
open Go Go.Ab

/-- One round of the answer's Step. -/
def rdStep {E : Type} : List PV × E → Option (Sum (List PV × E) (PV × E)) :=
  fun y0 => bindO (pureO (.bin .lss .num false (.c (nth y0.1 4)) (.c (nth y0.1 1)))) (fun y1 => iteP y1 (bindO (bindO (pureO (.strIdx (.c (nth y0.1 0)) (.c (nth y0.1 4)))) (fun y2
  => bindO (pureO (.bin .lss .num true (.c y2) (.c (.int .u8 128)))) (fun y3 => iteP y3 (some (.bool true)) (bindO (pureO (.strIdx (.c (nth y0.1 0)) (.c (nth y0.1 4)))) (fun y4 =>
  bindO (pureO (.bin .gtr .num true (.c y4) (.c (.int .u8 191)))) (fun y5 => some y5)))))) (fun y6 => iteP y6 (bindO (some (.int .i64 1, y0.2)) (fun y7 => some (.inr y7))) (bindO
  (pureO (.bin .mul .num true (.c (.int .i64 64)) (.c (nth y0.1 3)))) (fun y8 => bindO (pureO (.strIdx (.c (nth y0.1 0)) (.c (nth y0.1 4)))) (fun y9 => bindO (pureO (.conv .i64 (.c
  y9))) (fun y10 => bindO (pureO (.bin .add .num false (.c y8) (.c y10))) (fun y11 => bindO (pureO (.bin .sub .num true (.c y11) (.c (.int .i64 128)))) (fun y12 => bindO (pureO
  (.bin .add .num true (.c (nth y0.1 4)) (.c (.int .i64 1)))) (fun y13 => some (.inl ([nth y0.1 0, nth y0.1 1, nth y0.1 2, y12, y13], y0.2))))))))))) (bindO (bindO (bindO (pureO
  (.bin .gtr .num true (.c (nth y0.1 1)) (.c (.int .i64 1)))) (fun y14 => iteP y14 (bindO (pureO (.bin .lss .num false (.c (nth y0.1 3)) (.c (nth y0.1 2)))) (fun y15 => iteP y15
  (some (.bool true)) (bindO (pureO (.bin .gtr .num true (.c (nth y0.1 3)) (.c (.int .i64 1114111)))) (fun y16 => iteP y16 (some (.bool true)) (bindO (pureO (.bin .geq .num true
  (.c (nth y0.1 3)) (.c (.int .i64 55296)))) (fun y17 => iteP y17 (bindO (pureO (.bin .leq .num true (.c (nth y0.1 3)) (.c (.int .i64 57343)))) (fun y18 => some y18)) (some (.bool
  false)))))))) (some (.bool false)))) (fun y19 => iteP y19 (some (.int .i64 1, y0.2)) (some (nth y0.1 1, y0.2)))) (fun y20 => some (.inr y20))))

theorem rdStep_eq {E : Type} : (
  fun y0 => bindO (pureO (.bin .lss .num false (.c (nth y0.1 4)) (.c (nth y0.1 1)))) (fun y1 => iteP y1 (bindO (bindO (pureO (.strIdx (.c (nth y0.1 0)) (.c (nth y0.1 4)))) (fun y2
  => bindO (pureO (.bin .lss .num true (.c y2) (.c (.int .u8 128)))) (fun y3 => iteP y3 (some (.bool true)) (bindO (pureO (.strIdx (.c (nth y0.1 0)) (.c (nth y0.1 4)))) (fun y4 =>
  bindO (pureO (.bin .gtr .num true (.c y4) (.c (.int .u8 191)))) (fun y5 => some y5)))))) (fun y6 => iteP y6 (bindO (some (.int .i64 1, y0.2)) (fun y7 => some (.inr y7))) (bindO
  (pureO (.bin .mul .num true (.c (.int .i64 64)) (.c (nth y0.1 3)))) (fun y8 => bindO (pureO (.strIdx (.c (nth y0.1 0)) (.c (nth y0.1 4)))) (fun y9 => bindO (pureO (.conv .i64 (.c
  y9))) (fun y10 => bindO (pureO (.bin .add .num false (.c y8) (.c y10))) (fun y11 => bindO (pureO (.bin .sub .num true (.c y11) (.c (.int .i64 128)))) (fun y12 => bindO (pureO
  (.bin .add .num true (.c (nth y0.1 4)) (.c (.int .i64 1)))) (fun y13 => some (.inl ([nth y0.1 0, nth y0.1 1, nth y0.1 2, y12, y13], y0.2))))))))))) (bindO (bindO (bindO (pureO
  (.bin .gtr .num true (.c (nth y0.1 1)) (.c (.int .i64 1)))) (fun y14 => iteP y14 (bindO (pureO (.bin .lss .num false (.c (nth y0.1 3)) (.c (nth y0.1 2)))) (fun y15 => iteP y15
  (some (.bool true)) (bindO (pureO (.bin .gtr .num true (.c (nth y0.1 3)) (.c (.int .i64 1114111)))) (fun y16 => iteP y16 (some (.bool true)) (bindO (pureO (.bin .geq .num true
  (.c (nth y0.1 3)) (.c (.int .i64 55296)))) (fun y17 => iteP y17 (bindO (pureO (.bin .leq .num true (.c (nth y0.1 3)) (.c (.int .i64 57343)))) (fun y18 => some y18)) (some (.bool
  false)))))))) (some (.bool false)))) (fun y19 => iteP y19 (some (.int .i64 1, y0.2)) (some (nth y0.1 1, y0.2)))) (fun y20 => some (.inr y20))))) = @rdStep E := rfl

def badV (l v : Int) : Bool := decide (v < l) || decide (1114111 < v) || (decide (55296 ≤ v) && decide (v ≤ 57343))

theorem rd_more {E : Type} (e : E) {s : List UInt8} {b : UInt8} {n l v : Int} {i : Nat} (hi : (i : Int) < n) (hb : s[i]? = some b) (hv : 0 ≤ v) (hv' : v ≤ 100000000) (hi' : i ≤ 10) :
    rdStep ([.str s, .int .i64 n, .int .i64 l, .int .i64 v, .int .i64 (i : Int)], e) = if b.toNat < 128 ∨ 191 < b.toNat then some (.inr (.int .i64 1, e)) else
      some (.inl ([.str s, .int .i64 n, .int .i64 l, .int .i64 (64 * v + b.toNat - 128), .int .i64 ((i + 1 : Nat) : Int)], e)) := by
  unfold rdStep
  have hbt := b.toNat_lt
  have w1 : IntKind.i64.wrap (64 * v) = 64 * v := w64 (by omega) (by omega)
  have w2 : IntKind.i64.wrap (b.toNat : Int) = b.toNat := w64 (by omega) (by omega)
  have w3 : IntKind.i64.wrap (64 * v + (b.toNat : Int)) = 64 * v + b.toNat := w64 (by omega) (by omega)
  have w4 : IntKind.i64.wrap (64 * v + (b.toNat : Int) - 128) = 64 * v + b.toNat - 128 := w64 (by omega) (by omega)
  have w5 : IntKind.i64.wrap ((i : Int) + 1) = ((i + 1 : Nat) : Int) := by rw [w64 (by omega) (by omega)]; omega
  simp only [nth_0, nth_1, nth_2, nth_3, nth_4, pure_lss, bindO_val, iteP_bool, hi, decide_true, if_true, pure_sidx hb, pure_gtr, pure_mul, pure_conv, pure_add, pure_sub, w1, w2, w3, w4, w5]
  by_cases h1 : b.toNat < 128
  · have h1' : (b.toNat : Int) < 128 := by omega
    simp [h1, h1']
  · have h1' : ¬ (b.toNat : Int) < 128 := by omega
    by_cases h2 : 191 < b.toNat
    · have h2' : (191 : Int) < b.toNat := by omega
      simp [h2, h1', h2']
    · have h2' : ¬ (191 : Int) < b.toNat := by omega
      simp [h1, h2, h1', h2']

theorem rd_last {E : Type} (e : E) {s : List UInt8} {n l v : Int} {i : Nat} (hi : n ≤ (i : Int)) :
    rdStep ([.str s, .int .i64 n, .int .i64 l, .int .i64 v, .int .i64 (i : Int)], e) = some (.inr ((if 1 < n ∧ badV l v = true then .int .i64 1 else .int .i64 n), e)) := by
  unfold rdStep badV
  have hi' : ¬ (i : Int) < n := by omega
  simp only [nth_0, nth_1, nth_2, nth_3, nth_4, pure_lss, bindO_val, iteP_bool, hi', decide_false, Bool.false_eq_true, if_false, pure_gtr, pure_geq, pure_leq]
  by_cases h1 : 1 < n <;> by_cases h2 : v < l <;> by_cases h3 : 1114111 < v <;> by_cases h4 : 55296 ≤ v <;> by_cases h5 : v ≤ 57343 <;> simp [h1, h2, h3, h4, h5]

/-- How many bytes the first rune has, in numbers. -/
def stepNN (n b0 b1 b2 b3 : Nat) : Nat :=
  if 194 ≤ b0 ∧ b0 < 224 then (if 1 < n ∧ 128 ≤ b1 ∧ b1 ≤ 191 then 2 else 1)
  else if 224 ≤ b0 ∧ b0 < 240 then (if 2 < n ∧ (128 ≤ b1 ∧ b1 ≤ 191) ∧ (128 ≤ b2 ∧ b2 ≤ 191) ∧ ¬ badV 2048 (64 * (64 * ((b0 : Int) - 224) + b1 - 128) + b2 - 128) = true then 3 else 1)
  else if 240 ≤ b0 ∧ b0 < 245 then (if 3 < n ∧ (128 ≤ b1 ∧ b1 ≤ 191) ∧ (128 ≤ b2 ∧ b2 ≤ 191) ∧ (128 ≤ b3 ∧ b3 ≤ 191) ∧ ¬ badV 65536 (64 * (64 * (64 * ((b0 : Int) - 240) + b1 - 128) + b2 - 128) + b3 - 128) = true then 4 else 1)
  else 1

theorem stepNN_eq (n b0 b1 b2 b3 : Nat) (h0 : b0 < 256) (h1 : b1 < 256) (h2 : b2 < 256) (h3 : b3 < 256) : (Lib.decodeN n b0 b1 b2 b3).2 = stepNN n b0 b1 b2 b3 := by
  unfold Lib.decodeN stepNN badV
  simp only [Bool.or_eq_true, Bool.and_eq_true, decide_eq_true_eq]
  repeat' split
  all_goals first | rfl | (exfalso; omega) | omega

theorem getB (s : List UInt8) (k : Nat) : (⟨s.toArray⟩ : ByteArray).get! k = s.getD k 0 := by
  show s.toArray.getD k default = _
  by_cases h : k < s.length
  · simp [Array.getD, List.getD, h]
  · simp [Array.getD, List.getD, h]; rfl

def stepN (s : List UInt8) : Nat := stepNN s.length (s.getD 0 0).toNat (s.getD 1 0).toNat (s.getD 2 0).toNat (s.getD 3 0).toNat

theorem stepU_eq {s : List UInt8} (hs : s ≠ []) : stepU s = stepN s := by
  have hsz : (⟨s.toArray⟩ : ByteArray).size = s.length := by simp [ByteArray.size]
  have hpos : 0 < s.length := List.length_pos_iff.2 hs
  unfold stepU Lib.decodeGo
  rw [if_neg (by omega), Lib.decode_at, hsz]
  simp only [Nat.zero_add, getB, Nat.sub_zero]
  exact stepNN_eq _ _ _ _ _ (s.getD 0 0).toNat_lt (s.getD 1 0).toNat_lt (s.getD 2 0).toNat_lt (s.getD 3 0).toNat_lt

theorem rd1 {E : Type} (e : E) (s : List UInt8) (v : Int) : loopL rdStep ([.str s, .int .i64 1, .int .i64 0, .int .i64 v, .int .i64 1], e) = some (.int .i64 1, e) :=
  loopL_inr (by rw [show (PV.int .i64 1) = .int .i64 ((1 : Nat) : Int) from rfl, rd_last e (n := ((1 : Nat) : Int)) (by omega)]; simp)

theorem getD_some {s : List UInt8} {k : Nat} (h : k < s.length) : s[k]? = some (s.getD k 0) := by simp [List.getD, h]

theorem rd_go {E : Type} (e : E) {s : List UInt8} {n l v : Int} {i : Nat} (hi : (i : Int) < n) (hs : i < s.length) (hv : 0 ≤ v) (hv' : v ≤ 100000000) (hi' : i ≤ 10) :
    loopL rdStep ([.str s, .int .i64 n, .int .i64 l, .int .i64 v, .int .i64 (i : Int)], e) = if (s.getD i 0).toNat < 128 ∨ 191 < (s.getD i 0).toNat then some (.int .i64 1, e) else
      loopL rdStep ([.str s, .int .i64 n, .int .i64 l, .int .i64 (64 * v + (s.getD i 0).toNat - 128), .int .i64 ((i + 1 : Nat) : Int)], e) := by
  have h := rd_more e (l := l) hi (getD_some hs) hv hv' hi'
  by_cases hc : (s.getD i 0).toNat < 128 ∨ 191 < (s.getD i 0).toNat
  · rw [if_pos hc] at h ⊢; exact loopL_inr h
  · rw [if_neg hc] at h ⊢; exact loopL_inl h

theorem rd_end {E : Type} (e : E) {s : List UInt8} {n l v : Int} {i : Nat} (hi : n ≤ (i : Int)) :
    loopL rdStep ([.str s, .int .i64 n, .int .i64 l, .int .i64 v, .int .i64 (i : Int)], e) = some ((if 1 < n ∧ badV l v = true then .int .i64 1 else .int .i64 n), e) := loopL_inr (rd_last e hi)

theorem rd2 {E : Type} (e : E) {s : List UInt8} {l v : Int} (hs : 2 ≤ s.length) (hv : 0 ≤ v) (hv' : v < 64) :
    loopL rdStep ([.str s, .int .i64 2, .int .i64 l, .int .i64 v, .int .i64 1], e) = some (.int .i64 (if (128 ≤ (s.getD 1 0).toNat ∧ (s.getD 1 0).toNat ≤ 191) ∧ ¬ badV l (64 * v + (s.getD 1 0).toNat - 128) = true then 2 else 1), e) := by
  rw [show (PV.int .i64 1) = .int .i64 ((1 : Nat) : Int) from rfl, rd_go e (by decide) (by omega) hv (by omega) (by omega)]
  have h1 := (s.getD 1 0).toNat_lt
  generalize (s.getD 1 0).toNat = b1 at *
  by_cases c1 : b1 < 128 ∨ 191 < b1
  · rw [if_pos c1, if_neg (by omega)]
  · rw [if_neg c1, rd_end e (by decide)]
    by_cases c : badV l (64 * v + b1 - 128) = true
    · rw [if_pos ⟨by decide, c⟩, if_neg (fun h => h.2 c)]
    · rw [if_neg (fun h => c h.2), if_pos ⟨by omega, c⟩]

theorem rd3 {E : Type} (e : E) {s : List UInt8} {l v : Int} (hs : 3 ≤ s.length) (hv : 0 ≤ v) (hv' : v < 64) :
    loopL rdStep ([.str s, .int .i64 3, .int .i64 l, .int .i64 v, .int .i64 1], e) = some (.int .i64 (if (128 ≤ (s.getD 1 0).toNat ∧ (s.getD 1 0).toNat ≤ 191) ∧ (128 ≤ (s.getD 2 0).toNat ∧ (s.getD 2 0).toNat ≤ 191) ∧
      ¬ badV l (64 * (64 * v + (s.getD 1 0).toNat - 128) + (s.getD 2 0).toNat - 128) = true then 3 else 1), e) := by
  have h1 := (s.getD 1 0).toNat_lt
  have h2 := (s.getD 2 0).toNat_lt
  rw [show (PV.int .i64 1) = .int .i64 ((1 : Nat) : Int) from rfl, rd_go e (by decide) (by omega) hv (by omega) (by omega)]
  by_cases c1 : (s.getD 1 0).toNat < 128 ∨ 191 < (s.getD 1 0).toNat
  · rw [if_pos c1, if_neg (by omega)]
  rw [if_neg c1, rd_go e (by decide) (by omega) (by omega) (by omega) (by omega)]
  generalize (s.getD 1 0).toNat = b1 at *
  by_cases c2 : (s.getD 2 0).toNat < 128 ∨ 191 < (s.getD 2 0).toNat
  · rw [if_pos c2, if_neg (by omega)]
  rw [if_neg c2, rd_end e (by decide)]
  generalize (s.getD 2 0).toNat = b2 at *
  by_cases c : badV l (64 * (64 * v + b1 - 128) + b2 - 128) = true
  · rw [if_pos ⟨by decide, c⟩, if_neg (fun h => h.2.2 c)]
  · rw [if_neg (fun h => c h.2), if_pos ⟨by omega, by omega, c⟩]

theorem rd4 {E : Type} (e : E) {s : List UInt8} {l v : Int} (hs : 4 ≤ s.length) (hv : 0 ≤ v) (hv' : v < 64) :
    loopL rdStep ([.str s, .int .i64 4, .int .i64 l, .int .i64 v, .int .i64 1], e) = some (.int .i64 (if (128 ≤ (s.getD 1 0).toNat ∧ (s.getD 1 0).toNat ≤ 191) ∧ (128 ≤ (s.getD 2 0).toNat ∧ (s.getD 2 0).toNat ≤ 191) ∧ (128 ≤ (s.getD 3 0).toNat ∧ (s.getD 3 0).toNat ≤ 191) ∧
      ¬ badV l (64 * (64 * (64 * v + (s.getD 1 0).toNat - 128) + (s.getD 2 0).toNat - 128) + (s.getD 3 0).toNat - 128) = true then 4 else 1), e) := by
  have h1 := (s.getD 1 0).toNat_lt
  have h2 := (s.getD 2 0).toNat_lt
  have h3 := (s.getD 3 0).toNat_lt
  rw [show (PV.int .i64 1) = .int .i64 ((1 : Nat) : Int) from rfl, rd_go e (by decide) (by omega) hv (by omega) (by omega)]
  by_cases c1 : (s.getD 1 0).toNat < 128 ∨ 191 < (s.getD 1 0).toNat
  · rw [if_pos c1, if_neg (by omega)]
  rw [if_neg c1, show (1 + 1 : Nat) = 2 from rfl, rd_go e (by decide) (by omega) (by omega) (by omega) (by omega)]
  generalize (s.getD 1 0).toNat = b1 at *
  by_cases c2 : (s.getD 2 0).toNat < 128 ∨ 191 < (s.getD 2 0).toNat
  · rw [if_pos c2, if_neg (by omega)]
  rw [if_neg c2, show (2 + 1 : Nat) = 3 from rfl, rd_go e (by decide) (by omega) (by omega) (by omega) (by omega)]
  generalize (s.getD 2 0).toNat = b2 at *
  by_cases c3 : (s.getD 3 0).toNat < 128 ∨ 191 < (s.getD 3 0).toNat
  · rw [if_pos c3, if_neg (by omega)]
  rw [if_neg c3, rd_end e (by decide)]
  generalize (s.getD 3 0).toNat = b3 at *
  by_cases c : badV l (64 * (64 * (64 * v + b1 - 128) + b2 - 128) + b3 - 128) = true
  · rw [if_pos ⟨by decide, c⟩, if_neg (fun h => h.2.2.2 c)]
  · rw [if_neg (fun h => c h.2), if_pos ⟨by omega, by omega, by omega, c⟩]

theorem Step_run (s : List UInt8) (hs : s.length ≤ 1000000) : callO B0 .cl (.fn 33 []) [.str s] = some (inat (stepU s)) := by
  refine call (d := fun _ => .cl) rfl (by decide) rfl rfl ?_
  rw [List.map_cons, List.map_nil, run33]
  rw [@rdStep_eq Unit]
  cases s with
  | nil => rfl
  | cons b t =>
    rw [stepU_eq (by simp)]
    have hx : pureO (.strIdx (.c (.str (b :: t))) (.c (.int .i64 0))) = some (.int .u8 (b.toNat : Int)) := pure_sidx (j := 0) rfl
    have hbt := b.toNat_lt
    have hg : ((b :: t).getD 0 0) = b := rfl
    generalize hS : b :: t = S at *
    have hne : (S == []) = false := by subst hS; rfl
    have hpos : 0 < S.length := by subst hS; simp
    have w2 : IntKind.i64.wrap (b.toNat : Int) = b.toNat := w64 (by omega) (by omega)
    have nu : ∀ a b c : Int, noUndef [.str S, .int .i64 a, .int .i64 b, .int .i64 c, .int .i64 1] = true := fun _ _ _ => rfl
    unfold stepN stepNN inat
    rw [hg]
    simp only [pure_eqs, hne, bindO_val, iteP_bool, Bool.false_eq_true, if_false, hx, pure_conv, w2, pure_geq, pure_lss, pure_sub, pure_lens, pure_gtr, nu, chkO_true]
    by_cases c1 : 194 ≤ b.toNat ∧ b.toNat < 224
    · have a1 : (194 : Int) ≤ b.toNat := by omega
      have a2 : (b.toNat : Int) < 224 := by omega
      have a3 : ¬ (224 : Int) ≤ b.toNat := by omega
      have a4 : ¬ (240 : Int) ≤ b.toNat := by omega
      have ws : IntKind.i64.wrap ((b.toNat : Int) - 192) = b.toNat - 192 := w64 (by omega) (by omega)
      simp only [a1, a2, a3, a4, decide_true, decide_false, if_true, Bool.false_eq_true, if_false, bindO_val, iteP_bool, ws, nu, chkO_true, c1, and_self]
      by_cases hl : 2 ≤ S.length
      · rw [if_neg (by simp; omega), rd2 () hl (by omega) (by omega)]
        congr 3
        generalize (S.getD 1 0).toNat = b1 at *
        by_cases h1 : 128 ≤ b1 ∧ b1 ≤ 191
        · have hb : badV 128 (64 * ((b.toNat : Int) - 192) + b1 - 128) = false := by
            unfold badV
            simp only [Bool.or_eq_false_iff, Bool.and_eq_false_iff, decide_eq_false_iff_not]
            omega
          rw [if_pos ⟨h1, by rw [hb]; decide⟩, if_pos ⟨by omega, h1⟩]; rfl
        · rw [if_neg (fun h => h1 h.1), if_neg (fun h => h1 h.2)]; rfl
      · rw [if_pos (by simp; omega), if_neg (by omega)]; rfl
    · by_cases c2 : 224 ≤ b.toNat ∧ b.toNat < 240
      · have a1 : (194 : Int) ≤ b.toNat := by omega
        have a2 : ¬ (b.toNat : Int) < 224 := by omega
        have a3 : (224 : Int) ≤ b.toNat := by omega
        have a5 : (b.toNat : Int) < 240 := by omega
        have a4 : ¬ (240 : Int) ≤ b.toNat := by omega
        have ws : IntKind.i64.wrap ((b.toNat : Int) - 224) = b.toNat - 224 := w64 (by omega) (by omega)
        simp only [a1, a2, a3, a4, a5, decide_true, decide_false, if_true, Bool.false_eq_true, if_false, bindO_val, iteP_bool, ws, nu, chkO_true, c1, c2, and_self]
        by_cases hl : 3 ≤ S.length
        · rw [if_neg (by simp; omega), rd3 () hl (by omega) (by omega)]
          congr 3
          by_cases h : (128 ≤ (S.getD 1 0).toNat ∧ (S.getD 1 0).toNat ≤ 191) ∧ (128 ≤ (S.getD 2 0).toNat ∧ (S.getD 2 0).toNat ≤ 191) ∧ ¬ badV 2048 (64 * (64 * ((b.toNat : Int) - 224) + (S.getD 1 0).toNat - 128) + (S.getD 2 0).toNat - 128) = true
          · rw [if_pos h, if_pos ⟨by omega, h⟩]; rfl
          · rw [if_neg h, if_neg (fun h' => h h'.2)]; rfl
        · rw [if_pos (by simp; omega), if_neg (by omega)]; rfl
      · by_cases c3 : 240 ≤ b.toNat ∧ b.toNat < 245
        · have a1 : (194 : Int) ≤ b.toNat := by omega
          have a2 : ¬ (b.toNat : Int) < 224 := by omega
          have a3 : (224 : Int) ≤ b.toNat := by omega
          have a5 : ¬ (b.toNat : Int) < 240 := by omega
          have a4 : (240 : Int) ≤ b.toNat := by omega
          have a6 : (b.toNat : Int) < 245 := by omega
          have ws : IntKind.i64.wrap ((b.toNat : Int) - 240) = b.toNat - 240 := w64 (by omega) (by omega)
          simp only [a1, a2, a3, a4, a5, a6, decide_true, decide_false, if_true, Bool.false_eq_true, if_false, bindO_val, iteP_bool, ws, nu, chkO_true, c1, c2, c3, and_self]
          by_cases hl : 4 ≤ S.length
          · rw [if_neg (by simp; omega), rd4 () hl (by omega) (by omega)]
            congr 3
            by_cases h : (128 ≤ (S.getD 1 0).toNat ∧ (S.getD 1 0).toNat ≤ 191) ∧ (128 ≤ (S.getD 2 0).toNat ∧ (S.getD 2 0).toNat ≤ 191) ∧ (128 ≤ (S.getD 3 0).toNat ∧ (S.getD 3 0).toNat ≤ 191) ∧ ¬ badV 65536 (64 * (64 * (64 * ((b.toNat : Int) - 240) + (S.getD 1 0).toNat - 128) + (S.getD 2 0).toNat - 128) + (S.getD 3 0).toNat - 128) = true
            · rw [if_pos h, if_pos ⟨by omega, h⟩]; rfl
            · rw [if_neg h, if_neg (fun h' => h h'.2)]; rfl
          · rw [if_pos (by simp; omega), if_neg (by omega)]; rfl
        · have nl : ¬ (1 : Int) > S.length := by omega
          simp only [c1, c2, c3, if_false]
          have fin := rd1 () S (b.toNat : Int)
          by_cases a1 : (194 : Int) ≤ b.toNat
          · have a2 : ¬ (b.toNat : Int) < 224 := by omega
            have a3 : (224 : Int) ≤ b.toNat := by omega
            have a5 : ¬ (b.toNat : Int) < 240 := by omega
            have a4 : (240 : Int) ≤ b.toNat := by omega
            have a6 : ¬ (b.toNat : Int) < 245 := by omega
            simp only [a1, a2, a3, a4, a5, a6, decide_true, decide_false, if_true, Bool.false_eq_true, if_false, bindO_val, iteP_bool, nu, chkO_true]
            rw [if_neg (by simp; omega)]; exact fin
          · have a3 : ¬ (224 : Int) ≤ b.toNat := by omega
            have a4 : ¬ (240 : Int) ≤ b.toNat := by omega
            simp only [a1, a3, a4, decide_true, decide_false, if_true, Bool.false_eq_true, if_false, bindO_val, iteP_bool, nu, chkO_true]
            rw [if_neg (by simp; omega)]; exact fin
end Go.Ab.Place

/-
  Place: the answer's columns.
-/
namespace Go.Ab.Place
open Go Go.Ab

def fsts (l : List (Nat × Nat)) : PV := .sl 1 (ints (l.map (·.1))) false
def snds (l : List (Nat × Nat)) : PV := .sl 1 (ints (l.map (·.2))) false

theorem take_next {l : List (Nat × Nat)} {k : Nat} {q : Nat × Nat} (h : l[k + 1]? = some q) (f : Nat × Nat → Nat) : ints ((l.take (k + 1 + 1)).map f) = ints ((l.take (k + 1)).map f) ++ [inat (f q)] := by
  rw [List.take_add_one, h]; simp [ints]

theorem take_len {l : List (Nat × Nat)} {k : Nat} {q : Nat × Nat} (h : l[k]? = some q) (f : Nat × Nat → Nat) : (ints ((l.take (k + 1)).map f)).length = k + 1 := by
  have := (List.getElem?_eq_some_iff.1 h).1
  simp [ints]; omega

theorem take_last {l : List (Nat × Nat)} {k : Nat} {q : Nat × Nat} (h : l[k]? = some q) (f : Nat × Nat → Nat) : (ints ((l.take (k + 1)).map f))[k]? = some (inat (f q)) := by
  simp [ints, h]

theorem columns_run (t : List UInt8) (ht : t.length ≤ 100000) (u : Int) : callO B0 (.tup [.own 1, .own 1]) (.fn 28 []) [.str t, .int .i64 u] = some (.tup [fsts (cols u t), snds (cols u t)]) := by
  refine call (d := fun _ => .cl) rfl (by decide) rfl rfl ?_
  rw [List.map_cons, List.map_cons, List.map_nil, run28]
  have h0 : okSls 1 [.int .i64 0] = true := rfl
  have hu0 : noUndef [.str t, .int .i64 u, nI (lenL [PV.int .i64 0]), nI (lenL [PV.int .i64 0]), .int .i64 0] = true := rfl
  rw [h0, hu0, chkO_true, chkO_true, chkO_true]
  refine loop_ind (fun s r => ∃ k x y : Nat, (cols u t)[k]? = some (x, y) ∧ s = ([.str t, .int .i64 u, inat (k + 1), inat (k + 1), inat x, .sl 1 (ints (((cols u t).take (k + 1)).map (·.1))) false, .sl 1 (ints (((cols u t).take (k + 1)).map (·.2))) false], ()) ∧ r = (.tup [fsts (cols u t), snds (cols u t)], ()))
    (fun s => t.length - natP (nth s.1 4)) ?_ ⟨0, 0, 0, cols_zero u t, ?_, rfl⟩
  · rintro s r ⟨k, x, y, hk, rfl, rfl⟩
    obtain ⟨hx, hy, hn⟩ := cols_next hk
    have hkl := (List.getElem?_eq_some_iff.1 hk).1
    have hcl := cols_len u t
    have e1 := take_len hk (·.1)
    have e2 := take_len hk (·.2)
    have e3 := take_last hk (·.2)
    generalize hA : ints (((cols u t).take (k + 1)).map (·.1)) = A at *
    generalize hC : ints (((cols u t).take (k + 1)).map (·.2)) = C at *
    simp only [nth_0, nth_1, nth_2, nth_3, nth_4, nth_5, nth_6, inat, pure_lens, bindO_val, pure_lss, iteP_bool, natP_int, Int.toNat_natCast]
    by_cases hlt : x < t.length
    · right
      have hlt' : (x : Int) < (t.length : Int) := by omega
      have hne : t.drop x ≠ [] := by simp; omega
      have hb := stepU_bd hne
      have hd : (t.drop x).length = t.length - x := by simp
      rw [if_neg (by omega)] at hn
      simp only [hlt', decide_true, if_true]
      rw [pure_ssl1 (by omega)]
      simp only [bindO_val]
      rw [Step_run _ (by omega)]
      have hel : elemO C (0 + k) 0 1 false = some (.int .i64 (y : Int)) := by
        unfold elemO; rw [Nat.zero_add, e3]; rfl
      have wk : IntKind.i64.wrap (((k + 1 : Nat) : Int) - 1) = (k : Int) := by rw [w64 (by omega) (by omega)]; omega
      have hok : ∀ n : Int, okSls 1 [.int .i64 n] = true := fun _ => rfl
      have hsz := sizeU_le (stU_bd (u := u) hne).1 u
      by_cases h1 : u = 1
      · subst h1
        have hst : stU 1 (t.drop x) = 1 := rfl
        rw [hst] at hn hsz
        have wx : IntKind.i64.wrap ((x : Int) + 1) = ((x + 1 : Nat) : Int) := by rw [w64 (by omega) (by omega)]; omega
        have wy : IntKind.i64.wrap ((y : Int) + (sizeU 1 1 : Nat)) = ((y + sizeU 1 1 : Nat) : Int) := by rw [w64 (by omega) (by omega)]; omega
        have hs := size_run 1 1
        unfold inat at hs
        have hs' : callO B0 .cl (.fn 34 []) [.int .i64 1, .int .i64 1] = some (.int .i64 ((sizeU 1 1 : Nat) : Int)) := hs
        refine ⟨_, by
          simp only [inat, bindO_val, pure_eql, beq_self_eq_true, iteP_bool, if_true, pure_add, wx, hok, chkO_true, lenL_eq, List.length_singleton, addN_eq, Nat.zero_add, leN_eq, itemsP_sl, e1, e2, andB_eq, Int.toNat_natCast, nI_eq, pure_sub, wk, natO_int, ltN_eq]
          rw [Nat.zero_add] at hel
          simp only [hel, hs', wy, bindO_val, chkO_true, Nat.lt_succ_self, decide_true, Nat.le_refl, Bool.true_and, pure_add, hok, lenL_eq, List.length_singleton, takeL_eq, dropL_eq, List.drop_zero, List.take_length, catL_eq]
          have l1 : k + 1 + 1 ≤ 2147483648 := by omega
          rw [take_next hn (·.1), take_next hn (·.2), hA, hC]
          simp only [List.take_succ_cons, List.take_zero, List.length_singleton, l1, decide_true, chkO_true, List.take_of_length_le (Nat.le_of_eq e1), List.take_of_length_le (Nat.le_of_eq e2), inat], ⟨k + 1, x + 1, y + sizeU 1 1, hn, rfl, trivial⟩, ?_⟩
        simp only [nth_4, natP_int, Int.toNat_natCast, inat]; omega
      · have h1' : ¬ (u == 1) = true := by simpa using h1
        have hst : stU u (t.drop x) = stepU (t.drop x) := by unfold stU; rw [if_neg h1]
        rw [hst] at hn hsz
        generalize hm : stepU (t.drop x) = m at *
        have wx : IntKind.i64.wrap ((x : Int) + m) = ((x + m : Nat) : Int) := by rw [w64 (by omega) (by omega)]; omega
        have wy : IntKind.i64.wrap ((y : Int) + (sizeU m u : Nat)) = ((y + sizeU m u : Nat) : Int) := by rw [w64 (by omega) (by omega)]; omega
        have hs := size_run m u
        unfold inat at hs
        refine ⟨_, by
          simp only [inat, bindO_val, pure_eql, h1', Bool.false_eq_true, iteP_bool, if_false, pure_add, wx, hok, chkO_true, lenL_eq, List.length_singleton, addN_eq, Nat.zero_add, leN_eq, itemsP_sl, e1, e2, andB_eq, Int.toNat_natCast, nI_eq, pure_sub, wk, natO_int, ltN_eq]
          rw [Nat.zero_add] at hel
          simp only [hel, hs, wy, bindO_val, chkO_true, Nat.lt_succ_self, decide_true, Nat.le_refl, Bool.true_and, pure_add, hok, lenL_eq, List.length_singleton, takeL_eq, dropL_eq, List.drop_zero, List.take_length, catL_eq]
          have l1 : k + 1 + 1 ≤ 2147483648 := by omega
          rw [take_next hn (·.1), take_next hn (·.2), hA, hC]
          simp only [List.take_succ_cons, List.take_zero, List.length_singleton, l1, decide_true, chkO_true, List.take_of_length_le (Nat.le_of_eq e1), List.take_of_length_le (Nat.le_of_eq e2), inat], ⟨k + 1, x + m, y + sizeU m u, hn, rfl, trivial⟩, ?_⟩
        simp only [nth_4, natP_int, Int.toNat_natCast, inat]; omega
    · left
      have hlt' : ¬ (x : Int) < (t.length : Int) := by omega
      rw [if_pos (by omega)] at hn
      have hall : (cols u t).take (k + 1) = cols u t := List.take_of_length_le (List.getElem?_eq_none_iff.1 hn)
      simp only [hlt', decide_false, Bool.false_eq_true, if_false, itemsP_sl, lenL_eq, e1, e2, eqN_eq, decide_true, chkO_true, bindO_val]
      rw [← hA, ← hC, hall]; rfl
  · rw [show (cols u t).take (0 + 1) = [(0, 0)] by
      have := cols_zero u t
      cases h : cols u t with
      | nil => rw [h] at this; cases this
      | cons a l => rw [h] at this; simp at this; subst this; rfl]
    rfl
end Go.Ab.Place

/-
  Place: the answer's Width, Offset, At, Ints.
-/
namespace Go.Ab.Place
open Go Go.Ab

theorem cols_ne (u : Int) (t : List UInt8) : 0 < (cols u t).length := (List.getElem?_eq_some_iff.1 (cols_zero u t)).1

theorem fsts_len (l : List (Nat × Nat)) : lenL (itemsP (fsts l)) = l.length := by simp [fsts, ints]
theorem snds_len (l : List (Nat × Nat)) : lenL (itemsP (snds l)) = l.length := by simp [snds, ints]
theorem fsts_el {l : List (Nat × Nat)} {k x y : Nat} (h : l[k]? = some (x, y)) : elemO (itemsP (fsts l)) k 0 1 false = some (.int .i64 (x : Int)) := by
  have : (ints (l.map (·.1)))[k]? = some (inat x) := by simp [ints, h]
  unfold elemO fsts; rw [itemsP_sl, this]; rfl
theorem snds_el {l : List (Nat × Nat)} {k x y : Nat} (h : l[k]? = some (x, y)) : elemO (itemsP (snds l)) k 0 1 false = some (.int .i64 (y : Int)) := by
  have : (ints (l.map (·.2)))[k]? = some (inat y) := by simp [ints, h]
  unfold elemO snds; rw [itemsP_sl, this]; rfl
theorem prj0 (a b : PV) : prjP (.tup [a, b]) 0 = a := rfl
theorem prj1 (a b : PV) : prjP (.tup [a, b]) 1 = b := rfl

theorem isU_iff (u : Int) : (decide (1 ≤ u) && decide (u ≤ 3)) = decide (isU u) := by
  unfold isU; by_cases h1 : 1 ≤ u <;> by_cases h2 : u ≤ 3 <;> simp [h1, h2]

theorem refWidth_run (s : List UInt8) (hs : s.length ≤ 100000) (n u : Int) : callO B0 .cl (.fn 20 []) [.str s, .int .i64 n, .int .i64 u] = some (widthV s n u) := by
  refine call (d := fun _ => .cl) rfl (by decide) rfl rfl ?_
  rw [List.map_cons, List.map_cons, List.map_cons, List.map_nil, run20, is_run, isU_iff]
  unfold widthV
  by_cases hu : isU u
  · simp only [if_pos hu, decide_true, bindO_val, pure_not, iteP_bool, Bool.not_true, Bool.false_eq_true, if_false, hu]
    cases hl : lineAt s n with
    | none =>
      have hn := lineAt_none hl
      rw [refLine_bad s (by omega) n hn]
      simp
    | some p =>
      obtain ⟨j, t⟩ := p
      obtain ⟨k, rfl, hk, rfl, hj, hjt⟩ := lineAt_some hl
      have hw := refLine_ok s (by omega) k j hk
      unfold inat at hw
      rw [hw]
      have hne := cols_ne u (line1 (s.drop j))
      have hcl := cols_len u (line1 (s.drop j))
      simp only [bindO_val, pure_tup, List.getElem?_cons_zero, List.getElem?_cons_succ, pure_neq, iteP_bool, bne_self_eq_false, Bool.false_eq_true, if_false]
      rw [columns_run _ (by omega)]
      have wl : IntKind.i64.wrap (((cols u (line1 (s.drop j))).length : Int) - 1) = (((cols u (line1 (s.drop j))).length - 1 : Nat) : Int) := by rw [w64 (by omega) (by omega)]; omega
      simp only [bindO_val, prj1, snds_len, nI_eq, pure_sub, wl, natO_int, ltN_eq, addN_eq, Nat.zero_add]
      generalize hL : cols u (line1 (s.drop j)) = L at *
      have hlt : L.length - 1 < L.length := by omega
      have hg : L[L.length - 1]? = some L[L.length - 1] := List.getElem?_eq_getElem hlt
      simp only [hlt, decide_true, chkO_true]
      rw [snds_el (x := L[L.length - 1].1) (y := L[L.length - 1].2) hg]
      simp only [bindO_val, lastC, List.getLast?_eq_getElem?, hg]
      rfl
  · simp [hu]

theorem Ints_run (a b : List Nat) (ha : a.length ≤ 1000000) (f g : Bool) : lendO B0 .cl true 21 [.sl 1 (ints a) f, .sl 1 (ints b) g] = some (.bool (a == b)) := by
  have hokl : ∀ l : List Nat, okVL (ints l) = true := fun l => okVL_iff.2 fun x hx => by
    obtain ⟨n, _, rfl⟩ := List.mem_map.1 hx
    rfl
  refine lend_of_run (cfg_ok fun _ => .cl) (g := 21) (fn := fn21) rfl (by simp [okVL, okV, hokl]) (Nat.le_of_ble_eq_true rfl) ?_ rfl
  rw [List.map_cons, List.map_cons, List.map_nil, run21]
  simp only [pure_lenl, bindO_val, ints_len, pure_neq, iteP_bool]
  by_cases hl : a.length = b.length
  · have hn : ((a.length : Int) != (b.length : Int)) = false := by simp [hl]
    have hu0 : noUndef [.sl 1 (ints a) f, .sl 1 (ints b) g, .int .i64 0] = true := rfl
    simp only [hn, Bool.false_eq_true, if_false, hu0, chkO_true]
    refine loop_ind (fun s r => ∃ i : Nat, s = ([.sl 1 (ints a) f, .sl 1 (ints b) g, inat i], ()) ∧ r = (.bool (a == b), ()) ∧ a.take i = b.take i)
      (fun s => a.length - natP (nth s.1 2)) ?_ ⟨0, rfl, rfl, rfl⟩
    rintro s r ⟨i, rfl, rfl, hi⟩
    simp only [nth_0, nth_1, nth_2, inat, pure_lenl, ints_len, pure_lss, bindO_val, iteP_bool, natP_int, Int.toNat_natCast]
    by_cases hlt : i < a.length
    · have hlt' : (i : Int) < (a.length : Int) := by omega
      have hga : (ints a)[i]? = some (.int .i64 ((a[i] : Nat) : Int)) := by simp [ints, hlt, inat]
      have hlb : i < b.length := by omega
      have hgb : (ints b)[i]? = some (.int .i64 ((b[i] : Nat) : Int)) := by simp [ints, hlb, inat]
      have hw : IntKind.i64.wrap ((i : Int) + 1) = ((i + 1 : Nat) : Int) := by rw [w64 (by omega) (by omega)]; omega
      simp only [hlt', decide_true, if_true]
      rw [pure_lidx (by omega) hga, pure_lidx (by omega) hgb]
      simp only [bindO_val, cells_int, pure_load, sel_one, pure_neq, iteP_bool]
      by_cases hc : a[i] = b[i]
      · right
        have hcn : (((a[i] : Nat) : Int) != ((b[i] : Nat) : Int)) = false := by simp [hc]
        refine ⟨_, by simp only [hcn, Bool.false_eq_true, if_false, pure_add, hw, bindO_val], ⟨i + 1, rfl, trivial, ?_⟩, by simp only [nth_2, natP_int, Int.toNat_natCast]; omega⟩
        rw [List.take_add_one, List.take_add_one, hi, List.getElem?_eq_getElem hlt, List.getElem?_eq_getElem hlb, hc]
      · left
        have hcn : (((a[i] : Nat) : Int) != ((b[i] : Nat) : Int)) = true := by simp; omega
        have hab : (a == b) = false := by
          rw [beq_eq_false_iff_ne]; rintro rfl; exact hc rfl
        simp [hcn, hab]
    · left
      have hlt' : ¬ (i : Int) < (a.length : Int) := by omega
      have hab : a = b := by
        rw [List.take_of_length_le (by omega), List.take_of_length_le (by omega)] at hi; exact hi
      simp only [hlt', decide_false, Bool.false_eq_true, if_false, bindO_val]
      rw [hab, beq_self_eq_true]
  · have hn : ((a.length : Int) != (b.length : Int)) = true := by simp; omega
    have hab : (a == b) = false := by
      rw [beq_eq_false_iff_ne]; rintro rfl; exact hl rfl
    simp [hn, hab]

theorem find_drop {l : List (Nat × Nat)} {i x y : Nat} (h : l[i]? = some (x, y)) (q : Nat × Nat → Bool) : (l.drop i).find? q = if q (x, y) = true then some (x, y) else (l.drop (i + 1)).find? q := by
  obtain ⟨hlt, he⟩ := List.getElem?_eq_some_iff.1 h
  rw [List.drop_eq_getElem_cons hlt, he, List.find?_cons]
  cases q (x, y) <;> simp

def offR (j : Nat) : Option (Nat × Nat) → PV
  | some p => .tup [inat (j + p.1), .int .i64 0]
  | none => .tup [.int .i64 0, .int .i64 20]

theorem lines_el {s : List UInt8} {k j : Nat} (h : (linesL s)[k]? = some j) : elemO (itemsP (.sl 1 (ints (linesL s)) false)) k 0 1 false = some (.int .i64 (j : Int)) := by
  unfold elemO; rw [itemsP_sl, ints_get h]; rfl

theorem refOffset_run (s : List UInt8) (hs : s.length ≤ 100000) (n col u : Int) : callO B0 .cl (.fn 15 []) [.str s, .int .i64 n, .int .i64 col, .int .i64 u] = some (offV s n col u) := by
  refine call (d := fun _ => .cl) rfl (by decide) rfl rfl ?_
  rw [List.map_cons, List.map_cons, List.map_cons, List.map_cons, List.map_nil, run15, is_run, isU_iff]
  unfold offV
  by_cases hu : isU u
  · simp only [if_pos hu, decide_true, bindO_val, pure_not, iteP_bool, Bool.not_true, Bool.false_eq_true, if_false, hu]
    cases hl : lineAt s n with
    | none =>
      have hn := lineAt_none hl
      rw [refLine_bad s (by omega) n hn]
      simp
    | some p =>
      obtain ⟨j, t⟩ := p
      obtain ⟨k, rfl, hk, rfl, hj, hjt⟩ := lineAt_some hl
      have hw := refLine_ok s (by omega) k j hk
      unfold inat at hw
      rw [hw]
      have hcl := cols_len u (line1 (s.drop j))
      have hkl := (List.getElem?_eq_some_iff.1 hk).1
      simp only [bindO_val, pure_tup, List.getElem?_cons_zero, List.getElem?_cons_succ, pure_neq, iteP_bool, bne_self_eq_false, Bool.false_eq_true, if_false]
      rw [columns_run _ (by omega)]
      have hub : ∀ {i x y : Nat}, (cols u (line1 (s.drop j)))[i]? = some (x, y) → x ≤ (line1 (s.drop j)).length := fun h => (cols_next h).1
      simp only [bindO_val, prj1, prj0, fsts_len, snds_len, nI_eq]
      generalize hL : cols u (line1 (s.drop j)) = L at *
      have hu0 : noUndef [.str s, .int .i64 (k : Int), .int .i64 col, .int .i64 (L.length : Int), .int .i64 (L.length : Int), .int .i64 0] = true := rfl
      rw [hu0, chkO_true]
      show loopL _ _ = some (offR j (L.find? fun p => ((p.2 : Int) == col)), ())
      have hit : ∀ l, PV.sl 1 (itemsP (fsts l)) false = fsts l := fun _ => rfl
      have hit2 : ∀ l, PV.sl 1 (itemsP (snds l)) false = snds l := fun _ => rfl
      rw [hit, hit2]
      refine loop_ind (fun st r => ∃ i : Nat, st = ([.str s, .int .i64 (k : Int), .int .i64 col, .int .i64 (L.length : Int), .int .i64 (L.length : Int), inat i, fsts L, snds L], ()) ∧ r = (offR j ((L.drop i).find? fun p => ((p.2 : Int) == col)), ()) ∧ i ≤ L.length)
        (fun st => L.length - natP (nth st.1 5)) ?_ ⟨0, rfl, rfl, by omega⟩
      rintro st r ⟨i, rfl, rfl, hi⟩
      simp only [nth_0, nth_1, nth_2, nth_3, nth_4, nth_5, nth_6, nth_7, inat, natP_int, Int.toNat_natCast, nI_eq, pure_lss, bindO_val, iteP_bool, natO_int, ltN_eq, addN_eq, Nat.zero_add]
      by_cases hlt : i < L.length
      · have hlt' : (i : Int) < (L.length : Int) := by omega
        have hg : L[i]? = some (L[i].1, L[i].2) := List.getElem?_eq_getElem hlt
        have hx := hub hg
        generalize L[i].1 = x at *
        generalize L[i].2 = y at *
        rw [snds_el hg, fsts_el hg, find_drop hg]
        simp only [hlt', decide_true, if_true, hlt, chkO_true, bindO_val, pure_eql, iteP_bool]
        have hw : IntKind.i64.wrap ((i : Int) + 1) = ((i + 1 : Nat) : Int) := by rw [w64 (by omega) (by omega)]; omega
        by_cases hc : ((y : Int) == col) = true
        · left
          have hwj : IntKind.i64.wrap ((j : Int) + x) = ((j + x : Nat) : Int) := by rw [w64 (by omega) (by omega)]; omega
          rw [reflines_run s (by omega)]
          simp only [hc, if_true, bindO_val, natO_int, itemsP_sl, lenL_eq, ints_len, ltN_eq, hkl, decide_true, chkO_true]
          have hel := lines_el hk
          rw [itemsP_sl] at hel
          simp only [hel, bindO_val, pure_add, hwj, offR, inat]
        · right
          have hc' : ((y : Int) == col) = false := by simpa using hc
          refine ⟨_, by simp only [hc', Bool.false_eq_true, if_false, pure_add, hw, bindO_val, hit, hit2], ⟨i + 1, rfl, by rw [if_neg hc], by omega⟩, by simp only [nth_5, natP_int, Int.toNat_natCast]; omega⟩
      · left
        have hlt' : ¬ (i : Int) < (L.length : Int) := by omega
        have hd : L.drop i = [] := List.drop_eq_nil_of_le (by omega)
        simp only [hlt', decide_false, Bool.false_eq_true, if_false, bindO_val, hd]
        rfl
  · simp [hu]

end Go.Ab.Place

/-
  Place: the answer's At.
-/
namespace Go.Ab.Place
open Go Go.Ab

def atR (k : Nat) : Option (Nat × Nat) → PV
  | some p => .tup [inat k, inat p.2, .int .i64 0]
  | none => .tup [.int .i64 0, .int .i64 0, .int .i64 20]

theorem atV_eq {s : List UInt8} {at' u : Int} {j : Nat} (hu : isU u) (hj : (linesL s)[lastI at' (linesL s)]? = some j) :
    atV s at' u = atR (lastI at' (linesL s)) ((cols u (line1 (s.drop j))).find? fun p => (((j + p.1 : Nat) : Int) == at')) := by
  unfold atV atR
  rw [if_pos hu, hj]
  try rfl

theorem fsts_len' (l : List (Nat × Nat)) : (itemsP (fsts l)).length = l.length := fsts_len l
theorem snds_len' (l : List (Nat × Nat)) : (itemsP (snds l)).length = l.length := snds_len l

theorem at_out {s : List UInt8} {at' u : Int} (hu : isU u) (h : at' < 0 ∨ (s.length : Int) < at') : atV s at' u = .tup [.int .i64 0, .int .i64 0, .int .i64 20] := by
  obtain ⟨j, hj, _⟩ := lastI_lt s at'
  rw [atV_eq hu hj]
  have : (cols u (line1 (s.drop j))).find? (fun p => (((j + p.1 : Nat) : Int) == at')) = none := by
    rw [List.find?_eq_none]
    rintro ⟨x, y⟩ hp
    obtain ⟨i, hi⟩ := List.mem_iff_getElem?.1 hp
    have h1 := (cols_next hi).1
    obtain ⟨j', hj', hjs, _⟩ := linesL_at (List.getElem?_eq_some_iff.1 hj).1
    rw [hj] at hj'; cases hj'
    have ht := line1_le (s.drop j)
    simp only [List.length_drop] at ht
    simp only [beq_iff_eq]
    omega
  rw [this]; rfl

theorem refAt_run (s : List UInt8) (hs : s.length ≤ 100000) (at' u : Int) : callO B0 .cl (.fn 13 []) [.str s, .int .i64 at', .int .i64 u] = some (atV s at' u) := by
  refine call (d := fun _ => .cl) rfl (by decide) rfl rfl ?_
  rw [List.map_cons, List.map_cons, List.map_cons, List.map_nil, run13, is_run, isU_iff]
  by_cases hu : isU u
  · simp only [decide_true, bindO_val, pure_not, iteP_bool, Bool.not_true, Bool.false_eq_true, if_false, hu, pure_lss, pure_lens, pure_gtr]
    by_cases h0 : at' < 0
    · rw [at_out hu (Or.inl h0)]; simp [h0]
    by_cases h1 : (s.length : Int) < at'
    · rw [at_out hu (Or.inr h1)]; simp [h0, h1]
    simp only [h0, h1, decide_false, Bool.false_eq_true, if_false, bindO_val, iteP_bool]
    rw [reflines_run s (by omega)]
    obtain ⟨j, hj, hle, hgt⟩ := lastI_lt s at'
    rw [atV_eq hu hj]
    have hle := hle (by omega)
    have hll := linesL_len s
    have hpos : 0 < (linesL s).length := by simp [linesL]
    have wl : IntKind.i64.wrap (((linesL s).length : Int) - 1) = (((linesL s).length - 1 : Nat) : Int) := by rw [w64 (by omega) (by omega)]; omega
    simp only [bindO_val, itemsP_sl, lenL_eq, ints_len, nI_eq, pure_sub, wl]
    have hu0 : ∀ a b : Int, noUndef [.str s, .int .i64 at', .int .i64 u, .int .i64 a, .int .i64 b] = true := fun _ _ => rfl
    rw [hu0, chkO_true]
    generalize hI : lastI at' (linesL s) = I at *
    have hIl := (List.getElem?_eq_some_iff.1 hj).1
    refine loop_ind (fun st r => ∃ k : Nat, st = ([.str s, .int .i64 at', .int .i64 u, .int .i64 ((linesL s).length : Int), inat k, .sl 1 (ints (linesL s)) false], ()) ∧ r = (atR I ((cols u (line1 (s.drop j))).find? fun p => (((j + p.1 : Nat) : Int) == at')), ()) ∧ I ≤ k ∧ k < (linesL s).length)
      (fun st => natP (nth st.1 4)) ?_ ⟨(linesL s).length - 1, rfl, rfl, by omega, by omega⟩
    rintro st r ⟨k, rfl, rfl, hk, hkl⟩
    simp only [nth_0, nth_1, nth_2, nth_3, nth_4, nth_5, inat, natP_int, Int.toNat_natCast, nI_eq, bindO_val, natO_int, ltN_eq, addN_eq, Nat.zero_add, hkl, decide_true, chkO_true]
    have hg : (linesL s)[k]? = some (linesL s)[k] := List.getElem?_eq_getElem hkl
    by_cases hkI : I < k
    · right
      have hgt' := hgt k _ hkI hg
      rw [lines_el hg]
      have wk : IntKind.i64.wrap ((k : Int) - 1) = ((k - 1 : Nat) : Int) := by rw [w64 (by omega) (by omega)]; omega
      simp only [bindO_val, pure_gtr, hgt', decide_true, iteP_bool, if_true, pure_sub, wk, itemsP_sl]
      exact ⟨_, rfl, ⟨k - 1, rfl, trivial, by omega, by omega⟩, by simp only [nth_4, natP_int, Int.toNat_natCast]; omega⟩
    · left
      have hkI' : k = I := by omega
      subst hkI'
      rw [lines_el hj]
      have hng : ¬ at' < (j : Int) := by omega
      have hw := refLine_ok s (by omega) k j hj
      unfold inat at hw
      simp only [bindO_val, pure_gtr, hng, decide_false, iteP_bool, Bool.false_eq_true, if_false, hw, pure_tup, List.getElem?_cons_zero, List.getElem?_cons_succ]
      obtain ⟨j', hj', hjs, _⟩ := linesL_at hIl
      rw [hj] at hj'; cases hj'
      have ht := line1_le (s.drop j)
      simp only [List.length_drop] at ht
      rw [columns_run _ (by omega)]
      have hcl := cols_len u (line1 (s.drop j))
      have hub : ∀ {i x y : Nat}, (cols u (line1 (s.drop j)))[i]? = some (x, y) → x ≤ (line1 (s.drop j)).length := fun h => (cols_next h).1
      simp only [bindO_val, prj1, prj0, fsts_len', snds_len']
      generalize hL : cols u (line1 (s.drop j)) = L at *
      have hu1 : noUndef [.int .i64 at', .int .i64 ((linesL s).length : Int), .int .i64 (k : Int), .int .i64 (L.length : Int), .int .i64 (L.length : Int), .int .i64 0] = true := rfl
      rw [hu1, chkO_true]
      have hit : ∀ l, PV.sl 1 (itemsP (fsts l)) false = fsts l := fun _ => rfl
      have hit2 : ∀ l, PV.sl 1 (itemsP (snds l)) false = snds l := fun _ => rfl
      have hit3 : ∀ l, PV.sl 1 (itemsP (.sl 1 (ints l) false)) false = .sl 1 (ints l) false := fun _ => rfl
      have goal2 : ∀ (z : Option (PV × Unit)) (r : PV × Unit), z = some r → bindO z (fun z31 => some (Sum.inr (α := List PV × Unit) z31)) = some (.inr r) := by rintro _ r rfl; rfl
      refine goal2 _ _ ?_
      rw [hit, hit2, hit3]
      refine loop_ind (fun st r => ∃ i : Nat, st = ([.int .i64 at', .int .i64 ((linesL s).length : Int), .int .i64 (k : Int), .int .i64 (L.length : Int), .int .i64 (L.length : Int), inat i, .sl 1 (ints (linesL s)) false, fsts L, snds L], ()) ∧ r = (atR k ((L.drop i).find? fun p => (((j + p.1 : Nat) : Int) == at')), ()) ∧ i ≤ L.length)
        (fun st => L.length - natP (nth st.1 5)) ?_ ⟨0, rfl, rfl, by omega⟩
      rintro st r ⟨i, rfl, rfl, hi⟩
      simp only [nth_0, nth_1, nth_2, nth_3, nth_4, nth_5, nth_6, nth_7, nth_8, inat, natP_int, Int.toNat_natCast, nI_eq, pure_lss, bindO_val, iteP_bool, natO_int, ltN_eq, addN_eq, Nat.zero_add, hkl, decide_true, chkO_true]
      rw [lines_el hj]
      by_cases hlt : i < L.length
      · have hlt' : (i : Int) < (L.length : Int) := by omega
        have hg : L[i]? = some (L[i].1, L[i].2) := List.getElem?_eq_getElem hlt
        have hx := hub hg
        generalize L[i].1 = x at *
        generalize L[i].2 = y at *
        have hwj : IntKind.i64.wrap ((j : Int) + x) = ((j + x : Nat) : Int) := by rw [w64 (by omega) (by omega)]; omega
        rw [snds_el hg, fsts_el hg, find_drop hg]
        simp only [hlt', decide_true, if_true, hlt, chkO_true, bindO_val, pure_add, hwj, pure_eql, iteP_bool]
        have hw : IntKind.i64.wrap ((i : Int) + 1) = ((i + 1 : Nat) : Int) := by rw [w64 (by omega) (by omega)]; omega
        by_cases hc : (((j + x : Nat) : Int) == at') = true
        · left
          simp only [hc, if_true, atR, inat]
        · right
          have hc' : (((j + x : Nat) : Int) == at') = false := by simpa using hc
          refine ⟨_, by simp only [hc', Bool.false_eq_true, if_false, pure_add, hw, bindO_val, hit, hit2, hit3], ⟨i + 1, rfl, by rw [if_neg hc], by omega⟩, by simp only [nth_5, natP_int, Int.toNat_natCast]; omega⟩
      · left
        have hlt' : ¬ (i : Int) < (L.length : Int) := by omega
        have hd : L.drop i = [] := List.drop_eq_nil_of_le (by omega)
        simp only [hlt', decide_false, Bool.false_eq_true, if_false, bindO_val, hd]
        rfl
  · simp [hu, atV]

end Go.Ab.Place

/-
  Place: the laws.
-/
namespace Go.Ab.Place
open Go Go.Ab

def shownS : List UInt8 := [97, 226, 134, 144, 49, 10, 98]

theorem sh1 : atV shownS 4 1 = .tup [.int .i64 0, .int .i64 4, .int .i64 0] := by kernel_rfl
theorem sh2 : atV shownS 4 3 = .tup [.int .i64 0, .int .i64 2, .int .i64 0] := by kernel_rfl
theorem sh3 : atV shownS 2 2 = .tup [.int .i64 0, .int .i64 0, .int .i64 20] := by kernel_rfl
theorem sh4 : offV shownS 1 1 2 = .tup [.int .i64 7, .int .i64 0] := by kernel_rfl
theorem sh5 : linesL shownS = [0, 6] := by decide

theorem shown_run : callO B0 .cl (.fn 10 []) [] = some (.bool true) := by
  refine call (d := fun _ => .cl) rfl (by decide) rfl rfl ?_
  rw [List.map_nil, run10]
  have a1 := At_run shownS (by decide) 4 1
  have a2 := At_run shownS (by decide) 4 3
  have a3 := At_run shownS (by decide) 2 2
  have a4 := Offset_run shownS (by decide) 1 1 2
  have a5 := lines_run shownS (by decide)
  rw [sh1] at a1
  rw [sh2] at a2
  rw [sh3] at a3
  rw [sh4] at a4
  rw [sh5] at a5
  unfold shownS at a1 a2 a3 a4 a5
  rw [a1, a2, a3, a4, a5]
  rfl

/-! ### Shapes -/

theorem at_shape (s : List UInt8) (at' u : Int) : ∃ a b e : Int, atV s at' u = .tup [.int .i64 a, .int .i64 b, .int .i64 e] := by
  by_cases hu : isU u
  · obtain ⟨j, hj, _⟩ := lastI_lt s at'
    rw [atV_eq hu hj]
    cases (cols u (line1 (s.drop j))).find? fun p => (((j + p.1 : Nat) : Int) == at') with
    | none => exact ⟨_, _, _, rfl⟩
    | some p => exact ⟨_, _, _, rfl⟩
  · unfold atV; rw [if_neg hu]; exact ⟨_, _, _, rfl⟩

theorem off_shape (s : List UInt8) (n col u : Int) : ∃ a e : Int, offV s n col u = .tup [.int .i64 a, .int .i64 e] := by
  unfold offV
  by_cases hu : isU u
  · rw [if_pos hu]
    cases lineAt s n with
    | none => exact ⟨_, _, rfl⟩
    | some p =>
      obtain ⟨j, t⟩ := p
      dsimp only
      cases (cols u t).find? fun p => ((p.2 : Int) == col) with
      | none => exact ⟨_, _, rfl⟩
      | some p => exact ⟨_, _, rfl⟩
  · rw [if_neg hu]; exact ⟨_, _, rfl⟩

theorem width_shape (s : List UInt8) (n u : Int) : ∃ a e : Int, widthV s n u = .tup [.int .i64 a, .int .i64 e] := by
  unfold widthV
  by_cases hu : isU u
  · rw [if_pos hu]
    cases lineAt s n with
    | none => exact ⟨_, _, rfl⟩
    | some p => exact ⟨_, _, rfl⟩
  · rw [if_neg hu]; exact ⟨_, _, rfl⟩

/-- What comes of a line. -/
def lineV (s : List UInt8) (n : Int) : PV :=
  match lineAt s n with
  | some (_, t) => .tup [.str t, .int .i64 0]
  | none => .tup [.str [], .int .i64 20]

theorem line_run (s : List UInt8) (hs : s.length ≤ 100000) (n : Int) : callO B0 .cl (.fn 17 []) [.str s, .int .i64 n] = some (lineV s n) := by
  unfold lineV
  cases hl : lineAt s n with
  | none => exact Line_bad s (by omega) n (lineAt_none hl)
  | some p =>
    obtain ⟨j, t⟩ := p
    obtain ⟨k, rfl, hk, rfl, hj, hjt⟩ := lineAt_some hl
    exact Line_ok s (by omega) k j hk

theorem refline_run (s : List UInt8) (hs : s.length ≤ 100000) (n : Int) : callO B0 .cl (.fn 18 []) [.str s, .int .i64 n] = some (lineV s n) := by
  unfold lineV
  cases hl : lineAt s n with
  | none => exact refLine_bad s (by omega) n (lineAt_none hl)
  | some p =>
    obtain ⟨j, t⟩ := p
    obtain ⟨k, rfl, hk, rfl, hj, hjt⟩ := lineAt_some hl
    exact refLine_ok s (by omega) k j hk

theorem line_shape (s : List UInt8) (n : Int) : ∃ (t : List UInt8) (e : Int), lineV s n = .tup [.str t, .int .i64 e] := by
  unfold lineV
  cases lineAt s n with
  | none => exact ⟨_, _, rfl⟩
  | some p => exact ⟨_, _, rfl⟩

theorem cut_len (s : List UInt8) : (s.take 600).length ≤ 600 := by simp; omega

/-! ### The laws -/

theorem law_ats (s : List UInt8) (hs : s.length ≤ 9223372036854775807) (at' n col u : Int) :
    runK (cfg0 B0 fun _ => .cl) fn3 .cl noHandler 0 [.cv (.str s), .cv (.int .i64 at'), .cv (.int .i64 n), .cv (.int .i64 col), .cv (.int .i64 u)] () = some (.bool true, ()) := by
  rw [run3, shown_run, cut_run s hs]
  have hc := cut_len s
  generalize s.take 600 = t at *
  simp only [bindO_val]
  rw [At_run t (by omega), refAt_run t (by omega), Offset_run t (by omega), refOffset_run t (by omega)]
  obtain ⟨a, b, e, h1⟩ := at_shape t at' u
  obtain ⟨g, f, h2⟩ := off_shape t n col u
  rw [h1, h2]
  simp

theorem law_lines (s : List UInt8) (hs : s.length ≤ 9223372036854775807) (n u : Int) :
    runK (cfg0 B0 fun _ => .cl) fn8 .cl noHandler 0 [.cv (.str s), .cv (.int .i64 n), .cv (.int .i64 u)] () = some (.bool true, ()) := by
  rw [run8, shown_run, cut_run s hs]
  have hc := cut_len s
  generalize s.take 600 = t at *
  simp only [bindO_val]
  rw [line_run t (by omega), refline_run t (by omega), Width_run t (by omega), refWidth_run t (by omega), lines_run t (by omega), reflines_run t (by omega)]
  obtain ⟨a, e, h1⟩ := line_shape t n
  obtain ⟨g, f, h2⟩ := width_shape t n u
  rw [h1, h2]
  have hsl : slO 1 1 (itemsP (.sl 1 (ints (linesL t)) false)) 0 (lenL (itemsP (.sl 1 (ints (linesL t)) false))) = .sl 1 (ints (linesL t)) false := by
    simp [slO]
  have hll := linesL_len t
  simp only [bindO_val, hsl]
  rw [Ints_run _ _ (by omega)]
  simp

end Go.Ab.Place

/-
  Place: plain laws of lines and columns.
-/
namespace Go.Ab.Place
open Go Go.Ab

theorem colsGo_ge {u : Int} {f : Nat} {t : List UInt8} {a c : Nat} (hf : t.length ≤ f) {p : Nat × Nat} (hp : p ∈ colsGo u f t a c) : a ≤ p.1 ∧ c ≤ p.2 := by
  obtain ⟨k, hk⟩ := List.mem_iff_getElem?.1 hp
  obtain ⟨x, y⟩ := p
  obtain ⟨h1, _, h3, _⟩ := colsGo_next u f t a c hf k x y hk
  exact ⟨h1, h3⟩

theorem colsGo_pw (u : Int) : ∀ (f : Nat) (t : List UInt8) (a c : Nat), t.length ≤ f → (colsGo u f t a c).Pairwise fun p q => p.1 < q.1 ∧ p.2 < q.2 := by
  intro f
  induction f with
  | zero => intro t a c _; simp [colsGo]
  | succ f ih =>
    intro t a c hf
    by_cases ht : t = []
    · subst ht; rw [colsGo_nil]; simp
    · rw [colsGo_cons u f ht]
      have hb := stU_bd (u := u) ht
      have hsz := sizeU_le hb.1 u
      have hl : (t.drop (stU u t)).length ≤ f := by simp; omega
      refine List.pairwise_cons.2 ⟨fun q hq => ?_, ih _ _ _ hl⟩
      have := colsGo_ge hl hq
      dsimp only
      omega

theorem cols_pw (u : Int) (t : List UInt8) : (cols u t).Pairwise fun p q => p.1 < q.1 ∧ p.2 < q.2 := colsGo_pw u _ t 0 0 (Nat.le_refl _)

theorem pw_cmp {l : List (Nat × Nat)} (h : l.Pairwise fun p q => p.1 < q.1 ∧ p.2 < q.2) {p q : Nat × Nat} (hp : p ∈ l) (hq : q ∈ l) : (p.1 < q.1 ∧ p.2 < q.2) ∨ p = q ∨ (q.1 < p.1 ∧ q.2 < p.2) := by
  induction l with
  | nil => cases hp
  | cons x l ih =>
    obtain ⟨h1, h2⟩ := List.pairwise_cons.1 h
    rcases List.mem_cons.1 hp with hp' | hp'
    · rcases List.mem_cons.1 hq with hq' | hq'
      · exact Or.inr (Or.inl (hp'.trans hq'.symm))
      · subst hp'; exact Or.inl (h1 q hq')
    · rcases List.mem_cons.1 hq with hq' | hq'
      · subst hq'; exact Or.inr (Or.inr (h1 p hp'))
      · exact ih h2 hp' hq'

theorem cols_cmp {u : Int} {t : List UInt8} {p q : Nat × Nat} (hp : p ∈ cols u t) (hq : q ∈ cols u t) : (p.1 < q.1 ∧ p.2 < q.2) ∨ p = q ∨ (q.1 < p.1 ∧ q.2 < p.2) := pw_cmp (cols_pw u t) hp hq

theorem cols_mem {u : Int} {t : List UInt8} {p : Nat × Nat} (hp : p ∈ cols u t) : p.1 ≤ t.length := by
  obtain ⟨i, hi⟩ := List.mem_iff_getElem?.1 hp
  obtain ⟨x, y⟩ := p
  exact (cols_next hi).1

/-- The first that is found is the one that there is. -/
theorem find_uniq {l : List (Nat × Nat)} {q : Nat × Nat → Bool} {p : Nat × Nat} (hp : p ∈ l) (hq : q p = true) (hu : ∀ p' ∈ l, q p' = true → p' = p) : l.find? q = some p := by
  cases h : l.find? q with
  | none => rw [List.find?_eq_none] at h; exact absurd hq (h p hp)
  | some p' => rw [hu p' (List.mem_of_find?_eq_some h) (List.find?_some h)]

/-! ### Bytes -/

theorem cols_byte (t : List UInt8) : ∀ (k x y : Nat), (cols 1 t)[k]? = some (x, y) → x = k ∧ y = k := by
  intro k
  induction k with
  | zero => intro x y h; rw [cols_zero] at h; cases h; exact ⟨rfl, rfl⟩
  | succ k ih =>
    intro x y h
    have hlt : k < (cols 1 t).length := by have := (List.getElem?_eq_some_iff.1 h).1; omega
    have hg : (cols 1 t)[k]? = some ((cols 1 t)[k].1, (cols 1 t)[k].2) := List.getElem?_eq_getElem hlt
    obtain ⟨h1, h2⟩ := ih _ _ hg
    obtain ⟨_, _, h3⟩ := cols_next hg
    rw [h] at h3
    split at h3
    · cases h3
    · rw [h1, h2] at h3
      cases h3
      exact ⟨rfl, rfl⟩

theorem cols_byte_at {t : List UInt8} : ∀ {k : Nat}, k ≤ t.length → (cols 1 t)[k]? = some (k, k) := by
  intro k
  induction k with
  | zero => intro _; exact cols_zero 1 t
  | succ k ih =>
    intro hk
    have h := (cols_next (ih (by omega))).2.2
    rw [if_neg (by omega)] at h
    exact h

/-! ### How wide -/

theorem lastC_cons {p : Nat × Nat} {l : List (Nat × Nat)} (h : l ≠ []) : lastC (p :: l) = lastC l := by
  unfold lastC
  cases l with
  | nil => exact absurd rfl h
  | cons q l => rfl

theorem colsGo_ne (u : Int) (f : Nat) (t : List UInt8) (a c : Nat) : colsGo u f t a c ≠ [] := by
  cases f with
  | zero => simp [colsGo]
  | succ f => cases t <;> simp [colsGo]

theorem last_byte : ∀ (f : Nat) (t : List UInt8) (a : Nat), t.length ≤ f → lastC (colsGo 1 f t a a) = a + t.length := by
  intro f
  induction f with
  | zero => intro t a h; have : t.length = 0 := by omega
            simp [colsGo, lastC, this]
  | succ f ih =>
    intro t a hf
    by_cases ht : t = []
    · subst ht; rw [colsGo_nil]; rfl
    · rw [colsGo_cons 1 f ht, lastC_cons (colsGo_ne _ _ _ _ _)]
      have hpos : 0 < t.length := List.length_pos_iff.2 ht
      have h1 : stU 1 t = 1 := rfl
      have h2 : sizeU 1 1 = 1 := rfl
      rw [h1, h2, ih _ _ (by simp; omega)]
      simp; omega

theorem last_wide : ∀ (f : Nat) (t : List UInt8) (a c d : Nat), t.length ≤ f → c ≤ d → d ≤ 2 * c → d ≤ a →
    lastC (colsGo 2 f t a c) ≤ lastC (colsGo 3 f t a d) ∧ lastC (colsGo 3 f t a d) ≤ 2 * lastC (colsGo 2 f t a c) ∧ lastC (colsGo 3 f t a d) ≤ a + t.length := by
  intro f
  induction f with
  | zero => intro t a c d _ h1 h2 h3; simp [colsGo, lastC]; omega
  | succ f ih =>
    intro t a c d hf h1 h2 h3
    by_cases ht : t = []
    · subst ht; rw [colsGo_nil, colsGo_nil]; simp [lastC]; omega
    · rw [colsGo_cons 2 f ht, colsGo_cons 3 f ht, lastC_cons (colsGo_ne _ _ _ _ _), lastC_cons (colsGo_ne _ _ _ _ _)]
      have e2 : stU 2 t = stepU t := rfl
      have e3 : stU 3 t = stepU t := rfl
      rw [e2, e3]
      have hb := stepU_bd ht
      have hs2 : sizeU (stepU t) 2 = 1 := rfl
      have hs3 : sizeU (stepU t) 3 = if stepU t = 4 then 2 else 1 := by
        unfold sizeU; simp
      rw [hs2, hs3]
      have hl : (t.drop (stepU t)).length = t.length - stepU t := by simp
      have := ih (t.drop (stepU t)) (a + stepU t) (c + 1) (d + if stepU t = 4 then 2 else 1) (by omega) (by split <;> omega) (by split <;> omega) (by split <;> omega)
      omega

/-! ### Lines -/

/-- Where the next one begins. -/
theorem next_gt {s : List UInt8} {k j : Nat} (hk : (linesL s)[k]? = some j) : j ≤ s.length ∧ (∀ m y, k < m → (linesL s)[m]? = some y → j + (line1 (s.drop j)).length < y) ∧ (k + 1 < (linesL s).length → (linesL s)[k + 1]? = some (j + (line1 (s.drop j)).length + 1)) ∧
    ((linesL s).length ≤ k + 1 → line1 (s.drop j) = s.drop j) := by
  obtain ⟨j', h1, h2, h3⟩ := linesL_at (List.getElem?_eq_some_iff.1 hk).1
  rw [hk] at h1; cases h1
  have hn := linesL_next hk
  refine ⟨h2, ?_, fun h => ?_, fun h => ?_⟩
  · have key : ∀ d y, (linesL s)[k + 1 + d]? = some y → j + (line1 (s.drop j)).length < y := by
      intro d
      induction d with
      | zero =>
        intro y hy
        rw [Nat.add_zero, hn] at hy
        split at hy
        · cases hy; omega
        · cases hy
      | succ d ih =>
        intro y hy
        have hlt : k + 1 + d < (linesL s).length := by have := (List.getElem?_eq_some_iff.1 hy).1; omega
        have hg : (linesL s)[k + 1 + d]? = some (linesL s)[k + 1 + d] := List.getElem?_eq_getElem hlt
        have h5 := ih _ hg
        have h6 := linesL_next hg
        rw [show k + 1 + d + 1 = k + 1 + (d + 1) by omega, hy] at h6
        split at h6
        · cases h6; omega
        · cases h6
    intro m y hm hy
    have := key (m - (k + 1)) y (by rw [show k + 1 + (m - (k + 1)) = m by omega]; exact hy)
    exact this
  · rw [List.getElem?_eq_getElem h] at hn ⊢
    split at hn
    · exact hn
    · cases hn
  · rw [List.getElem?_eq_none_iff.2 h] at hn
    split at hn
    · cases hn
    · rename_i hm; exact line1_all hm

/-- The line that a place is in. -/
theorem lastI_eq {s : List UInt8} {k j : Nat} {at' : Int} (hk : (linesL s)[k]? = some j) (h1 : (j : Int) ≤ at') (h2 : at' ≤ (j + (line1 (s.drop j)).length : Nat)) : lastI at' (linesL s) = k := by
  obtain ⟨j', hj, hle, hgt⟩ := lastI_lt s at'
  have hle := hle (by omega)
  rcases Nat.lt_trichotomy (lastI at' (linesL s)) k with h | h | h
  · have := hgt k j h hk; omega
  · exact h
  · have := (next_gt hk).2.1 _ _ h hj; omega

theorem in_line {s : List UInt8} {at' : Int} (h0 : 0 ≤ at') (h1 : at' ≤ s.length) : ∃ j, (linesL s)[lastI at' (linesL s)]? = some j ∧ (j : Int) ≤ at' ∧ at' ≤ (j + (line1 (s.drop j)).length : Nat) ∧ j + (line1 (s.drop j)).length ≤ s.length := by
  obtain ⟨j, hj, hle, hgt⟩ := lastI_lt s at'
  have hle := hle h0
  obtain ⟨a1, a2, a3, a4⟩ := next_gt hj
  have hl := line1_le (s.drop j)
  simp only [List.length_drop] at hl
  refine ⟨j, hj, hle, ?_, by omega⟩
  by_cases hc : lastI at' (linesL s) + 1 < (linesL s).length
  · have := hgt _ _ (Nat.lt_succ_self _) (a3 hc)
    omega
  · rw [a4 (by omega)]
    simp only [List.length_drop]; omega
end Go.Ab.Place

/-
  Place: the laws, the others.
-/
namespace Go.Ab.Place
open Go Go.Ab

theorem at_of {s : List UInt8} {u : Int} {k j : Nat} {p : Nat × Nat} (hu : isU u) (hk : (linesL s)[k]? = some j) (hp : p ∈ cols u (line1 (s.drop j))) :
    atV s ((j + p.1 : Nat) : Int) u = .tup [inat k, inat p.2, .int .i64 0] := by
  have hm := cols_mem hp
  have hI := lastI_eq (at' := ((j + p.1 : Nat) : Int)) hk (by omega) (by omega)
  have hj : (linesL s)[lastI ((j + p.1 : Nat) : Int) (linesL s)]? = some j := by rw [hI]; exact hk
  rw [atV_eq hu hj, hI, find_uniq hp (by simp) (fun p' hp' hq => ?_)]
  · rfl
  · have hq' : ((j + p'.1 : Nat) : Int) = ((j + p.1 : Nat) : Int) := by simpa using hq
    rcases cols_cmp hp' hp with h | h | h
    · omega
    · exact h
    · omega

theorem at_char (s : List UInt8) (at' u : Int) : (∃ e : Int, e ≠ 0 ∧ atV s at' u = .tup [.int .i64 0, .int .i64 0, .int .i64 e]) ∨
    ∃ (k j : Nat) (p : Nat × Nat), isU u ∧ (linesL s)[k]? = some j ∧ p ∈ cols u (line1 (s.drop j)) ∧ at' = ((j + p.1 : Nat) : Int) ∧ atV s at' u = .tup [inat k, inat p.2, .int .i64 0] := by
  by_cases hu : isU u
  · obtain ⟨j, hj, _⟩ := lastI_lt s at'
    have he := atV_eq hu hj
    cases hf : (cols u (line1 (s.drop j))).find? fun p => (((j + p.1 : Nat) : Int) == at') with
    | none => rw [hf] at he; exact Or.inl ⟨20, by decide, he⟩
    | some p =>
      rw [hf] at he
      have h1 := List.find?_some hf
      exact Or.inr ⟨_, j, p, hu, hj, List.mem_of_find?_eq_some hf, (by simpa using h1 : ((j + p.1 : Nat) : Int) = at').symm, he⟩
  · left; refine ⟨2, by decide, ?_⟩; unfold atV; rw [if_neg hu]

theorem off_of {s : List UInt8} {u : Int} {k j : Nat} {p : Nat × Nat} (hu : isU u) (hk : (linesL s)[k]? = some j) (hp : p ∈ cols u (line1 (s.drop j))) :
    offV s (k : Int) (p.2 : Int) u = .tup [inat (j + p.1), .int .i64 0] := by
  have hl : lineAt s (k : Int) = some (j, line1 (s.drop j)) := by
    unfold lineAt
    rw [if_neg (by omega), Int.toNat_natCast, hk]
  unfold offV
  rw [if_pos hu, hl]
  dsimp only
  rw [find_uniq hp (by simp) (fun p' hp' hq => ?_)]
  have hq' : (p'.2 : Int) = (p.2 : Int) := by simpa using hq
  rcases cols_cmp hp' hp with h | h | h
  · omega
  · exact h
  · omega

theorem off_char (s : List UInt8) (n col u : Int) : (∃ e : Int, e ≠ 0 ∧ offV s n col u = .tup [.int .i64 0, .int .i64 e]) ∨
    ∃ (k j : Nat) (p : Nat × Nat), isU u ∧ (linesL s)[k]? = some j ∧ p ∈ cols u (line1 (s.drop j)) ∧ n = (k : Int) ∧ col = (p.2 : Int) ∧ offV s n col u = .tup [inat (j + p.1), .int .i64 0] := by
  by_cases hu : isU u
  · cases hl : lineAt s n with
    | none => left; refine ⟨20, by decide, ?_⟩; unfold offV; rw [if_pos hu, hl]
    | some q =>
      obtain ⟨j, t⟩ := q
      obtain ⟨k, rfl, hk, rfl, hj, hjt⟩ := lineAt_some hl
      cases hf : (cols u (line1 (s.drop j))).find? fun p => ((p.2 : Int) == col) with
      | none => left; refine ⟨20, by decide, ?_⟩; unfold offV; rw [if_pos hu, hl]; dsimp only; rw [hf]
      | some p =>
        have h1 := List.find?_some hf
        right
        refine ⟨k, j, p, hu, hk, List.mem_of_find?_eq_some hf, rfl, by simpa using Eq.symm (by simpa using h1 : (p.2 : Int) = col), ?_⟩
        unfold offV; rw [if_pos hu, hl]; dsimp only; rw [hf]
  · left; refine ⟨2, by decide, ?_⟩; unfold offV; rw [if_neg hu]

theorem law_back (s : List UInt8) (hs : s.length ≤ 9223372036854775807) (at' n col u : Int) :
    runK (cfg0 B0 fun _ => .cl) fn4 .cl noHandler 0 [.cv (.str s), .cv (.int .i64 at'), .cv (.int .i64 n), .cv (.int .i64 col), .cv (.int .i64 u)] () = some (.bool true, ()) := by
  rw [run4, shown_run, cut_run s hs]
  have hc := cut_len s
  generalize s.take 600 = t at *
  simp only [bindO_val]
  rw [At_run t (by omega), Offset_run t (by omega)]
  have second : (bindO (some (offV t n col u)) (fun z14 => bindO (pureO (.extract 0 (.c z14))) (fun
    z15 => bindO (pureO (.extract 1 (.c z14))) (fun z16 => bindO (callO B0 .cl (.fn 12 []) [.str t, z15, .int .i64 u]) (fun z17 => bindO (pureO (.extract 0 (.c z17))) (fun z18 => bindO
    (pureO (.extract 1 (.c z17))) (fun z19 => bindO (pureO (.extract 2 (.c z17))) (fun z20 => bindO (iteP (.bool true) (bindO (pureO (.bin .neq .num true (.c z16) (.c (.int .i64 0)))) (fun z21 => iteP
    z21 (some (.bool true)) (bindO (pureO (.bin .eql .num true (.c z20) (.c (.int .i64 0)))) (fun z22 => iteP z22 (bindO (pureO (.bin .eql .num false (.c z18) (.c (.int .i64 n)))) (fun z23 =>
    iteP z23 (bindO (pureO (.bin .eql .num false (.c z19) (.c (.int .i64 col)))) (fun z24 => some z24)) (some (.bool false)))) (some (.bool false)))))) (some (.bool false))) (fun z25 => some (z25,
    ())))))))))) = some (.bool true, ()) := by
    rcases off_char t n col u with ⟨e, he, h1⟩ | ⟨k, j, p, hu, hk, hp, rfl, rfl, h1⟩
    · rw [h1]
      simp only [bindO_val, pure_tup, List.getElem?_cons_zero, List.getElem?_cons_succ]
      rw [At_run t (by omega)]
      obtain ⟨a, b, c, h2⟩ := at_shape t 0 u
      rw [h2]
      simp [he]
    · rw [h1]
      simp only [bindO_val, pure_tup, List.getElem?_cons_zero, List.getElem?_cons_succ, inat]
      rw [At_run t (by omega), at_of hu hk hp]
      simp [inat]
  rcases at_char t at' u with ⟨e, he, h1⟩ | ⟨k, j, p, hu, hk, hp, rfl, h1⟩
  · rw [h1]
    simp only [bindO_val, pure_tup, List.getElem?_cons_zero, List.getElem?_cons_succ]
    rw [Offset_run t (by omega)]
    obtain ⟨a, c, h2⟩ := off_shape t 0 0 u
    rw [h2]
    have he' : (e == 0) = false := by simpa using he
    simp only [bindO_val, pure_tup, List.getElem?_cons_zero, List.getElem?_cons_succ, pure_eql, he', iteP_bool, Bool.false_eq_true, if_false]
    simp only [bindO_val, pure_tup, List.getElem?_cons_zero, List.getElem?_cons_succ, pure_eql, he', iteP_bool, Bool.false_eq_true, if_false] at second
    exact second
  · rw [h1]
    simp only [bindO_val, pure_tup, List.getElem?_cons_zero, List.getElem?_cons_succ, inat]
    rw [Offset_run t (by omega), off_of hu hk hp]
    simp only [bindO_val, pure_tup, List.getElem?_cons_zero, List.getElem?_cons_succ, inat, pure_eql, pure_neq, beq_self_eq_true, bne_self_eq_false, iteP_bool, if_true, Bool.false_eq_true, if_false]
    simp only [bindO_val, pure_tup, List.getElem?_cons_zero, List.getElem?_cons_succ, inat, pure_eql, pure_neq, beq_self_eq_true, bne_self_eq_false, iteP_bool, if_true, Bool.false_eq_true, if_false] at second
    exact second

theorem law_orders (s : List UInt8) (hs : s.length ≤ 9223372036854775807) (at' to u : Int) :
    runK (cfg0 B0 fun _ => .cl) fn5 .cl noHandler 0 [.cv (.str s), .cv (.int .i64 at'), .cv (.int .i64 to), .cv (.int .i64 u)] () = some (.bool true, ()) := by
  rw [run5, shown_run, cut_run s hs]
  have hc := cut_len s
  generalize s.take 600 = t at *
  simp only [bindO_val]
  rw [At_run t (by omega), At_run t (by omega)]
  rcases at_char t at' u with ⟨e, he, h1⟩ | ⟨k, j, p, hu, hk, hp, rfl, h1⟩
  · obtain ⟨a, b, c, h2⟩ := at_shape t to u
    rw [h1, h2]
    simp [he]
  rcases at_char t to u with ⟨e, he, h2⟩ | ⟨k', j', p', _, hk', hp', rfl, h2⟩
  · rw [h1, h2]
    simp [he, inat]
  rw [h1, h2]
  have m1 := cols_mem hp
  have m2 := cols_mem hp'
  simp only [bindO_val, pure_tup, List.getElem?_cons_zero, List.getElem?_cons_succ, inat, pure_neq, bne_self_eq_false, iteP_bool, Bool.false_eq_true, if_false, if_true, pure_lss]
  by_cases c1 : k < k'
  · have := (next_gt hk).2.1 k' j' c1 hk'
    have a1 : (k : Int) < (k' : Int) := by omega
    have a2 : ((j + p.1 : Nat) : Int) < ((j' + p'.1 : Nat) : Int) := by omega
    simp only [a1, a2, decide_true, if_true, pure_eqb, bindO_val, beq_self_eq_true]
  · by_cases c2 : k = k'
    · subst c2
      rw [hk] at hk'; cases hk'
      have a1 : ¬ (k : Int) < (k : Int) := by omega
      have a3 : decide (((j + p.1 : Nat) : Int) < ((j + p'.1 : Nat) : Int)) = decide ((p.2 : Int) < (p'.2 : Int)) := by
        rw [Bool.eq_iff_iff]
        simp only [decide_eq_true_eq]
        rcases cols_cmp hp hp' with h | h | h
        · omega
        · subst h; omega
        · omega
      simp only [a1, a3, decide_false, Bool.false_eq_true, if_false, pure_eql, bindO_val, beq_self_eq_true, iteP_bool, if_true, pure_lss, pure_eqb]
    · have := (next_gt hk').2.1 k j (by omega) hk
      have a1 : ¬ (k : Int) < (k' : Int) := by omega
      have a2 : ¬ ((j + p.1 : Nat) : Int) < ((j' + p'.1 : Nat) : Int) := by omega
      have a3 : ((k : Int) == (k' : Int)) = false := by simp; omega
      simp only [a1, a2, a3, decide_false, Bool.false_eq_true, if_false, pure_eql, bindO_val, iteP_bool, pure_eqb, beq_self_eq_true]

theorem law_bytes (s : List UInt8) (hs : s.length ≤ 9223372036854775807) (at' : Int) :
    runK (cfg0 B0 fun _ => .cl) fn6 .cl noHandler 0 [.cv (.str s), .cv (.int .i64 at')] () = some (.bool true, ()) := by
  rw [run6, shown_run, cut_run s hs]
  have hc := cut_len s
  generalize s.take 600 = t at *
  simp only [bindO_val]
  rw [At_run t (by omega)]
  have hu : isU 1 := by decide
  by_cases h0 : at' < 0
  · rw [at_out hu (Or.inl h0)]
    simp [h0]
  by_cases h1 : (t.length : Int) < at'
  · rw [at_out hu (Or.inr h1)]
    simp [h0, h1]
  obtain ⟨j, hj, a1, a2, a3⟩ := in_line (s := t) (at' := at') (by omega) (by omega)
  obtain ⟨i, hi⟩ : ∃ i : Nat, at' = ((j + i : Nat) : Int) := ⟨(at' - j).toNat, by omega⟩
  have hb := cols_byte_at (t := line1 (t.drop j)) (k := i) (by omega)
  have hmem := List.mem_of_getElem? hb
  have hA := at_of hu hj hmem
  dsimp only at hA
  rw [← hi] at hA
  rw [hA, lines_run t (by omega)]
  have hkl := (List.getElem?_eq_some_iff.1 hj).1
  generalize lastI at' (linesL t) = k at *
  have hkl' : (k : Int) < ((linesL t).length : Int) := by omega
  have hk0 : (0 : Int) ≤ (k : Int) := by omega
  have hw : IntKind.i64.wrap (at' - (j : Int)) = (i : Int) := by rw [w64 (by omega) (by omega)]; omega
  have hel := lines_el hj
  rw [itemsP_sl] at hel
  simp only [bindO_val, pure_tup, List.getElem?_cons_zero, List.getElem?_cons_succ, inat, pure_lss, h0, decide_false, iteP_bool, Bool.false_eq_true, if_false, pure_lens, pure_gtr, h1, pure_eql, beq_self_eq_true, if_true, pure_geq, hk0, decide_true,
    itemsP_sl, lenL_eq, ints_len, nI_eq, hkl', natO_int, ltN_eq, hkl, chkO_true, addN_eq, Nat.zero_add, hel, pure_sub, hw]

theorem law_units (s : List UInt8) (hs : s.length ≤ 9223372036854775807) (n : Int) :
    runK (cfg0 B0 fun _ => .cl) fn9 .cl noHandler 0 [.cv (.str s), .cv (.int .i64 n)] () = some (.bool true, ()) := by
  rw [run9, shown_run, cut_run s hs]
  have hc := cut_len s
  generalize s.take 600 = t at *
  simp only [bindO_val]
  rw [line_run t (by omega), Width_run t (by omega), Width_run t (by omega), Width_run t (by omega)]
  have u1 : isU 1 := by decide
  have u2 : isU 2 := by decide
  have u3 : isU 3 := by decide
  unfold lineV widthV
  rw [if_pos u1, if_pos u2, if_pos u3]
  cases hl : lineAt t n with
  | none => simp
  | some q =>
    obtain ⟨j, x⟩ := q
    obtain ⟨k, rfl, hk, rfl, hj, hjt⟩ := lineAt_some hl
    have e1 : lastC (cols 1 (line1 (t.drop j))) = (line1 (t.drop j)).length := by
      have := last_byte _ (line1 (t.drop j)) 0 (Nat.le_refl _)
      rw [Nat.zero_add] at this; exact this
    obtain ⟨e2, e3, e4⟩ := last_wide _ (line1 (t.drop j)) 0 0 0 (Nat.le_refl _) (Nat.le_refl _) (by omega) (Nat.le_refl _)
    have e2' : lastC (cols 2 (line1 (t.drop j))) ≤ lastC (cols 3 (line1 (t.drop j))) := e2
    have e3' : lastC (cols 3 (line1 (t.drop j))) ≤ 2 * lastC (cols 2 (line1 (t.drop j))) := e3
    have e4' : lastC (cols 3 (line1 (t.drop j))) ≤ (line1 (t.drop j)).length := by rw [Nat.zero_add] at e4; exact e4
    dsimp only
    rw [e1]
    generalize line1 (t.drop j) = w at *
    generalize lastC (cols 2 w) = a at *
    generalize lastC (cols 3 w) = b at *
    have hw : IntKind.i64.wrap (2 * (a : Int)) = 2 * (a : Int) := w64 (by omega) (by omega)
    have f1 : (a : Int) ≤ (b : Int) := by omega
    have f2 : (b : Int) ≤ (w.length : Int) := by omega
    have f3 : (b : Int) ≤ 2 * (a : Int) := by omega
    simp only [bindO_val, pure_tup, List.getElem?_cons_zero, List.getElem?_cons_succ, inat, pure_neq, bne_self_eq_false, iteP_bool, Bool.false_eq_true, if_false, pure_eql, beq_self_eq_true, if_true, pure_lens, pure_leq, f1, f2, f3, decide_true, pure_mul, hw]
end Go.Ab.Place

/-
  Place: lines, joined.
-/
namespace Go.Ab.Place
open Go Go.Ab

/-- What is joined ahead of a line. -/
def ahead (s : List UInt8) (i : Nat) : List UInt8 := match (linesL s)[i]? with
  | some j => s.take (j - 1)
  | none => s

theorem line_next {s : List UInt8} {i j : Nat} (hi : (linesL s)[i]? = some j) : s.take j ++ line1 (s.drop j) = ahead s (i + 1) := by
  obtain ⟨a1, a2, a3, a4⟩ := next_gt hi
  unfold ahead
  by_cases hc : i + 1 < (linesL s).length
  · rw [a3 hc]
    dsimp only
    rw [show j + (line1 (s.drop j)).length + 1 - 1 = j + (line1 (s.drop j)).length by omega, List.take_add, line1_take]
  · rw [List.getElem?_eq_none_iff.2 (by omega), a4 (by omega), List.take_append_drop]

theorem line_nl {s : List UInt8} {i j : Nat} (hi : (linesL s)[i + 1]? = some j) : 1 ≤ j ∧ j ≤ s.length ∧ s.take (j - 1) ++ [10] = s.take j := by
  have hlt : i < (linesL s).length := by have := (List.getElem?_eq_some_iff.1 hi).1; omega
  have hg : (linesL s)[i]? = some (linesL s)[i] := List.getElem?_eq_getElem hlt
  generalize (linesL s)[i] = m at *
  have hn := linesL_next hg
  rw [hi] at hn
  split at hn
  · rename_i hm
    cases hn
    have hl := line1_lt hm
    simp only [List.length_drop] at hl
    refine ⟨by omega, by omega, ?_⟩
    rw [show m + (line1 (s.drop m)).length + 1 - 1 = m + (line1 (s.drop m)).length by omega]
    have h10 : s[m + (line1 (s.drop m)).length]? = some 10 := by
      have key : ∀ w : List UInt8, 10 ∈ w → w[(line1 w).length]? = some 10 := by
        intro w
        induction w with
        | nil => intro h; cases h
        | cons c w ih =>
          intro h
          unfold line1 at ih ⊢
          rw [List.takeWhile_cons]
          by_cases hc : c = 10
          · subst hc; rfl
          · have hc' : (c != 10) = true := by simpa using hc
            rw [if_pos hc']
            rcases List.mem_cons.1 h with rfl | h
            · exact absurd rfl hc
            · simpa using ih h
      have := key _ hm
      rwa [List.getElem?_drop] at this
    rw [List.take_add_one, h10]; rfl
  · cases hn

theorem law_joins (s : List UInt8) (hs : s.length ≤ 9223372036854775807) :
    runK (cfg0 B0 fun _ => .cl) fn7 .cl noHandler 0 [.cv (.str s)] () = some (.bool true, ()) := by
  rw [run7, shown_run, cut_run s hs]
  have hc := cut_len s
  generalize s.take 600 = t at *
  simp only [bindO_val]
  rw [lines_run t (by omega)]
  have hll := linesL_len t
  simp only [bindO_val, itemsP_sl, lenL_eq, ints_len, nI_eq]
  have hu0 : noUndef [.str t, .bool true, .int .i64 ((linesL t).length : Int), .str [], .int .i64 0] = true := rfl
  rw [hu0, chkO_true]
  refine loop_ind (fun st r => ∃ i : Nat, st = ([.str t, .bool true, .int .i64 ((linesL t).length : Int), .str (ahead t i), inat i, .sl 1 (ints (linesL t)) false], ()) ∧ r = (.bool true, ()) ∧ i ≤ (linesL t).length)
    (fun st => (linesL t).length - natP (nth st.1 4)) ?_ ⟨0, ?_, rfl, by omega⟩
  · rintro st r ⟨i, rfl, rfl, hi⟩
    simp only [nth_0, nth_1, nth_2, nth_3, nth_4, nth_5, inat, natP_int, Int.toNat_natCast, nI_eq, pure_lss, bindO_val, iteP_bool, itemsP_sl]
    by_cases hlt : i < (linesL t).length
    · right
      have hlt' : (i : Int) < ((linesL t).length : Int) := by omega
      have hg : (linesL t)[i]? = some (linesL t)[i] := List.getElem?_eq_getElem hlt
      generalize (linesL t)[i] = j at *
      have hL := Line_ok t (by omega) i j hg
      unfold inat at hL
      have hel := lines_el hg
      rw [itemsP_sl] at hel
      obtain ⟨a1, _, _, _⟩ := next_gt hg
      have hw : IntKind.i64.wrap ((i : Int) + 1) = ((i + 1 : Nat) : Int) := by rw [w64 (by omega) (by omega)]; omega
      have hnx := line_next hg
      have hl1 := line1_le (t.drop j)
      simp only [List.length_drop] at hl1
      have hcat : pureO (.bin .add .str false (.c (.str (t.take j))) (.c (.str (line1 (t.drop j))))) = some (.str (ahead t (i + 1))) := by
        rw [pure_cat _ _ (by simp [maxInt]; omega), hnx]
      have hlen : ((t.take j).length : Int) = (j : Int) := by simp; omega
      simp only [hlt', decide_true, if_true, hL, bindO_val, pure_tup, List.getElem?_cons_zero, List.getElem?_cons_succ, pure_gtr, pure_neq, bne_self_eq_false, iteP_bool, Bool.false_eq_true, if_false, natO_int, ltN_eq, hlt, chkO_true, addN_eq, Nat.zero_add, hel]
      by_cases hz : i = 0
      · subst hz
        have hj : j = 0 := by simpa [linesL] using hg.symm
        subst hj
        have h0 : ahead t 0 = t.take 0 := rfl
        have hn0 : ¬ (0 : Int) < ((0 : Nat) : Int) := by omega
        rw [h0]
        refine ⟨_, by
          simp only [hn0, decide_false, Bool.false_eq_true, if_false, pure_lens, bindO_val, pure_neq, hlen, bne_self_eq_false, iteP_bool, hcat, pure_add, hw], ⟨0 + 1, rfl, trivial, by omega⟩, by simp only [nth_4, natP_int, Int.toNat_natCast]; omega⟩
      · obtain ⟨i', rfl⟩ : ∃ i', i = i' + 1 := ⟨i - 1, by omega⟩
        obtain ⟨b1, b2, b3⟩ := line_nl hg
        have h0 : ahead t (i' + 1) = t.take (j - 1) := by unfold ahead; rw [hg]
        have hp0 : (0 : Int) < ((i' + 1 : Nat) : Int) := by omega
        have hcat1 : pureO (.bin .add .str true (.c (.str (t.take (j - 1)))) (.c (.str [10]))) = some (.str (t.take j)) := by
          rw [pure_cat _ _ (by simp [maxInt]; omega), b3]
        rw [h0]
        refine ⟨_, by
          simp only [hp0, decide_true, if_true, Bool.false_eq_true, if_false, hcat1, pure_lens, bindO_val, pure_neq, hlen, bne_self_eq_false, iteP_bool, hcat, pure_add, hw], ⟨i' + 1 + 1, rfl, trivial, by omega⟩, by simp only [nth_4, natP_int, Int.toNat_natCast]; omega⟩
    · left
      have hlt' : ¬ (i : Int) < ((linesL t).length : Int) := by omega
      have hb := Line_bad t (by omega) ((linesL t).length : Int) (Or.inr (by omega))
      have ha : ahead t i = t := by unfold ahead; rw [List.getElem?_eq_none_iff.2 (by omega)]
      simp [hlt', hb, ha]
  · rfl
end Go.Ab.Place

/-
  Place: the laws' calls.
-/
namespace Go.Ab.Place
open Go Go.Ab Go.Proofs

theorem tab_ok : ∀ f fn, tab0 f = some fn → compF cx0.P cx0.G (deadOf Tryd.prog f) f = some fn := by
  intro f fn h
  unfold tab0 at h
  split at h
  · cases h; exact comp3
  · cases h; exact comp4
  · cases h; exact comp5
  · cases h; exact comp6
  · cases h; exact comp7
  · cases h; exact comp8
  · cases h; exact comp9
  · cases h; exact comp10
  · cases h; exact comp11
  · cases h; exact comp12
  · cases h; exact comp13
  · cases h; exact comp14
  · cases h; exact comp15
  · cases h; exact comp16
  · cases h; exact comp17
  · cases h; exact comp18
  · cases h; exact comp19
  · cases h; exact comp20
  · cases h; exact comp21
  · cases h; exact comp22
  · cases h; exact comp23
  · cases h; exact comp24
  · cases h; exact comp25
  · cases h; exact comp26
  · cases h; exact comp27
  · cases h; exact comp28
  · cases h; exact comp29
  · cases h; exact comp30
  · cases h; exact comp32
  · cases h; exact comp33
  · cases h; exact comp34
  · cases h; exact comp35
  · cases h; exact comp36
  · cases h; exact comp37
  · cases h; exact comp38
  · cases h; exact comp39
  · cases h; exact comp44
  · cases h; exact comp49
  · cases h

theorem ats_calls {w : World} {I : Nat → Prop} (hI : ∀ b, I b → b < w.heap.size) (hw : cx0.Wd I w) (s : List UInt8) (hs : s.length ≤ 9223372036854775807) (a b c d : Int) :
    Calls Tryd.prog 3 #[.string ⟨s.toArray⟩, .int .i64 a, .int .i64 b, .int .i64 c, .int .i64 d] w fun e w' => e = .returned (.bool true) ∧ LawEnd w w' :=
  law_done (g := 3) (fn := fn3) rfl tab_ok (args := [.str s, .int .i64 a, .int .i64 b, .int .i64 c, .int .i64 d]) rfl (Nat.le_of_ble_eq_true rfl) (law_ats s hs a b c d) hI hw
    (vs := [.string ⟨s.toArray⟩, .int .i64 a, .int .i64 b, .int .i64 c, .int .i64 d])
    (.cons _ _ _ _ (.str s) (.cons _ _ _ _ (.int _ _) (.cons _ _ _ _ (.int _ _) (.cons _ _ _ _ (.int _ _) (.cons _ _ _ _ (.int _ _) .nil)))))

theorem back_calls {w : World} {I : Nat → Prop} (hI : ∀ b, I b → b < w.heap.size) (hw : cx0.Wd I w) (s : List UInt8) (hs : s.length ≤ 9223372036854775807) (a b c d : Int) :
    Calls Tryd.prog 4 #[.string ⟨s.toArray⟩, .int .i64 a, .int .i64 b, .int .i64 c, .int .i64 d] w fun e w' => e = .returned (.bool true) ∧ LawEnd w w' :=
  law_done (g := 4) (fn := fn4) rfl tab_ok (args := [.str s, .int .i64 a, .int .i64 b, .int .i64 c, .int .i64 d]) rfl (Nat.le_of_ble_eq_true rfl) (law_back s hs a b c d) hI hw
    (vs := [.string ⟨s.toArray⟩, .int .i64 a, .int .i64 b, .int .i64 c, .int .i64 d]) (.cons _ _ _ _ (.str s) (.cons _ _ _ _ (.int _ _) (.cons _ _ _ _ (.int _ _) (.cons _ _ _ _ (.int _ _) (.cons _ _ _ _ (.int _ _) .nil)))))

theorem orders_calls {w : World} {I : Nat → Prop} (hI : ∀ b, I b → b < w.heap.size) (hw : cx0.Wd I w) (s : List UInt8) (hs : s.length ≤ 9223372036854775807) (a b c : Int) :
    Calls Tryd.prog 5 #[.string ⟨s.toArray⟩, .int .i64 a, .int .i64 b, .int .i64 c] w fun e w' => e = .returned (.bool true) ∧ LawEnd w w' :=
  law_done (g := 5) (fn := fn5) rfl tab_ok (args := [.str s, .int .i64 a, .int .i64 b, .int .i64 c]) rfl (Nat.le_of_ble_eq_true rfl) (law_orders s hs a b c) hI hw
    (vs := [.string ⟨s.toArray⟩, .int .i64 a, .int .i64 b, .int .i64 c]) (.cons _ _ _ _ (.str s) (.cons _ _ _ _ (.int _ _) (.cons _ _ _ _ (.int _ _) (.cons _ _ _ _ (.int _ _) .nil))))

theorem bytes_calls {w : World} {I : Nat → Prop} (hI : ∀ b, I b → b < w.heap.size) (hw : cx0.Wd I w) (s : List UInt8) (hs : s.length ≤ 9223372036854775807) (a : Int) :
    Calls Tryd.prog 6 #[.string ⟨s.toArray⟩, .int .i64 a] w fun e w' => e = .returned (.bool true) ∧ LawEnd w w' :=
  law_done (g := 6) (fn := fn6) rfl tab_ok (args := [.str s, .int .i64 a]) rfl (Nat.le_of_ble_eq_true rfl) (law_bytes s hs a) hI hw
    (vs := [.string ⟨s.toArray⟩, .int .i64 a]) (.cons _ _ _ _ (.str s) (.cons _ _ _ _ (.int _ _) .nil))

theorem joins_calls {w : World} {I : Nat → Prop} (hI : ∀ b, I b → b < w.heap.size) (hw : cx0.Wd I w) (s : List UInt8) (hs : s.length ≤ 9223372036854775807) :
    Calls Tryd.prog 7 #[.string ⟨s.toArray⟩] w fun e w' => e = .returned (.bool true) ∧ LawEnd w w' :=
  law_done (g := 7) (fn := fn7) rfl tab_ok (args := [.str s]) rfl (Nat.le_of_ble_eq_true rfl) (law_joins s hs) hI hw
    (vs := [.string ⟨s.toArray⟩]) (.cons _ _ _ _ (.str s) .nil)

theorem lines_calls {w : World} {I : Nat → Prop} (hI : ∀ b, I b → b < w.heap.size) (hw : cx0.Wd I w) (s : List UInt8) (hs : s.length ≤ 9223372036854775807) (a b : Int) :
    Calls Tryd.prog 8 #[.string ⟨s.toArray⟩, .int .i64 a, .int .i64 b] w fun e w' => e = .returned (.bool true) ∧ LawEnd w w' :=
  law_done (g := 8) (fn := fn8) rfl tab_ok (args := [.str s, .int .i64 a, .int .i64 b]) rfl (Nat.le_of_ble_eq_true rfl) (law_lines s hs a b) hI hw
    (vs := [.string ⟨s.toArray⟩, .int .i64 a, .int .i64 b]) (.cons _ _ _ _ (.str s) (.cons _ _ _ _ (.int _ _) (.cons _ _ _ _ (.int _ _) .nil)))

theorem units_calls {w : World} {I : Nat → Prop} (hI : ∀ b, I b → b < w.heap.size) (hw : cx0.Wd I w) (s : List UInt8) (hs : s.length ≤ 9223372036854775807) (a : Int) :
    Calls Tryd.prog 9 #[.string ⟨s.toArray⟩, .int .i64 a] w fun e w' => e = .returned (.bool true) ∧ LawEnd w w' :=
  law_done (g := 9) (fn := fn9) rfl tab_ok (args := [.str s, .int .i64 a]) rfl (Nat.le_of_ble_eq_true rfl) (law_units s hs a) hI hw
    (vs := [.string ⟨s.toArray⟩, .int .i64 a]) (.cons _ _ _ _ (.str s) (.cons _ _ _ _ (.int _ _) .nil))
end Go.Ab.Place

/-
  Place: from the rows' condition to what the walks ask of the program's variables.
-/
namespace Go.Ab.Place
open Go Go.Ab Go.Proofs Go.Proofs.YtcjjjgodkgacmaaDoor

theorem p_et : Tryd.prog.globalNamed "errors.errorType" = some 0 := by kernel_rfl
theorem p_rt : (Tryd.prog.cutTypes.find? (·.1 == "internal/reflectlite.rtype")).map (·.2) = some 91 := by kernel_rfl
theorem p_oneRow : ((List.range 143).filter fun t => Tryd.prog.rowNamed t [101, 114, 114, 111, 114]) = [43] := by kernel_rfl
theorem p_size : Tryd.prog.types.size = 143 := by kernel_rfl

set_option maxRecDepth 100000 in
theorem vars_of_laid {W : World} (h : laidMetH Tryd.prog Rows.placeAtsRow.laid W) : Vars W := by
  have h' : laidMet Tryd.prog [("unicode/utf8.acceptRanges", Rows.laid_unicode_utf8_acceptRanges), ("unicode/utf8.first", Rows.laid_unicode_utf8_first)] W ∧ handlesMet Tryd.prog [("errors.errorType", Rows.laid_errors_errorType)] W := h
  refine ⟨?_, ?_⟩
  · obtain ⟨name, u, ty, e1, e2, e3, e4, e5⟩ := h'.2 _ (List.mem_singleton.2 rfl)
    have en : name = [101, 114, 114, 111, 114] := (Option.some.inj e1).symm
    subst en
    obtain rfl := Option.some.inj (p_rt.symm.trans e2)
    have hm : ty ∈ (List.range 143).filter fun t => Tryd.prog.rowNamed t [101, 114, 114, 111, 114] := List.mem_filter.2 ⟨List.mem_range.2 (by rw [← p_size]; exact e3), e4⟩
    rw [p_oneRow] at hm
    obtain rfl := List.mem_singleton.1 hm
    have hh : typeHandle Tryd.prog 43 = .pointer (some ⟨4, 43, none⟩) := by kernel_rfl
    rw [hh] at e5
    simpa using World.var?_cell p_et e5 0
  · exact utf8Tabs_of_reads (ρ := Tryd.lays197_ren) { Tryd.lays197 with } ⟨by kernel_rfl, by kernel_rfl, by kernel_rfl, by kernel_rfl, by kernel_rfl, by kernel_rfl, by kernel_rfl⟩
      (Lib.laidMet.reads h'.1 (.tail _ (.head _))) (Lib.laidMet.reads h'.1 (.head _))

theorem wd_of_vars {W : World} (h : Vars W) : cx0.Wd (fun b => b < W.heap.size) W := by
  refine ⟨?_, h⟩
  have h3 : 3 < W.heap.size := by
    have := (h.tabs.2 0 (by decide)).1
    rcases Nat.lt_or_ge 3 W.heap.size with h | h
    · exact h
    · simp [World.cell?, Array.getElem?_eq_none h] at this
  exact ⟨by show 0 < _; omega, by show 2 < _; omega, h3⟩
end Go.Ab.Place

/-
  Place: what the rows share: a start that fits.
-/
namespace Go.Ab.Place
open Go Go.Ab Go.Proofs Go.Proofs.YtcjjjgodkgacmaaDoor Go.ChangeShapes Go.WideShapes Go.RowKit

theorem p_own : ownKnob Tryd.prog.godebug = none := by kernel_rfl

def tabFirst : Array Value := ((List.range 256).map fun c => Value.int .u8 (Lib.firstT c)).toArray
def tabAcc : Array Value := ((List.range 16).flatMap fun i => [Value.int .u8 (Lib.accLo i), Value.int .u8 (Lib.accHi i)]).toArray
noncomputable def laidWorld (os : Os) : World :=
  let w0 := World.holding Tryd.prog os ⟨#[], #[], []⟩
  { w0 with heap := ((w0.heap.modify 0 fun
      | .cells _ t frozen => .cells #[.iface 91 (.agg #[.pointer (some ⟨4, 43, none⟩)])] t frozen
      | o => o).modify 2 fun
      | .cells _ t frozen => .cells tabFirst t frozen
      | o => o).modify 3 fun
      | .cells _ t frozen => .cells tabAcc t frozen
      | o => o }
theorem laidWorld_met (os : Os) (args : Array Value) : laidMetH Tryd.prog Rows.placeJoinsRow.laid ((laidWorld os).forCall (fun _ _ => 0) ⟨#[], args, []⟩).memory :=
  laidMetH_of_parts (laidMet_of_run' 8 (by kernel_rfl) (by kernel_rfl)) (by kernel_rfl)

theorem trod_five {H : Type} {enc : TypeId × Value → H} {P : Program} {w : World} {k : Nat} {reach : Nat → Bool} {apart : Bool} {t1 t2 t3 t4 t5 : TypeId} {vs : Array Value} {ds : List (DataW H)} {p : List MemPlace}
    (h : DataW.TrodAll enc P w k reach apart [t1, t2, t3, t4, t5] vs.toList ds p) :
    ∃ v1 v2 v3 v4 v5 d1 d2 d3 d4 d5 p1 p2 p3 p4 p5, vs = #[v1, v2, v3, v4, v5] ∧ ds = [d1, d2, d3, d4, d5] ∧ p = p1 ++ (p2 ++ p3 ++ p4 ++ p5) ∧ DataW.Trod enc P w k reach apart t1 v1 d1 p1 ∧ DataW.Trod enc P w k reach apart t2 v2 d2 p2 ∧ DataW.Trod enc P w k reach apart t3 v3 d3 p3 ∧ DataW.Trod enc P w k reach apart t4 v4 d4 p4 ∧ DataW.Trod enc P w k reach apart t5 v5 d5 p5 := by
  obtain ⟨v1, u1, d1, s1, p1, q1, hu, rfl, rfl, h1, g1⟩ := trodAll_cons h
  obtain ⟨v2, v3, v4, v5, d2, d3, d4, d5, p2, p3, p4, p5, hv, rfl, rfl, h2, h3, h4, h5⟩ := trodAll_four (args := u1.toArray) (by simpa using g1)
  refine ⟨v1, v2, v3, v4, v5, d1, d2, d3, d4, d5, p1, p2, p3, p4, p5, ?_, rfl, rfl, h1, h2, h3, h4, h5⟩
  have : u1 = [v2, v3, v4, v5] := by simpa using congrArg Array.toList hv
  subst this
  exact Array.toList_inj.1 hu
theorem trod_mk5 {H : Type} {enc : TypeId × Value → H} {P : Program} {w : World} {k : Nat} {reach : Nat → Bool} {apart : Bool} {t1 t2 t3 t4 t5 : TypeId} {v1 v2 v3 v4 v5 : Value} {d1 d2 d3 d4 d5 : DataW H} {p1 p2 p3 p4 p5 : List MemPlace}
    (h1 : DataW.Trod enc P w k reach apart t1 v1 d1 p1) (h2 : DataW.Trod enc P w k reach apart t2 v2 d2 p2) (h3 : DataW.Trod enc P w k reach apart t3 v3 d3 p3) (h4 : DataW.Trod enc P w k reach apart t4 v4 d4 p4) (h5 : DataW.Trod enc P w k reach apart t5 v5 d5 p5) :
    DataW.TrodAll enc P w k reach apart [t1, t2, t3, t4, t5] [v1, v2, v3, v4, v5] [d1, d2, d3, d4, d5] (p1 ++ (p2 ++ (p3 ++ (p4 ++ p5)))) :=
  ⟨p1, _, h1, trodAll_mk4 h2 h3 h4 h5, rfl⟩
end Go.Ab.Place
