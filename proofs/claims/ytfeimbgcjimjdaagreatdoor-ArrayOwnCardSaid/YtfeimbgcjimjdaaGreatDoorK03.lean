/-
  Part 3 of a proof: a machine of our own for the given program, its laws, and what it says of the program. Nothing here is a claim by itself.
-/
import Derived.Test.YtfeimbgcjimjdaaGreatDoorK02
import Derived.RangeFuncNested
import Derived.Test.YtfeimbgcjimjdaaGreatDoorK01
set_option linter.all false

namespace Go.Ab
def exOf : Ex → Exit
  | .normal => .normal
  | .exit id => if id < gbase then .exit id else .goto (id - gbase)
  | .ret => .ret
def jumpOf : Ex → Option Code
  | .normal => none
  | .exit id => some (if id < gbase then .exit id else .goto (id - gbase))
  | .ret => some .ret
def CodeOKr (cx : Cx) (M : Mach) (fuel : Nat) (r : RCode) (c : Code) : Prop :=
  ∀ (E : Type) (h : Handler E) (dep : Nat) (R : RelE E) (lp : Nat → Option Nat) (w0 : World) (I0 F0 O0 : Nat → Prop) (Hd : Nat → Option Obj) (suf : List Value) (ro : Option Nat) (st : St) (e : E) (x : Ex) (st2 : St) (e2 : E),
    evalC M fuel r h dep st e = some (x, st2, e2) → Ref cx lp R h dep w0 I0 F0 → (∀ l0, ro = some l0 → ∃ r0, Hd l0 = some (.loop r0)) →
    ∀ (a : Act) (w : World) (I F : Nat → Prop) (L : Loc) (Q : Exit → Act → World → Prop), SR lp I L st a.tmps.toList suf w → Fr cx w0 I0 F0 O0 Hd R e a.defers I F L w →
      (∀ a' w' I' F' L', SR lp I' L' st2 a'.tmps.toList suf w' → Fr cx w0 I0 F0 O0 Hd R e2 a'.defers I' F' L' w' → Q (exOf x) a' w') → c.wpIn (fen ro) 0 cx.P Q a w
def CodeOK (cx : Cx) (dd : Dead) (M : Mach) (fuel : Nat) (c : Code) : Prop :=
  ∀ (E : Type) (h : Handler E) (dep : Nat) (R : RelE E) (lp : Nat → Option Nat) (w0 : World) (I0 F0 O0 : Nat → Prop) (Hd : Nat → Option Obj) (suf : List Value) (ro : Option Nat) (st : St) (e : E) (x : Ex) (st2 : St) (e2 : E),
    evalC M fuel (compC cx.P cx.G dd c) h dep st e = some (x, st2, e2) → Ref cx lp R h dep w0 I0 F0 → (∀ l0, ro = some l0 → ∃ r0, Hd l0 = some (.loop r0)) →
    ∀ (a : Act) (w : World) (I F : Nat → Prop) (L : Loc) (Q : Exit → Act → World → Prop), SR lp I L st a.tmps.toList suf w → Fr cx w0 I0 F0 O0 Hd R e a.defers I F L w →
      (∀ a' w' I' F' L', SR lp I' L' st2 a'.tmps.toList suf w' → Fr cx w0 I0 F0 O0 Hd R e2 a'.defers I' F' L' w' → Q (exOf x) a' w') → c.wpIn (fen ro) 0 cx.P Q a w
section
variable {E : Type} {cx : Cx} {w0 : World} {I0 F0 O0 : Nat → Prop} {Hd : Nat → Option Obj} {R : RelE E} {e : E} {F : Nat → Prop} {lp : Nat → Option Nat} {suf tmv : List Value}
variable {I : Nat → Prop} {L : Loc} {st : St} {w : World} {ds : List Deferred}
theorem freezeV_ok (hs : SR lp I L st tmv suf w) (hf : Fr cx w0 I0 F0 O0 Hd R e ds I F L w) {x y : PV} {v : Value} {st' : St} (hx : RepV w I lp (some L) x v) (h : freezeV st x = some (y, st')) :
    ∃ I' L', SR lp I' L' st' tmv suf w ∧ Fr cx w0 I0 F0 O0 Hd R e ds I' F L' w ∧ RepV w I' lp none y v := by
  unfold freezeV at h
  split at h
  · rename_i hn
    cases h
    exact ⟨I, L, hs, hf, hx.shut (List.isEmpty_iff.1 hn)⟩
  · obtain ⟨hR, h⟩ := chk_some h
    cases h
    exact ⟨_, _, hs.freeze hR, hf.freeze _, shut_value hs hR hx fun nm hn => reach_mem _ _ nm hn⟩
def blk (L : Loc) (b : Nat) : Prop := ∃ nm C, L nm = some (some (b, C))
def recOf (rc : Loop) (p : Option Ex) : Loop :=
  match p with
  | none => { rc with state := .ready, pending := none }
  | some x => { rc with state := .done, pending := jumpOf x }
def relRec (w0 : World) (O0 : Nat → Prop) (R : RelE E) (lp : Nat → Option Nat) (l : Nat) (rc : Loop) (tm suf : List Value) : RelE (Rec E) where
  rel := fun r I F w => ∃ L Fo, SR lp I L r.1 tm suf w ∧ (∀ b, F b ↔ Fo b ∨ blk L b ∨ b = l) ∧ (∀ b, blk L b → ¬ Fo b ∧ b ≠ l ∧ (w0.heap.size ≤ b ∨ O0 b)) ∧ ¬ Fo l ∧
    (∀ nm nm' b C C', L nm = some (some (b, C)) → L nm' = some (some (b, C')) → nm = nm') ∧ w.heap[l]? = some (.loop (recOf rc r.2.1)) ∧ R.rel r.2.2 I Fo w
  stab := by
    rintro r I I' F w w' ⟨L, Fo, h1, h2, h3, h4, h5, h6, h7⟩ hI hk hsz
    exact ⟨L, Fo, h1.keeps hI (fun b hb => hk b (.inl hb)) (fun nm b C hn => hk b (.inr ((h2 b).2 (.inr (.inl ⟨nm, C, hn⟩))))), h2, h3, h4, h5,
      (hk l (.inr ((h2 l).2 (.inr (.inr rfl))))).trans h6, R.stab r.2.2 I I' Fo w w' h7 hI (fun b hb => hk b (hb.imp id fun hf => (h2 b).2 (.inl hf))) hsz⟩
theorem Ext.less {I F I' F' F2 : Nat → Prop} {w w' : World} (h : Ext I F w I' F' w') (hF : ∀ b, F2 b → F' b) : Ext I F w I' F2 w' :=
  ⟨h.os, h.tape, h.output, h.size, h.keep, h.subI, h.newI, fun b hb => h.newF b (hF b hb)⟩
theorem Fr.hput (hf : Fr cx w0 I0 F0 O0 Hd R e ds I F L w) {l : Nat} {ob ob' : Obj} (hl : Hd l = some ob) (hF0 : w0.heap.size ≤ l ∨ F0 l) (hds : ∀ D, D ∈ ds.map (·.target) → D ≠ .collected l) :
    Fr cx w0 I0 F0 O0 (fun b => if b = l then some ob' else Hd b) R e ds I F L (w.putObj l ob') := by
  obtain ⟨d1, d2, d3, d4, d5⟩ := hf.hld l ob hl
  have hk : ∀ b, b ≠ l → (w.putObj l ob').heap[b]? = w.heap[b]? := fun b hb => World.putObj_heap_other hb
  have hsz : (w.putObj l ob').heap.size = w.heap.size := World.putObj_size
  refine ⟨⟨hf.ext.os, hf.ext.tape, hf.ext.output, by rw [hsz]; exact hf.ext.size, fun b hb hF => ?_, hf.ext.subI, hf.ext.newI, hf.ext.newF⟩, ⟨fun b hb => by rw [hsz]; exact hf.sep.iB b hb, fun b hb => ⟨by rw [hsz]; exact (hf.sep.fB b hb).1, (hf.sep.fB b hb).2⟩⟩, hf.oF,
    fun nm b C hn => ⟨(hf.lB nm b C hn).1, by rw [hsz]; exact (hf.lB nm b C hn).2.1, (hf.lB nm b C hn).2.2⟩, hf.inj, ?_, ?_, ?_, ?_⟩
  · have hne : b ≠ l := fun e => by subst e; exact hF0.elim (fun h => by omega) hF
    exact (hk b hne).trans (hf.ext.keep b hb hF)
  · exact cx.stab I I w _ hf.wd (fun _ h => h) (fun b hb => hk b fun e => d2 (e ▸ hb)) (by rw [hsz]; exact Nat.le_refl _)
  · exact R.stab e I I F w _ hf.re (fun _ h => h) (fun b hb => hk b fun e => hb.elim (fun h => d2 (e ▸ h)) fun h => d3 (e ▸ h)) (by rw [hsz]; exact Nat.le_refl _)
  · have key : ∀ ds, Marks w0.heap.size I F L w ds → (∀ D, D ∈ ds.map (·.target) → D ≠ .collected l) → Marks w0.heap.size I F L (w.putObj l ob') ds := by
      intro ds h
      induction h with
      | nil => intro _; exact .nil
      | cons D ds h1 h2 h3 h4 h5 h6 h7 _ ih =>
        intro hne
        have hD : D ≠ l := fun e => hne (.collected D) (by simp) (by rw [e])
        exact .cons D ds h1 (by rw [hsz]; exact h2) h3 h4 h5 ((hk D hD).trans h6) h7 (ih fun D' hD' => hne D' (by simp at hD' ⊢; exact .inr hD'))
    exact key ds hf.mks hds
  · intro b ob2 hb
    by_cases hbl : b = l
    · subst hbl
      simp only [if_true, Option.some.injEq] at hb
      subst hb
      exact ⟨by rw [hsz]; exact d1, d2, d3, d4, World.putObj_heap_same d1⟩
    · simp only [hbl, if_false] at hb
      obtain ⟨g1, g2, g3, g4, g5⟩ := hf.hld b ob2 hb
      exact ⟨by rw [hsz]; exact g1, g2, g3, g4, (hk b hbl).trans g5⟩
theorem SR.hput {I : Nat → Prop} (hs : SR lp I L st tmv suf w) {l : Nat} (ob' : Obj) (hI : ¬ I l) (hL : ∀ nm C, L nm ≠ some (some (l, C))) : SR lp I L st tmv suf (w.putObj l ob') :=
  hs.keeps (fun _ h => h) (fun b hb => World.putObj_heap_other fun e => hI (e ▸ hb)) fun nm b C hn => World.putObj_heap_other fun e => hL nm C (e ▸ hn)
theorem setPs_rep {w : World} {I : Nat → Prop} {lp : Nat → Option Nat} {L : Option Loc} : ∀ (ps : List Nat) (vs : List PV) (us : List Value) (tm : List PV) (tv : Array Value), RepL w I lp L vs us → RepL w I lp L tm tv.toList → vs.length = ps.length →
    RepL w I lp L (setPs ps vs tm) ((ps.zip us).foldl (fun (tmps : Array Value) (x : Nat × Value) => tmps.setIfInBounds x.1 x.2) tv).toList := by
  intro ps
  induction ps with
  | nil => intro vs us tm tv hv ht _; cases vs <;> exact ht
  | cons p ps ih =>
    intro vs us tm tv hv ht hl
    cases hv with
    | nil => simp at hl
    | cons v u vs us h hs =>
      simp only [setPs, List.zip_cons_cons, List.foldl_cons]
      refine ih vs us _ _ hs ?_ (by simpa using hl)
      rw [Array.toList_setIfInBounds]
      exact ht.set p h
end
def roundH (M : Mach) (fuel : Nat) {E : Type} (h : Handler E) (dep : Nat) (ps : List Nat) (assign body : RCode) : Handler (Rec E) := fun l args r =>
  if l = dep then
    match r with
    | (s, none, e) =>
      if args.length = ps.length then
        match evalC M fuel assign h (dep + 1) { s with tmps := setPs ps args s.tmps, keep := s.tmps ++ s.keep } e with
        | some (.normal, s', e) => match evalC M fuel body h (dep + 1) s' e with
          | some (x, s', e) => some (x == .normal, ({ s' with tmps := s'.keep.take s.tmps.length, keep := s'.keep.drop s.tmps.length }, (if x = .normal then none else some x), e))
          | none => none
        | _ => none
      else none
    | _ => none
  else
    match r with
    | (s, p, e) => match h l args e with
      | some (b, e) => some (b, (s, p, e))
      | none => none
theorem evalC_range (M : Mach) (fuel : Nat) (f : RX) (ps : List Nat) (assign body : RCode) {E : Type} (h : Handler E) (dep : Nat) (st : St) (e : E) :
    evalC M fuel (.rangeFunc f ps assign body) h dep st e = (match freezeV st (f.ev st.tmps) with
      | some (.fn g cap, st) => match M.call (Rec E) (roundH M fuel h dep ps assign body) (dep + 1) g (.yld dep :: cap) (st, none, e) with
        | some (_, _, s, p, e) => some (p.getD .normal, s, e)
        | none => none
      | _ => none) := rfl
section round
variable {E : Type} {cx : Cx} {w0 : World} {I0 F0 O0 : Nat → Prop} {Hd : Nat → Option Obj} {R : RelE E} {lp : Nat → Option Nat} {suf : List Value}
variable {w1 : World} {I1 F1 : Nat → Prop} {dd : Dead} {M : Mach} {fuel : Nat} {h : Handler E} {dep : Nat}
theorem round_ok (href : Ref cx lp R h dep w0 I0 F0) (hx1 : Ext I0 F0 w0 I1 F1 w1) {l : Nat} {rc : Loop} {ps : Array Nat} {assign body : Code} {rb : RCode} (hps : rc.params = ps) (hra : rc.assign = assign) (hrb : rc.body = body)
    (hl0 : w0.heap.size ≤ l) (hca : CodeOK cx dd M fuel assign) (hcb : CodeOKr cx M fuel rb body) :
    HandOK cx (fun d => if d = dep then some l else lp d) (relRec w0 O0 R lp l rc rc.tmps.toList suf) I1 F1 w1 (roundH M fuel h dep ps.toList (compC cx.P cx.G dd assign) rb) := by
  obtain ⟨Ir, Fr_, wr, hand, hxr⟩ := href.hand
  rintro d args ⟨s, p, e⟩ b r' l' hh hl' vs I F w hrep hx hsep hwd ⟨L, Fo, g1, g2, g3, g4, g5, g6, g7⟩
  simp only at g1 g6 g7
  have hFl : F l := (g2 l).2 (.inr (.inr rfl))
  have hlw := (hsep.fB l hFl).1
  have hIl := (hsep.fB l hFl).2
  have hLl : ∀ nm C, L nm ≠ some (some (l, C)) := fun nm C hn => (g3 l ⟨nm, C, hn⟩).2.1 rfl
  have hxo : Ext Ir Fr_ wr I Fo w := (hxr.trans (hx1.trans hx)).less fun b hb => (g2 b).2 (.inl hb)
  have hsepo : IF I Fo w := ⟨hsep.iB, fun b hb => hsep.fB b ((g2 b).2 (.inl hb))⟩
  have hblk : ∀ nm b C, L nm = some (some (b, C)) → b < w.heap.size ∧ ¬ I b ∧ ¬ Fo b ∧ b ≠ l := fun nm b C hn => by
    have hb : blk L b := ⟨nm, C, hn⟩
    have hF := hsep.fB b ((g2 b).2 (.inr (.inl hb)))
    exact ⟨hF.1, hF.2, (g3 b hb).1, (g3 b hb).2.1⟩
  unfold roundH at hh
  by_cases hd : d = dep
  · subst hd
    simp only [if_true, Option.some.injEq] at hl' hh
    subst hl'
    cases p with
    | some x => simp at hh
    | none =>
      simp only at hh
      split at hh
      case isFalse => cases hh
      rename_i hlen
      split at hh
      case h_2 => cases hh
      rename_i s1 e1 hev1
      split at hh
      case h_2 => cases hh
      rename_i x s2 e2 hev2
      cases hh
      have hargs : vs.toArray.size = rc.params.size := by
        have := hrep.length
        rw [hps]
        simp only [List.size_toArray]
        have h2 : ps.toList.length = ps.size := Array.length_toList
        omega
      have hrec : w.heap[l]? = some (.loop (recOf rc none)) := g6
      refine ⟨_, _, _, _, run_yield hrec (by simpa [recOf] using hargs), ?_⟩
      refine roundIn_of_wpIn trivial ?_
      have hst0 : SR lp I L { s with tmps := setPs ps.toList args s.tmps, keep := s.tmps ++ s.keep }
          ((((recOf rc none).params.zip vs.toArray).foldl (fun tmps (x : Nat × Value) => tmps.setIfInBounds x.1 x.2) (recOf rc none).tmps)).toList (rc.tmps.toList ++ suf) w := by
        refine ⟨?_, g1.tm.append g1.kp, g1.ob, g1.dom⟩
        have := setPs_rep ps.toList args vs s.tmps rc.tmps (RepL.mono (fun _ h => h) (fun _ _ => rfl) (fun d l h => by cases h) (hrep.lift (some L))) g1.tm (by simpa using hlen)
        have hfold : (((recOf rc none).params.zip vs.toArray).foldl (fun tmps (x : Nat × Value) => tmps.setIfInBounds x.1 x.2) (recOf rc none).tmps) = (ps.toList.zip vs).foldl (fun (tmps : Array Value) (x : Nat × Value) => tmps.setIfInBounds x.1 x.2) rc.tmps := by
          simp only [recOf, hps]
          rw [← Array.foldl_toList, Array.toList_zip]
        rw [hfold]
        exact this
      have hfr0 : Fr cx w I F (blk L) (fun b => if b = l then some (.loop (recOf rc none)) else none) R e [] I Fo L w := by
        refine ⟨⟨rfl, rfl, rfl, Nat.le_refl _, fun _ _ _ => rfl, fun _ h => h, fun _ h => .inl h, fun b hb => .inl ((g2 b).2 (.inl hb))⟩, hsepo, fun b hb => (g2 b).2 (.inr (.inl hb)), fun nm b C hn => ?_, g5, hwd, g7, .nil, fun b ob hb => ?_⟩
        · obtain ⟨q1, q2, q3, q4⟩ := hblk nm b C hn
          exact ⟨.inr ⟨nm, C, hn⟩, q1, q2, q3⟩
        · by_cases hbl : b = l
          · subst hbl
            simp only [if_true, Option.some.injEq] at hb
            subst hb
            exact ⟨hlw, hIl, g4, hLl, hrec⟩
          · simp [hbl] at hb
      have href' : Ref cx lp R h (d + 1) w I F := ⟨⟨Ir, Fr_, wr, hand, hxr.trans (hx1.trans hx)⟩, fun d' l' hd' => Nat.lt_succ_of_lt (href.dep d' l' hd')⟩
      have hca' := hca E h (d + 1) R lp w I F (blk L) (fun b => if b = l then some (.loop (recOf rc none)) else none) (rc.tmps.toList ++ suf) (some l) _ e .normal s1 e1 hev1 href' (fun l0 he => by cases he; exact ⟨recOf rc none, by simp⟩)
      have hasn : (recOf rc none).assign = assign := hra
      have hbdy : (recOf rc none).body = body := hrb
      rw [hasn, hbdy]
      refine hca' { tmps := _, defers := [] } w I Fo L _ hst0 hfr0 ?_
      rintro a1 w2 I2 F2 L2 hs2 hf2
      have hheld := hf2.hld l (.loop (recOf rc none)) (by simp)
      obtain ⟨k1, k2, k3, k4, k5⟩ := hheld
      have hge : ∀ {I F : Nat → Prop} {L : Loc} {w' : World} {ds : List Deferred}, Marks w.heap.size I F L w' ds → ∀ D, D ∈ ds.map (·.target) → D ≠ .collected l := by
        intro I F L w' ds hm
        induction hm with
        | nil => intro D hD; simp at hD
        | cons D ds h1 _ _ _ _ _ _ _ ih =>
          intro D' hD'
          simp only [List.map_cons, List.mem_cons] at hD'
          rcases hD' with rfl | hD'
          · intro he; cases he; omega
          · exact ih D' hD'
      refine ⟨_, run_beginRound k5 rfl, ?_⟩
      have hf2' := hf2.hput (ob' := .loop { recOf rc none with state := .busy }) (l := l) (ob := .loop (recOf rc none)) (by simp) (.inr hFl) (hge hf2.mks)
      have hs2' := hs2.hput (.loop { recOf rc none with state := .busy }) k2 k4
      refine hcb E h (d + 1) R lp w I F (blk L) (fun b => if b = l then some (.loop { recOf rc none with state := .busy }) else if b = l then some (.loop (recOf rc none)) else none) (rc.tmps.toList ++ suf) (some l) _ e1 x s2 e2 hev2 href' (fun l0 he => by cases he; exact ⟨{ recOf rc none with state := .busy }, by simp⟩) a1 _ I2 F2 L2 _ hs2' hf2' ?_
      rintro a2 w3 I3 F3 L3 hs3 hf3
      have hheld3 := hf3.hld l (.loop { recOf rc none with state := .busy }) (by simp)
      obtain ⟨m1, m2, m3, m4, m5⟩ := hheld3
      have hend := run_endRound (P := cx.P) (jumpOf x) m5
      have hrc : ({ ({ recOf rc none with state := .busy } : Loop) with state := if (jumpOf x).isNone then .ready else .done, pending := jumpOf x } : Loop) = recOf rc (if x = .normal then none else some x) := by
        cases x <;> rfl
      rw [hrc] at hend
      have hf4 := hf3.hput (ob' := .loop (recOf rc (if x = .normal then none else some x))) (l := l) (ob := .loop { recOf rc none with state := .busy }) (by simp) (.inr hFl) (hge hf3.mks)
      have hs4 := hs3.hput (.loop (recOf rc (if x = .normal then none else some x))) m2 m4
      generalize hw4 : w3.putObj l (.loop (recOf rc (if x = .normal then none else some x))) = w4 at *
      have hl4 := hf4.hld l (.loop (recOf rc (if x = .normal then none else some x))) (by simp)
      obtain ⟨n1, n2, n3, n4, n5⟩ := hl4
      have hpost : (.bool (jumpOf x).isNone : Value) = .bool (x == .normal) ∧ ∃ I' F', Ext I F w I' F' w4 ∧ IF I' F' w4 ∧ cx.Wd I' w4 ∧
          (relRec w0 O0 R lp l rc rc.tmps.toList suf).rel ({ s2 with tmps := s2.keep.take s.tmps.length, keep := s2.keep.drop s.tmps.length }, (if x = .normal then none else some x), e2) I' F' w4 := by
        refine ⟨by cases x <;> rfl, I3, (fun b => F3 b ∨ blk L3 b ∨ b = l), ⟨hf4.ext.os, hf4.ext.tape, hf4.ext.output, hf4.ext.size, hf4.ext.keep, hf4.ext.subI, hf4.ext.newI, fun b hb => ?_⟩, ⟨hf4.sep.iB, fun b hb => ?_⟩, hf4.wd, L3, F3, ⟨?_, ?_, hs4.ob, hs4.dom⟩, fun b => Iff.rfl, fun b hb => ?_, n3, hf4.inj, n5, hf4.re⟩
        · rcases hb with hb | ⟨nm, C, hb⟩ | rfl
          · exact hf4.ext.newF b hb
          · exact (hf4.lB nm b C hb).1.elim .inr fun ho => .inl (hf4.oF b ho)
          · exact .inl hFl
        · rcases hb with hb | ⟨nm, C, hb⟩ | rfl
          · exact hf4.sep.fB b hb
          · exact ⟨(hf4.lB nm b C hb).2.1, (hf4.lB nm b C hb).2.2.1⟩
          · exact ⟨n1, n2⟩
        · have := hs4.kp.take s.tmps.length
          rwa [List.take_left' g1.tm.length.symm] at this
        · have := hs4.kp.drop s.tmps.length
          rwa [List.drop_left' g1.tm.length.symm] at this
        · obtain ⟨nm, C, hb⟩ := hb
          refine ⟨(hf4.lB nm b C hb).2.2.2, fun e => n4 nm C (e ▸ hb), ?_⟩
          have hsz := hx1.size
          have hsz2 := hx.size
          rcases (hf4.lB nm b C hb).1 with h1 | h1
          · exact .inl (by omega)
          · exact (g3 b h1).2.2
      obtain ⟨p1, p2⟩ := hpost
      cases x with
      | normal => exact ⟨_, _, hend, p1, p2⟩
      | exit id =>
        simp only [exOf]
        simp only [jumpOf] at hend p1
        by_cases hid : id < gbase
        · simp only [hid, if_true] at hend p1 ⊢; exact ⟨_, _, hend, p1, p2⟩
        · simp only [hid, if_false] at hend p1 ⊢; exact ⟨_, _, hend, p1, p2⟩
      | ret => exact ⟨_, _, hend, p1, p2⟩
  · simp only [hd, if_false] at hl' hh
    split at hh
    case h_2 => cases hh
    rename_i b1 e1 hhe
    cases hh
    obtain ⟨fn, tmps, as, bd, q1, q2⟩ := hand d args e b e1 l' hhe hl' vs I Fo w hrep hxo hsepo hwd g7
    refine ⟨fn, tmps, as, bd, q1, RoundIn.mono q2 fun en w' hq => ?_⟩
    cases en with
    | panicked chain => exact hq.elim
    | outgrown => exact hq.elim
    | returned v =>
      obtain ⟨rfl, I', Fo', r1, r2, r3, r4⟩ := hq
      have hoff : ∀ b, b < w.heap.size → ¬ I b → ¬ Fo b → ¬ I' b ∧ ¬ Fo' b ∧ w'.heap[b]? = w.heap[b]? := fun b h1 h2 h3 =>
        ⟨fun h => by rcases r1.newI b h with h | h | h <;> first | exact h2 h | exact h3 h | omega, fun h => by rcases r1.newF b h with h | h <;> first | exact h3 h | omega, r1.keep b h1 h3⟩
      have hsz := r1.size
      refine ⟨rfl, I', (fun b => Fo' b ∨ blk L b ∨ b = l), ⟨r1.os, r1.tape, r1.output, r1.size, fun b hb hF => r1.keep b hb fun h => hF ((g2 b).2 (.inl h)), r1.subI, fun b hb => ?_, fun b hb => ?_⟩, ⟨r2.iB, fun b hb => ?_⟩, r3, L, Fo',
        g1.keeps r1.subI (fun b hb => r1.sameI hsepo b hb) (fun nm b C hn => (hoff b (hblk nm b C hn).1 (hblk nm b C hn).2.1 (hblk nm b C hn).2.2.1).2.2), fun b => Iff.rfl, fun b hb => ?_, (hoff l hlw hIl g4).2.1, g5, (hoff l hlw hIl g4).2.2.trans g6, r4⟩
      · rcases r1.newI b hb with h | h | h
        · exact .inl h
        · exact .inr (.inl ((g2 b).2 (.inl h)))
        · exact .inr (.inr h)
      · rcases hb with hb | hb | rfl
        · exact (r1.newF b hb).imp (fun h => (g2 b).2 (.inl h)) id
        · exact .inl ((g2 b).2 (.inr (.inl hb)))
        · exact .inl hFl
      · rcases hb with hb | ⟨nm, C, hb⟩ | rfl
        · exact r2.fB b hb
        · obtain ⟨u1, u2, u3, _⟩ := hblk nm b C hb
          exact ⟨by omega, (hoff b u1 u2 u3).1⟩
        · exact ⟨by omega, (hoff b hlw hIl g4).1⟩
      · obtain ⟨nm, C, hn⟩ := hb
        obtain ⟨u1, u2, u3, u4⟩ := hblk nm b C hn
        exact ⟨(hoff b u1 u2 u3).2.1, u4, (g3 b ⟨nm, C, hn⟩).2.2⟩
end round
end Go.Ab


namespace Go.Ab
section
variable {E : Type} {cx : Cx} {w0 : World} {I0 F0 O0 : Nat → Prop} {Hd : Nat → Option Obj} {R : RelE E} {e e2 : E} {F : Nat → Prop} {lp : Nat → Option Nat} {suf : List Value}
variable {I : Nat → Prop} {L : Loc} {st st2 : St} {a : Act} {w : World} {dd : Dead} {M : Mach} {fuel : Nat} {h : Handler E} {dep : Nat}
theorem Fr.hold {ds : List Deferred} {Hd' : Nat → Option Obj} (hf : Fr cx w0 I0 F0 O0 Hd' R e ds I F L w) (hh : ∀ b ob, Hd b = some ob → Hd' b = some ob) : Fr cx w0 I0 F0 O0 Hd R e ds I F L w :=
  { hf with hld := fun b ob hb => hf.hld b ob (hh b ob hb) }
theorem enter_ok {ro : Option Nat} (hro : ∀ l0, ro = some l0 → ∃ r0, Hd l0 = some (.loop r0)) {ds : List Deferred} (hf : Fr cx w0 I0 F0 O0 Hd R e ds I F L w) (fn : FuncId) (tmps : Array Value) (ps : Array Tmp) (assign body : Code) :
    ∃ (l : Nat) (mark : List Deferred) (w1 : World) (rc : Loop), (Instr.enterLoop fn tmps ps assign body ro).run cx.P w = .ok (l, mark) w1 ∧ rc.params = ps ∧ rc.assign = assign ∧ rc.body = body ∧ rc.tmps = tmps ∧
      w1.heap[l]? = some (.loop (recOf rc none)) ∧ w.heap.size ≤ l ∧ l < w1.heap.size ∧ w1.os = w.os ∧ w1.tape = w.tape ∧ w1.output = w.output ∧ w.heap.size ≤ w1.heap.size ∧ (∀ b, b < w.heap.size → w1.heap[b]? = w.heap[b]?) ∧
      (mark = [] ∨ (mark = [{ target := .collected w.heap.size, args := #[] }] ∧ w1.heap[w.heap.size]? = some (.deferred (some [])) ∧ w.heap.size < l)) := by
  cases ro with
  | none =>
    refine ⟨_, _, _, { state := .ready, pending := none, fn, tmps, params := ps, assign, body, defers := w.heap.size }, run_enterLoop_outer fn tmps ps assign body, rfl, rfl, rfl, rfl, ?_, by omega, by simp, rfl, rfl, rfl, by simp; omega, fun b hb => ?_, .inr ⟨rfl, ?_, by omega⟩⟩
    · have := World.alloc_heap_new (w.alloc (.deferred (some []))) (.loop { state := .ready, pending := none, fn, tmps, params := ps, assign, body, defers := w.heap.size })
      simpa [recOf] using this
    · rw [heap_alloc_lt _ _ (by simp; omega), heap_alloc_lt _ _ hb]
    · rw [heap_alloc_lt _ _ (by simp)]; exact World.alloc_heap_new _ _
  | some l0 =>
    obtain ⟨r0, hr0⟩ := hro l0 rfl
    obtain ⟨_, _, _, _, hh⟩ := hf.hld l0 _ hr0
    refine ⟨_, _, _, { state := .ready, pending := none, fn, tmps, params := ps, assign, body, defers := r0.defers }, run_enterLoop_inner hh fn tmps ps assign body, rfl, rfl, rfl, rfl, ?_, Nat.le_refl _, by simp, rfl, rfl, rfl, by simp, fun b hb => heap_alloc_lt _ _ hb, .inl rfl⟩
    have := World.alloc_heap_new w (.loop { state := .ready, pending := none, fn, tmps, params := ps, assign, body, defers := r0.defers })
    simpa [recOf] using this
theorem range_ok (hM : CallOK cx M.call) (href : Ref cx lp R h dep w0 I0 F0) {ro : Option Nat} (hro : ∀ l0, ro = some l0 → ∃ r0, Hd l0 = some (.loop r0)) {f : Operand} {ps : Array Nat} {assign body : Code} {rb : RCode} (hca : CodeOK cx dd M fuel assign) (hcb : CodeOKr cx M fuel rb body)
    {rf : RX} (hrx : rx cx.G f = some rf) {x : Ex} (hev : evalC M fuel (.rangeFunc rf ps.toList (compC cx.P cx.G dd assign) rb) h dep st e = some (x, st2, e2))
    (hs : SR lp I L st a.tmps.toList suf w) (hf : Fr cx w0 I0 F0 O0 Hd R e a.defers I F L w) {Q : Exit → Act → World → Prop}
    (hQ : ∀ a' w' I' F' L', SR lp I' L' st2 a'.tmps.toList suf w' → Fr cx w0 I0 F0 O0 Hd R e2 a'.defers I' F' L' w' → Q (exOf x) a' w') : (Code.rangeFunc f ps assign body).wpIn (fen ro) 0 cx.P Q a w := by
  rw [evalC_range] at hev
  split at hev
  case h_2 => cases hev
  rename_i g cap st1 hfz
  split at hev
  case h_2 => cases hev
  rename_i r obs s p e3 hcall
  cases hev
  obtain ⟨I1, L1, hs1, hf1, hrep⟩ := freezeV_ok hs hf (ev_rep hs hf.wd hrx) hfz
  obtain ⟨caps, hfv, hcaps⟩ := inv_fn hrep
  refine wpIn_rangeFunc fun fn _ => ?_
  obtain ⟨l, mark, w1, rc, hent, c1, c2, c3, c4, c5, c6, c7, c8, c9, c10, c11, c12, c13⟩ := enter_ok (ro := ro) hro hf1 fn a.tmps ps assign body
  have hoff1 : ∀ b, I1 b ∨ F b ∨ blk L1 b → b < w.heap.size := fun b hb => by
    rcases hb with hb | hb | ⟨nm, C, hb⟩
    · exact hf1.sep.iB b hb
    · exact (hf1.sep.fB b hb).1
    · exact (hf1.lB nm b C hb).2.1
  have hs1' : SR lp I1 L1 st1 a.tmps.toList suf w1 := hs1.keeps (fun _ h => h) (fun b hb => c12 b (hoff1 b (.inl hb))) fun nm b C hn => c12 b (hoff1 b (.inr (.inr ⟨nm, C, hn⟩)))
  have hf1' : Fr cx w0 I0 F0 O0 Hd R e a.defers I1 F L1 w1 := hf1.own c8 c9 c10 c11 (fun b hb _ => c12 b hb) (fun _ h => h) (fun _ h => .inl h)
    (fun nm b C hn => ⟨by have := (hf1.lB nm b C hn).2.1; omega, (hf1.lB nm b C hn).2.2.1, .inr ⟨nm, C, hn⟩⟩) hf1.inj
  have hl0 : w0.heap.size ≤ l := by have := hf1.ext.size; omega
  have hx1 : Ext I0 F0 w0 I1 (fun b => F b ∨ blk L1 b ∨ b = l) w1 := ⟨hf1'.ext.os, hf1'.ext.tape, hf1'.ext.output, hf1'.ext.size, hf1'.ext.keep, hf1'.ext.subI, hf1'.ext.newI, fun b hb => by
    rcases hb with hb | ⟨nm, C, hb⟩ | rfl
    · exact hf1'.ext.newF b hb
    · exact (hf1'.lB nm b C hb).1.elim .inr fun ho => .inl (hf1'.oF b ho)
    · exact .inr hl0⟩
  have hhand := round_ok (O0 := O0) (M := M) (fuel := fuel) (suf := suf) href hx1 (l := l) (rc := rc) c1 c2 c3 hl0 hca hcb
  obtain ⟨hen, hcon⟩ := hM (Rec E) _ _ (dep + 1) (fun d => if d = dep then some l else lp d) _ _ w1 g (.yld dep :: cap) (st1, none, e) r obs (st2, p, e2) hcall hhand (fun d l' hd => by
    by_cases hdd : d = dep
    · omega
    · simp only [hdd, if_false] at hd
      have := href.dep d l' hd
      omega)
  have hll : lpLe lp (fun d => if d = dep then some l else lp d) := fun d l' hd => by
    have := href.dep d l' hd
    have hne : d ≠ dep := by omega
    simp [hne, hd]
  have hIl : ¬ I1 l := fun hb => by have := hf1.sep.iB l hb; omega
  have hFl : ¬ F l := fun hb => by have := (hf1.sep.fB l hb).1; omega
  have hLl : ¬ blk L1 l := fun hb => by have := hoff1 l (.inr (.inr hb)); omega
  have hcalls := hcon I1 (fun b => F b ∨ blk L1 b ∨ b = l) w1 (.func (.yield l) #[] #[] :: caps.toList) (Ext.refl _ _ _) ⟨hf1'.sep.iB, fun b hb => by
      rcases hb with hb | ⟨nm, C, hb⟩ | rfl
      · exact hf1'.sep.fB b hb
      · exact ⟨(hf1'.lB nm b C hb).2.1, (hf1'.lB nm b C hb).2.2.1⟩
      · exact ⟨c7, hIl⟩⟩ hf1'.wd ⟨L1, F, by rw [c4]; exact hs1', fun b => Iff.rfl, fun b hb => by
      obtain ⟨nm, C, hn⟩ := hb
      exact ⟨(hf1'.lB nm b C hn).2.2.2, fun e => hLl ⟨nm, C, e ▸ hn⟩, (hf1'.lB nm b C hn).1⟩, hFl, hf1'.inj, c5, hf1'.re⟩
    (.cons _ _ _ _ (.yld dep l (by simp)) (RepL.mono (fun _ h => h) (fun b hb => c12 b (hoff1 b (.inl hb))) hll hcaps))
  refine ⟨l, mark, w1, { target := .fn (.func g) caps, args := #[.func (.yield l) #[] #[]] }, w1, g, #[.func (.yield l) #[] #[]] ++ caps, w1, hent, ?_, fun _ _ => trivial, ?_, fun h => by simp [fen] at h, ?_⟩
  · have hfv' : a.eval f = .func (.func g) #[] caps := hfv
    have hcv : a.eval (.const (.func (.yield l) #[] #[])) = .func (.yield l) #[] #[] := rfl
    simp only [resolve, rangeCall, hfv', Deferred.ofValue]
    simp [hcv]
  · obtain ⟨fn', hfn, hname, hbody⟩ := hen
    have hb : ¬ fn'.body = none := by intro h; rw [h] at hbody; cases hbody
    have hname : ¬ fn'.name = "runtime.NumGoroutine" := by intro h; rw [h] at hname; simp at hname
    simp [invoke, callFunc, hfn, hname, hb]
  · have harr : (.func (.yield l) #[] #[] :: caps.toList).toArray = #[.func (.yield l) #[] #[]] ++ caps := by
      apply Array.ext'
      simp
    rw [harr] at hcalls
    refine callsIn_fen (CallsIn.mono' hcalls fun en w3 hr => ?_)
    cases en with
    | panicked chain => exact hr.elim
    | outgrown => exact hr.elim
    | returned v =>
      obtain ⟨I', F', ps', hce⟩ := hr
      obtain ⟨L', Fo, g1, g2, g3, g4, g5, g6, g7⟩ := hce.re
      simp only at g1 g6 g7
      have hoff : ∀ b, b < w1.heap.size → ¬ I1 b → ¬ F b → ¬ blk L1 b → b ≠ l → ¬ I' b ∧ ¬ F' b ∧ w3.heap[b]? = w1.heap[b]? := fun b h1 h2 h3 h4 h5 => by
        have hF : ¬ (F b ∨ blk L1 b ∨ b = l) := fun h => by rcases h with h | h | h <;> first | exact h3 h | exact h4 h | exact h5 h
        exact ⟨fun h => by rcases hce.ext.newI b h with h | h | h <;> first | exact h2 h | exact hF h | omega, fun h => by rcases hce.ext.newF b h with h | h <;> first | exact hF h | omega, hce.ext.keep b h1 hF⟩
      have hF'l : F' l := (g2 l).2 (.inr (.inr rfl))
      have hLl' : ∀ nm C, L' nm ≠ some (some (l, C)) := fun nm C hn => (g3 l ⟨nm, C, hn⟩).2.1 rfl
      have hnotF : ∀ b, ¬ F' b → ¬ Fo b ∧ ∀ nm C, L' nm ≠ some (some (b, C)) := fun b hb => ⟨fun h => hb ((g2 b).2 (.inl h)), fun nm C hn => hb ((g2 b).2 (.inr (.inl ⟨nm, C, hn⟩)))⟩
      have hsz := hce.ext.size
      have hmk : Marks w0.heap.size I' Fo L' w3 (mark ++ a.defers) := by
        have hm0 : Marks w0.heap.size I' Fo L' w3 a.defers := hf1.mks.move (by omega) fun D d1 d2 d3 d4 d5 => by
          obtain ⟨q1, q2, q3⟩ := hoff D (by omega) d3 d4 (fun ⟨nm, C, hn⟩ => d5 nm C hn) (by omega)
          exact ⟨q3.trans (c12 D d1), q1, (hnotF D q2).1, (hnotF D q2).2⟩
        rcases c13 with rfl | ⟨rfl, k1, k2⟩
        · exact hm0
        · obtain ⟨q1, q2, q3⟩ := hoff w.heap.size (by omega) (fun h => by have := hoff1 _ (.inl h); omega) (fun h => by have := hoff1 _ (.inr (.inl h)); omega) (fun h => by have := hoff1 _ (.inr (.inr h)); omega) (by omega)
          refine .cons w.heap.size _ hf1.ext.size (by omega) q1 (hnotF _ q2).1 (hnotF _ q2).2 (q3.trans k1) (fun d hd he => ?_) hm0
          have := hf1.mks.lt d.target (List.mem_map.2 ⟨d, hd, rfl⟩) _ he
          omega
      have hmne : ∀ D, D ∈ (mark ++ a.defers).map (·.target) → D ≠ .collected l := by
        intro D hD he
        rw [List.map_append] at hD
        rcases List.mem_append.1 hD with hD | hD
        · rcases c13 with rfl | ⟨rfl, k1, k2⟩
          · simp at hD
          · simp only [List.map_cons, List.map_nil, List.mem_singleton] at hD
            rw [hD] at he
            cases he
            omega
        · have := hf1.mks.lt D hD l he
          omega
      have hf3 : Fr cx w0 I0 F0 O0 (fun b => if b = l then some (.loop (recOf rc p)) else Hd b) R e2 (mark ++ a.defers) I' Fo L' w3 := by
        refine ⟨(hx1.trans hce.ext).less fun b hb => (g2 b).2 (.inl hb), ⟨hce.sep.iB, fun b hb => hce.sep.fB b ((g2 b).2 (.inl hb))⟩, hf1.oF, fun nm b C hn => ?_, g5, hce.wd, g7, hmk, fun b ob hb => ?_⟩
        · have hb : blk L' b := ⟨nm, C, hn⟩
          have hF := hce.sep.fB b ((g2 b).2 (.inr (.inl hb)))
          exact ⟨(g3 b hb).2.2, hF.1, hF.2, (g3 b hb).1⟩
        · by_cases hbl : b = l
          · subst hbl
            simp only [if_true, Option.some.injEq] at hb
            subst hb
            exact ⟨(hce.sep.fB b hF'l).1, (hce.sep.fB b hF'l).2, g4, hLl', g6⟩
          · simp only [hbl, if_false] at hb
            obtain ⟨d1, d2, d3, d4, d5⟩ := hf1.hld b ob hb
            obtain ⟨q1, q2, q3⟩ := hoff b (by omega) d2 d3 (fun ⟨nm, C, hn⟩ => d4 nm C hn) hbl
            exact ⟨by omega, q1, (hnotF b q2).1, (hnotF b q2).2, (q3.trans (c12 b d1)).trans d5⟩
      have hbusy : (recOf rc p).state ≠ .busy := by cases p <;> simp [recOf]
      have hend := run_endLoop (P := cx.P) g6 hbusy
      have hf4 := hf3.hput (ob' := .loop { recOf rc p with state := .exhausted }) (l := l) (ob := .loop (recOf rc p)) (by simp) (.inl hl0) hmne
      have hf5 : Fr cx w0 I0 F0 O0 Hd R e2 (mark ++ a.defers) I' Fo L' (w3.putObj l (.loop { recOf rc p with state := .exhausted })) := hf4.hold fun b ob hb => by
        have hlt := (hf1.hld b ob hb).1
        have hbl : b ≠ l := by omega
        simp [hbl, hb]
      have hs5 : SR lp I' L' st2 a.tmps.toList suf (w3.putObj l (.loop { recOf rc p with state := .exhausted })) := by
        rw [c4] at g1
        exact g1.hput _ (hce.sep.fB l hF'l).2 hLl'
      refine ⟨(recOf rc p).pending, _, hend, ?_⟩
      have hq := hQ { a with defers := mark ++ a.defers } _ I' Fo L' hs5 hf5
      cases p with
      | none => exact hq
      | some x =>
        cases x with
        | normal => exact hq
        | exit id =>
          generalize w3.putObj l (.loop { recOf rc (some (.exit id)) with state := .exhausted }) = wz at hq ⊢
          simp only [Option.getD_some, exOf] at hq
          simp only [recOf, jumpOf]
          by_cases hid : id < gbase
          · simp only [hid, if_true] at hq ⊢; exact wpIn_exit hq
          · simp only [hid, if_false] at hq ⊢; exact wpIn_goto hq
        | ret => exact wpIn_ret hq
end
end Go.Ab


namespace Go.Ab
theorem stepR_scope' {P : Program} {b : Frame} {a : Act} {k : List Item} {cs : List Frame} {w : World} {c : Code} : step P (lone (b.atR a (.code (.scope c) :: k)) cs w) = .next (lone (b.atR a (.code c :: .inScope c :: k)) cs w) :=
  step_lone_go (by simp [Go.stepG, Go.stepG.exec, Frame.atR])
theorem stepR_inScope' {P : Program} {b : Frame} {a : Act} {k : List Item} {cs : List Frame} {w : World} {c : Code} : step P (lone (b.atR a (.inScope c :: k)) cs w) = .next (lone (b.atR a k) cs w) :=
  step_lone_go (by simp [Go.stepG, Go.stepG.exec, Frame.atR])
def plainX : Ex → Prop
  | .exit id => id < gbase
  | _ => True
theorem wpIn_scope' {F : Fence} {n : Nat} {P : Program} {Q : Exit → Act → World → Prop} {a : Act} {w : World} {c : Code} {x : Ex} (hx : plainX x) (h : c.wpIn F n P (fun e a w => e = exOf x ∧ Q e a w) a w) : (Code.scope c).wpIn F n P Q a w := by
  intro b k cs hro hb hr
  have h0 : (lone (b.atR a (.code (.scope c) :: k)) cs w).fenced P F := fenced_calm hb hr rfl
  obtain ⟨e, a₁, w₁, ⟨rfl, hq⟩, harr⟩ := h b (.inScope c :: k) cs hro hb hr
  cases x with
  | normal => exact ⟨.normal, a₁, w₁, hq, .head h0 stepR_scope' (StepsIn.trans harr (.one (fenced_calm hb hr rfl) stepR_inScope'))⟩
  | exit id =>
    simp only [plainX] at hx
    simp only [exOf, hx, if_true] at hq harr
    have hx : exitTo id (.inScope c :: k) = exitTo id k := by simp [exitTo]
    exact ⟨.exit id, a₁, w₁, hq, fun k' hk => .head h0 stepR_scope' (harr.1 k' (by rw [hx]; exact hk)),
      fun hr' hk => let ⟨k₁, h1, h2⟩ := harr.2 hr' (by rw [hx]; exact hk); ⟨k₁, h1, .head h0 stepR_scope' h2⟩⟩
  | ret => exact ⟨.ret, a₁, w₁, hq, .of_steps (.one h0 stepR_scope') harr⟩
theorem wpIn_scope_goto {F : Fence} {n : Nat} {P : Program} {Q : Exit → Act → World → Prop} {a : Act} {w : World} {c rest : Code} {l : Nat} {x : Ex} (hl : findLabel c l = some rest) (hx : plainX x)
    (h : c.wpIn F n P (fun e a w => e = .goto l ∧ rest.wpIn F n P (fun e a w => e = exOf x ∧ Q e a w) a w) a w) : (Code.scope c).wpIn F n P Q a w := by
  intro b k cs hro hb hr
  have h0 : (lone (b.atR a (.code (.scope c) :: k)) cs w).fenced P F := fenced_calm hb hr rfl
  have hg : gotoIn l (.inScope c :: k) = some (.code rest :: .inScope c :: k) := by simp [gotoIn, hl]
  obtain ⟨e, a₁, w₁, ⟨rfl, hq⟩, harr⟩ := h b (.inScope c :: k) cs hro hb hr
  have h1 := harr.1 _ hg
  obtain ⟨e, a₂, w₂, ⟨rfl, hq⟩, harr⟩ := hq b (.inScope c :: k) cs hro hb hr
  cases x with
  | normal => exact ⟨.normal, a₂, w₂, hq, .head h0 stepR_scope' (StepsIn.trans h1 (StepsIn.trans harr (.one (fenced_calm hb hr rfl) stepR_inScope')))⟩
  | exit id =>
    simp only [plainX] at hx
    simp only [exOf, hx, if_true] at hq harr
    have hx : exitTo id (.inScope c :: k) = exitTo id k := by simp [exitTo]
    exact ⟨.exit id, a₂, w₂, hq, fun k' hk => .head h0 stepR_scope' (h1.trans (harr.1 k' (by rw [hx]; exact hk))),
      fun hr' hk => let ⟨k₁, g1, g2⟩ := harr.2 hr' (by rw [hx]; exact hk); ⟨k₁, g1, .head h0 stepR_scope' (h1.trans g2)⟩⟩
  | ret => exact ⟨.ret, a₂, w₂, hq, .of_steps (.head h0 stepR_scope' h1) harr⟩
theorem wpIn_loop_n {F : Fence} {n : Nat} {P : Program} {Q : Exit → Act → World → Prop} {c : Code} (K : Nat → Act → World → Prop) (round : ∀ m a w, K m a w → ∃ m', m = m' + 1 ∧ c.wpIn F n P (Exit.then (K m') Q) a w) {m : Nat} {a : Act} {w : World} (h : K m a w) :
    (Code.loop c).wpIn F n P Q a w := by
  classical
  have least : ∀ a w, (∃ m, K m a w) → ∃ m, K m a w ∧ ∀ j, K j a w → m ≤ j := by
    intro a w ⟨m, hm⟩
    induction m using Nat.strongRecOn with
    | _ m ih =>
      by_cases hj : ∃ j, j < m ∧ K j a w
      · obtain ⟨j, hj1, hj2⟩ := hj; exact ih j hj1 hj2
      · exact ⟨m, hm, fun j hk => Nat.le_of_not_lt fun hlt => hj ⟨j, hlt, hk⟩⟩
  refine wpIn_loop (fun a w => ∃ m, K m a w) (fun a w => if h : ∃ m, K m a w then Classical.choose (least a w h) else 0) ⟨m, h⟩ fun a w hk => ?_
  obtain ⟨q1, q2⟩ := Classical.choose_spec (least a w hk)
  obtain ⟨m', hm', hwp⟩ := round _ a w q1
  refine wpIn_mono hwp fun e a' w' hq => ?_
  cases e <;> simp only [Exit.then] at hq ⊢ <;> first | exact hq | skip
  refine ⟨⟨m', hq⟩, ?_⟩
  have hex : ∃ m, K m a' w' := ⟨m', hq⟩
  have hle := (Classical.choose_spec (least a' w' hex)).2 m' hq
  simp only [dif_pos hex, dif_pos hk]
  omega
section
variable {cx : Cx} {dd : Dead} {M : Mach} {fuel : Nat}
def SplitOK (cx : Cx) (dd : Dead) (M : Mach) (fuel : Nat) (c : Code) : Prop :=
  ∀ (l : Nat) (y z : RCode), splitR l c (compC cx.P cx.G dd c) = some (y, z) → CodeOKr cx M fuel (.seq y z) c ∧ ∃ rest, findLabel c l = some rest ∧ CodeOKr cx M fuel z rest
theorem seq_okr {r1 r2 : RCode} {c1 c2 : Code} (h1 : CodeOKr cx M fuel r1 c1) (h2 : CodeOKr cx M fuel r2 c2) : CodeOKr cx M fuel (.seq r1 r2) (.seq c1 c2) := by
  intro E h dep R lp w0 I0 F0 O0 Hd suf ro st e x st2 e2 hev href hro a w I F L Q hs hf hQ
  simp only [evalC] at hev
  refine wpIn_seq ?_
  split at hev
  · rename_i st3 e3 g1
    exact h1 E h dep R lp w0 I0 F0 O0 Hd suf ro st e .normal st3 e3 g1 href hro a w I F L _ hs hf fun a' w' I' F' L' hs' hf' =>
      h2 E h dep R lp w0 I0 F0 O0 Hd suf ro st3 e3 x st2 e2 hev href hro a' w' I' F' L' Q hs' hf' hQ
  · rename_i hne
    refine h1 E h dep R lp w0 I0 F0 O0 Hd suf ro st e x st2 e2 hev href hro a w I F L _ hs hf fun a' w' I' F' L' hs' hf' => ?_
    have := hQ a' w' I' F' L' hs' hf'
    cases x with
    | normal => exact (hne _ _ hev).elim
    | exit id =>
      simp only [exOf] at this ⊢
      split <;> rename_i hid
      · simp only [hid, if_true] at this; exact this
      · simp only [hid, if_false] at this; exact this
    | ret => exact this
theorem split_none (l : Nat) : ∀ c : Code, splitR l c (compC cx.P cx.G dd c) = none → findLabel c l = none := by
  intro c
  induction c with
  | seq c1 c2 ih1 ih2 =>
    intro h
    simp only [compC, splitR] at h
    split at h
    · cases h
    · rename_i g1
      split at h
      · cases h
      · rename_i g2
        simp [findLabel, ih1 g1, ih2 g2]
  | label l' =>
    intro h
    simp only [splitR] at h
    split at h
    · cases h
    · rename_i hl
      simp [findLabel, hl]
  | _ => intro _; simp [findLabel]
theorem evalC_assoc {y z r : RCode} {E : Type} {h : Handler E} {dep : Nat} {st : St} {e : E} : evalC M fuel (.seq y (.seq z r)) h dep st e = evalC M fuel (.seq (.seq y z) r) h dep st e := by
  simp only [evalC]
  cases evalC M fuel y h dep st e with
  | none => rfl
  | some p =>
    obtain ⟨x, s, e⟩ := p
    cases x <;> rfl
theorem split_seq {c1 c2 : Code} (h1 : CodeOK cx dd M fuel c1) (s1 : SplitOK cx dd M fuel c1) (h2 : CodeOK cx dd M fuel c2) (s2 : SplitOK cx dd M fuel c2) : SplitOK cx dd M fuel (.seq c1 c2) := by
  intro l y z h
  simp only [compC, splitR] at h
  split at h
  · rename_i x' y' g1
    cases h
    obtain ⟨q1, rest, q2, q3⟩ := s1 l _ _ g1
    refine ⟨?_, .seq rest c2, by simp [findLabel, q2], seq_okr q3 h2⟩
    have := seq_okr q1 h2
    intro E h dep R lp w0 I0 F0 O0 Hd suf ro st e x st2 e2 hev
    rw [evalC_assoc] at hev
    exact this E h dep R lp w0 I0 F0 O0 Hd suf ro st e x st2 e2 hev
  · rename_i g1
    split at h
    case h_2 => cases h
    rename_i x' y' g2
    cases h
    obtain ⟨q1, rest, q2, q3⟩ := s2 l _ _ g2
    refine ⟨?_, rest, by simp [findLabel, split_none l c1 g1, q2], q3⟩
    have := seq_okr (cx := cx) (M := M) (fuel := fuel) h1 q1
    intro E h dep R lp w0 I0 F0 O0 Hd suf ro st e x st2 e2 hev
    rw [← evalC_assoc] at hev
    exact this E h dep R lp w0 I0 F0 O0 Hd suf ro st e x st2 e2 hev
theorem scope_ok {c : Code} (h : CodeOK cx dd M fuel c) (s : SplitOK cx dd M fuel c) : CodeOK cx dd M fuel (.scope c) := by
  have plain : ∀ (r : RCode), CodeOKr cx M fuel r c → CodeOKr cx M fuel (.scope r) (.scope c) := by
    intro r h E hd dep R lp w0 I0 F0 O0 Hd suf ro st e x st2 e2 hev href hro a w I F L Q hs hf hQ
    simp only [evalC] at hev
    have key : evalC M fuel r hd dep st e = some (x, st2, e2) ∧ plainX x := by
      split at hev
      · rename_i id s3 e3 hq
        split at hev
        · rename_i hid; cases hev; exact ⟨hq, hid⟩
        · cases hev
      · rename_i hne
        refine ⟨hev, ?_⟩
        cases x with
        | exit id => exact (hne _ _ _ hev).elim
        | _ => trivial
    exact wpIn_scope' key.2 (h E hd dep R lp w0 I0 F0 O0 Hd suf ro st e x st2 e2 key.1 href hro a w I F L _ hs hf fun a' w' I' F' L' hs' hf' => ⟨rfl, hQ a' w' I' F' L' hs' hf'⟩)
  show CodeOKr cx M fuel (scopeR c (compC cx.P cx.G dd c)) (.scope c)
  unfold scopeR
  split
  · exact plain _ h
  rename_i l hl
  split
  case h_2 => exact plain _ h
  rename_i y z hsp
  obtain ⟨q1, rest, q2, q3⟩ := s l y z hsp
  intro E hd dep R lp w0 I0 F0 O0 Hd suf ro st e x st2 e2 hev href hro a w I F L Q hs hf hQ
  cases hy : evalC M fuel y hd dep st e with
  | none => simp [evalC, hy] at hev
  | some p =>
    obtain ⟨xy, sy, ey⟩ := p
    by_cases hj : xy = .exit (gbase + l)
    · subst hj
      have hz : evalC M fuel z hd dep sy ey = some (x, st2, e2) ∧ plainX x := by
        simp only [evalC, hy, if_true] at hev
        split at hev
        · rename_i id s3 e3 hq
          split at hev
          · rename_i hid; cases hev; exact ⟨hq, hid⟩
          · cases hev
        · rename_i hne
          refine ⟨hev, ?_⟩
          cases x with
          | exit id => exact (hne _ _ _ hev).elim
          | _ => trivial
      have hyz : evalC M fuel (.seq y z) hd dep st e = some (.exit (gbase + l), sy, ey) := by simp [evalC, hy]
      refine wpIn_scope_goto q2 hz.2 (q1 E hd dep R lp w0 I0 F0 O0 Hd suf ro st e _ _ _ hyz href hro a w I F L _ hs hf fun a' w' I' F' L' hs' hf' => ⟨?_, ?_⟩)
      · have : ¬ gbase + l < gbase := by omega
        simp [exOf, this]
      · exact q3 E hd dep R lp w0 I0 F0 O0 Hd suf ro sy ey x st2 e2 hz.1 href hro a' w' I' F' L' _ hs' hf' fun a2 w2 I2 F2 L2 hs2 hf2 => ⟨rfl, hQ a2 w2 I2 F2 L2 hs2 hf2⟩
    · refine plain _ q1 E hd dep R lp w0 I0 F0 O0 Hd suf ro st e x st2 e2 ?_ href hro a w I F L Q hs hf hQ
      rw [← hev]
      simp only [evalC, hy]
      cases xy with
      | normal => rfl
      | ret => rfl
      | exit id =>
        have : id ≠ gbase + l := fun h => hj (by rw [h])
        simp [this]
theorem seq_norm {r : RCode} {c : Code} {g : List (Nat × Nat)} (h : CodeOKr cx M fuel r c) : CodeOKr cx M fuel (.seq r (.norm g)) c := by
  intro E hh dep R lp w0 I0 F0 O0 Hd suf ro st e x st2 e2 hev href hro a w I F L Q hs hf hQ
  simp only [evalC] at hev
  cases hq : evalC M fuel r hh dep st e with
  | none => rw [hq] at hev; cases hev
  | some p =>
    obtain ⟨y, s, e3⟩ := p
    rw [hq] at hev
    refine h E hh dep R lp w0 I0 F0 O0 Hd suf ro st e y s e3 hq href hro a w I F L Q hs hf fun a' w' I' F' L' hs' hf' => ?_
    cases y with
    | normal =>
      cases hev
      obtain ⟨L2, hs2, hf2⟩ := norm_ok [] g hs' hf'
      exact hQ a' w' I' F' L2 hs2 hf2
    | exit id => cases hev; exact hQ a' w' I' F' L' hs' hf'
    | ret => cases hev; exact hQ a' w' I' F' L' hs' hf'
theorem code_ok2 (hM : CallOK cx M.call) (hsp : MSp cx M) (hloc : MLoc M) : ∀ c : Code, CodeOK cx dd M fuel c ∧ SplitOK cx dd M fuel c := by
  intro c
  induction c with
  | skip =>
    refine ⟨?_, fun l0 y z hsp0 => by simp [splitR] at hsp0⟩
    intro E h dep R lp w0 I0 F0 O0 Hd suf ro st e x st2 e2 hev href hro a w I F L Q hs hf hQ
    simp only [compC, evalC, Option.some.injEq, Prod.mk.injEq] at hev
    obtain ⟨rfl, rfl, rfl⟩ := hev
    exact wpIn_skip (hQ a w I F L hs hf)
  | region id ops draw =>
    refine ⟨?_, fun l0 y z hsp0 => by simp [splitR] at hsp0⟩
    intro E h dep R lp w0 I0 F0 O0 Hd suf ro st e x st2 e2 hev href hro a w I F L Q hs hf hQ
    cases draw with
    | false =>
      simp only [compC, Bool.false_eq_true, if_false, evalC] at hev
      split at hev
      · rename_i st3 e3 hr
        cases hev
        exact region_plain hM hsp href hr hs hf fun a' w' I' F' L' hs' hf' => let ⟨L2, h1, h2⟩ := tidy_ok (dd id) hs' hf'; hQ a' w' I' F' L2 h1 h2
      · cases hev
    | true =>
      simp only [compC, if_true] at hev
      split at hev
      · rename_i l hb
        simp only [evalC] at hev
        split at hev
        · rename_i st3 e3 hr
          cases hev
          exact region_draw hM hsp hloc href hb hr hs hf fun a' w' I' F' L' hs' hf' => let ⟨L2, h1, h2⟩ := tidy_ok (dd id) hs' hf'; hQ a' w' I' F' L2 h1 h2
        · cases hev
      · simp [evalC] at hev
  | seq c1 c2 ih1 ih2 => exact ⟨seq_okr ih1.1 ih2.1, split_seq ih1.1 ih1.2 ih2.1 ih2.2⟩
  | cond c c1 c2 ih1 ih2 =>
    refine ⟨?_, fun l0 y z hsp0 => by simp [splitR] at hsp0⟩
    intro E h dep R lp w0 I0 F0 O0 Hd suf ro st e x st2 e2 hev href hro a w I F L Q hs hf hQ
    simp only [compC] at hev
    split at hev
    · rename_i rc hrc
      simp only [evalC] at hev
      have hc := ev_rep hs hf.wd hrc
      split at hev
      · rename_i hb
        rw [hb] at hc
        exact wpIn_cond_true (inv_bool hc) (ih1.1 E h dep R lp w0 I0 F0 O0 Hd suf ro st e x st2 e2 hev href hro a w I F L Q hs hf hQ)
      · rename_i hb
        rw [hb] at hc
        exact wpIn_cond_false (inv_bool hc) (ih2.1 E h dep R lp w0 I0 F0 O0 Hd suf ro st e x st2 e2 hev href hro a w I F L Q hs hf hQ)
      · cases hev
    · simp [evalC] at hev
  | block id c ih =>
    refine ⟨?_, fun l0 y z hsp0 => by simp [splitR] at hsp0⟩
    intro E h dep R lp w0 I0 F0 O0 Hd suf ro st e x st2 e2 hev href hro a w I F L Q hs hf hQ
    simp only [compC] at hev
    split at hev
    case isFalse => simp [evalC] at hev
    rename_i hidb
    simp only [evalC] at hev
    refine wpIn_block ?_
    split at hev
    · rename_i id' st3 e3 h1
      refine ih.1 E h dep R lp w0 I0 F0 O0 Hd suf ro st e (.exit id') st3 e3 h1 href hro a w I F L _ hs hf fun a' w' I' F' L' hs' hf' => ?_
      by_cases hid : id' = id
      · rw [if_pos hid] at hev
        cases hev
        subst hid
        simp only [exOf, hidb, Exit.inBlock, if_true]
        exact hQ a' w' I' F' L' hs' hf'
      · rw [if_neg hid] at hev
        cases hev
        have := hQ a' w' I' F' L' hs' hf'
        simp only [exOf] at this ⊢
        split <;> rename_i hid2
        · simp only [hid2, if_true] at this; simp only [Exit.inBlock, hid, if_false]; exact this
        · simp only [hid2, if_false] at this; exact this
    · rename_i hne
      refine ih.1 E h dep R lp w0 I0 F0 O0 Hd suf ro st e x st2 e2 hev href hro a w I F L _ hs hf fun a' w' I' F' L' hs' hf' => ?_
      have := hQ a' w' I' F' L' hs' hf'
      cases x with
      | normal => exact this
      | exit id => exact (hne _ _ _ hev).elim
      | ret => exact this
  | loop c ih =>
    refine ⟨?_, fun l0 y z hsp0 => by simp [splitR] at hsp0⟩
    intro E h dep R lp w0 I0 F0 O0 Hd suf ro st e x st2 e2 hev href hro a w I F L Q hs hf hQ
    simp only [compC, evalC] at hev
    split at hev
    case h_2 => cases hev
    rename_i x' st3 e3 hr
    cases hev
    generalize hds : undefs (norm (dedup (asgOf (compC cx.P cx.G dd c))) (dedup (growOf (compC cx.P cx.G dd c))) st) = ds at hr
    obtain ⟨L1, hs1, hf1⟩ := norm_ok (dedup (asgOf (compC cx.P cx.G dd c))) (dedup (growOf (compC cx.P cx.G dd c))) hs hf
    generalize norm (dedup (asgOf (compC cx.P cx.G dd c))) (dedup (growOf (compC cx.P cx.G dd c))) st = st1 at hr hs1
    refine wpIn_loop_n (fun m a w => ∃ st e I F L, SR lp I L st a.tmps.toList suf w ∧ Fr cx w0 I0 F0 O0 Hd R e a.defers I F L w ∧ repeatN (fun (s : St × E) => match evalC M fuel (compC cx.P cx.G dd c) h dep s.1 s.2 with
      | some (.normal, st, e) => some (.inl (norm (dedup (asgOf (compC cx.P cx.G dd c))) (dedup (growOf (compC cx.P cx.G dd c))) (drop ds st), e))
      | some (x, st, e) => some (.inr (x, st, e))
      | none => none) m (st, e) = some (x, st2, e2)) ?_ (m := fuel) ⟨st1, e, I, F, L1, hs1, hf1, hr⟩
    rintro m a w ⟨st, e, I, F, L, hs, hf, hrep⟩
    cases m with
    | zero => simp [repeatN] at hrep
    | succ m =>
      refine ⟨m, rfl, ?_⟩
      simp only [repeatN] at hrep
      cases hb : evalC M fuel (compC cx.P cx.G dd c) h dep st e with
      | none => rw [hb] at hrep; simp at hrep
      | some r =>
        obtain ⟨xb, stb, eb⟩ := r
        rw [hb] at hrep
        refine ih.1 E h dep R lp w0 I0 F0 O0 Hd suf ro st e xb stb eb hb href hro a w I F L _ hs hf fun a' w' I' F' L' hs' hf' => ?_
        cases xb with
        | normal =>
          simp only at hrep
          obtain ⟨L2, hs2, hf2⟩ := drop_ok ds hs' hf'
          obtain ⟨L3, hs3, hf3⟩ := norm_ok (dedup (asgOf (compC cx.P cx.G dd c))) (dedup (growOf (compC cx.P cx.G dd c))) hs2 hf2
          exact ⟨_, eb, I', F', L3, hs3, hf3, hrep⟩
        | exit id =>
          simp only [Option.some.injEq, Prod.mk.injEq] at hrep
          obtain ⟨rfl, rfl, rfl⟩ := hrep
          have := hQ a' w' I' F' L' hs' hf'
          simp only [exOf] at this ⊢
          split <;> rename_i hid
          · simp only [hid, if_true] at this; exact this
          · simp only [hid, if_false] at this; exact this
        | ret =>
          simp only [Option.some.injEq, Prod.mk.injEq] at hrep
          obtain ⟨rfl, rfl, rfl⟩ := hrep
          exact hQ a' w' I' F' L' hs' hf'
  | rangeFunc f ps assign body iha ihb =>
    refine ⟨?_, fun l0 y z hsp0 => by simp [splitR] at hsp0⟩
    intro E h dep R lp w0 I0 F0 O0 Hd suf ro st e x st2 e2 hev href hro a w I F L Q hs hf hQ
    simp only [compC] at hev
    split at hev
    · rename_i rf hrf
      unfold rangeR at hev
      split at hev
      · exact range_ok hM href hro iha.1 ihb.1 hrf hev hs hf hQ
      · simp only [evalC] at hev
        obtain ⟨L1, hs1, hf1⟩ := norm_ok [] (dedup (growOf (compC cx.P cx.G dd body))) hs hf
        exact range_ok hM href hro iha.1 (seq_norm ihb.1) hrf hev hs1 hf1 hQ
    · simp [evalC] at hev
  | exit id =>
    refine ⟨?_, fun l0 y z hsp0 => by simp [splitR] at hsp0⟩
    intro E h dep R lp w0 I0 F0 O0 Hd suf ro st e x st2 e2 hev href hro a w I F L Q hs hf hQ
    simp only [compC] at hev
    split at hev
    case isFalse => simp [evalC] at hev
    rename_i hid
    simp only [evalC, Option.some.injEq, Prod.mk.injEq] at hev
    obtain ⟨rfl, rfl, rfl⟩ := hev
    have := hQ a w I F L hs hf
    simp only [exOf, hid, if_true] at this
    exact wpIn_exit this
  | scope c ih => exact ⟨scope_ok ih.1 ih.2, fun l y z h => by simp [splitR] at h⟩
  | label l =>
    refine ⟨?_, ?_⟩
    rotate_left
    intro l0 y z hsp0
    simp only [splitR] at hsp0
    split at hsp0
    case isFalse => cases hsp0
    rename_i hl
    cases hsp0
    have hk : CodeOKr cx M fuel .skip .skip := by
      intro E h dep R lp w0 I0 F0 O0 Hd suf ro st e x st2 e2 hev href hro a w I F L Q hs hf hQ
      simp only [evalC, Option.some.injEq, Prod.mk.injEq] at hev
      obtain ⟨rfl, rfl, rfl⟩ := hev
      exact wpIn_skip (hQ a w I F L hs hf)
    refine ⟨?_, .skip, by simp [findLabel, hl], hk⟩
    intro E h dep R lp w0 I0 F0 O0 Hd suf ro st e x st2 e2 hev href hro a w I F L Q hs hf hQ
    simp only [evalC, Option.some.injEq, Prod.mk.injEq] at hev
    obtain ⟨rfl, rfl, rfl⟩ := hev
    exact wpIn_label (hQ a w I F L hs hf)
    intro E h dep R lp w0 I0 F0 O0 Hd suf ro st e x st2 e2 hev href hro a w I F L Q hs hf hQ
    simp only [compC, evalC, Option.some.injEq, Prod.mk.injEq] at hev
    obtain ⟨rfl, rfl, rfl⟩ := hev
    exact wpIn_label (hQ a w I F L hs hf)
  | goto l =>
    refine ⟨?_, fun l0 y z hsp0 => by simp [splitR] at hsp0⟩
    intro E h dep R lp w0 I0 F0 O0 Hd suf ro st e x st2 e2 hev href hro a w I F L Q hs hf hQ
    simp only [compC, evalC, Option.some.injEq, Prod.mk.injEq] at hev
    obtain ⟨rfl, rfl, rfl⟩ := hev
    have hn : ¬ gbase + l < gbase := by omega
    have := hQ a w I F L hs hf
    simp only [exOf, hn, if_false, Nat.add_sub_cancel_left] at this
    exact wpIn_goto this
  | ret =>
    refine ⟨?_, fun l0 y z hsp0 => by simp [splitR] at hsp0⟩
    intro E h dep R lp w0 I0 F0 O0 Hd suf ro st e x st2 e2 hev href hro a w I F L Q hs hf hQ
    simp only [compC, evalC, Option.some.injEq, Prod.mk.injEq] at hev
    obtain ⟨rfl, rfl, rfl⟩ := hev
    exact wpIn_ret (hQ a w I F L hs hf)
  | refuse r =>
    refine ⟨?_, fun l0 y z hsp0 => by simp [splitR] at hsp0⟩
    intro E h dep R lp w0 I0 F0 O0 Hd suf ro st e x st2 e2 hev
    simp [compC, evalC] at hev
theorem code_ok (hM : CallOK cx M.call) (hsp : MSp cx M) (hloc : MLoc M) : ∀ c : Code, CodeOK cx dd M fuel c := fun c => (code_ok2 hM hsp hloc c).1
end
end Go.Ab


namespace Go.Ab
section
variable {E : Type} {cx : Cx} {w0 : World} {I0 F0 O0 : Nat → Prop} {Hd : Nat → Option Obj} {R : RelE E} {e : E} {F : Nat → Prop} {lp : Nat → Option Nat} {suf tmv : List Value}
variable {I : Nat → Prop} {L : Loc} {st : St} {w : World} {ds : List Deferred}
theorem res_ok (hs : SR lp I L st tmv suf w) {P : Program} : ∀ (rv : List ResultVar) (rs : List RRes) (vs : List PV), compRes P rv = some rs → resVs st rs = some vs →
    ∃ us, (rv.mapM fun (r : ResultVar) => (match r with
      | .tmp t => pure (tmv.toArray.getD t undef)
      | .cell a t => do loadVar t (← asAddr (tmv.toArray.getD a undef)) : Sem Value)).run P w = .ok us w ∧ RepL w I lp (some L) vs us := by
  intro rv
  induction rv with
  | nil =>
    intro rs vs h1 h2
    simp only [compRes, Option.some.injEq] at h1
    subst h1
    simp only [resVs, Option.some.injEq] at h2
    subst h2
    exact ⟨[], rfl, .nil⟩
  | cons r rv ih =>
    intro rs vs h1 h2
    simp only [compRes] at h1
    split at h1
    case h_2 => cases h1
    rename_i x xs hx hxs
    cases h1
    simp only [resVs] at h2
    split at h2
    case h_2 => cases h2
    rename_i v vs' hv hvs
    cases h2
    obtain ⟨us, q1, q2⟩ := ih xs vs' hxs hvs
    have key : ∃ u, (match r with
      | .tmp t => pure (tmv.toArray.getD t undef)
      | .cell a t => do loadVar t (← asAddr (tmv.toArray.getD a undef)) : Sem Value).run P w = .ok u w ∧ RepV w I lp (some L) v u := by
      cases r with
      | tmp t =>
        simp only [Option.some.injEq] at hx
        subst hx
        simp only [resV, Option.some.injEq] at hv
        subst hv
        refine ⟨tmv.toArray.getD t undef, rfl, ?_⟩
        rw [agg_getD]
        exact hs.tm.getD t undef
      | cell a t =>
        simp only [Option.map_eq_some_iff] at hx
        obtain ⟨⟨n, ag⟩, hsh, rfl⟩ := hx
        simp only [resV] at hv
        split at hv
        case h_2 => cases hv
        rename_i nm o hr
        split at hv
        case h_2 => cases hv
        rename_i cs hlk
        have hrep := hs.tm.getD a undef
        rw [hr] at hrep
        obtain ⟨b, C, hL, hbv⟩ := inv_ref hrep
        obtain ⟨p, hp, ha⟩ := hs.ob nm _ hlk
        rw [hL] at hp; cases hp
        obtain ⟨c, E', hb, hC, hone, hrl⟩ := ha
        obtain ⟨u, hu, hru⟩ := sel_rep hrl hone.1 hv
        refine ⟨u, ?_, hru⟩
        have hld := run_loadAt_row (P := P) hsh (off := o) hb (v := u) (by
          cases ag
          · simpa using hu
          · simp only [if_true] at hu ⊢
            refine ⟨by simpa using hu.1, ?_⟩
            rw [hu.2, extract_list, Nat.add_sub_cancel_left])
        show (do loadVar t (← asAddr (tmv.toArray.getD a undef)) : Sem Value).run P w = _
        rw [agg_getD]
        have hbv' : tmv.toArray.toList.getD a undef = .pointer (some ⟨b, o, none⟩) := hbv
        rw [hbv']
        simpa [Instr.loadAt, Instr.sureAddr, asAddr] using hld
    obtain ⟨u, k1, k2⟩ := key
    refine ⟨u :: us, ?_, .cons _ _ _ _ k2 q2⟩
    rw [List.mapM_cons, Sem.run_bind, k1, Result.andThen_ok, Sem.run_bind, q1, Result.andThen_ok]
    rfl
theorem one_rep {vs : List PV} {us : List Value} (h : RepL w I lp (some L) vs us) : RepV w I lp (some L) (oneOf vs) (if h : us.toArray.size = 1 then us.toArray[0] else .tuple us.toArray) := by
  match vs, us, h with
  | [], [], .nil => exact .tup [] #[] .nil
  | [v], [u], .cons _ _ _ _ h .nil => exact h
  | v :: v' :: vs, u :: u' :: us, h =>
    have : ¬ (u :: u' :: us).toArray.size = 1 := by simp
    rw [dif_neg this]
    exact .tup _ _ (by simpa using h)
theorem mapM_some {σ : Nm → Option Ob} : ∀ (S : List Nm) (obs : List Ob), S.mapM σ = some obs → obs.length = S.length ∧ ∀ (j : Nat) (nm : Nm), S[j]? = some nm → ∃ ob, obs[j]? = some ob ∧ σ nm = some ob := by
  intro S
  induction S with
  | nil => intro obs h; simp at h; subst h; exact ⟨rfl, fun j nm h => by simp at h⟩
  | cons x S ih =>
    intro obs h
    rw [List.mapM_cons] at h
    simp only [Option.bind_eq_bind, Option.bind_eq_some_iff, Option.pure_def, Option.some.injEq] at h
    obtain ⟨ob, ho, obs', hos, rfl⟩ := h
    obtain ⟨q1, q2⟩ := ih obs' hos
    refine ⟨by simp [q1], fun j nm hj => ?_⟩
    cases j with
    | zero => simp at hj; subst hj; exact ⟨ob, rfl, ho⟩
    | succ j => simp at hj; obtain ⟨o, h1, h2⟩ := q2 j nm hj; exact ⟨o, by simpa using h1, h2⟩
theorem nodupN_inj : ∀ {S : List Nm}, nodupN S = true → ∀ (i j : Nat) (nm : Nm), S[i]? = some nm → S[j]? = some nm → i = j := by
  intro S
  induction S with
  | nil => intro _ i j nm h; simp at h
  | cons x S ih =>
    intro h i j nm hi hj
    simp only [nodupN, Bool.and_eq_true, Bool.not_eq_true'] at h
    obtain ⟨h1, h2⟩ := h
    have hx : x ∉ S := by simpa using h1
    cases i with
    | zero =>
      cases j with
      | zero => rfl
      | succ j => simp at hi hj; subst hi; exact absurd (List.mem_of_getElem? hj) hx
    | succ i =>
      cases j with
      | zero => simp at hi hj; subst hj; exact absurd (List.mem_of_getElem? hi) hx
      | succ j => simp at hi hj; rw [ih h2 i j nm hi hj]
theorem isArr_bare {ob : Ob} (h : isArr ob = true) : isArr ob.bare = true := by cases ob <;> first | exact h | rfl
theorem ObAt.bare {w : World} {I : Nat → Prop} {lp : Nat → Option Nat} {L : Loc} {ob : Ob} {p : Option (Nat × Nat)} (h : ObAt w I lp L ob p) : ObAt w I lp L ob.bare p := by
  cases p with
  | none => obtain ⟨k, kt, rfl⟩ := h; exact ⟨k, 0, rfl⟩
  | some p =>
    cases ob with
    | arr k kt xs => obtain ⟨c, E, h1, h2, h3, h4⟩ := h; exact ⟨c, E, h1, h2, ⟨h3.1, .inl rfl⟩, h4⟩
    | cells ty cs => exact h
    | map es => exact h
    | siter s p => exact h
theorem hand_ok {shut : Bool} (hs : SR lp I L st tmv suf w) (hf : Fr cx w0 I0 F0 (fun _ => False) Hd R e ds I F L w) {v v' : PV} {u : Value} {obs : List Ob} (hv : RepV w I lp (some L) v u) (h : handOver shut st v = some (v', obs)) :
    ∃ I' ps, CallEnd cx R lp I0 F0 w0 v' obs e u w I' F ps := by
  simp only [handOver] at h
  generalize hS : (if (nodupN (topsOf shut v) && (topsOf shut v).all fun nm => !(reach (look st.objs) deepest (v.names.filter fun nm => !(topsOf shut v).contains nm)).contains nm) = true then topsOf shut v else []) = S at h
  generalize hRn : reach (look st.objs) deepest (v.names.filter fun nm => !S.contains nm) = Rn at h
  split at h
  case h_2 => cases h
  rename_i obs' hm
  obtain ⟨hk, h⟩ := chk_some h
  cases h
  simp only [Bool.and_eq_true] at hk
  obtain ⟨hR, harr⟩ := hk
  obtain ⟨m1, m2⟩ := mapM_some S obs' hm
  have hSnd : nodupN S = true ∧ ∀ nm ∈ S, nm ∉ Rn := by
    by_cases hc : (nodupN (topsOf shut v) && (topsOf shut v).all fun nm => !(reach (look st.objs) deepest (v.names.filter fun nm => !(topsOf shut v).contains nm)).contains nm) = true
    · rw [if_pos hc] at hS
      subst hS
      rw [Bool.and_eq_true] at hc
      refine ⟨hc.1, fun nm hn => ?_⟩
      have := List.all_eq_true.1 hc.2 nm hn
      rw [hRn] at this
      simpa using this
    · rw [if_neg hc] at hS
      subst hS
      exact ⟨rfl, fun nm hn => by cases hn⟩
  obtain ⟨hnd, hdis⟩ := hSnd
  have hloc : ∀ (j : Nat) (nm : Nm), S[j]? = some nm → ∃ p ob, L nm = some p ∧ obs'[j]? = some ob ∧ ObAt w I lp L ob p := by
    intro j nm hj
    obtain ⟨ob, h1, h2⟩ := m2 j nm hj
    obtain ⟨p, hp, ha⟩ := hs.ob nm ob h2
    exact ⟨p, ob, hp, h1, ha⟩
  refine ⟨inR I L Rn, S.map (fun nm => (L nm).getD none), ?_⟩
  have hfz := hf.freeze Rn
  have hps : ∀ (j : Nat) (p : Option (Nat × Nat)), (S.map (fun nm => (L nm).getD none))[j]? = some p → ∃ nm, S[j]? = some nm ∧ L nm = some p := by
    intro j p hj
    rw [List.getElem?_map, Option.map_eq_some_iff] at hj
    obtain ⟨nm, h1, h2⟩ := hj
    obtain ⟨q, ob, hq, _, _⟩ := hloc j nm h1
    rw [hq] at h2
    simp only [Option.getD_some] at h2
    subst h2
    exact ⟨nm, h1, hq⟩
  refine ⟨hfz.ext, hfz.sep, hfz.wd, hfz.re, by rw [List.length_map, List.length_map, m1], ?_, ?_, ?_, ?_, by rw [List.all_map]; exact List.all_eq_true.2 fun ob ho => isArr_bare (List.all_eq_true.1 harr ob ho)⟩
  · intro j ob p hj hp
    obtain ⟨nm, h1, h2⟩ := hps j p hp
    obtain ⟨q, ob', hq, ho, ha⟩ := hloc j nm h1
    rw [h2] at hq; cases hq
    rw [List.getElem?_map, ho] at hj; cases hj
    have hj := ho
    refine ObAt.bare ?_
    exact (ha.mono (I' := inR I L Rn) (fun _ h => .inl h) (fun _ _ => rfl) (fun _ _ h => h) fun _ _ _ => rfl).ofArr (List.all_eq_true.1 harr _ (List.mem_of_getElem? hj))
  · intro j b C hj
    obtain ⟨nm, h1, h2⟩ := hps j _ hj
    obtain ⟨g1, g2, g3, g4⟩ := hf.lB nm b C h2
    refine ⟨g1.elim id fun h => h.elim, g2, ?_, g4⟩
    rintro (hb | ⟨nm', hm', C', hL'⟩)
    · exact g3 hb
    · have := hf.inj nm nm' b C C' h2 hL'
      subst this
      exact hdis nm (List.mem_of_getElem? h1) hm'
  · intro j j' b C C' h1 h2
    obtain ⟨nm, a1, a2⟩ := hps j _ h1
    obtain ⟨nm', b1, b2⟩ := hps j' _ h2
    have := hf.inj nm nm' b C C' a2 b2
    subst this
    exact nodupN_inj hnd j j' nm a1 b1
  · have hsub : SubOK w (inR I L Rn) lp L (some fun nm => if nm ∈ S then L nm else none) (fun nm => nm ∈ S ∨ nm ∈ Rn) (fun nm => if S.contains nm then none else closed (look st.objs) nm) := by
      intro nm p hn hp
      by_cases hm : nm ∈ S
      · have : S.contains nm = true := by simpa using hm
        simp only [this, if_true]
        exact ⟨_, rfl, by simp [hm, hp]⟩
      · have : S.contains nm = false := by simpa using hm
        simp only [this, Bool.false_eq_true, if_false]
        have := closed_ok hs hR (none) nm p (hn.resolve_left hm) hp
        cases hcl : closed (look st.objs) nm with
        | none => simp [closed] at hcl
        | some q =>
          rw [hcl] at this
          cases q with
          | none => trivial
          | some ob => exact this
    have h1 := RepV.subst (I' := inR I L Rn) (fun b hb => .inl hb) hsub hv (fun nm hn => by
      by_cases hm : nm ∈ S
      · exact .inl hm
      · refine .inr ?_
        rw [← hRn]
        exact reach_mem _ _ _ (List.mem_filter.2 ⟨hn, by simpa using hm⟩))
    refine RepV.rename (fun nm p hp => ?_) h1
    split at hp
    · rename_i hm
      have hidx := List.idxOf_lt_length_of_mem hm
      have hget : S[S.idxOf nm]? = some nm := by rw [List.getElem?_eq_getElem hidx]; simp
      simp [toIdx, locOf, locNew, hget, hp]
    · cases hp
theorem leaves_ok {P : Program} {fn : Func} {tmps : Array Value} {Rr : Ending → World → Prop} : ∀ {ds : List Deferred} {w : World} {lo : Nat} {I F : Nat → Prop} {L : Loc}, Marks lo I F L w ds → (∀ w' : World, w'.os = w.os → w'.tape = w.tape → w'.output = w.output → w'.heap.size = w.heap.size →
      (∀ b, (b < lo ∨ I b ∨ F b ∨ ∃ nm C, L nm = some (some (b, C))) → w'.heap[b]? = w.heap[b]?) → ∃ v, (results fn tmps).run P w' = .ok v w' ∧ Rr (.returned v) w') →
    LeavesInM Fence.wide 0 P fn tmps Rr ds .returning w := by
  intro ds
  induction ds with
  | nil =>
    intro w lo I F L _ h
    obtain ⟨v, h1, h2⟩ := h w rfl rfl rfl rfl fun _ _ => rfl
    exact ⟨v, h1, h2⟩
  | cons d ds ih =>
    intro w lo I F L hm h
    cases hm with
    | cons D _ h1 h2 h3 h4 h5 h6 h7 hr =>
      refine ⟨by simp, .inl ⟨D, _, rfl, run_takeDeferred h6, ?_⟩⟩
      have hk : ∀ b, b ≠ D → (w.putObj D (.deferred none)).heap[b]? = w.heap[b]? := fun b hb => World.putObj_heap_other hb
      have hsz : (w.putObj D (.deferred none)).heap.size = w.heap.size := World.putObj_size
      have hr' : Marks lo I F L (w.putObj D (.deferred none)) ds := by
        have key : ∀ ds, Marks lo I F L w ds → (∀ d ∈ ds, d.target ≠ .collected D) → Marks lo I F L (w.putObj D (.deferred none)) ds := by
          intro ds hm
          induction hm with
          | nil => intro _; exact .nil
          | cons D' ds g1 g2 g3 g4 g5 g6 g7 _ ih =>
            intro hne
            have hDD : D' ≠ D := fun e => hne { target := .collected D', args := #[] } List.mem_cons_self (by rw [e])
            exact .cons D' ds g1 (by rw [hsz]; exact g2) g3 g4 g5 ((hk D' hDD).trans g6) g7 (ih fun d hd => hne d (List.mem_cons_of_mem _ hd))
        exact key ds hr h7
      refine ih hr' fun w' e1 e2 e3 e4 e5 => h w' e1 e2 e3 (by rw [e4, hsz]) fun b hb => ?_
      have hne : b ≠ D := by
        rintro rfl
        rcases hb with hb | hb | hb | ⟨nm, C, hb⟩
        · omega
        · exact h3 hb
        · exact h4 hb
        · exact h5 nm C hb
      exact (e5 b hb).trans (hk b hne)
end
def TabOK (cx : Cx) (tab : FuncId → Option RFn) (dd : FuncId → Dead) : Prop := ∀ f fn, tab f = some fn → compF cx.P cx.G (dd f) f = some { fn with io := false, shut := false, leans := false }
theorem tab_fn {cx : Cx} {tab : FuncId → Option RFn} {dd : FuncId → Dead} (htab : TabOK cx tab dd) {g : FuncId} {rf : RFn} (hrf : tab g = some rf) : ∃ fn c, cx.P.funcs[g]? = some fn ∧ fn.body = some c ∧ compRes cx.P fn.results.toList = some rf.res ∧ ¬ (fn.name == "runtime.NumGoroutine") = true ∧ rf.nt = fn.ntmps ∧ rf.code = compC cx.P cx.G (dd g) c := by
  have hcf := htab g rf hrf
  unfold compF at hcf
  split at hcf
  case h_2 => cases hcf
  rename_i fn hfn
  split at hcf
  case h_2 => cases hcf
  rename_i c rs hbody hres
  split at hcf
  case isTrue => cases hcf
  rename_i hname
  obtain ⟨nt, code, res, io⟩ := rf
  simp only [Option.some.injEq, RFn.mk.injEq, and_true] at hcf
  obtain ⟨rfl, rfl, rfl⟩ := hcf
  exact ⟨fn, c, hfn, hbody, hres, hname, rfl, rfl⟩
theorem callOf_ok {cx : Cx} {M : Mach} {tab : FuncId → Option RFn} (hM : CallOK cx M.call) (hsp : MSp cx M) (hloc : MLoc M) {dd : FuncId → Dead} (htab : TabOK cx tab dd) (n : Nat) : CallOK cx (callOf M n tab) := by
    intro E h R dep lp Ir Fr_ wr g args e r obs e' hc hand hdep
    simp only [callOf] at hc
    split at hc
    · cases hc
    rename_i rf hrf
    obtain ⟨fn, c, hfn, hbody, hres, hname, hnt, hcode⟩ := tab_fn htab hrf
    rw [hnt, hcode] at hc
    split at hc
    case h_2 => cases hc
    rename_i x st2 e2 hev
    refine ⟨⟨fn, hfn, by simpa using hname, by rw [hbody]; rfl⟩, fun I F w vs hx hsep hwd hre hrep => ?_⟩
    have hend : x ≠ .normal → x = .ret ∨ ∃ id, x = .exit id := by cases x <;> simp
    have hxe : ∀ id, x ≠ .exit id := by rintro id rfl; simp at hc
    have hc2 : (match resVs st2 rf.res with
          | some vs => match handOver rf.shut st2 (oneOf vs) with
            | some (v, obs) => some (v, obs, e2)
            | none => none
          | none => none) = some (r, obs, e') := by
      cases x with
      | normal => exact hc
      | ret => exact hc
      | exit id => exact absurd rfl (hxe id)
    split at hc2
    case h_2 => cases hc2
    rename_i rvs hrvs
    split at hc2
    case h_2 => cases hc2
    rename_i v' obs' hho
    cases hc2
    refine callsIn_of_wp_marks hfn hbody trivial ?_
    have hlen := hrep.length
    have hst0 : SR lp I (fun _ => none) { tmps := args ++ List.replicate (fn.ntmps - args.length) .undef, objs := List.replicate fn.ntmps [], keep := [] } (vs.toArray ++ Array.replicate (fn.ntmps - vs.toArray.size) undef).toList [] w := by
      refine ⟨?_, .nil, fun nm ob hl => ?_, fun nm _ => rfl⟩
      · have h2 : RepL w I lp (some fun _ => none) (List.replicate (fn.ntmps - args.length) PV.undef) (List.replicate (fn.ntmps - args.length) undef) := RepL.undefs _ _ (by simp)
        have := (hrep.lift (some fun _ => none)).append h2
        simpa [hlen] using this
      · exfalso
        have hnone : look (List.replicate fn.ntmps []) nm = none := by
          unfold look
          cases hg : (List.replicate fn.ntmps ([] : List Ob))[nm.1]? with
          | none => rfl
          | some l =>
            have := List.eq_of_mem_replicate (List.mem_of_getElem? hg)
            subst this
            simp
        rw [hnone] at hl
        cases hl
    have hfr0 : Fr cx w I F (fun _ => False) (fun _ => none) R e [] I F (fun _ => none) w :=
      ⟨Ext.refl _ _ _, hsep, fun b hb => hb.elim, fun nm b C hn => (by cases hn), fun nm nm' b C C' hn => (by cases hn), hwd, hre, .nil, fun b ob hb => (by cases hb)⟩
    refine code_ok (dd := dd g) (M := M) hM hsp hloc c E h dep R lp w I F (fun _ => False) (fun _ => none) [] none _ e x st2 e' hev ⟨⟨Ir, Fr_, wr, hand, hx⟩, hdep⟩ (fun l0 he => by cases he) { tmps := _, defers := [] } w I F _ _ hst0 hfr0 ?_
    rintro a' w' I' F' L' hs' hf'
    have hpost : LeavesInM Fence.wide 0 cx.P fn a'.tmps (CallPost cx R lp I F w r obs e') a'.defers .returning w' := by
      refine leaves_ok hf'.mks fun w2 e1 e3 e4 e5 e6 => ?_
      have hkI : ∀ b, I' b → w2.heap[b]? = w'.heap[b]? := fun b hb => e6 b (.inr (.inl hb))
      have hkF : ∀ b, F' b → w2.heap[b]? = w'.heap[b]? := fun b hb => e6 b (.inr (.inr (.inl hb)))
      have hs2 : SR lp I' L' st2 a'.tmps.toList [] w2 := hs'.keeps (fun _ h => h) hkI fun nm b C hn => e6 b (.inr (.inr (.inr ⟨nm, C, hn⟩)))
      have hf2 : Fr cx w I F (fun _ => False) (fun _ => none) R e' [] I' F' L' w2 := by
        refine ⟨⟨e1.trans hf'.ext.os, e3.trans hf'.ext.tape, e4.trans hf'.ext.output, by rw [e5]; exact hf'.ext.size, fun b hb hF => (e6 b (.inl hb)).trans (hf'.ext.keep b hb hF), hf'.ext.subI, hf'.ext.newI, hf'.ext.newF⟩,
          ⟨fun b hb => by rw [e5]; exact hf'.sep.iB b hb, fun b hb => ⟨by rw [e5]; exact (hf'.sep.fB b hb).1, (hf'.sep.fB b hb).2⟩⟩, fun b hb => hb.elim, fun nm b C hn => ?_, hf'.inj, ?_, ?_, .nil, fun b ob hb => by cases hb⟩
        · obtain ⟨q1, q2, q3, q4⟩ := hf'.lB nm b C hn
          exact ⟨q1, by rw [e5]; exact q2, q3, q4⟩
        · exact cx.stab I' I' w' w2 hf'.wd (fun _ h => h) hkI (by rw [e5]; exact Nat.le_refl _)
        · exact R.stab e' I' I' F' w' w2 hf'.re (fun _ h => h) (fun b hb => hb.elim (hkI b) (hkF b)) (by rw [e5]; exact Nat.le_refl _)
      obtain ⟨us, q1, q2⟩ := res_ok hs2 (P := cx.P) fn.results.toList rf.res rvs hres hrvs
      obtain ⟨I3, ps, hce⟩ := hand_ok hs2 hf2 (one_rep q2) hho
      refine ⟨_, ?_, ⟨I3, F', ps, hce⟩⟩
      unfold results
      rw [Sem.run_bind, Array.mapM_eq_mapM_toList, Sem.run_map]
      rw [Array.toArray_toList] at q1
      exact (congrArg (fun r : Result (List Value) => (r.andThen fun a w' => Result.ok a.toArray w').andThen fun a w' => Sem.run cx.P (pure (if h : a.size = 1 then a[0] else Value.tuple a)) w') q1).trans rfl
    cases x with
    | normal => exact hpost
    | ret => exact hpost
    | exit id => exact absurd rfl (hxe id)
end Go.Ab


namespace Go.Ab
section
variable {w : World} {I : Nat → Prop} {lp lp' : Nat → Option Nat}
theorem RepV.narrow {L L' : Loc} {x : PV} {v : Value} (h : RepV w I lp (some L) x v) (hn : ∀ nm ∈ x.names, ∀ p, L nm = some p → L' nm = some p) : RepV w I lp (some L') x v := by
  have hs : SubOK w I lp L (some L') (fun nm => nm ∈ x.names) (fun _ => none) := fun nm p hS hp => ⟨L', rfl, hn nm hS p hp⟩
  have := RepV.subst (fun _ h => h) hs h fun _ h => h
  rwa [Go.Ab.sub_id] at this
theorem RepL.narrow {L L' : Loc} {xs : List PV} {vs : List Value} (h : RepL w I lp (some L) xs vs) (hn : ∀ nm ∈ namesL xs, ∀ p, L nm = some p → L' nm = some p) : RepL w I lp (some L') xs vs := by
  have hs : SubOK w I lp L (some L') (fun nm => nm ∈ namesL xs) (fun _ => none) := fun nm p hS hp => ⟨L', rfl, hn nm hS p hp⟩
  have := RepL.subst (fun _ h => h) hs h fun _ h => h
  rwa [Go.Ab.subL_id] at this
theorem ObAt.narrow {L L' : Loc} {ob : Ob} {p : Option (Nat × Nat)} (h : ObAt w I lp L ob p) (hn : ∀ nm ∈ ob.names, ∀ p, L nm = some p → L' nm = some p) : ObAt w I lp L' ob p := by
  have hs : SubOK w I lp L (some L') (fun nm => nm ∈ ob.names) (fun _ => none) := fun nm p hS hp => ⟨L', rfl, hn nm hS p hp⟩
  have := ObAt.subst h (fun _ h => h) (fun _ _ => rfl) hs (fun _ h => h) fun _ _ _ => rfl
  rwa [Ob.sub_id] at this
theorem ObAt.noY {L : Loc} {ob : Ob} {p : Option (Nat × Nat)} (h : ObAt w I lp L ob p) (hy : ob.hasY = false) : ObAt w I lp' L ob p := by
  cases p with
  | none => exact h
  | some p =>
    cases ob with
    | cells ty cs => obtain ⟨c, E, h1, h2, h4, h3⟩ := h; exact ⟨c, E, h1, h2, h4, h3.noY hy⟩
    | arr k kt xs => obtain ⟨c, E, h1, h2, h3, h4, h6, h5⟩ := h; exact ⟨c, E, h1, h2, h3, h4, h6, h5.noY (hasY_cellsL (w := w) (I := I) (lp := lp) (lp' := lp') xs hy)⟩
    | map es => obtain ⟨c, E, h1, h2⟩ := h; exact ⟨c, E, h1, h2.noY hy⟩
    | siter s pos => exact h
def GeP : Option (Nat × Nat) → Option (Nat × Nat) → Prop
  | none, none => True
  | some (b, C), some (b', C') => b' = b ∧ C ≤ C'
  | _, _ => False
def LocGe (L L' : Loc) : Prop := ∀ nm p, L nm = some p → ∃ p', L' nm = some p' ∧ GeP p p'
theorem GeP.refl (p : Option (Nat × Nat)) : GeP p p := by
  cases p with
  | none => trivial
  | some p => exact ⟨rfl, Nat.le_refl _⟩
theorem LocGe.at {L L' : Loc} (h : LocGe L L') {nm : Nm} {b C : Nat} (hn : L nm = some (some (b, C))) : ∃ C', L' nm = some (some (b, C')) ∧ C ≤ C' := by
  obtain ⟨p, h1, h2⟩ := h nm _ hn
  cases p with
  | none => exact h2.elim
  | some p => obtain ⟨b', C'⟩ := p; obtain ⟨rfl, h3⟩ := h2; exact ⟨C', h1, h3⟩
theorem LocGe.atN {L L' : Loc} (h : LocGe L L') {nm : Nm} (hn : L nm = some none) : L' nm = some none := by
  obtain ⟨p, h1, h2⟩ := h nm _ hn
  cases p with
  | none => exact h1
  | some p => exact h2.elim
mutual
theorem RepV.ge {L L' : Loc} {x : PV} {v : Value} : RepV w I lp (some L) x v → LocGe L L' → RepV w I lp (some L') x v
  | .undef v, _ => .undef v
  | .bool b, _ => .bool b
  | .int k n, _ => .int k n
  | .str s, _ => .str s
  | .nilS, _ => .nilS
  | .nilP, _ => .nilP
  | .nilF, _ => .nilF
  | .nilI, _ => .nilI
  | .nilM, _ => .nilM
  | .slE k full a cap hf, _ => .slE k full a cap hf
  | .sl k xs full b off cap c E fr h1 h2 h3 h4 h5 h6 h8 h7, _ => .sl k xs full b off cap c E fr h1 h2 h3 h4 h5 h6 h8 h7
  | .ptr cs o b off c E fr h1 h2 h3 h4 h8 h5, _ => .ptr cs o b off c E fr h1 h2 h3 h4 h8 h5
  | .agg cs vs h1 h, e => .agg cs vs h1 (h.ge e)
  | .iface t x v h, e => .iface t x v (h.ge e)
  | .fn f cs vs h, e => .fn f cs vs (h.ge e)
  | .yld d l h, _ => .yld d l h
  | .tup xs vs h, e => .tup xs vs (h.ge e)
  | .imap es r ents clock h1 h2 h3, _ => .imap es r ents clock h1 h2 h3
  | .glob g t x c E fr h1 h2 h3, _ => .glob g t x c E fr h1 h2 h3
  | .ref nm o b C h, e => let ⟨C', h', _⟩ := e.at h; .ref nm o b C' h'
  | .aref nm k i o b C h, e => let ⟨C', h', _⟩ := e.at h; .aref nm k i o b C' h'
  | .arr nm k o n cap b C h hC hn, e => let ⟨C', h', hle⟩ := e.at h; .arr nm k o n cap b C' h' (Nat.le_trans hC hle) hn
  | .arrN nm k h, e => .arrN nm k (e.atN h)
  | .mp nm b C h, e => let ⟨C', h', _⟩ := e.at h; .mp nm b C' h'
  | .it nm b C h, e => let ⟨C', h', _⟩ := e.at h; .it nm b C' h'
theorem RepL.ge {L L' : Loc} {xs : List PV} {vs : List Value} : RepL w I lp (some L) xs vs → LocGe L L' → RepL w I lp (some L') xs vs
  | .nil, _ => .nil
  | .cons x v xs vs h hs, e => .cons x v xs vs (h.ge e) (hs.ge e)
end
theorem ObAt.ge {L L' : Loc} {ob : Ob} {p : Option (Nat × Nat)} (h : ObAt w I lp L ob p) (e : LocGe L L') : ObAt w I lp L' ob p := by
  cases p with
  | none => exact h
  | some p =>
    cases ob with
    | cells ty cs => obtain ⟨c, E, h1, h2, h4, h3⟩ := h; exact ⟨c, E, h1, h2, h4, h3.ge e⟩
    | arr k kt xs => exact h
    | map es => exact h
    | siter s pos => exact h
theorem RepL.of_get {L : Option Loc} : ∀ {xs : List PV} {vs : List Value}, xs.length = vs.length → (∀ (i : Nat) (x : PV) (v : Value), xs[i]? = some x → vs[i]? = some v → RepV w I lp L x v) → RepL w I lp L xs vs := by
  intro xs
  induction xs with
  | nil => intro vs h _; cases vs with | nil => exact .nil | cons v vs => simp at h
  | cons x xs ih =>
    intro vs h hg
    cases vs with
    | nil => simp at h
    | cons v vs => exact .cons _ _ _ _ (hg 0 x v rfl rfl) (ih (by simpa using h) fun i y u hy hu => hg (i + 1) y u (by simpa using hy) (by simpa using hu))
end
theorem mem_dedupN : ∀ {l : List Nm} {x : Nm}, x ∈ dedupN l ↔ x ∈ l := by
  intro l
  induction l with
  | nil => intro x; simp [dedupN]
  | cons y l ih =>
    intro x
    simp only [dedupN]
    split
    · rename_i h
      have hy : y ∈ l := by simpa using h
      rw [ih, List.mem_cons]
      exact ⟨.inr, fun h => h.elim (fun e => e ▸ hy) id⟩
    · rw [List.mem_cons, List.mem_cons, ih]
theorem dedupN_inj : ∀ {l : List Nm} (i j : Nat) (x : Nm), (dedupN l)[i]? = some x → (dedupN l)[j]? = some x → i = j := by
  intro l
  induction l with
  | nil => intro i j x h; simp [dedupN] at h
  | cons y l ih =>
    intro i j x hi hj
    simp only [dedupN] at hi hj
    split at hi
    · rename_i h
      rw [if_pos h] at hj
      exact ih i j x hi hj
    · rename_i h
      rw [if_neg h] at hj
      have hy : y ∉ dedupN l := fun hm => h (by simpa using mem_dedupN.1 hm)
      cases i with
      | zero =>
        cases j with
        | zero => rfl
        | succ j => simp at hi hj; subst hi; exact absurd (List.mem_of_getElem? hj) hy
      | succ i =>
        cases j with
        | zero => simp at hi hj; subst hj; exact absurd (List.mem_of_getElem? hi) hy
        | succ j => simp at hi hj; rw [ih i j x hi hj]
theorem idx_get {l : List Nm} {x : Nm} (h : x ∈ l) : l[l.idxOf x]? = some x := by
  have hidx := List.idxOf_lt_length_of_mem h
  rw [List.getElem?_eq_getElem hidx]; simp
theorem lookup_of : ∀ {B : List (Nm × Nm)} {s t : Nm}, nodupN (B.map (·.1)) = true → (s, t) ∈ B → B.lookup s = some t := by
  intro B
  induction B with
  | nil => intro s t _ h; cases h
  | cons p B ih =>
    obtain ⟨a, b⟩ := p
    intro s t hn h
    simp only [List.map_cons, nodupN, Bool.and_eq_true, Bool.not_eq_true'] at hn
    rcases List.mem_cons.1 h with h2 | h2
    · cases h2; simp
    · have hne : s ≠ a := by
        rintro rfl
        have : (B.map (·.1)).contains s = true := by rw [List.contains_iff_mem]; exact List.mem_map.2 ⟨(s, t), h2, rfl⟩
        rw [this] at hn; cases hn.1
      have hb : (s == a) = false := by simpa using hne
      rw [List.lookup_cons, hb]
      exact ih hn.2 h2
theorem first_uniq {B : List (Nm × Nm)} (hn : nodupN (B.map (·.1)) = true) {s t t' : Nm} (h : (s, t) ∈ B) (h' : (s, t') ∈ B) : t = t' := by
  have := (lookup_of hn h).symm.trans (lookup_of hn h')
  exact Option.some.inj this
theorem look_putObs : ∀ (l : List (Nm × Ob)) (objs : List (List Ob)) (t : Nm), (∀ p ∈ l, ∃ o, look objs p.1 = some o) →
    (∀ o, (∀ o', (t, o') ∈ l → o' = o) → (t, o) ∈ l → look (putObs l objs) t = some o) ∧ ((∀ o, (t, o) ∉ l) → look (putObs l objs) t = look objs t) := by
  intro l
  induction l with
  | nil => intro objs t _; exact ⟨fun o _ h => (by cases h), fun _ => rfl⟩
  | cons p l ih =>
    obtain ⟨nm, ob⟩ := p
    intro objs t hx
    have hx' : ∀ p ∈ l, ∃ o, look (putOb objs nm ob) p.1 = some o := by
      intro p hp
      cases hl : look (putOb objs nm ob) p.1 with
      | some o => exact ⟨o, rfl⟩
      | none =>
        obtain ⟨o, ho⟩ := hx p (List.mem_cons_of_mem _ hp)
        rw [look_put_none] at hl
        rw [ho] at hl; cases hl
    obtain ⟨i1, i2⟩ := ih (putOb objs nm ob) t hx'
    refine ⟨fun o hu ho => ?_, fun hno => ?_⟩
    · by_cases hl : ∃ o', (t, o') ∈ l
      · obtain ⟨o', ho'⟩ := hl
        have := hu o' (List.mem_cons_of_mem _ ho')
        subst this
        exact i1 o' (fun o2 h2 => hu o2 (List.mem_cons_of_mem _ h2)) ho'
      · have hnl : ∀ o', (t, o') ∉ l := fun o' h => hl ⟨o', h⟩
        rcases List.mem_cons.1 ho with he | he
        · have e1 : t = nm := congrArg Prod.fst he
          have e2 : o = ob := congrArg Prod.snd he
          subst e1; subst e2
          obtain ⟨o0, h0⟩ := hx (t, o) List.mem_cons_self
          have := i2 hnl
          exact this.trans (look_put_same o h0)
        · exact absurd he (hnl o)
    · have hne : t ≠ nm := by rintro rfl; exact hno ob List.mem_cons_self
      show look (putObs l (putOb objs nm ob)) t = look objs t
      rw [i2 fun o h => hno o (List.mem_cons_of_mem _ h), look_put_other ob hne]
noncomputable def locIo (L L' : Loc) (B : List (Nm × Nm)) : Loc := fun t =>
  open Classical in if h : ∃ s, (s, t) ∈ B then some ((L' h.choose).getD none) else L t
theorem locIo_in {L L' : Loc} {B : List (Nm × Nm)} (hU : ∀ s s' t, (s, t) ∈ B → (s', t) ∈ B → s = s') {s t : Nm} (h : (s, t) ∈ B) : locIo L L' B t = some ((L' s).getD none) := by
  unfold locIo
  have hx : ∃ s, (s, t) ∈ B := ⟨s, h⟩
  rw [dif_pos hx, hU _ _ t hx.choose_spec h]
theorem locIo_out {L L' : Loc} {B : List (Nm × Nm)} {t : Nm} (h : ∀ s, (s, t) ∉ B) : locIo L L' B t = L t := by
  unfold locIo
  rw [dif_neg fun ⟨s, hs⟩ => h s hs]
def cutTo (B : List (Nm × Nm)) (m : Nm) : Option (Option Ob) := if (B.map (·.1)).contains m then none else some none
def nameTo (B : List (Nm × Nm)) (m : Nm) : Nm := (B.lookup m).getD m
theorem mem_first {B : List (Nm × Nm)} {m : Nm} : (B.map (·.1)).contains m = true ↔ ∃ t, (m, t) ∈ B := by
  rw [List.contains_iff_mem, List.mem_map]
  constructor
  · rintro ⟨⟨a, b⟩, h1, rfl⟩; exact ⟨b, h1⟩
  · rintro ⟨t, h⟩; exact ⟨(m, t), h, rfl⟩
section take
variable {w : World} {I : Nat → Prop} {lp : Nat → Option Nat} {L L' : Loc} {B : List (Nm × Nm)}
theorem cut_ok (hn : nodupN (B.map (·.1)) = true) (hU : ∀ s s' t, (s, t) ∈ B → (s', t) ∈ B → s = s') : SubOK w I lp L' (some fun m => if (B.map (·.1)).contains m then L' m else none) (fun _ => True) (cutTo B) := by
  intro nm p _ hp
  by_cases h : (B.map (·.1)).contains nm = true
  · simp only [cutTo, h, if_true]; exact ⟨_, rfl, by simp only [h, if_true]; exact hp⟩
  · simp only [cutTo, h]; trivial
theorem name_ok (hn : nodupN (B.map (·.1)) = true) (hU : ∀ s s' t, (s, t) ∈ B → (s', t) ∈ B → s = s') (nm : Nm) (p : Option (Nat × Nat)) (hp : (fun m => if (B.map (·.1)).contains m then L' m else none) nm = some p) : locIo L L' B (nameTo B nm) = some p := by
  simp only at hp
  split at hp
  · rename_i h
    obtain ⟨t, ht⟩ := mem_first.1 h
    have hl : nameTo B nm = t := by unfold nameTo; rw [lookup_of hn ht]; rfl
    rw [hl, locIo_in hU ht, hp]; rfl
  · cases hp
theorem take_val (hn : nodupN (B.map (·.1)) = true) (hU : ∀ s s' t, (s, t) ∈ B → (s', t) ∈ B → s = s') {x : PV} {v : Value} (h : RepV w I lp (some L') x v) : RepV w I lp (some (locIo L L' B)) ((x.sub (cutTo B)).ren (nameTo B)) v :=
  RepV.rename (name_ok hn hU) (RepV.subst (fun _ h => h) (cut_ok hn hU) h fun _ _ => trivial)
theorem take_ob (hn : nodupN (B.map (·.1)) = true) (hU : ∀ s s' t, (s, t) ∈ B → (s', t) ∈ B → s = s') {ob : Ob} {p : Option (Nat × Nat)} (h : ObAt w I lp L' ob p) : ObAt w I lp (locIo L L' B) ((ob.sub (cutTo B)).ren (nameTo B)) p :=
  ObAt.ren (ObAt.subst h (fun _ h => h) (fun _ _ => rfl) (cut_ok hn hU) (fun _ _ => trivial) fun _ _ _ => rfl) (name_ok hn hU)
end take
def putP (tm : List PV) (dst : Option Nat) (v : PV) : List PV :=
  match dst with
  | some d => tm.set d v
  | none => tm
section done
variable {E : Type} {cx : Cx} {w0 : World} {I0 F0 O0 : Nat → Prop} {Hd : Nat → Option Obj} {RE : RelE E} {e : E} {ds : List Deferred} {I F I' : Nat → Prop} {lp lp' : Nat → Option Nat} {L L' : Loc} {st st2 : St} {tmv tmv2 suf wv : List Value} {w w2 : World}
theorem io_taken {d0 i0 : Nat} {sl dst : Option Nat} {R N : List Nm} {aN : Nat → Nm} {gone : List Nm} {v0 : PV} {v : Value}
    (hs : SR lp I L st tmv suf w) (hf : Fr cx w0 I0 F0 O0 Hd RE e ds I F L w) (hlp : lpLe lp' lp)
    (hd : ∀ d, dst = some d → st.objs[d]? = some [] ∧ (sl = none → d = d0)) (hsl : ∀ r, sl = some r → r = d0) (hlen : N ≠ [] → ∃ l, st.objs[d0]? = some l ∧ l.length = i0) (hnew : sl = none → dst = none → N = [])
    (hR : ∀ nm ∈ R, ∃ p, L nm = some p) (hRn : ∀ (i j : Nat) nm, R[i]? = some nm → R[j]? = some nm → i = j)
    (hs2 : SR lp' I' L' st2 tmv2 wv w2) (hv : RepV w2 I' lp' (some L') v0 v)
    (x1 : w2.os = w.os) (x2 : w2.tape = w.tape) (x3 : w2.output = w.output) (x4 : w.heap.size ≤ w2.heap.size)
    (x5 : ∀ b, b < w.heap.size → (∀ nm C, nm ∈ R → L nm ≠ some (some (b, C))) → w2.heap[b]? = w.heap[b]?) (x6 : ∀ b, I b → I' b)
    (x7 : ∀ b, I' b → I b ∨ (b < w2.heap.size ∧ (w.heap.size ≤ b ∨ ∃ nm C, nm ∈ R ∧ L nm = some (some (b, C)))))
    (x8 : ∀ nm b C, L' nm = some (some (b, C)) → b < w2.heap.size ∧ ¬ I' b ∧ (w.heap.size ≤ b ∨ ∃ nm' C', nm' ∈ R ∧ L nm' = some (some (b, C'))))
    (x9 : ∀ nm nm' b C C', L' nm = some (some (b, C)) → L' nm' = some (some (b, C')) → nm = nm')
    (hB : nodupN (((R.zipIdx.map fun p => (aN p.2, p.1)) ++ N.zipIdx.map fun p => (p.1, (d0, i0 + p.2))).map (·.1)) = true)
    (hge : ∀ (j : Nat) nm, R[j]? = some nm → nm ∉ gone → ∀ p, L nm = some p → ∃ p', L' (aN j) = some p' ∧ GeP p p') {B : List (Nm × Nm)} (hBd : B = (R.zipIdx.map fun p => (aN p.2, p.1)) ++ N.zipIdx.map fun p => (p.1, (d0, i0 + p.2))) :
    SR lp I' (locIo L L' B) (apply st dst { v := (v0.sub (cutTo B)).ren (nameTo B), new := N.map fun m => (((look st2.objs m).getD dead).sub (cutTo B)).ren (nameTo B), ups := (R.zipIdx.map fun p => (p.1, (((look st2.objs (aN p.2)).getD dead).sub (cutTo B)).ren (nameTo B))), gone := gone, io := true, slot := sl }) (putV tmv dst v) suf w2 ∧
      Fr cx w0 I0 F0 O0 Hd RE e ds I' F (locIo L L' B) w2 := by
  rw [← hBd] at hB
  have memB : ∀ s t, (s, t) ∈ B ↔ (∃ j : Nat, R[j]? = some t ∧ s = aN j) ∨ (∃ i : Nat, N[i]? = some s ∧ t = (d0, i0 + i)) := by
    intro s t
    rw [hBd, List.mem_append, List.mem_map, List.mem_map]
    constructor
    · rintro (⟨⟨a, j⟩, h1, h2⟩ | ⟨⟨a, i⟩, h1, h2⟩)
      · cases h2
        exact .inl ⟨j, (List.mem_zipIdx_iff_getElem?.1 h1), rfl⟩
      · cases h2
        exact .inr ⟨i, (List.mem_zipIdx_iff_getElem?.1 h1), rfl⟩
    · rintro (⟨j, h1, rfl⟩ | ⟨i, h1, rfl⟩)
      · exact .inl ⟨(t, j), List.mem_zipIdx_iff_getElem?.2 h1, rfl⟩
      · exact .inr ⟨(s, i), List.mem_zipIdx_iff_getElem?.2 h1, rfl⟩
  have hslot : ∀ i : Nat, (∃ s, N[i]? = some s) → L (d0, i0 + i) = none := by
    rintro i ⟨s, hs'⟩
    obtain ⟨l, h1, h2⟩ := hlen fun h => by rw [h] at hs'; simp at hs'
    refine hs.dom _ ?_
    unfold look
    rw [h1]
    exact List.getElem?_eq_none_iff.2 (by simp only; omega)
  have hRL : ∀ (j : Nat) t, R[j]? = some t → ∃ p, L t = some p := fun j t h => hR t (List.mem_of_getElem? h)
  have hU : ∀ s s' t, (s, t) ∈ B → (s', t) ∈ B → s = s' := by
    intro s s' t h h'
    rcases (memB s t).1 h with ⟨j, h1, rfl⟩ | ⟨i, h1, rfl⟩ <;> rcases (memB s' _).1 h' with ⟨j', h2, rfl⟩ | ⟨i', h2, h3⟩
    · rw [hRn j j' t h1 h2]
    · obtain ⟨p, hp⟩ := hRL j t h1
      rw [h3, hslot i' ⟨_, h2⟩] at hp; cases hp
    · obtain ⟨p, hp⟩ := hRL j' _ h2
      rw [hslot i ⟨_, h1⟩] at hp; cases hp
    · have h4 : i0 + i = i0 + i' := congrArg Prod.snd h3
      have : i = i' := by omega
      subst this
      exact Option.some.inj (h1.symm.trans h2)
  have hin : ∀ s t, (s, t) ∈ B → locIo L L' B t = some ((L' s).getD none) := fun s t h => locIo_in hU h
  have hout : ∀ t, (∀ s, (s, t) ∉ B) → locIo L L' B t = L t := fun t h => locIo_out h
  have hfr : Fr cx w0 I0 F0 O0 Hd RE e ds I' F (locIo L L' B) w2 := by
    have hsrc : ∀ t b C, locIo L L' B t = some (some (b, C)) → (∃ s, (s, t) ∈ B ∧ L' s = some (some (b, C))) ∨ ((∀ s, (s, t) ∉ B) ∧ L t = some (some (b, C))) := by
      intro t b C h
      by_cases hx : ∃ s, (s, t) ∈ B
      · obtain ⟨s, hst⟩ := hx
        rw [hin s t hst] at h
        refine .inl ⟨s, hst, ?_⟩
        cases hl : L' s with
        | none => rw [hl] at h; simp at h
        | some p => rw [hl] at h; simpa using h
      · have hx' : ∀ s, (s, t) ∉ B := fun s h => hx ⟨s, h⟩
        rw [hout t hx'] at h
        exact .inr ⟨hx', h⟩
    have hnotR : ∀ t, (∀ s, (s, t) ∉ B) → t ∉ R := by
      intro t h hm
      obtain ⟨j, hj, hget⟩ := List.getElem_of_mem hm
      exact h (aN j) ((memB _ _).2 (.inl ⟨j, by rw [List.getElem?_eq_getElem hj, hget], rfl⟩))
    refine hf.own x1 x2 x3 x4 (fun b hb hn => x5 b hb fun nm C _ => hn nm C) x6 (fun b hb => (x7 b hb).imp id fun h => ⟨h.1, h.2.imp id fun ⟨nm, C, _, h⟩ => ⟨nm, C, h⟩⟩) (fun t b C ht => ?_) (fun t t' b C C' ht ht' => ?_)
    · rcases hsrc t b C ht with ⟨s, _, h⟩ | ⟨hx, h⟩
      · obtain ⟨g1, g2, g3⟩ := x8 s b C h
        exact ⟨g1, g2, g3.imp id fun ⟨nm, C, _, h⟩ => ⟨nm, C, h⟩⟩
      · obtain ⟨g1, g2, g3, g4⟩ := hf.lB t b C h
        refine ⟨by omega, fun hi => ?_, .inr ⟨t, C, h⟩⟩
        rcases x7 b hi with h1 | ⟨_, h1 | ⟨nm, C', h1, h2⟩⟩
        · exact g3 h1
        · omega
        · have := hf.inj t nm b C C' h h2
          subst this
          exact hnotR t hx h1
    · rcases hsrc t b C ht with ⟨s, hb, h⟩ | ⟨hx, h⟩ <;> rcases hsrc t' b C' ht' with ⟨s', hb', h'⟩ | ⟨hx', h'⟩
      · have := x9 s s' b C C' h h'
        subst this
        exact first_uniq hB hb hb'
      · obtain ⟨_, _, g3⟩ := x8 s b C h
        rcases g3 with g3 | ⟨nm, C2, g3, g4⟩
        · have := (hf.lB t' b C' h').2.1; omega
        · have := hf.inj t' nm b C' C2 h' g4
          subst this
          exact absurd g3 (hnotR t' hx')
      · obtain ⟨_, _, g3⟩ := x8 s' b C' h'
        rcases g3 with g3 | ⟨nm, C2, g3, g4⟩
        · have := (hf.lB t b C h).2.1; omega
        · have := hf.inj t nm b C C2 h g4
          subst this
          exact absurd g3 (hnotR t hx)
      · exact hf.inj t t' b C C' h h'
  refine ⟨?_, hfr⟩
  have hIk : ∀ b, I b → w2.heap[b]? = w.heap[b]? := fun b hb => x5 b (hf.sep.iB b hb) fun nm C _ hn => (hf.lB nm b C hn).2.2.1 hb
  let L1 : Loc := fun t => if t ∈ R ∧ t ∉ gone then locIo L L' B t else L t
  have hnB : ∀ t, t ∉ R → ∀ p, L t = some p → ∀ s, (s, t) ∉ B := by
    intro t ht p hp s h
    rcases (memB s t).1 h with ⟨j, h1, rfl⟩ | ⟨i, h1, rfl⟩
    · exact ht (List.mem_of_getElem? h1)
    · rw [hslot i ⟨_, h1⟩] at hp; cases hp
  have hge1 : LocGe L L1 := by
    intro t p hp
    by_cases ht : t ∈ R ∧ t ∉ gone
    · obtain ⟨j, hj, hget⟩ := List.getElem_of_mem ht.1
      have hj' : R[j]? = some t := by rw [List.getElem?_eq_getElem hj, hget]
      obtain ⟨p', h1, h2⟩ := hge j t hj' ht.2 p hp
      refine ⟨p', ?_, h2⟩
      simp only [L1, ht, not_false_eq_true, and_self, if_true]
      rw [hin (aN j) t ((memB _ _).2 (.inl ⟨j, hj', rfl⟩)), h1]; rfl
    · exact ⟨p, by simp only [L1, ht, if_false]; exact hp, GeP.refl p⟩
  let f1 : Nm → Option (Option Ob) := fun m => if gone.contains m then some none else none
  have hsub1 : SubOK w2 I' lp L1 (some (locIo L L' B)) (fun _ => True) f1 := by
    intro t p _ hp
    by_cases hg : gone.contains t = true
    · simp only [f1, hg, if_true]
    · simp only [f1, hg]
      refine ⟨_, rfl, ?_⟩
      have hg' : t ∉ gone := by simpa using hg
      by_cases ht : t ∈ R
      · have : t ∈ R ∧ t ∉ gone := ⟨ht, hg'⟩
        simpa only [L1, this, not_false_eq_true, and_self, if_true] using hp
      · have : ¬ (t ∈ R ∧ t ∉ gone) := fun h => ht h.1
        simp only [L1, this, if_false] at hp
        rw [hout t (hnB t ht p hp)]; exact hp
  have htm : RepL w2 I' lp (some (locIo L L' B)) (subL f1 st.tmps) tmv := RepL.subst (fun _ h => h) hsub1 ((RepL.mono x6 hIk (fun _ _ h => h) hs.tm).ge hge1) fun _ _ => trivial
  have hkp : RepL w2 I' lp (some (locIo L L' B)) (subL f1 st.keep) suf := RepL.subst (fun _ h => h) hsub1 ((RepL.mono x6 hIk (fun _ _ h => h) hs.kp).ge hge1) fun _ _ => trivial
  generalize hups : (R.zipIdx.map fun p => (p.1, (((look st2.objs (aN p.2)).getD dead).sub (cutTo B)).ren (nameTo B))) = ups
  have memU : ∀ t o, (t, o) ∈ ups ↔ ∃ j : Nat, R[j]? = some t ∧ o = (((look st2.objs (aN j)).getD dead).sub (cutTo B)).ren (nameTo B) := by
    intro t o
    rw [← hups, List.mem_map]
    constructor
    · rintro ⟨⟨a, j⟩, h1, h2⟩
      cases h2
      exact ⟨j, List.mem_zipIdx_iff_getElem?.1 h1, rfl⟩
    · rintro ⟨j, h1, rfl⟩
      exact ⟨(t, j), List.mem_zipIdx_iff_getElem?.2 h1, rfl⟩
  have hdead : ∀ f g, (dead.sub f).ren g = dead := fun f g => rfl
  have hobj : ∀ s t, (s, t) ∈ B → ∃ p, locIo L L' B t = some p ∧ ObAt w2 I' lp (locIo L L' B) ((((look st2.objs s).getD dead).sub (cutTo B)).ren (nameTo B)) p := by
    intro s t hst
    refine ⟨_, hin s t hst, ?_⟩
    cases hl : look st2.objs s with
    | none =>
      rw [hs2.dom s hl]
      simp only [Option.getD_none, hdead]
      exact ⟨0, 0, rfl⟩
    | some ob =>
      obtain ⟨p, hp, ha⟩ := hs2.ob s ob hl
      rw [hp]
      simp only [Option.getD_some]
      exact take_ob hB hU (ha.mono (fun _ h => h) (fun _ _ => rfl) hlp fun _ _ _ => rfl)
  have hlook0 : ∀ t, look (st.objs.map (·.map (Ob.sub f1))) t = (look st.objs t).map (Ob.sub f1) := fun t => look_map _ _ t
  have hpres : ∀ p ∈ ups, ∃ o, look (st.objs.map (·.map (Ob.sub f1))) p.1 = some o := by
    rintro ⟨t, o⟩ hp
    obtain ⟨j, hj, _⟩ := (memU t o).1 hp
    obtain ⟨p, hL⟩ := hRL j t hj
    obtain ⟨ob, hob, _⟩ := hs.some_of_loc hL
    exact ⟨_, by rw [hlook0, hob]; rfl⟩
  have hlu : ∀ t, ((∃ j : Nat, R[j]? = some t) → ∃ s, (s, t) ∈ B ∧ look (putObs ups (st.objs.map (·.map (Ob.sub f1)))) t = some ((((look st2.objs s).getD dead).sub (cutTo B)).ren (nameTo B))) ∧
      ((∀ j : Nat, R[j]? ≠ some t) → look (putObs ups (st.objs.map (·.map (Ob.sub f1)))) t = (look st.objs t).map (Ob.sub f1)) := by
    intro t
    obtain ⟨h1, h2⟩ := look_putObs ups (st.objs.map (·.map (Ob.sub f1))) t hpres
    refine ⟨?_, fun hno => ?_⟩
    · rintro ⟨j, hj⟩
      refine ⟨aN j, (memB _ _).2 (.inl ⟨j, hj, rfl⟩), h1 _ (fun o' ho' => ?_) ((memU _ _).2 ⟨j, hj, rfl⟩)⟩
      obtain ⟨j', hj', rfl⟩ := (memU _ _).1 ho'
      rw [hRn j j' t hj hj']
    · rw [h2 fun o ho => by obtain ⟨j, hj, _⟩ := (memU _ _).1 ho; exact hno j hj, hlook0]
  have hother : ∀ t ob, (∀ s, (s, t) ∉ B) → look st.objs t = some ob → ∃ p, locIo L L' B t = some p ∧ ObAt w2 I' lp (locIo L L' B) (ob.sub f1) p := by
    intro t ob hx hl
    obtain ⟨p, hp, ha⟩ := hs.ob t ob hl
    refine ⟨p, by rw [hout t hx]; exact hp, ?_⟩
    have ha2 : ObAt w2 I' lp L ob p := ha.mono x6 hIk (fun _ _ h => h) fun b C hpb => by
      subst hpb
      refine x5 b (hf.lB t b C hp).2.1 fun nm C' hm hn => ?_
      have := hf.inj t nm b C C' hp hn
      subst this
      obtain ⟨j, hj, hget⟩ := List.getElem_of_mem hm
      exact hx (aN j) ((memB _ _).2 (.inl ⟨j, by rw [List.getElem?_eq_getElem hj, hget], rfl⟩))
    exact ObAt.subst (ha2.ge hge1) (fun _ h => h) (fun _ _ => rfl) hsub1 (fun _ _ => trivial) fun _ _ _ => rfl
  have hlens : ∀ (l : List (Nm × Ob)) (objs : List (List Ob)) (d : Nat), (putObs l objs).length = objs.length ∧ ∀ x, objs[d]? = some x → ∃ y, (putObs l objs)[d]? = some y ∧ y.length = x.length := by
    intro l
    induction l with
    | nil => intro objs d; exact ⟨rfl, fun x h => ⟨x, h, rfl⟩⟩
    | cons p l ih =>
      obtain ⟨nm, o⟩ := p
      intro objs d
      obtain ⟨q1, q2⟩ := ih (putOb objs nm o) d
      have hp : (putOb objs nm o).length = objs.length := by unfold putOb; split <;> simp
      refine ⟨q1.trans hp, fun x hx => ?_⟩
      have : ∃ y, (putOb objs nm o)[d]? = some y ∧ y.length = x.length := by
        unfold putOb
        split
        · rename_i l' hl'
          by_cases hnd : nm.1 = d
          · subst hnd
            rw [hx] at hl'; cases hl'
            exact ⟨_, List.getElem?_set_self (List.getElem?_eq_some_iff.1 hx).1, by simp⟩
          · exact ⟨x, by rw [List.getElem?_set_ne hnd]; exact hx, rfl⟩
        · exact ⟨x, hx, rfl⟩
      obtain ⟨y, h1, h2⟩ := this
      obtain ⟨z, h3, h4⟩ := q2 y h1
      exact ⟨z, h3, h4.trans h2⟩
  generalize hXd : putObs ups (st.objs.map (·.map (Ob.sub f1))) = X at hlu
  have hX1 : X.length = st.objs.length := by rw [← hXd, (hlens ups _ 0).1, List.length_map]
  have hX2 : ∀ (d : Nat) (l : List Ob), st.objs[d]? = some l → ∃ l', X[d]? = some l' ∧ l'.length = l.length := by
    intro d l h
    obtain ⟨y, h1, h2⟩ := (hlens ups (st.objs.map (·.map (Ob.sub f1))) d).2 (l.map (Ob.sub f1)) (by rw [List.getElem?_map, h]; rfl)
    exact ⟨y, by rw [← hXd]; exact h1, by rw [h2, List.length_map]⟩
  generalize hnews : (N.map fun m => (((look st2.objs m).getD dead).sub (cutTo B)).ren (nameTo B)) = news
  have hnn : news.length = N.length := by rw [← hnews, List.length_map]
  have hset : ∀ (X : List (List Ob)) (d : Nat), X.set d (X.getD d [] ++ []) = X := by
    intro X d
    rw [List.append_nil]
    apply List.ext_getElem?
    intro i
    by_cases hi : i = d
    · subst hi
      by_cases hlt : i < X.length
      · rw [List.getElem?_set_self hlt, List.getD_eq_getElem?_getD, List.getElem?_eq_getElem hlt]; rfl
      · rw [List.getElem?_eq_none_iff.2 (by simpa using hlt), List.getElem?_eq_none_iff.2 (by simpa using hlt)]
    · rw [List.getElem?_set_ne (Ne.symm hi)]
  have hst : apply st dst { v := (v0.sub (cutTo B)).ren (nameTo B), new := news, ups := ups, gone := gone, io := true, slot := sl } =
      { tmps := putP (subL f1 st.tmps) dst ((v0.sub (cutTo B)).ren (nameTo B)), objs := X.set d0 (X.getD d0 [] ++ news), keep := subL f1 st.keep } := by
    have e1 : (if gone.isEmpty = true then st else subSt f1 st) = { tmps := subL f1 st.tmps, objs := st.objs.map (·.map (Ob.sub f1)), keep := subL f1 st.keep } := by
      split
      · rename_i hg
        have hg' : f1 = fun _ => none := by funext m; simp only [f1]; rw [List.isEmpty_iff.1 hg]; rfl
        rw [hg', subL_id, subL_id]
        have : (fun l : List Ob => l.map (Ob.sub fun _ => none)) = id := by
          funext l
          rw [show (Ob.sub fun _ => none) = id from funext Ob.sub_id, List.map_id]; rfl
        rw [this, List.map_id]
      · rfl
    have e2 : ∀ s : St, (if ups.isEmpty = true then s else { s with objs := putObs ups s.objs }) = { s with objs := putObs ups s.objs } := by
      intro s
      split
      · rename_i hu
        rw [List.isEmpty_iff.1 hu]; rfl
      · rfl
    unfold apply
    simp only [List.isEmpty_nil, if_true]
    rw [e1, e2]
    simp only [hXd]
    cases sl with
    | some r =>
      have := hsl r rfl
      subst this
      cases dst with
      | none => rfl
      | some d => rfl
    | none =>
      cases hdst : dst with
      | none =>
        have hN := hnew rfl hdst
        have : news = [] := by rw [← hnews, hN]; rfl
        rw [this, hset]
        rfl
      | some d =>
        obtain ⟨hcl, h0⟩ := hd d hdst
        have h0 := h0 rfl
        subst h0
        simp only [Option.isSome_none, Bool.false_or]
        obtain ⟨l', h1, h2⟩ := hX2 d [] hcl
        have h3 : l' = [] := List.length_eq_zero_iff.1 h2
        subst h3
        cases hn0 : news with
        | nil => simp only [List.isEmpty_nil, if_true, hset]; rfl
        | cons n ns =>
          have : X.getD d [] = [] := by rw [List.getD_eq_getElem?_getD, h1]; rfl
          simp only [List.isEmpty_cons, Bool.false_eq_true, if_false, this, List.nil_append]; rfl
  have key1 : ∀ (i : Nat) s, N[i]? = some s → look (X.set d0 (X.getD d0 [] ++ news)) (d0, i0 + i) = some ((((look st2.objs s).getD dead).sub (cutTo B)).ren (nameTo B)) := by
    intro i s hi
    obtain ⟨l, h1, h2⟩ := hlen fun h => by rw [h] at hi; simp at hi
    obtain ⟨l', h3, h4⟩ := hX2 d0 l h1
    have hlt : d0 < X.length := (List.getElem?_eq_some_iff.1 h3).1
    rw [look_set_same _ hlt, List.getD_eq_getElem?_getD, h3]
    simp only [Option.getD_some]
    rw [List.getElem?_append_right (by omega), show i0 + i - l'.length = i by omega, ← hnews, List.getElem?_map, hi]
    rfl
  have key2 : ∀ t : Nm, (∀ (i : Nat) s, N[i]? = some s → t ≠ (d0, i0 + i)) → look (X.set d0 (X.getD d0 [] ++ news)) t = look X t := by
    intro t ht
    by_cases h1 : t.1 = d0
    · obtain ⟨a, j⟩ := t
      simp only at h1; subst h1
      by_cases hN : N = []
      · have : news = [] := by rw [← hnews, hN]; rfl
        rw [this, hset]
      · obtain ⟨l, g1, g2⟩ := hlen hN
        obtain ⟨l', h3, h4⟩ := hX2 a l g1
        have hlt : a < X.length := (List.getElem?_eq_some_iff.1 h3).1
        rw [look_set_same _ hlt, List.getD_eq_getElem?_getD, h3]
        simp only [Option.getD_some]
        have hX : look X (a, j) = l'[j]? := by unfold look; rw [h3]
        rw [hX]
        by_cases hj : j < l'.length
        · rw [List.getElem?_append_left hj]
        · rw [List.getElem?_append_right (by omega), List.getElem?_eq_none_iff.2 (by omega : l'.length ≤ j)]
          refine List.getElem?_eq_none_iff.2 ?_
          apply Classical.byContradiction
          intro hlt2
          have hlt3 : j - l'.length < N.length := by omega
          exact ht (j - l'.length) _ (List.getElem?_eq_getElem hlt3) (by rw [show i0 + (j - l'.length) = j by omega])
    · rw [look_set_other _ h1]
  rw [hst]
  have hnotB : ∀ t : Nm, (∀ (i : Nat) s, N[i]? = some s → t ≠ (d0, i0 + i)) → (¬ ∃ j : Nat, R[j]? = some t) → ∀ s, (s, t) ∉ B := by
    intro t ht hj s h
    rcases (memB s t).1 h with ⟨j, h1, _⟩ | ⟨i, h1, h2⟩
    · exact hj ⟨j, h1⟩
    · exact ht i s h1 h2
  have htmf : RepL w2 I' lp (some (locIo L L' B)) (putP (subL f1 st.tmps) dst ((v0.sub (cutTo B)).ren (nameTo B))) (putV tmv dst v) := by
    cases dst with
    | none => exact htm
    | some d => exact htm.set d (take_val hB hU (RepV.mono (fun _ h => h) (fun _ _ => rfl) hlp hv))
  refine ⟨htmf, hkp, fun t ob hl => ?_, fun t hl => ?_⟩
  · simp only at hl
    by_cases ht : ∃ (i : Nat) (s : Nm), N[i]? = some s ∧ t = (d0, i0 + i)
    · obtain ⟨i, s, h1, rfl⟩ := ht
      rw [key1 i s h1] at hl; cases hl
      exact hobj s _ ((memB _ _).2 (.inr ⟨i, h1, rfl⟩))
    · have ht' : ∀ (i : Nat) s, N[i]? = some s → t ≠ (d0, i0 + i) := fun i s h1 h2 => ht ⟨i, s, h1, h2⟩
      rw [key2 t ht'] at hl
      by_cases hj : ∃ j : Nat, R[j]? = some t
      · obtain ⟨s, h1, h2⟩ := (hlu t).1 hj
        rw [h2] at hl; cases hl
        exact hobj s t h1
      · rw [(hlu t).2 fun j h => hj ⟨j, h⟩] at hl
        obtain ⟨ob0, h0, rfl⟩ := Option.map_eq_some_iff.1 hl
        exact hother t ob0 (hnotB t ht' hj) h0
  · simp only at hl
    by_cases ht : ∃ (i : Nat) (s : Nm), N[i]? = some s ∧ t = (d0, i0 + i)
    · obtain ⟨i, s, h1, rfl⟩ := ht
      rw [key1 i s h1] at hl; cases hl
    · have ht' : ∀ (i : Nat) s, N[i]? = some s → t ≠ (d0, i0 + i) := fun i s h1 h2 => ht ⟨i, s, h1, h2⟩
      rw [key2 t ht'] at hl
      by_cases hj : ∃ j : Nat, R[j]? = some t
      · obtain ⟨s, h1, h2⟩ := (hlu t).1 hj
        rw [h2] at hl; cases hl
      · rw [(hlu t).2 fun j h => hj ⟨j, h⟩] at hl
        rw [hout t (hnotB t ht' hj)]
        exact hs.dom t (by simpa using hl)
end done
theorem ioEnd_some {sl : Option Nat} {d0 i0 : Nat} {R : List Nm} {st : St} {v : PV} {out : Out} (h : ioEnd sl d0 i0 R st v = some out) :
    ∃ (N : List Nm) (B : List (Nm × Nm)), B = (R.zipIdx.map fun p => ((witNm (st.keep.getD p.2 .undef)).getD (0, p.2), p.1)) ++ N.zipIdx.map (fun p => (p.1, (d0, i0 + p.2))) ∧ nodupN (B.map (·.1)) = true ∧
      out = { v := (v.sub (cutTo B)).ren (nameTo B), new := N.map fun m => (((look st.objs m).getD dead).sub (cutTo B)).ren (nameTo B), ups := (R.zipIdx.map fun p => (p.1, (((look st.objs ((witNm (st.keep.getD p.2 .undef)).getD (0, p.2))).getD dead).sub (cutTo B)).ren (nameTo B))), gone := ioGone R st.keep, io := true, slot := sl } := by
  unfold ioEnd at h
  obtain ⟨h1, h2⟩ := chk_some h
  refine ⟨_, _, rfl, h1, ?_⟩
  cases h2
  simp only [ioPairs, List.map_map]
  rfl
theorem slotLen_ok {objs : List (List Ob)} {d i0 j : Nat} {o : Ob} (hj : look objs (d, j) = some o) (h : slotLen (look objs) d = some i0) : ∃ l, objs[d]? = some l ∧ l.length = i0 := by
  unfold slotLen at h
  rw [List.find?_eq_some_iff_append] at h
  obtain ⟨h1, as, bs, h2, h3⟩ := h
  cases hl : objs[d]? with
  | none => unfold look at hj; simp only [hl] at hj; cases hj
  | some l =>
    have hlook : ∀ j, look objs (d, j) = l[j]? := fun j => by unfold look; simp only [hl]
    refine ⟨l, rfl, ?_⟩
    have hle : l.length ≤ i0 := by
      rw [hlook] at h1
      simpa using h1
    have hlen : as.length = i0 ∧ ∀ k, k < as.length → as[k]? = some k := by
      have hr := h2
      have hpos : (List.range 64)[as.length]? = some i0 := by rw [hr]; simp
      obtain ⟨q1, q2⟩ := List.getElem?_eq_some_iff.1 hpos
      simp at q2
      refine ⟨q2, fun k hk => ?_⟩
      have : (List.range 64)[k]? = as[k]? := by rw [hr, List.getElem?_append_left hk]
      rw [← this]
      simp at q1
      exact List.getElem?_range (by omega)
    rcases Nat.lt_or_ge l.length i0 with hlt | hge
    · have hm := hlen.2 l.length (by omega)
      have := h3 _ (List.mem_of_getElem? hm)
      rw [hlook] at this
      simp at this
    · omega
theorem io_ok {cx : Cx} {M : Mach} {tab : FuncId → Option RFn} (hM : CallOK cx M.call) (hsp : MSp cx M) (hloc : MLoc M) {dd : FuncId → Dead} (htab : TabOK cx tab dd) (n : Nat) : IoOK cx (ioOf M n tab) := by
  intro g d0 st vs out hc
  unfold ioOf at hc
  split at hc
  case h_1 => cases hc
  rename_i rf hrf
  obtain ⟨fn, c, hfn, hbody, hres, hname, hnt, hcode⟩ := tab_fn htab hrf
  simp only at hc
  generalize hRd : dedupN (reach (look st.objs) deepest (namesL vs)) = R at hc
  have hRn : ∀ (i j : Nat) nm, R[i]? = some nm → R[j]? = some nm → i = j := by rw [← hRd]; exact fun i j nm => dedupN_inj i j nm
  have hmemR : ∀ nm ∈ namesL vs, nm ∈ R := fun nm hn => by rw [← hRd]; exact mem_dedupN.2 (reach_mem _ _ nm hn)
  split at hc
  case h_1 => cases hc
  rename_i ins hins
  obtain ⟨hk, hc⟩ := chk_some hc
  simp only [Bool.and_eq_true, Bool.not_eq_true', decide_eq_true_eq] at hk
  obtain ⟨⟨⟨hy, hshut⟩, hoy⟩, ⟨hlen, hRlen⟩, hnt0⟩ := hk
  split at hc
  case h_2 => cases hc
  rename_i st2 v0 hraw
  have hplace : ∃ sl d1 i1, ioEnd sl d1 i1 R st2 v0 = some out ∧ ((sl = none ∧ d1 = d0 ∧ i1 = 0 ∧ R = []) ∨ (sl = some d1 ∧ ∃ j, (d1, j) ∈ R ∧ slotLen (look st.objs) d1 = some i1)) := by
    unfold ioEndAt at hc
    cases R with
    | nil => exact ⟨none, d0, 0, hc, .inl ⟨rfl, rfl, rfl, rfl⟩⟩
    | cons r rs =>
      simp only at hc
      split at hc
      · rename_i i1 hi1
        exact ⟨some r.1, r.1, i1, hc, .inr ⟨rfl, r.2, List.mem_cons_self, hi1⟩⟩
      · cases hc
  obtain ⟨sl, d1, i1, hc, hplace⟩ := hplace
  obtain ⟨N, B, hB, hBn, hout⟩ := ioEnd_some hc
  unfold ioRaw at hraw
  split at hraw
  case h_2 => cases hraw
  rename_i x st3 u hev
  have hxe : ∀ id, x ≠ .exit id := by rintro id rfl; simp at hraw
  have hraw2 : (match resVs st3 rf.res with
      | some rs => some (st3, oneOf rs)
      | none => none) = some (st2, v0) := by
    cases x with
    | normal => exact hraw
    | ret => exact hraw
    | exit id => exact absurd rfl (hxe id)
  split at hraw2
  case h_2 => cases hraw2
  rename_i rs hrs
  cases hraw2
  obtain ⟨m1, m2⟩ := mapM_some R ins hins
  refine ⟨⟨fn, hfn, by simpa using hname, by rw [hbody]; rfl⟩, ?_⟩
  intro E w0 I0 F0 O0 Hd RE e ds I F lp L tmv suf us w dst hs hf hrep hd hnew
  have hRL : ∀ nm ∈ R, ∃ p ob, L nm = some p ∧ look st.objs nm = some ob ∧ ObAt w I lp L ob p := by
    intro nm hn
    obtain ⟨j, hj, hget⟩ := List.getElem_of_mem hn
    obtain ⟨ob, _, h2⟩ := m2 j nm (by rw [List.getElem?_eq_getElem hj, hget])
    obtain ⟨p, hp, ha⟩ := hs.ob nm ob h2
    exact ⟨p, ob, hp, h2, ha⟩
  let Lc : Loc := fun m => if m.1 = 0 then (R[m.2]?).bind L else none
  let fr : Nm → Nm := fun m => (0, R.idxOf m)
  let LR : Loc := fun m => if m ∈ R then L m else none
  have hren : ∀ nm p, LR nm = some p → Lc (fr nm) = some p := by
    intro nm p hp
    simp only [LR] at hp
    split at hp
    · rename_i hm
      simp only [Lc, fr, if_true, idx_get hm, Option.bind_some, hp]
    · cases hp
  have hLc : ∀ nm p, Lc nm = some p → ∃ t, R[nm.2]? = some t ∧ nm.1 = 0 ∧ L t = some p := by
    intro nm p hp
    simp only [Lc] at hp
    split at hp
    · rename_i h1
      cases hr : R[nm.2]? with
      | none => rw [hr] at hp; simp at hp
      | some t => rw [hr] at hp; exact ⟨t, rfl, h1, by simpa using hp⟩
    · cases hp
  let lp' : Nat → Option Nat := fun _ => none
  have hargs : RepL w I lp' (some Lc) (renL fr vs) us := by
    have h1 : RepL w I lp' (some L) vs us := hrep.noY hy
    have h2 : RepL w I lp' (some LR) vs us := h1.narrow fun nm hn p hp => by simp only [LR, hmemR nm hn, if_true]; exact hp
    exact h2.rename hren
  have hil : (ins.map (Ob.ren fr)).length = R.length := by rw [List.length_map, m1]
  let wv : List Value := (List.range rf.nt).map fun j => match (R[j]?).bind L with
    | some (some (b, C)) => .slice (some ⟨b, 0, none⟩) 0 C
    | _ => .slice none 0 0
  have hwvj : ∀ (j : Nat) nm, R[j]? = some nm → wv.getD j undef = (match L nm with
        | some (some (b, C)) => .slice (some ⟨b, 0, none⟩) 0 C
        | _ => .slice none 0 0) := by
    intro j nm hj
    have hjl : j < rf.nt := by have := (List.getElem?_eq_some_iff.1 hj).1; omega
    rw [List.getD_eq_getElem?_getD, List.getElem?_map, List.getElem?_range hjl]
    simp only [Option.map_some, Option.getD_some, hj, Option.bind_some]
  have hwit : RepL w I lp' (some Lc) (wits rf.nt R.length) wv := by
    refine RepL.of_get (by simp [wits, wv]) fun i y v hy' hv => ?_
    simp only [wits, List.getElem?_map, Option.map_eq_some_iff] at hy'
    obtain ⟨j, hj, rfl⟩ := hy'
    have hlt : i < rf.nt ∧ j = i := by
      obtain ⟨h1, h2⟩ := List.getElem?_eq_some_iff.1 hj
      simp at h1 h2
      exact ⟨h1, h2.symm⟩
    obtain ⟨hlt, rfl⟩ := hlt
    split
    case isFalse => exact .undef _
    rename_i hjR
    have ht : R[j]? = some R[j] := List.getElem?_eq_getElem hjR
    have hv2 := hwvj j _ ht
    rw [List.getD_eq_getElem?_getD, hv] at hv2
    simp only [Option.getD_some] at hv2
    subst hv2
    obtain ⟨p, ob, hp, _, _⟩ := hRL _ (List.mem_of_getElem? ht)
    have hlc : Lc (0, j) = some p := by simp only [Lc, if_true, ht, Option.bind_some, hp]
    rw [hp]
    cases p with
    | none => exact .arrN _ _ hlc
    | some p =>
      obtain ⟨b, C⟩ := p
      have := RepV.arr (w := w) (I := I) (lp := lp') (L := Lc) (0, j) 1 0 0 C b C hlc (by omega) (Nat.zero_le _)
      simpa using this
  have hst0 : SR lp' I Lc (ioSt rf.nt (ins.map (Ob.ren fr)) (renL fr vs)) (us.toArray ++ Array.replicate (fn.ntmps - us.toArray.size) undef).toList wv w := by
    have hlen0 : 0 < (List.replicate rf.nt ([] : List Ob)).length := by simpa using hnt0
    have hempty : ∀ nm : Nm, nm.1 ≠ 0 → look ((List.replicate rf.nt []).set 0 (ins.map (Ob.ren fr))) nm = none := by
      intro nm h1
      rw [look_set_other _ h1]
      unfold look
      cases hg : (List.replicate rf.nt ([] : List Ob))[nm.1]? with
      | none => rfl
      | some l =>
        have := List.eq_of_mem_replicate (List.mem_of_getElem? hg)
        subst this
        simp
    refine ⟨?_, ?_, ?_, ?_⟩
    · have hl := hargs.length
      have h2 : RepL w I lp' (some Lc) (List.replicate (rf.nt - (renL fr vs).length) PV.undef) (List.replicate (rf.nt - (renL fr vs).length) undef) := RepL.undefs _ _ (by simp)
      have := hargs.append h2
      show RepL w I lp' (some Lc) (renL fr vs ++ List.replicate (rf.nt - (renL fr vs).length) .undef) _
      rw [hl] at this ⊢
      simpa [hnt] using this
    · show RepL w I lp' (some Lc) (wits rf.nt (ins.map (Ob.ren fr)).length) wv
      rw [hil]; exact hwit
    · intro nm ob hl
      have hobj : look ((List.replicate rf.nt []).set 0 (ins.map (Ob.ren fr))) nm = some ob := hl
      by_cases h1 : nm.1 = 0
      · obtain ⟨a, j⟩ := nm
        simp only at h1; subst h1
        rw [look_set_same _ hlen0, List.getElem?_map] at hobj
        obtain ⟨ob0, ho0, rfl⟩ := Option.map_eq_some_iff.1 hobj
        have hj : j < R.length := by have := (List.getElem?_eq_some_iff.1 ho0).1; omega
        have hRt : R[j]? = some R[j] := List.getElem?_eq_getElem hj
        obtain ⟨ob1, h3, h4⟩ := m2 j _ hRt
        rw [ho0] at h3; cases h3
        obtain ⟨p, hp, ha⟩ := hs.ob _ ob0 h4
        refine ⟨p, by simp only [Lc, if_true, hRt, Option.bind_some, hp], ?_⟩
        have hyo : ob0.hasY = false := by
          have := List.all_eq_true.1 hoy ob0 (List.mem_of_getElem? ho0)
          simpa using this
        have hnarrow : ObAt w I lp' LR ob0 p := (ha.noY hyo).narrow fun m hm q hq => by
          have : m ∈ R := shutR_names hshut (List.mem_of_getElem? hRt) h4 m hm
          simp only [LR, this, if_true]; exact hq
        exact hnarrow.ren hren
      · rw [hempty nm h1] at hobj; cases hobj
    · intro nm hl
      have hobj : look ((List.replicate rf.nt []).set 0 (ins.map (Ob.ren fr))) nm = none := hl
      simp only [Lc]
      split
      · rename_i h1
        obtain ⟨a, j⟩ := nm
        simp only at h1; subst h1
        rw [look_set_same _ hlen0, List.getElem?_map] at hobj
        have h2 : ins[j]? = none := by simpa using hobj
        have : R[j]? = none := List.getElem?_eq_none_iff.2 (by have := List.getElem?_eq_none_iff.1 h2; omega)
        rw [this]; rfl
      · rfl
  let O : Nat → Prop := fun b => ∃ nm C, nm ∈ R ∧ L nm = some (some (b, C))
  have hfr0 : Fr cx w I O O (fun _ => none) relUnit () [] I (fun _ => False) Lc w := by
    refine ⟨⟨rfl, rfl, rfl, Nat.le_refl _, fun _ _ _ => rfl, fun _ h => h, fun _ h => .inl h, fun b h => h.elim⟩, ⟨hf.sep.iB, fun b h => h.elim⟩, fun b h => h, fun nm b C hn => ?_, fun nm nm' b C C' hn hn' => ?_, hf.wd, trivial, .nil, fun b ob hb => by cases hb⟩
    · obtain ⟨t, h1, _, h2⟩ := hLc nm _ hn
      obtain ⟨_, g2, g3, _⟩ := hf.lB t b C h2
      exact ⟨.inr ⟨t, C, List.mem_of_getElem? h1, h2⟩, g2, g3, fun h => h⟩
    · obtain ⟨t, h1, h3, h2⟩ := hLc nm _ hn
      obtain ⟨t', h1', h3', h2'⟩ := hLc nm' _ hn'
      have := hf.inj t t' b C C' h2 h2'
      subst this
      exact Prod.ext (h3.trans h3'.symm) (hRn _ _ t h1 h1')
  rw [hcode] at hev
  refine callsIn_of_wp_marks hfn hbody trivial ?_
  refine code_ok (dd := dd g) (M := M) hM hsp hloc c Unit noHandler 0 relUnit lp' w I O O (fun _ => none) wv none _ () x st2 u hev ⟨⟨I, O, w, hand_none cx _ _ _ _, Ext.refl _ _ _⟩, fun d l h => by cases h⟩ (fun l0 he => by cases he) { tmps := _, defers := [] } w I (fun _ => False) _ _ hst0 hfr0 ?_
  rintro a' w' I' F' L' hs' hf'
  have hpost : LeavesInM Fence.wide 0 cx.P fn a'.tmps (fun
        | .returned v, w' => ∃ I' L', SR lp I' L' (apply st dst out) (putV tmv dst v) suf w' ∧ Fr cx w0 I0 F0 O0 Hd RE e ds I' F L' w'
        | _, _ => False) a'.defers .returning w' := by
    refine leaves_ok hf'.mks fun w2 e1 e3 e4 e5 e6 => ?_
    have hkI : ∀ b, I' b → w2.heap[b]? = w'.heap[b]? := fun b hb => e6 b (.inr (.inl hb))
    have hs2 : SR lp' I' L' st2 a'.tmps.toList wv w2 := hs'.keeps (fun _ h => h) hkI fun nm b C hn => e6 b (.inr (.inr (.inr ⟨nm, C, hn⟩)))
    have hwd2 : cx.Wd I' w2 := cx.stab I' I' w' w2 hf'.wd (fun _ h => h) hkI (by rw [e5]; exact Nat.le_refl _)
    obtain ⟨us', q1, q2⟩ := res_ok hs2 (P := cx.P) fn.results.toList rf.res rs hres hrs
    have hv := one_rep q2
    have hext := hf'.ext
    have hge : ∀ (j : Nat) nm, R[j]? = some nm → nm ∉ ioGone R st2.keep → ∀ p, L nm = some p → ∃ p', L' ((fun k => (witNm (st2.keep.getD k .undef)).getD (0, k)) j) = some p' ∧ GeP p p' := by
      intro j nm hj hng p hp
      have hsome : (witNm (st2.keep.getD j .undef)).isSome = true := by
        cases hw : witNm (st2.keep.getD j .undef) with
        | some q => rfl
        | none =>
          refine absurd ?_ hng
          unfold ioGone
          exact List.mem_map.2 ⟨(nm, j), List.mem_filter.2 ⟨List.mem_zipIdx_iff_getElem?.2 hj, by simp only [hw]; rfl⟩, rfl⟩
      obtain ⟨q, hq⟩ := Option.isSome_iff_exists.1 hsome
      simp only [hq, Option.getD_some]
      have hkeep := hs2.kp.getD j undef
      have hval := hwvj j nm hj
      have hform : st2.keep.getD j .undef = .arr q 1 0 0 := by
        unfold witNm at hq
        split at hq
        · rename_i nm' heq; cases hq; exact heq
        · cases hq
      rw [hform, hval, hp] at hkeep
      cases p with
      | none =>
        simp only at hkeep
        cases hkeep with
        | arrN _ _ h => exact ⟨none, h, trivial⟩
      | some p =>
        obtain ⟨b, C⟩ := p
        simp only at hkeep
        generalize hvv : (Value.slice (some ⟨b, 0, none⟩) 0 C) = vv at hkeep
        cases hkeep with
        | arr _ _ _ _ cap b' C' h hC hn =>
          simp only [Value.slice.injEq, Option.some.injEq, Addr.mk.injEq] at hvv
          obtain ⟨⟨rfl, _, _⟩, _, rfl⟩ := hvv
          exact ⟨some (b, C'), h, rfl, by omega⟩
        | arrN _ _ h => simp at hvv
    have hOb : ∀ b, b < w.heap.size → (∀ nm C, nm ∈ R → L nm ≠ some (some (b, C))) → w2.heap[b]? = w.heap[b]? := fun b hb hn => (e6 b (.inl hb)).trans (hext.keep b hb fun ⟨nm, C, h1, h2⟩ => hn nm C h1 h2)
    have htk := io_taken (d0 := d1) (i0 := i1) (sl := sl) (dst := dst) (R := R) (N := N) (aN := fun k => (witNm (st2.keep.getD k .undef)).getD (0, k)) (gone := ioGone R st2.keep) hs hf (lp' := lp') (fun d l h => by cases h)
      (fun d hdd => ⟨(hd d hdd).2, fun h => by
        rcases hplace with ⟨_, h1, _, _⟩ | ⟨h1, _⟩
        · rw [h1]; exact (hd d hdd).1
        · rw [h] at h1; cases h1⟩)
      (fun r hr => by
        rcases hplace with ⟨h1, _⟩ | ⟨h1, _⟩
        · rw [hr] at h1; cases h1
        · rw [hr] at h1; cases h1; rfl)
      (fun hN => by
        rcases hplace with ⟨h1, h2, h3, h4⟩ | ⟨h1, j, h2, h3⟩
        · cases hdst : dst with
          | none =>
            rcases hnew hdst with h5 | h5
            · rw [hout] at h5; exact absurd (by simpa using h5) hN
            · rw [hout, h1] at h5; cases h5
          | some d =>
            obtain ⟨g1, g2⟩ := hd d hdst
            exact ⟨[], by rw [h2, ← g1]; exact g2, by rw [h3]; rfl⟩
        · obtain ⟨p, ob, hp, hl, _⟩ := hRL _ h2
          exact slotLen_ok hl h3)
      (fun h1 hn => by
        rcases hnew hn with h5 | h5
        · rw [hout] at h5; simpa using h5
        · rw [hout, h1] at h5; cases h5) (fun nm hn => let ⟨p, _, hp, _⟩ := hRL nm hn; ⟨p, hp⟩) hRn hs2 hv
      (e1.trans hext.os) (e3.trans hext.tape) (e4.trans hext.output) (by rw [e5]; exact hext.size) hOb hext.subI
      (fun b hb => by
        rcases hext.newI b hb with h | h | h
        · exact .inl h
        · exact .inr ⟨by rw [e5]; exact hf'.sep.iB b hb, .inr h⟩
        · exact .inr ⟨by rw [e5]; exact hf'.sep.iB b hb, .inl h⟩)
      (fun nm b C hn => by
        obtain ⟨g1, g2, g3, _⟩ := hf'.lB nm b C hn
        exact ⟨by rw [e5]; exact g2, g3, g1⟩) hf'.inj (by rw [← hB]; exact hBn) hge hB
    refine ⟨if h : us'.toArray.size = 1 then us'.toArray[0] else .tuple us'.toArray, ?_, I', locIo L L' B, ?_⟩
    · unfold results
      rw [Sem.run_bind, Array.mapM_eq_mapM_toList, Sem.run_map]
      rw [Array.toArray_toList] at q1
      exact (congrArg (fun r : Result (List Value) => (r.andThen fun a w' => Result.ok a.toArray w').andThen fun a w' => Sem.run cx.P (pure (if h : a.size = 1 then a[0] else Value.tuple a)) w') q1).trans rfl
    · rw [hout]; exact htk
  cases x with
  | normal => exact hpost
  | ret => exact hpost
  | exit id => exact absurd rfl (hxe id)
theorem mapM_congr {σ σ' : Nm → Option Ob} : ∀ (l : List Nm), (∀ nm ∈ l, σ nm = σ' nm) → l.mapM σ = l.mapM σ' := by
  intro l
  induction l with
  | nil => intro _; rfl
  | cons x l ih =>
    intro h
    rw [List.mapM_cons, List.mapM_cons, h x List.mem_cons_self, ih fun nm hn => h nm (List.mem_cons_of_mem _ hn)]
theorem shut_congr {σ σ' : Nm → Option Ob} {R : List Nm} (h : ∀ nm ∈ R, σ nm = σ' nm) : shutR σ R = shutR σ' R := by
  unfold shutR
  rw [Bool.eq_iff_iff]
  simp only [List.all_eq_true]
  exact ⟨fun g nm hn => by rw [← h nm hn]; exact g nm hn, fun g nm hn => by rw [h nm hn]; exact g nm hn⟩
theorem io_loc (M : Mach) (n : Nat) (tab : FuncId → Option RFn) : IoLocal (ioOf M n tab) := by
  intro g d σ σ' vs out hσ h hst
  unfold ioOf at h ⊢
  cases ht : tab g with
  | none => rw [ht] at h; cases h
  | some fn =>
    rw [ht] at h
    simp only at h ⊢
    rw [← reach_congr _ _ hσ]
    have hc : ∀ nm ∈ dedupN (reach σ deepest (namesL vs)), σ nm = σ' nm := fun nm hn => hσ nm (mem_dedupN.1 hn)
    rw [← mapM_congr _ hc, ← shut_congr hc]
    cases hm : (dedupN (reach σ deepest (namesL vs))).mapM σ with
    | none => rw [hm] at h; cases h
    | some ins =>
      rw [hm] at h
      simp only at h ⊢
      generalize dedupN (reach σ deepest (namesL vs)) = R at h ⊢
      obtain ⟨h1, h2⟩ := chk_some h
      simp only [chk, h1, if_true]
      split at h2
      case h_2 => cases h2
      rename_i st v hraw
      unfold ioEndAt at h2 ⊢
      cases R with
      | nil => exact h2
      | cons r rs =>
        simp only at h2
        split at h2
        · obtain ⟨N, B, _, _, rfl⟩ := ioEnd_some h2
          simp [outStays, outTurns] at hst
        · cases h2
theorem ioEnd_io {sl : Option Nat} {d0 i0 : Nat} {R : List Nm} {st : St} {v : PV} {out : Out} (h : ioEnd sl d0 i0 R st v = some out) : out.io = true := by
  obtain ⟨_, _, _, _, rfl⟩ := ioEnd_some h
  rfl
theorem io_flag (M : Mach) (n : Nat) (tab : FuncId → Option RFn) (g : FuncId) (d : Nat) (σ : Nm → Option Ob) (vs : List PV) (out : Out) (h : ioOf M n tab g d σ vs = some out) : out.io = true := by
  unfold ioOf at h
  split at h
  case h_1 => cases h
  simp only at h
  split at h
  case h_1 => cases h
  obtain ⟨_, h⟩ := chk_some h
  split at h
  case h_2 => cases h
  unfold ioEndAt at h
  split at h
  · exact ioEnd_io h
  · split at h
    · exact ioEnd_io h
    · cases h
theorem evalM_ok {cx : Cx} {sp : FuncId → (Nm → Option Ob) → List PV → Option Out} {tab : FuncId → Option RFn} (hsp : SpOK cx sp) (hloc : SpLocal sp) {dd : FuncId → Dead} (htab : TabOK cx tab dd) : ∀ n, CallOK cx (evalM sp tab n).call ∧ MSp cx (evalM sp tab n) ∧ MLoc (evalM sp tab n) := by
  intro n
  induction n with
  | zero => exact ⟨fun E h R dep lp Ir Fr_ wr g args e r obs e' hc => (by cases hc), ⟨hsp, fun g d st vs out h => (by cases h), fun g d σ vs out h => (by cases h)⟩, ⟨hloc, fun _ _ _ _ _ _ _ h _ => h⟩⟩
  | succ n ih =>
    obtain ⟨i1, i2, i3⟩ := ih
    exact ⟨callOf_ok i1 i2 i3 htab n, ⟨hsp, io_ok i1 i2 i3 htab n, io_flag _ n tab⟩, ⟨hloc, io_loc _ n tab⟩⟩
theorem fn_ok {cx : Cx} {sp : FuncId → (Nm → Option Ob) → List PV → Option Out} {tab : FuncId → Option RFn} (hsp : SpOK cx sp) (hloc : SpLocal sp) {dd : FuncId → Dead} (htab : TabOK cx tab dd) (n : Nat) : CallOK cx (evalFn sp tab n) := (evalM_ok hsp hloc htab n).1
end Go.Ab


namespace Go.Ab
theorem keptBut_of_same {w w' : World} {may : MemPlace → Prop} (h1 : w'.os = w.os) (h2 : w'.output = w.output) (h3 : ∀ b, b < w.heap.size → w'.heap[b]? = w.heap[b]?) : w.keptBut w' may := by
  refine ⟨h1, h2, fun i hi => ?_⟩
  rw [h3 i hi]
  cases hx : w.heap[i]? with
  | none => rfl
  | some o => cases o <;> first | rfl | exact ⟨rfl, rfl, rfl, fun _ _ => rfl⟩ | exact .inr ⟨rfl, rfl⟩
structure LawEnd (w w' : World) : Prop where
  os : w'.os = w.os
  tape : w'.tape = w.tape
  output : w'.output = w.output
  size : w.heap.size ≤ w'.heap.size
  same : ∀ b, b < w.heap.size → w'.heap[b]? = w.heap[b]?
theorem law_calls {cx : Cx} {call : CallT} (hM : CallOK cx call) {g : FuncId} {args : List PV} {b : Bool} {obs : List Ob} (hev : call Unit noHandler 0 g args () = some (.bool b, obs, ())) {I : Nat → Prop} {w : World} {vs : List Value}
    (hI : ∀ b, I b → b < w.heap.size) (hw : cx.Wd I w) (hrep : RepL w I (fun _ => none) none args vs) :
    Calls cx.P g vs.toArray w fun e w' => e = .returned (.bool b) ∧ LawEnd w w' := by
  obtain ⟨_, h⟩ := hM Unit noHandler relUnit 0 (fun _ => none) I (fun _ => False) w g args () (.bool b) obs () hev (hand_none cx _ _ _ _) (fun d l h => by cases h)
  have := h I (fun _ => False) w vs (Ext.refl _ _ _) ⟨hI, fun b hb => hb.elim⟩ hw trivial hrep
  refine callsIn_wide.1 (CallsIn.mono' this fun e w' hr => ?_)
  cases e with
  | returned v =>
    obtain ⟨I', F', ps, hce⟩ := hr
    exact ⟨by rw [inv_bool hce.rep], hce.ext.os, hce.ext.tape, hce.ext.output, hce.ext.size, fun b hb => hce.ext.keep b hb fun h => h⟩
  | panicked chain => exact hr.elim
  | outgrown => exact hr.elim
end Go.Ab


namespace Go.Ab
def Evl (P : Nat → Prop) : Prop := ∃ m, ∀ k, m ≤ k → P k
theorem Evl.of {P : Nat → Prop} (h : ∀ k, P k) : Evl P := ⟨0, fun k _ => h k⟩
theorem Evl.and {P Q : Nat → Prop} (h : Evl P) (h' : Evl Q) : Evl fun k => P k ∧ Q k := by
  obtain ⟨a, ha⟩ := h; obtain ⟨b, hb⟩ := h'
  exact ⟨max a b, fun k hk => ⟨ha k (by omega), hb k (by omega)⟩⟩
theorem Evl.mono {P Q : Nat → Prop} (h : Evl P) (f : ∀ k, P k → Q k) : Evl Q := by
  obtain ⟨a, ha⟩ := h; exact ⟨a, fun k hk => f k (ha k hk)⟩
theorem Evl.mono2 {P Q S : Nat → Prop} (h : Evl P) (h' : Evl Q) (f : ∀ k, P k → Q k → S k) : Evl S := (h.and h').mono fun k ⟨a, b⟩ => f k a b
def HRel {E1 E2 : Type} (RE : E1 → E2 → Prop) (h1 : Handler E1) (h2 : Nat → Handler E2) : Prop :=
  ∀ l args e1 e2, RE e1 e2 → ∀ b e1', h1 l args e1 = some (b, e1') → ∃ e2', RE e1' e2' ∧ Evl fun k => h2 k l args e2 = some (b, e2')
def CallLe (c1 : CallT) (c2 : Nat → CallT) : Prop :=
  ∀ (E1 E2 : Type) (RE : E1 → E2 → Prop) (h1 : Handler E1) (h2 : Nat → Handler E2), HRel RE h1 h2 →
    ∀ dep g args e1 e2, RE e1 e2 → ∀ r obs e1', c1 E1 h1 dep g args e1 = some (r, obs, e1') → ∃ e2', RE e1' e2' ∧ Evl fun k => c2 k E2 (h2 k) dep g args e2 = some (r, obs, e2')
structure MLe (M1 : Mach) (M2 : Nat → Mach) : Prop where
  sp : ∀ k, M1.sp = (M2 k).sp
  call : CallLe M1.call fun k => (M2 k).call
  isIo : ∀ k, M1.isIo = (M2 k).isIo
  leans : ∀ k, M1.leans = (M2 k).leans
  io : ∀ g dst σ vs out, M1.io g dst σ vs = some out → Evl fun k => (M2 k).io g dst σ vs = some out
section par
variable {M1 : Mach} {M2 : Nat → Mach} (hM : MLe M1 M2) {E1 E2 : Type} {RE : E1 → E2 → Prop} {h1 : Handler E1} {h2 : Nat → Handler E2} (hh : HRel RE h1 h2)
include hM
theorem unit_call (g : FuncId) (args : List PV) {r : PV} {obs : List Ob} {u : Unit} (h : M1.call Unit noHandler 0 g args () = some (r, obs, u)) : Evl fun k => (M2 k).call Unit noHandler 0 g args () = some (r, obs, ()) := by
  obtain ⟨_, _, h'⟩ := hM.call Unit Unit (fun _ _ => True) noHandler (fun _ => noHandler) (fun _ _ _ _ _ _ _ h => by cases h) 0 g args () () trivial r obs u h
  exact h'
include hh
theorem execCall_par (dep dst : Nat) (σ : Nm → Option Ob) (tm : List PV) (f : RX) (args : List RX) {e1 : E1} {e2 : E2} (he : RE e1 e2) {out : Out} {e1' : E1}
    (h : execCall M1 h1 dep dst σ tm f args e1 = some (out, e1')) : ∃ e2', RE e1' e2' ∧ Evl fun k => execCall (M2 k) (h2 k) dep dst σ tm f args e2 = some (out, e2') := by
  unfold execCall at h ⊢
  cases hf : f.ev tm with
  | yld d =>
    simp only [hf] at h ⊢
    by_cases hS : (namesL (args.map (RX.ev tm))).isEmpty = true
    · simp only [hS, if_true] at h ⊢
      unfold chk at h ⊢
      split at h
      · rename_i hy
        simp only [hy, if_true]
        cases hq : h1 d (args.map (RX.ev tm)) e1 with
        | none => rw [hq] at h; cases h
        | some p =>
          obtain ⟨b, e⟩ := p
          rw [hq] at h; cases h
          obtain ⟨e2', hr, h2'⟩ := hh _ _ _ _ he _ _ hq
          exact ⟨e2', hr, h2'.mono fun k hk => by rw [hk]⟩
      · cases h
    · simp only [hS] at h ⊢
      unfold chk at h ⊢
      simp only [Bool.false_eq_true, if_false] at h ⊢
      split at h
      · rename_i hy
        simp only [hy, if_true]
        cases hq : h1 d (subL (closed σ) (args.map (RX.ev tm))) e1 with
        | none => rw [hq] at h; cases h
        | some p =>
          obtain ⟨b, e⟩ := p
          rw [hq] at h; cases h
          obtain ⟨e2', hr, h2'⟩ := hh _ _ _ _ he _ _ hq
          exact ⟨e2', hr, h2'.mono fun k hk => by rw [hk]⟩
      · cases h
  | fn g cap =>
    simp only [hf] at h ⊢
    simp only [← hM.sp, ← hM.isIo, ← hM.leans]
    cases hs : M1.sp g σ (args.map (RX.ev tm) ++ cap) with
    | some o => simp only [hs] at h ⊢; cases h; exact ⟨e2, he, .of fun _ => rfl⟩
    | none =>
      simp only [hs] at h ⊢
      cases hio : M1.isIo g with
      | true =>
        simp only [hio, if_true] at h ⊢
        cases hq : M1.io g dst σ (args.map (RX.ev tm) ++ cap) with
        | none => rw [hq] at h; cases h
        | some o => rw [hq] at h; cases h; exact ⟨e2, he, (hM.io _ _ _ _ _ hq).mono fun k hk => by rw [hk]⟩
      | false =>
      simp only [hio, Bool.false_eq_true, if_false] at h ⊢
      by_cases hS : (namesL (args.map (RX.ev tm) ++ cap)).isEmpty = true
      · simp only [hS, if_true] at h ⊢
        by_cases hy : hasYL (args.map (RX.ev tm) ++ cap) = true
        · simp only [hy, if_true] at h ⊢
          cases hq : M1.call E1 h1 dep g (args.map (RX.ev tm) ++ cap) e1 with
          | none => rw [hq] at h; cases h
          | some p =>
            obtain ⟨r, obs, e⟩ := p
            rw [hq] at h; cases h
            obtain ⟨e2', hr, h2'⟩ := hM.call E1 E2 RE h1 h2 hh _ _ _ _ _ he _ _ _ hq
            exact ⟨e2', hr, h2'.mono fun k hk => by simp only at hk; rw [hk]⟩
        · simp only [hy] at h ⊢
          simp only [Bool.false_eq_true, if_false] at h ⊢
          cases hq : M1.call Unit noHandler 0 g (args.map (RX.ev tm) ++ cap) () with
          | none => rw [hq] at h; cases h
          | some p =>
            obtain ⟨r, obs, e⟩ := p
            rw [hq] at h; cases h
            exact ⟨e2, he, (unit_call hM _ _ hq).mono fun k hk => by rw [hk]⟩
      · simp only [hS] at h ⊢
        unfold chk at h ⊢
        simp only [Bool.false_eq_true, if_false] at h ⊢
        split at h
        · rename_i hy
          simp only [hy, if_true]
          cases hq : M1.call Unit noHandler 0 g (subL (closed σ) (args.map (RX.ev tm) ++ cap)) () with
          | none => rw [hq] at h; cases h
          | some p =>
            obtain ⟨r, obs, e⟩ := p
            rw [hq] at h; cases h
            exact ⟨e2, he, (unit_call hM _ _ hq).mono fun k hk => by rw [hk]⟩
        · cases h
  | _ => simp only [hf] at h; cases h
theorem outOf_par (dep : Nat) (o : ROper) (st : St) {e1 : E1} {e2 : E2} (he : RE e1 e2) {out : Out} {e1' : E1} (h : outOf M1 h1 dep o st e1 = some (out, e1')) :
    ∃ e2', RE e1' e2' ∧ Evl fun k => outOf (M2 k) (h2 k) dep o st e2 = some (out, e2') := by
  unfold outOf chk at h ⊢
  split at h
  · rename_i hf
    simp only [hf, if_true]
    cases hop : o.op with
    | call f args =>
      simp only [hop] at h ⊢
      cases hq : execCall M1 h1 dep (o.dst.getD 0) (look st.objs) st.tmps f args e1 with
      | none => rw [hq] at h; cases h
      | some p =>
        obtain ⟨out1, e3⟩ := p
        rw [hq] at h
        simp only [chk] at h
        split at h
        · rename_i hg
          cases h
          obtain ⟨e2', hr, h2'⟩ := execCall_par hM hh dep _ _ _ f args he hq
          exact ⟨e2', hr, h2'.mono fun k hk => by rw [hk]; simp only [hg, if_true]⟩
        · cases h
    | _ =>
      simp only [hop] at h ⊢
      split at h
      · cases h; exact ⟨e2, he, .of fun _ => rfl⟩
      · cases h
  · cases h
theorem stepOp_par (dep : Nat) (o : ROper) (st : St) {e1 : E1} {e2 : E2} (he : RE e1 e2) {st' : St} {e1' : E1} (h : stepOp M1 h1 dep o st e1 = some (st', e1')) :
    ∃ e2', RE e1' e2' ∧ Evl fun k => stepOp (M2 k) (h2 k) dep o st e2 = some (st', e2') := by
  unfold stepOp at h ⊢
  cases hq : outOf M1 h1 dep o st e1 with
  | none => rw [hq] at h; cases h
  | some p =>
    obtain ⟨out, e⟩ := p
    rw [hq] at h; cases h
    obtain ⟨e2', hr, h2'⟩ := outOf_par hM hh dep o st he hq
    exact ⟨e2', hr, h2'.mono fun k hk => by rw [hk]⟩
theorem stepG_par (dep : Nat) (ops : List ROper) (o : ROper) (st : St) {e1 : E1} {e2 : E2} (he : RE e1 e2) {st' : St} {e1' : E1} (h : stepG M1 h1 dep ops o st e1 = some (st', e1')) :
    ∃ e2', RE e1' e2' ∧ Evl fun k => stepG (M2 k) (h2 k) dep ops o st e2 = some (st', e2') := by
  unfold stepG at h ⊢
  cases hw : wants ops o st.tmps with
  | none => rw [hw] at h; cases h
  | some b =>
    rw [hw] at h
    cases b with
    | true => exact stepOp_par hM hh dep o st he h
    | false => cases h; exact ⟨e2, he, .of fun _ => rfl⟩
theorem runOps_par (dep : Nat) (ops : List ROper) : ∀ (l : List ROper) (st : St) {e1 : E1} {e2 : E2} (_ : RE e1 e2) {st' : St} {e1' : E1} (_ : runOps M1 h1 dep ops l st e1 = some (st', e1')),
    ∃ e2', RE e1' e2' ∧ Evl fun k => runOps (M2 k) (h2 k) dep ops l st e2 = some (st', e2') := by
  intro l
  induction l with
  | nil => intro st e1 e2 he st' e1' h; cases h; exact ⟨e2, he, .of fun _ => rfl⟩
  | cons o rest ih =>
    intro st e1 e2 he st' e1' h
    unfold runOps at h ⊢
    cases hq : stepG M1 h1 dep ops o st e1 with
    | none => rw [hq] at h; cases h
    | some p =>
      obtain ⟨s, e⟩ := p
      rw [hq] at h
      obtain ⟨e2', hr, h2'⟩ := stepG_par hM hh dep ops o st he hq
      obtain ⟨e3', hr3, h3'⟩ := ih s hr h
      exact ⟨e3', hr3, h2'.mono2 h3' fun k hk hk' => by rw [hk]; exact hk'⟩
theorem outD_par (dep : Nat) (ops : List ROper) (i : Nat) (o : ROper) (st : St) {e1 : E1} {e2 : E2} (he : RE e1 e2) {out : Out} {e1' : E1} {inf : Info} (h : outD M1 h1 dep ops i o st e1 = some (out, e1', inf)) :
    ∃ e2', RE e1' e2' ∧ Evl fun k => outD (M2 k) (h2 k) dep ops i o st e2 = some (out, e2', inf) := by
  unfold outD at h ⊢
  cases hw : wants ops o st.tmps with
  | none => rw [hw] at h; cases h
  | some b =>
    rw [hw] at h
    cases b with
    | true =>
      simp only at h ⊢
      cases hq : outOf M1 h1 dep o st e1 with
      | none => rw [hq] at h; cases h
      | some p =>
        obtain ⟨out, e⟩ := p
        rw [hq] at h; cases h
        obtain ⟨e2', hr, h2'⟩ := outOf_par hM hh dep o st he hq
        exact ⟨e2', hr, h2'.mono fun k hk => by rw [hk]⟩
    | false => cases h; exact ⟨e2, he, .of fun _ => rfl⟩
theorem runD_par (dep : Nat) (ops : List ROper) : ∀ (l : List (Nat × Nat)) (infos : List Info) (st : St) {e1 : E1} {e2 : E2} (_ : RE e1 e2) {st' : St} {e1' : E1} (_ : runD M1 h1 dep ops l infos st e1 = some (st', e1')),
    ∃ e2', RE e1' e2' ∧ Evl fun k => runD (M2 k) (h2 k) dep ops l infos st e2 = some (st', e2') := by
  intro l
  induction l with
  | nil => intro infos st e1 e2 he st' e1' h; cases h; exact ⟨e2, he, .of fun _ => rfl⟩
  | cons p rest ih =>
    obtain ⟨i, bef⟩ := p
    intro infos st e1 e2 he st' e1' h
    unfold runD at h ⊢
    cases hi : ops[i]? with
    | none => rw [hi] at h; cases h
    | some o =>
      simp only [hi] at h ⊢
      unfold stepD at h ⊢
      cases hq : outD M1 h1 dep ops i o st e1 with
      | none => rw [hq] at h; cases h
      | some p =>
        obtain ⟨out, e, inf⟩ := p
        simp only [hq] at h ⊢
        obtain ⟨e2', hr, h2'⟩ := outD_par hM hh dep ops i o st he hq
        unfold chk at h ⊢
        split at h
        · rename_i hc
          obtain ⟨e3', hr3, h3'⟩ := ih _ _ hr h
          exact ⟨e3', hr3, h2'.mono2 h3' fun k hk hk' => by rw [hk]; simp only [hc, if_true]; exact hk'⟩
        · cases h
end par
def rangeH (M : Mach) (fuel : Nat) (asg b : RCode) {E : Type} (h : Handler E) (dep : Nat) (ps : List Nat) : Handler (Rec E) := fun l args r =>
  if l = dep then
    match r with
    | (s, none, e) =>
      if args.length = ps.length then
        match evalC M fuel asg h (dep + 1) { s with tmps := setPs ps args s.tmps, keep := s.tmps ++ s.keep } e with
        | some (.normal, s', e) => match evalC M fuel b h (dep + 1) s' e with
          | some (x, s', e) => some (x == .normal, ({ s' with tmps := s'.keep.take s.tmps.length, keep := s'.keep.drop s.tmps.length }, (if x = .normal then none else some x), e))
          | none => none
        | _ => none
      else none
    | _ => none
  else
    match r with
    | (s, p, e) => match h l args e with
      | some (b, e) => some (b, (s, p, e))
      | none => none
theorem evalC_rangeH (M : Mach) (fuel : Nat) (f : RX) (ps : List Nat) (asg b : RCode) {E : Type} (h : Handler E) (dep : Nat) (st : St) (e : E) :
    evalC M fuel (.rangeFunc f ps asg b) h dep st e = (match freezeV st (f.ev st.tmps) with
      | some (.fn g cap, st) => match M.call (Rec E) (rangeH M fuel asg b h dep ps) (dep + 1) g (.yld dep :: cap) (st, none, e) with
        | some (_, _, s, p, e) => some (p.getD .normal, s, e)
        | none => none
      | _ => none) := rfl
def loopStep (M : Mach) (fuel : Nat) (asg : List Nat) (grow : List (Nat × Nat)) (b : RCode) {E : Type} (h : Handler E) (dep : Nat) (ds : List Nat) (s : St × E) : Option (Sum (St × E) (Ex × (St × E))) :=
  match evalC M fuel b h dep s.1 s.2 with
  | some (.normal, st, e) => some (.inl (norm asg grow (drop ds st), e))
  | some (x, st, e) => some (.inr (x, st, e))
  | none => none
theorem evalC_loop (M : Mach) (fuel : Nat) (asg : List Nat) (grow : List (Nat × Nat)) (b : RCode) {E : Type} (h : Handler E) (dep : Nat) (st : St) (e : E) :
    evalC M fuel (.loop asg grow b) h dep st e = (match repeatN (loopStep M fuel asg grow b h dep (undefs (norm asg grow st))) fuel (norm asg grow st, e) with
      | some (x, st, e) => some (x, st, e)
      | none => none) := rfl
def onStep {σ ρ τ : Type} (f : σ → Option τ) (g : ρ → Option τ) : Option (Sum σ ρ) → Option τ
  | some (.inl s) => f s
  | some (.inr r) => g r
  | none => none
theorem repeat_par {σ1 σ2 ρ1 ρ2 : Type} {R : σ1 → σ2 → Prop} {Q : ρ1 → ρ2 → Prop} {s1 : σ1 → Option (Sum σ1 ρ1)} {s2 : Nat → σ2 → Option (Sum σ2 ρ2)}
    (rep1 : Nat → σ1 → Option ρ1) (hz1 : ∀ s, rep1 0 s = none) (hs1 : ∀ n s, rep1 (n + 1) s = onStep (rep1 n) some (s1 s))
    (rep2 : Nat → Nat → σ2 → Option ρ2) (hs2 : ∀ k n s, rep2 k (n + 1) s = onStep (rep2 k n) some (s2 k s))
    (hs : ∀ a b, R a b → (∀ a', s1 a = some (.inl a') → ∃ b', R a' b' ∧ Evl fun k => s2 k b = some (.inl b')) ∧ (∀ r, s1 a = some (.inr r) → ∃ r', Q r r' ∧ Evl fun k => s2 k b = some (.inr r'))) :
    ∀ (n : Nat) a b, R a b → ∀ r, rep1 n a = some r → ∃ r', Q r r' ∧ Evl fun k => ∀ j, n ≤ j → rep2 k j b = some r' := by
  intro n
  induction n with
  | zero => intro a b _ r h; rw [hz1] at h; cases h
  | succ n ih =>
    intro a b hr r h
    rw [hs1] at h
    cases hq : s1 a with
    | none => rw [hq] at h; cases h
    | some q =>
      rw [hq] at h
      cases q with
      | inl a1 =>
        obtain ⟨b1, hr1, h2⟩ := (hs a b hr).1 a1 hq
        obtain ⟨r', hq', h3⟩ := ih a1 b1 hr1 r h
        exact ⟨r', hq', h2.mono2 h3 fun k hk hk' j hj => by
          obtain ⟨j, rfl⟩ : ∃ i, j = i + 1 := ⟨j - 1, by omega⟩
          rw [hs2, hk]; exact hk' j (by omega)⟩
      | inr p =>
        cases h
        obtain ⟨r', hr1, h2⟩ := (hs a b hr).2 r hq
        exact ⟨r', hr1, h2.mono fun k hk j hj => by
          obtain ⟨j, rfl⟩ : ∃ i, j = i + 1 := ⟨j - 1, by omega⟩
          rw [hs2, hk]; rfl⟩
theorem repeatN_eq {σ : Type} (step : σ → Option (Sum σ (Ex × σ))) (n : Nat) (s : σ) :
    repeatN step (n + 1) s = onStep (repeatN step n) some (step s) := by
  rw [repeatN]; rcases step s with _ | (_ | _) <;> rfl
theorem Evl.diag {P : Nat → Nat → Prop} {n : Nat} (h : Evl fun k => ∀ j, n ≤ j → P k j) : Evl fun k => P k k := by
  obtain ⟨a, ha⟩ := h; exact ⟨max a n, fun k hk => ha k (by omega) k (by omega)⟩
theorem evalC_par {M1 : Mach} {M2 : Nat → Mach} (hM : MLe M1 M2) {f1 : Nat} : ∀ (c : RCode) {E1 E2 : Type} {RE : E1 → E2 → Prop} {h1 : Handler E1} {h2 : Nat → Handler E2} (_ : HRel RE h1 h2) (dep : Nat) (st : St) {e1 : E1} {e2 : E2} (_ : RE e1 e2)
    {x : Ex} {st' : St} {e1' : E1} (_ : evalC M1 f1 c h1 dep st e1 = some (x, st', e1')), ∃ e2', RE e1' e2' ∧ Evl fun k => evalC (M2 k) k c (h2 k) dep st e2 = some (x, st', e2') := by
  intro c
  induction c with
  | skip => intro E1 E2 RE h1 h2 hh dep st e1 e2 he x st' e1' h; cases h; exact ⟨e2, he, .of fun _ => rfl⟩
  | region ops dr lv =>
    intro E1 E2 RE h1 h2 hh dep st e1 e2 he x st' e1' h
    cases dr with
    | none =>
      simp only [evalC] at h ⊢
      cases hq : runOps M1 h1 dep ops ops (clean (dsts ops) st) e1 with
      | none => rw [hq] at h; cases h
      | some p =>
        obtain ⟨s, e⟩ := p
        rw [hq] at h; cases h
        obtain ⟨e2', hr, h2'⟩ := runOps_par hM hh dep ops ops _ he hq
        exact ⟨e2', hr, h2'.mono fun k hk => by rw [hk]⟩
    | some bef =>
      simp only [evalC] at h ⊢
      cases hq : runD M1 h1 dep ops bef [] (clean (dsts ops) st) e1 with
      | none => rw [hq] at h; cases h
      | some p =>
        obtain ⟨s, e⟩ := p
        rw [hq] at h; cases h
        obtain ⟨e2', hr, h2'⟩ := runD_par hM hh dep ops bef [] _ he hq
        exact ⟨e2', hr, h2'.mono fun k hk => by rw [hk]⟩
  | seq a b iha ihb =>
    intro E1 E2 RE h1 h2 hh dep st e1 e2 he x st' e1' h
    simp only [evalC] at h ⊢
    cases hq : evalC M1 f1 a h1 dep st e1 with
    | none => rw [hq] at h; cases h
    | some p =>
      obtain ⟨y, s, e⟩ := p
      rw [hq] at h
      obtain ⟨e2', hr, h2'⟩ := iha hh dep st he hq
      cases y with
      | normal =>
        obtain ⟨e3', hr3, h3'⟩ := ihb hh dep s hr h
        exact ⟨e3', hr3, h2'.mono2 h3' fun k hk hk' => by rw [hk]; exact hk'⟩
      | exit id => cases h; exact ⟨e2', hr, h2'.mono fun k hk => by rw [hk]⟩
      | ret => cases h; exact ⟨e2', hr, h2'.mono fun k hk => by rw [hk]⟩
  | cond c a b iha ihb =>
    intro E1 E2 RE h1 h2 hh dep st e1 e2 he x st' e1' h
    simp only [evalC] at h ⊢
    cases hc : c.ev st.tmps with
    | bool v =>
      rw [hc] at h
      cases v with
      | true => exact iha hh dep st he h
      | false => exact ihb hh dep st he h
    | _ => rw [hc] at h; cases h
  | block id b ih =>
    intro E1 E2 RE h1 h2 hh dep st e1 e2 he x st' e1' h
    simp only [evalC] at h ⊢
    cases hq : evalC M1 f1 b h1 dep st e1 with
    | none => rw [hq] at h; cases h
    | some p =>
      obtain ⟨y, s, e⟩ := p
      rw [hq] at h
      obtain ⟨e2', hr, h2'⟩ := ih hh dep st he hq
      cases y with
      | normal => cases h; exact ⟨e2', hr, h2'.mono fun k hk => by rw [hk]⟩
      | ret => cases h; exact ⟨e2', hr, h2'.mono fun k hk => by rw [hk]⟩
      | exit id' =>
        simp only at h ⊢
        split at h <;> rename_i hid
        · cases h; exact ⟨e2', hr, h2'.mono fun k hk => by rw [hk]; simp only [hid, if_true]⟩
        · cases h; exact ⟨e2', hr, h2'.mono fun k hk => by rw [hk]; simp only [hid, if_false]⟩
  | loop asg grow b ih =>
    intro E1 E2 RE h1 h2 hh dep st e1 e2 he x st' e1' h
    simp only [evalC_loop] at h ⊢
    generalize norm asg grow st = z0 at h ⊢
    cases hq : repeatN (loopStep M1 f1 asg grow b h1 dep (undefs z0)) f1 (z0, e1) with
    | none => rw [hq] at h; cases h
    | some q =>
      obtain ⟨x0, st0, e0⟩ := q
      rw [hq] at h
      cases h
      obtain ⟨⟨x2, s2, e2'⟩, hr, h2'⟩ := repeat_par (R := fun (a : St × E1) (b : St × E2) => a.1 = b.1 ∧ RE a.2 b.2) (Q := fun (a : Ex × St × E1) (b : Ex × St × E2) => a.1 = b.1 ∧ a.2.1 = b.2.1 ∧ RE a.2.2 b.2.2)
        (s1 := loopStep M1 f1 asg grow b h1 dep (undefs z0)) (s2 := fun k => loopStep (M2 k) k asg grow b (h2 k) dep (undefs z0))
        (repeatN (loopStep M1 f1 asg grow b h1 dep (undefs z0))) (fun _ => rfl) (fun n s => repeatN_eq _ n s) (fun k => repeatN (loopStep (M2 k) k asg grow b (h2 k) dep (undefs z0))) (fun k n s => repeatN_eq (loopStep (M2 k) k asg grow b (h2 k) dep (undefs z0)) n s) (by
          rintro ⟨a, ea⟩ ⟨b', eb⟩ ⟨h01, hre⟩
          simp only at h01 hre
          subst h01
          refine ⟨fun a' ha => ?_, fun r ha => ?_⟩
          · unfold loopStep at ha ⊢
            simp only at ha ⊢
            cases hb : evalC M1 f1 b h1 dep a ea with
            | none => rw [hb] at ha; cases ha
            | some p =>
              obtain ⟨y, s, e⟩ := p
              rw [hb] at ha
              obtain ⟨e3, hr3, h3⟩ := ih hh dep a hre hb
              cases y with
              | normal => cases ha; exact ⟨(_, e3), ⟨rfl, hr3⟩, h3.mono fun k hk => by rw [hk]⟩
              | exit id => cases ha
              | ret => cases ha
          · unfold loopStep at ha ⊢
            simp only at ha ⊢
            cases hb : evalC M1 f1 b h1 dep a ea with
            | none => rw [hb] at ha; cases ha
            | some p =>
              obtain ⟨y, s, e⟩ := p
              rw [hb] at ha
              obtain ⟨e3, hr3, h3⟩ := ih hh dep a hre hb
              cases y with
              | normal => cases ha
              | exit id => cases ha; exact ⟨(_, _, e3), ⟨rfl, rfl, hr3⟩, h3.mono fun k hk => by rw [hk]⟩
              | ret => cases ha; exact ⟨(_, _, e3), ⟨rfl, rfl, hr3⟩, h3.mono fun k hk => by rw [hk]⟩) f1 (z0, e1) (z0, e2) ⟨rfl, he⟩ _ hq
      simp only at hr
      obtain ⟨h00, h01, hre⟩ := hr
      subst h00; subst h01
      exact ⟨e2', hre, h2'.diag.mono fun k hk => by rw [hk]⟩
  | rangeFunc f ps asg b iha ihb =>
    intro E1 E2 RE h1 h2 hh dep st e1 e2 he x st' e1' h
    simp only [evalC_rangeH] at h ⊢
    cases hz : freezeV st (f.ev st.tmps) with
    | none => rw [hz] at h; cases h
    | some p =>
      obtain ⟨v, s0⟩ := p
      rw [hz] at h
      cases v with
      | fn g cap =>
        simp only at h ⊢
        cases hq : M1.call (Rec E1) (rangeH M1 f1 asg b h1 dep ps) (dep + 1) g (.yld dep :: cap) (s0, none, e1) with
        | none => rw [hq] at h; cases h
        | some q =>
          obtain ⟨r, obs, s, p, e⟩ := q
          rw [hq] at h
          cases h
          obtain ⟨⟨s2, p2, e2'⟩, hr, h2'⟩ := hM.call (Rec E1) (Rec E2) (fun (a : Rec E1) (b : Rec E2) => a.1 = b.1 ∧ a.2.1 = b.2.1 ∧ RE a.2.2 b.2.2) (rangeH M1 f1 asg b h1 dep ps) (fun k => rangeH (M2 k) k asg b (h2 k) dep ps) (by
              rintro l args ⟨s, p, e⟩ ⟨s2, p2, e2⟩ ⟨h01, h02, hre⟩ bb ⟨s', p', e'⟩ hq
              simp only at h01 h02 hre
              subst h01; subst h02
              unfold rangeH at hq ⊢
              by_cases hl : l = dep
              · simp only [hl, if_true] at hq ⊢
                cases p with
                | some x => cases hq
                | none =>
                  simp only at hq ⊢
                  by_cases hlen : args.length = ps.length
                  · simp only [hlen, if_true] at hq ⊢
                    cases ha : evalC M1 f1 asg h1 (dep + 1) { s with tmps := setPs ps args s.tmps, keep := s.tmps ++ s.keep } e with
                    | none => rw [ha] at hq; cases hq
                    | some q =>
                      obtain ⟨y, s3, e3⟩ := q
                      rw [ha] at hq
                      obtain ⟨e4, hr4, h4⟩ := iha hh (dep + 1) _ hre ha
                      cases y with
                      | normal =>
                        simp only at hq ⊢
                        cases hb : evalC M1 f1 b h1 (dep + 1) s3 e3 with
                        | none => rw [hb] at hq; cases hq
                        | some q =>
                          obtain ⟨y, s5, e5⟩ := q
                          rw [hb] at hq
                          obtain ⟨e6, hr6, h6⟩ := ihb hh (dep + 1) _ hr4 hb
                          cases hq
                          exact ⟨(_, _, e6), ⟨rfl, rfl, hr6⟩, h4.mono2 h6 fun k hk hk' => by simp only [hk, hk']; rfl⟩
                      | exit id => cases hq
                      | ret => cases hq
                  · simp only [hlen, if_false] at hq; cases hq
              · simp only [hl, if_false] at hq ⊢
                cases ha : h1 l args e with
                | none => rw [ha] at hq; cases hq
                | some q =>
                  obtain ⟨y, e3⟩ := q
                  rw [ha] at hq; cases hq
                  obtain ⟨e4, hr4, h4⟩ := hh l args _ _ hre _ _ ha
                  exact ⟨(_, _, e4), ⟨rfl, rfl, hr4⟩, h4.mono fun k hk => by rw [hk]⟩) (dep + 1) g (.yld dep :: cap) (s0, none, e1) (s0, none, e2) ⟨rfl, rfl, he⟩ r obs _ hq
          simp only at hr
          obtain ⟨h01, h02, hre⟩ := hr
          subst h01; subst h02
          exact ⟨e2', hre, h2'.mono fun k hk => by simp only at hk; rw [hk]⟩
      | _ => cases h
  | exit id => intro E1 E2 RE h1 h2 hh dep st e1 e2 he x st' e1' h; cases h; exact ⟨e2, he, .of fun _ => rfl⟩
  | norm g => intro E1 E2 RE h1 h2 hh dep st e1 e2 he x st' e1' h; cases h; exact ⟨e2, he, .of fun _ => rfl⟩
  | scope b ih =>
    intro E1 E2 RE h1 h2 hh dep st e1 e2 he x st' e1' h
    simp only [evalC] at h ⊢
    cases hq : evalC M1 f1 b h1 dep st e1 with
    | none => rw [hq] at h; cases h
    | some p =>
      obtain ⟨y, s, e⟩ := p
      rw [hq] at h
      obtain ⟨e2', hr, h2'⟩ := ih hh dep st he hq
      cases y with
      | normal => cases h; exact ⟨e2', hr, h2'.mono fun k hk => by rw [hk]⟩
      | ret => cases h; exact ⟨e2', hr, h2'.mono fun k hk => by rw [hk]⟩
      | exit id' =>
        simp only at h ⊢
        split at h <;> rename_i hid
        · cases h; exact ⟨e2', hr, h2'.mono fun k hk => by rw [hk]; simp only [hid, if_true]⟩
        · cases h
  | ret => intro E1 E2 RE h1 h2 hh dep st e1 e2 he x st' e1' h; cases h; exact ⟨e2, he, .of fun _ => rfl⟩
  | bad => intro E1 E2 RE h1 h2 hh dep st e1 e2 he x st' e1' h; cases h
theorem Evl.shift {P : Nat → Prop} (h : Evl P) : Evl fun k => ∃ j, k = j + 1 ∧ P j := by
  obtain ⟨a, ha⟩ := h; exact ⟨a + 1, fun k hk => ⟨k - 1, by omega, ha _ (by omega)⟩⟩
theorem HRel.shift {E1 E2 : Type} {RE : E1 → E2 → Prop} {h1 : Handler E1} {h2 : Nat → Handler E2} (hh : HRel RE h1 h2) : HRel RE h1 fun k => h2 (k + 1) := by
  intro l args e1 e2 he b e1' h
  obtain ⟨e2', hr, a, ha⟩ := hh l args e1 e2 he b e1' h
  exact ⟨e2', hr, a, fun k hk => ha _ (by omega)⟩
theorem callOf_par {M1 : Mach} {M2 : Nat → Mach} (hM : MLe M1 M2) (n : Nat) (tab : FuncId → Option RFn) : CallLe (callOf M1 n tab) (fun k => callOf (M2 k) k tab) := by
  intro E1 E2 RE h1 h2 hh dep g args e1 e2 he r obs e1' h
  simp only [callOf] at h ⊢
  cases ht : tab g with
  | none => rw [ht] at h; cases h
  | some fn =>
    rw [ht] at h
    simp only at h ⊢
    cases hq : evalC M1 n fn.code h1 dep { tmps := args ++ List.replicate (fn.nt - args.length) .undef, objs := List.replicate fn.nt [], keep := [] } e1 with
    | none => rw [hq] at h; cases h
    | some p =>
      obtain ⟨x, s, e⟩ := p
      rw [hq] at h
      obtain ⟨e2', hr, h2'⟩ := evalC_par hM fn.code hh dep _ he hq
      cases x with
      | exit id => cases h
      | normal =>
        simp only at h
        cases h3 : resVs s fn.res with
        | none => rw [h3] at h; cases h
        | some vs =>
          rw [h3] at h
          simp only at h
          cases h4 : handOver fn.shut s (oneOf vs) with
          | none => rw [h4] at h; cases h
          | some q =>
            obtain ⟨v, obs'⟩ := q; rw [h4] at h; cases h
            exact ⟨e2', hr, h2'.mono fun k hk => by simp only [hk, h3, h4]⟩
      | ret =>
        simp only at h
        cases h3 : resVs s fn.res with
        | none => rw [h3] at h; cases h
        | some vs =>
          rw [h3] at h
          simp only at h
          cases h4 : handOver fn.shut s (oneOf vs) with
          | none => rw [h4] at h; cases h
          | some q =>
            obtain ⟨v, obs'⟩ := q; rw [h4] at h; cases h
            exact ⟨e2', hr, h2'.mono fun k hk => by simp only [hk, h3, h4]⟩
theorem ioRaw_par {M1 : Mach} {M2 : Nat → Mach} (hM : MLe M1 M2) (n : Nat) (fn : RFn) (ins : List Ob) (vs : List PV) {r : St × PV} (h : ioRaw M1 n fn ins vs = some r) : Evl fun k => ioRaw (M2 k) k fn ins vs = some r := by
  unfold ioRaw at h ⊢
  cases hq : evalC M1 n fn.code noHandler 0 (ioSt fn.nt ins vs) () with
  | none => rw [hq] at h; cases h
  | some p =>
    obtain ⟨x, s, e⟩ := p
    rw [hq] at h
    obtain ⟨e2', _, h2'⟩ := evalC_par (RE := fun (_ _ : Unit) => True) (h1 := noHandler) (h2 := fun _ => noHandler) hM fn.code (fun _ _ _ _ _ _ _ h => by cases h) 0 _ (e1 := ()) (e2 := ()) trivial hq
    refine h2'.mono fun k hk => ?_
    rw [hk]
    exact h
theorem ioOf_par {M1 : Mach} {M2 : Nat → Mach} (hM : MLe M1 M2) (n : Nat) (tab : FuncId → Option RFn) (g : FuncId) (dst : Nat) (σ : Nm → Option Ob) (vs : List PV) (out : Out) (h : ioOf M1 n tab g dst σ vs = some out) :
    Evl fun k => ioOf (M2 k) k tab g dst σ vs = some out := by
  unfold ioOf at h ⊢
  cases ht : tab g with
  | none => rw [ht] at h; cases h
  | some fn =>
    rw [ht] at h
    simp only at h ⊢
    cases hm : (dedupN (reach σ deepest (namesL vs))).mapM σ with
    | none => rw [hm] at h; cases h
    | some ins =>
      rw [hm] at h
      simp only at h ⊢
      unfold chk at h ⊢
      split at h
      case isFalse => cases h
      rename_i hc
      simp only [hc, if_true]
      cases hq : ioRaw M1 n fn (ins.map (Ob.ren fun m => (0, (dedupN (reach σ deepest (namesL vs))).idxOf m))) (renL (fun m => (0, (dedupN (reach σ deepest (namesL vs))).idxOf m)) vs) with
      | none => rw [hq] at h; cases h
      | some p =>
        rw [hq] at h
        refine (ioRaw_par hM n fn _ _ hq).mono fun k hk => ?_
        rw [hk]
        exact h
theorem MLe.of_tail {M1 : Mach} {M2 : Nat → Mach} (h : MLe M1 fun k => M2 (k + 1)) (h0 : M1.sp = (M2 0).sp) (h1 : M1.isIo = (M2 0).isIo) (h2 : M1.leans = (M2 0).leans) : MLe M1 M2 where
  sp k := by cases k with | zero => exact h0 | succ k => exact h.sp k
  call := by
    intro E1 E2 RE g1 g2 hh dep g args e1 e2 he r obs e1' hq
    obtain ⟨e2', hr, h2⟩ := h.call E1 E2 RE g1 (fun k => g2 (k + 1)) hh.shift dep g args e1 e2 he r obs e1' hq
    exact ⟨e2', hr, h2.shift.mono fun k ⟨j, hj, hp⟩ => by subst hj; exact hp⟩
  isIo k := by cases k with | zero => exact h1 | succ k => exact h.isIo k
  leans k := by cases k with | zero => exact h2 | succ k => exact h.leans k
  io g dst σ vs out hq := (h.io g dst σ vs out hq).shift.mono fun k ⟨j, hj, hp⟩ => by subst hj; exact hp
theorem evalM_sp (sp : FuncId → (Nm → Option Ob) → List PV → Option Out) (tab : FuncId → Option RFn) (n : Nat) : (evalM sp tab n).sp = sp := by cases n <;> rfl
theorem evalM_isIo (sp : FuncId → (Nm → Option Ob) → List PV → Option Out) (tab : FuncId → Option RFn) (n : Nat) : (evalM sp tab n).isIo = ioFlag tab := by cases n <;> rfl
theorem evalM_leans (sp : FuncId → (Nm → Option Ob) → List PV → Option Out) (tab : FuncId → Option RFn) (n : Nat) : (evalM sp tab n).leans = leanFlag tab := by cases n <;> rfl
theorem evalM_le {sp : FuncId → (Nm → Option Ob) → List PV → Option Out} {tab : FuncId → Option RFn} : ∀ (n : Nat), MLe (evalM sp tab n) (evalM sp tab) := by
  intro n
  induction n with
  | zero => exact { sp := fun k => (by rw [evalM_sp, evalM_sp]), call := fun E1 E2 RE h1 h2 hh dep g args e1 e2 he r obs e1' h => (by cases h), isIo := fun k => (by rw [evalM_isIo, evalM_isIo]), leans := fun k => (by rw [evalM_leans, evalM_leans]), io := fun g dst σ vs out h => (by cases h) }
  | succ n ih =>
    refine MLe.of_tail ⟨fun k => rfl, ?_, fun k => rfl, fun k => rfl, fun g dst σ vs out h => ioOf_par ih n tab g dst σ vs out h⟩ rfl rfl rfl
    exact callOf_par ih n tab
theorem evalFn_par {sp : FuncId → (Nm → Option Ob) → List PV → Option Out} {tab : FuncId → Option RFn} (n : Nat) : CallLe (evalFn sp tab n) (evalFn sp tab) := (evalM_le n).call
end Go.Ab


namespace Go.Ab
def bindO {α β : Type} (x : Option α) (f : α → Option β) : Option β :=
  match x with
  | some a => f a
  | none => none
def iteP {β : Type} (v : PV) (a b : Option β) : Option β :=
  match v with
  | .bool true => a
  | .bool false => b
  | _ => none
def iteB {β : Type} (v : Bool) (a b : Option β) : Option β :=
  match v with
  | true => a
  | false => b
def chkO {β : Type} (v : Bool) (a : Option β) : Option β :=
  match v with
  | true => a
  | false => none
mutual
def okV : PV → Bool
  | .undef | .bool _ | .int _ _ | .str _ | .nilS | .nilP | .nilF | .nilI | .nilM | .glob _ _ => true
  | .sl _ xs _ => okVL xs | .ptr cs _ => okVL cs | .agg cs => okVL cs | .iface _ x => okV x | .fn _ cap => okVL cap | .tup xs => okVL xs | .imap es => okVL es
  | .yld _ | .ref _ _ | .aref _ _ _ _ | .arr _ _ _ _ | .mp _ | .it _ => false
def okVL : List PV → Bool
  | [] => true
  | x :: xs => okV x && okVL xs
end
def pureO (op : ROp) : Option PV :=
  match exec 0 (fun _ => none) [] op with
  | some out => some out.v
  | none => none
def ptrO (cs : List PV) (o : Nat) : PV := if o < cs.length then .ptr cs o else .undef
def arefO (k k' : Nat) (xs : List PV) (i o : Nat) : PV := if k = k' then (match xs[i]? with | some x => if o < x.cells.length then .ptr x.cells o else .undef | none => .undef) else .undef
def slO (k k' : Nat) (xs : List PV) (o n : Nat) : PV := if k = k' ∧ o + n ≤ xs.length then .sl k ((xs.drop o).take n) false else .undef
def cellP (v : PV) (i : Nat) : PV := v.cells.getD i .undef
def okCells (v : PV) (n : Nat) : Bool := v.isVal && v.cells.length == n
def selO (v : PV) (o n : Nat) (ag : Bool) : Option PV := sel v.cells o n ag
def elemO (xs : List PV) (i o n : Nat) (ag : Bool) : Option PV :=
  match xs[i]? with
  | some e => sel e.cells o n ag
  | none => none
def setO (k : Nat) (xs : List PV) (i o n : Nat) (v : PV) : Option (List PV) :=
  match xs[i]? with
  | some (.agg es) => chkO (v.isVal && decide (v.cells.length = n) && decide (o + n ≤ es.length)) (some (xs.set i (.agg (splice es o v.cells))))
  | some _ => chkO (k == 1 && o == 0 && n == 1 && v.isCell) (some (xs.set i v))
  | none => none
def natO (v : PV) : Option Nat := natOf v
def boundO (x : Option PV) (d top : Nat) : Option Nat := bound x d top
def elemsO (k : Nat) (v : PV) : Option (List PV) := elems (fun _ => none) k v
def appO (k : Nat) (v : PV) (ys : List PV) : Option (List PV) :=
  match v with
  | .nilS => chkO (decide (ys.length ≤ mostLen)) (some ys)
  | .sl k' xs true => match ys with
    | [] => none
    | y :: ys => chkO (k == k' && decide (xs.length + (ys.length + 1) ≤ mostLen)) (some (xs ++ y :: ys))
  | _ => none
def insO (c : TC) (es : List PV) (k v : PV) : Option (List PV) :=
  match setE k v es with
  | some es' => chkO (isKey c k && v.isVal) (some es')
  | none => none
def lookO (c : TC) (z : PV) (ok : Bool) (es : List PV) (k : PV) : Option PV :=
  match findE k es with
  | none => none
  | some r => chkO (isKey c k) (some (if ok then .tup [r.getD z, .bool r.isSome] else r.getD z))
def mkSO (l c : PV) : Option Nat :=
  match natOf l, natOf c with
  | some l, some c => chkO (decide (l ≤ c) && decide (c ≤ mostLen)) (some l)
  | _, _ => none
def binO (op : BinOp) (c : TC) (cst : Bool) (x y : PV) : Option PV := binPV op c cst x y
def strO (v : PV) : Option (List UInt8) :=
  match v with
  | .str s => some s
  | _ => none
def runeP (s : List UInt8) (pos : Nat) : PV := .int .i32 (Utf8.decode ⟨s.toArray⟩ pos).1
def runeN (s : List UInt8) (pos : Nat) : Nat := (Utf8.decode ⟨s.toArray⟩ pos).2
def asP {β : Type} (e : TypeId) (v : PV) (f : PV → Option β) (g : Option β) : Option β :=
  match v with
  | .nilI => g
  | .iface t x => if t = e then f x else none
  | _ => none
def notNil {β : Type} (v : PV) (a : Option β) : Option β :=
  match v with
  | .nilS => none
  | _ => a
def nilO {β : Type} (v : PV) (a : Option β) : Option β :=
  match v with
  | .nilS => a
  | _ => none
def nilB {β : Type} (v : PV) (a b : Option β) : Option β :=
  match v with
  | .nilS => a
  | _ => b
def notNilAt (v : PV) (i : Nat) : Bool :=
  match v.cells[i]? with
  | some .nilS => false
  | _ => true
def nth (vs : List PV) (i : Nat) : PV := vs.getD i .undef
def natP (v : PV) : Nat :=
  match v with
  | .int _ n => n.toNat
  | _ => 0
def itemsP (v : PV) : List PV :=
  match v with
  | .sl _ xs _ => xs
  | _ => []
def entsP (v : PV) : List PV :=
  match v with
  | .imap es => es
  | _ => []
def strP (v : PV) : List UInt8 :=
  match v with
  | .str s => s
  | _ => []
def prjP (v : PV) (i : Nat) : PV :=
  match v with
  | .tup xs => xs.getD i .undef
  | .agg xs => xs.getD i .undef
  | _ => .undef
def addN (a b : Nat) : Nat := a + b
def subN (a b : Nat) : Nat := a - b
def minN (a b : Nat) : Nat := min a b
def leN (a b : Nat) : Bool := Nat.ble a b
def ltN (a b : Nat) : Bool := Nat.blt a b
def eqN (a b : Nat) : Bool := Nat.beq a b
def halfN (a : Nat) : Nat := a / 2
def andB (a b : Bool) : Bool := a && b
def nI (n : Nat) : PV := .int .i64 (n : Int)
def lenL (l : List PV) : Nat := l.length
def takeL (n : Nat) (l : List PV) : List PV := l.take n
def dropL (n : Nat) (l : List PV) : List PV := l.drop n
def catL (l l' : List PV) : List PV := l ++ l'
def replL (n : Nat) (v : PV) : List PV := List.replicate n v
def lenS (s : List UInt8) : Nat := s.length
def cellsP (v : PV) : List PV := v.cells
def okArgs (l : List PV) (n : Nat) : Bool := l.length == n && okVL l
def okSls (k : Nat) (l : List PV) : Bool := l.all fun x => x.isVal && x.cells.length == k
def okSto (u w : PV) (o n : Nat) : Bool := u.isVal && decide (u.cells.length = n) && decide (o + n ≤ w.cells.length)
def stoP (u w : PV) (o : Nat) : PV := .agg (splice w.cells o u.cells)
def isNoneE (p : Option Ex) : Bool :=
  match p with
  | none => true
  | _ => false
def isRetE (p : Option Ex) : Bool :=
  match p with
  | some .ret => true
  | _ => false
def isExitE (p : Option Ex) (id : Nat) : Bool :=
  match p with
  | some (.exit id') => Nat.beq id' id
  | _ => false
def valO (v : PV) : Bool := v.isVal
def okU (v : PV) : Bool := okV v
def noUndef (vs : List PV) : Bool := vs.all fun v => !isUndef v
def noYL (vs : List PV) : Bool := !hasYL vs
open Classical in
noncomputable def lim {α : Type} (f : Nat → Option α) : Option α := if h : ∃ a, Evl fun n => f n = some a then some h.choose else none
theorem lim_some {α : Type} {f : Nat → Option α} {a : α} (h : lim f = some a) : Evl fun n => f n = some a := by
  unfold lim at h
  split at h
  · rename_i hx
    have := hx.choose_spec
    cases h; exact this
  · cases h
theorem Evl.unique {α : Type} {f : Nat → Option α} {a b : α} (h : Evl fun n => f n = some a) (h' : Evl fun n => f n = some b) : a = b := by
  obtain ⟨m, hm⟩ := h.and h'
  have := hm m (Nat.le_refl _)
  exact Option.some.inj (this.1.symm.trans this.2)
theorem lim_of {α : Type} {f : Nat → Option α} {a : α} (h : Evl fun n => f n = some a) : lim f = some a := by
  unfold lim
  have hx : ∃ a, Evl fun n => f n = some a := ⟨a, h⟩
  rw [dif_pos hx]
  exact congrArg some (Evl.unique hx.choose_spec h)
def repS {σ ρ : Type} (step : σ → Option (Sum σ ρ)) : Nat → σ → Option ρ
  | 0, _ => none
  | n + 1, s => onStep (repS step n) some (step s)
noncomputable def loopL {σ ρ : Type} (step : σ → Option (Sum σ ρ)) (s : σ) : Option ρ := lim fun n => repS step n s
theorem repS_mono {σ ρ : Type} {step : σ → Option (Sum σ ρ)} : ∀ {n m : Nat} {s : σ} {r : ρ}, n ≤ m → repS step n s = some r → repS step m s = some r := by
  intro n
  induction n with
  | zero => intro m s r _ h; cases h
  | succ n ih =>
    intro m s r hm h
    obtain ⟨m, rfl⟩ : ∃ k, m = k + 1 := ⟨m - 1, by omega⟩
    unfold repS at h ⊢
    revert h
    rcases step s with _ | (s1 | r1) <;> intro h
    · exact h
    · exact ih (by omega) h
    · exact h
theorem loopL_some {σ ρ : Type} {step : σ → Option (Sum σ ρ)} {s : σ} {r : ρ} (h : loopL step s = some r) : ∃ n, repS step n s = some r := by
  obtain ⟨m, hm⟩ := lim_some h
  exact ⟨m, hm m (Nat.le_refl _)⟩
theorem loopL_of {σ ρ : Type} {step : σ → Option (Sum σ ρ)} {s : σ} {r : ρ} {n : Nat} (h : repS step n s = some r) : loopL step s = some r :=
  lim_of ⟨n, fun _ hk => repS_mono hk h⟩
theorem loopL_eq {σ ρ : Type} (step : σ → Option (Sum σ ρ)) (s : σ) : loopL step s = onStep (loopL step) some (step s) := by
  cases hs : step s with
  | none =>
    cases hl : loopL step s with
    | none => rfl
    | some r =>
      obtain ⟨n, hn⟩ := loopL_some hl
      cases n with
      | zero => cases hn
      | succ n => unfold repS at hn; rw [hs] at hn; cases hn
  | some q =>
    cases q with
    | inl s1 =>
      show loopL step s = loopL step s1
      cases hl : loopL step s with
      | some r =>
        obtain ⟨n, hn⟩ := loopL_some hl
        cases n with
        | zero => cases hn
        | succ n => unfold repS at hn; rw [hs] at hn; exact (loopL_of hn).symm
      | none =>
        cases hl1 : loopL step s1 with
        | none => rfl
        | some r =>
          obtain ⟨n, hn⟩ := loopL_some hl1
          have : loopL step s = some r := loopL_of (n := n + 1) (by unfold repS; rw [hs]; exact hn)
          rw [hl] at this; cases this
    | inr r => exact loopL_of (n := 1) (by unfold repS; rw [hs]; rfl)
theorem loopL_inl {σ ρ : Type} {step : σ → Option (Sum σ ρ)} {s s' : σ} (h : step s = some (.inl s')) : loopL step s = loopL step s' := by
  rw [loopL_eq, h]; rfl
theorem loopL_inr {σ ρ : Type} {step : σ → Option (Sum σ ρ)} {s : σ} {r : ρ} (h : step s = some (.inr r)) : loopL step s = some r := by
  rw [loopL_eq, h]; rfl
inductive KV where
  | un | sk
  | lit (b : Bool)
  | nils
  | cv (v : PV)
  | yld (d : Nat)
  | ref (nm : Nm) (o : Nat)
  | aref (nm : Nm) (k i o : Nat)
  | arr (nm : Nm) (k o n : Nat)
  | mp (nm : Nm)
  | it (nm : Nm)
  | wit (nm : Nm)
  | agg (cs : List KV)
  | iface (t : TypeId) (x : KV)
  | fn (f : FuncId) (cap : List KV)
  | tup (xs : List KV)
  deriving Inhabited
mutual
def KV.pv : KV → PV
  | .un => .undef | .sk => .tup [] | .lit b => .bool b | .nils => .nilS | .cv v => v | .yld d => .yld d
  | .ref nm o => .ref nm o | .aref nm k i o => .aref nm k i o | .arr nm k o n => .arr nm k o n | .mp nm => .mp nm | .it nm => .it nm | .wit nm => .arr nm 1 0 0
  | .agg cs => .agg (pvL cs) | .iface t x => .iface t x.pv | .fn f cap => .fn f (pvL cap) | .tup xs => .tup (pvL xs)
def pvL : List KV → List PV
  | [] => []
  | x :: xs => x.pv :: pvL xs
end
mutual
def KV.names : KV → List Nm
  | .un | .sk | .lit _ | .nils | .cv _ | .yld _ => []
  | .ref nm _ => [nm] | .aref nm _ _ _ => [nm] | .arr nm _ _ _ => [nm] | .mp nm => [nm] | .it nm => [nm] | .wit nm => [nm]
  | .agg cs => knamesL cs | .iface _ x => x.names | .fn _ cap => knamesL cap | .tup xs => knamesL xs
def knamesL : List KV → List Nm
  | [] => []
  | x :: xs => x.names ++ knamesL xs
end
mutual
def KV.hasY : KV → Bool
  | .yld _ => true
  | .agg cs => khasYL cs | .iface _ x => x.hasY | .fn _ cap => khasYL cap | .tup xs => khasYL xs
  | .un | .sk | .lit _ | .nils | .cv _ | .ref _ _ | .aref _ _ _ _ | .arr _ _ _ _ | .mp _ | .it _ | .wit _ => false
def khasYL : List KV → Bool
  | [] => false
  | x :: xs => x.hasY || khasYL xs
end
mutual
def KV.cl : KV → Option PV
  | .lit b => some (.bool b) | .nils => some .nilS | .cv v => some v
  | .agg cs => (clL cs).map .agg | .iface t x => x.cl.map (.iface t) | .fn f cap => (clL cap).map (.fn f)
  | .un | .sk | .yld _ | .ref _ _ | .aref _ _ _ _ | .arr _ _ _ _ | .mp _ | .it _ | .wit _ | .tup _ => none
def clL : List KV → Option (List PV)
  | [] => some []
  | x :: xs => match x.cl, clL xs with
    | some v, some vs => some (v :: vs)
    | _, _ => none
end
mutual
def KV.off (p : Nm → Bool) : KV → KV
  | .ref nm o => if p nm then .un else .ref nm o
  | .aref nm k i o => if p nm then .un else .aref nm k i o
  | .arr nm k o n => if p nm then .un else .arr nm k o n
  | .mp nm => if p nm then .un else .mp nm
  | .it nm => if p nm then .un else .it nm
  | .wit nm => if p nm then .un else .wit nm
  | .agg cs => .agg (offL p cs) | .iface t x => .iface t (x.off p) | .fn f cap => .fn f (offL p cap) | .tup xs => .tup (offL p xs)
  | .un => .un | .sk => .sk | .lit b => .lit b | .nils => .nils | .cv v => .cv v | .yld d => .yld d
def offL (p : Nm → Bool) : List KV → List KV
  | [] => []
  | x :: xs => x.off p :: offL p xs
end
mutual
def KV.ren (f : Nm → Nm) : KV → KV
  | .ref nm o => .ref (f nm) o | .aref nm k i o => .aref (f nm) k i o | .arr nm k o n => .arr (f nm) k o n | .mp nm => .mp (f nm) | .it nm => .it (f nm) | .wit nm => .wit (f nm)
  | .agg cs => .agg (krenL f cs) | .iface t x => .iface t (x.ren f) | .fn g cap => .fn g (krenL f cap) | .tup xs => .tup (krenL f xs)
  | .un => .un | .sk => .sk | .lit b => .lit b | .nils => .nils | .cv v => .cv v | .yld d => .yld d
def krenL (f : Nm → Nm) : List KV → List KV
  | [] => []
  | x :: xs => x.ren f :: krenL f xs
end
inductive KOb where
  | cells (ty : Nat) (cs : List KV)
  | whole (ty : Nat) (v : PV)
  | arr (k ty : Nat) (xs : List PV)
  | map (es : List PV)
  | siter (s : List UInt8) (pos : Nat)
  deriving Inhabited
def KOb.ob : KOb → Ob
  | .cells ty cs => .cells ty (pvL cs)
  | .whole ty v => .cells ty (cellsP v)
  | .arr k kt xs => .arr k kt xs
  | .map es => .map es
  | .siter s pos => .siter s pos
def KOb.names : KOb → List Nm
  | .cells _ cs => knamesL cs
  | _ => []
def KOb.off (p : Nm → Bool) : KOb → KOb
  | .cells ty cs => .cells ty (offL p cs)
  | o => o
def KOb.ren (f : Nm → Nm) : KOb → KOb
  | .cells ty cs => .cells ty (krenL f cs)
  | o => o
abbrev Sp := List (Nat × KV)
abbrev SpO := List (Nat × List KOb)
def spGet : Sp → Nat → KV
  | [], _ => .un
  | (j, v) :: l, i => match Nat.beq i j with
    | true => v
    | false => spGet l i
def spPut (i : Nat) (v : KV) : Sp → Sp
  | [] => [(i, v)]
  | (j, u) :: l => match Nat.beq i j with
    | true => (i, v) :: l
    | false => match Nat.blt i j with
      | true => (i, v) :: (j, u) :: l
      | false => (j, u) :: spPut i v l
def spOut (i : Nat) : Sp → Sp
  | [] => []
  | (j, u) :: l => match Nat.beq i j with
    | true => spOut i l
    | false => (j, u) :: spOut i l
def spSet (i : Nat) (v : KV) (l : Sp) : Sp :=
  match v with
  | .un => spOut i l
  | v => spPut i v l
def spMap (f : KV → KV) : Sp → Sp
  | [] => []
  | (j, u) :: l => match f u with
    | .un => spMap f l
    | u => (j, u) :: spMap f l
def spKeep (p : Nat → Bool) : Sp → Sp
  | [] => []
  | (j, u) :: l => match p j with
    | true => (j, u) :: spKeep p l
    | false => spKeep p l
def spHas : Sp → Nat → Bool
  | [], _ => false
  | (j, _) :: l, i => match Nat.beq i j with
    | true => true
    | false => spHas l i
def spNames : Sp → List Nm
  | [] => []
  | (_, u) :: l => u.names ++ spNames l
def soGet : SpO → Nat → List KOb
  | [], _ => []
  | (j, v) :: l, i => match Nat.beq i j with
    | true => v
    | false => soGet l i
def soPut (i : Nat) (v : List KOb) : SpO → SpO
  | [] => [(i, v)]
  | (j, u) :: l => match Nat.beq i j with
    | true => (i, v) :: l
    | false => match Nat.blt i j with
      | true => (i, v) :: (j, u) :: l
      | false => (j, u) :: soPut i v l
def soMap (f : KOb → KOb) : SpO → SpO
  | [] => []
  | (j, u) :: l => (j, u.map f) :: soMap f l
def soKeep (p : Nat → Bool) : SpO → SpO
  | [] => []
  | (j, u) :: l => match p j with
    | true => (j, u) :: soKeep p l
    | false => soKeep p l
def soNames : SpO → List Nm
  | [] => []
  | (_, u) :: l => u.flatMap KOb.names ++ soNames l
structure KSt where
  nt : Nat
  tmps : Sp
  objs : SpO
  keep : List Sp
  deriving Inhabited
def dense (nt : Nat) (l : Sp) : List PV := (List.range nt).map fun i => (spGet l i).pv
def denseO (nt : Nat) (l : SpO) : List (List Ob) := (List.range nt).map fun i => (soGet l i).map KOb.ob
def KSt.st (ks : KSt) : St := { tmps := dense ks.nt ks.tmps, objs := denseO ks.nt ks.objs, keep := ks.keep.flatMap (dense ks.nt) }
def klook (σ : SpO) (nm : Nm) : Option KOb := (soGet σ nm.1)[nm.2]?
def kput (σ : SpO) (nm : Nm) (o : KOb) : SpO :=
  match klook σ nm with
  | some _ => soPut nm.1 ((soGet σ nm.1).set nm.2 o) σ
  | none => σ
def kreach (σ : Nm → Option KOb) : Nat → List Nm → List Nm
  | 0, l => l
  | d + 1, l => l ++ kreach σ d (l.flatMap fun nm => ((σ nm).map KOb.names).getD [])
def kshut (σ : Nm → Option KOb) (R : List Nm) : Bool := R.all fun nm => (((σ nm).map KOb.names).getD []).all fun m => R.contains m
mutual
def KV.close (g : Nm → Option Ob) : KV → PV
  | .ref nm o => match g nm with
    | some (.cells _ cs) => ptrO cs o
    | _ => .undef
  | .aref nm k i o => match g nm with
    | some (.arr k' kt xs) => arefO k k' xs i o
    | _ => .undef
  | .arr nm k o n => match g nm with
    | some (.arr k' kt xs) => slO k k' xs o n
    | _ => .undef
  | .mp nm => match g nm with
    | some (.map es) => .imap es
    | _ => .undef
  | .it _ => .undef
  | .wit nm => match g nm with
    | some (.arr k' kt xs) => slO 1 k' xs 0 0
    | _ => .undef
  | .agg cs => .agg (closeL g cs) | .iface t x => .iface t (x.close g) | .fn f cap => .fn f (closeL g cap) | .tup xs => .tup (closeL g xs)
  | .un => .undef | .sk => .tup [] | .lit b => .bool b | .nils => .nilS | .cv v => v | .yld d => .yld d
def closeL (g : Nm → Option Ob) : List KV → List PV
  | [] => []
  | x :: xs => x.close g :: closeL g xs
end
def KOb.close (g : Nm → Option Ob) : KOb → Ob
  | .cells ty cs => .cells ty (closeL g cs)
  | o => o.ob
def kclosed (σ : Nm → Option KOb) : Nat → Nm → Option Ob
  | 0, nm => (σ nm).map (KOb.close fun _ => none)
  | d + 1, nm => (σ nm).map (KOb.close (kclosed σ d))
mutual
def KV.frz (p : Nm → Bool) (g : Nm → Option Ob) : KV → KV
  | .ref nm o => if p nm then .cv ((KV.ref nm o).close g) else .ref nm o
  | .aref nm k i o => if p nm then .cv ((KV.aref nm k i o).close g) else .aref nm k i o
  | .arr nm k o n => if p nm then .cv ((KV.arr nm k o n).close g) else .arr nm k o n
  | .mp nm => if p nm then .cv ((KV.mp nm).close g) else .mp nm
  | .it nm => if p nm then .un else .it nm
  | .wit nm => if p nm then .cv ((KV.wit nm).close g) else .wit nm
  | .agg cs => .agg (frzL p g cs) | .iface t x => .iface t (x.frz p g) | .fn f cap => .fn f (frzL p g cap) | .tup xs => .tup (frzL p g xs)
  | .un => .un | .sk => .sk | .lit b => .lit b | .nils => .nils | .cv v => .cv v | .yld d => .yld d
def frzL (p : Nm → Bool) (g : Nm → Option Ob) : List KV → List KV
  | [] => []
  | x :: xs => x.frz p g :: frzL p g xs
end
def KOb.frz (p : Nm → Bool) (g : Nm → Option Ob) : KOb → KOb
  | .cells ty cs => .cells ty (frzL p g cs)
  | o => o
def kdead : KOb := .arr 0 0 []
def koffSt (p : Nm → Bool) (ks : KSt) : KSt := { ks with tmps := spMap (KV.off p) ks.tmps, objs := soMap (KOb.off p) ks.objs, keep := ks.keep.map (spMap (KV.off p)) }
def kfreeze (σ : Nm → Option KOb) (R : List Nm) (ks : KSt) : KSt :=
  let p := fun m => R.contains m
  let g := kclosed σ deepest
  { ks with tmps := spMap (KV.frz p g) ks.tmps, objs := R.foldl (fun objs nm => kput objs nm kdead) (soMap (KOb.frz p g) ks.objs), keep := ks.keep.map (spMap (KV.frz p g)) }
mutual
def forceV {R : Type} : KV → (KV → R) → R
  | .un, K => K .un | .sk, K => K .sk | .lit b, K => (match b with | true => K (.lit true) | false => K (.lit false)) | .nils, K => K .nils | .cv v, K => K (.cv v) | .yld d, K => K (.yld d)
  | .ref nm o, K => (match nm with | (a, b) => K (.ref (a, b) o)) | .aref nm k i o, K => (match nm with | (a, b) => K (.aref (a, b) k i o)) | .arr nm k o n, K => (match nm with | (a, b) => K (.arr (a, b) k o n))
  | .mp nm, K => (match nm with | (a, b) => K (.mp (a, b))) | .it nm, K => (match nm with | (a, b) => K (.it (a, b))) | .wit nm, K => (match nm with | (a, b) => K (.wit (a, b)))
  | .agg cs, K => forceL cs fun cs => K (.agg cs) | .iface t x, K => forceV x fun x => K (.iface t x) | .fn f cap, K => forceL cap fun cap => K (.fn f cap) | .tup xs, K => forceL xs fun xs => K (.tup xs)
def forceL {R : Type} : List KV → (List KV → R) → R
  | [], K => K []
  | x :: xs, K => forceV x fun x => forceL xs fun xs => K (x :: xs)
end
def forceOb {R : Type} : KOb → (KOb → R) → R
  | .cells ty cs, K => forceL cs fun cs => K (.cells ty cs)
  | .whole ty v, K => K (.whole ty v) | .arr k kt xs, K => K (.arr k kt xs) | .map es, K => K (.map es) | .siter s pos, K => K (.siter s pos)
def forceObL {R : Type} : List KOb → (List KOb → R) → R
  | [], K => K []
  | x :: xs, K => forceOb x fun x => forceObL xs fun xs => K (x :: xs)
def forceSp {R : Type} : Sp → (Sp → R) → R
  | [], K => K []
  | (j, x) :: xs, K => forceV x fun x => forceSp xs fun xs => K ((j, x) :: xs)
def forceSo {R : Type} : SpO → (SpO → R) → R
  | [], K => K []
  | (j, x) :: xs, K => forceObL x fun x => forceSo xs fun xs => K ((j, x) :: xs)
def forceKp {R : Type} : List Sp → (List Sp → R) → R
  | [], K => K []
  | x :: xs, K => forceSp x fun x => forceKp xs fun xs => K (x :: xs)
def force {R : Type} (ks : KSt) (K : KSt → R) : R :=
  match ks with
  | ⟨nt, tmps, objs, keep⟩ => forceSp tmps fun a => forceSo objs fun b => forceKp keep fun c => K { nt, tmps := a, objs := b, keep := c }
def cstK (v : PV) : KV :=
  match v with
  | .bool b => .lit b
  | .nilS => .nils
  | .fn f [] => .fn f []
  | v => .cv v
def RX.kv (tm : Sp) : RX → KV
  | .t i => spGet tm i
  | .c v => cstK v
def okX : RX → Bool
  | .t _ => true
  | .c v => okV v
def ROp.mapX (g : RX → RX) : ROp → ROp
  | .mov x => .mov (g x) | .pick c a b => .pick (g c) (g a) (g b) | .box x => .box (g x) | .alloc ty z => .alloc ty z
  | .build z ps => .build z (ps.map fun p => (p.1, p.2.1, g p.2.2)) | .mkSl k ps => .mkSl k (ps.map g) | .load n ag x => .load n ag (g x) | .store n x v => .store n (g x) (g v)
  | .nilck x => .nilck (g x) | .bin op c cst x y => .bin op c cst (g x) (g y) | .un op x => .un op (g x) | .conv k x => .conv k (g x) | .toBytes x => .toBytes (g x) | .ofBytes x => .ofBytes (g x)
  | .ofRune x => .ofRune (g x) | .strId x => .strId (g x) | .mkI t x => .mkI t (g x) | .mkF f cap => .mkF f (cap.map g) | .mkMap => .mkMap | .insert c x k v => .insert c (g x) (g k) (g v)
  | .lookup c z ok x k => .lookup c z ok (g x) (g k) | .mkS k z l c => .mkS k z (g l) (g c) | .slice k x lo hi mx => .slice k (g x) (lo.map g) (hi.map g) (mx.map g) | .strSlice x lo hi => .strSlice (g x) (lo.map g) (hi.map g)
  | .fieldAddr off x => .fieldAddr off (g x) | .field off n ag x => .field off n ag (g x) | .idxAddr k x i => .idxAddr k (g x) (g i) | .idxAddrA k l x i => .idxAddrA k l (g x) (g i) | .strIdx x i => .strIdx (g x) (g i)
  | .extract j x => .extract j (g x) | .len c x => .len c (g x) | .append k ty s x => .append k ty (g s) (g x) | .copy k d s => .copy k (g d) (g s) | .minmax mx xs => .minmax mx (xs.map g) | .call f args => .call (g f) (args.map g)
  | .iter x => .iter (g x) | .next x => .next (g x) | .tassert t z ok x => .tassert t z ok (g x) | .bad => .bad
def instX (tm : Sp) (x : RX) : RX := .c (((x.kv tm).cl).getD .undef)
structure KOut where
  v : KV
  new : List KOb := []
  upd : Option (Nm × KOb) := none
  kill : Option Nm := none
  frz : List Nm := []
  gone : List Nm := []
  ups : List (Nm × KOb) := []
  io : Bool := false
  slot : Option Nat := none
def isG : ROp → Bool
  | .build _ _ | .load _ _ _ | .nilck _ | .bin _ _ _ _ _ | .un _ _ | .conv _ _ | .toBytes _ | .ofBytes _ | .ofRune _ | .strId _ | .lookup _ _ _ _ _ | .slice _ _ _ _ _ | .strSlice _ _ _
  | .fieldAddr _ _ | .field _ _ _ _ | .idxAddr _ _ _ | .idxAddrA _ _ _ _ | .strIdx _ _ | .extract _ _ | .len _ _ | .minmax _ _ | .tassert _ _ _ _ => true
  | _ => false
def okOp : ROp → Bool
  | .build z _ => okVL z
  | .lookup _ z _ _ _ => okV z
  | .tassert _ z _ _ => okV z
  | _ => true
def gO {R : Type} (tm : Sp) (op : ROp) (K : KOut → Option R) : Option R :=
  if (isG op && okOp op && op.xs.all fun x => ((x.kv tm).cl).isSome) then bindO (pureO (op.mapX (instX tm))) fun z => K { v := .cv z } else none
def cellsK {R : Type} (n : Nat) (x : KV) (K : List KV → Option R) : Option R :=
  match x with
  | .agg cs => if cs.length = n then K cs else none
  | .cv v => chkO (okCells v n) (K ((List.range n).map fun i => .cv (cellP v i)))
  | .un | .sk | .tup _ => none
  | y => if n = 1 then K [y] else none
def kfill {R : Type} (tm : Sp) : List KV → List (Nat × Nat × RX) → (List KV → Option R) → Option R
  | z, [], K => K z
  | z, (off, n, x) :: ps, K => cellsK n (x.kv tm) fun cs => if off + n ≤ z.length then kfill tm (z.take off ++ cs ++ z.drop (off + n)) ps K else none
def elemsK {R : Type} (σ : Nm → Option KOb) (k : Nat) (x : KV) (K : List PV → Option R) : Option R :=
  match x with
  | .arr nm k' o n => match σ nm with
    | some (.arr k'' kt xs) => if k = k' ∧ k' = k'' then chkO (leN (addN o n) (lenL xs)) (K (takeL n (dropL o xs))) else none
    | _ => none
  | x => match x.cl with
    | some v => bindO (elemsO k v) K
    | none => none
def execK {R : Type} (d : Nat) (σ : Nm → Option KOb) (tm : Sp) (op : ROp) (K : KOut → Option R) : Option R :=
  match op with
  | .mov x => K { v := x.kv tm }
  | .pick c a b => match c.kv tm with
    | .lit true => K { v := a.kv tm }
    | .lit false => K { v := b.kv tm }
    | .cv v => iteP v (K { v := a.kv tm }) (K { v := b.kv tm })
    | _ => none
  | .box x => match x.kv tm with
    | .cv v => chkO (valO v) (K { v := .ref (d, 0) 0, new := [.whole 0 v] })
    | .agg cs => K { v := .ref (d, 0) 0, new := [.cells 0 cs] }
    | .un | .sk | .tup _ => none
    | y => K { v := .ref (d, 0) 0, new := [.cells 0 [y]] }
  | .alloc ty z => if okVL z then K { v := .ref (d, 0) 0, new := [.cells ty (z.map cstK)] } else none
  | .build z ps =>
    if ps.all fun p => ((p.2.2.kv tm).cl).isSome then gO tm (.build z ps) K
    else if okVL z then kfill tm (z.map cstK) ps fun cs => K { v := .agg cs } else none
  | .mkSl k ps =>
    let xs := ps.map (RX.kv tm)
    match clL xs with
    | some vs => chkO (okSls k vs) (K { v := .arr (d, 0) k 0 (lenL vs), new := [.arr k 0 vs] })
    | none =>
      let R := kreach σ deepest (knamesL xs)
      if (knamesL xs).isEmpty then none
      else if kshut σ R ∧ khasYL xs = false then
        let ys := closeL (kclosed σ deepest) xs
        chkO (okSls k ys) (K { v := .arr (d, 0) k 0 (lenL ys), new := [.arr k 0 ys], frz := R })
      else none
  | .load n ag x => match x.kv tm with
    | .ref nm o => match σ nm with
      | some (.cells _ cs) => if ag then (if o + n ≤ cs.length then K { v := .agg ((cs.drop o).take n) } else none) else (match cs[o]? with | some c => K { v := c } | none => none)
      | some (.whole _ v) => bindO (selO v o n ag) fun z => K { v := .cv z }
      | _ => none
    | .aref nm k i o => match σ nm with
      | some (.arr k' kt xs) => if k = k' then bindO (elemO xs i o n ag) fun z => K { v := .cv z } else none
      | _ => none
    | _ => gO tm op K
  | .store n x v => match x.kv tm with
    | .ref nm o => match σ nm with
      | some (.cells ty cs) => cellsK n (v.kv tm) fun vs => if o + n ≤ cs.length then K { v := .un, upd := some (nm, .cells ty (cs.take o ++ vs ++ cs.drop (o + n))) } else none
      | some (.whole ty w) => match (v.kv tm).cl with
        | some u => chkO (okSto u w o n) (K { v := .un, upd := some (nm, .whole ty (stoP u w o)) })
        | none => none
      | _ => none
    | .aref nm k i o => match σ nm with
      | some (.arr k' kt xs) => match (v.kv tm).cl with
        | some u => if k = k' then bindO (setO k xs i o n u) fun ys => K { v := .un, upd := some (nm, .arr k kt ys) } else none
        | none => none
      | _ => none
    | _ => none
  | .nilck x => match x.kv tm with
    | .ref nm o => K { v := .ref nm o }
    | .aref nm k i o => K { v := .aref nm k i o }
    | .fn f cap => K { v := .fn f cap }
    | .yld l => K { v := .yld l }
    | _ => gO tm op K
  | .bin o c cst x y => match x.kv tm, y.kv tm with
    | .ref _ _, .cv v => match o with
      | .eql => iteB (match c, v with | .ptr, .nilP => true | _, _ => false) (K { v := .lit false }) none
      | .neq => iteB (match c, v with | .ptr, .nilP => true | _, _ => false) (K { v := .lit true }) none
      | _ => none
    | _, _ => gO tm op K
  | .un .not x => match x.kv tm with
    | .lit b => K { v := .lit (!b) }
    | _ => gO tm op K
  | .mkI t x => match (x.kv tm).cl with
    | some v => K { v := .cv (.iface t v) }
    | none => match x.kv tm with
      | .un | .sk | .tup _ | .yld _ => none
      | y => K { v := .iface t y }
  | .mkF f cap => if (cap.map (RX.kv tm)).all fun | .un | .sk | .tup _ | .yld _ => false | _ => true then K { v := .fn f (cap.map (RX.kv tm)) } else none
  | .mkMap => K { v := .mp (d, 0), new := [.map []] }
  | .insert c x k v => match x.kv tm with
    | .mp nm => match σ nm, (k.kv tm).cl, (v.kv tm).cl with
      | some (.map es), some kk, some vv => bindO (insO c es kk vv) fun es' => K { v := .un, upd := some (nm, .map es') }
      | some (.map es), some kk, none =>
        let R := kreach σ deepest (knamesL [v.kv tm])
        if (knamesL [v.kv tm]).isEmpty then none
        else if kshut σ R ∧ khasYL [v.kv tm] = false ∧ R.contains nm = false then
          bindO (insO c es kk (nth (closeL (kclosed σ deepest) [v.kv tm]) 0)) fun es' => K { v := .un, upd := some (nm, .map es'), frz := R }
        else none
      | _, _, _ => none
    | _ => none
  | .lookup c z ok x k => match x.kv tm with
    | .mp nm => match σ nm, (k.kv tm).cl with
      | some (.map es), some kk => if okV z = true then bindO (lookO c z ok es kk) fun v => K { v := .cv v } else none
      | _, _ => none
    | _ => gO tm op K
  | .mkS k z l c => match (l.kv tm).cl, (c.kv tm).cl with
    | some l, some c => if z.cells.length = k ∧ okV z = true then bindO (mkSO l c) fun n => K { v := .arr (d, 0) k 0 n, new := [.arr k 0 (replL n z)] } else none
    | _, _ => none
  | .slice k x lo hi mx => match x.kv tm with
    | .arr nm k' o n =>
      if k = k' ∧ (mx.isNone ∨ hi.isSome) ∧ (lo.toList ++ hi.toList ++ mx.toList).all fun y => ((y.kv tm).cl).isSome then
        let ev := fun (y : RX) => ((y.kv tm).cl).getD .undef
        bindO (boundO (mx.map ev) n n) fun m => bindO (boundO (hi.map ev) n m) fun h =>
          match lo with
          | none => K { v := .arr nm k o h }
          | some lo => bindO (boundO (some (ev lo)) 0 h) fun l => iteB (andB (eqN h l) (ltN 0 l)) (K { v := .cv (.sl k [] false) }) (K { v := .arr nm k (addN o l) (subN h l) })
      else none
    | _ => gO tm op K
  | .fieldAddr off x => match x.kv tm with
    | .ref nm o => K { v := .ref nm (o + off) }
    | .aref nm k i o => K { v := .aref nm k i (o + off) }
    | _ => gO tm op K
  | .field off n ag x => match x.kv tm with
    | .agg cs => if ag then (if off + n ≤ cs.length then K { v := .agg ((cs.drop off).take n) } else none) else (match cs[off]? with | some c => K { v := c } | none => none)
    | _ => gO tm op K
  | .idxAddr k x i => match x.kv tm with
    | .arr nm k' o n => match (i.kv tm).cl with
      | some i => if k = k' then bindO (natO i) fun j => chkO (ltN j n) (K { v := .aref nm k (addN o j) 0 }) else none
      | none => none
    | _ => gO tm op K
  | .extract j x => match x.kv tm with
    | .tup xs => match xs[j]? with
      | some v => K { v }
      | none => none
    | _ => gO tm op K
  | .len c x => match x.kv tm with
    | .arr _ _ _ n => match c with
      | .slice => K { v := .cv (nI n) }
      | _ => none
    | .mp nm => match c, σ nm with
      | .map, some (.map es) => K { v := .cv (nI (halfN (lenL es))) }
      | _, _ => none
    | _ => gO tm op K
  | .append k ty s x => elemsK σ k (x.kv tm) fun ys =>
    match s.kv tm with
    | .arr nm k' o n => match σ nm with
      | some (.arr k'' kt xs) => if k = k' ∧ k' = k'' ∧ o = 0 then chkO (andB (leN n (lenL xs)) (leN (addN n (lenL ys)) mostLen)) (K { v := .arr nm k 0 (addN n (lenL ys)), upd := some (nm, .arr k (if kt = ty then ty else 0) (catL (takeL n xs) ys)), kill := some nm }) else none
      | _ => none
    | .nils => chkO (leN (lenL ys) mostLen) (K { v := .arr (d, 0) k 0 (lenL ys), new := [.arr k ty ys] })
    | .cv v => bindO (appO k v ys) fun zs => K { v := .arr (d, 0) k 0 (lenL zs), new := [.arr k ty zs] }
    | _ => none
  | .copy k x s => elemsK σ k (s.kv tm) fun ys =>
    match x.kv tm with
    | .arr nm k' o n => match σ nm with
      | some (.arr k'' kt xs) => if k = k' ∧ k' = k'' then chkO (leN (addN o n) (lenL xs)) (K { v := .cv (nI (minN (lenL ys) n)), upd := some (nm, .arr k kt (catL (catL (takeL o xs) (takeL n ys)) (dropL (addN o (lenL (takeL n ys))) xs))) }) else none
      | _ => none
    | .nils => K { v := .cv (nI 0) }
    | _ => none
  | .iter x => match (x.kv tm).cl with
    | some v => bindO (strO v) fun s => K { v := .it (d, 0), new := [.siter s 0] }
    | none => none
  | .next x => match x.kv tm with
    | .it nm => match σ nm with
      | some (.siter s pos) => iteB (ltN pos (lenS s)) (K { v := .tup [.lit true, .cv (nI pos), .cv (runeP s pos)], upd := some (nm, .siter s (addN pos (runeN s pos))) }) (K { v := .tup [.lit false] })
      | _ => none
    | _ => none
  | .tassert t z ok x => match x.kv tm with
    | .iface u y => if u = t then K { v := if ok then .tup [y, .lit true] else y } else if ok = true ∧ okV z = true then K { v := .tup [.cv z, .lit false] } else none
    | _ => gO tm op K
  | .call _ _ => none
  | .bad => none
  | _ => gO tm op K
def kupd (u : Option (Nm × KOb)) (ks : KSt) : KSt :=
  match u with
  | some (nm, ob) => { ks with objs := kput ks.objs nm ob }
  | none => ks
def kkill (k : Option Nm) (ks : KSt) : KSt :=
  match k with
  | some nm => koffSt (fun m => m == nm) ks
  | none => ks
def kfrzs (σ : Nm → Option KOb) (R : List Nm) (ks : KSt) : KSt :=
  match R with
  | [] => ks
  | nm :: R => kfreeze σ (nm :: R) ks
def kgone (l : List Nm) (ks : KSt) : KSt :=
  match l with
  | [] => ks
  | nm :: l => koffSt (fun m => (nm :: l).contains m) ks
def kups : List (Nm × KOb) → SpO → SpO
  | [], σ => σ
  | (nm, o) :: l, σ => kups l (kput σ nm o)
def kset (dst : Option Nat) (v : KV) (new : List KOb) (ks : KSt) : KSt :=
  match dst with
  | some d => match Nat.blt d ks.nt with
    | true => { ks with tmps := spSet d v ks.tmps, objs := match new with | [] => ks.objs | x :: xs => soPut d (x :: xs) ks.objs }
    | false => ks
  | none => ks
def kturn (l : List (Nm × KOb)) (ks : KSt) : KSt := { ks with objs := kups l ks.objs }
def kext (sl : Option Nat) (new : List KOb) (ks : KSt) : KSt :=
  match sl with
  | some r => match Nat.blt r ks.nt with
    | true => { ks with objs := soPut r (soGet ks.objs r ++ new) ks.objs }
    | false => ks
  | none => ks
def newAt (sl : Option Nat) (new : List KOb) : List KOb :=
  match sl with
  | some _ => []
  | none => new
def kapply (ks : KSt) (dst : Option Nat) (o : KOut) : KSt := kset dst o.v (newAt o.slot o.new) (kext o.slot o.new <| kturn o.ups (kgone o.gone (kfrzs (klook ks.objs) o.frz (kkill o.kill (kupd o.upd ks)))))
mutual
def fitV : KV → KV → Bool
  | .un, x => match x with | .un => true | _ => false
  | .sk, x => match x with | .sk => true | _ => false
  | .yld _, x => match x with | .yld _ => true | _ => false
  | .ref nm o, x => match x with | .ref nm' o' => nm == nm' && o == o' | _ => false
  | .aref _ _ _ _, _ => false
  | .arr nm k o _, x => match x with | .arr nm' k' o' _ => nm == nm' && k == k' && Nat.beq o o' | _ => false
  | .mp nm, x => match x with | .mp nm' => nm == nm' | _ => false
  | .it nm, x => match x with | .it nm' => nm == nm' | _ => false
  | .wit nm, x => match x with | .wit nm' => nm == nm' | _ => false
  | .fn f cap, x => match x with | .fn f' cap' => f == f' && fitL cap cap' | _ => false
  | .tup xs, x => match x with | .tup ys => fitL xs ys | _ => false
  | .lit _, x => x.cl.isSome
  | .nils, x => x.cl.isSome
  | .cv _, x => x.cl.isSome
  | .agg cs, x => if (clL cs).isSome then x.cl.isSome else match x with | .agg cs' => fitL cs cs' | _ => false
  | .iface t y, x => if y.cl.isSome then x.cl.isSome else match x with | .iface t' y' => t == t' && fitV y y' | _ => false
def fitL : List KV → List KV → Bool
  | [], l => match l with | [] => true | _ => false
  | x :: xs, l => match l with | y :: ys => fitV x y && fitL xs ys | _ => false
end
mutual
def leaves : KV → KV → List PV
  | .un, _ => [] | .sk, _ => [] | .yld _, x => (match x with | .yld d => [nI d] | _ => []) | .ref _ _, _ => [] | .aref _ _ _ _, _ => [] | .mp _, _ => [] | .it _, _ => [] | .wit _, _ => []
  | .arr _ _ _ _, x => match x with | .arr _ _ _ n => [nI n] | _ => []
  | .fn _ cap, x => match x with | .fn _ cap' => leavesL cap cap' | _ => []
  | .tup xs, x => match x with | .tup ys => leavesL xs ys | _ => []
  | .lit _, x => [x.cl.getD .undef]
  | .nils, x => [x.cl.getD .undef]
  | .cv _, x => [x.cl.getD .undef]
  | .agg cs, x => if (clL cs).isSome then [x.cl.getD .undef] else match x with | .agg cs' => leavesL cs cs' | _ => []
  | .iface _ y, x => if y.cl.isSome then [x.cl.getD .undef] else match x with | .iface _ y' => leaves y y' | _ => []
def leavesL : List KV → List KV → List PV
  | [], _ => []
  | x :: xs, l => match l with | y :: ys => leaves x y ++ leavesL xs ys | _ => []
end
mutual
def fill : KV → List PV → Nat → KV × Nat
  | .un, _, i => (.un, i) | .sk, _, i => (.sk, i) | .yld _, vs, i => (.yld (natP (nth vs i)), i + 1) | .ref nm o, _, i => (.ref nm o, i) | .aref nm k j o, _, i => (.aref nm k j o, i) | .mp nm, _, i => (.mp nm, i) | .it nm, _, i => (.it nm, i) | .wit nm, _, i => (.wit nm, i)
  | .arr nm k o _, vs, i => (.arr nm k o (natP (nth vs i)), i + 1)
  | .fn f cap, vs, i => let p := fillL cap vs i; (.fn f p.1, p.2)
  | .tup xs, vs, i => let p := fillL xs vs i; (.tup p.1, p.2)
  | .lit _, vs, i => (.cv (nth vs i), i + 1)
  | .nils, vs, i => (.cv (nth vs i), i + 1)
  | .cv _, vs, i => (.cv (nth vs i), i + 1)
  | .agg cs, vs, i => if (clL cs).isSome then (.cv (nth vs i), i + 1) else let p := fillL cs vs i; (.agg p.1, p.2)
  | .iface t y, vs, i => if y.cl.isSome then (.cv (nth vs i), i + 1) else let p := fill y vs i; (.iface t p.1, p.2)
def fillL : List KV → List PV → Nat → List KV × Nat
  | [], _, i => ([], i)
  | x :: xs, vs, i => let p := fill x vs i; let q := fillL xs vs p.2; (p.1 :: q.1, q.2)
end
def fitOb : KOb → KOb → Bool
  | .cells ty cs, x => match x with | .cells ty' cs' => ty == ty' && fitL cs cs' | _ => false
  | .whole ty _, x => match x with | .whole ty' _ => ty == ty' | _ => false
  | .arr k t _, x => match x with | .arr k' t' _ => k == k' && t == t' | _ => false
  | .map _, x => match x with | .map _ => true | _ => false
  | .siter _ _, x => match x with | .siter _ _ => true | _ => false
def leavesOb : KOb → KOb → List PV
  | .cells _ cs, x => match x with | .cells _ cs' => leavesL cs cs' | _ => []
  | .whole _ _, x => match x with | .whole _ v => [v] | _ => []
  | .arr k _ _, x => match x with | .arr _ _ xs => [.sl k xs false] | _ => []
  | .map _, x => match x with | .map es => [.imap es] | _ => []
  | .siter _ _, x => match x with | .siter s pos => [.str s, nI pos] | _ => []
def fillOb : KOb → List PV → Nat → KOb × Nat
  | .cells ty cs, vs, i => let p := fillL cs vs i; (.cells ty p.1, p.2)
  | .whole ty _, vs, i => (.whole ty (nth vs i), i + 1)
  | .arr k t _, vs, i => (.arr k t (itemsP (nth vs i)), i + 1)
  | .map _, vs, i => (.map (entsP (nth vs i)), i + 1)
  | .siter _ _, vs, i => (.siter (strP (nth vs i)) (natP (nth vs (i + 1))), i + 2)
def fitObL : List KOb → List KOb → Bool
  | [], [] => true
  | x :: xs, y :: ys => fitOb x y && fitObL xs ys
  | _, _ => false
def leavesObL : List KOb → List KOb → List PV
  | x :: xs, y :: ys => leavesOb x y ++ leavesObL xs ys
  | _, _ => []
def fillObL : List KOb → List PV → Nat → List KOb × Nat
  | [], _, i => ([], i)
  | x :: xs, vs, i => let p := fillOb x vs i; let q := fillObL xs vs p.2; (p.1 :: q.1, q.2)
def fitSp : Sp → Sp → Bool
  | [], [] => true
  | (i, x) :: xs, (j, y) :: ys => Nat.beq i j && (fitV x y && fitSp xs ys)
  | _, _ => false
def leavesSp : Sp → Sp → List PV
  | (_, x) :: xs, (_, y) :: ys => leaves x y ++ leavesSp xs ys
  | _, _ => []
def fillSp : Sp → List PV → Nat → Sp × Nat
  | [], _, i => ([], i)
  | (j, x) :: xs, vs, i => let p := fill x vs i; let q := fillSp xs vs p.2; ((j, p.1) :: q.1, q.2)
def fitSo : SpO → SpO → Bool
  | [], [] => true
  | (i, x) :: xs, (j, y) :: ys => Nat.beq i j && (fitObL x y && fitSo xs ys)
  | _, _ => false
def leavesSo : SpO → SpO → List PV
  | (_, x) :: xs, (_, y) :: ys => leavesObL x y ++ leavesSo xs ys
  | _, _ => []
def fillSo : SpO → List PV → Nat → SpO × Nat
  | [], _, i => ([], i)
  | (j, x) :: xs, vs, i => let p := fillObL x vs i; let q := fillSo xs vs p.2; ((j, p.1) :: q.1, q.2)
def fitKp : List Sp → List Sp → Bool
  | [], [] => true
  | x :: xs, y :: ys => fitSp x y && fitKp xs ys
  | _, _ => false
def leavesKp : List Sp → List Sp → List PV
  | x :: xs, y :: ys => leavesSp x y ++ leavesKp xs ys
  | _, _ => []
def fillKp : List Sp → List PV → Nat → List Sp × Nat
  | [], _, i => ([], i)
  | x :: xs, vs, i => let p := fillSp x vs i; let q := fillKp xs vs p.2; (p.1 :: q.1, q.2)
def fitSt (p x : KSt) : Bool := Nat.beq p.nt x.nt && (fitSp p.tmps x.tmps && (fitSo p.objs x.objs && fitKp p.keep x.keep))
def leavesSt (p x : KSt) : List PV := leavesSp p.tmps x.tmps ++ leavesSo p.objs x.objs ++ leavesKp p.keep x.keep
def fillSt (p : KSt) (vs : List PV) : KSt :=
  let a := fillSp p.tmps vs 0
  let b := fillSo p.objs vs a.2
  let c := fillKp p.keep vs b.2
  { nt := p.nt, tmps := a.1, objs := b.1, keep := c.1 }
mutual
def fitP : KV → PV → Option (List PV)
  | .un, x => match x with | .undef => some [] | _ => none
  | .sk, x => match x with | .tup [] => some [] | _ => none
  | .yld _, x => match x with | .yld d => some [nI d] | _ => none
  | .aref _ _ _ _, _ => none
  | .wit nm, x => match x with | .arr nm' 1 0 0 => chkO (nm == nm') (some []) | _ => none
  | .ref nm o, x => match x with | .ref nm' o' => chkO (nm == nm' && o == o') (some []) | _ => none
  | .mp nm, x => match x with | .mp nm' => chkO (nm == nm') (some []) | _ => none
  | .it nm, x => match x with | .it nm' => chkO (nm == nm') (some []) | _ => none
  | .arr nm k o _, x => match x with | .arr nm' k' o' n => chkO (nm == nm' && k == k' && Nat.beq o o') (some [nI n]) | _ => none
  | .lit _, x => chkO (okV x) (some [x])
  | .nils, x => chkO (okV x) (some [x])
  | .cv _, x => chkO (okV x) (some [x])
  | .fn f cap, x => match x with | .fn f' cap' => if f = f' then fitPL cap cap' else none | _ => none
  | .tup xs, x => match x with | .tup ys => fitPL xs ys | _ => none
  | .agg cs, x => if (clL cs).isSome then chkO (okV x) (some [x]) else match x with | .agg cs' => fitPL cs cs' | _ => none
  | .iface t y, x => if y.cl.isSome then chkO (okV x) (some [x]) else match x with | .iface t' y' => if t = t' then fitP y y' else none | _ => none
def fitPL : List KV → List PV → Option (List PV)
  | [], l => match l with | [] => some [] | _ => none
  | x :: xs, l => match l with
    | y :: ys => match fitP x y, fitPL xs ys with
      | some a, some b => some (a ++ b)
      | _, _ => none
    | _ => none
end
def fitPOb : KOb → Ob → Option (List PV)
  | .cells ty cs, x => match x with | .cells ty' cs' => if ty = ty' then fitPL cs cs' else none | _ => none
  | .whole ty _, x => match x with | .cells ty' cs' => chkO (ty == ty' && okVL cs') (some [.agg cs']) | _ => none
  | .arr k t _, x => match x with | .arr k' t' xs => chkO (k == k' && t == t' && okVL xs) (some [.sl k xs false]) | _ => none
  | .map _, x => match x with | .map es => chkO (okVL es) (some [.imap es]) | _ => none
  | .siter _ _, x => match x with | .siter s pos => some [.str s, nI pos] | _ => none
def fitPObL : List KOb → List Ob → Option (List PV)
  | [], l => match l with | [] => some [] | _ => none
  | x :: xs, l => match l with
    | y :: ys => match fitPOb x y, fitPObL xs ys with
      | some a, some b => some (a ++ b)
      | _, _ => none
    | _ => none
structure IoSh where
  args : List KV
  ins : List KOb
  res : KV
  outs : List KOb
  news : List KOb
  gone : List Nat
  deriving Inhabited
def ioFit (P : IoSh) (out : Out) : Option (List PV) :=
  if out.gone = P.gone.map (fun j => (0, j)) then
    match fitP P.res out.v, fitPObL P.outs (out.ups.map (·.2)), fitPObL P.news out.new with
    | some a, some b, some c => some (a ++ (b ++ c))
    | _, _, _ => none
  else none
def canonR (k : Nat) : List Nm := (List.range k).map fun j => (0, j)
inductive RSh where
  | cl
  | own (k : Nat)
  | opt (k : Nat)
  | tup (l : List RSh)
  | agg (l : List RSh)
  deriving Inhabited
mutual
def convR (obs : List Ob) : RSh → Nat → PV → Option (PV × Nat)
  | .cl, j, v => chkO (okV v) (some (v, j))
  | .own k, j, v => match v, obs[j]? with
    | .arr nm k' o n, some (.arr k'' kt xs) => chkO (nm == (0, j) && k == k' && k == k'' && o == 0 && n == xs.length && kt == 0 && okVL xs) (some (.sl k xs false, j + 1))
    | _, _ => none
  | .opt k, j, v => match v, obs[j]? with
    | .nilS, _ => some (.nilS, j)
    | .arr nm k' o n, some (.arr k'' kt xs) => chkO (nm == (0, j) && k == k' && k == k'' && o == 0 && n == xs.length && kt == 0 && okVL xs) (some (.sl k xs false, j + 1))
    | _, _ => none
  | .tup l, j, v => match v with
    | .tup vs => (convRL obs l j vs).map fun p => (.tup p.1, p.2)
    | _ => none
  | .agg l, j, v => match v with
    | .agg vs => (convRL obs l j vs).map fun p => (.agg p.1, p.2)
    | _ => none
def convRL (obs : List Ob) : List RSh → Nat → List PV → Option (List PV × Nat)
  | [], j, [] => some ([], j)
  | s :: l, j, v :: vs => match convR obs s j v with
    | some (u, j) => (convRL obs l j vs).map fun p => (u :: p.1, p.2)
    | none => none
  | _, _, _ => none
end
def convO (sh : RSh) (v : PV) (obs : List Ob) : Option PV :=
  match convR obs sh 0 v with
  | some (r, j) => chkO (j == obs.length) (some r)
  | none => none
mutual
def putR (d : Nat) : RSh → Nat → PV → KV × List KOb × Nat
  | .cl, j, r => (.cv r, [], j)
  | .own k, j, r => (.arr (d, j) k 0 (lenL (itemsP r)), [.arr k 0 (itemsP r)], j + 1)
  | .opt _, j, r => (.cv r, [], j)
  | .tup l, j, r => let p := putRL d l j r 0; (.tup p.1, p.2)
  | .agg l, j, r => let p := putRL d l j r 0; (.agg p.1, p.2)
def putRL (d : Nat) : List RSh → Nat → PV → Nat → List KV × List KOb × Nat
  | [], j, _, _ => ([], [], j)
  | s :: l, j, r, i =>
    let p := putR d s j (prjP r i)
    let q := putRL d l p.2.2 r (i + 1)
    (p.1 :: q.1, p.2.1 ++ q.2.1, q.2.2)
end
mutual
def splitSh {R : Type} : RSh → PV → (RSh → Option R) → Option R
  | .cl, _, K => K .cl
  | .own k, _, K => K (.own k)
  | .opt k, u, K => nilB u (K .cl) (K (.own k))
  | .tup l, u, K => splitShL l u 0 fun l => K (.tup l)
  | .agg l, u, K => splitShL l u 0 fun l => K (.agg l)
def splitShL {R : Type} : List RSh → PV → Nat → (List RSh → Option R) → Option R
  | [], _, _, K => K []
  | s :: l, u, i, K => splitSh s (prjP u i) fun s => splitShL l u (i + 1) fun l => K (s :: l)
end
mutual
def RSh.fix : RSh → Bool
  | .opt _ => false
  | .cl | .own _ => true
  | .tup l | .agg l => fixL l
def fixL : List RSh → Bool
  | [] => true
  | s :: l => s.fix && fixL l
end
structure KB where
  sp : FuncId → (Nm → Option Ob) → List PV → Option Out
  L : CallT
  I : FuncId → List Ob → List PV → Option (St × PV)
  isIo : FuncId → Bool
  leans : FuncId → Bool
structure KCfg where
  b : KB
  spF : FuncId → Bool
  asT : FuncId → TypeId → Option (TypeId × Nat)
  rsh : FuncId → RSh × Bool
  dsh : Nat → RSh
  ioF : FuncId → Option IoSh
def spO (sp : FuncId → (Nm → Option Ob) → List PV → Option Out) (g : FuncId) (vs : List PV) : Option (Option (PV × List Ob)) :=
  match sp g (fun _ => none) vs with
  | some out => chkO (out.upd.isNone && out.kill.isNone && out.frz.isEmpty && out.gone.isEmpty && out.ups.isEmpty && !out.io && out.slot.isNone) (some (some (out.v, out.new)))
  | none => some none
noncomputable def callO (B : KB) (sh : RSh) (f : PV) (args : List PV) : Option PV :=
  match f with
  | .fn g cap => match spO B.sp g (args ++ cap) with
    | some (some (v, obs)) => convO sh v obs
    | some none => if B.isIo g then none else match B.L Unit noHandler 0 g (args ++ cap) () with
      | some (r, obs, _) => convO sh r obs
      | none => none
    | none => none
  | _ => none
noncomputable def lendO (B : KB) (sh : RSh) (fr : Bool) (g : FuncId) (args : List PV) : Option PV :=
  if hasYL args then none
  else match B.L Unit noHandler 0 g args () with
    | some (r, obs, _) => chkO ((r.free && obs.all Ob.free && !B.leans g) == fr) (convO sh r obs)
    | none => none
noncomputable def rangeO (B : KB) {E : Type} (h : Handler E) (dep : Nat) (f : PV) (e : E) : Option E :=
  match f with
  | .fn g cap => match B.L E h (dep + 1) g (.yld dep :: cap) e with
    | some (_, _, e) => some e
    | none => none
  | _ => none
noncomputable def ioO (B : KB) (P : IoSh) (g : FuncId) (vs : List PV) : Option (List PV) :=
  match B.I g ((fillObL P.ins vs (fillL P.args vs 0).2).1.map KOb.ob) (pvL (fillL P.args vs 0).1) with
  | some (st, v) => match ioEnd none 1 0 (canonR P.ins.length) st v with
    | some out => ioFit P out
    | none => none
  | none => none
def ioNm (R : List Nm) (d i0 : Nat) (m : Nm) : Nm := if m.1 = 0 then R.getD m.2 (0, 0) else (d, i0 + m.2)
def ioOut (P : IoSh) (R : List Nm) (sl : Option Nat) (d i0 : Nat) (rs : List PV) : KOut :=
  let v := fill P.res rs 0
  let o := fillObL P.outs rs v.2
  let w := fillObL P.news rs o.2
  { v := v.1.ren (ioNm R d i0), new := w.1.map (KOb.ren (ioNm R d i0)), gone := P.gone.map fun j => R.getD j (0, 0), ups := R.zip (o.1.map (KOb.ren (ioNm R d i0))), io := true, slot := sl }
noncomputable def kcallIo {R : Type} (cfg : KCfg) (P : IoSh) (g : FuncId) (d : Nat) (σ : Nm → Option KOb) (xs : List KV) (K : KOut → Option R) : Option R :=
  let S := dedupN (kreach σ deepest (knamesL xs))
  match S.mapM σ with
  | none => none
  | some ins =>
    let f : Nm → Nm := fun m => (0, S.idxOf m)
    if kshut σ S = true ∧ khasYL xs = false ∧ cfg.spF g = false ∧ (fitL P.args (krenL f xs) && fitObL P.ins (ins.map (KOb.ren f))) = true then
      bindO (ioO cfg.b P g (leavesL P.args (krenL f xs) ++ leavesObL P.ins (ins.map (KOb.ren f)))) fun rs => match S with
        | [] => K (ioOut P S none d 0 rs)
        | r :: _ => match slotLen σ r.1 with
          | some i0 => K (ioOut P S (some r.1) r.1 i0 rs)
          | none => none
    else none
noncomputable def kcall {E R : Type} (cfg : KCfg) (h : Handler E) (d : Nat) (σ : Nm → Option KOb) (tm : Sp) (f : RX) (args : List RX) (e : E) (K : KOut → E → Option R) : Option R :=
  match f.kv tm with
  | .yld l =>
    let xs := args.map (RX.kv tm)
    match clL xs with
    | some vs => bindO (h l vs e) fun p => K { v := .cv (.bool p.1) } p.2
    | none =>
      let R := kreach σ deepest (knamesL xs)
      if (knamesL xs).isEmpty then none
      else if kshut σ R then
        let ys := closeL (kclosed σ deepest) xs
        chkO (noYL ys) (bindO (h l ys e) fun p => K { v := .cv (.bool p.1), frz := R } p.2)
      else none
  | .fn g caps =>
    let xs := args.map (RX.kv tm) ++ caps
    match cfg.ioF g with
    | some P => kcallIo cfg P g d σ xs fun out => K out e
    | none =>
    match xs with
    | [ex, .iface p (.ref nm 0)] => match cfg.asT g p, ex.cl, σ nm with
      | some (t, n), some err, some (.cells ty cs) => chkO (eqN cs.length n) (asP t err (fun x => chkO (okCells x n) (K { v := .lit true, upd := some (nm, .whole ty x) } e)) (K { v := .lit false } e))
      | _, _, _ => none
    | _ => match clL xs with
      | some vs => bindO (callO cfg.b (cfg.rsh g).1 (.fn g []) vs) fun r => splitSh (cfg.rsh g).1 r fun sh => let p := putR d sh 0 r; K { v := p.1, new := p.2.1 } e
      | none =>
        let R := kreach σ deepest (knamesL xs)
        if (knamesL xs).isEmpty ∨ cfg.spF g = true then none
        else if kshut σ R then
          bindO (lendO cfg.b (cfg.rsh g).1 (cfg.rsh g).2 g (closeL (kclosed σ deepest) xs)) fun r => splitSh (cfg.rsh g).1 r fun sh => let p := putR d sh 0 r; K { v := p.1, new := p.2.1, frz := if (cfg.rsh g).2 then [] else R } e
        else none
  | .cv v => match clL (args.map (RX.kv tm)) with
    | some vs => bindO (callO cfg.b (cfg.dsh d) v vs) fun r => splitSh (cfg.dsh d) r fun sh => let p := putR d sh 0 r; K { v := p.1, new := p.2.1 } e
    | none => none
  | _ => none
def kfresh (o : ROper) (ks : KSt) : Bool :=
  if makes o.op then
    match o.dst with
    | some d => Nat.blt d ks.nt && (soGet ks.objs d).isEmpty
    | none => match o.op with
      | .call _ _ => true
      | _ => false
  else true
def kquiet : SpO → Bool
  | [] => true
  | (_, u) :: l => (u.all fun o => match o with | .cells _ cs => !khasYL cs | _ => true) && kquiet l
noncomputable def koutOf {E R : Type} (cfg : KCfg) (h : Handler E) (o : ROper) (ks : KSt) (e : E) (K : KOut → E → Option R) : Option R :=
  if kfresh o ks ∧ o.op.xs.all okX ∧ kquiet ks.objs then
    match o.op with
    | .call f args => kcall cfg h (o.dst.getD 0) (klook ks.objs) ks.tmps f args e fun out e => if (!out.io || o.dst.isSome || out.new.isEmpty || out.slot.isSome) = true then K out e else none
    | op => execK (o.dst.getD 0) (klook ks.objs) ks.tmps op fun out => K out e
  else none
def kwants {R : Type} (ops : List ROper) (o : ROper) (ks : KSt) (K : Bool → KSt → Option R) : Option R :=
  match o.guard with
  | none => K true ks
  | some (j, want) =>
    match ops[j]? with
    | some p => match p.dst with
      | some d => match spGet ks.tmps d with
        | .lit b => K (b == want) ks
        | .sk => K false ks
        | .cv v => iteP v (K (true == want) { ks with tmps := spPut d (.lit true) ks.tmps }) (K (false == want) { ks with tmps := spPut d (.lit false) ks.tmps })
        | _ => none
      | none => none
    | none => none
noncomputable def kstep {E R : Type} (cfg : KCfg) (h : Handler E) (ops : List ROper) (o : ROper) (ks : KSt) (e : E) (K : KSt → E → Option R) : Option R :=
  kwants ops o ks fun b ks => match b with
    | true => koutOf cfg h o ks e fun out e => force (kapply ks o.dst out) fun ks => K ks e
    | false => force (kapply ks o.dst { v := .sk }) fun ks => K ks e
noncomputable def kruns {E R : Type} (cfg : KCfg) (h : Handler E) (ops : List ROper) : List ROper → KSt → E → (KSt → E → Option R) → Option R
  | [], ks, e, K => K ks e
  | o :: rest, ks, e, K => kstep cfg h ops o ks e fun ks e => kruns cfg h ops rest ks e K
def kstays (o : KOut) : Bool := o.upd.isNone && o.kill.isNone && o.frz.isEmpty && o.gone.isEmpty && o.ups.isEmpty && o.slot.isNone
def kturns (o : KOut) : Bool := o.kill.isNone && o.gone.isEmpty && o.ups.isEmpty && o.slot.isNone && !o.io
def kupdNames (o : KOut) : List Nm :=
  match o.upd with
  | some (nm, _) => [nm]
  | none => []
def kinfo (ops : List ROper) (i : Nat) (o : ROper) (ks : KSt) (out : KOut) : Info :=
  let vs := o.op.xs.map (RX.kv ks.tmps)
  { i, dst := o.dst, reads := slotsOf o.op.xs ++ guardSlot ops o, rn := if blind o.op && kstays out then [] else kreach (klook ks.objs) deepest (knamesL vs ++ out.frz),
    cls := if isCall o.op && khasYL vs then .other else if kstays out then .quiet else if kturns out then .turns else .other,
    on := out.v.names ++ out.new.flatMap KOb.names, tch := kupdNames out ++ out.frz, frz := !out.frz.isEmpty }
noncomputable def kstepD {E R : Type} (cfg : KCfg) (h : Handler E) (ops : List ROper) (i : Nat) (o : ROper) (ks : KSt) (e : E) (K : KSt → E → Info → Option R) : Option R :=
  kwants ops o ks fun b ks => match b with
    | true => koutOf cfg h o ks e fun out e => force (kapply ks o.dst out) fun k1 => K k1 e (kinfo ops i o ks out)
    | false => force (kapply ks o.dst { v := .sk }) fun k1 => K k1 e { i, cls := .quiet, dst := o.dst, reads := guardSlot ops o, rn := [] }
noncomputable def krunsD {E R : Type} (cfg : KCfg) (h : Handler E) (ops : List ROper) : List (Nat × Nat) → List Info → KSt → E → (KSt → E → Option R) → Option R
  | [], _, ks, e, K => K ks e
  | (i, bef) :: rest, infos, ks, e, K => match ops[i]? with
    | some o => kstepD cfg h ops i o ks e fun ks e info => if (infos.all fun j => bef.testBit j.i || indep j info) then krunsD cfg h ops rest (info :: infos) ks e K else none
    | none => none
def kclean (ds : List Nat) (ks : KSt) : KSt :=
  if ds.all fun d => (soGet ks.objs d).isEmpty then ks
  else
    let ks := koffSt (fun m => ds.contains m.1) ks
    { ks with objs := soKeep (fun i => !ds.contains i) ks.objs }
def kempty (ks : KSt) (t : Nat) : Bool := Nat.blt t ks.nt && (soGet ks.objs t).isEmpty
def krehomeTo (t : Nat) (ks : KSt) (nm : Nm) : KSt :=
    if nm ≠ (t, 0) ∧ kempty ks t = true then
      match klook ks.objs nm with
      | some ob =>
        let f : Nm → Nm := fun m => if m = nm then (t, 0) else m
        let objs := soMap (KOb.ren f) ks.objs
        { ks with tmps := spMap (KV.ren f) ks.tmps, objs := soPut t [ob.ren f] (kput objs nm kdead), keep := ks.keep.map (spMap (KV.ren f)) }
      | none => ks
    else ks
def krehome1 (t : Nat) (ks : KSt) : KSt :=
  match spGet ks.tmps t with
  | .arr nm _ _ _ => krehomeTo t ks nm
  | .wit nm => krehomeTo t ks nm
  | _ => ks
def kgrown (nm : Nm) (ty : Nat) (cs : List KV) (i k : Nat) (ks : KSt) : KSt :=
  let l := soGet ks.objs nm.1
  { ks with objs := soPut nm.1 (l.set nm.2 (.cells ty (cs.set i (.arr (nm.1, l.length) k 0 0))) ++ [.arr k 0 []]) ks.objs }
def kgrowMove (nm m : Nm) (ks : KSt) : KSt :=
  let l := soGet ks.objs nm.1
  if m.1 ≠ nm.1 then
    match klook ks.objs m with
    | some ob =>
      let f : Nm → Nm := fun x => if x = m then (nm.1, l.length) else x
      let objs := kput (soMap (KOb.ren f) ks.objs) m kdead
      { ks with tmps := spMap (KV.ren f) ks.tmps, objs := soPut nm.1 (soGet objs nm.1 ++ [ob.ren f]) objs, keep := ks.keep.map (spMap (KV.ren f)) }
    | none => ks
  else ks
def kgrowCell {R : Type} (nm : Nm) (ty : Nat) (cs : List KV) (i k : Nat) (ks : KSt) (K : KSt → Option R) : Option R :=
  match cs[i]? with
  | some .nils => K (kgrown nm ty cs i k ks)
  | some (.cv v) => nilO v (K (kgrown nm ty cs i k ks))
  | some (.arr m _ _ _) => K (kgrowMove nm m ks)
  | some (.wit m) => K (kgrowMove nm m ks)
  | _ => K ks
def kgrowC {R : Type} (x off k : Nat) (ks : KSt) (K : KSt → Option R) : Option R :=
  match spGet ks.tmps x with
  | .ref nm o => match klook ks.objs nm with
    | some (.cells ty cs) => kgrowCell nm ty cs (o + off) k ks K
    | some (.whole _ v) => chkO (notNilAt v (o + off)) (K ks)
    | _ => K ks
  | _ => K ks
def kgrow1 {R : Type} (t k : Nat) (ks : KSt) (K : KSt → Option R) : Option R :=
  if gcBase ≤ t then kgrowC (t % gcBase) (t / gcBase - 1) k ks K
  else match spGet ks.tmps t with
  | .nils => K (if kempty ks t then { ks with tmps := spPut t (.arr (t, 0) k 0 0) ks.tmps, objs := soPut t [.arr k 0 []] ks.objs } else ks)
  | .cv v => notNil v (K ks)
  | _ => K ks
def kgrows {R : Type} : List (Nat × Nat) → KSt → (KSt → Option R) → Option R
  | [], ks, K => K ks
  | (t, k) :: l, ks, K => kgrow1 t k ks fun ks => kgrows l ks K
def kunnamed (ks : KSt) : List Nat :=
  let R := spNames ks.tmps ++ ks.keep.flatMap spNames ++ soNames ks.objs
  (ks.objs.filter fun p => !p.2.isEmpty && R.all fun nm => nm.1 != p.1).map (·.1)
def knorm {R : Type} (asg : List Nat) (grow : List (Nat × Nat)) (ks : KSt) (K : KSt → Option R) : Option R :=
  kgrows grow (asg.foldl (fun ks t => krehome1 t ks) ks) fun ks => K (kclean (kunnamed ks) ks)
def kdrop (k0 : KSt) (ks : KSt) : KSt :=
  let ks := { ks with tmps := spKeep (spHas k0.tmps) ks.tmps }
  kclean (kunnamed ks) ks
def ktidy (live : Option (List Nat)) (ks : KSt) : KSt :=
  match live with
  | none => ks
  | some l =>
    let ks := { ks with tmps := spKeep (fun i => l.contains i) ks.tmps }
    kclean (kunnamed ks) ks
def pureOp : ROp → Bool
  | .mov _ | .pick _ _ _ | .build _ _ | .nilck _ | .bin _ _ _ _ _ | .un _ _ | .conv _ _ | .toBytes _ | .ofBytes _ | .ofRune _ | .strId _ | .mkI _ _ | .lookup _ _ _ _ _ | .slice _ _ _ _ _ | .strSlice _ _ _
  | .fieldAddr _ _ | .field _ _ _ _ | .idxAddr _ _ _ | .idxAddrA _ _ _ _ | .strIdx _ _ | .extract _ _ | .len _ _ | .minmax _ _ | .tassert _ _ _ _ | .load _ _ _ => true
  | _ => false
def condSlot (ops : List ROper) (lv : Option (List Nat)) : Option Nat :=
  if (ops.any fun o => o.guard.isSome) && (ops.all fun o => pureOp o.op) then
    match lv with
    | some l => match l.filter fun t => (ops.filterMap (·.dst)).contains t with
      | [t] => some t
      | _ => none
    | none => none
  else none
def ksetPs : List Nat → List PV → Nat → Sp → Sp
  | p :: ps, vs, i, tm => ksetPs ps vs (i + 1) (spPut p (.cv (nth vs i)) tm)
  | [], _, _, tm => tm
def isNormal : Ex → Bool
  | .normal => true
  | _ => false
def exitOf : Ex → Option Ex
  | .normal => none
  | x => some x
def exitsOf : RCode → List Nat
  | .seq a b => exitsOf a ++ exitsOf b
  | .cond _ a b => exitsOf a ++ exitsOf b
  | .block id b => (exitsOf b).filter fun i => i != id
  | .loop _ _ b => exitsOf b
  | .rangeFunc _ _ _ b => exitsOf b
  | .scope b => exitsOf b
  | .exit id => [id]
  | _ => []
def konEx {R : Type} : List Nat → Option Ex → (Nat → Option R) → Option R
  | [], _, _ => none
  | id :: l, p, K => iteB (isExitE p id) (K id) (konEx l p K)
abbrev KRec (E : Type) := List PV × Option Ex × E
def onRound {E : Type} (dep : Nat) (h : Handler E) (body : List PV → List PV → E → Option (Bool × KRec E)) : Handler (KRec E) := fun l args r =>
  if l = dep then
    match r with
    | (vs, none, e) => body vs args e
    | _ => none
  else
    match r with
    | (vs, p, e) => match h l args e with
      | some (b, e) => some (b, (vs, p, e))
      | none => none
def onLoop {E R : Type} (asg : List Nat) (grow : List (Nat × Nat)) (k0 : KSt) (K : Ex → KSt → E → Option R) (x : Ex) (ks : KSt) (e : E) : Option (Sum (List PV × E) R) :=
  match x with
  | .normal => knorm asg grow (kdrop k0 ks) fun k1 => force k1 fun k1 => if fitSt k0 k1 then some (.inl (leavesSt k0 k1, e)) else none
  | x => bindO (K x ks e) fun r => some (.inr r)
noncomputable def evalK (cfg : KCfg) : RCode → {E R : Type} → Handler E → Nat → KSt → E → (Ex → KSt → E → Option R) → Option R
  | .skip, _, _, _, _, ks, e, K => K .normal ks e
  | .region ops none lv, E, _, h, _, ks, e, K =>
    force (kclean (dsts ops) ks) fun ks =>
    match condSlot ops lv with
    | some t => bindO (kruns (E := E) cfg h ops ops ks e fun ks _ => (spGet ks.tmps t).cl) fun z => force (ktidy lv { ks with tmps := spPut t (.cv z) ks.tmps }) fun ks => K .normal ks e
    | none => kruns cfg h ops ops ks e fun ks e => force (ktidy lv ks) fun ks => K .normal ks e
  | .region ops (some bef) lv, _, _, h, _, ks, e, K => force (kclean (dsts ops) ks) fun ks => krunsD cfg h ops bef [] ks e fun ks e => force (ktidy lv ks) fun ks => K .normal ks e
  | .seq a b, _, _, h, dep, ks, e, K => evalK cfg a h dep ks e fun x ks e => match x with
    | .normal => evalK cfg b h dep ks e K
    | x => K x ks e
  | .cond c a b, _, _, h, dep, ks, e, K => match c.kv ks.tmps with
    | .lit true => evalK cfg a h dep ks e K
    | .lit false => evalK cfg b h dep ks e K
    | .cv v => iteP v (evalK cfg a h dep ks e K) (evalK cfg b h dep ks e K)
    | _ => none
  | .block id body, _, _, h, dep, ks, e, K => evalK cfg body h dep ks e fun x ks e => match x with
    | .exit id' => if id' = id then K .normal ks e else K (.exit id') ks e
    | x => K x ks e
  | .loop asg grow body, E, R, h, dep, ks, e, K => knorm asg grow ks fun k0 => force k0 fun k0 => chkO (noUndef (leavesSp k0.tmps k0.tmps)) <| if fitSt k0 k0 = false then none else
    loopL (σ := List PV × E) (ρ := R) (fun s => force (fillSt k0 s.1) fun ks => evalK cfg body h dep ks s.2 (onLoop asg grow k0 K)) (leavesSt k0 k0, e)
  | .rangeFunc f ps assign body, E, R, h, dep, ks, e, K =>
    match (f.kv ks.tmps).cl with
    | some fv => if (ps.all fun p => Nat.blt p ks.nt) && fitSt ks ks && okX f then bindO (rangeO (E := KRec E) cfg.b (onRound dep h fun vs args e =>
        chkO (okArgs args ps.length) (
          force (fillSt ks vs) fun k0 =>
          force { k0 with tmps := ksetPs ps args 0 k0.tmps, keep := k0.tmps :: k0.keep } fun k1 =>
          evalK cfg assign (R := Bool × KRec E) h (dep + 1) k1 e fun x k1 e => match x with
            | .normal => evalK cfg body h (dep + 1) k1 e fun x k2 e =>
              match k2.keep with
              | [] => none
              | sp :: kp =>
                force { k2 with tmps := sp, keep := kp } fun k3 =>
                if fitSt ks k3 then some (isNormal x, (leavesSt ks k3, exitOf x, e)) else none
            | _ => none)) dep fv (leavesSt ks ks, none, e)) fun r => force (fillSt ks r.1) fun k1 =>
        iteB (isNoneE r.2.1) (K .normal k1 r.2.2) (iteB (isRetE r.2.1) (K .ret k1 r.2.2)
          (konEx (exitsOf body) r.2.1 fun id => K (.exit id) k1 r.2.2)) else none
    | none => none
  | .exit id, _, _, _, _, ks, e, K => K (.exit id) ks e
  | .scope b, _, _, h, dep, ks, e, K => evalK cfg b h dep ks e fun x ks e => match x with
    | .exit id => if id < gbase then K (.exit id) ks e else none
    | x => K x ks e
  | .ret, _, _, _, _, ks, e, K => K .ret ks e
  | .norm grow, _, _, _, _, ks, e, K => knorm [] grow ks fun k0 => force k0 fun k0 => K .normal k0 e
  | .bad, _, _, _, _, _, _, _ => none
def kresV {R : Type} (ks : KSt) (r : RRes) (K : KV → Option R) : Option R :=
  match r with
  | .tmp t => K (spGet ks.tmps t)
  | .cell t n ag => match spGet ks.tmps t with
    | .ref nm o => match klook ks.objs nm with
      | some (.cells _ cs) => if ag then (if o + n ≤ cs.length then K (.agg ((cs.drop o).take n)) else none) else (match cs[o]? with | some c => K c | none => none)
      | some (.whole _ v) => bindO (selO v o n ag) fun z => K (.cv z)
      | _ => none
    | _ => none
def kresVs {R : Type} (ks : KSt) : List RRes → (List KV → Option R) → Option R
  | [], K => K []
  | r :: rs, K => kresV ks r fun v => kresVs ks rs fun vs => K (v :: vs)
def koneOf : List KV → KV
  | [v] => v
  | vs => .tup vs
def isZero : Nat → Bool
  | 0 => true
  | _ => false
def ktops : KV → List Nm
  | .arr nm _ o _ => if isZero o then [nm] else []
  | .wit nm => [nm]
  | .agg cs => cs.flatMap fun | .arr nm _ o _ => if isZero o then [nm] else [] | .wit nm => [nm] | _ => []
  | .tup xs => xs.flatMap fun | .arr nm _ o _ => if isZero o then [nm] else [] | .wit nm => [nm] | .agg cs => cs.flatMap (fun | .arr nm _ o _ => if isZero o then [nm] else [] | .wit nm => [nm] | _ => []) | _ => []
  | _ => []
mutual
def ownN : RSh → KV → List Nm
  | .own _, x => match x with | .arr nm _ _ _ => [nm] | _ => []
  | .opt _, x => match x with | .arr nm _ _ _ => [nm] | _ => []
  | .tup l, x => match x with | .tup xs => ownNL l xs | _ => []
  | .agg l, x => match x with | .agg xs => ownNL l xs | _ => []
  | .cl, _ => []
def ownNL : List RSh → List KV → List Nm
  | s :: l, x :: xs => ownN s x ++ ownNL l xs
  | _, _ => []
end
mutual
def khand {R : Type} (σ : Nm → Option KOb) (S : List Nm) : RSh → KV → (PV → Option R) → Option R
  | .cl, x, K => match x.cl with
    | some u => K u
    | none => match x with
      | .tup xs => match clL xs with
        | some us => K (.tup us)
        | none => if x.names.all fun nm => !S.contains nm then chkO (okU (x.close (kclosed σ deepest))) (K (x.close (kclosed σ deepest))) else none
      | _ => if x.names.all fun nm => !S.contains nm then chkO (okU (x.close (kclosed σ deepest))) (K (x.close (kclosed σ deepest))) else none
  | .own k, x, K => match x with
    | .arr nm k' o n => match σ nm with
      | some (.arr k'' kt xs) => if k = k' ∧ k = k'' ∧ isZero o = true then chkO (eqN n (lenL xs)) (K (.sl k xs false)) else none
      | _ => none
    | _ => none
  | .opt k, x, K => match x with
    | .arr nm k' o n => match σ nm with
      | some (.arr k'' kt xs) => if k = k' ∧ k = k'' ∧ isZero o = true then chkO (eqN n (lenL xs)) (K (.sl k xs false)) else none
      | _ => none
    | .nils => K .nilS
    | .cv v => nilO v (K .nilS)
    | _ => none
  | .tup l, x, K => match x with
    | .tup xs => khandL σ S l xs fun us => K (.tup us)
    | _ => none
  | .agg l, x, K => match x with
    | .agg xs => khandL σ S l xs fun us => K (.agg us)
    | _ => none
def khandL {R : Type} (σ : Nm → Option KOb) (S : List Nm) : List RSh → List KV → (List PV → Option R) → Option R
  | [], [], K => K []
  | s :: l, x :: xs, K => khand σ S s x fun u => khandL σ S l xs fun us => K (u :: us)
  | _, _, _ => none
end
def ktopsOf (shut : Bool) (v : KV) : List Nm :=
  match shut with
  | true => []
  | false => ktops v
def khandOver {R : Type} (ks : KSt) (shut : Bool) (sh : RSh) (v : KV) (K : PV → Option R) : Option R :=
  let σ := klook ks.objs
  let S := ktopsOf shut v
  let R := kreach σ deepest (v.names.filter fun nm => !S.contains nm)
  if S = ownN sh v ∧ nodupN S = true ∧ (S.all (fun nm => !R.contains nm)) = true ∧ kshut σ R = true then khand σ S sh v K else none
noncomputable def runK (cfg : KCfg) (fn : RFn) (sh : RSh) {E : Type} (h : Handler E) (dep : Nat) (args : List KV) (e : E) : Option (PV × E) :=
  force { nt := fn.nt, tmps := args.zipIdx.map fun p => (p.2, p.1), objs := [], keep := [] } fun ks => evalK cfg fn.code h dep ks e fun x ks e => match x with
    | .exit _ => none
    | _ => kresVs ks fn.res fun vs => khandOver ks fn.shut sh (koneOf vs) fun v => some (v, e)
def kwitNm : KV → Option Nm
  | .wit nm => some nm
  | .arr nm k o n => if k = 1 ∧ o = 0 ∧ n = 0 then some nm else none
  | _ => none
def kioOb (σ : Nm → Option KOb) (B : List (Nm × Nm)) (nm : Nm) : KOb :=
  (((σ nm).getD kdead).off fun m => !(B.map (·.1)).contains m).ren fun m => (B.lookup m).getD m
def kioNews (σ : Nm → Option KOb) (A : List (Nm × Nm)) (v : KV) : List Nm :=
  dedupN ((kreach σ deepest (v.names ++ A.flatMap fun p => ((σ p.1).map KOb.names).getD [])).filter fun m => !(A.map (·.1)).contains m)
def kioPairs (k : Nat) (sp : Sp) : List (Nm × Nm) := (canonR k).zipIdx.map fun p => ((kwitNm (spGet sp p.2)).getD (0, p.2), p.1)
def kioGone (k : Nat) (sp : Sp) : List Nm := ((canonR k).zipIdx.filter fun p => (kwitNm (spGet sp p.2)).isNone).map (·.1)
def leavesObN (p x : KOb) : List PV :=
  match x with
  | .whole _ v => [.agg (cellsP v)]
  | x => leavesOb p x
def leavesObNL : List KOb → List KOb → List PV
  | x :: xs, y :: ys => leavesObN x y ++ leavesObNL xs ys
  | _, _ => []
def kioEnd (P : IoSh) (ks : KSt) (v : KV) : Option (List PV) :=
  match ks.keep with
  | [sp] =>
    let A := kioPairs P.ins.length sp
    let N := kioNews (klook ks.objs) A v
    let B := A ++ N.zipIdx.map fun p => (p.1, (1, 0 + p.2))
    let u := (v.off fun m => !(B.map (·.1)).contains m).ren fun m => (B.lookup m).getD m
    let os := A.map fun p => kioOb (klook ks.objs) B p.1
    let ns := N.map (kioOb (klook ks.objs) B)
    if nodupN (B.map (·.1)) = true ∧ kioGone P.ins.length sp = P.gone.map (fun j => (0, j)) ∧ (fitV P.res u && (fitObL P.outs os && fitObL P.news ns)) = true then
      some (leaves P.res u ++ (leavesObNL P.outs os ++ leavesObNL P.news ns))
    else none
  | _ => none
noncomputable def runIoK (cfg : KCfg) (fn : RFn) (P : IoSh) (vs : List PV) : Option (List PV) :=
  let a := fillL P.args vs 0
  let b := fillObL P.ins vs a.2
  force { nt := fn.nt, tmps := a.1.zipIdx.map fun p => (p.2, p.1), objs := [(0, b.1)], keep := [(List.range P.ins.length).map fun j => (j, .wit (0, j))] } fun ks => evalK (E := Unit) cfg fn.code noHandler 0 ks () fun x ks _ => match x with
    | .exit _ => none
    | _ => kresVs ks fn.res fun vs => kioEnd P ks (koneOf vs)
end Go.Ab

