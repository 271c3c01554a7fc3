/-
  Part 5 of a proof: a machine of our own for the given program, its laws, and what it says of the program. Nothing here is a claim by itself.
-/
import Derived.Test.YtbeonejdegijfaaGreatDoorK04
import Derived.Test.YtbeonejdegijfaaGreatDoorK03
import Derived.RowKit
import Derived.Lib.AppendIntMem
import Derived.Lib.CountLaws
import Derived.Lib.Replace
import Derived.Lib.ItoaNum
import Derived.Test.YtbeonejdegijfaaGreatDoorProg
import Derived.Test.YtbeonejdegijfaaGreatDoorK01
import Derived.KernelRfl
import Derived.IntWalk
set_option linter.all false

namespace Go.Ab
noncomputable def limCall (sp : FuncId → (Nm → Option Ob) → List PV → Option Out) (tab : FuncId → Option RFn) : CallT := fun E h dep g args e => lim fun n => evalFn sp tab n E h dep g args e
def machN (sp : FuncId → (Nm → Option Ob) → List PV → Option Out) (tab : FuncId → Option RFn) (n : Nat) : Mach := evalM sp tab n
theorem machN_sp (sp : FuncId → (Nm → Option Ob) → List PV → Option Out) (tab : FuncId → Option RFn) (n : Nat) : (machN sp tab n).sp = sp := evalM_sp sp tab n
theorem machN_isIo (sp : FuncId → (Nm → Option Ob) → List PV → Option Out) (tab : FuncId → Option RFn) (n : Nat) : (machN sp tab n).isIo = ioFlag tab := evalM_isIo sp tab n
theorem machN_leans (sp : FuncId → (Nm → Option Ob) → List PV → Option Out) (tab : FuncId → Option RFn) (n : Nat) : (machN sp tab n).leans = leanFlag tab := evalM_leans sp tab n
theorem machN_call (sp : FuncId → (Nm → Option Ob) → List PV → Option Out) (tab : FuncId → Option RFn) (n : Nat) : (machN sp tab n).call = evalFn sp tab n := rfl
noncomputable def limIo (sp : FuncId → (Nm → Option Ob) → List PV → Option Out) (tab : FuncId → Option RFn) (g : FuncId) (ins : List Ob) (vs : List PV) : Option (St × PV) :=
  match tab g with
  | some fn => lim fun n => ioRaw (machN sp tab n) n fn ins vs
  | none => none
structure CfgOK (cfg : KCfg) (tab : FuncId → Option RFn) : Prop where
  L : cfg.b.L = limCall cfg.b.sp tab
  I : cfg.b.I = limIo cfg.b.sp tab
  isIo : cfg.b.isIo = ioFlag tab
  leans : cfg.b.leans = leanFlag tab
  ioF : ∀ g, (cfg.ioF g).isSome = ioFlag tab g
  ioP : ∀ g P, cfg.ioF g = some P → ∃ fn, tab g = some fn ∧ 0 < fn.nt ∧ ∀ xs, (P xs).args.length ≤ fn.nt ∧ (P xs).ins.length ≤ fn.nt
  spF : ∀ g, cfg.spF g = false → ∀ σ vs, cfg.b.sp g σ vs = none
  loc : ∀ g σ vs, okVL vs = true → cfg.b.sp g σ vs = cfg.b.sp g (fun _ => none) vs
  asOk : ∀ g p t n, cfg.asT g p = some (t, n) → ∀ σ nm ty cs, σ nm = some (.cells ty cs) → cs.length = n → cfg.b.sp g σ [.nilI, .iface p (.ref nm 0)] = some { v := .bool false } ∧
    ∀ x, okCells x n = true → cfg.b.sp g σ [.iface t x, .iface p (.ref nm 0)] = some { v := .bool true, upd := some (nm, .cells ty x.cells) }
def HOk {E : Type} (h : Handler E) (hn : Nat → Handler E) : Prop := ∀ l args e r, h l args e = some r → Evl fun n => hn n l args e = some r
mutual
theorem convR_put (d : Nat) {obs : List Ob} : ∀ (sh : RSh) (j : Nat) (v : PV) {u : PV} {j' : Nat}, sh.fix = true → convR obs sh j v = some (u, j') →
    (putR d sh j u).1.pv = v.ren (renNew d) ∧ (putR d sh j u).2.1.map KOb.ob = (obs.drop j).take (j' - j) ∧ (putR d sh j u).2.2 = j' ∧ (putR d sh j u).1.ok ∧ (∀ o ∈ (putR d sh j u).2.1, o.ok) ∧ j ≤ j'
  | .opt k, j, v, u, j', hf, h => by cases hf
  | .cl, j, v, u, j', _, h => by
    simp only [convR] at h
    obtain ⟨h1, h2⟩ := chkO_some h
    cases h2
    refine ⟨?_, by simp [putR], rfl, h1, by simp [putR], Nat.le_refl _⟩
    simp only [putR, KV.pv]
    rw [ren_none (okV_iff h1).1]
  | .own k, j, v, u, j', _, h => by
    simp only [convR] at h
    split at h
    · rename_i nm k' o n k'' kt xs hj
      obtain ⟨h1, h2⟩ := chkO_some h
      cases h2
      simp only [Bool.and_eq_true, beq_iff_eq] at h1
      obtain ⟨⟨⟨⟨⟨⟨rfl, rfl⟩, rfl⟩, rfl⟩, rfl⟩, rfl⟩, hok⟩ := h1
      refine ⟨by simp [putR, KV.pv, PV.ren, renNew, lenL, itemsP], ?_, rfl, trivial, ?_, by omega⟩
      · have hlt := (List.getElem?_eq_some_iff.1 hj).1
        have hd : obs.drop j = .arr k 0 xs :: obs.drop (j + 1) := by
          obtain ⟨hi, he⟩ := List.getElem?_eq_some_iff.1 hj
          rw [← he]; exact List.drop_eq_getElem_cons hi
        rw [hd, show j + 1 - j = 1 by omega]
        simp [putR, KOb.ob, itemsP]
      · intro o ho
        simp only [putR, List.mem_singleton] at ho
        subst ho; exact hok
    · cases h
  | .tup l, j, v, u, j', hf, h => by
    simp only [convR] at h
    split at h
    · rename_i vs
      obtain ⟨p, hp, he⟩ := Option.map_eq_some_iff.1 h
      cases he
      obtain ⟨h1, h2, h3, h4, h5, h6⟩ := convRL_put d l j vs (us := p.1) (j' := p.2) hf hp (.tup p.1) 0 (by intro i _; simp [prjP])
      simp only [putR]
      exact ⟨by simp [KV.pv, PV.ren, h1], h2, h3, h4, h5, h6⟩
    · cases h
  | .agg l, j, v, u, j', hf, h => by
    simp only [convR] at h
    split at h
    · rename_i vs
      obtain ⟨p, hp, he⟩ := Option.map_eq_some_iff.1 h
      cases he
      obtain ⟨h1, h2, h3, h4, h5, h6⟩ := convRL_put d l j vs (us := p.1) (j' := p.2) hf hp (.agg p.1) 0 (by intro i _; simp [prjP])
      simp only [putR]
      exact ⟨by simp [KV.pv, PV.ren, h1], h2, h3, h4, h5, h6⟩
    · cases h
theorem convRL_put (d : Nat) {obs : List Ob} : ∀ (l : List RSh) (j : Nat) (vs : List PV) {us : List PV} {j' : Nat}, fixL l = true → convRL obs l j vs = some (us, j') → ∀ (r : PV) (i : Nat), (∀ m, m < us.length → prjP r (i + m) = us.getD m .undef) →
    pvL (putRL d l j r i).1 = renL (renNew d) vs ∧ (putRL d l j r i).2.1.map KOb.ob = (obs.drop j).take (j' - j) ∧ (putRL d l j r i).2.2 = j' ∧ okKL (putRL d l j r i).1 ∧ (∀ o ∈ (putRL d l j r i).2.1, o.ok) ∧ j ≤ j'
  | [], j, vs, us, j', _, h, r, i, _ => by
    cases vs with
    | nil => simp only [convRL] at h; cases h; simp [putRL, pvL, renL, okKL]
    | cons v vs => simp [convRL] at h
  | s :: l, j, vs, us, j', hf, h, r, i, hr => by
    simp only [fixL, Bool.and_eq_true] at hf
    cases vs with
    | nil => simp [convRL] at h
    | cons v vs =>
      simp only [convRL] at h
      split at h
      · rename_i u j1 hu
        obtain ⟨p, hp, he⟩ := Option.map_eq_some_iff.1 h
        obtain ⟨us', j2⟩ := p
        cases he
        have h0 : prjP r i = u := by have := hr 0 (by simp); simpa using this
        obtain ⟨a1, a2, a3, a4, a5, a6⟩ := convR_put d s j v hf.1 hu
        obtain ⟨b1, b2, b3, b4, b5, b6⟩ := convRL_put d l j1 vs hf.2 hp r (i + 1) (fun m hm => by
          have := hr (m + 1) (by simp; omega)
          rw [show i + (m + 1) = i + 1 + m by omega] at this
          simpa using this)
        simp only [putRL, h0, a3]
        refine ⟨by simp [pvL, renL, a1, b1], ?_, b3, ⟨a4, b4⟩, ?_, by omega⟩
        · rw [List.map_append, a2, b2]
          have e1 : obs.drop j1 = (obs.drop j).drop (j1 - j) := by rw [List.drop_drop]; congr 1; omega
          rw [e1, show j2 - j = (j1 - j) + (j2 - j1) by omega, List.take_add]
        · intro o ho
          rcases List.mem_append.1 ho with ho | ho
          · exact a5 o ho
          · exact b5 o ho
      · cases h
end
theorem convO_put (d : Nat) {obs : List Ob} {sh : RSh} {v u : PV} (hf : sh.fix = true) (h : convO sh v obs = some u) : (putR d sh 0 u).1.pv = v.ren (renNew d) ∧ (putR d sh 0 u).2.1.map KOb.ob = obs ∧ (putR d sh 0 u).1.ok ∧ ∀ o ∈ (putR d sh 0 u).2.1, o.ok := by
  unfold convO at h
  split at h
  · rename_i r j hr
    obtain ⟨h1, h2⟩ := chkO_some h
    cases h2
    simp only [beq_iff_eq] at h1
    obtain ⟨a1, a2, a3, a4, a5, a6⟩ := convR_put d sh 0 v hf hr
    refine ⟨a1, ?_, a4, a5⟩
    rw [a2, h1]; simp
  · cases h
mutual
theorem splitSh_ok {R : Type} {r : R} : ∀ (sh : RSh) (u : PV) {K : RSh → Option R}, splitSh sh u K = some r →
    ∃ sh', sh'.fix = true ∧ K sh' = some r ∧ ∀ obs j v j', convR obs sh j v = some (u, j') → convR obs sh' j v = some (u, j')
  | .cl, u, K, h => ⟨.cl, rfl, h, fun _ _ _ _ h => h⟩
  | .own k, u, K, h => ⟨.own k, rfl, h, fun _ _ _ _ h => h⟩
  | .opt k, u, K, h => by
    simp only [splitSh] at h
    unfold nilB at h
    split at h
    · refine ⟨.cl, rfl, h, fun obs j v j' hc => ?_⟩
      simp only [convR] at hc
      split at hc
      · cases hc; rfl
      · obtain ⟨_, hc⟩ := chkO_some hc
        cases hc
      · cases hc
    · rename_i hu
      refine ⟨.own k, rfl, h, fun obs j v j' hc => ?_⟩
      simp only [convR] at hc
      split at hc
      · cases hc; exact absurd rfl hu
      · rename_i hj
        simp only [convR, hj]; exact hc
      · cases hc
  | .tup l, u, K, h => by
    simp only [splitSh] at h
    obtain ⟨l', h1, h2, h3⟩ := splitShL_ok l u 0 h
    refine ⟨.tup l', h1, h2, fun obs j v j' hc => ?_⟩
    simp only [convR] at hc ⊢
    split at hc
    · obtain ⟨p, hp, he⟩ := Option.map_eq_some_iff.1 hc
      cases he
      rw [h3 obs j _ p.1 p.2 hp (by intro i _; simp [prjP])]
      rfl
    · cases hc
  | .agg l, u, K, h => by
    simp only [splitSh] at h
    obtain ⟨l', h1, h2, h3⟩ := splitShL_ok l u 0 h
    refine ⟨.agg l', h1, h2, fun obs j v j' hc => ?_⟩
    simp only [convR] at hc ⊢
    split at hc
    · obtain ⟨p, hp, he⟩ := Option.map_eq_some_iff.1 hc
      cases he
      rw [h3 obs j _ p.1 p.2 hp (by intro i _; simp [prjP])]
      rfl
    · cases hc
theorem splitShL_ok {R : Type} {r : R} : ∀ (l : List RSh) (u : PV) (i : Nat) {K : List RSh → Option R}, splitShL l u i K = some r →
    ∃ l', fixL l' = true ∧ K l' = some r ∧ ∀ obs j vs us j', convRL obs l j vs = some (us, j') → (∀ m, m < us.length → prjP u (i + m) = us.getD m .undef) → convRL obs l' j vs = some (us, j')
  | [], u, i, K, h => ⟨[], rfl, h, fun _ _ _ _ _ h _ => h⟩
  | s :: l, u, i, K, h => by
    simp only [splitShL] at h
    obtain ⟨s', h1, h, h3⟩ := splitSh_ok s (prjP u i) h
    obtain ⟨l', g1, h, g3⟩ := splitShL_ok l u (i + 1) h
    refine ⟨s' :: l', by simp [fixL, h1, g1], h, fun obs j vs us j' hc hu => ?_⟩
    cases vs with
    | nil => simp [convRL] at hc
    | cons v vs =>
      simp only [convRL] at hc ⊢
      split at hc
      · rename_i w j1 hw
        obtain ⟨p, hp, he⟩ := Option.map_eq_some_iff.1 hc
        obtain ⟨us', j2⟩ := p
        cases he
        have h0 : prjP u i = w := by have := hu 0 (by simp); simpa using this
        rw [h3 obs j v j1 (by rw [h0]; exact hw)]
        simp only
        rw [g3 obs j1 vs us' j2 hp (fun m hm => by
          have := hu (m + 1) (by simp; omega)
          rw [show i + (m + 1) = i + 1 + m by omega] at this
          simpa using this)]
        simp only [Option.map_some, h0]
      · cases hc
end
theorem splitO_ok {R : Type} {r : R} {sh : RSh} {u : PV} {K : RSh → Option R} (h : splitSh sh u K = some r) :
    ∃ sh', sh'.fix = true ∧ K sh' = some r ∧ ∀ v obs, convO sh v obs = some u → convO sh' v obs = some u := by
  obtain ⟨sh', h1, h2, h3⟩ := splitSh_ok sh u h
  refine ⟨sh', h1, h2, fun v obs hc => ?_⟩
  unfold convO at hc ⊢
  split at hc
  · rename_i w j hw
    obtain ⟨c1, c2⟩ := chkO_some hc
    cases c2
    rw [h3 obs 0 v j hw]
    simp only [c1, chkO]
  · cases hc
section
variable {cfg : KCfg} {tab : FuncId → Option RFn} {ks : KSt} {E R : Type} {h : Handler E} {hn : Nat → Handler E} {K : KOut → E → Option R} {r : R} {e : E} {d dep : Nat}
theorem spO_ok (hc : CfgOK cfg tab) {g : FuncId} {vs : List PV} (hvs : okVL vs = true) {x : Option (PV × List Ob)} (h : spO cfg.b.sp g vs = some x) (σ : Nm → Option Ob) :
    match x with | some p => cfg.b.sp g σ vs = some { v := p.1, new := p.2 } | none => cfg.b.sp g σ vs = none := by
  unfold spO at h
  rw [hc.loc g σ vs hvs]
  split at h
  · rename_i out ho
    obtain ⟨h1, h2⟩ := chkO_some h
    cases h2
    simp only [Bool.and_eq_true, List.isEmpty_iff, Option.isNone_iff_eq_none, Bool.not_eq_true'] at h1
    obtain ⟨⟨⟨⟨⟨⟨b, c⟩, f⟩, a2⟩, a3⟩, a4⟩, a5⟩ := h1
    simp only
    rw [ho]
    obtain ⟨v, new, upd, kill, frz, gone, ups, io, slot⟩ := out
    simp only at b c f a2 a3 a4 a5
    subst b; subst c; subst f; subst a2; subst a3; subst a4; subst a5
    rfl
  · rename_i ho; cases h; exact ho
theorem callO_sh {sh sh' : RSh} {f : PV} {vs : List PV} {u : PV} (hs : ∀ v obs, convO sh v obs = some u → convO sh' v obs = some u) (h : callO cfg.b sh f vs = some u) : callO cfg.b sh' f vs = some u := by
  unfold callO at h ⊢
  split at h
  · split at h
    · exact hs _ _ h
    · split at h
      · cases h
      · rename_i hio
        rw [if_neg hio]
        split at h
        · exact hs _ _ h
        · cases h
    · cases h
  · cases h
theorem lendO_sh {sh sh' : RSh} {fr : Bool} {g : FuncId} {vs : List PV} {u : PV} (hs : ∀ v obs, convO sh v obs = some u → convO sh' v obs = some u) (h : lendO cfg.b sh fr g vs = some u) : lendO cfg.b sh' fr g vs = some u := by
  unfold lendO at h ⊢
  split at h
  · cases h
  · rename_i hy
    rw [if_neg hy]
    split at h
    · obtain ⟨h1, h2⟩ := chkO_some h
      simp only [h1, chkO]
      exact hs _ _ h2
    · cases h
theorem fnId_blt {g : FuncId} : Nat.blt (fnId g) fnBase = true := by
  unfold fnId
  split
  · assumption
  · exact Nat.blt_eq.mpr (Nat.mod_lt _ (by decide))
theorem fnId_id {g : FuncId} : fnId (fnId g) = fnId g := by
  have h := fnId_blt (g := g)
  generalize fnId g = x at h
  simp [fnId, h]
theorem fnArgs_id {g : FuncId} {vs : List PV} : fnArgs (fnId g) vs [] = vs := by
  have h := fnId_blt (g := g)
  simp [fnArgs, h]
theorem fnArgs_mem' {f : FuncId} {vs cap : List PV} {x : PV} (h : x ∈ vs ∨ x ∈ cap) : x ∈ fnArgs f vs cap := by
  unfold fnArgs
  split
  · exact List.mem_append.2 h
  · rcases h with h | h
    · exact List.mem_append_right _ (List.mem_append_left _ h)
    · rw [← List.take_append_drop (fnK f) cap] at h
      rcases List.mem_append.1 h with h | h
      · exact List.mem_append_left _ h
      · exact List.mem_append_right _ (List.mem_append_right _ h)
theorem kfnArgs_pv (f : FuncId) (vs cap : List KV) : pvL (kfnArgs f vs cap) = fnArgs f (pvL vs) (pvL cap) := by
  unfold kfnArgs fnArgs
  cases Nat.blt f fnBase <;> simp [pvL_append, pvL_take, pvL_drop]
theorem kfnArgs_ok {f : FuncId} {vs cap : List KV} (h1 : okKL vs) (h2 : okKL cap) : okKL (kfnArgs f vs cap) := by
  unfold kfnArgs
  split
  · exact okKL_append h1 h2
  · exact okKL_append (okKL_mem.2 fun x hx => okKL_mem.1 h2 x (List.mem_of_mem_take hx)) (okKL_append h1 (okKL_mem.2 fun x hx => okKL_mem.1 h2 x (List.mem_of_mem_drop hx)))
theorem callO_all {B : KB} {sh : RSh} {f : FuncId} {vs cap : List PV} : callO B sh (.fn f cap) vs = callO B sh (.fn (fnId f) []) (fnArgs f vs cap) := by
  simp only [callO, fnId_id, fnArgs_id]
theorem callO_ok (hc : CfgOK cfg tab) {sh : RSh} (hfix : sh.fix = true) {f : PV} {vs : List PV} (hvs : okVL vs = true) (hf : okV f = true) {u : PV} (hu : callO cfg.b sh f vs = some u) (σ : Nm → Option Ob) (T : List PV) (fx : RX) (args : List RX) (hfx : fx.ev T = f) (hargs : args.map (RX.ev T) = vs) :
    ∃ out : KOut, out.Ok ∧ out = { v := (putR d sh 0 u).1, new := (putR d sh 0 u).2.1 } ∧ Evl fun n => execCall (machN cfg.b.sp tab n) (hn n) dep d σ T fx args e = some (out.out, e) := by
  unfold callO at hu
  split at hu
  · rename_i g cap
    have hcap : okVL cap = true := by simpa [okV] using hf
    have hall : okVL (fnArgs g vs cap) = true := okVL_iff.2 fun x hx => (fnArgs_mem hx).elim (okVL_iff.1 hvs x) (okVL_iff.1 hcap x)
    have hnm : (namesL (fnArgs g vs cap)).isEmpty = true := by rw [(okVL_names hall).1]; rfl
    have hy : hasYL (fnArgs g vs cap) = false := (okVL_names hall).2
    split at hu
    · rename_i v obs hs
      have h1 := spO_ok hc hall hs σ
      simp only at h1
      obtain ⟨a1, a2, a3, a4⟩ := convO_put d hfix hu
      refine ⟨_, ⟨a3, a4, by simp, by simp⟩, rfl, .of fun n => ?_⟩
      simp only [execCall, hfx, hargs, machN_sp, h1, KOut.out, a1, a2, Option.map_none, List.map_nil]
    · rename_i hs
      have h1 := spO_ok hc hall hs σ
      split at hu
      · cases hu
      rename_i hio
      have hio : ioFlag tab (fnId g) = false := by rw [← hc.isIo]; simpa using hio
      split at hu
      · rename_i rr obs hL
        rw [hc.L] at hL
        have hev := lim_some hL
        obtain ⟨a1, a2, a3, a4⟩ := convO_put d hfix hu
        refine ⟨_, ⟨a3, a4, by simp, by simp⟩, rfl, hev.mono fun n hn' => ?_⟩
        simp only at h1
        simp only [execCall, hfx, hargs, machN_sp, machN_isIo, machN_call, hio, h1, hnm, if_true, hy, Bool.false_eq_true, if_false, hn', KOut.out, a1, a2, Option.map_none, List.map_nil]
      · cases hu
    · cases hu
  · cases hu
theorem mapM_mem {α : Type} {σ : Nm → Option α} : ∀ {S : List Nm} {l : List α}, S.mapM σ = some l → l.length = S.length ∧ ∀ x ∈ l, ∃ nm, σ nm = some x := by
  intro S
  induction S with
  | nil => intro l h; simp at h; subst h; exact ⟨rfl, fun x h => by cases h⟩
  | cons y S ih =>
    intro l h
    rw [List.mapM_cons] at h
    simp only [Option.bind_eq_bind, Option.bind_eq_some_iff, Option.pure_def, Option.some.injEq] at h
    obtain ⟨o, ho, l', hl, rfl⟩ := h
    obtain ⟨q1, q2⟩ := ih hl
    refine ⟨by simp [q1], fun x hx => ?_⟩
    rcases List.mem_cons.1 hx with rfl | hx
    · exact ⟨y, ho⟩
    · exact q2 x hx
theorem mapM_map' {α β : Type} {σ : Nm → Option α} (g : α → β) : ∀ {S : List Nm} {l : List α}, S.mapM σ = some l → S.mapM (fun nm => (σ nm).map g) = some (l.map g) := by
  intro S
  induction S with
  | nil => intro l h; simp at h; subst h; rfl
  | cons y S ih =>
    intro l h
    rw [List.mapM_cons] at h
    simp only [Option.bind_eq_bind, Option.bind_eq_some_iff, Option.pure_def, Option.some.injEq] at h
    obtain ⟨o, ho, l', hl, rfl⟩ := h
    rw [List.mapM_cons, ih hl, ho]
    rfl
theorem fitObL_len : ∀ {ps xs : List KOb}, fitObL ps xs = true → ps.length = xs.length
  | [], [], _ => rfl
  | [], _ :: _, h => by simp [fitObL] at h
  | _ :: _, [], h => by simp [fitObL] at h
  | p :: ps, x :: xs, h => by
    simp only [fitObL, Bool.and_eq_true] at h
    simp [fitObL_len h.2]
theorem fitL_len : ∀ {ps xs : List KV}, fitL ps xs = true → ps.length = xs.length
  | [], [], _ => rfl
  | [], _ :: _, h => by simp [fitL] at h
  | _ :: _, [], h => by simp [fitL] at h
  | p :: ps, x :: xs, h => by
    simp only [fitL, Bool.and_eq_true] at h
    simp [fitL_len h.2]
theorem ob_noY {o : KOb} (h : o.ok) (hq : ∀ ty cs, o = .cells ty cs → khasYL cs = false) : o.ob.hasY = false := by
  cases o with
  | cells ty cs =>
    have h' : okKL cs := h
    show hasYL (pvL cs) = false
    rw [pvL_hasY h']; exact hq ty cs rfl
  | whole ty v => exact (okVL_names (okV_cells h)).2
  | arr k kt xs => exact (okVL_names h).2
  | map es => exact (okVL_names h).2
  | siter s p => rfl
theorem kcallIo_ok (hc : CfgOK cfg tab) (hk : ks.Ok) (hq : kquiet ks.objs = true) {g f0 : FuncId} (hg0 : fnId f0 = g) {cap : List PV} {f : RX} {args : List RX} {xs : List KV} (hxs : okKL xs) (hfe : f.ev ks.st.tmps = .fn f0 cap) (hvs : fnArgs f0 (args.map (RX.ev ks.st.tmps)) cap = pvL xs)
    {P : IoSh} {Pf : List KV → IoSh} (hPf : cfg.ioF g = some Pf) (hP : Pf xs = P) (hr : kcallIo cfg P g d (klook ks.objs) xs (fun out => K out e) = some r) :
    ∃ out e', K out e' = some r ∧ out.Ok ∧ Evl fun n => execCall (machN cfg.b.sp tab n) (hn n) dep d (look ks.st.objs) ks.st.tmps f args e = some (out.out, e') := by
  unfold kcallIo at hr
  simp only at hr
  generalize hS : dedupN (kreach (klook ks.objs) deepest (knamesL xs)) = S at hr
  split at hr
  · cases hr
  rename_i ins hins
  split at hr
  case isFalse => cases hr
  rename_i hcond
  obtain ⟨hsh, hy, hsp, hfit⟩ := hcond
  simp only [Bool.and_eq_true] at hfit
  obtain ⟨hfa, hfo⟩ := hfit
  obtain ⟨rs, hio, hr⟩ := bindO_some hr
  have hplace : ∃ sl d1 i1, K (ioOut P S sl d1 i1 rs) e = some r ∧ ∀ st v out, ioEnd sl d1 i1 S st v = some out → ioEndAt (look ks.st.objs) d S st v = some out := by
    unfold ioEndAt
    cases S with
    | nil => exact ⟨none, d, 0, hr, fun st v out h => h⟩
    | cons s ss =>
      simp only at hr
      split at hr
      · rename_i i1 hi1
        refine ⟨some s.1, s.1, i1, hr, fun st v out h => ?_⟩
        have : slotLen (look ks.st.objs) s.1 = some i1 := by
          rw [st_lookF hk, ← hi1]
          unfold slotLen
          congr 1
          funext j
          show ((klook ks.objs (s.1, j)).map KOb.ob).isNone = _
          cases klook ks.objs (s.1, j) <;> rfl
        simp only [this]
        exact h
      · cases hr
  obtain ⟨sl, d1, i1, hr, hplace⟩ := hplace
  have hflag : ioFlag tab g = true := by rw [← hc.ioF, hPf]; rfl
  obtain ⟨fn, htab, hnt, hll⟩ := hc.ioP g Pf hPf
  have hla := (hll xs).1
  have hli := (hll xs).2
  rw [hP] at hla hli
  obtain ⟨m1, m2⟩ := mapM_mem hins
  have hinok : ∀ o ∈ ins, o.ok := fun o ho => let ⟨nm, h⟩ := m2 o ho; klook_okF hk nm o h
  have hS' : dedupN (reach (look ks.st.objs) deepest (namesL (pvL xs))) = S := by rw [← hS, kreach_eq (klook_okF hk), st_lookF hk, pvL_names hxs]
  have hmap : S.mapM (look ks.st.objs) = some (ins.map KOb.ob) := by rw [st_lookF hk]; exact mapM_map' KOb.ob hins
  have hysok : okKL (krenL (fun m => (0, S.idxOf m)) xs) := krenL_ok _ hxs
  have hosok : ∀ o ∈ ins.map (KOb.ren fun m => (0, S.idxOf m)), o.ok := by
    intro o ho
    obtain ⟨o0, h0, rfl⟩ := List.mem_map.1 ho
    exact KOb.ren_ok _ (hinok o0 h0)
  have hlen : P.ins.length = S.length := by rw [fitObL_len hfo, List.length_map, m1]
  have hlx : ∀ l : List KV, (krenL (fun m => (0, S.idxOf m)) l).length = l.length := by
    intro l; induction l with | nil => rfl | cons x l ih => simp [krenL, ih]
  have hlena : (pvL xs).length ≤ fn.nt := by
    have h1 := fitL_len hfa
    rw [hlx] at h1
    have h2 : (pvL xs).length = xs.length := by rw [pvL_map, List.length_map]
    omega
  generalize hlv : leavesL P.args (krenL (fun m => (0, S.idxOf m)) xs) ++ leavesObL P.ins (ins.map (KOb.ren fun m => (0, S.idxOf m))) = lv at hio
  have hseg : Seg lv 0 (leavesL P.args (krenL (fun m => (0, S.idxOf m)) xs) ++ leavesObL P.ins (ins.map (KOb.ren fun m => (0, S.idxOf m)))) := by rw [hlv]; exact Seg.all lv
  obtain ⟨p1, p2, p3⟩ := fillL_ok _ _ hfa hysok lv 0 hseg.left
  obtain ⟨q1, q2, q3⟩ := fillObL_ok _ _ hfo hosok lv (fillL P.args lv 0).2 (by rw [p3]; exact hseg.right)
  have hvs2 : pvL (krenL (fun m => (0, S.idxOf m)) xs) = renL (fun m => (0, S.idxOf m)) (pvL xs) := renL_pv _ hxs
  have hos2 : (ins.map (KOb.ren fun m => (0, S.idxOf m))).map KOb.ob = (ins.map KOb.ob).map (Ob.ren fun m => (0, S.idxOf m)) := by
    rw [List.map_map, List.map_map]
    exact List.map_congr_left fun o ho => KOb.ren_ob _ (hinok o ho)
  unfold ioO at hio
  rw [p1, q1, hvs2, hos2] at hio
  split at hio
  case h_2 => cases hio
  rename_i st v hI
  rw [hc.I] at hI
  unfold limIo at hI
  rw [htab] at hI
  have hev := lim_some hI
  split at hio
  case h_2 => cases hio
  rename_i out0 hend
  rw [hlen] at hend
  have hend2 := ioEnd_ren (sl := sl) (d := d1) (i0 := i1) hend
  unfold ioFit at hio
  split at hio
  case isFalse => cases hio
  rename_i hgone
  split at hio
  case h_2 => cases hio
  rename_i a b c ha hb hcc
  cases hio
  have hsr := Seg.all (a ++ (b ++ c))
  obtain ⟨a1, a2, a3⟩ := fitP_fill P.res out0.v ha _ 0 hsr.left
  obtain ⟨b1, b2, b3⟩ := fitPObL_fill P.outs _ hb (a ++ (b ++ c)) (fill P.res (a ++ (b ++ c)) 0).2 (by rw [a3]; exact hsr.right.left)
  obtain ⟨c1, c2, c3⟩ := fitPObL_fill P.news _ hcc (a ++ (b ++ c)) (fillObL P.outs (a ++ (b ++ c)) (fill P.res (a ++ (b ++ c)) 0).2).2 (by rw [b3, a3]; exact hsr.right.right)
  have hout : (ioOut P S sl d1 i1 (a ++ (b ++ c))).out = { v := out0.v.ren (ioNm S d1 i1), new := out0.new.map (Ob.ren (ioNm S d1 i1)), gone := out0.gone.map (ioNm S d1 i1), ups := S.zip (out0.ups.map fun p => p.2.ren (ioNm S d1 i1)), io := true, slot := sl } := by
    simp only [ioOut, KOut.out, Option.map_none, Out.mk.injEq, true_and, and_true]
    refine ⟨?_, ?_, ?_, ?_⟩
    · rw [KV.ren_pv _ a2, a1]
    · rw [List.map_map, ← c1, List.map_map]
      exact List.map_congr_left fun o ho => KOb.ren_ob _ (c2 o ho)
    · rw [hgone, List.map_map]
      exact List.map_congr_left fun j _ => by simp [ioNm]
    · have e1 : out0.ups.map (fun p => p.2.ren (ioNm S d1 i1)) = (out0.ups.map (·.2)).map (Ob.ren (ioNm S d1 i1)) := by rw [List.map_map]; rfl
      rw [e1, ← b1, List.map_map]
      have key : ∀ (T : List Nm) (l : List KOb), (∀ o ∈ l, o.ok) → (T.zip (l.map (KOb.ren (ioNm S d1 i1)))).map (fun p => (p.1, p.2.ob)) = T.zip (l.map (Ob.ren (ioNm S d1 i1) ∘ KOb.ob)) := by
        intro T
        induction T with
        | nil => intro l _; rfl
        | cons s T ih =>
          intro l hl
          cases l with
          | nil => rfl
          | cons o l =>
            simp only [List.map_cons, List.zip_cons_cons, List.map_cons, Function.comp]
            rw [KOb.ren_ob _ (hl o List.mem_cons_self), ih l fun o ho => hl o (List.mem_cons_of_mem _ ho)]
      exact key S _ b2
  refine ⟨_, e, hr, ⟨KV.ren_ok _ a2, ?_, by simp [ioOut], ?_⟩, hev.shift.mono ?_⟩
  · intro o ho
    obtain ⟨o0, h0, rfl⟩ := List.mem_map.1 ho
    exact KOb.ren_ok _ (c2 o0 h0)
  · rintro ⟨s, o⟩ ho
    have := (List.of_mem_zip ho).2
    obtain ⟨o0, h0, rfl⟩ := List.mem_map.1 this
    exact KOb.ren_ok _ (b2 o0 h0)
  · rintro k ⟨j, rfl, hj⟩
    have hioE : (machN cfg.b.sp tab (j + 1)).io g d (look ks.st.objs) (pvL xs) = some (ioOut P S sl d1 i1 (a ++ (b ++ c))).out := by
      show ioOf (evalM cfg.b.sp tab j) j tab g d (look ks.st.objs) (pvL xs) = _
      unfold ioOf
      rw [htab]
      simp only
      rw [hS', hmap]
      have hcd : (!hasYL (pvL xs) && shutR (look ks.st.objs) S && (ins.map KOb.ob).all (fun o => !o.hasY) && (decide ((pvL xs).length ≤ fn.nt) && decide (S.length ≤ fn.nt) && decide (0 < fn.nt))) = true := by
        simp only [Bool.and_eq_true, Bool.not_eq_true', decide_eq_true_eq]
        refine ⟨⟨⟨by rw [pvL_hasY hxs]; exact hy, ?_⟩, ?_⟩, ⟨hlena, by omega⟩, hnt⟩
        · rw [st_lookF hk, ← kshut_eq (klook_okF hk)]; exact hsh
        · rw [List.all_eq_true]
          intro o ho
          obtain ⟨o0, h0, rfl⟩ := List.mem_map.1 ho
          obtain ⟨nm, hnm⟩ := m2 o0 h0
          have := ob_noY (hinok o0 h0) fun ty cs hcs => quiet_look hq nm ty cs (by rw [hnm, hcs])
          simp [this]
      simp only [chk, hcd, if_true]
      have hj' : ioRaw (evalM cfg.b.sp tab j) j fn ((ins.map KOb.ob).map (Ob.ren fun m => (0, S.idxOf m))) (renL (fun m => (0, S.idxOf m)) (pvL xs)) = some (st, v) := hj
      rw [hj']
      simp only
      rw [hout]
      exact hplace _ _ _ hend2
    simp only [execCall, hfe, hg0, hvs, machN_sp, machN_isIo, hc.spF g hsp, hflag, if_true, hioE]
theorem kcall_ok (hc : CfgOK cfg tab) (hh : HOk h hn) (hk : ks.Ok) (hq : kquiet ks.objs = true) {f : RX} {args : List RX} (hx : (f :: args).all okX = true)
    (hr : kcall cfg h d (klook ks.objs) ks.tmps f args e K = some r) :
    ∃ out e', K out e' = some r ∧ out.Ok ∧ Evl fun n => execCall (machN cfg.b.sp tab n) (hn n) dep d (look ks.st.objs) ks.st.tmps f args e = some (out.out, e') := by
  have hxf : okX f = true := List.all_eq_true.1 hx f (by simp)
  have hxa : args.all okX = true := List.all_eq_true.2 fun x hm => List.all_eq_true.1 hx x (by simp [hm])
  have hfo := kv_ok hk hxf
  have hao := map_ok hk hxa
  unfold kcall at hr
  split at hr
  · rename_i l hf
    have hfe : f.ev ks.st.tmps = .yld l := by rw [st_ev hk, hf]; rfl
    simp only at hr
    split at hr
    · rename_i vs hv
      obtain ⟨p, hp, hr⟩ := bindO_some hr
      have hok := clL_ok hao hv
      have hnm : (namesL vs).isEmpty = true := by rw [(okVL_names hok).1]; rfl
      refine ⟨_, _, hr, KOut.plain (v := .cv (.bool p.1)) rfl, (hh _ _ _ _ hp).mono fun n hn' => ?_⟩
      simp [execCall, hfe, map_ev hk, clL_pv hv, hnm, (okVL_names hok).2, chk, hn', KOut.out, KV.pv]
    · split at hr
      · cases hr
      · rename_i hne
        split at hr
        · rename_i hsh
          obtain ⟨h1, hr⟩ := chkO_some hr
          obtain ⟨p, hp, hr⟩ := bindO_some hr
          have hne' : (namesL (pvL (args.map (RX.kv ks.tmps)))).isEmpty = false := by rw [dst_names hao]; simpa using hne
          rw [kreach_eq (klook_okF hk), kshut_eq (klook_okF hk), ← st_lookF hk, ← pvL_names hao] at hsh
          rw [closeL_st hk hao] at h1 hp
          unfold noYL at h1
          refine ⟨_, _, hr, ⟨rfl, by simp, by simp, by simp⟩, (hh _ _ _ _ hp).mono fun n hn' => ?_⟩
          simp only [execCall, hfe, map_ev hk, hne', Bool.false_eq_true, if_false, hsh, h1, Bool.and_self, chk, if_true, hn', KOut.out, KV.pv]
          rw [kreach_eq (klook_okF hk), ← st_lookF hk, ← pvL_names hao]
          rfl
        · cases hr
  · rename_i f0 caps hf
    rw [hf] at hfo
    have hcaps : okKL caps := hfo
    have hfe : f.ev ks.st.tmps = .fn f0 (pvL caps) := by rw [st_ev hk, hf]; rfl
    have hxs : okKL (kfnArgs f0 (args.map (RX.kv ks.tmps)) caps) := kfnArgs_ok hao hcaps
    have hvs : fnArgs f0 (args.map (RX.ev ks.st.tmps)) (pvL caps) = pvL (kfnArgs f0 (args.map (RX.kv ks.tmps)) caps) := by rw [kfnArgs_pv, map_ev hk]
    have hall : ∀ sh, callO cfg.b sh (.fn f0 (pvL caps)) (args.map (RX.ev ks.st.tmps)) = callO cfg.b sh (.fn (fnId f0) []) (fnArgs f0 (args.map (RX.ev ks.st.tmps)) (pvL caps)) := fun sh => callO_all
    simp only at hr
    generalize kfnArgs f0 (args.map (RX.kv ks.tmps)) caps = xs at hr hxs hvs
    generalize hg : fnId f0 = g at hr hall
    split at hr
    · rename_i P hP
      exact kcallIo_ok hc hk hq hg hxs hfe hvs hP rfl hr
    rename_i hP
    have hio : ioFlag tab g = false := by rw [← hc.ioF, hP]; rfl
    split at hr
    · rename_i ex p nm
      split at hr
      · rename_i t n err ty cs ht herr hlk
        have hq := chkO_some hr
        clear hr
        obtain ⟨hcs, hr⟩ := hq
        have hcs : cs.length = n := Nat.eq_of_beq_eq_true hcs
        have hlk' : look ks.st.objs nm = some (.cells ty (pvL cs)) := by rw [st_look hk, hlk]; rfl
        have hcs' : (pvL cs).length = n := by rw [← hcs, pvL_length]
        have hero := KV.cl_ok hxs.1 herr
        have hpv : pvL [ex, .iface p (.ref nm 0)] = [err, .iface p (.ref nm 0)] := by simp [pvL, KV.pv, KV.cl_pv herr]
        rw [hpv] at hvs
        obtain ⟨s1, s2⟩ := hc.asOk g p t n ht (look ks.st.objs) nm _ _ hlk' hcs'
        unfold asP at hr
        split at hr
        · refine ⟨_, _, hr, KOut.plain (v := .lit false) trivial, .of fun n => ?_⟩
          simp only [execCall, hfe, hg, hvs, machN_sp, s1]
          rfl
        · rename_i t' x
          split at hr
          · rename_i htt
            subst htt
            have hq := chkO_some hr
            clear hr
            obtain ⟨hx1, hr⟩ := hq
            refine ⟨_, _, hr, KOut.turn (v := .lit true) (o := .whole _ x) trivial (show okV x = true by simpa [okV] using hero), .of fun n => ?_⟩
            simp only [execCall, hfe, hg, hvs, machN_sp, s2 x hx1]
            rfl
          · cases hr
        · cases hr
      · cases hr
    · split at hr
      · rename_i vs hv
        obtain ⟨u, hu, hr⟩ := bindO_some hr
        have hok := clL_ok hxs hv
        rw [clL_pv hv] at hvs
        have hu' : callO cfg.b (cfg.rsh g).1 (.fn g []) (fnArgs f0 (args.map (RX.ev ks.st.tmps)) (pvL caps)) = some u := by rw [hvs]; exact hu
        have hcv : okVL (pvL caps) = true := okVL_of (ys := pvL caps) hok fun y hy => by rw [← hvs]; exact fnArgs_mem' (.inr hy)
        have hav : okVL (args.map (RX.ev ks.st.tmps)) = true := okVL_of hok fun y hy => by rw [← hvs]; exact fnArgs_mem' (.inl hy)
        have hu2 : callO cfg.b (cfg.rsh g).1 (.fn f0 (pvL caps)) (args.map (RX.ev ks.st.tmps)) = some u := by rw [hall]; exact hu'
        obtain ⟨sh', hfix, hr, hsh⟩ := splitO_ok hr
        have hu2 := callO_sh hsh hu2
        obtain ⟨out, h1, h2, h3⟩ := callO_ok (d := d) (dep := dep) (e := e) (hn := hn) hc hfix hav (by simpa [okV] using hcv) hu2 (look ks.st.objs) ks.st.tmps f args hfe rfl
        subst h2
        exact ⟨_, _, hr, h1, h3⟩
      · split at hr
        · cases hr
        · rename_i hne
          split at hr
          · rename_i hsh
            obtain ⟨u, hu, hr⟩ := bindO_some hr
            have hne1 : (knamesL xs).isEmpty = false := by
              cases hq : (knamesL xs).isEmpty with
              | false => rfl
              | true => exact absurd (.inl hq) hne
            have hsp : cfg.spF g = false := by
              cases hq : cfg.spF g with
              | false => rfl
              | true => exact absurd (.inr hq) hne
            have hne' : (namesL (pvL xs)).isEmpty = false := by rw [dst_names hxs]; exact hne1
            rw [kreach_eq (klook_okF hk), kshut_eq (klook_okF hk), ← st_lookF hk, ← pvL_names hxs] at hsh
            rw [closeL_st hk hxs] at hu
            obtain ⟨sh', hfix, hr, hshs⟩ := splitO_ok hr
            have hu := lendO_sh hshs hu
            unfold lendO at hu
            split at hu
            · cases hu
            · rename_i hy
              split at hu
              · rename_i rr obs hL
                obtain ⟨hfr, hu⟩ := chkO_some hu
                rw [hc.L] at hL
                have hev := lim_some hL
                obtain ⟨a1, a2, a3, a4⟩ := convO_put d hfix hu
                refine ⟨_, _, hr, ⟨a3, a4, by simp, by simp⟩, hev.mono fun n hn' => ?_⟩
                simp only [beq_iff_eq] at hfr
                rw [hc.leans] at hfr
                have hy' : hasYL (subL (closed (look ks.st.objs)) (pvL xs)) = false := by simpa using hy
                simp only [execCall, hfe, hg, hvs, machN_sp, machN_isIo, machN_leans, machN_call, hio, hc.spF g hsp, hne', Bool.false_eq_true, if_false, hsh, hy', Bool.not_false, Bool.and_self, chk, if_true, hn', KOut.out, a1, a2, hfr, Option.map_none, List.map_nil]
                rw [kreach_eq (klook_okF hk), ← st_lookF hk, ← pvL_names hxs]
              · cases hu
          · cases hr
  · rename_i v hf
    rw [hf] at hfo
    have hfe : f.ev ks.st.tmps = v := by rw [st_ev hk, hf]; rfl
    split at hr
    · rename_i vs hv
      obtain ⟨u, hu, hr⟩ := bindO_some hr
      obtain ⟨sh', hfix, hr, hsh⟩ := splitO_ok hr
      obtain ⟨out, h1, h2, h3⟩ := callO_ok (d := d) (dep := dep) (e := e) (hn := hn) hc hfix (clL_ok hao hv) hfo (callO_sh hsh hu) (look ks.st.objs) ks.st.tmps f args hfe (by rw [map_ev hk, clL_pv hv])
      subst h2
      exact ⟨_, _, hr, h1, h3⟩
    · cases hr
  · cases hr
end
end Go.Ab


namespace Go.Ab
variable {cfg : KCfg} {tab : FuncId → Option RFn} {ks : KSt} {E R : Type} {h : Handler E} {hn : Nat → Handler E} {r : R} {e : E} {d dep : Nat}
theorem kfresh_ok (hk : ks.Ok) {o : ROper} (hf : kfresh o ks = true) : freshAt o ks.st = true := by
  unfold kfresh at hf
  unfold freshAt
  split
  · rename_i hm
    rw [if_pos hm] at hf
    split
    · rename_i d' hd
      rw [hd] at hf
      simp only [Bool.and_eq_true, Nat.blt_eq, List.isEmpty_iff] at hf
      have : ks.st.objs[d']? = some [] := by
        show (denseO ks.nt ks.objs)[d']? = _
        rw [denseO_get?, if_pos hf.1, hf.2]; rfl
      rw [this]
    · rename_i hd
      rw [hd] at hf
      exact hf
  · rfl
theorem koutOf_ok (hc : CfgOK cfg tab) (hh : HOk h hn) (hk : ks.Ok) {o : ROper} {K : KOut → E → Option R} (hr : koutOf cfg h o ks e K = some r) :
    kquiet ks.objs = true ∧ ∃ out e', K out e' = some r ∧ out.Ok ∧ Evl fun n => outOf (machN cfg.b.sp tab n) (hn n) dep o ks.st e = some (out.out, e') := by
  unfold koutOf at hr
  split at hr
  · rename_i hcond
    obtain ⟨h1, h2, h3⟩ := hcond
    refine ⟨h3, ?_⟩
    have hf := kfresh_ok hk h1
    split at hr
    · rename_i f args hop
      rw [hop] at h2
      obtain ⟨out, e', a1, a2, a3⟩ := kcall_ok (dep := dep) hc hh hk h3 h2 hr
      split at a1
      case isFalse => cases a1
      rename_i hg
      have hgd : goodDst o.dst out.out = true := by
        simp only [goodDst, KOut.out]
        have : (out.new.map KOb.ob).isEmpty = out.new.isEmpty := by cases out.new <;> rfl
        rw [this]; exact hg
      refine ⟨out, e', a1, a2, a3.mono fun n hn' => ?_⟩
      simp only [outOf, chk, hf, if_true, hop, hn', hgd]
    · rename_i hop
      obtain ⟨out, a1, a2, a3⟩ := execK_ok hk h3 h2 hr
      refine ⟨out, e, a1, a2, .of fun n => ?_⟩
      simp only [outOf, chk, hf, if_true]
      cases hq : o.op with
      | call f args => exact (hop f args hq).elim
      | _ => rw [hq] at a3; simp only [a3]
  · cases hr
theorem spPut_same_pv {i : Nat} {v : PV} {b : Bool} (hk : ks.Ok) (hg : spGet ks.tmps i = .cv v) (hv : v = .bool b) : ({ ks with tmps := spPut i (.lit b) ks.tmps } : KSt).st = ks.st ∧ ({ ks with tmps := spPut i (.lit b) ks.tmps } : KSt).Ok := by
  have hlt : i < ks.nt := by
    apply Classical.byContradiction
    intro hlt
    rw [hk.tm.get_ge (by omega)] at hg; cases hg
  refine ⟨?_, hk.tm.put hlt trivial rfl, hk.ob, hk.kp⟩
  unfold KSt.st
  simp only
  rw [dense_put]
  congr 1
  apply List.ext_getElem?
  intro j
  rw [List.getElem?_set, dense_length]
  by_cases hj : i = j
  · subst hj
    simp only [if_true]
    rw [if_pos hlt, dense_get?, if_pos hlt, hg, hv]
    rfl
  · rw [if_neg hj]
theorem kwants_ok (hk : ks.Ok) {ops : List ROper} {o : ROper} {K : Bool → KSt → Option R} (hr : kwants ops o ks K = some r) : ∃ b k', K b k' = some r ∧ k'.Ok ∧ k'.st = ks.st ∧ wants ops o ks.st.tmps = some b ∧
    k'.objs = ks.objs ∧ (∀ x : RX, (x.kv k'.tmps).names = (x.kv ks.tmps).names ∧ (x.kv k'.tmps).hasY = (x.kv ks.tmps).hasY) := by
  unfold kwants at hr
  unfold wants
  split at hr
  · rename_i hg; rw [hg]; exact ⟨_, _, hr, hk, rfl, rfl, rfl, fun _ => ⟨rfl, rfl⟩⟩
  · rename_i j want hg
    rw [hg]
    split at hr
    · rename_i p hp
      split at hr
      · rename_i d' hd
        have hget : ks.st.tmps.getD d' .undef = (spGet ks.tmps d').pv := dense_getD hk.tm d'
        simp only [hp, hd, hget]
        split at hr
        · rename_i b hb; rw [hb]; exact ⟨_, _, hr, hk, rfl, rfl, rfl, fun _ => ⟨rfl, rfl⟩⟩
        · rename_i hb; rw [hb]; exact ⟨_, _, hr, hk, rfl, rfl, rfl, fun _ => ⟨rfl, rfl⟩⟩
        · rename_i v hb
          rw [hb]
          have hsame : ∀ b, ∀ x : RX, (x.kv (spPut d' (.lit b) ks.tmps)).names = (x.kv ks.tmps).names ∧ (x.kv (spPut d' (.lit b) ks.tmps)).hasY = (x.kv ks.tmps).hasY := by
            intro b x
            cases x with
            | c v => exact ⟨rfl, rfl⟩
            | t i =>
              simp only [RX.kv, spGet_put]
              by_cases hi : i = d'
              · subst hi; rw [if_pos rfl, hb]; exact ⟨rfl, rfl⟩
              · rw [if_neg hi]; exact ⟨rfl, rfl⟩
          rcases iteP_some hr with ⟨hv, hr⟩ | ⟨hv, hr⟩
          · obtain ⟨s1, s2⟩ := spPut_same_pv hk hb hv
            subst hv
            exact ⟨_, _, hr, s2, s1, rfl, rfl, hsame true⟩
          · obtain ⟨s1, s2⟩ := spPut_same_pv hk hb hv
            subst hv
            exact ⟨_, _, hr, s2, s1, rfl, rfl, hsame false⟩
        · cases hr
      · cases hr
    · cases hr
theorem kstep_ok (hc : CfgOK cfg tab) (hh : HOk h hn) (hk : ks.Ok) {ops : List ROper} {o : ROper} {K : KSt → E → Option R} (hr : kstep cfg h ops o ks e K = some r) :
    ∃ k' e', K k' e' = some r ∧ k'.Ok ∧ Evl fun n => stepG (machN cfg.b.sp tab n) (hn n) dep ops o ks.st e = some (k'.st, e') := by
  unfold kstep at hr
  obtain ⟨b, k1, hr, hk1, hst, hw, _, _⟩ := kwants_ok hk hr
  cases b with
  | true =>
    simp only at hr
    obtain ⟨hq, out, e', h1, h2, h3⟩ := koutOf_ok (dep := dep) hc hh hk1 hr
    rw [force_eq] at h1
    obtain ⟨s1, s2⟩ := kapply_both hk1 hq o.dst h2
    refine ⟨_, _, h1, s2, h3.mono fun n hn' => ?_⟩
    rw [hst] at hn' s1
    simp only [stepG, hw, stepOp, hn', s1]
  | false =>
    simp only at hr
    rw [force_eq] at hr
    have : (kapply k1 o.dst { v := .sk }).st = apply k1.st o.dst { v := .tup [] } ∧ (kapply k1 o.dst { v := .sk }).Ok := by
      by_cases hq : kquiet k1.objs = true
      · exact kapply_both hk1 hq o.dst (o := { v := .sk }) ⟨trivial, by simp, by simp, by simp⟩
      · exact kapply_sk hk1 o.dst
    refine ⟨_, _, hr, this.2, .of fun n => ?_⟩
    simp only [stepG, hw, this.1, hst]
where
  kapply_sk {ks : KSt} (hk : ks.Ok) (dst : Option Nat) : (kapply ks dst { v := .sk }).st = apply ks.st dst { v := .tup [] } ∧ (kapply ks dst { v := .sk }).Ok := by
    unfold kapply
    rw [apply_eq]
    simp only [kupd, kkill, kfrzs, bupd, bkill, List.isEmpty_nil, if_true, bgone, bturn, kgone]
    have hkt : kturn [] ks = ks := rfl
    have hke : kext none [] ks = ks := rfl
    have hkn : newAt none [] = [] := rfl
    rw [hkt, hke, hkn]
    simp only [bext, newAtO]
    cases dst with
    | none => exact ⟨rfl, hk⟩
    | some d =>
      simp only [kset, bset]
      cases hd : Nat.blt d ks.nt with
      | true =>
        have hd' : d < ks.nt := by simpa [Nat.blt_eq] using hd
        refine ⟨?_, hk.tm.set (v := .sk) hd' trivial, hk.ob, hk.kp⟩
        unfold KSt.st
        simp only
        rw [dense_set]
        rfl
      | false =>
        have hd' : ¬ d < ks.nt := by intro h; rw [show Nat.blt d ks.nt = true by simpa [Nat.blt_eq] using h] at hd; cases hd
        refine ⟨?_, hk⟩
        unfold KSt.st
        simp only
        rw [List.set_eq_of_length_le (by rw [dense_length]; omega)]
        rfl
theorem kruns_ok (hc : CfgOK cfg tab) (hh : HOk h hn) {ops : List ROper} : ∀ (l : List ROper) {ks : KSt} {e : E} {K : KSt → E → Option R}, ks.Ok → kruns cfg h ops l ks e K = some r →
    ∃ k' e', K k' e' = some r ∧ k'.Ok ∧ Evl fun n => runOps (machN cfg.b.sp tab n) (hn n) dep ops l ks.st e = some (k'.st, e') := by
  intro l
  induction l with
  | nil => intro ks e K hk hr; exact ⟨ks, e, hr, hk, .of fun n => rfl⟩
  | cons o rest ih =>
    intro ks e K hk hr
    simp only [kruns] at hr
    obtain ⟨k1, e1, hr, hk1, h1⟩ := kstep_ok (dep := dep) hc hh hk hr
    obtain ⟨k2, e2, hr, hk2, h2⟩ := ih hk1 hr
    exact ⟨k2, e2, hr, hk2, h1.mono2 h2 fun n a b => by simp only [runOps, a, b]⟩
theorem kstays_ok (o : KOut) : kstays o = outStays o.out := by
  unfold kstays outStays KOut.out
  cases o.upd <;> cases o.ups <;> rfl
theorem kturns_ok (o : KOut) : kturns o = outTurns o.out := by
  unfold kturns outTurns KOut.out
  cases o.ups <;> rfl
theorem kupdNames_ok (o : KOut) : kupdNames o = updNames o.out := by
  unfold kupdNames updNames KOut.out
  cases o.upd with
  | none => rfl
  | some p => rfl
theorem spAt_pv (ks : KSt) (s : Nat) : ks.st.tmps.getD s .undef = (spAt ks s).pv := by
  unfold spAt
  show (dense ks.nt ks.tmps).getD s .undef = _
  unfold dense
  rw [List.getD_eq_getElem?_getD, List.getElem?_map]
  cases hb : Nat.blt s ks.nt with
  | true =>
    have : s < ks.nt := Nat.blt_eq.mp hb
    rw [List.getElem?_range this]; rfl
  | false =>
    have : ¬ s < ks.nt := fun h => by rw [Nat.blt_eq.mpr h] at hb; cases hb
    rw [List.getElem?_eq_none (by simpa using this)]; rfl
theorem spAt_names (hk : ks.Ok) (s : Nat) : (ks.st.tmps.getD s .undef).names = (spAt ks s).names := by
  rw [spAt_pv]
  refine KV.pv_names ?_
  unfold spAt
  cases Nat.blt s ks.nt with
  | true => exact hk.tm.get_ok s
  | false => trivial
theorem kinfo_ok (hk : ks.Ok) {ops : List ROper} {i : Nat} {o : ROper} (hx : o.op.xs.all okX = true) {out : KOut} (ho : out.Ok) : kinfo ops i o ks out = infoOf ops i o ks.st out.out := by
  unfold kinfo infoOf
  have hok := map_ok hk hx
  simp only
  have hn : out.out.new.flatMap Ob.names = out.new.flatMap KOb.names := by
    show (out.new.map KOb.ob).flatMap Ob.names = _
    rw [List.flatMap_map]
    have : ∀ l : List KOb, (∀ x ∈ l, x.ok) → l.flatMap (fun a => a.ob.names) = l.flatMap KOb.names := by
      intro l
      induction l with
      | nil => intro _; rfl
      | cons x l ih =>
        intro h
        rw [List.flatMap_cons, List.flatMap_cons, KOb.ob_names (h x List.mem_cons_self), ih fun y hy => h y (List.mem_cons_of_mem _ hy)]
    exact this _ ho.new
  have hv : out.out.v.names = out.v.names := KV.pv_names ho.v
  simp only [← spAt_names hk]
  rw [map_ev hk, kreach_eq (klook_okF hk), ← st_lookF hk, ← pvL_names hok, ← pvL_hasY hok, kstays_ok, kturns_ok, kupdNames_ok, hn, hv]
  rfl
theorem koutOf_x {o : ROper} {K : KOut → E → Option R} (hr : koutOf cfg h o ks e K = some r) : o.op.xs.all okX = true := by
  unfold koutOf at hr
  split at hr
  · rename_i hcond; exact hcond.2.1
  · cases hr
theorem kstepD_ok (hc : CfgOK cfg tab) (hh : HOk h hn) (hk : ks.Ok) {ops : List ROper} {i : Nat} {o : ROper} {K : KSt → E → Info → Option R} (hr : kstepD cfg h ops i o ks e K = some r) :
    ∃ k' e' inf, K k' e' inf = some r ∧ k'.Ok ∧ Evl fun n => stepD (machN cfg.b.sp tab n) (hn n) dep ops i o ks.st e = some (k'.st, e', inf) := by
  unfold kstepD at hr
  obtain ⟨b, k1, hr, hk1, hst, hw, _, _⟩ := kwants_ok hk hr
  cases b with
  | true =>
    simp only at hr
    have hxs := koutOf_x hr
    obtain ⟨hq, out, e', h1, h2, h3⟩ := koutOf_ok (dep := dep) hc hh hk1 hr
    rw [force_eq] at h1
    obtain ⟨s1, s2⟩ := kapply_both hk1 hq o.dst h2
    refine ⟨_, _, _, h1, s2, h3.mono fun n hn' => ?_⟩
    rw [hst] at hn' s1
    simp only [stepD, outD, hw, hn', s1]
    rw [kinfo_ok hk1 hxs h2, hst]
  | false =>
    simp only at hr
    rw [force_eq] at hr
    have := kstep_ok.kapply_sk hk1 o.dst
    refine ⟨_, _, _, hr, this.2, .of fun n => ?_⟩
    simp only [stepD, outD, hw, this.1, hst, ← spAt_names hk1]
theorem krunsD_ok (hc : CfgOK cfg tab) (hh : HOk h hn) {ops : List ROper} : ∀ (l : List (Nat × Nat)) (infos : List Info) {ks : KSt} {e : E} {K : KSt → E → Option R}, ks.Ok → krunsD cfg h ops l infos ks e K = some r →
    ∃ k' e', K k' e' = some r ∧ k'.Ok ∧ Evl fun n => runD (machN cfg.b.sp tab n) (hn n) dep ops l infos ks.st e = some (k'.st, e') := by
  intro l
  induction l with
  | nil => intro infos ks e K hk hr; exact ⟨ks, e, hr, hk, .of fun n => rfl⟩
  | cons p rest ih =>
    obtain ⟨i, bef⟩ := p
    intro infos ks e K hk hr
    simp only [krunsD] at hr
    split at hr
    · rename_i o ho
      obtain ⟨k1, e1, inf, hr, hk1, h1⟩ := kstepD_ok (dep := dep) hc hh hk hr
      split at hr
      · rename_i hall
        obtain ⟨k2, e2, hr, hk2, h2⟩ := ih _ hk1 hr
        exact ⟨k2, e2, hr, hk2, h1.mono2 h2 fun n a b => by simp only [runD, ho, a, chk, hall, if_true, b]⟩
      · cases hr
    · cases hr
end Go.Ab


namespace Go.Ab
variable {ks : KSt}
theorem denseO_getD {nt : Nat} {l : SpO} (h : SoWf nt l) (d : Nat) : (denseO nt l).getD d [] = (soGet l d).map KOb.ob := by
  rw [List.getD_eq_getElem?_getD, denseO_get?]
  split
  · rfl
  · rw [h.get_ge (by omega)]; rfl
theorem kclean_st (h : ks.Ok) (ds : List Nat) : (kclean ds ks).st = clean ds ks.st ∧ (kclean ds ks).Ok ∧ (kclean ds ks).nt = ks.nt := by
  have hall : (ds.all fun d => (ks.st.objs.getD d []).isEmpty) = ds.all fun d => (soGet ks.objs d).isEmpty := by
    congr 1
    funext d
    show ((denseO ks.nt ks.objs).getD d []).isEmpty = _
    rw [denseO_getD h.ob]
    cases soGet ks.objs d <;> rfl
  unfold kclean clean
  rw [hall]
  split
  · exact ⟨rfl, h, rfl⟩
  · have h1 := koff_ok (fun m => ds.contains m.1) h
    have h2 := koff_st (fun m => ds.contains m.1) h
    refine ⟨?_, ⟨h1.tm, h1.ob.sub (soKeep_sub _ _), h1.kp⟩, rfl⟩
    have e : subOff (fun m => ds.contains m.1) = fun m => if ds.contains m.1 = true then some none else none := rfl
    rw [e] at h2
    simp only
    rw [← h2]
    unfold KSt.st
    simp only
    congr 1
    refine denseO_ext (by simp [denseO_length]) fun i hi => ?_
    rw [List.getElem?_map, List.getElem?_zipIdx, denseO_get?, if_pos hi, soGet_keep]
    simp only [Option.map_some, Nat.zero_add]
    cases ds.contains i <;> simp
theorem clean_congr {ds ds' : List Nat} (h : ∀ d, d ∈ ds ↔ d ∈ ds') (st : St) : clean ds st = clean ds' st := by
  have h1 : ∀ p : Nat → Bool, ds.all p = ds'.all p := fun p => by
    rw [Bool.eq_iff_iff, List.all_eq_true, List.all_eq_true]
    exact ⟨fun a x hx => a x ((h x).2 hx), fun a x hx => a x ((h x).1 hx)⟩
  have h2 : ∀ i, ds.contains i = ds'.contains i := fun i => by
    rw [Bool.eq_iff_iff, List.contains_iff_mem, List.contains_iff_mem]
    exact h i
  unfold clean
  simp only [h1, h2]
theorem namesL_flat {nm : Nm} {xs : List PV} : nm ∈ namesL xs ↔ ∃ x ∈ xs, nm ∈ x.names := by
  induction xs with
  | nil => simp [namesL]
  | cons x xs ih => simp [namesL, ih]
theorem keep_names (h : ks.Ok) (nm : Nm) : nm ∈ namesL ks.st.keep ↔ nm ∈ ks.keep.flatMap spNames := by
  rw [namesL_flat]
  show (∃ x ∈ ks.keep.flatMap (dense ks.nt), nm ∈ x.names) ↔ _
  simp only [List.mem_flatMap]
  constructor
  · rintro ⟨x, ⟨sp, hsp, hx⟩, hn⟩
    exact ⟨sp, hsp, (dense_names (h.kp sp hsp) nm).1 (namesL_flat.2 ⟨x, hx, hn⟩)⟩
  · rintro ⟨sp, hsp, hn⟩
    obtain ⟨x, hx, hn⟩ := namesL_flat.1 ((dense_names (h.kp sp hsp) nm).2 hn)
    exact ⟨x, ⟨sp, hsp, hx⟩, hn⟩
theorem kunnamed_iff (h : ks.Ok) (d : Nat) : d ∈ unnamed ks.st ↔ d ∈ kunnamed ks := by
  have hR : ∀ p : Nm → Bool, (namesL ks.st.tmps ++ namesL ks.st.keep ++ ks.st.objs.flatMap fun l => l.flatMap Ob.names).all p = (spNames ks.tmps ++ ks.keep.flatMap spNames ++ soNames ks.objs).all p := by
    intro p
    have e1 : ∀ nm, nm ∈ namesL ks.st.tmps ↔ nm ∈ spNames ks.tmps := fun nm => dense_names h.tm nm
    have e2 := keep_names h
    have e3 : ∀ nm, nm ∈ (ks.st.objs.flatMap fun l => l.flatMap Ob.names) ↔ nm ∈ soNames ks.objs := fun nm => denseO_names h.ob nm
    rw [Bool.eq_iff_iff, List.all_eq_true, List.all_eq_true]
    refine ⟨fun a x hx => a x ?_, fun a x hx => a x ?_⟩
    · simp only [List.mem_append] at hx ⊢
      rw [e1, e2, e3]; exact hx
    · simp only [List.mem_append] at hx ⊢
      rw [← e1, ← e2, ← e3]; exact hx
  unfold unnamed kunnamed
  simp only [List.mem_filter, List.mem_range, List.mem_map, hR, Bool.and_eq_true]
  have hget : ks.st.objs.getD d [] = (soGet ks.objs d).map KOb.ob := denseO_getD h.ob d
  rw [hget]
  constructor
  · rintro ⟨_, h1, h2⟩
    have hne : soGet ks.objs d ≠ [] := by intro e; rw [e] at h1; simp at h1
    refine ⟨_, ⟨soGet_mem hne, ?_, h2⟩, rfl⟩
    simpa using hne
  · rintro ⟨p, ⟨hp, h1, h2⟩, rfl⟩
    have := h.ob.get_mem hp
    have hlt := h.ob.lt p hp
    refine ⟨?_, ?_, h2⟩
    · show p.1 < (denseO ks.nt ks.objs).length
      rw [denseO_length]; exact hlt
    · rw [this]; simpa using h1
theorem kkeep_st (h : ks.Ok) (p : Nat → Bool) : ({ ks with tmps := spKeep p ks.tmps } : KSt).st = { ks.st with tmps := ks.st.tmps.zipIdx.map fun (v, i) => if p i then v else .undef } ∧ ({ ks with tmps := spKeep p ks.tmps } : KSt).Ok := by
  refine ⟨?_, h.tm.sub (spKeep_sub _ _), h.ob, h.kp⟩
  unfold KSt.st
  simp only
  congr 1
  refine dense_ext (by simp [dense_length]) fun i hi => ?_
  rw [List.getElem?_map, List.getElem?_zipIdx, dense_get?, if_pos hi, spGet_keep]
  simp only [Option.map_some, Nat.zero_add]
  cases p i <;> rfl
theorem ktidy_st (h : ks.Ok) (lv : Option (List Nat)) : (ktidy lv ks).st = tidy lv ks.st ∧ (ktidy lv ks).Ok := by
  cases lv with
  | none => exact ⟨rfl, h⟩
  | some l =>
    unfold ktidy tidy keepOnly
    simp only
    obtain ⟨h1, h2⟩ := kkeep_st h (fun i => l.contains i)
    obtain ⟨h3, h4, _⟩ := kclean_st h2 (kunnamed { ks with tmps := spKeep (fun i => l.contains i) ks.tmps })
    refine ⟨?_, h4⟩
    rw [h3, ← h1]
    exact clean_congr (fun d => (kunnamed_iff h2 d).symm) _
theorem leaves_self_cv {v : PV} : leaves (.cv v) (.cv v) = [v] := rfl
theorem noUndef_mem {l : Sp} (h : noUndef (leavesSp l l) = true) {i : Nat} {v : PV} (hm : (i, KV.cv v) ∈ l) : isUndef v = false := by
  unfold noUndef at h
  induction l with
  | nil => cases hm
  | cons p l ih =>
    obtain ⟨k, u⟩ := p
    simp only [leavesSp, List.all_append, Bool.and_eq_true] at h
    rcases List.mem_cons.1 hm with e | hm
    · cases e
      have := h.1
      rw [leaves_self_cv] at this
      simpa using this
    · exact ih h.2 hm
theorem undefs_iff {k0 : KSt} (h0 : k0.Ok) (hu : noUndef (leavesSp k0.tmps k0.tmps) = true) {i : Nat} (hi : i < k0.nt) : (undefs k0.st).contains i = !spHas k0.tmps i := by
  have hmem : i ∈ undefs k0.st ↔ isUndef (spGet k0.tmps i).pv = true := by
    unfold undefs
    simp only [List.mem_map, List.mem_filter]
    constructor
    · rintro ⟨⟨v, j⟩, ⟨hv, hq⟩, rfl⟩
      have := List.mem_zipIdx hv
      rw [List.mem_zipIdx_iff_getElem?] at hv
      simp only at hv
      have e : (dense k0.nt k0.tmps)[j]? = some v := hv
      rw [dense_get?, if_pos hi] at e
      cases e
      exact hq
    · intro hq
      refine ⟨((spGet k0.tmps i).pv, i), ⟨?_, hq⟩, rfl⟩
      rw [List.mem_zipIdx_iff_getElem?]
      show (dense k0.nt k0.tmps)[i]? = _
      rw [dense_get?, if_pos hi]
  rw [Bool.eq_iff_iff, List.contains_iff_mem, hmem]
  cases hh : spHas k0.tmps i with
  | false =>
    have : spGet k0.tmps i = .un := by
      apply Classical.byContradiction
      intro hne
      rw [(h0.tm.has_iff i).2 hne] at hh; cases hh
    simp [this, KV.pv, isUndef]
  | true =>
    have hne := (h0.tm.has_iff i).1 hh
    have hm := spGet_mem hne
    simp only [Bool.not_true, Bool.false_eq_true, iff_false]
    intro hq
    cases hg : spGet k0.tmps i with
    | un => exact hne hg
    | cv v =>
      rw [hg] at hm hq
      have := noUndef_mem hu hm
      simp only [KV.pv] at hq
      rw [this] at hq; cases hq
    | _ => rw [hg] at hq; simp [KV.pv, isUndef] at hq
theorem kdrop_st {k0 : KSt} (h0 : k0.Ok) (hu : noUndef (leavesSp k0.tmps k0.tmps) = true) (h : ks.Ok) (hnt : ks.nt = k0.nt) : (kdrop k0 ks).st = drop (undefs k0.st) ks.st ∧ (kdrop k0 ks).Ok ∧ (kdrop k0 ks).nt = ks.nt := by
  unfold kdrop drop
  simp only
  obtain ⟨h1, h2⟩ := kkeep_st h (spHas k0.tmps)
  obtain ⟨h3, h4, h5⟩ := kclean_st h2 (kunnamed { ks with tmps := spKeep (spHas k0.tmps) ks.tmps })
  refine ⟨?_, h4, h5⟩
  have h6 : undefAt (undefs k0.st) ks.st = ({ ks with tmps := spKeep (spHas k0.tmps) ks.tmps } : KSt).st := by
    rw [h1]
    unfold undefAt
    congr 1
    apply List.map_congr_left
    rintro ⟨v, i⟩ hm
    have hi : i < k0.nt := by
      rw [List.mem_zipIdx_iff_getElem?] at hm
      have e : (dense ks.nt ks.tmps)[i]? = some v := hm
      rw [dense_get?] at e
      split at e
      · omega
      · cases e
    simp only [undefs_iff h0 hu hi]
    cases spHas k0.tmps i <;> rfl
  rw [h3, h6]
  exact clean_congr (fun d => (kunnamed_iff h2 d).symm) _
theorem kempty_ok (h : ks.Ok) (t : Nat) : emptyAt ks.st t = kempty ks t := by
  unfold emptyAt kempty
  show (match (denseO ks.nt ks.objs)[t]? with | some [] => true | _ => false) = _
  rw [denseO_get?]
  by_cases ht : t < ks.nt
  · rw [if_pos ht]
    have : Nat.blt t ks.nt = true := by simpa [Nat.blt_eq] using ht
    rw [this]
    cases soGet ks.objs t <;> rfl
  · rw [if_neg ht]
    have : Nat.blt t ks.nt = false := by
      cases hb : Nat.blt t ks.nt with
      | false => rfl
      | true => exact absurd (by simpa [Nat.blt_eq] using hb) ht
    rw [this]; rfl
theorem kempty_lt {t : Nat} (h : kempty ks t = true) : t < ks.nt := by
  unfold kempty at h
  simp only [Bool.and_eq_true, Nat.blt_eq] at h
  exact h.1
theorem krehomeTo_st (h : ks.Ok) (t : Nat) (nm : Nm) : (krehomeTo t ks nm).st = (if nm ≠ (t, 0) ∧ emptyAt ks.st t = true then
      match look ks.st.objs nm with
      | some ob =>
        let f : Nm → Nm := fun m => if m = nm then (t, 0) else m
        let objs := ks.st.objs.map (·.map (Ob.ren f))
        { tmps := renL f ks.st.tmps, objs := (putOb objs nm dead).set t [ob.ren f], keep := renL f ks.st.keep }
      | none => ks.st
    else ks.st) ∧ (krehomeTo t ks nm).Ok ∧ (krehomeTo t ks nm).nt = ks.nt := by
  unfold krehomeTo
  rw [kempty_ok h]
  by_cases hc : nm ≠ (t, 0) ∧ kempty ks t = true
  · rw [if_pos hc, if_pos hc, st_look h]
    cases hl : klook ks.objs nm with
    | none => exact ⟨rfl, h, rfl⟩
    | some ob =>
      simp only [Option.map_some]
      have hoo := klook_ok h.ob hl
      have ht := kempty_lt hc.2
      let f : Nm → Nm := fun m => if m = nm then (t, 0) else m
      have hm : SoWf ks.nt (soMap (KOb.ren f) ks.objs) := h.ob.map fun x hx => KOb.ren_ok f hx
      refine ⟨?_, ⟨h.tm.map fun x hx => KV.ren_ok f hx, (hm.kput nm (o := kdead) rfl).put ht fun o ho => by
        simp only [List.mem_singleton] at ho; subst ho; exact KOb.ren_ok f hoo, fun sp hsp => ?_⟩, by trivial⟩
      · unfold KSt.st
        simp only
        rw [dense_ren h.tm, denseO_put, denseO_kput hm, denseO_map h.ob (fun o ho => KOb.ren_ob f ho),
          flat_map (g := renL f) rfl (renL_append f) fun sp hsp => dense_ren (h.kp sp hsp) f]
        have hren := KOb.ren_ob (fun m => if m = nm then (t, 0) else m) hoo
        simp only [List.map_cons, List.map_nil, hren]
        rfl
      · obtain ⟨q, hq, rfl⟩ := List.mem_map.1 hsp
        exact (h.kp q hq).map fun x hx => KV.ren_ok f hx
  · rw [if_neg hc, if_neg hc]; exact ⟨rfl, h, rfl⟩
theorem krehome_st (h : ks.Ok) (t : Nat) : (krehome1 t ks).st = rehome1 t ks.st ∧ (krehome1 t ks).Ok ∧ (krehome1 t ks).nt = ks.nt := by
  have hget : ks.st.tmps.getD t .undef = (spGet ks.tmps t).pv := dense_getD h.tm t
  have hokt := h.tm.get_ok t
  unfold krehome1 rehome1
  rw [hget]
  cases hg : spGet ks.tmps t with
  | arr nm k o n => exact krehomeTo_st h t nm
  | wit nm => exact krehomeTo_st h t nm
  | cv v =>
    rw [hg] at hokt
    have hv : okV v = true := hokt
    simp only [KV.pv]
    cases v <;> first | (simp [okV] at hv; done) | exact ⟨rfl, h, trivial⟩ 
  | _ => exact ⟨rfl, h, rfl⟩
theorem st_objs_getD (h : ks.Ok) (d : Nat) : ks.st.objs.getD d [] = (soGet ks.objs d).map KOb.ob := denseO_getD h.ob d
theorem kgrown_st (h : ks.Ok) {nm : Nm} {ty : Nat} {cs : List KV} (hl : klook ks.objs nm = some (.cells ty cs)) (i k : Nat) : (kgrown nm ty cs i k ks).Ok ∧ (kgrown nm ty cs i k ks).nt = ks.nt ∧ (kgrown nm ty cs i k ks).st = { ks.st with objs := ks.st.objs.set nm.1 ((ks.st.objs.getD nm.1 []).set nm.2 (.cells ty ((pvL cs).set i (.arr (nm.1, (ks.st.objs.getD nm.1 []).length) k 0 0))) ++ [.arr k 0 []]) } := by
  have hlt := klook_lt h.ob hl
  have hcs : okKL cs := klook_ok h.ob hl
  have hset : okKL (cs.set i (.arr (nm.1, (soGet ks.objs nm.1).length) k 0 0)) := okKL_mem.2 fun x hx => by
    rcases List.mem_or_eq_of_mem_set hx with hx | hx
    · exact okKL_mem.1 hcs x hx
    · subst hx; trivial
  unfold kgrown
  refine ⟨⟨h.tm, h.ob.put hlt fun o ho => ?_, h.kp⟩, rfl, ?_⟩
  · rcases List.mem_append.1 ho with ho | ho
    · rcases List.mem_or_eq_of_mem_set ho with ho | ho
      · exact h.ob.get_ok ho
      · subst ho; exact hset
    · simp only [List.mem_singleton] at ho; subst ho; rfl
  · rw [st_objs_getD h]
    unfold KSt.st
    simp only
    rw [denseO_put, List.map_append, List.map_set]
    simp only [List.map_cons, List.map_nil, KOb.ob, pvL_map, List.map_set, KV.pv, List.length_map]
theorem kgrowMove_st (h : ks.Ok) (nm m : Nm) (hlt : nm.1 < ks.nt) : (kgrowMove nm m ks).Ok ∧ (kgrowMove nm m ks).nt = ks.nt ∧ (kgrowMove nm m ks).st = (if m.1 ≠ nm.1 then
      match look ks.st.objs m with
      | some ob =>
        let f : Nm → Nm := fun x => if x = m then (nm.1, (ks.st.objs.getD nm.1 []).length) else x
        let objs := putOb (ks.st.objs.map (·.map (Ob.ren f))) m dead
        { tmps := renL f ks.st.tmps, objs := objs.set nm.1 (objs.getD nm.1 [] ++ [ob.ren f]), keep := renL f ks.st.keep }
      | none => ks.st
    else ks.st) := by
  unfold kgrowMove
  by_cases hm : m.1 ≠ nm.1
  · rw [if_pos hm, if_pos hm, st_look h]
    cases hl : klook ks.objs m with
    | none => exact ⟨h, rfl, rfl⟩
    | some ob =>
      simp only [Option.map_some]
      have hoo := klook_ok h.ob hl
      rw [st_objs_getD h, List.length_map]
      generalize hf : (fun x : Nm => if x = m then (nm.1, (soGet ks.objs nm.1).length) else x) = f
      have hmp : SoWf ks.nt (soMap (KOb.ren f) ks.objs) := h.ob.map fun x hx => KOb.ren_ok f hx
      have hkp : SoWf ks.nt (kput (soMap (KOb.ren f) ks.objs) m kdead) := hmp.kput m (o := kdead) rfl
      refine ⟨⟨h.tm.map fun x hx => KV.ren_ok f hx, hkp.put hlt fun o ho => ?_, fun sp hsp => ?_⟩, by trivial, ?_⟩
      · rcases List.mem_append.1 ho with ho | ho
        · exact hkp.get_ok ho
        · simp only [List.mem_singleton] at ho; subst ho; exact KOb.ren_ok f hoo
      · obtain ⟨q, hq, rfl⟩ := List.mem_map.1 hsp
        exact (h.kp q hq).map fun x hx => KV.ren_ok f hx
      · have hobj : denseO ks.nt (kput (soMap (KOb.ren f) ks.objs) m kdead) = putOb (ks.st.objs.map (·.map (Ob.ren f))) m dead := by
          rw [denseO_kput hmp, denseO_map h.ob (fun o ho => KOb.ren_ob f ho)]
          rfl
        rw [← hobj, denseO_getD hkp]
        unfold KSt.st
        simp only
        rw [dense_ren h.tm, denseO_put, flat_map (g := renL f) rfl (renL_append f) fun sp hsp => dense_ren (h.kp sp hsp) f]
        have hren := KOb.ren_ob f hoo
        simp only [List.map_append, List.map_cons, List.map_nil, hren]
  · rw [if_neg hm, if_neg hm]; exact ⟨h, rfl, rfl⟩
theorem kgrowCell_st {R : Type} {r : R} (h : ks.Ok) {nm : Nm} {ty : Nat} {cs : List KV} (hl : klook ks.objs nm = some (.cells ty cs)) {i k : Nat} {K : KSt → Option R} (hr : kgrowCell nm ty cs i k ks K = some r) : ∃ k', K k' = some r ∧ k'.Ok ∧ k'.nt = ks.nt ∧ k'.st = growCell nm ty (pvL cs) i k ks.st := by
  have hlt := klook_lt h.ob hl
  have hcs : okKL cs := klook_ok h.ob hl
  unfold kgrowCell at hr
  unfold growCell
  simp only [pvL_get?]
  cases hc : cs[i]? with
  | none => rw [hc] at hr; exact ⟨_, hr, h, rfl, rfl⟩
  | some x =>
    rw [hc] at hr
    cases x with
    | nils =>
      obtain ⟨a, b, c⟩ := kgrown_st h hl i k
      exact ⟨_, hr, a, b, c⟩
    | arr m _ _ _ =>
      obtain ⟨a, b, c⟩ := kgrowMove_st h nm m hlt
      exact ⟨_, hr, a, b, c⟩
    | wit m =>
      obtain ⟨a, b, c⟩ := kgrowMove_st h nm m hlt
      exact ⟨_, hr, a, b, c⟩
    | cv v =>
      have hv : okV v = true := okKL_mem.1 hcs _ (List.mem_of_getElem? hc)
      simp only [Option.map_some, KV.pv]
      unfold nilO at hr
      obtain ⟨a, b, c⟩ := kgrown_st h hl i k
      cases v <;> first | (simp [okV] at hv; done) | exact ⟨_, hr, a, b, c⟩ | (cases hr; done)
    | _ => exact ⟨_, hr, h, rfl, rfl⟩
theorem kgrowC_st {R : Type} {r : R} (h : ks.Ok) {x off k : Nat} {K : KSt → Option R} (hr : kgrowC x off k ks K = some r) : ∃ k', K k' = some r ∧ k'.Ok ∧ k'.nt = ks.nt ∧ k'.st = growC x off k ks.st := by
  have hget : ks.st.tmps.getD x .undef = (spGet ks.tmps x).pv := dense_getD h.tm x
  have hokt := h.tm.get_ok x
  unfold kgrowC at hr
  unfold growC
  rw [hget]
  cases hg : spGet ks.tmps x with
  | ref nm o =>
    rw [hg] at hr
    simp only [KV.pv] at hr ⊢
    rw [st_look h]
    cases hl : klook ks.objs nm with
    | none => rw [hl] at hr; exact ⟨_, hr, h, rfl, rfl⟩
    | some ob =>
      rw [hl] at hr
      cases ob with
      | cells ty cs => exact kgrowCell_st h hl hr
      | whole ty v =>
        have hv : okV v = true := klook_ok h.ob hl
        have hvl : okVL (cellsP v) = true := okV_cells hv
        simp only [Option.map_some, KOb.ob] at hr ⊢
        unfold chkO at hr
        cases hn : notNilAt v (o + off) with
        | false => rw [hn] at hr; cases hr
        | true =>
          rw [hn] at hr
          refine ⟨_, hr, h, rfl, ?_⟩
          unfold notNilAt at hn
          unfold growCell
          show ks.st = match (cellsP v)[o + off]? with | some .nilS => _ | some (.arr m _ _ _) => _ | _ => _
          have e : cellsP v = v.cells := rfl
          rw [e] at hvl ⊢
          cases hc : v.cells[o + off]? with
          | none => rfl
          | some y =>
            rw [hc] at hn
            have hy := okVL_get hvl hc
            cases y <;> first | (simp at hn; done) | (simp [okV] at hy; done) | rfl
      | _ => exact ⟨_, hr, h, rfl, rfl⟩
  | cv v =>
    rw [hg] at hr hokt
    have hv : okV v = true := hokt
    simp only [KV.pv]
    cases v <;> first | (simp [okV] at hv; done) | exact ⟨_, hr, h, rfl, rfl⟩
  | _ => rw [hg] at hr; exact ⟨_, hr, h, rfl, rfl⟩
theorem kgrow_st {R : Type} {r : R} (h : ks.Ok) {t k : Nat} {K : KSt → Option R} (hr : kgrow1 t k ks K = some r) : ∃ k', K k' = some r ∧ k'.Ok ∧ k'.nt = ks.nt ∧ k'.st = grow1 t k ks.st := by
  have hget : ks.st.tmps.getD t .undef = (spGet ks.tmps t).pv := dense_getD h.tm t
  unfold kgrow1 at hr
  unfold grow1
  by_cases hb : gcBase ≤ t
  · rw [if_pos hb] at hr ⊢
    exact kgrowC_st h hr
  rw [if_neg hb] at hr ⊢
  rw [hget]
  cases hg : spGet ks.tmps t with
  | nils =>
    rw [hg] at hr
    simp only [KV.pv]
    rw [kempty_ok h]
    by_cases hc : kempty ks t = true
    · rw [if_pos hc] at hr
      rw [if_pos hc]
      have ht := kempty_lt hc
      refine ⟨_, hr, ⟨h.tm.put ht trivial rfl, h.ob.put ht fun o ho => ?_, h.kp⟩, rfl, ?_⟩
      · simp only [List.mem_singleton] at ho; subst ho; rfl
      · unfold KSt.st
        simp only
        rw [dense_put, denseO_put]
        rfl
    · rw [if_neg hc] at hr
      rw [if_neg hc]
      exact ⟨_, hr, h, rfl, rfl⟩
  | cv v =>
    rw [hg] at hr
    simp only at hr
    unfold notNil at hr
    simp only [KV.pv]
    cases v <;> first | exact ⟨_, hr, h, rfl, rfl⟩ | cases hr
  | _ => rw [hg] at hr; exact ⟨_, hr, h, rfl, rfl⟩
theorem kgrows_st {R : Type} {r : R} : ∀ (l : List (Nat × Nat)) {ks : KSt} {K : KSt → Option R}, ks.Ok → kgrows l ks K = some r → ∃ k', K k' = some r ∧ k'.Ok ∧ k'.nt = ks.nt ∧ k'.st = l.foldl (fun st (p : Nat × Nat) => grow1 p.1 p.2 st) ks.st := by
  intro l
  induction l with
  | nil => intro ks K h hr; exact ⟨ks, hr, h, rfl, rfl⟩
  | cons p l ih =>
    obtain ⟨t, k⟩ := p
    intro ks K h hr
    simp only [kgrows] at hr
    obtain ⟨k1, hr, h1, n1, s1⟩ := kgrow_st h hr
    obtain ⟨k2, hr, h2, n2, s2⟩ := ih h1 hr
    exact ⟨k2, hr, h2, n2.trans n1, by rw [s2, s1]; rfl⟩
theorem krehomes_st : ∀ (l : List Nat) {ks : KSt}, ks.Ok → (l.foldl (fun ks t => krehome1 t ks) ks).Ok ∧ (l.foldl (fun ks t => krehome1 t ks) ks).nt = ks.nt ∧ (l.foldl (fun ks t => krehome1 t ks) ks).st = l.foldl (fun st t => rehome1 t st) ks.st := by
  intro l
  induction l with
  | nil => intro ks h; exact ⟨h, rfl, rfl⟩
  | cons t l ih =>
    intro ks h
    simp only [List.foldl_cons]
    obtain ⟨a, b, c⟩ := krehome_st h t
    obtain ⟨d, e, f⟩ := ih b
    exact ⟨d, e.trans c, by rw [f, a]⟩
theorem undefAt_self (st : St) : undefAt (undefs st) st = st := by
  obtain ⟨t, o, k⟩ := st
  unfold undefAt
  congr 1
  apply List.ext_getElem?
  intro i
  rw [List.getElem?_map, List.getElem?_zipIdx]
  cases hg : t[i]? with
  | none => rfl
  | some v =>
    simp only [Option.map_some, Nat.zero_add, Option.some.injEq]
    split
    · rename_i hc
      rw [List.contains_iff_mem] at hc
      unfold undefs at hc
      simp only [List.mem_map, List.mem_filter] at hc
      obtain ⟨⟨u, j⟩, ⟨hm, hu⟩, he⟩ := hc
      rw [List.mem_zipIdx_iff_getElem?] at hm
      simp only at he hm hu
      subst he
      rw [hg] at hm
      cases hm
      cases v <;> simp_all [isUndef]
    · rfl
theorem knorm_st {R : Type} {r : R} (h : ks.Ok) {asg : List Nat} {grow : List (Nat × Nat)} {K : KSt → Option R} (hr : knorm asg grow ks K = some r) : ∃ k', K k' = some r ∧ k'.Ok ∧ k'.nt = ks.nt ∧ k'.st = norm asg grow ks.st := by
  unfold knorm at hr
  obtain ⟨a, b, c⟩ := krehomes_st asg h
  obtain ⟨k', hr, h1, n1, s1⟩ := kgrows_st grow a hr
  obtain ⟨d1, d2, d3⟩ := kclean_st h1 (kunnamed k')
  refine ⟨_, hr, d2, d3.trans (n1.trans b), ?_⟩
  have e : k'.st = norm0 asg grow ks.st := by rw [s1, c]; rfl
  unfold norm drop
  rw [d1, ← e, undefAt_self]
  exact clean_congr (fun d => (kunnamed_iff h1 d).symm) _
theorem fillSp_ok : ∀ {nt : Nat} (ps xs : Sp), fitSp ps xs = true → SpWf nt ps → SpWf nt xs → ∀ (vs : List PV) (i : Nat), Seg vs i (leavesSp ps xs) →
    (∀ j, (spGet (fillSp ps vs i).1 j).pv = (spGet xs j).pv) ∧ SpWf nt (fillSp ps vs i).1 ∧ (fillSp ps vs i).1.map (·.1) = ps.map (·.1) ∧ (fillSp ps vs i).2 = i + (leavesSp ps xs).length
  | nt, [], [], _, _, _, vs, i, _ => ⟨fun _ => rfl, .nil nt, rfl, rfl⟩
  | _, [], _ :: _, h, _, _, _, _, _ => by simp [fitSp] at h
  | _, _ :: _, [], h, _, _, _, _, _ => by simp [fitSp] at h
  | nt, (j1, p) :: ps, (j2, x) :: xs, h, hp, hx, vs, i, hs => by
    simp only [fitSp, Bool.and_eq_true] at h
    simp only [leavesSp] at hs
    have hj := Nat.eq_of_beq_eq_true h.1
    subst hj
    obtain ⟨a, b, c⟩ := fill_ok p x h.2.1 (hx.ok (j1, x) (by simp)) vs i hs.left
    obtain ⟨a', b', k', c'⟩ := fillSp_ok ps xs h.2.2 hp.tail hx.tail vs (fill p vs i).2 (by rw [c]; exact hs.right)
    refine ⟨?_, ⟨?_, ?_, ?_, ?_⟩, by simp [fillSp, k'], ?_⟩
    · intro j
      simp only [fillSp, spGet]
      cases Nat.beq j j1 with
      | true => exact a
      | false => exact a' j
    · simp only [fillSp, List.map_cons]
      rw [k']
      exact hp.srt
    · intro q hq
      simp only [fillSp, List.mem_cons] at hq
      rcases hq with rfl | hq
      · exact hp.lt (j1, p) (by simp)
      · exact b'.lt q hq
    · intro q hq
      simp only [fillSp, List.mem_cons] at hq
      rcases hq with rfl | hq
      · exact b
      · exact b'.ok q hq
    · intro q hq
      simp only [fillSp, List.mem_cons] at hq
      rcases hq with rfl | hq
      · exact un_fill (hp.nu (j1, p) (by simp))
      · exact b'.nu q hq
    · simp only [fillSp, leavesSp, List.length_append]
      rw [c', c]
      omega
theorem fillSo_ok : ∀ {nt : Nat} (ps xs : SpO), fitSo ps xs = true → SoWf nt ps → SoWf nt xs → ∀ (vs : List PV) (i : Nat), Seg vs i (leavesSo ps xs) →
    (∀ j, (soGet (fillSo ps vs i).1 j).map KOb.ob = (soGet xs j).map KOb.ob) ∧ SoWf nt (fillSo ps vs i).1 ∧ (fillSo ps vs i).1.map (·.1) = ps.map (·.1) ∧ (fillSo ps vs i).2 = i + (leavesSo ps xs).length
  | nt, [], [], _, _, _, vs, i, _ => ⟨fun _ => rfl, .nil nt, rfl, rfl⟩
  | _, [], _ :: _, h, _, _, _, _, _ => by simp [fitSo] at h
  | _, _ :: _, [], h, _, _, _, _, _ => by simp [fitSo] at h
  | nt, (j1, p) :: ps, (j2, x) :: xs, h, hp, hx, vs, i, hs => by
    simp only [fitSo, Bool.and_eq_true] at h
    simp only [leavesSo] at hs
    have hj := Nat.eq_of_beq_eq_true h.1
    subst hj
    obtain ⟨a, b, c⟩ := fillObL_ok p x h.2.1 (hx.ok (j1, x) (by simp)) vs i hs.left
    obtain ⟨a', b', k', c'⟩ := fillSo_ok ps xs h.2.2 hp.tail hx.tail vs (fillObL p vs i).2 (by rw [c]; exact hs.right)
    refine ⟨?_, ⟨?_, ?_, ?_⟩, by simp [fillSo, k'], ?_⟩
    · intro j
      simp only [fillSo, soGet]
      cases Nat.beq j j1 with
      | true => exact a
      | false => exact a' j
    · simp only [fillSo, List.map_cons]
      rw [k']
      exact hp.srt
    · intro q hq
      simp only [fillSo, List.mem_cons] at hq
      rcases hq with rfl | hq
      · exact hp.lt (j1, p) (by simp)
      · exact b'.lt q hq
    · intro q hq
      simp only [fillSo, List.mem_cons] at hq
      rcases hq with rfl | hq
      · exact b
      · exact b'.ok q hq
    · simp only [fillSo, leavesSo, List.length_append]
      rw [c', c]
      omega
theorem fillKp_ok : ∀ {nt : Nat} (ps xs : List Sp), fitKp ps xs = true → (∀ p ∈ ps, SpWf nt p) → (∀ x ∈ xs, SpWf nt x) → ∀ (vs : List PV) (i : Nat), Seg vs i (leavesKp ps xs) →
    (fillKp ps vs i).1.flatMap (dense nt) = xs.flatMap (dense nt) ∧ (∀ p ∈ (fillKp ps vs i).1, SpWf nt p)
  | nt, [], [], _, _, _, vs, i, _ => ⟨rfl, by simp [fillKp]⟩
  | _, [], _ :: _, h, _, _, _, _, _ => by simp [fitKp] at h
  | _, _ :: _, [], h, _, _, _, _, _ => by simp [fitKp] at h
  | nt, p :: ps, x :: xs, h, hp, hx, vs, i, hs => by
    simp only [fitKp, Bool.and_eq_true] at h
    simp only [leavesKp] at hs
    obtain ⟨a, b, _, c⟩ := fillSp_ok p x h.1 (hp p (by simp)) (hx x (by simp)) vs i hs.left
    obtain ⟨a', b'⟩ := fillKp_ok ps xs h.2 (fun q hq => hp q (by simp [hq])) (fun q hq => hx q (by simp [hq])) vs (fillSp p vs i).2 (by rw [c]; exact hs.right)
    refine ⟨?_, ?_⟩
    · simp only [fillKp, List.flatMap_cons, a']
      congr 1
      unfold dense
      exact List.map_congr_left fun j _ => a j
    · intro q hq
      simp only [fillKp, List.mem_cons] at hq
      rcases hq with rfl | hq
      · exact b
      · exact b' q hq
theorem fillSt_ok {p x : KSt} (h : fitSt p x = true) (hp : p.Ok) (hx : x.Ok) : (fillSt p (leavesSt p x)).st = x.st ∧ (fillSt p (leavesSt p x)).Ok ∧ (fillSt p (leavesSt p x)).nt = p.nt ∧ p.nt = x.nt := by
  unfold fitSt at h
  simp only [Bool.and_eq_true] at h
  obtain ⟨h0, h1, h2, h3⟩ := h
  have hnt := Nat.eq_of_beq_eq_true h0
  have hs := Seg.all (leavesSt p x)
  unfold leavesSt at hs
  have hx1 : SpWf p.nt x.tmps := hnt ▸ hx.tm
  have hx2 : SoWf p.nt x.objs := hnt ▸ hx.ob
  have hx3 : ∀ sp ∈ x.keep, SpWf p.nt sp := hnt ▸ hx.kp
  obtain ⟨a1, b1, _, c1⟩ := fillSp_ok p.tmps x.tmps h1 hp.tm hx1 _ 0 hs.left.left
  have hs2 := hs.left.right
  obtain ⟨a2, b2, _, c2⟩ := fillSo_ok p.objs x.objs h2 hp.ob hx2 (leavesSt p x) (fillSp p.tmps (leavesSt p x) 0).2 (by unfold leavesSt; rw [c1]; exact hs2)
  have hs3 := hs.right
  obtain ⟨a3, b3⟩ := fillKp_ok p.keep x.keep h3 hp.kp hx3 (leavesSt p x) (fillSo p.objs (leavesSt p x) (fillSp p.tmps (leavesSt p x) 0).2).2 (by
    unfold leavesSt at c2 ⊢
    rw [c2, c1]
    simp only [List.length_append] at hs3
    rw [Nat.zero_add] at hs3 ⊢
    exact hs3)
  refine ⟨?_, ⟨b1, b2, b3⟩, rfl, hnt⟩
  unfold KSt.st fillSt
  simp only
  rw [← hnt, a3]
  congr 1
  · unfold dense; exact List.map_congr_left fun j _ => a1 j
  · unfold denseO; exact List.map_congr_left fun j _ => a2 j
end Go.Ab


namespace Go.Ab
variable {cfg : KCfg} {tab : FuncId → Option RFn}
theorem exec_pure {d : Nat} {σ : Nm → Option Ob} {T : List PV} {op : ROp} (hp : pureOp op = true) {out : Out} (h : exec d σ T op = some out) : out = { v := out.v } := by
  have hm : ∀ {x : Option PV}, (x.map fun v => ({ v := v } : Out)) = some out → out = { v := out.v } := by
    intro x hx
    obtain ⟨v, _, rfl⟩ := Option.map_eq_some_iff.1 hx
    rfl
  have hcm : ∀ {b : Bool} {x : Option PV}, chk b (x.map fun v => ({ v := v } : Out)) = some out → out = { v := out.v } := by
    intro b x hx
    exact hm (chk_inv hx).2
  have hc : ∀ {b : Bool} {v : PV}, chk b (some ({ v := v } : Out)) = some out → out = { v := out.v } := by
    intro b v hx
    obtain ⟨_, hx⟩ := chk_inv hx
    cases hx; rfl
  cases op with
  | box | alloc | mkSl | store | mkF | mkMap | insert | mkS | append | copy | call | iter | next | bad => simp [pureOp] at hp
  | mov x => cases h; rfl
  | mkI t x => cases h; rfl
  | bin op c cst x y => exact hm h
  | slice k x lo hi mx => exact hm h
  | len c x =>
    simp only [exec] at h
    obtain ⟨n, _, rfl⟩ := Option.map_eq_some_iff.1 h
    rfl
  | pick c a b | conv k x | ofRune x | strId x | un op x | nilck x => simp only [exec] at h; split at h <;> first | (cases h; rfl) | cases h
  | build z ps => simp only [exec] at h; split at h <;> first | (cases h; rfl) | cases h
  | toBytes x => simp only [exec] at h; split at h <;> first | exact hc h | cases h
  | field off n ag x => simp only [exec] at h; split at h <;> first | exact hm h | cases h
  | fieldAddr off x => simp only [exec] at h; split at h <;> first | exact hc h | (cases h; rfl) | cases h
  | idxAddrA k l x i => simp only [exec] at h; split at h <;> first | exact hc h | cases h
  | ofBytes x | strIdx x i | extract j x | minmax mx xs | idxAddr k x i | strSlice x lo hi =>
    simp only [exec] at h
    split at h
    all_goals first
      | (cases h; done)
      | exact hc h
      | (obtain ⟨n, _, rfl⟩ := Option.map_eq_some_iff.1 h; rfl)
      | (split at h
         all_goals first
           | (cases h; done)
           | exact hc h
           | (cases h; rfl)
           | (split at h
              all_goals first
                | (cases h; done)
                | (cases h; rfl)))
  | tassert t z ok x =>
    simp only [exec] at h
    split at h
    · split at h
      · cases h; rfl
      · exact hc h
    · exact hc h
    · cases h
  | lookup c z ok x k =>
    simp only [exec] at h
    split at h
    · cases h
    · split at h
      · cases h
      · exact hc h
  | load n ag x =>
    simp only [exec] at h
    split at h
    · split at h
      · exact hm h
      · cases h
    · exact hm h
    · split at h
      · split at h
        · exact hcm h
        · cases h
      · cases h
    · cases h
theorem apply_plain (st : St) (dst : Option Nat) (v : PV) : apply st dst { v } = bset dst v [] st := by
  rw [apply_eq]; simp [bkill, bupd, bgone, bturn, bext, newAtO]
theorem pure_runs {M : Mach} {E : Type} {h : Handler E} {dep : Nat} {ops : List ROper} : ∀ (l : List ROper), (∀ o ∈ l, pureOp o.op = true) → ∀ {st st' : St} {e e' : E}, runOps M h dep ops l st e = some (st', e') →
    e' = e ∧ st'.objs = st.objs ∧ st'.keep = st.keep ∧ st'.tmps.length = st.tmps.length ∧ ∀ i, i ∉ l.filterMap (·.dst) → st'.tmps[i]? = st.tmps[i]? := by
  intro l
  induction l with
  | nil => intro _ st st' e e' h; cases h; exact ⟨rfl, rfl, rfl, rfl, fun _ _ => rfl⟩
  | cons o rest ih =>
    intro hp st st' e e' h
    simp only [runOps] at h
    split at h
    case h_2 => cases h
    rename_i s1 e1 hs
    have hone : e1 = e ∧ ∃ v, s1 = bset o.dst v [] st := by
      unfold stepG at hs
      split at hs
      · unfold stepOp at hs
        split at hs
        · rename_i out e2 ho
          cases hs
          unfold outOf at ho
          obtain ⟨_, ho⟩ := chk_inv ho
          have hpo := hp o (by simp)
          split at ho
          · rename_i f args hop; rw [hop] at hpo; simp [pureOp] at hpo
          · split at ho
            · rename_i out' hx
              cases ho
              have := exec_pure hpo hx
              refine ⟨rfl, out.v, ?_⟩
              rw [this, apply_plain]
            · cases ho
        · cases hs
      · cases hs; exact ⟨rfl, _, apply_plain _ _ _⟩
      · cases hs
    obtain ⟨rfl, v, rfl⟩ := hone
    obtain ⟨a, b, c, d, f⟩ := ih (fun o' ho' => hp o' (by simp [ho'])) h
    refine ⟨a, ?_, ?_, ?_, ?_⟩
    · rw [b]; cases o.dst <;> rfl
    · rw [c]; cases o.dst <;> rfl
    · rw [d]; cases o.dst <;> simp [bset]
    · intro i hi
      have hi' : i ∉ rest.filterMap (·.dst) := fun hm => hi (by
        simp only [List.mem_filterMap] at hm ⊢
        obtain ⟨o', ho', hd⟩ := hm
        exact ⟨o', by simp [ho'], hd⟩)
      rw [f i hi']
      cases hd : o.dst with
      | none => rfl
      | some t =>
        have hne : t ≠ i := fun e => hi (by
          simp only [List.mem_filterMap]
          exact ⟨o, by simp, by rw [hd, e]⟩)
        simp only [bset]
        rw [List.getElem?_set_ne hne]
theorem tidy_congr {st st' : St} (h1 : st'.objs = st.objs) (h2 : st'.keep = st.keep) (hl : st'.tmps.length = st.tmps.length) {l : List Nat} (h3 : ∀ i, i ∈ l → st'.tmps[i]? = st.tmps[i]?) : tidy (some l) st' = tidy (some l) st := by
  have : keepOnly l st' = keepOnly l st := by
    unfold keepOnly
    obtain ⟨t', o', k'⟩ := st'
    obtain ⟨t, o, k⟩ := st
    simp only at h1 h2 hl h3
    subst h1; subst h2
    have hl : t'.length = t.length := hl
    congr 1
    show (t'.zipIdx.map fun (x : PV × Nat) => if l.contains x.2 then x.1 else .undef) = t.zipIdx.map fun (x : PV × Nat) => if l.contains x.2 then x.1 else .undef
    apply List.ext_getElem?
    intro i
    rw [List.getElem?_map, List.getElem?_map, List.getElem?_zipIdx, List.getElem?_zipIdx]
    by_cases hi : i ∈ l
    · rw [h3 i hi]
    · by_cases hlt : i < t.length
      · rw [List.getElem?_eq_getElem hlt, List.getElem?_eq_getElem (by omega)]
        simp [hi]
      · rw [List.getElem?_eq_none (by omega), List.getElem?_eq_none (by omega)]
  unfold tidy
  simp only [this]
theorem kdrop_ok {k0 ks : KSt} (h : ks.Ok) : (kdrop k0 ks).Ok ∧ (kdrop k0 ks).nt = ks.nt := by
  unfold kdrop
  obtain ⟨h1, h2⟩ := kkeep_st h (spHas k0.tmps)
  obtain ⟨h3, h4, h5⟩ := kclean_st h2 (kunnamed { ks with tmps := spKeep (spHas k0.tmps) ks.tmps })
  exact ⟨h4, h5⟩
theorem ksetPs_ok {nt : Nat} : ∀ (ps : List Nat) (args : List PV) (i : Nat) {tm : Sp}, SpWf nt tm → (∀ p ∈ ps, p < nt) → okVL args = true → SpWf nt (ksetPs ps args i tm) := by
  intro ps
  induction ps with
  | nil => intro args i tm h _ _; exact h
  | cons p ps ih =>
    intro args i tm h hp ha
    simp only [ksetPs]
    refine ih args (i + 1) (h.put (hp p (by simp)) ?_ rfl) (fun q hq => hp q (by simp [hq])) ha
    show okV (nth args i) = true
    unfold nth
    rw [List.getD_eq_getElem?_getD]
    cases hg : args[i]? with
    | none => rfl
    | some v => exact okVL_get ha hg
theorem ksetPs_st {nt : Nat} : ∀ (ps : List Nat) (args : List PV) (i : Nat) {tm : Sp}, i + ps.length = args.length → dense nt (ksetPs ps args i tm) = setPs ps (args.drop i) (dense nt tm) := by
  intro ps
  induction ps with
  | nil => intro args i tm _; simp [ksetPs, setPs]
  | cons p ps ih =>
    intro args i tm hl
    simp only [List.length_cons] at hl
    have hd : args.drop i = args[i]'(by omega) :: args.drop (i + 1) := List.drop_eq_getElem_cons (by omega)
    rw [hd]
    simp only [ksetPs, setPs]
    rw [ih args (i + 1) (by omega), dense_put]
    have : nth args i = args[i]'(by omega) := by
      unfold nth; rw [List.getD_eq_getElem?_getD, List.getElem?_eq_getElem (by omega)]; rfl
    rw [← this]
    rfl
theorem konEx_some {R : Type} {r : R} {K : Nat → Option R} : ∀ {l : List Nat} {p : Option Ex}, konEx l p K = some r → ∃ id, p = some (.exit id) ∧ K id = some r := by
  intro l
  induction l with
  | nil => intro p h; cases h
  | cons id l ih =>
    intro p h
    simp only [konEx] at h
    rcases iteB_some h with ⟨h1, h2⟩ | ⟨_, h2⟩
    · refine ⟨id, ?_, h2⟩
      unfold isExitE at h1
      split at h1
      · rename_i id'; rw [Nat.eq_of_beq_eq_true h1]
      · cases h1
    · exact ih h2
def sp_dense (sp : Sp) (k3 : KSt) : List PV := dense k3.nt sp
theorem evalK_ok (hc : CfgOK cfg tab) : ∀ (c : RCode) {E R : Type} {h : Handler E} {hn : Nat → Handler E} (_ : HOk h hn) (dep : Nat) {ks : KSt} {e : E} {K : Ex → KSt → E → Option R} {r : R}, ks.Ok → evalK cfg c h dep ks e K = some r →
    ∃ x k' e', K x k' e' = some r ∧ k'.Ok ∧ Evl fun n => evalC (machN cfg.b.sp tab n) n c (hn n) dep ks.st e = some (x, k'.st, e') := by
  intro c
  induction c with
  | skip => intro E R h hn hh dep ks e K r hk hr; exact ⟨_, _, _, hr, hk, .of fun n => rfl⟩
  | region ops dr lv =>
    intro E R h hn hh dep ks e K r hk hr
    obtain ⟨c1, c2, _⟩ := kclean_st hk (dsts ops)
    cases dr with
    | none =>
      simp only [evalK] at hr
      rw [force_eq] at hr
      split at hr
      · rename_i t hslot
        obtain ⟨z, hz, hr⟩ := bindO_some hr
        rw [force_eq] at hr
        obtain ⟨k1, e1, hz2, hk1, h1⟩ := kruns_ok (dep := dep) hc hh ops c2 hz
        unfold condSlot at hslot
        split at hslot
        case isFalse => cases hslot
        rename_i hcond
        simp only [Bool.and_eq_true] at hcond
        cases lv with
        | none => cases hslot
        | some l =>
        simp only at hslot
        split at hslot
        case h_2 => cases hslot
        rename_i t' hfil
        cases hslot
        have hpure : ∀ o ∈ ops, pureOp o.op = true := List.all_eq_true.1 hcond.2
        have hzok : okV z = true := KV.cl_ok (hk1.tm.get_ok t) hz2
        have htlt : t < k1.nt := by
          apply Classical.byContradiction
          intro hlt
          rw [hk1.tm.get_ge (by omega)] at hz2; cases hz2
        obtain ⟨m, hm⟩ := h1
        have hm0 := hm m (Nat.le_refl _)
        obtain ⟨rfl, p2, p3, p4, p5⟩ := pure_runs ops hpure hm0
        have hnt : k1.nt = (kclean (dsts ops) ks).nt := by
          have : k1.st.tmps.length = (kclean (dsts ops) ks).st.tmps.length := p4
          have a1 : k1.st.tmps.length = k1.nt := dense_length _ _
          have a2 : (kclean (dsts ops) ks).st.tmps.length = (kclean (dsts ops) ks).nt := dense_length _ _
          omega
        have hput : ({ kclean (dsts ops) ks with tmps := spPut t (.cv z) (kclean (dsts ops) ks).tmps } : KSt).Ok := ⟨c2.tm.put (by omega) hzok rfl, c2.ob, c2.kp⟩
        obtain ⟨t1, t2⟩ := ktidy_st hput (some l)
        refine ⟨_, _, _, hr, t2, ⟨m, fun n hn' => ?_⟩⟩
        have hb := hm n hn'
        rw [c1] at hb
        simp only [evalC, hb, t1]
        have : tidy (some l) k1.st = tidy (some l) ({ kclean (dsts ops) ks with tmps := spPut t (.cv z) (kclean (dsts ops) ks).tmps } : KSt).st := by
          refine tidy_congr (st' := k1.st) (st := ({ kclean (dsts ops) ks with tmps := spPut t (.cv z) (kclean (dsts ops) ks).tmps } : KSt).st) p2 p3 ?_ fun i hi => ?_
          · rw [p4]
            show (dense _ _).length = (dense _ _).length
            rw [dense_length, dense_length]
          · show k1.st.tmps[i]? = (dense _ (spPut t (.cv z) _))[i]?
            rw [dense_put]
            by_cases hit : i = t
            · subst hit
              rw [List.getElem?_set_self (by rw [dense_length]; show i < (kclean (dsts ops) ks).nt; omega)]
              show (dense k1.nt k1.tmps)[i]? = _
              rw [dense_get?, if_pos htlt, KV.cl_pv hz2]
              rfl
            · rw [List.getElem?_set_ne (Ne.symm hit)]
              refine p5 i fun hmem => hit ?_
              have : i ∈ l.filter fun t => (ops.filterMap (·.dst)).contains t := List.mem_filter.2 ⟨hi, by simpa using hmem⟩
              rw [hfil] at this
              simpa using this
        rw [this]
      · obtain ⟨k1, e1, hr, hk1, h1⟩ := kruns_ok (dep := dep) hc hh ops c2 hr
        rw [force_eq] at hr
        obtain ⟨t1, t2⟩ := ktidy_st hk1 lv
        rw [c1] at h1
        exact ⟨_, _, _, hr, t2, h1.mono fun n hn' => by simp only [evalC, hn', t1]⟩
    | some bef =>
      simp only [evalK] at hr
      rw [force_eq] at hr
      obtain ⟨k1, e1, hr, hk1, h1⟩ := krunsD_ok (dep := dep) hc hh bef [] c2 hr
      rw [force_eq] at hr
      obtain ⟨t1, t2⟩ := ktidy_st hk1 lv
      rw [c1] at h1
      exact ⟨_, _, _, hr, t2, h1.mono fun n hn' => by simp only [evalC, hn', t1]⟩
  | seq a b iha ihb =>
    intro E R h hn hh dep ks e K r hk hr
    simp only [evalK] at hr
    obtain ⟨x, k1, e1, hr, hk1, h1⟩ := iha hh dep hk hr
    cases x with
    | normal =>
      obtain ⟨x2, k2, e2, hr, hk2, h2⟩ := ihb hh dep hk1 hr
      exact ⟨_, _, _, hr, hk2, h1.mono2 h2 fun n a b => by simp only [evalC, a, b]⟩
    | exit id => exact ⟨_, _, _, hr, hk1, h1.mono fun n a => by simp only [evalC, a]⟩
    | ret => exact ⟨_, _, _, hr, hk1, h1.mono fun n a => by simp only [evalC, a]⟩
  | cond c a b iha ihb =>
    intro E R h hn hh dep ks e K r hk hr
    simp only [evalK] at hr
    have hev := st_ev hk c
    split at hr
    · rename_i hv
      obtain ⟨x, k1, e1, hr, hk1, h1⟩ := iha hh dep hk hr
      exact ⟨_, _, _, hr, hk1, h1.mono fun n a => by simp only [evalC, hev, hv, KV.pv, a]⟩
    · rename_i hv
      obtain ⟨x, k1, e1, hr, hk1, h1⟩ := ihb hh dep hk hr
      exact ⟨_, _, _, hr, hk1, h1.mono fun n a => by simp only [evalC, hev, hv, KV.pv, a]⟩
    · rename_i v hv
      rcases iteP_some hr with ⟨rfl, hr⟩ | ⟨rfl, hr⟩
      · obtain ⟨x, k1, e1, hr, hk1, h1⟩ := iha hh dep hk hr
        exact ⟨_, _, _, hr, hk1, h1.mono fun n a => by simp only [evalC, hev, hv, KV.pv, a]⟩
      · obtain ⟨x, k1, e1, hr, hk1, h1⟩ := ihb hh dep hk hr
        exact ⟨_, _, _, hr, hk1, h1.mono fun n a => by simp only [evalC, hev, hv, KV.pv, a]⟩
    · cases hr
  | block id b ih =>
    intro E R h hn hh dep ks e K r hk hr
    simp only [evalK] at hr
    obtain ⟨x, k1, e1, hr, hk1, h1⟩ := ih hh dep hk hr
    cases x with
    | normal => exact ⟨_, _, _, hr, hk1, h1.mono fun n a => by simp only [evalC, a]⟩
    | ret => exact ⟨_, _, _, hr, hk1, h1.mono fun n a => by simp only [evalC, a]⟩
    | exit id' =>
      simp only at hr
      split at hr
      · rename_i hid; exact ⟨_, _, _, hr, hk1, h1.mono fun n a => by simp only [evalC, a, hid, if_true]⟩
      · rename_i hid; exact ⟨_, _, _, hr, hk1, h1.mono fun n a => by simp only [evalC, a, hid, if_false]⟩
  | loop asg grow b ih =>
    intro E R h hn hh dep ks e K r hk hr
    simp only [evalK] at hr
    obtain ⟨k0, hr, hk0, hnt0, hst0⟩ := knorm_st hk hr
    rw [force_eq] at hr
    obtain ⟨hU, hr⟩ := chkO_some hr
    split at hr
    · cases hr
    rename_i hself
    have hself : fitSt k0 k0 = true := by simpa using hself
    obtain ⟨m, hm⟩ := loopL_some hr
    have key : ∀ (m : Nat) (vs : List PV) (e : E), (fillSt k0 vs).Ok → repS (fun s : List PV × E => force (fillSt k0 s.1) fun ks => evalK cfg b h dep ks s.2 (onLoop asg grow k0 K)) m (vs, e) = some r →
        ∃ x k' e', K x k' e' = some r ∧ k'.Ok ∧ Evl fun n => ∀ j, m ≤ j → repeatN (loopStep (machN cfg.b.sp tab n) n asg grow b (hn n) dep (undefs k0.st)) j ((fillSt k0 vs).st, e) = some (x, k'.st, e') := by
      intro m
      induction m with
      | zero => intro vs e _ h0; cases h0
      | succ m ihm =>
        intro vs e hkv hm
        unfold repS at hm
        simp only at hm
        rw [force_eq] at hm
        cases hs : evalK cfg b h dep (fillSt k0 vs) e (onLoop asg grow k0 K) with
        | none =>
          rw [hs] at hm; cases hm
        | some q =>
          rw [hs] at hm
          obtain ⟨x, k1, e1, hq, hk1, h1⟩ := ih hh dep hkv hs
          have hother : ∀ y, y ≠ Ex.normal → x = y → (bindO (K y k1 e1) fun r => some (Sum.inr r)) = some q → ∃ x k' e', K x k' e' = some r ∧ k'.Ok ∧ Evl fun n => ∀ j, m + 1 ≤ j → repeatN (loopStep (machN cfg.b.sp tab n) n asg grow b (hn n) dep (undefs k0.st)) j ((fillSt k0 vs).st, e) = some (x, k'.st, e') := by
            intro y hy hxy hq
            obtain ⟨r', hr', hq⟩ := bindO_some hq
            cases hq
            cases hm
            refine ⟨y, k1, e1, hr', hk1, h1.mono fun n hn' j hj => ?_⟩
            obtain ⟨j, rfl⟩ : ∃ i, j = i + 1 := ⟨j - 1, by omega⟩
            rw [repeatN_eq]
            subst hxy
            cases x with
            | normal => exact absurd rfl hy
            | exit id => simp only [loopStep, hn', onStep]
            | ret => simp only [loopStep, hn', onStep]
          cases x with
          | exit id => exact hother (.exit id) (by simp) rfl hq
          | ret => exact hother .ret (by simp) rfl hq
          | normal =>
            unfold onLoop at hq; simp only at hq
            obtain ⟨d1, d2⟩ := kdrop_ok (k0 := k0) hk1
            obtain ⟨k2, hq, hk2, hnt2, hst2⟩ := knorm_st d1 hq
            rw [force_eq] at hq
            split at hq
            · rename_i hfit
              cases hq
              obtain ⟨f1, f2, f3, f4⟩ := fillSt_ok hfit hk0 hk2
              obtain ⟨g1, _, _⟩ := kdrop_st hk0 hU hk1 (by omega)
              obtain ⟨x3, k3, e3, hr3, hk3, h3⟩ := ihm _ _ f2 hm
              refine ⟨x3, k3, e3, hr3, hk3, h1.mono2 h3 fun n hn1 hn3 j hj => ?_⟩
              obtain ⟨j, rfl⟩ : ∃ i, j = i + 1 := ⟨j - 1, by omega⟩
              rw [repeatN_eq]
              have := hn3 j (by omega)
              rw [f1, hst2, g1] at this
              simp only [loopStep, hn1, onStep]
              exact this
            · cases hq
    obtain ⟨s1, s2, _, _⟩ := fillSt_ok (p := k0) (x := k0) hself hk0 hk0
    obtain ⟨x, k', e', hr', hk', hev⟩ := key m _ e s2 hm
    refine ⟨x, k', e', hr', hk', hev.diag.mono fun n hn' => ?_⟩
    rw [s1, hst0] at hn'
    rw [evalC_loop, hn']
  | rangeFunc f ps asg b iha ihb =>
    intro E R h hn hh dep ks e K r hk hr
    simp only [evalK] at hr
    split at hr
    case h_2 => cases hr
    rename_i fv hfv
    split at hr
    case isFalse => cases hr
    rename_i hps
    simp only [Bool.and_eq_true] at hps
    obtain ⟨⟨hps, hself⟩, hxf⟩ := hps
    have hpslt : ∀ p ∈ ps, p < ks.nt := fun p hp => by
      have := List.all_eq_true.1 hps p hp
      simpa [Nat.blt_eq] using this
    obtain ⟨⟨vs, p, e2⟩, hrange, hr2⟩ := bindO_some hr
    clear hr
    rw [force_eq] at hr2
    simp only at hr2
    unfold rangeO at hrange
    split at hrange
    case h_2 => cases hrange
    rename_i g cap
    split at hrange
    case h_2 => cases hrange
    rename_i rv obs rr hL
    cases hrange
    rw [hc.L] at hL
    obtain ⟨m, hm⟩ := lim_some hL
    have hm := hm m (Nat.le_refl _)
    obtain ⟨s1, s2, _, _⟩ := fillSt_ok (p := ks) (x := ks) hself hk hk
    obtain ⟨⟨st2, p2, e2'⟩, hre, hev⟩ := evalFn_par (sp := cfg.b.sp) (tab := tab) m (KRec E) (Rec E)
      (fun a b => a.2.1 = b.2.1 ∧ a.2.2 = b.2.2 ∧ (fillSt ks a.1).Ok ∧ (fillSt ks a.1).st = b.1) _ (fun n => rangeH (machN cfg.b.sp tab n) n asg b (hn n) dep ps) (by
        rintro l args ⟨vs, p, e⟩ ⟨s, p', e'⟩ ⟨h1, h2, h3, h4⟩ bb ⟨vs', q, e1⟩ hq
        simp only at h1 h2 h3 h4
        subst h1; subst h2; subst h4
        unfold onRound at hq
        unfold rangeH
        by_cases hl : l = dep
        · simp only [hl, if_true] at hq ⊢
          cases p with
          | some x => cases hq
          | none =>
            simp only at hq ⊢
            obtain ⟨hargs, hq⟩ := chkO_some hq
            unfold okArgs at hargs
            simp only [Bool.and_eq_true, beq_iff_eq] at hargs
            rw [force_eq, force_eq] at hq
            have hnt : (fillSt ks vs).nt = ks.nt := rfl
            have hk1 : ({ fillSt ks vs with tmps := ksetPs ps args 0 (fillSt ks vs).tmps, keep := (fillSt ks vs).tmps :: (fillSt ks vs).keep } : KSt).Ok :=
              ⟨ksetPs_ok ps args 0 h3.tm hpslt hargs.2, h3.ob, fun sp hsp => (List.mem_cons.1 hsp).elim (fun e => e ▸ h3.tm) (h3.kp sp)⟩
            have hk1st : ({ fillSt ks vs with tmps := ksetPs ps args 0 (fillSt ks vs).tmps, keep := (fillSt ks vs).tmps :: (fillSt ks vs).keep } : KSt).st = { (fillSt ks vs).st with tmps := setPs ps args (fillSt ks vs).st.tmps, keep := (fillSt ks vs).st.tmps ++ (fillSt ks vs).st.keep } := by
              unfold KSt.st
              simp only
              rw [ksetPs_st ps args 0 (by omega)]
              simp
            obtain ⟨x1, k2, e3, hq, hk2, ha⟩ := iha hh (dep + 1) hk1 hq
            cases x1 with
            | exit id => cases hq
            | ret => cases hq
            | normal =>
              simp only at hq
              obtain ⟨x2, k3, e4, hq, hk3, hb⟩ := ihb hh (dep + 1) hk2 hq
              split at hq
              case h_1 => cases hq
              rename_i sp kp hkeep
              rw [force_eq] at hq
              split at hq
              case isFalse => cases hq
              rename_i hfit
              cases hq
              have hk4 : ({ k3 with tmps := sp, keep := kp } : KSt).Ok := ⟨hk3.kp sp (by rw [hkeep]; simp), hk3.ob, fun q hq => hk3.kp q (by rw [hkeep]; simp [hq])⟩
              obtain ⟨f1, f2, f3, f4⟩ := fillSt_ok hfit hk hk4
              have f5 : ks.nt = k3.nt := f4
              refine ⟨({ tmps := sp_dense sp k3, objs := k3.st.objs, keep := kp.flatMap (dense k3.nt) }, exitOf x2, e1), ⟨rfl, rfl, f2, ?_⟩, ha.mono2 hb fun n hn1 hn2 => ?_⟩
              · rw [f1]; rfl
              · simp only [hargs.1, if_true]
                rw [← hk1st, hn1]
                simp only
                rw [hn2]
                simp only
                have hkp : k3.st.keep = dense k3.nt sp ++ kp.flatMap (dense k3.nt) := by
                  show k3.keep.flatMap (dense k3.nt) = _
                  rw [hkeep]; rfl
                have hlen : (fillSt ks vs).st.tmps.length = (dense k3.nt sp).length := by
                  show (dense ks.nt _).length = _
                  rw [dense_length, dense_length]; exact f5
                rw [hkp, hlen, List.take_left, List.drop_left]
                cases x2 <;> rfl
        · simp only [hl, if_false] at hq ⊢
          split at hq
          · rename_i b2 e3 h6
            cases hq
            exact ⟨_, ⟨rfl, rfl, h3, rfl⟩, (hh _ _ _ _ h6).mono fun n hn' => by rw [hn']⟩
          · cases hq) (dep + 1) (fnId g) (fnArgs g [.yld dep] cap) (leavesSt ks ks, none, e) (ks.st, none, e) ⟨rfl, rfl, s2, s1⟩ rv obs _ hm
    simp only at hre
    obtain ⟨h1, h2, h3, h4⟩ := hre
    subst h1; subst h2; subst h4
    have hfe : f.ev ks.st.tmps = .fn g cap := by rw [st_ev hk, KV.cl_pv hfv]
    have hcap : (PV.fn g cap).names = [] := by
      exact (okV_iff (KV.cl_ok (kv_ok hk hxf) hfv)).1
    have hbase : Evl fun n => evalC (machN cfg.b.sp tab n) n (.rangeFunc f ps asg b) (hn n) dep ks.st e = some (p.getD .normal, (fillSt ks vs).st, e2) := hev.mono fun n hn' => by
      rw [evalC_rangeH, hfe]
      unfold freezeV
      rw [hcap]
      simp only [List.isEmpty_nil, if_true]
      simp only [machN, evalFn] at hn' ⊢
      rw [hn']
    rcases iteB_some hr2 with ⟨hp, hr2⟩ | ⟨_, hr2⟩
    · cases p with
      | some x => cases hp
      | none => exact ⟨_, _, _, hr2, h3, hbase⟩
    · rcases iteB_some hr2 with ⟨hp, hr2⟩ | ⟨_, hr2⟩
      · unfold isRetE at hp
        split at hp
        · exact ⟨_, _, _, hr2, h3, hbase⟩
        · cases hp
      · obtain ⟨id, hpe, hr3⟩ := konEx_some hr2
        subst hpe
        exact ⟨_, _, _, hr3, h3, hbase⟩
  | exit id => intro E R h hn hh dep ks e K r hk hr; exact ⟨_, _, _, hr, hk, .of fun n => rfl⟩
  | scope b ih =>
    intro E R h hn hh dep ks e K r hk hr
    simp only [evalK] at hr
    obtain ⟨x, k1, e1, hr, hk1, h1⟩ := ih hh dep hk hr
    cases x with
    | normal => exact ⟨_, _, _, hr, hk1, h1.mono fun n a => by simp only [evalC, a]⟩
    | ret => exact ⟨_, _, _, hr, hk1, h1.mono fun n a => by simp only [evalC, a]⟩
    | exit id' =>
      simp only at hr
      split at hr
      · rename_i hid; exact ⟨_, _, _, hr, hk1, h1.mono fun n a => by simp only [evalC, a, hid, if_true]⟩
      · cases hr
  | ret => intro E R h hn hh dep ks e K r hk hr; exact ⟨_, _, _, hr, hk, .of fun n => rfl⟩
  | norm g =>
    intro E R h hn hh dep ks e K r hk hr
    simp only [evalK] at hr
    obtain ⟨k', hr, hk', _, hst⟩ := knorm_st hk hr
    rw [force_eq] at hr
    exact ⟨_, _, _, hr, hk', .of fun n => by simp only [evalC, hst]⟩
  | bad => intro E R h hn hh dep ks e K r hk hr; cases hr
end Go.Ab


namespace Go.Ab
variable {cfg : KCfg} {tab : FuncId → Option RFn} {ks : KSt}
theorem kresV_ok {R : Type} {r : R} (h : ks.Ok) {x : RRes} {K : KV → Option R} (hr : kresV ks x K = some r) : ∃ v, K v = some r ∧ v.ok ∧ resV ks.st x = some v.pv := by
  have hget : ∀ t, ks.st.tmps.getD t .undef = (spGet ks.tmps t).pv := fun t => dense_getD h.tm t
  have lk := st_look h
  cases x with
  | tmp t => exact ⟨_, hr, h.tm.get_ok t, by simp only [resV, hget]⟩
  | cell t n ag =>
    simp only [kresV] at hr
    split at hr
    · rename_i nm o hv
      split at hr
      · rename_i cs hl
        have hcs : okKL cs := klook_ok h.ob hl
        split at hr
        · rename_i hag
          split at hr
          · rename_i hle
            refine ⟨_, hr, okKL_take (okKL_drop hcs _) _, ?_⟩
            simp only [resV, hget, hv, KV.pv, lk, hl, Option.map_some, KOb.ob, sel, hag, if_true, chk, pvL_length, hle, decide_true, pvL_take, pvL_drop]
          · cases hr
        · rename_i hag
          split at hr
          · rename_i c hc
            refine ⟨_, hr, okKL_mem.1 hcs c (List.mem_of_getElem? hc), ?_⟩
            simp only [resV, hget, hv, KV.pv, lk, hl, Option.map_some, KOb.ob, sel, hag, pvL_get?, hc]
            rfl
          · cases hr
      · rename_i w hl
        obtain ⟨z, hz, hr⟩ := bindO_some hr
        have hw : okV w = true := klook_ok h.ob hl
        unfold selO at hz
        refine ⟨_, hr, okV_sel (okV_cells hw) hz, ?_⟩
        simp only [resV, hget, hv, KV.pv, lk, hl, Option.map_some, KOb.ob, cellsP, hz]
      · cases hr
    · cases hr
theorem kresVs_ok {R : Type} {r : R} (h : ks.Ok) : ∀ (l : List RRes) {K : List KV → Option R}, kresVs ks l K = some r → ∃ vs, K vs = some r ∧ okKL vs ∧ resVs ks.st l = some (pvL vs) := by
  intro l
  induction l with
  | nil => intro K hr; exact ⟨[], hr, trivial, rfl⟩
  | cons x l ih =>
    intro K hr
    simp only [kresVs] at hr
    obtain ⟨v, hr, hv, h1⟩ := kresV_ok h hr
    obtain ⟨vs, hr, hvs, h2⟩ := ih hr
    exact ⟨v :: vs, hr, ⟨hv, hvs⟩, by simp only [resVs, h1, h2, pvL]⟩
theorem koneOf_ok {vs : List KV} (h : okKL vs) : (koneOf vs).ok ∧ (koneOf vs).pv = oneOf (pvL vs) := by
  match vs, h with
  | [], h => exact ⟨trivial, rfl⟩
  | [v], h => exact ⟨h.1, rfl⟩
  | v :: w :: vs, h => exact ⟨h, rfl⟩
theorem isZero_iff {o : Nat} : isZero o = true ↔ o = 0 := by cases o <;> simp [isZero]
def top1 : PV → List Nm
  | .arr nm _ 0 _ => [nm]
  | _ => []
def top2 : PV → List Nm
  | .arr nm _ 0 _ => [nm]
  | .agg cs => cs.flatMap top1
  | _ => []
def ktop1 : KV → List Nm
  | .arr nm _ o _ => if isZero o then [nm] else []
  | .wit nm => [nm]
  | _ => []
def ktop2 : KV → List Nm
  | .arr nm _ o _ => if isZero o then [nm] else []
  | .wit nm => [nm]
  | .agg cs => cs.flatMap ktop1
  | _ => []
theorem ktop1_ok {x : KV} (h : x.ok) : ktop1 x = top1 x.pv := by
  cases x with
  | arr nm k o n => cases o <;> rfl
  | cv v =>
    have hv : okV v = true := h
    cases v <;> first | rfl | simp [okV] at hv
  | _ => rfl
theorem top1_none {cs : List PV} (h : okVL cs = true) : cs.flatMap top1 = [] := by
  rw [List.flatMap_eq_nil_iff]
  intro x hx
  have := okVL_iff.1 h x hx
  cases x <;> first | rfl | simp [okV] at this
theorem flatMap_top1 {cs : List KV} (h : okKL cs) : cs.flatMap ktop1 = (pvL cs).flatMap top1 := by
  rw [pvL_map, List.flatMap_map]
  induction cs with
  | nil => rfl
  | cons x xs ih => simp only [List.flatMap_cons]; rw [ktop1_ok h.1, ih h.2]
theorem ktop2_ok {x : KV} (h : x.ok) : ktop2 x = top2 x.pv := by
  cases x with
  | arr nm k o n => cases o <;> rfl
  | agg cs => exact flatMap_top1 h
  | cv v =>
    have hv : okV v = true := h
    cases v with
    | agg cs => simp only [okV] at hv; exact (top1_none hv).symm
    | _ => first | rfl | simp [okV] at hv
  | _ => rfl
theorem tops_eq (v : PV) : tops v = match v with | .tup xs => xs.flatMap top2 | v => top2 v := by
  have e1 : (fun (x : PV) => match x with | .arr nm _ 0 _ => [nm] | _ => []) = top1 := by
    funext x; cases x <;> first | rfl | (rename_i nm k o n; cases o <;> rfl)
  cases v with
  | arr nm k o n => cases o <;> rfl
  | agg cs => simp only [tops, top2]; rfl
  | tup xs =>
    simp only [tops]
    congr 1
  | _ => rfl
theorem ktops_eq (v : KV) : ktops v = match v with | .tup xs => xs.flatMap ktop2 | v => ktop2 v := by
  cases v <;> first | rfl | (simp only [ktops]; congr 1)
theorem ktops_ok {v : KV} (h : v.ok) : ktops v = tops v.pv := by
  rw [ktops_eq, tops_eq]
  cases v with
  | tup xs =>
    have hx : okKL xs := h
    simp only [KV.pv]
    rw [pvL_map, List.flatMap_map]
    clear h
    induction xs with
    | nil => rfl
    | cons x xs ih => simp only [List.flatMap_cons]; rw [ktop2_ok hx.1, ih hx.2]
  | cv u =>
    have hu : okV u = true := h
    simp only [KV.pv, ktop2]
    cases u with
    | tup xs =>
      simp only [okV] at hu
      symm
      rw [List.flatMap_eq_nil_iff]
      intro x hx
      have hx' := okVL_iff.1 hu x hx
      have := ktop2_ok (x := .cv x) hx'
      simpa [ktop2, KV.pv] using this.symm
    | agg cs => simp only [okV] at hu; exact (top1_none hu).symm
    | _ => first | rfl | simp [okV] at hu
  | _ => exact ktop2_ok h
theorem nodupN_iff : ∀ {l : List Nm}, nodupN l = true ↔ l.Nodup
  | [] => by simp [nodupN]
  | x :: xs => by simp [nodupN, nodupN_iff (l := xs)]
theorem mapM_look {σ : Nm → Option Ob} : ∀ {S : List Nm}, (∀ nm ∈ S, ∃ ob, σ nm = some ob ∧ isArr ob = true) → ∃ obs, S.mapM σ = some obs ∧ obs.all isArr = true ∧ obs.length = S.length ∧ ∀ (i : Nat) nm, S[i]? = some nm → obs[i]? = σ nm := by
  intro S
  induction S with
  | nil => intro _; exact ⟨[], rfl, rfl, rfl, by simp⟩
  | cons nm S ih =>
    intro h
    obtain ⟨ob, h1, h2⟩ := h nm (by simp)
    obtain ⟨obs, h3, h4, h5, h6⟩ := ih fun m hm => h m (by simp [hm])
    refine ⟨ob :: obs, by simp [List.mapM_cons, h1, h3], by simp [h2, h4], by simp [h5], ?_⟩
    intro i m hi
    cases i with
    | zero => simp at hi; subst hi; simp [h1]
    | succ i => simp at hi ⊢; exact h6 i m hi
theorem idxOf_mid {pre mid post : List Nm} {nm : Nm} (hnd : (pre ++ nm :: mid ++ post).Nodup) : (pre ++ nm :: mid ++ post).idxOf nm = pre.length := by
  have hn : nm ∉ pre := fun hm => by
    rw [List.append_assoc, List.nodup_append] at hnd
    exact hnd.2.2 nm hm nm (by simp) rfl
  rw [List.append_assoc, List.idxOf_append, if_neg hn]
  simp
section hand
variable {σ : Nm → Option KOb} (hσ : ∀ nm o, σ nm = some o → o.ok) {S : List Nm} (hnd : S.Nodup) {obs : List Ob} (hobs : ∀ (i : Nat) nm, S[i]? = some nm → obs[i]? = (σ nm).map fun o => o.ob.bare)
include hσ hnd hobs
def subH (σ : Nm → Option KOb) (S : List Nm) : Nm → Option (Option Ob) := fun nm => if S.contains nm = true then none else closed (fun nm => (σ nm).map KOb.ob) nm
omit hnd hobs in
theorem close_subH {x : KV} (hx : x.ok) (hn : (x.names.all fun nm => !S.contains nm) = true) : x.pv.sub (subH σ S) = x.close (kclosed σ deepest) := by
  rw [KV.close_pv _ hx]
  refine PV.sub_congr _ fun nm hm => ?_
  rw [KV.pv_names hx] at hm
  have := List.all_eq_true.1 hn nm hm
  unfold subH subCl closed
  simp only [Bool.not_eq_true'] at this
  rw [this, kclosed_eq hσ, Option.map_map]
  rfl
omit hσ hnd hobs in
theorem sub_cl {x : KV} {u : PV} (hx : x.ok) (h : x.cl = some u) (f : Nm → Option (Option Ob)) (g : Nm → Nm) : (x.pv.sub f).ren g = u := by
  have hu := KV.cl_ok hx h
  rw [KV.cl_pv h, sub_none (okV_iff hu).1, ren_none (okV_iff hu).1]
mutual
theorem khand_ok {R : Type} {r : R} : ∀ (sh : RSh) (x : KV), x.ok → ∀ {K : PV → Option R}, khand σ S sh x K = some r → ∀ (pre post : List Nm), S = pre ++ ownN sh x ++ post →
    ∃ u, K u = some r ∧ convR obs sh pre.length ((x.pv.sub (subH σ S)).ren (toIdx S)) = some (u, pre.length + (ownN sh x).length)
  | .cl, x, hx, K, hr, pre, post, _ => by
    have hclose : (if x.names.all fun nm => !S.contains nm then chkO (okU (x.close (kclosed σ deepest))) (K (x.close (kclosed σ deepest))) else none) = some r →
        ∃ u, K u = some r ∧ convR obs .cl pre.length ((x.pv.sub (subH σ S)).ren (toIdx S)) = some (u, pre.length + (ownN .cl x).length) := by
      intro hr
      split at hr
      · rename_i hn
        obtain ⟨h1, hr⟩ := chkO_some hr
        unfold okU at h1
        refine ⟨_, hr, ?_⟩
        rw [close_subH hσ hx hn, ren_none (okV_iff h1).1]
        simp [convR, h1, chkO, ownN]
      · cases hr
    simp only [khand] at hr
    cases hu : x.cl with
    | some u =>
      rw [hu] at hr
      refine ⟨u, hr, ?_⟩
      rw [sub_cl hx hu]
      simp [convR, KV.cl_ok hx hu, chkO, ownN]
    | none =>
      rw [hu] at hr
      cases x with
      | tup xs =>
        simp only at hr
        cases hus : clL xs with
        | some us =>
          rw [hus] at hr
          have hok := clL_ok (xs := xs) hx hus
          have htup : okV (.tup us) = true := by simpa [okV] using hok
          refine ⟨.tup us, hr, ?_⟩
          have : (KV.tup xs).pv = .tup us := by simp [KV.pv, clL_pv hus]
          rw [this, sub_none (okV_iff htup).1, ren_none (okV_iff htup).1]
          simp [convR, htup, chkO, ownN]
        | none => rw [hus] at hr; exact hclose hr
      | _ => exact hclose hr
  | .own k, x, hx, K, hr, pre, post, hS => by
    simp only [khand] at hr
    split at hr
    · rename_i nm k' o n
      split at hr
      · rename_i k'' kt xs hl
        split at hr
        · rename_i hc
          obtain ⟨rfl, rfl, ho⟩ := hc
          rw [isZero_iff] at ho
          subst ho
          obtain ⟨h1, hr⟩ := chkO_some hr
          rw [eqN_iff] at h1
          unfold lenL at h1
          simp only [ownN] at hS
          refine ⟨_, hr, ?_⟩
          have hmem : S.contains nm = true := by rw [List.contains_iff_mem, hS]; simp
          have hi : S[pre.length]? = some nm := by rw [hS]; simp
          have hidx : S.idxOf nm = pre.length := by
            have e : S = pre ++ nm :: [] ++ post := by rw [hS]
            rw [e]; exact idxOf_mid (e ▸ hnd)
          have hob : obs[pre.length]? = some (.arr k 0 xs) := by rw [hobs _ _ hi, hl]; rfl
          have hxok : okVL xs = true := hσ _ _ hl
          have hsub : (PV.arr nm k 0 n).sub (subH σ S) = .arr nm k 0 n := by
            simp only [PV.sub, subH, hmem, if_true]
          simp only [KV.pv]
          rw [hsub]
          simp [PV.ren, toIdx, hidx, convR, hob, chkO, h1, hxok, ownN]
        · cases hr
      · cases hr
    · cases hr
  | .opt k, x, hx, K, hr, pre, post, hS => by
    simp only [khand] at hr
    split at hr
    · rename_i nm k' o n
      split at hr
      · rename_i k'' kt xs hl
        split at hr
        · rename_i hc
          obtain ⟨rfl, rfl, ho⟩ := hc
          rw [isZero_iff] at ho
          subst ho
          obtain ⟨h1, hr⟩ := chkO_some hr
          rw [eqN_iff] at h1
          unfold lenL at h1
          simp only [ownN] at hS
          refine ⟨_, hr, ?_⟩
          have hmem : S.contains nm = true := by rw [List.contains_iff_mem, hS]; simp
          have hi : S[pre.length]? = some nm := by rw [hS]; simp
          have hidx : S.idxOf nm = pre.length := by
            have e : S = pre ++ nm :: [] ++ post := by rw [hS]
            rw [e]; exact idxOf_mid (e ▸ hnd)
          have hob : obs[pre.length]? = some (.arr k 0 xs) := by rw [hobs _ _ hi, hl]; rfl
          have hxok : okVL xs = true := hσ _ _ hl
          have hsub : (PV.arr nm k 0 n).sub (subH σ S) = .arr nm k 0 n := by
            simp only [PV.sub, subH, hmem, if_true]
          simp only [KV.pv]
          rw [hsub]
          simp [PV.ren, toIdx, hidx, convR, hob, chkO, h1, hxok, ownN]
        · cases hr
      · cases hr
    · refine ⟨.nilS, hr, ?_⟩
      simp [KV.pv, PV.sub, PV.ren, convR, ownN]
    · unfold nilO at hr
      split at hr
      · refine ⟨.nilS, hr, ?_⟩
        simp [KV.pv, PV.sub, PV.ren, convR, ownN]
      · cases hr
    · cases hr
  | .tup l, x, hx, K, hr, pre, post, hS => by
    simp only [khand] at hr
    split at hr
    · rename_i xs
      simp only [ownN] at hS
      obtain ⟨us, h1, h2⟩ := khandL_ok l xs hx hr pre post hS
      refine ⟨_, h1, ?_⟩
      simp only [KV.pv, PV.sub, PV.ren, convR, h2, ownN]
      rfl
    · cases hr
  | .agg l, x, hx, K, hr, pre, post, hS => by
    simp only [khand] at hr
    split at hr
    · rename_i xs
      simp only [ownN] at hS
      obtain ⟨us, h1, h2⟩ := khandL_ok l xs hx hr pre post hS
      refine ⟨_, h1, ?_⟩
      simp only [KV.pv, PV.sub, PV.ren, convR, h2, ownN]
      rfl
    · cases hr
theorem khandL_ok {R : Type} {r : R} : ∀ (l : List RSh) (xs : List KV), okKL xs → ∀ {K : List PV → Option R}, khandL σ S l xs K = some r → ∀ (pre post : List Nm), S = pre ++ ownNL l xs ++ post →
    ∃ us, K us = some r ∧ convRL obs l pre.length (renL (toIdx S) (subL (subH σ S) (pvL xs))) = some (us, pre.length + (ownNL l xs).length)
  | [], [], _, K, hr, pre, post, _ => ⟨[], hr, by simp [pvL, subL, renL, convRL, ownNL]⟩
  | [], _ :: _, _, K, hr, _, _, _ => by simp [khandL] at hr
  | _ :: _, [], _, K, hr, _, _, _ => by simp [khandL] at hr
  | s :: l, x :: xs, hx, K, hr, pre, post, hS => by
    simp only [khandL] at hr
    simp only [ownNL] at hS
    obtain ⟨u, hr, h1⟩ := khand_ok s x hx.1 hr pre (ownNL l xs ++ post) (by rw [hS]; simp [List.append_assoc])
    obtain ⟨us, hr, h2⟩ := khandL_ok l xs hx.2 hr (pre ++ ownN s x) post (by rw [hS]; simp [List.append_assoc])
    refine ⟨u :: us, hr, ?_⟩
    simp only [pvL, subL, renL, convRL, h1]
    rw [List.length_append] at h2
    rw [h2]
    simp [ownNL, Nat.add_assoc]
end
end hand
theorem own_arr {σ : Nm → Option KOb} {S : List Nm} {R : Type} {r : R} : ∀ (sh : RSh) (x : KV) {K : PV → Option R}, khand σ S sh x K = some r → (∀ nm ∈ ownN sh x, ∃ k kt xs, σ nm = some (.arr k kt xs)) ∧ ∃ u, K u = some r := by
  intro sh
  refine RSh.rec (motive_1 := fun sh => ∀ (x : KV) {K : PV → Option R}, khand σ S sh x K = some r → (∀ nm ∈ ownN sh x, ∃ k kt xs, σ nm = some (.arr k kt xs)) ∧ ∃ u, K u = some r)
    (motive_2 := fun l => ∀ (xs : List KV) {K : List PV → Option R}, khandL σ S l xs K = some r → (∀ nm ∈ ownNL l xs, ∃ k kt ys, σ nm = some (.arr k kt ys)) ∧ ∃ us, K us = some r) ?_ ?_ ?_ ?_ ?_ ?_ ?_ sh
  · intro x K hr
    refine ⟨by simp [ownN], ?_⟩
    simp only [khand] at hr
    split at hr
    · exact ⟨_, hr⟩
    · split at hr
      · split at hr
        · exact ⟨_, hr⟩
        · split at hr
          · exact ⟨_, (chkO_some hr).2⟩
          · cases hr
      · split at hr
        · exact ⟨_, (chkO_some hr).2⟩
        · cases hr
  · intro k x K hr
    simp only [khand] at hr
    split at hr
    · rename_i nm k' o n
      split at hr
      · rename_i k'' kt xs hl
        split at hr
        · exact ⟨by simp [ownN, hl], _, (chkO_some hr).2⟩
        · cases hr
      · cases hr
    · cases hr
  · intro k x K hr
    simp only [khand] at hr
    split at hr
    · rename_i nm k' o n
      split at hr
      · rename_i k'' kt xs hl
        split at hr
        · exact ⟨by simp [ownN, hl], _, (chkO_some hr).2⟩
        · cases hr
      · cases hr
    · exact ⟨by simp [ownN], _, hr⟩
    · unfold nilO at hr
      split at hr
      · exact ⟨by simp [ownN], _, hr⟩
      · cases hr
    · cases hr
  · intro l ih x K hr
    simp only [khand] at hr
    split at hr
    · rename_i xs
      obtain ⟨h1, us, h2⟩ := ih xs hr
      exact ⟨by simpa [ownN] using h1, _, h2⟩
    · cases hr
  · intro l ih x K hr
    simp only [khand] at hr
    split at hr
    · rename_i xs
      obtain ⟨h1, us, h2⟩ := ih xs hr
      exact ⟨by simpa [ownN] using h1, _, h2⟩
    · cases hr
  · intro xs K hr
    cases xs with
    | nil => exact ⟨by simp [ownNL], _, hr⟩
    | cons x xs => simp [khandL] at hr
  · intro s l ihs ihl xs K hr
    cases xs with
    | nil => simp [khandL] at hr
    | cons x xs =>
      simp only [khandL] at hr
      obtain ⟨h1, u, hr⟩ := ihs x hr
      obtain ⟨h2, us, hr⟩ := ihl xs hr
      refine ⟨?_, _, hr⟩
      intro nm hm
      simp only [ownNL, List.mem_append] at hm
      exact hm.elim (h1 nm) (h2 nm)
theorem ktopsOf_ok (shut : Bool) {v : KV} (h : v.ok) : ktopsOf shut v = topsOf shut v.pv := by
  cases shut with
  | true => rfl
  | false => exact ktops_ok h
theorem khandOver_ok {R : Type} {r : R} (h : ks.Ok) {shut : Bool} {sh : RSh} {v : KV} (hv : v.ok) {K : PV → Option R} (hr : khandOver ks shut sh v K = some r) : ∃ u rv obs, K u = some r ∧ handOver shut ks.st v.pv = some (rv, obs) ∧ convO sh rv obs = some u := by
  unfold khandOver at hr
  simp only at hr
  split at hr
  case isFalse => cases hr
  rename_i hc
  obtain ⟨hS, hnd, hdis, hsh⟩ := hc
  have hσ := klook_okF h
  obtain ⟨harr, _⟩ := own_arr sh v hr
  rw [← hS] at harr
  have hlk := st_lookF h
  obtain ⟨obs, hm, hall, hlen, hget⟩ := mapM_look (σ := look ks.st.objs) (S := ktopsOf shut v) fun nm hm => by
    obtain ⟨k, kt, xs, he⟩ := harr nm hm
    exact ⟨.arr k kt xs, by rw [st_look h, he]; rfl, rfl⟩
  have hnd' := nodupN_iff.1 hnd
  obtain ⟨u, hu, hconv⟩ := khand_ok hσ hnd' (obs := obs.map Ob.bare) (fun i nm hi => by rw [List.getElem?_map, hget i nm hi, st_look h, Option.map_map]; rfl) sh v hv hr [] [] (by rw [← hS]; simp)
  refine ⟨u, (v.pv.sub (subH (klook ks.objs) (ktopsOf shut v))).ren (toIdx (ktopsOf shut v)), obs.map Ob.bare, hu, ?_, ?_⟩
  · have e : (fun nm => if (topsOf shut v.pv).contains nm = true then none else closed (look ks.st.objs) nm) = subH (klook ks.objs) (ktopsOf shut v) := by
      funext nm
      unfold subH
      rw [ktopsOf_ok shut hv, hlk]
    rw [kreach_eq hσ, ← hlk] at hdis hsh
    rw [kshut_eq hσ, ← hlk] at hsh
    rw [ktopsOf_ok shut hv, ← KV.pv_names hv] at hdis hsh
    rw [ktopsOf_ok shut hv] at hnd hm
    unfold handOver
    simp only [hnd, hdis, Bool.and_self, if_true, hm, hsh, hall, chk, e, ktopsOf_ok shut hv]
  · unfold convO
    simp only [List.length_nil, Nat.zero_add] at hconv
    rw [hconv]
    simp [chkO, hlen, hS]
theorem init_ok {nt : Nat} {args : List KV} (ha : okKL args) (hu : ∀ x ∈ args, isUnK x = false) (hl : args.length ≤ nt) : ({ nt, tmps := args.zipIdx.map fun p => (p.2, p.1), objs := [], keep := [] } : KSt).Ok ∧
    ({ nt, tmps := args.zipIdx.map fun p => (p.2, p.1), objs := [], keep := [] } : KSt).st = { tmps := pvL args ++ List.replicate (nt - (pvL args).length) .undef, objs := List.replicate nt [], keep := [] } := by
  have hmem : ∀ p ∈ args.zipIdx.map (fun p => (p.2, p.1)), args[p.1]? = some p.2 := by
    intro p hp
    obtain ⟨⟨x, i⟩, hq, rfl⟩ := List.mem_map.1 hp
    rw [List.mem_zipIdx_iff_getElem?] at hq
    exact hq
  have hw : SpWf nt (args.zipIdx.map fun p => (p.2, p.1)) := by
    refine ⟨?_, ?_, ?_, ?_⟩
    · rw [List.map_map]
      have : ((fun p : Nat × KV => p.1) ∘ fun p : KV × Nat => (p.2, p.1)) = Prod.snd := rfl
      rw [this, List.zipIdx_map_snd]
      exact List.pairwise_lt_range'
    · intro p hp
      have := (List.getElem?_eq_some_iff.1 (hmem p hp)).1
      omega
    · intro p hp; exact okKL_mem.1 ha _ (List.mem_of_getElem? (hmem p hp))
    · intro p hp; exact hu _ (List.mem_of_getElem? (hmem p hp))
  refine ⟨⟨hw, .nil nt, by simp⟩, ?_⟩
  unfold KSt.st
  simp only [List.flatMap_nil]
  congr 1
  · refine dense_ext (by simp [pvL_length]; omega) fun i hi => ?_
    by_cases hia : i < args.length
    · rw [List.getElem?_append_left (by rw [pvL_length]; exact hia), pvL_get?, List.getElem?_eq_getElem hia]
      have hp : (i, args[i]) ∈ args.zipIdx.map (fun p => (p.2, p.1)) := by
        refine List.mem_map.2 ⟨(args[i], i), ?_, rfl⟩
        rw [List.mem_zipIdx_iff_getElem?]
        simp [hia]
      rw [show spGet (args.zipIdx.map fun p => (p.2, p.1)) i = args[i] from hw.get_mem hp]
      rfl
    · rw [List.getElem?_append_right (by rw [pvL_length]; omega), List.getElem?_replicate, if_pos (by rw [pvL_length]; omega)]
      rw [show spGet (args.zipIdx.map fun p => (p.2, p.1)) i = .un from spGet_not fun p hp => by
        have := (List.getElem?_eq_some_iff.1 (hmem p hp)).1
        omega]
      rfl
  · refine denseO_ext (by simp) fun i hi => ?_
    rw [List.getElem?_replicate, if_pos hi]
    rfl
theorem runK_ok (hc : CfgOK cfg tab) {g : FuncId} {fn : RFn} (ht : tab g = some fn) {E : Type} {h : Handler E} {hn : Nat → Handler E} (hh : HOk h hn) {dep : Nat} {sh : RSh} {args : List KV} {e e' : E} {u : PV}
    (ha : okKL args) (hu : ∀ x ∈ args, isUnK x = false) (hl : args.length ≤ fn.nt) (hr : runK cfg fn sh h dep args e = some (u, e')) :
    ∃ r obs, convO sh r obs = some u ∧ Evl fun n => evalFn cfg.b.sp tab n E (hn n) dep g (pvL args) e = some (r, obs, e') := by
  unfold runK at hr
  rw [force_eq] at hr
  obtain ⟨i1, i2⟩ := init_ok ha hu hl
  have hh' : HOk h fun n => hn (n + 1) := fun l args e r hq => by
    obtain ⟨a, hb⟩ := hh l args e r hq
    exact ⟨a, fun n hn' => hb (n + 1) (by omega)⟩
  obtain ⟨x, k1, e1, hr, hk1, hev⟩ := evalK_ok hc fn.code hh' dep i1 hr
  rw [i2] at hev
  have fin : (kresVs k1 fn.res fun vs => khandOver k1 fn.shut sh (koneOf vs) fun v => some (v, e1)) = some (u, e') → (∀ id, x ≠ .exit id) → ∃ r obs, convO sh r obs = some u ∧ Evl fun n => evalFn cfg.b.sp tab n E (hn n) dep g (pvL args) e = some (r, obs, e') := by
    intro hr hx
    obtain ⟨vs, hr, hvs, h1⟩ := kresVs_ok hk1 fn.res hr
    obtain ⟨o1, o2⟩ := koneOf_ok hvs
    obtain ⟨u', rv, obs, hr, h2, h3⟩ := khandOver_ok hk1 o1 hr
    cases hr
    refine ⟨rv, obs, h3, hev.shift.mono ?_⟩
    rintro k ⟨j, rfl, hj⟩
    show callOf (evalM cfg.b.sp tab j) j tab E (hn (j + 1)) dep g (pvL args) e = _
    simp only [callOf, ht]
    simp only [machN] at hj
    rw [hj]
    cases x with
    | exit id => exact absurd rfl (hx id)
    | normal => simp only [h1]; rw [← o2, h2]
    | ret => simp only [h1]; rw [← o2, h2]
  cases x with
  | exit id => cases hr
  | normal => exact fin hr (by simp)
  | ret => exact fin hr (by simp)
end Go.Ab


namespace Go.Ab
section
variable {cfg : KCfg} {tab : FuncId → Option RFn}
theorem cvL_pv : ∀ (vs : List PV), pvL (vs.map KV.cv) = vs
  | [] => rfl
  | v :: vs => by simp [pvL, KV.pv, cvL_pv vs]
theorem cvL_ok {vs : List PV} (h : okVL vs = true) : okKL (vs.map KV.cv) := okKL_mem.2 fun x hx => by
  obtain ⟨v, hv, rfl⟩ := List.mem_map.1 hx
  exact okVL_iff.1 h v hv
theorem cvL_un {vs : List PV} : ∀ x ∈ vs.map KV.cv, isUnK x = false := fun x hx => by
  obtain ⟨v, _, rfl⟩ := List.mem_map.1 hx
  rfl
theorem noH : HOk noHandler (fun _ => noHandler) := fun _ _ _ _ h => by cases h
theorem call_of_run (hc : CfgOK cfg tab) {g : FuncId} {fn : RFn} (ht : tab g = some fn) {sh : RSh} {cap args : List PV} {u : PV} (ha : okVL (args ++ cap) = true) (hl : (args ++ cap).length ≤ fn.nt)
    (hsp : cfg.b.sp g (fun _ => none) (args ++ cap) = none) (hr : runK cfg fn sh noHandler 0 ((args ++ cap).map KV.cv) () = some (u, ())) (hio : fn.io = false := by rfl) (hb : Nat.blt g fnBase = true := by rfl) : callO cfg.b sh (.fn g cap) args = some u := by
  have hid : fnId g = g := by simp [fnId, hb]
  have hfa : fnArgs g args cap = args ++ cap := by simp [fnArgs, hb]
  obtain ⟨r, obs, h1, h2⟩ := runK_ok hc ht (hn := fun _ => noHandler) noH (cvL_ok ha) cvL_un (by simpa using hl) hr
  rw [cvL_pv] at h2
  have hL : cfg.b.L Unit noHandler 0 g (args ++ cap) () = some (r, obs, ()) := by rw [hc.L]; exact lim_of h2
  have hfl : cfg.b.isIo g = false := by rw [hc.isIo]; unfold ioFlag; rw [ht]; exact hio
  unfold callO
  simp only [hid, hfa, spO, hsp, hL, hfl, Bool.false_eq_true, if_false]
  exact h1
theorem call_of_runK (hc : CfgOK cfg tab) {g : FuncId} {fn : RFn} (ht : tab g = some fn) {sh : RSh} {args : List PV} {xs : List KV} {u : PV} (hx : okKL xs) (hun : ∀ x ∈ xs, isUnK x = false) (hpv : pvL xs = args) (hl : xs.length ≤ fn.nt)
    (hsp : cfg.b.sp g (fun _ => none) args = none) (hr : runK cfg fn sh noHandler 0 xs () = some (u, ())) (hio : fn.io = false := by rfl) (hb : Nat.blt g fnBase = true := by rfl) : callO cfg.b sh (.fn g []) args = some u := by
  have hid : fnId g = g := by simp [fnId, hb]
  have hfa : fnArgs g args [] = args := by simp [fnArgs, hb]
  obtain ⟨r, obs, h1, h2⟩ := runK_ok hc ht (hn := fun _ => noHandler) noH hx hun hl hr
  rw [hpv] at h2
  have hL : cfg.b.L Unit noHandler 0 g args () = some (r, obs, ()) := by rw [hc.L]; exact lim_of h2
  have hfl : cfg.b.isIo g = false := by rw [hc.isIo]; unfold ioFlag; rw [ht]; exact hio
  unfold callO
  simp only [hid, hfa, spO, hsp, hL, hfl, Bool.false_eq_true, if_false]
  exact h1
theorem range_of_run (hc : CfgOK cfg tab) {g : FuncId} {fn : RFn} (ht : tab g = some fn) {E : Type} {h : Handler E} {dep : Nat} {cap : List PV} {u : PV} {e e' : E} (ha : okVL cap = true) (hl : cap.length + 1 ≤ fn.nt)
    (hr : runK cfg fn .cl h (dep + 1) (.yld dep :: cap.map KV.cv) e = some (u, e')) (hb : Nat.blt g fnBase = true := by rfl) : rangeO cfg.b h dep (.fn g cap) e = some e' := by
  have hid : fnId g = g := by simp [fnId, hb]
  have hfa : fnArgs g [.yld dep] cap = .yld dep :: cap := by simp [fnArgs, hb]
  obtain ⟨r, obs, h1, h2⟩ := runK_ok hc ht (hn := fun _ => h) (fun l args e r hq => .of fun _ => hq) (dep := dep + 1) (args := .yld dep :: cap.map KV.cv) ⟨trivial, cvL_ok ha⟩ (fun x hx => by
    rcases List.mem_cons.1 hx with rfl | hx
    · rfl
    · exact cvL_un x hx) (by simpa using hl) hr
  have e1 : pvL (.yld dep :: cap.map KV.cv) = .yld dep :: cap := by simp [pvL, KV.pv, cvL_pv]
  rw [e1] at h2
  have hL : cfg.b.L E h (dep + 1) g (.yld dep :: cap) e = some (r, obs, e') := by rw [hc.L]; exact lim_of h2
  unfold rangeO
  simp only [hid, hfa, hL]
theorem conv_cl {r u : PV} {obs : List Ob} (h : convO .cl r obs = some u) : r = u ∧ obs = [] ∧ okV u = true := by
  unfold convO at h
  simp only [convR] at h
  split at h
  · rename_i r' j hr
    obtain ⟨h1, h2⟩ := chkO_some hr
    cases h2
    obtain ⟨h3, h4⟩ := chkO_some h
    cases h4
    simp only [beq_iff_eq] at h3
    exact ⟨rfl, List.length_eq_zero_iff.1 h3.symm, h1⟩
  · cases h
theorem lend_of_run (hc : CfgOK cfg tab) {g : FuncId} {fn : RFn} (ht : tab g = some fn) {fr : Bool} {args : List PV} {u : PV} (ha : okVL args = true) (hl : args.length ≤ fn.nt)
    (hr : runK cfg fn .cl noHandler 0 (args.map KV.cv) () = some (u, ())) (hfr : (u.free && !leanFlag tab g) = fr) : lendO cfg.b .cl fr g args = some u := by
  obtain ⟨r, obs, h1, h2⟩ := runK_ok hc ht (hn := fun _ => noHandler) noH (cvL_ok ha) cvL_un (by simpa using hl) hr
  rw [cvL_pv] at h2
  obtain ⟨e1, e2, _⟩ := conv_cl h1
  subst e1; subst e2
  have hL : cfg.b.L Unit noHandler 0 g args () = some (r, [], ()) := by rw [hc.L]; exact lim_of h2
  unfold lendO
  rw [(okVL_names ha).2]
  simp only [Bool.false_eq_true, if_false, hL, List.all_nil, Bool.and_true, hc.leans, hfr, beq_self_eq_true, chkO]
  exact h1
theorem law_of_run (hc : CfgOK cfg tab) {g : FuncId} {fn : RFn} (ht : tab g = some fn) {args : List PV} {b : Bool} (ha : okVL args = true) (hl : args.length ≤ fn.nt)
    (hr : runK cfg fn .cl noHandler 0 (args.map KV.cv) () = some (.bool b, ())) : ∃ n, evalFn cfg.b.sp tab n Unit noHandler 0 g args () = some (.bool b, [], ()) := by
  obtain ⟨r, obs, h1, m, hm⟩ := runK_ok hc ht (hn := fun _ => noHandler) noH (cvL_ok ha) cvL_un (by simpa using hl) hr
  rw [cvL_pv] at hm
  obtain ⟨e1, e2, _⟩ := conv_cl h1
  subst e1; subst e2
  exact ⟨m, hm m (Nat.le_refl _)⟩
end
theorem loop_run {σ ρ : Type} {step : σ → Option (Sum σ ρ)} {s0 : σ} {r : ρ} (inv : Nat → σ) (N : Nat) (h0 : s0 = inv 0) (hs : ∀ i, i < N → step (inv i) = some (.inl (inv (i + 1)))) (he : step (inv N) = some (.inr r)) : loopL step s0 = some r := by
  have key : ∀ m i, i + m = N → loopL step (inv i) = some r := by
    intro m
    induction m with
    | zero => intro i hi; obtain rfl : i = N := by omega
              exact loopL_inr he
    | succ m ih => intro i hi; rw [loopL_inl (hs i (by omega))]; exact ih (i + 1) (by omega)
  rw [h0]; exact key N 0 (by omega)
def yieldAll {E : Type} (h : Handler E) (d : Nat) : List (List PV) → E → Option E
  | [], e => some e
  | a :: l, e => match h d a e with
    | some (true, e) => yieldAll h d l e
    | some (false, e) => some e
    | none => none
@[simp] theorem bindO_val {α β : Type} (a : α) (f : α → Option β) : bindO (some a) f = f a := rfl
@[simp] theorem bindO_none' {α β : Type} (f : α → Option β) : bindO none f = none := rfl
@[simp] theorem chkO_true {β : Type} (a : Option β) : chkO true a = a := rfl
@[simp] theorem chkO_false {β : Type} (a : Option β) : chkO false a = none := rfl
@[simp] theorem iteP_bool {β : Type} (b : Bool) (x y : Option β) : iteP (.bool b) x y = if b = true then x else y := by cases b <;> rfl
@[simp] theorem iteB_bool {β : Type} (b : Bool) (x y : Option β) : iteB b x y = if b = true then x else y := by cases b <;> rfl
theorem iteP_true {β : Type} (x y : Option β) : iteP (.bool true) x y = x := rfl
theorem iteP_false {β : Type} (x y : Option β) : iteP (.bool false) x y = y := rfl
section pure
variable {c : TC} {cst : Bool} {k : IntKind}
@[simp] theorem pure_add (a b : Int) : pureO (.bin .add c cst (.c (.int k a)) (.c (.int k b))) = some (.int k (k.wrap (a + b))) := by simp [pureO, exec, RX.ev, binPV, chk, binInt]
@[simp] theorem pure_sub (a b : Int) : pureO (.bin .sub c cst (.c (.int k a)) (.c (.int k b))) = some (.int k (k.wrap (a - b))) := by simp [pureO, exec, RX.ev, binPV, chk, binInt]
@[simp] theorem pure_mul (a b : Int) : pureO (.bin .mul c cst (.c (.int k a)) (.c (.int k b))) = some (.int k (k.wrap (a * b))) := by simp [pureO, exec, RX.ev, binPV, chk, binInt]
@[simp] theorem pure_eql (a b : Int) : pureO (.bin .eql c cst (.c (.int k a)) (.c (.int k b))) = some (.bool (a == b)) := by simp [pureO, exec, RX.ev, binPV, chk, binInt, cmpInt]
@[simp] theorem pure_neq (a b : Int) : pureO (.bin .neq c cst (.c (.int k a)) (.c (.int k b))) = some (.bool (a != b)) := by simp [pureO, exec, RX.ev, binPV, chk, binInt, cmpInt]
@[simp] theorem pure_lss (a b : Int) : pureO (.bin .lss c cst (.c (.int k a)) (.c (.int k b))) = some (.bool (decide (a < b))) := by simp [pureO, exec, RX.ev, binPV, chk, binInt, cmpInt]
@[simp] theorem pure_leq (a b : Int) : pureO (.bin .leq c cst (.c (.int k a)) (.c (.int k b))) = some (.bool (decide (a ≤ b))) := by simp [pureO, exec, RX.ev, binPV, chk, binInt, cmpInt]
@[simp] theorem pure_gtr (a b : Int) : pureO (.bin .gtr c cst (.c (.int k a)) (.c (.int k b))) = some (.bool (decide (b < a))) := by simp [pureO, exec, RX.ev, binPV, chk, binInt, cmpInt]
@[simp] theorem pure_geq (a b : Int) : pureO (.bin .geq c cst (.c (.int k a)) (.c (.int k b))) = some (.bool (decide (b ≤ a))) := by simp [pureO, exec, RX.ev, binPV, chk, binInt, cmpInt]
@[simp] theorem pure_eqs (a b : List UInt8) : pureO (.bin .eql c cst (.c (.str a)) (.c (.str b))) = some (.bool (a == b)) := by simp [pureO, exec, RX.ev, binPV, binStr]
@[simp] theorem pure_nes (a b : List UInt8) : pureO (.bin .neq c cst (.c (.str a)) (.c (.str b))) = some (.bool (!(a == b))) := by simp [pureO, exec, RX.ev, binPV, binStr]
@[simp] theorem pure_eqb (a b : Bool) : pureO (.bin .eql .bool cst (.c (.bool a)) (.c (.bool b))) = some (.bool (a == b)) := by simp [pureO, exec, RX.ev, binPV, eqNil]
@[simp] theorem pure_neb (a b : Bool) : pureO (.bin .neq .bool cst (.c (.bool a)) (.c (.bool b))) = some (.bool (!(a == b))) := by simp [pureO, exec, RX.ev, binPV, eqNil]
@[simp] theorem pure_not (b : Bool) : pureO (.un .not (.c (.bool b))) = some (.bool (!b)) := rfl
@[simp] theorem pure_neg (n : Int) : pureO (.un .neg (.c (.int k n))) = some (.int k (k.wrap (0 - n))) := rfl
@[simp] theorem pure_conv {k' : IntKind} (n : Int) : pureO (.conv k (.c (.int k' n))) = some (.int k (k.wrap n)) := rfl
@[simp] theorem pure_lens (s : List UInt8) : pureO (.len .str (.c (.str s))) = some (.int .i64 (s.length : Int)) := rfl
@[simp] theorem pure_lenl {j : Nat} (xs : List PV) (f : Bool) : pureO (.len .slice (.c (.sl j xs f))) = some (.int .i64 (xs.length : Int)) := rfl
@[simp] theorem pure_lenn : pureO (.len .slice (.c .nilS)) = some (.int .i64 0) := rfl
@[simp] theorem pure_tup (j : Nat) (xs : List PV) : pureO (.extract j (.c (.tup xs))) = xs[j]? := by
  simp only [pureO, exec, RX.ev]; cases xs[j]? <;> rfl
@[simp] theorem pure_load {n o : Nat} {ag : Bool} (cs : List PV) : pureO (.load n ag (.c (.ptr cs o))) = sel cs o n ag := by
  simp only [pureO, exec, RX.ev]; cases sel cs o n ag <;> rfl
@[simp] theorem pure_field {n o : Nat} {ag : Bool} (cs : List PV) : pureO (.field o n ag (.c (.agg cs))) = sel cs o n ag := by
  simp only [pureO, exec, RX.ev]; cases sel cs o n ag <;> rfl
@[simp] theorem pure_nilck (cs : List PV) (o : Nat) : pureO (.nilck (.c (.ptr cs o))) = some (.ptr cs o) := rfl
@[simp] theorem pure_nilckf (f : Nat) (cs : List PV) : pureO (.nilck (.c (.fn f cs))) = some (.fn f cs) := rfl
@[simp] theorem pure_faddr {off o : Nat} (cs : List PV) : pureO (.fieldAddr off (.c (.ptr cs o))) = if o + off < cs.length then some (.ptr cs (o + off)) else none := by
  by_cases hq : o + off < cs.length <;> simp [pureO, exec, RX.ev, chk, hq]
theorem pure_lidx {xs : List PV} {j n : Nat} {f : Bool} {v : PV} (hn : 0 < n) (h : xs[j]? = some v) : pureO (.idxAddr n (.c (.sl n xs f)) (.c (.int k (j : Int)))) = some (.ptr v.cells 0) := by
  simp [pureO, exec, RX.ev, natOf, h, chk, hn]
end pure
@[simp] theorem sel_one (v : PV) : sel [v] 0 1 false = some v := rfl
@[simp] theorem cells_int (k : IntKind) (n : Int) : (PV.int k n).cells = [.int k n] := rfl
@[simp] theorem cells_str (s : List UInt8) : (PV.str s).cells = [.str s] := rfl
@[simp] theorem cells_bool (b : Bool) : (PV.bool b).cells = [.bool b] := rfl
@[simp] theorem cells_agg' (cs : List PV) : (PV.agg cs).cells = cs := rfl
@[simp] theorem addN_eq (a b : Nat) : addN a b = a + b := rfl
@[simp] theorem subN_eq (a b : Nat) : subN a b = a - b := rfl
@[simp] theorem minN_eq (a b : Nat) : minN a b = min a b := rfl
@[simp] theorem lenL_eq (l : List PV) : lenL l = l.length := rfl
@[simp] theorem takeL_eq (n : Nat) (l : List PV) : takeL n l = l.take n := rfl
@[simp] theorem dropL_eq (n : Nat) (l : List PV) : dropL n l = l.drop n := rfl
@[simp] theorem catL_eq (l m : List PV) : catL l m = l ++ m := rfl
@[simp] theorem replL_eq (n : Nat) (v : PV) : replL n v = List.replicate n v := rfl
@[simp] theorem itemsP_sl (k : Nat) (xs : List PV) (f : Bool) : itemsP (.sl k xs f) = xs := rfl
@[simp] theorem natP_int (k : IntKind) (n : Int) : natP (.int k n) = n.toNat := rfl
@[simp] theorem nI_eq (n : Nat) : nI n = .int .i64 (n : Int) := rfl
@[simp] theorem andB_eq (a b : Bool) : andB a b = (a && b) := rfl
@[simp] theorem leN_eq (a b : Nat) : leN a b = decide (a ≤ b) := by
  rw [Bool.eq_iff_iff, leN_iff, decide_eq_true_iff]
@[simp] theorem ltN_eq (a b : Nat) : ltN a b = decide (a < b) := by
  rw [Bool.eq_iff_iff, ltN_iff, decide_eq_true_iff]
@[simp] theorem eqN_eq (a b : Nat) : eqN a b = decide (a = b) := by
  rw [Bool.eq_iff_iff, eqN_iff, decide_eq_true_iff]
@[simp] theorem nth_0 (x : PV) (l : List PV) : nth (x :: l) 0 = x := rfl
@[simp] theorem nth_1 (a x : PV) (l : List PV) : nth (a :: x :: l) 1 = x := rfl
@[simp] theorem nth_2 (a b x : PV) (l : List PV) : nth (a :: b :: x :: l) 2 = x := rfl
@[simp] theorem nth_3 (a b c x : PV) (l : List PV) : nth (a :: b :: c :: x :: l) 3 = x := rfl
@[simp] theorem nth_4 (a b c d x : PV) (l : List PV) : nth (a :: b :: c :: d :: x :: l) 4 = x := rfl
@[simp] theorem nth_5 (a b c d e x : PV) (l : List PV) : nth (a :: b :: c :: d :: e :: x :: l) 5 = x := rfl
@[simp] theorem nth_6 (a b c d e f x : PV) (l : List PV) : nth (a :: b :: c :: d :: e :: f :: x :: l) 6 = x := rfl
@[simp] theorem nth_7 (a b c d e f g x : PV) (l : List PV) : nth (a :: b :: c :: d :: e :: f :: g :: x :: l) 7 = x := rfl
@[simp] theorem nth_8 (a b c d e f g h x : PV) (l : List PV) : nth (a :: b :: c :: d :: e :: f :: g :: h :: x :: l) 8 = x := rfl
@[simp] theorem selO_eq (v : PV) (o n : Nat) (ag : Bool) : selO v o n ag = sel v.cells o n ag := rfl
@[simp] theorem natO_int (k : IntKind) (n : Nat) : natO (.int k (n : Int)) = some n := by simp [natO, natOf]
end Go.Ab


namespace Go.Ab
section
variable {ks : KSt}
end
end Go.Ab


namespace Go.Ab
section sp
variable {cx : Cx} {E : Type} {w0 : World} {I0 F0 O0 : Nat → Prop} {Hd : Nat → Option Obj} {R : RelE E} {e : E} {ds : List Deferred} {I F : Nat → Prop} {lp : Nat → Option Nat} {L : Loc} {tmv suf : List Value} {st : St} {w w' : World} {dst : Option Nat}
theorem sp_pure (hs : SR lp I L st tmv suf w) (hf : Fr cx w0 I0 F0 O0 Hd R e ds I F L w) (h : LawEnd w w') {u : PV} {v : Value} (hv : RepV w' I lp (some L) u v) :
    ∃ I' L', SR lp I' L' (apply st dst { v := u }) (putV tmv dst v) suf w' ∧ Fr cx w0 I0 F0 O0 Hd R e ds I' F L' w' := by
  have hx : Ext I F w I F w' := ⟨h.os, h.tape, h.output, h.size, fun b hb _ => h.same b hb, fun _ h => h, fun _ h => .inl h, fun _ h => .inl h⟩
  have hi : IF I F w' := ⟨fun b hb => Nat.lt_of_lt_of_le (hf.sep.iB b hb) h.size, fun b hb => ⟨Nat.lt_of_lt_of_le (hf.sep.fB b hb).1 h.size, (hf.sep.fB b hb).2⟩⟩
  have hw : cx.Wd I w' := cx.stab I I w w' hf.wd (fun _ h => h) (fun b hb => h.same b (hf.sep.iB b hb)) h.size
  have hr : R.rel e I F w' := R.stab e I I F w w' hf.re (fun _ h => h) (fun b hb => h.same b (hb.elim (hf.sep.iB b) fun h => (hf.sep.fB b h).1)) h.size
  refine ⟨I, L, ?_, hf.called hx hi hw hr⟩
  have h2 := hs.called hf hx
  cases dst with
  | none => exact h2
  | some d => exact h2.put d hv
theorem lawEnd_refl (w : World) : LawEnd w w := ⟨rfl, rfl, rfl, Nat.le_refl _, fun _ _ => rfl⟩
theorem sp_turn (hs : SR lp I L st tmv suf w) (hf : Fr cx w0 I0 F0 O0 Hd R e ds I F L w) {nm : Nm} {b C : Nat} (hL : L nm = some (some (b, C)))
    (h1 : w'.os = w.os) (h2 : w'.tape = w.tape) (h3 : w'.output = w.output) (h4 : w.heap.size ≤ w'.heap.size) (hk : ∀ k, k < w.heap.size → k ≠ b → w'.heap[k]? = w.heap[k]?)
    {ob : Ob} (hob : ObRep w' I lp L b C ob) {u : PV} {v : Value} (hv : RepV w' I lp (some L) u v) :
    ∃ I' L', SR lp I' L' (apply st dst { v := u, upd := some (nm, ob) }) (putV tmv dst v) suf w' ∧ Fr cx w0 I0 F0 O0 Hd R e ds I' F L' w' := by
  have hI : ∀ k, I k → w'.heap[k]? = w.heap[k]? := fun k hi => hk k (hf.sep.iB k hi) fun e => (hf.lB nm b C hL).2.2.1 (e ▸ hi)
  have hfr : Fr cx w0 I0 F0 O0 Hd R e ds I F L w' := hf.own h1 h2 h3 h4
    (fun k hb hno => hk k hb fun e => hno nm C (e ▸ hL)) (fun _ h => h) (fun _ h => .inl h)
    (fun nm' b' C' h => ⟨Nat.lt_of_lt_of_le (hf.lB nm' b' C' h).2.1 h4, (hf.lB nm' b' C' h).2.2.1, .inr ⟨nm', C', h⟩⟩) hf.inj
  have hsr : SR lp I L { st with objs := putOb st.objs nm ob } tmv suf w' := hs.upd hL hI
    (fun m b' C' hm h => hk b' (hf.lB m b' C' h).2.1 fun e => hm (hf.inj m nm b' C' C h (e ▸ hL))) hob
  refine ⟨I, L, ?_, hfr⟩
  cases dst with
  | none => exact hsr
  | some d => exact hsr.put d hv
theorem sp_gone (hs : SR lp I L st tmv suf w) (hf : Fr cx w0 I0 F0 O0 Hd R e ds I F L w) {nm : Nm} {p : Option (Nat × Nat)} (hL : L nm = some p)
    (h1 : w'.os = w.os) (h2 : w'.tape = w.tape) (h3 : w'.output = w.output) (h4 : w.heap.size ≤ w'.heap.size) (hk : ∀ b', b' < w.heap.size → (∀ C, p ≠ some (b', C)) → w'.heap[b']? = w.heap[b']?)
    {u : PV} {v : Value} (hv : ∀ L' : Loc, RepV w' I lp (some L') u v) :
    ∃ I' L', SR lp I' L' (apply st dst { v := u, upd := some (nm, dead), kill := some nm }) (putV tmv dst v) suf w' ∧ Fr cx w0 I0 F0 O0 Hd R e ds I' F L' w' := by
  have hI : ∀ b', I b' → w'.heap[b']? = w.heap[b']? := fun b' hb' => hk b' (hf.sep.iB b' hb') fun C e => (hf.lB nm b' C (by rw [hL, e])).2.2.1 hb'
  have hu := hs.regrow (w' := w') (k := 0) (kt := 0) (xs := []) (p' := none) hL hI
    (fun m b' C' hm hn => hk b' (hf.lB m b' C' hn).2.1 fun C e => hm (hf.inj m nm b' C' C hn (by rw [hL, e]))) ⟨0, 0, rfl⟩
  refine ⟨I, (fun m => if m = nm then some none else L m), ?_, ?_⟩
  · cases dst with
    | none => exact hu
    | some d => exact hu.put d (hv _)
  · refine hf.own h1 h2 h3 h4 (fun b' hb' hn => hk b' hb' fun C e => hn nm C (by rw [hL, e])) (fun _ h => h) (fun _ h => .inl h) ?_ ?_
    · intro m b' C' hn
      by_cases hm : m = nm
      · simp [hm] at hn
      · simp only [hm, if_false] at hn
        exact ⟨by have := (hf.lB m b' C' hn).2.1; omega, (hf.lB m b' C' hn).2.2.1, .inr ⟨m, C', hn⟩⟩
    · intro m m' b' C1 C2 hn hn'
      by_cases hm : m = nm
      · simp [hm] at hn
      · by_cases hm' : m' = nm
        · simp [hm'] at hn'
        · simp only [hm, hm', if_false] at hn hn'
          exact hf.inj m m' b' C1 C2 hn hn'
end sp
theorem repL1 {w : World} {I : Nat → Prop} {lp : Nat → Option Nat} {L : Option Loc} {a : PV} {us : List Value} (h : RepL w I lp L [a] us) : ∃ u, us = [u] ∧ RepV w I lp L a u := by
  obtain ⟨u, r, h1, rfl, h2⟩ : ∃ u r, RepV w I lp L a u ∧ us = u :: r ∧ RepL w I lp L [] r := by
    cases h; exact ⟨_, _, by assumption, rfl, by assumption⟩
  cases h2
  exact ⟨u, rfl, h1⟩
theorem repL2 {w : World} {I : Nat → Prop} {lp : Nat → Option Nat} {L : Option Loc} {a b : PV} {us : List Value} (h : RepL w I lp L [a, b] us) : ∃ u v, us = [u, v] ∧ RepV w I lp L a u ∧ RepV w I lp L b v := by
  obtain ⟨u, r, h1, rfl, h2⟩ : ∃ u r, RepV w I lp L a u ∧ us = u :: r ∧ RepL w I lp L [b] r := by
    cases h; exact ⟨_, _, by assumption, rfl, by assumption⟩
  obtain ⟨v, rfl, h3⟩ := repL1 h2
  exact ⟨u, v, rfl, h1, h3⟩
theorem setCell_same {W : World} {b o : Nat} {c : Array Value} {n : Value} {E' : TypeId} {fr : Nat × Nat} (h : W.heap[b]? = some (.cells c E' fr)) : (W.setCell ⟨b, o, none⟩ n).heap[b]? = some (.cells (c.setIfInBounds o n) E' fr) := by
  simp [World.setCell, Array.getElem?_modify, h]
theorem size_setCell (W : World) (a : Addr) (n : Value) : (W.setCell a n).heap.size = W.heap.size := by simp [World.setCell]
theorem cell_of_heap {w w' : World} {b : Nat} (h : w'.heap[b]? = w.heap[b]?) (o : Nat) : w'.cell? ⟨b, o, none⟩ = w.cell? ⟨b, o, none⟩ := by
  simp only [World.cell?, h]
theorem arr_one {c : Array Value} (h : c.size = 1) : ∃ n, c = #[n] := by
  refine ⟨c[0], ?_⟩
  apply Array.ext
  · simp [h]
  · intro i h1 h2
    have : i = 0 := by omega
    subst this; rfl
end Go.Ab


namespace Go.Ab
open Go
def ErrVars (gs : List Nat) (T : Nat) (I : Nat → Prop) (w : World) : Prop :=
  ∃ ad : Nat → Addr, (∀ g ∈ gs, I g ∧ I (ad g).block ∧ (∃ E f, w.heap[g]? = some (.cells #[.iface T (.pointer (some (ad g)))] E f)) ∧ ∃ c t, w.heap[(ad g).block]? = some (.cells c t (0, 0))) ∧ ∀ g ∈ gs, ∀ g' ∈ gs, g ≠ g' → ad g ≠ ad g'
structure WVars (gs : List Nat) (T : Nat) (et : Value) (tabs : List (Nat × Array Value)) (ns : List Nat) (I : Nat → Prop) (w : World) : Prop where
  err : ErrVars gs T I w
  et0 : I 0 ∧ w.cell? ⟨0, 0, none⟩ = some et
  tab : ∀ p ∈ tabs, I p.1 ∧ ∃ E f, w.heap[p.1]? = some (.cells p.2 E f)
  num : ∀ g ∈ ns, I g ∧ ∃ m, w.cell? ⟨g, 0, none⟩ = some (.int .i64 m)
def globsE (gs : List Nat) (T : Nat) : Globs := fun g => if gs.contains g then some [.glob g T] else none
noncomputable def cxOf (P : Program) (mixed : P.follows .mixedOrders = true) (gs : List Nat) (T : Nat) (et : Value) (tabs : List (Nat × Array Value)) (ns : List Nat) : Cx where
  P := P
  mixed := mixed
  G := globsE gs T
  Wd I w := WVars gs T et tabs ns I w
  stab I I' w w' h h1 h2 _ := by
    obtain ⟨⟨ad, e1, e2⟩, ⟨i0, e0⟩, ht, hn⟩ := h
    refine ⟨⟨ad, fun g hg => ?_, e2⟩, ⟨h1 _ i0, by rw [cell_of_heap (h2 0 i0)]; exact e0⟩, fun p hp => ?_, fun g hg => ?_⟩
    · obtain ⟨a1, a2, a3, a4⟩ := e1 g hg
      exact ⟨h1 _ a1, h1 _ a2, by rw [h2 _ a1]; exact a3, by rw [h2 _ a2]; exact a4⟩
    · obtain ⟨a1, a2⟩ := ht p hp
      exact ⟨h1 _ a1, by rw [h2 _ a1]; exact a2⟩
    · obtain ⟨a1, m, a2⟩ := hn g hg
      exact ⟨h1 _ a1, m, by rw [cell_of_heap (h2 _ a1)]; exact a2⟩
  gl I w g cs h hg lp L := by
    unfold globsE at hg
    split at hg
    · rename_i hgg
      cases hg
      obtain ⟨ad, e1, _⟩ := h.err
      obtain ⟨a1, a2, ⟨E, f, a3⟩, a4⟩ := e1 g (by simpa using hgg)
      exact RepV.ptr (off := 0) (o := 0) [.glob g T] g _ _ _ a1 a3 (by simp) (by simp) (by simp [One]; rfl) (by simp; exact .cons _ _ _ _ (.glob g T _ _ _ _ a1 a3 rfl) .nil)
    · cases hg
def SpAt (cx : Cx) (g : FuncId) (st : St) (vs : List PV) (out : Out) : Prop := Enters cx.P g ∧
    ∀ (E : Type) (w0 : World) (I0 F0 O0 : Nat → Prop) (Hd : Nat → Option Obj) (R : RelE E) (e : E) (ds : List Deferred) (I F : Nat → Prop) (lp : Nat → Option Nat) (L : Loc) (tmv suf us : List Value) (w : World) (dst : Option Nat),
      SR lp I L st tmv suf w → Fr cx w0 I0 F0 O0 Hd R e ds I F L w → RepL w I lp (some L) vs us → (∀ d, dst = some d → st.objs[d]? = some []) →
      CallsIn Fence.wide 0 cx.P g us.toArray w fun
        | .returned v, w' => ∃ I' L', SR lp I' L' (apply st dst { out with v := out.v.ren (renNew (dst.getD 0)) }) (putV tmv dst v) suf w' ∧ Fr cx w0 I0 F0 O0 Hd R e ds I' F L' w'
        | _, _ => False
def SpHere (f : (Nm → Option Ob) → List PV → Option Out) : Prop := ∀ σ σ' vs, (∀ nm ∈ reach σ deepest (namesL vs), σ nm = σ' nm) → f σ vs = f σ' vs
theorem inv_globV {w : World} {I : Nat → Prop} {lp : Nat → Option Nat} {L : Option Loc} {g : Nat} {t : TypeId} {v : Value} (h : RepV w I lp L (.glob g t) v) : ∃ x c E fr, v = .iface t x ∧ w.heap[g]? = some (.cells c E fr) ∧ c[0]? = some (.iface t x) := by
  cases h with
  | glob g t x c E fr hI hb hv => exact ⟨x, c, E, fr, rfl, hb, hv⟩
theorem lawEnd_belowW {w w' : World} (h : Go.RowKit.Below w.heap.size w w') : LawEnd w w' := ⟨h.os, h.tape, h.output, h.size, h.block⟩
def spAsG (ps : List (Nat × Nat)) (σ : Nm → Option Ob) : List PV → Option Out
  | [.nilI, .iface p (.ref _ o)] => if (ps.lookup p).isSome = true ∧ o = 0 then some { v := .bool false } else none
  | [.iface t x, .iface p (.ref nm o)] => match σ nm with
    | some (.cells ty cs) => if ps.lookup p = some t ∧ o = 0 ∧ cs.length = 1 ∧ okCells x 1 = true then some { v := .bool true, upd := some (nm, .cells ty x.cells) } else none
    | _ => none
  | _ => none
structure AsOK (P : Program) (g : FuncId) (et : Value) (ps : List (Nat × Nat)) : Prop where
  enters : Enters P g
  none : ∀ (v : Value) (w : World), Calls P g #[.nilIface, v] w fun e w' => e = .returned (.bool false) ∧ w' = w
  hit : ∀ p t, ps.lookup p = some t → ∀ (v n : Value), v.cells = #[n] → n.oneCell' = true → ∀ (a : Addr) (old : Value) (w : World), w.cell? ⟨0, 0, Option.none⟩ = some et → w.cell? a = some old → w.frozen? a = false →
    Calls P g #[.iface t v, .iface p (.pointer (some a))] w fun e w' => e = .returned (.bool true) ∧ ∃ o1 o2 o3 o4, w' = ((((w.alloc o1).alloc o2).alloc o3).alloc o4).setCell a n
section at_
variable {P : Program} {mx : P.follows .mixedOrders = true} {gs : List Nat} {T : Nat} {et : Value} {tabs : List (Nat × Array Value)} {ns : List Nat}
theorem as_at {g : FuncId} {ps : List (Nat × Nat)} (hA : AsOK P g et ps) {st : St} {vs : List PV} {out : Out} (h : spAsG ps (look st.objs) vs = some out) : SpAt (cxOf P mx gs T et tabs ns) g st vs out := by
  refine ⟨hA.enters, ?_⟩
  unfold spAsG at h
  split at h
  · split at h
    · rename_i hp
      obtain ⟨hp, rfl⟩ := hp
      cases h
      intro E w0 I0 F0 O0 Hd R e ds I F lp L tmv suf us w dst hs hf hu hd
      obtain ⟨u, v, rfl, h1, h2⟩ := repL2 hu
      rw [inv_nilI h1]
      refine callsIn_wide.2 ((hA.none v w).mono ?_)
      rintro ev w' ⟨rfl, rfl⟩
      exact sp_pure hs hf (lawEnd_refl _) (.bool false)
    · cases h
  · split at h
    · rename_i t x p nm o _ ty cs hlk
      split at h
      · rename_i hp
        obtain ⟨hpp, rfl, hc1, hx1⟩ := hp
        cases h
        intro E w0 I0 F0 O0 Hd R e ds I F lp L tmv suf us w dst hs hf hu hd
        obtain ⟨u, v, rfl, h1, h2⟩ := repL2 hu
        obtain ⟨u', rfl, hx⟩ := inv_iface h1
        obtain ⟨v', rfl, hr⟩ := inv_iface h2
        obtain ⟨b, C, hL, rfl⟩ := inv_ref hr
        obtain ⟨q, hq, hob⟩ := hs.ob nm _ hlk
        rw [hL] at hq; cases hq
        obtain ⟨c, E', hb, hC, hone, hcs⟩ := hob
        unfold okCells at hx1
        simp only [Bool.and_eq_true, beq_iff_eq] at hx1
        obtain ⟨hu1, hu2⟩ := hx.cells hx1.1
        have len1 : u'.cells.size = 1 := by
          have := hu2.length
          simpa [hx1.2] using this.symm
        have lenc : c.size = 1 := by
          have := hcs.length
          simpa [hc1] using this.symm
        obtain ⟨n, hn⟩ : ∃ n, u'.cells = #[n] := arr_one len1
        obtain ⟨old, rfl⟩ : ∃ n, c = #[n] := arr_one lenc
        have hn1 : n.oneCell' = true := hu1 n (by simp [hn])
        have hbl : b < w.heap.size := (hf.lB nm b C hL).2.1
        refine callsIn_wide.2 ((hA.hit p t hpp u' n hn hn1 ⟨b, 0, none⟩ old w hf.wd.et0.2 (by simp [World.cell?, hb]) (by simp [World.frozen?, hb])).mono ?_)
        rintro ev w' ⟨rfl, o1, o2, o3, o4, hw'⟩
        have hother : ∀ k, k < w.heap.size → k ≠ b → w'.heap[k]? = w.heap[k]? := fun k hk hkb => by
          subst hw'
          rw [Go.RowKit.Below.heap_setCell _ _ _ _ hkb, heap_alloc_lt _ _ (by simp; omega), heap_alloc_lt _ _ (by simp; omega), heap_alloc_lt _ _ (by simp; omega), heap_alloc_lt _ _ hk]
        have hself : w'.heap[b]? = some (.cells #[n] E' (0, 0)) := by
          subst hw'
          suffices key : ((((w.alloc o1).alloc o2).alloc o3).alloc o4).heap[b]? = some (.cells #[old] E' (0, 0)) by
            have := setCell_same (o := 0) (n := n) key
            simpa using this
          rw [heap_alloc_lt _ _ (by simp; omega), heap_alloc_lt _ _ (by simp; omega), heap_alloc_lt _ _ (by simp; omega), heap_alloc_lt _ _ hbl]
          exact hb
        have hI : ∀ k, I k → w'.heap[k]? = w.heap[k]? := fun k hk => hother k (hf.sep.iB k hk) fun e => (hf.lB nm b C hL).2.2.1 (e ▸ hk)
        refine sp_turn hs hf hL (by subst hw'; rfl) (by subst hw'; rfl) (by subst hw'; rfl) (by subst hw'; rw [size_setCell]; simp; omega) hother ?_ (.bool true)
        exact ⟨#[n], E', hself, hC, ⟨fun v hv => by simp at hv; subst hv; exact hn1, hone.2⟩, RepL.mono (fun _ h => h) hI (fun _ _ h => h) (by rw [hn] at hu2; exact hu2)⟩
      · cases h
    · cases h
  · cases h
theorem as_here (ps : List (Nat × Nat)) : SpHere (spAsG ps) := by
  intro σ σ' vs h
  unfold spAsG
  split
  · rfl
  · rename_i t x p nm o
    rw [h nm (reach_mem _ _ nm (by simp [namesL, PV.names]))]
  · rfl
def spIsG (gs : List Nat) (T : Nat) (S : List Nat) : List PV → Option Out
  | [.nilI, .glob g t] => if g ∈ gs ∧ t = T then some { v := .bool false } else none
  | [.glob g t, .glob g' t'] => if g ∈ gs ∧ g' ∈ gs ∧ t = T ∧ t' = T then some { v := .bool (g == g') } else none
  | [.iface s x, .glob g t] => if g ∈ gs ∧ t = T ∧ s ∈ S ∧ okV x = true then some { v := .bool false } else none
  | _ => none
structure IsOK (P : Program) (g : FuncId) (T : Nat) (S : List Nat) : Prop where
  enters : Enters P g
  none : ∀ (a : Addr) (w : World), Calls P g #[.nilIface, .iface T (.pointer (some a))] w fun e w' => e = .returned (.bool false) ∧ w' = w
  same : ∀ (a : Addr) (w : World), Calls P g #[.iface T (.pointer (some a)), .iface T (.pointer (some a))] w fun e w' => e = .returned (.bool true) ∧ w' = w
  other : ∀ (a b : Addr) (ca cb : Array Value) (ta tb : TypeId) (w : World), a ≠ b → w.heap[a.block]? = some (.cells ca ta (0, 0)) → w.heap[b.block]? = some (.cells cb tb (0, 0)) →
    Calls P g #[.iface T (.pointer (some a)), .iface T (.pointer (some b))] w fun e w' => e = .returned (.bool false) ∧ w' = w
  type : ∀ s ∈ S, ∀ (v : Value) (b : Addr) (w : World), Calls P g #[.iface s v, .iface T (.pointer (some b))] w fun e w' => e = .returned (.bool false) ∧ w' = w
theorem is_at {g : FuncId} {S : List Nat} (hA : IsOK P g T S) {st : St} {vs : List PV} {out : Out} (h : spIsG gs T S vs = some out) : SpAt (cxOf P mx gs T et tabs ns) g st vs out := by
  refine ⟨hA.enters, ?_⟩
  unfold spIsG at h
  split at h
  · split at h
    · rename_i hp
      obtain ⟨hgg, rfl⟩ := hp
      cases h
      intro E w0 I0 F0 O0 Hd R e ds I F lp L tmv suf us w dst hs hf hu hd
      obtain ⟨u, v, rfl, h1, h2⟩ := repL2 hu
      rw [inv_nilI h1]
      obtain ⟨ad, e1, e2⟩ := hf.wd.err
      obtain ⟨x, c, E', fr, rfl, q1, q2⟩ := inv_globV h2
      obtain ⟨_, _, ⟨_, _, a3⟩, _⟩ := e1 _ hgg
      rw [a3] at q1; cases q1; cases q2
      refine callsIn_wide.2 ((hA.none _ w).mono ?_)
      rintro ev w' ⟨rfl, rfl⟩
      exact sp_pure hs hf (lawEnd_refl _) (.bool false)
    · cases h
  · rename_i g1 t1 g2 t2
    split at h
    · rename_i hp
      obtain ⟨hg1, hg2, rfl, rfl⟩ := hp
      cases h
      intro E w0 I0 F0 O0 Hd R e ds I F lp L tmv suf us w dst hs hf hu hd
      obtain ⟨u, v, rfl, h1, h2⟩ := repL2 hu
      obtain ⟨ad, e1, e2⟩ := hf.wd.err
      obtain ⟨x, c, E', fr, rfl, q1, q2⟩ := inv_globV h1
      obtain ⟨y, c', E'', fr', rfl, q1', q2'⟩ := inv_globV h2
      obtain ⟨_, _, ⟨_, _, a3⟩, ca, ta, a4⟩ := e1 _ hg1
      obtain ⟨_, _, ⟨_, _, b3⟩, cb, tb, b4⟩ := e1 _ hg2
      rw [a3] at q1; cases q1; cases q2
      rw [b3] at q1'; cases q1'; cases q2'
      by_cases hgg : g1 = g2
      · subst hgg
        refine callsIn_wide.2 ((hA.same _ w).mono ?_)
        rintro ev w' ⟨rfl, rfl⟩
        rw [beq_self_eq_true]
        exact sp_pure hs hf (lawEnd_refl _) (.bool true)
      · refine callsIn_wide.2 ((hA.other _ _ ca cb ta tb w (e2 _ hg1 _ hg2 hgg) a4 b4).mono ?_)
        rintro ev w' ⟨rfl, rfl⟩
        rw [beq_eq_false_iff_ne.2 hgg]
        exact sp_pure hs hf (lawEnd_refl _) (.bool false)
    · cases h
  · rename_i ss x g1 t1
    split at h
    · rename_i hp
      obtain ⟨hgg, rfl, hS, hx⟩ := hp
      cases h
      intro E w0 I0 F0 O0 Hd R e ds I F lp L tmv suf us w dst hs hf hu hd
      obtain ⟨u, v, rfl, h1, h2⟩ := repL2 hu
      obtain ⟨u', rfl, hx'⟩ := inv_iface h1
      obtain ⟨ad, e1, e2⟩ := hf.wd.err
      obtain ⟨x, c, E', fr, rfl, q1, q2⟩ := inv_globV h2
      obtain ⟨_, _, ⟨_, _, a3⟩, _⟩ := e1 _ hgg
      rw [a3] at q1; cases q1; cases q2
      refine callsIn_wide.2 ((hA.type _ hS u' _ w).mono ?_)
      rintro ev w' ⟨rfl, rfl⟩
      exact sp_pure hs hf (lawEnd_refl _) (.bool false)
    · cases h
  · cases h
end at_
section any
variable {cx : Cx} {g : FuncId} {st : St} {vs : List PV} {out : Out}
def countB (c : UInt8) : List UInt8 → Nat
  | [] => 0
  | x :: xs => (if x = c then 1 else 0) + countB c xs
def spCount : List PV → Option Out
  | [.str s, .str [c]] => some { v := .int .i64 (countB c s : Nat) }
  | _ => none
def spIdx : List PV → Option Out
  | [.str s, .int .u8 c] => if 0 ≤ c ∧ c < 256 then some { v := .int .i64 (Lib.indexByte s (UInt8.ofNat c.toNat)) } else none
  | _ => none
def spGrow : List PV → Option Out
  | [.nilS, .int .i64 n] => if 0 ≤ n ∧ n ≤ 1000000 then some { v := .arr (0, 0) 1 0 0, new := [.arr 1 0 []] } else none
  | _ => none
def spCheck (T : Nat) (σ : Nm → Option Ob) : List PV → Option Out
  | [.ref n 0] => match σ n with
    | some (.cells t [.nilP, x]) => if t = T then some { v := .tup [], upd := some (n, .cells T [.ref n 0, x]) } else none
    | some (.cells t [.ref n' 0, _]) => if t = T ∧ n' = n then some { v := .tup [] } else none
    | _ => none
  | _ => none
def spStr (T U : Nat) (σ : Nm → Option Ob) : List PV → Option Out
  | [.ref n 0] => match σ n with
    | some (.cells t [_, .nilS]) => if t = T then some { v := .str [] } else none
    | some (.cells t [_, .arr n' 1 0 k]) => match σ n' with
      | some (.arr 1 u xs) => match bytesOf (xs.take k) with
        | some s => if t = T ∧ u = U ∧ n' ≠ n ∧ 0 < k ∧ k ≤ xs.length ∧ k ≤ mostLen then some { v := .str s, upd := some (n', dead), kill := some n' } else none
        | none => none
      | _ => none
    | _ => none
  | _ => none
theorem check_here (T : Nat) : SpHere (spCheck T) := by
  intro σ σ' vs h
  unfold spCheck
  split
  · rename_i n
    rw [h n (reach_mem _ _ n (by simp [namesL, PV.names]))]
  · rfl
theorem str_here (T U : Nat) : SpHere (spStr T U) := by
  intro σ σ' vs h
  unfold spStr
  split
  · rename_i n
    rw [← h n (reach_mem _ _ n (by simp [namesL, PV.names]))]
    have h2 : ∀ t a n' k, σ n = some (.cells t [a, .arr n' 1 0 k]) → σ n' = σ' n' := by
      intro t a n' k he
      refine h n' ?_
      show n' ∈ reach σ 3 [n]
      unfold reach
      refine List.mem_append_right _ (reach_mem _ _ n' ?_)
      simp [he, Ob.names, namesL, PV.names]
    generalize hx : σ n = o at *
    split
    · rfl
    · rename_i t a n' k
      rw [h2 t a n' k rfl]
    · rfl
  · rfl
theorem repL_bytes {w : World} {I : Nat → Prop} {lp : Nat → Option Nat} {L : Option Loc} : ∀ (xs : List PV) (vs : List Value) (s : List UInt8), RepL w I lp L xs vs → bytesOf xs = some s → ∀ (j : Nat) (x : UInt8), s[j]? = some x → vs[j]? = some (.int .u8 (x.toNat : Int))
  | [], _, s, _, h, j, x, hj => by cases h; simp at hj
  | p :: xs, _, s, h, hb, j, x, hj => by
    cases h with
    | cons _ v _ vs hv hs =>
      simp only [bytesOf] at hb
      split at hb
      · rename_i b bs h1 h2
        cases hb
        have hp : v = .int .u8 (b.toNat : Int) := by
          unfold byteOf at h1
          split at h1
          · rename_i n
            split at h1
            · rename_i hn
              cases h1
              rw [inv_int hv]
              congr 1
              simp
              omega
            · cases h1
          · cases h1
        cases j with
        | zero => simp at hj; subst hj; simp [hp]
        | succ j => simp at hj ⊢; exact repL_bytes xs vs bs hs h2 j x hj
      · cases hb
theorem bytesOf_len : ∀ (xs : List PV) (s : List UInt8), bytesOf xs = some s → s.length = xs.length
  | [], s, h => by cases h; rfl
  | p :: xs, s, h => by
    simp only [bytesOf] at h
    split at h
    · rename_i b bs h1 h2
      cases h
      simp [bytesOf_len xs bs h2]
    · cases h
theorem cells_flat : ∀ (xs : List PV) (s : List UInt8), bytesOf xs = some s → cellsL xs = xs
  | [], _, _ => rfl
  | p :: xs, s, h => by
    simp only [bytesOf] at h
    split at h
    · rename_i b bs h1 h2
      have hp : p.cells = [p] := by
        unfold byteOf at h1
        split at h1
        · rfl
        · cases h1
      simp [cellsL, hp, cells_flat xs bs h2]
    · cases h
theorem arr_two {c : Array Value} {a b : Value} (h : c.toList = [a, b]) : c = #[a, b] := by
  apply Array.toList_inj.1
  simpa using h
theorem freeze_other {W : World} {a : Addr} {n k : Nat} (h : k ≠ a.block) : (W.freeze a n).heap[k]? = W.heap[k]? := by
  unfold World.freeze
  split
  · rfl
  · simp [Array.getElem?_modify, Ne.symm h]
theorem repL4 {w : World} {I : Nat → Prop} {lp : Nat → Option Nat} {L : Option Loc} {a b c d : PV} {us : List Value} (h : RepL w I lp L [a, b, c, d] us) : ∃ u v x y, us = [u, v, x, y] ∧ RepV w I lp L a u ∧ RepV w I lp L b v ∧ RepV w I lp L c x ∧ RepV w I lp L d y := by
  obtain ⟨u, r, h1, rfl, h2⟩ : ∃ u r, RepV w I lp L a u ∧ us = u :: r ∧ RepL w I lp L [b, c, d] r := by
    cases h; exact ⟨_, _, by assumption, rfl, by assumption⟩
  obtain ⟨v, r, h3, rfl, h4⟩ : ∃ u q, RepV w I lp L b u ∧ r = u :: q ∧ RepL w I lp L [c, d] q := by
    cases h2; exact ⟨_, _, by assumption, rfl, by assumption⟩
  obtain ⟨x, y, rfl, h5, h6⟩ := repL2 h4
  exact ⟨u, v, x, y, rfl, h1, h3, h5, h6⟩
structure BldOK (P : Program) (gc gs : FuncId) (T U : Nat) : Prop where
  entersC : Enters P gc
  entersS : Enters P gs
  nzT : T ≠ 0
  nzU : U ≠ 0
  used : ∀ (b : Nat) (w : World), w.cell? ⟨b, 0, none⟩ = some (.pointer (some ⟨b, 0, none⟩)) → Calls P gc #[.pointer (some ⟨b, 0, none⟩)] w fun e w' => e = .returned (.tuple #[]) ∧ w' = w
  fresh : ∀ (b : Nat) (w : World), w.cell? ⟨b, 0, none⟩ = some (.pointer none) → w.shape? b = some (T, 2) → w.frozen? ⟨b, 0, none⟩ = false →
    Calls P gc #[.pointer (some ⟨b, 0, none⟩)] w fun e w' => e = .returned (.tuple #[]) ∧ w' = w.setCell ⟨b, 0, none⟩ (.pointer (some ⟨b, 0, none⟩))
  strNil : ∀ (b : Nat) (p : Value) (w : World), w.heap[b]? = some (.cells #[p, .slice none 0 0] T (0, 0)) → Calls P gs #[.pointer (some ⟨b, 0, none⟩)] w fun e w' => e = .returned (.string ⟨#[]⟩) ∧ w' = w.drew
  strSome : ∀ (b g cap : Nat) (p : Value) (cur : Array Value) (l : List UInt8) (w : World), w.heap[b]? = some (.cells #[p, .slice (some ⟨g, 0, none⟩) l.length cap] T (0, 0)) → w.heap[g]? = some (.cells cur U (0, 0)) → l ≠ [] → l.length ≤ cap → l.length ≤ cur.size →
    l.length ≤ 9223372036854775807 → (∀ (j : Nat) (x : UInt8), l[j]? = some x → cur[j]? = some (Value.int .u8 (x.toNat : Int))) →
    Calls P gs #[.pointer (some ⟨b, 0, none⟩)] w fun e w' => e = .returned (.string ⟨l.toArray⟩) ∧ w' = w.drew.freeze ⟨g, 0, none⟩ l.length
theorem check_at {gs : FuncId} {T U : Nat} (hB : BldOK cx.P g gs T U) (h : spCheck T (look st.objs) vs = some out) : SpAt cx g st vs out := by
  refine ⟨hB.entersC, ?_⟩
  unfold spCheck at h
  split at h
  · rename_i n
    split at h
    · rename_i t x hlk
      split at h
      case isFalse => cases h
      rename_i ht
      subst ht
      cases h
      intro E w0 I0 F0 O0 Hd R e ds I F lp L tmv suf us w dst hs hf hu hd
      obtain ⟨u, rfl, hr⟩ := repL1 hu
      obtain ⟨b, C, hL, rfl⟩ := inv_ref hr
      obtain ⟨q, hq, hob⟩ := hs.ob n _ hlk
      rw [hL] at hq; cases hq
      obtain ⟨c, E', hb, hC, hone, hcs⟩ := hob
      obtain ⟨v0, v1, hc, r0, r1⟩ := repL2 hcs
      have hc := arr_two hc
      subst hc
      obtain rfl : E' = t := hone.2.resolve_left hB.nzT
      rw [inv_nilP r0] at hb
      refine callsIn_wide.2 ((hB.fresh b w (by simp [World.cell?, hb]) (by simp [World.shape?, hb]) (by simp [World.frozen?, hb])).mono ?_)
      rintro ev w' ⟨rfl, rfl⟩
      have hself := setCell_same (o := 0) (n := .pointer (some ⟨b, 0, none⟩)) hb
      have hI : ∀ k, I k → (w.setCell ⟨b, 0, none⟩ (.pointer (some ⟨b, 0, none⟩))).heap[k]? = w.heap[k]? := fun k hk => Go.RowKit.Below.heap_setCell _ _ _ _ fun (e : k = b) => (hf.lB n b C hL).2.2.1 (e ▸ hk)
      refine sp_turn (w' := w.setCell ⟨b, 0, none⟩ (.pointer (some ⟨b, 0, none⟩))) hs hf hL rfl rfl rfl (by rw [size_setCell]; exact Nat.le_refl _) (fun k _ hk => Go.RowKit.Below.heap_setCell _ _ _ _ hk) ?_ (.tup [] #[] .nil)
      refine ⟨_, E', hself, by simpa using hC, ⟨?_, .inr rfl⟩, ?_⟩
      · intro v hv
        simp at hv
        rcases hv with rfl | rfl
        · rfl
        · exact hone.1 _ (by simp)
      · simp
        exact .cons _ _ _ _ (.ref n 0 b C hL) (.cons _ _ _ _ (RepV.mono (fun _ h => h) hI (fun _ _ h => h) r1) .nil)
    · rename_i t n' x hlk
      split at h
      · rename_i hn
        obtain ⟨rfl, rfl⟩ := hn
        cases h
        intro E w0 I0 F0 O0 Hd R e ds I F lp L tmv suf us w dst hs hf hu hd
        obtain ⟨u, rfl, hr⟩ := repL1 hu
        obtain ⟨b, C, hL, rfl⟩ := inv_ref hr
        obtain ⟨q, hq, hob⟩ := hs.ob _ _ hlk
        rw [hL] at hq; cases hq
        obtain ⟨c, E', hb, hC, hone, hcs⟩ := hob
        obtain ⟨v0, v1, hc, r0, r1⟩ := repL2 hcs
        have hc := arr_two hc
        subst hc
        obtain ⟨b', C', hL', rfl⟩ := inv_ref r0
        rw [hL] at hL'; cases hL'
        refine callsIn_wide.2 ((hB.used b w (by simp [World.cell?, hb])).mono ?_)
        rintro ev w' ⟨rfl, rfl⟩
        exact sp_pure hs hf (lawEnd_refl _) (.tup [] #[] .nil)
      · cases h
    · cases h
  · cases h
theorem str_at {gc : FuncId} {T U : Nat} (hB : BldOK cx.P gc g T U) (h : spStr T U (look st.objs) vs = some out) : SpAt cx g st vs out := by
  refine ⟨hB.entersS, ?_⟩
  unfold spStr at h
  split at h
  · rename_i n
    split at h
    · rename_i t x hlk
      split at h
      case isFalse => cases h
      rename_i ht
      subst ht
      cases h
      intro E w0 I0 F0 O0 Hd R e ds I F lp L tmv suf us w dst hs hf hu hd
      obtain ⟨u, rfl, hr⟩ := repL1 hu
      obtain ⟨b, C, hL, rfl⟩ := inv_ref hr
      obtain ⟨q, hq, hob⟩ := hs.ob _ _ hlk
      rw [hL] at hq; cases hq
      obtain ⟨c, E', hb, hC, hone, hcs⟩ := hob
      obtain ⟨v0, v1, hc, r0, r1⟩ := repL2 hcs
      have hc := arr_two hc
      subst hc
      obtain rfl : E' = t := hone.2.resolve_left hB.nzT
      rw [inv_nilS r1] at hb
      refine callsIn_wide.2 ((hB.strNil b v0 w hb).mono ?_)
      rintro ev w' ⟨rfl, rfl⟩
      exact sp_pure (w' := w.drew) hs hf ⟨rfl, rfl, rfl, Nat.le_refl _, fun _ _ => rfl⟩ (.str [])
    · rename_i t x n' k hlk
      split at h
      · rename_i u' xs hlk'
        split at h
        · rename_i s hs'
          split at h
          · rename_i hc0
            obtain ⟨rfl, rfl, hnn, hk0, hkl, hkm⟩ := hc0
            cases h
            intro E w0 I0 F0 O0 Hd R e ds I F lp L tmv suf us w dst hs hf hu hd
            obtain ⟨u, rfl, hr⟩ := repL1 hu
            obtain ⟨b, C, hL, rfl⟩ := inv_ref hr
            obtain ⟨q, hq, hob⟩ := hs.ob _ _ hlk
            rw [hL] at hq; cases hq
            obtain ⟨c, E', hb, hC, hone, hcs⟩ := hob
            obtain ⟨v0, v1, hc, r0, r1⟩ := repL2 hcs
            have hc := arr_two hc
            subst hc
            obtain rfl : E' = t := hone.2.resolve_left hB.nzT
            obtain ⟨q', hq', hob'⟩ := hs.ob _ _ hlk'
            rcases inv_arr r1 with ⟨g, C', cap, hL', rfl, hC', hn⟩ | ⟨_, _, _, h0⟩
            · rw [hL'] at hq'; cases hq'
              obtain ⟨cur, E2, hg, hCg, hle, hkx, hone2, hrep⟩ := hob'
              obtain rfl : E2 = u' := hle.2.resolve_left hB.nzU
              have hlen := bytesOf_len _ _ hs'
              rw [List.length_take, Nat.min_eq_left hkl] at hlen
              have hrk : RepL w I lp none (xs.take k) (cur.toList.take k) := by
                have h1 := hrep.take k
                rw [show k = k * 1 by omega, ← cellsL_take hkx, cells_flat _ _ hs', List.take_take, Nat.min_eq_left (by omega)] at h1
                simpa using h1
              have hbytes := repL_bytes _ _ _ hrk hs'
              have hcur : k ≤ cur.size := by have := hle.1; omega
              subst hlen
              refine callsIn_wide.2 ((hB.strSome b g cap v0 cur s w (by simpa using hb) hg (by intro e; subst e; simp at hk0) hn hcur ?_ ?_).mono ?_)
              · unfold mostLen at hkm; omega
              · intro j x hx
                have hj : j < s.length := (List.getElem?_eq_some_iff.1 hx).1
                have h1 := hbytes j x hx
                rw [List.getElem?_take_of_lt hj] at h1
                simpa using h1
              · rintro ev w' ⟨rfl, rfl⟩
                have hfz : ∀ (W : World) (a : Addr) (n : Nat), (W.freeze a n).os = W.os ∧ (W.freeze a n).tape = W.tape ∧ (W.freeze a n).output = W.output ∧ (W.freeze a n).heap.size = W.heap.size := fun W a n => by
                  unfold World.freeze
                  split <;> simp
                obtain ⟨f1, f2, f3, f4⟩ := hfz w.drew ⟨g, 0, none⟩ s.length
                refine sp_gone (w' := w.drew.freeze ⟨g, 0, none⟩ s.length) hs hf hL' f1 f2 f3 (Nat.le_of_eq f4.symm) (fun k' hk' hne => ?_) (fun L' => .str s)
                rw [freeze_other (fun e => hne C' (by rw [e]))]
                rfl
            · omega
          · cases h
        · cases h
      · cases h
    · cases h
  · cases h
end any
def digs : Nat → Nat → List UInt8
  | 0, _ => []
  | k + 1, u => if u < 10 then [UInt8.ofNat (48 + u)] else digs k (u / 10) ++ [UInt8.ofNat (48 + u % 10)]
def itoaF (n : Int) : List UInt8 := if n < 0 then 45 :: digs 20 n.natAbs else digs 20 n.toNat
theorem digs_eq : ∀ (k u : Nat), u < 10 ^ k → 0 < k → digs k u = Lib.decDigits u
  | 0, _, _, h => absurd h (Nat.lt_irrefl _)
  | k + 1, u, h, _ => by
    unfold digs
    rw [Lib.decDigits]
    by_cases hu : u < 10
    · rw [if_pos hu, dif_pos hu]
    · rw [if_neg hu, dif_neg hu]
      have h1 : 0 < k := by
        rcases Nat.eq_zero_or_pos k with rfl | hk
        · exact absurd (by simpa using h) hu
        · exact hk
      have h2 : u / 10 < 10 ^ k := by
        refine Nat.div_lt_of_lt_mul ?_
        rw [Nat.pow_succ, Nat.mul_comm] at h
        exact h
      rw [digs_eq k (u / 10) h2 h1]
theorem itoa_eq (n : Int) (h0 : -9223372036854775808 ≤ n) (h1 : n ≤ 9223372036854775807) : itoaF n = Lib.itoa n := by
  unfold itoaF Lib.itoa
  have hp : (18446744073709551616 : Nat) ≤ 10 ^ 20 := by decide
  rw [digs_eq 20 n.natAbs (by omega) (by decide), digs_eq 20 n.toNat (by omega) (by decide)]
def spFmt : List PV → Option Out
  | [.int .i64 n, .int .i64 10] => if -9223372036854775808 ≤ n ∧ n ≤ 9223372036854775807 then some { v := .str (itoaF n) } else none
  | _ => none
def spRepl : List PV → Option Out
  | [.str s, .str old, .str new, .int .i64 n] => if s.length ≤ 65536 ∧ new.length ≤ 65536 ∧ 1 ≤ old.length then some { v := .str (Lib.replace s old new n) } else none
  | _ => none
section at2
variable {P : Program} {mx : P.follows .mixedOrders = true} {gs : List Nat} {T : Nat} {et : Value} {tabs : List (Nat × Array Value)} {ns : List Nat} {g : FuncId} {st : St} {vs : List PV} {out : Out}
theorem fmt_at (he : Enters P g) {gt : Nat} (ht : (gt, (Lib.pow10Tab.map fun z => Value.int .u64 z).toArray) ∈ tabs) (hn : P.globalNamed "internal/strconv.uint64pow10" = some gt)
    (hc : ∀ (n : Int), -9223372036854775808 ≤ n → n ≤ 9223372036854775807 → ∀ w : World, Lib.TabIs P w "internal/strconv.uint64pow10" .u64 Lib.pow10Tab → Calls P g #[.int .i64 n, .int .i64 10] w fun e w' => e = .returned (.string ⟨(Lib.itoa n).toArray⟩) ∧ ∃ k os, w' = Sort.grow (w.drewN k) os)
    (h : spFmt vs = some out) : SpAt (cxOf P mx gs T et tabs ns) g st vs out := by
  refine ⟨he, ?_⟩
  unfold spFmt at h
  split at h
  · rename_i n
    split at h
    · rename_i hr
      cases h
      intro E w0 I0 F0 O0 Hd R e ds I F lp L tmv suf us w dst hs hf hu hd
      obtain ⟨u, v, rfl, h1, h2⟩ := repL2 hu
      rw [inv_int h1, inv_int h2]
      obtain ⟨_, E', fr, hp⟩ := hf.wd.tab _ ht
      have ht : Lib.TabIs P w "internal/strconv.uint64pow10" .u64 Lib.pow10Tab := by
        unfold Lib.TabIs World.var?
        rw [hn]
        simp only [Option.bind_some, hp]
      refine callsIn_wide.2 ((hc n hr.1 hr.2 w ht).mono ?_)
      rintro ev w' ⟨rfl, k, os, rfl⟩
      rw [itoa_eq n hr.1 hr.2]
      exact sp_pure hs hf (lawEnd_belowW (Lib.below_grow _ w (Nat.le_refl _) k os)) (.str _)
    · cases h
  · cases h
theorem repl_at (he : Enters P g) {gm : Nat} (hg : gm ∈ ns)
    (hc : ∀ (s old new : ByteArray) (n m : Int) (w : World), s.size < 4294967281 → w.cell? ⟨gm, 0, none⟩ = some (.int .i64 m) → 1 ≤ old.size → s.size + Lib.countB s old * new.size ≤ 140737488355328 →
      Calls P g #[.string s, .string old, .string new, .int .i64 n] w fun e w' => e = .returned (.string ⟨(Lib.replace s.data.toList old.data.toList new.data.toList n).toArray⟩) ∧ Go.RowKit.Below w.heap.size w w')
    (h : spRepl vs = some out) : SpAt (cxOf P mx gs T et tabs ns) g st vs out := by
  refine ⟨he, ?_⟩
  unfold spRepl at h
  split at h
  · rename_i s old new n
    split at h
    · rename_i hr
      obtain ⟨l1, l2, l3⟩ := hr
      cases h
      intro E w0 I0 F0 O0 Hd R e ds I F lp L tmv suf us w dst hs hf hu hd
      obtain ⟨u1, u2, u3, u4, rfl, h1, h2, h3, h4⟩ := repL4 hu
      rw [inv_str h1, inv_str h2, inv_str h3, inv_int h4]
      obtain ⟨_, m, hm⟩ := hf.wd.num _ hg
      have hcl := Lib.count_le s old
      refine callsIn_wide.2 ((hc ⟨s.toArray⟩ ⟨old.toArray⟩ ⟨new.toArray⟩ n m w (by show s.toArray.size < _; simp; omega) hm (by show 1 ≤ old.toArray.size; simp; omega) (by
        show s.toArray.size + Lib.count s.toArray.toList old.toArray.toList * new.toArray.size ≤ _
        simp only [List.size_toArray]
        have : Lib.count s old * new.length ≤ 65537 * 65536 := Nat.mul_le_mul (by omega) l2
        omega)).mono ?_)
      rintro ev w' ⟨rfl, hw⟩
      exact sp_pure hs hf (lawEnd_belowW hw) (.str _)
    · cases h
  · cases h
end at2
theorem cfg_loc {sp : FuncId → (Nm → Option Ob) → List PV → Option Out} (h : ∀ g, SpHere (sp g)) (g : FuncId) (σ : Nm → Option Ob) (vs : List PV) (hv : okVL vs = true) : sp g σ vs = sp g (fun _ => none) vs := by
  refine h g σ _ vs fun nm hm => ?_
  rw [(okVL_names hv).1] at hm
  have : reach σ deepest [] = [] := by simp [reach, deepest]
  rw [this] at hm
  cases hm
theorem as_cfg {ps : List (Nat × Nat)} {p t : Nat} (hp : ps.lookup p = some t) {σ : Nm → Option Ob} {nm : Nm} {ty : Nat} {cs : List PV} (h1 : σ nm = some (.cells ty cs)) (h2 : cs.length = 1) :
    spAsG ps σ [.nilI, .iface p (.ref nm 0)] = some { v := .bool false } ∧ ∀ x, okCells x 1 = true → spAsG ps σ [.iface t x, .iface p (.ref nm 0)] = some { v := .bool true, upd := some (nm, .cells ty x.cells) } := by
  refine ⟨by simp [spAsG, hp], fun x hx => ?_⟩
  unfold spAsG
  simp only [h1, hp, h2, hx, and_self, if_true]
end Go.Ab


namespace Go.Ab
open Go
def globs0 : Globs := globsE [1, 2] 265
noncomputable def mkF (io shut leans : Bool) (nt : Nat) (f : FuncId) : RFn := { nt, code := ((compF Go.Proofs.Tryz.prog globs0 (deadOf Go.Proofs.Tryz.prog f) f).getD default).code, res := ((compF Go.Proofs.Tryz.prog globs0 (deadOf Go.Proofs.Tryz.prog f) f).getD default).res, io, shut, leans }
theorem mkF_comp {io shut leans : Bool} {nt : Nat} {f : FuncId} (h : (compF Go.Proofs.Tryz.prog globs0 (deadOf Go.Proofs.Tryz.prog f) f).map (·.nt) = some nt) : compF Go.Proofs.Tryz.prog globs0 (deadOf Go.Proofs.Tryz.prog f) f = some { mkF io shut leans nt f with io := false, shut := false, leans := false } := by
  obtain ⟨fn, h1, rfl⟩ := Option.map_eq_some_iff.1 h
  unfold mkF
  rw [h1]
  have h2 := h1
  unfold compF at h2
  split at h2
  · split at h2
    · split at h2
      · cases h2
      · cases h2; rfl
    · cases h2
  · cases h2
noncomputable def fn9 : RFn := mkF false true false 68 9
noncomputable def fn10 : RFn := mkF false true false 55 10
noncomputable def fn11 : RFn := mkF false true false 62 11
noncomputable def fn12 : RFn := mkF false true false 15 12
noncomputable def fn14 : RFn := mkF false true false 8 14
noncomputable def fn18 : RFn := mkF false true false 24 18
noncomputable def fn25 : RFn := mkF false true true 5 25
noncomputable def fn26 : RFn := mkF false true false 24 26
noncomputable def fn27 : RFn := mkF false true false 24 27
noncomputable def fn28 : RFn := mkF false true false 24 28
noncomputable def fn29 : RFn := mkF false true false 11 29
noncomputable def fn30 : RFn := mkF false true false 29 30
noncomputable def fn31 : RFn := mkF false true false 22 31
noncomputable def fn32 : RFn := mkF false true false 80 32
noncomputable def fn33 : RFn := mkF false true false 27 33
noncomputable def fn47 : RFn := mkF false true false 26 47
noncomputable def fn51 : RFn := mkF false true false 41 51
noncomputable def fn52 : RFn := mkF false true false 26 52
noncomputable def fn53 : RFn := mkF false true false 6 53
noncomputable def fn54 : RFn := mkF false true false 17 54
noncomputable def fn55 : RFn := mkF false true false 9 55
noncomputable def fn56 : RFn := mkF false true false 5 56
noncomputable def fn57 : RFn := mkF false true false 4 57
noncomputable def fn58 : RFn := mkF false true false 88 58
noncomputable def fn59 : RFn := mkF false true false 9 59
noncomputable def fn90 : RFn := mkF false true false 17 90
noncomputable def fn91 : RFn := mkF false true false 19 91
noncomputable def fn92 : RFn := mkF false true false 13 92
noncomputable def fn93 : RFn := mkF false true false 20 93
noncomputable def fn94 : RFn := mkF false true false 11 94
noncomputable def fn13 : RFn := mkF false true false 18 13
noncomputable def fn16 : RFn := mkF false true false 22 16
noncomputable def fn19 : RFn := mkF false true false 13 19
noncomputable def fn21 : RFn := mkF false true false 13 21
noncomputable def fn23 : RFn := mkF false true false 13 23
noncomputable def fn34 : RFn := mkF false true false 29 34
noncomputable def fn35 : RFn := mkF false true false 7 35
noncomputable def fn36 : RFn := mkF false true false 56 36
noncomputable def fn37 : RFn := mkF false true false 33 37
noncomputable def fn41 : RFn := mkF false true false 7 41
noncomputable def fn42 : RFn := mkF false true false 101 42
noncomputable def fn43 : RFn := mkF false true false 38 43
noncomputable def fn48 : RFn := mkF false true false 21 48
noncomputable def fn49 : RFn := mkF false true false 12 49
noncomputable def fn60 : RFn := mkF false true false 34 60
noncomputable def fn61 : RFn := mkF false true false 10 61
noncomputable def fn62 : RFn := mkF false true false 17 62
noncomputable def fn63 : RFn := mkF false true false 9 63
noncomputable def fn64 : RFn := mkF false true false 11 64
noncomputable def fn65 : RFn := mkF false true false 31 65
noncomputable def fn66 : RFn := mkF false true false 10 66
noncomputable def fn67 : RFn := mkF false true false 6 67
noncomputable def fn68 : RFn := mkF false true false 9 68
noncomputable def fn75 : RFn := mkF false true false 29 75
noncomputable def fn76 : RFn := mkF false true false 38 76
noncomputable def fn77 : RFn := mkF false true false 6 77
noncomputable def fn78 : RFn := mkF false true false 36 78
noncomputable def fn84 : RFn := mkF false true false 57 84
noncomputable def fn85 : RFn := mkF false true false 14 85
noncomputable def fn86 : RFn := mkF false true false 34 86
noncomputable def fn87 : RFn := mkF false true false 4 87
noncomputable def fn88 : RFn := mkF false true false 14 88
noncomputable def fn89 : RFn := mkF false true false 17 89
noncomputable def fn96 : RFn := mkF true false false 19 96
noncomputable def fn97 : RFn := mkF false true false 11 97
noncomputable def fn98 : RFn := mkF false true false 6 98
noncomputable def fn100 : RFn := mkF false true false 5 100
noncomputable def fn101 : RFn := mkF false true false 10 101
noncomputable def fn102 : RFn := mkF false true false 36 102
noncomputable def fn103 : RFn := mkF false true false 11 103
noncomputable def fn104 : RFn := mkF false true false 4 104
noncomputable def fn105 : RFn := mkF false true false 10 105
noncomputable def fn106 : RFn := mkF false true false 56 106
noncomputable def fn107 : RFn := mkF false true false 18 107
noncomputable def fn108 : RFn := mkF false true true 21 108
noncomputable def fn109 : RFn := mkF false true false 13 109
noncomputable def fn110 : RFn := mkF false true false 16 110
noncomputable def fn111 : RFn := mkF false true false 13 111
noncomputable def fn112 : RFn := mkF false true false 59 112
noncomputable def fn113 : RFn := mkF false true false 44 113
noncomputable def fn114 : RFn := mkF false true false 56 114
noncomputable def fn115 : RFn := mkF false true false 8 115
noncomputable def fn116 : RFn := mkF false true false 9 116
noncomputable def fn117 : RFn := mkF false false false 13 117
noncomputable def fn118 : RFn := mkF false true false 73 118
noncomputable def fn119 : RFn := mkF false true false 11 119
noncomputable def fn120 : RFn := mkF false true false 53 120
noncomputable def fn121 : RFn := mkF false true false 17 121
noncomputable def fn122 : RFn := mkF false true false 72 122
noncomputable def fn123 : RFn := mkF false true false 47 123
noncomputable def fn124 : RFn := mkF false true false 8 124
noncomputable def fn125 : RFn := mkF false true false 6 125
noncomputable def fn126 : RFn := mkF false true false 11 126
noncomputable def fn127 : RFn := mkF false true false 9 127
noncomputable def fn128 : RFn := mkF false true false 6 128
noncomputable def fn132 : RFn := mkF false true false 36 132
noncomputable def fn133 : RFn := mkF false true false 51 133
noncomputable def fn134 : RFn := mkF false true false 43 134
noncomputable def fn135 : RFn := mkF false true false 11 135
noncomputable def fn136 : RFn := mkF false true false 11 136
noncomputable def fn137 : RFn := mkF false true false 10 137
noncomputable def fn138 : RFn := mkF false true false 66 138
noncomputable def fn139 : RFn := mkF false true false 10 139
noncomputable def fn140 : RFn := mkF false true false 41 140
noncomputable def fn141 : RFn := mkF false true false 21 141
noncomputable def fn142 : RFn := mkF false true false 16 142
noncomputable def fn149 : RFn := mkF false true false 4 149
noncomputable def fn150 : RFn := mkF false true false 13 150
noncomputable def fn151 : RFn := mkF false true false 27 151
noncomputable def fn160 : RFn := mkF false true false 5 160
noncomputable def fn161 : RFn := mkF false true false 32 161
noncomputable def fn162 : RFn := mkF false true false 20 162
noncomputable def fn163 : RFn := mkF false true false 19 163
noncomputable def fn164 : RFn := mkF false true false 11 164
noncomputable def fn165 : RFn := mkF false false false 36 165
noncomputable def fn166 : RFn := mkF true false false 28 166
noncomputable def fn167 : RFn := mkF false true false 4 167
noncomputable def fn168 : RFn := mkF false true false 19 168
noncomputable def fn170 : RFn := mkF false true false 51 170
noncomputable def fn171 : RFn := mkF false true false 10 171
noncomputable def fn178 : RFn := mkF false true false 15 178
noncomputable def fn179 : RFn := mkF false true false 19 179
noncomputable def fn185 : RFn := mkF false false false 25 185
noncomputable def fn195 : RFn := mkF false false false 30 195
noncomputable def fn190 : RFn := mkF false false false 27 190
noncomputable def tab0 : FuncId → Option RFn
  | 9 => some fn9
  | 10 => some fn10
  | 11 => some fn11
  | 12 => some fn12
  | 14 => some fn14
  | 18 => some fn18
  | 25 => some fn25
  | 26 => some fn26
  | 27 => some fn27
  | 28 => some fn28
  | 29 => some fn29
  | 30 => some fn30
  | 31 => some fn31
  | 32 => some fn32
  | 33 => some fn33
  | 47 => some fn47
  | 51 => some fn51
  | 52 => some fn52
  | 53 => some fn53
  | 54 => some fn54
  | 55 => some fn55
  | 56 => some fn56
  | 57 => some fn57
  | 58 => some fn58
  | 59 => some fn59
  | 90 => some fn90
  | 91 => some fn91
  | 92 => some fn92
  | 93 => some fn93
  | 94 => some fn94
  | 13 => some fn13
  | 16 => some fn16
  | 19 => some fn19
  | 21 => some fn21
  | 23 => some fn23
  | 34 => some fn34
  | 35 => some fn35
  | 36 => some fn36
  | 37 => some fn37
  | 41 => some fn41
  | 42 => some fn42
  | 43 => some fn43
  | 48 => some fn48
  | 49 => some fn49
  | 60 => some fn60
  | 61 => some fn61
  | 62 => some fn62
  | 63 => some fn63
  | 64 => some fn64
  | 65 => some fn65
  | 66 => some fn66
  | 67 => some fn67
  | 68 => some fn68
  | 75 => some fn75
  | 76 => some fn76
  | 77 => some fn77
  | 78 => some fn78
  | 84 => some fn84
  | 85 => some fn85
  | 86 => some fn86
  | 87 => some fn87
  | 88 => some fn88
  | 89 => some fn89
  | 96 => some fn96
  | 97 => some fn97
  | 98 => some fn98
  | 100 => some fn100
  | 101 => some fn101
  | 102 => some fn102
  | 103 => some fn103
  | 104 => some fn104
  | 105 => some fn105
  | 106 => some fn106
  | 107 => some fn107
  | 108 => some fn108
  | 109 => some fn109
  | 110 => some fn110
  | 111 => some fn111
  | 112 => some fn112
  | 113 => some fn113
  | 114 => some fn114
  | 115 => some fn115
  | 116 => some fn116
  | 117 => some fn117
  | 118 => some fn118
  | 119 => some fn119
  | 120 => some fn120
  | 121 => some fn121
  | 122 => some fn122
  | 123 => some fn123
  | 124 => some fn124
  | 125 => some fn125
  | 126 => some fn126
  | 127 => some fn127
  | 128 => some fn128
  | 132 => some fn132
  | 133 => some fn133
  | 134 => some fn134
  | 135 => some fn135
  | 136 => some fn136
  | 137 => some fn137
  | 138 => some fn138
  | 139 => some fn139
  | 140 => some fn140
  | 141 => some fn141
  | 142 => some fn142
  | 149 => some fn149
  | 150 => some fn150
  | 151 => some fn151
  | 160 => some fn160
  | 161 => some fn161
  | 162 => some fn162
  | 163 => some fn163
  | 164 => some fn164
  | 165 => some fn165
  | 166 => some fn166
  | 167 => some fn167
  | 168 => some fn168
  | 170 => some fn170
  | 171 => some fn171
  | 178 => some fn178
  | 179 => some fn179
  | 185 => some fn185
  | 195 => some fn195
  | 190 => some fn190
  | _ => none
end Go.Ab


set_option maxRecDepth 100000
namespace Go.Ab
open Go
def rsh0 : FuncId → RSh × Bool
  | 25 => (.cl, false)
  | 108 => (.cl, false)
  | 117 => (.own 1, true)
  | 165 => (.own 1, true)
  | 190 => (.own 1, true)
  | _ => (.cl, true)
def sh96 : IoSh := { args := [], ins := [], res := .un, outs := [], news := [], gone := [] }
def shs96 : List KV → IoSh
  | _ => sh96
def sh166 : IoSh := { args := [], ins := [], res := .un, outs := [], news := [], gone := [] }
def shs166 : List KV → IoSh
  | _ => sh166
def iof0 : FuncId → Option (List KV → IoSh)
  | 96 => some shs96
  | 166 => some shs166
  | _ => none
def cfg0 (b : KB) (dsh : Nat → RSh) : KCfg := { b, rsh := rsh0, spF := fun f => f == 95 || f == 159 || f == 157 || f == 158 || f == 156 || f == 99, asT := fun f p => if f = 95 ∧ p = 126 then some (124, 1) else if f = 95 ∧ p = 146 then some (145, 1) else if f = 95 ∧ p = 154 then some (153, 1) else if f = 95 ∧ p = 182 then some (143, 1) else none, dsh, ioF := iof0 }
theorem run9 (B : KB) {E : Type} (h : Handler E) (dep : Nat) (e : E) (x0 : PV) (x1 : PV) (x2 : PV) (x3 : PV) :
    runK (cfg0 B (fun _ => .cl)) fn9 (.cl) h dep [.cv x0, .cv x1, .cv x2, .cv x3] e =
    chkO (valO x0) (bindO (callO B .cl (.fn 11 []) []) (fun z1 => bindO (selO x0 0 3 true) (fun z2 => bindO (callO B .cl (.fn 12 []) [z2]) (fun z3 => chkO (okSto z3 x0 0 3) (bindO
    (callO B .cl (.fn 28 []) [x1]) (fun z4 => bindO (selO (stoP z3 x0 0) 0 3 true) (fun z5 => bindO (callO B .cl (.fn 29 []) [z5]) (fun z6 => bindO (pureO (.extract 0 (.c z6))) (fun z7
    => bindO (pureO (.extract 1 (.c z6))) (fun z8 => bindO (selO (stoP z3 x0 0) 0 3 true) (fun z9 => bindO (callO B .cl (.fn 30 []) [z9]) (fun z10 => bindO (pureO (.extract 0 (.c
    z10))) (fun z11 => bindO (pureO (.extract 1 (.c z10))) (fun z12 => bindO (callO B .cl (.fn 31 []) [z4, x2, x3]) (fun z13 => bindO (pureO (.extract 0 (.c z13))) (fun z14 => bindO
    (pureO (.extract 1 (.c z13))) (fun z15 => chkO (okCells z14 3) (bindO (callO B .cl (.fn 32 []) [z4, x2, x3]) (fun z16 => bindO (pureO (.extract 0 (.c z16))) (fun z17 => bindO
    (pureO (.extract 1 (.c z16))) (fun z18 => chkO (okCells z17 3) (iteP z1 (bindO (callO B .cl (.fn 33 []) [z7, z11]) (fun z19 => iteP z19 (bindO (pureO (.bin .eql .num false (.c z8)
    (.c z12))) (fun z20 => iteP z20 (bindO (callO B .cl (.fn 18 []) [.agg [cellP z14 0, cellP z14 1, cellP z14 2], .agg [cellP z17 0, cellP z17 1, cellP z17 2]]) (fun z21 => iteP z21
    (bindO (pureO (.bin .eql .num false (.c z15) (.c z18))) (fun z22 => some (z22, e))) (some (.bool false, e)))) (some (.bool false, e)))) (some (.bool false, e)))) (some (.bool
    false, e)))))))))))))))))))))))) := by kernel_rfl
theorem run10 (B : KB) {E : Type} (h : Handler E) (dep : Nat) (e : E) (x0 : PV) :
    runK (cfg0 B (fun _ => .cl)) fn10 (.cl) h dep [.cv x0] e =
    chkO (valO x0) (bindO (callO B .cl (.fn 11 []) []) (fun z1 => bindO (selO x0 0 3 true) (fun z2 => bindO (callO B .cl (.fn 12 []) [z2]) (fun z3 => chkO (okSto z3 x0 0 3) (bindO
    (selO (stoP z3 x0 0) 0 3 true) (fun z4 => bindO (callO B .cl (.fn 29 []) [z4]) (fun z5 => bindO (pureO (.extract 0 (.c z5))) (fun z6 => bindO (pureO (.extract 1 (.c z5))) (fun z7
    => bindO (pureO (.bin .neq .num true (.c z7) (.c (.int .i64 0)))) (fun z8 => iteP z8 (iteP z1 (bindO (pureO (.bin .eql .num true (.c z7) (.c (.int .i64 114)))) (fun z9 => iteP z9
    (bindO (selO (stoP z3 x0 0) 0 3 true) (fun z10 => bindO (callO B .cl (.fn 27 []) [z10]) (fun z11 => bindO (pureO (.un .not (.c z11))) (fun z12 => some (z12, e))))) (some (.bool
    false, e)))) (some (.bool false, e))) (bindO (selO (stoP z3 x0 0) 0 1 false) (fun z13 => bindO (selO (stoP z3 x0 0) 1 1 false) (fun z14 => bindO (callO B .cl (.fn 31 []) [z6, z13,
    z14]) (fun z15 => bindO (pureO (.extract 0 (.c z15))) (fun z16 => bindO (pureO (.extract 1 (.c z15))) (fun z17 => chkO (okCells z16 3) (iteP z1 (bindO (pureO (.bin .eql .num true
    (.c z17) (.c (.int .i64 0)))) (fun z18 => iteP z18 (bindO (selO (stoP z3 x0 0) 0 3 true) (fun z19 => bindO (callO B .cl (.fn 26 []) [z19, .agg [cellP z16 0, cellP z16 1, cellP z16
    2]]) (fun z20 => iteP z20 (bindO (pureO (.len .slice (.c z6))) (fun z21 => bindO (selO (stoP z3 x0 0) 2 1 false) (fun z22 => bindO (pureO (.len .slice (.c z22))) (fun z23 => bindO
    (pureO (.bin .eql .num false (.c z21) (.c z23))) (fun z24 => some (z24, e)))))) (some (.bool false, e))))) (some (.bool false, e)))) (some (.bool false, e))))))))))))))))))) := by kernel_rfl
theorem run11 (B : KB) {E : Type} (h : Handler E) (dep : Nat) (e : E)  :
    runK (cfg0 B (fun _ => .cl)) fn11 (.cl) h dep [] e =
    chkO (okSls 1 [.int .i64 1, .int .i64 2, .int .i64 3]) (bindO (lendO B .cl false 25 [slO 1 1 [.int .i64 1, .int .i64 2, .int .i64 3] 0 (lenL [.int .i64 1, .int .i64 2, .int .i64
    3])]) (fun z1 => bindO (callO B .cl (.fn 19 []) [.str [45], z1]) (fun z2 => bindO (pureO (.extract 0 (.c z2))) (fun z3 => bindO (pureO (.extract 1 (.c z2))) (fun z4 => chkO
    (okCells z3 3) (chkO (okSls 1 [.int .i64 1, .int .i64 2, .int .i64 3]) (bindO (lendO B .cl false 25 [slO 1 1 [.int .i64 1, .int .i64 2, .int .i64 3] 0 (lenL [.int .i64 1, .int .i64
    2, .int .i64 3])]) (fun z5 => bindO (callO B .cl (.fn 21 []) [.str [43], z5]) (fun z6 => bindO (pureO (.extract 0 (.c z6))) (fun z7 => bindO (pureO (.extract 1 (.c z6))) (fun z8 =>
    chkO (okCells z7 3) (chkO (okSls 1 [.int .i64 1, .int .i64 2]) (bindO (lendO B .cl false 25 [slO 1 1 [.int .i64 1, .int .i64 2] 0 (lenL [.int .i64 1, .int .i64 2])]) (fun z9 =>
    bindO (callO B .cl (.fn 23 []) [.str [45], z9]) (fun z10 => bindO (pureO (.extract 0 (.c z10))) (fun z11 => bindO (pureO (.extract 1 (.c z10))) (fun z12 => chkO (okCells z11 3)
    (chkO (okSls 1 [.int .i64 1, .int .i64 2]) (bindO (lendO B .cl false 25 [slO 1 1 [.int .i64 1, .int .i64 2] 0 (lenL [.int .i64 1, .int .i64 2])]) (fun z13 => bindO (callO B .cl
    (.fn 23 []) [.str [226, 141, 179], z13]) (fun z14 => bindO (pureO (.extract 0 (.c z14))) (fun z15 => bindO (pureO (.extract 1 (.c z14))) (fun z16 => chkO (okCells z15 3) (bindO
    (pureO (.bin .eql .num true (.c z4) (.c (.int .i64 0)))) (fun z17 => iteP z17 (bindO (pureO (.bin .eql .num true (.c z8) (.c (.int .i64 0)))) (fun z18 => iteP z18 (bindO (pureO
    (.bin .eql .num true (.c z12) (.c (.int .i64 0)))) (fun z19 => iteP z19 (bindO (pureO (.bin .eql .num true (.c z16) (.c (.int .i64 111)))) (fun z20 => iteP z20 (bindO (callO B .cl
    (.fn 34 []) [.agg [cellP z3 0, cellP z3 1, cellP z3 2]]) (fun z21 => bindO (pureO (.bin .eql .str true (.c z21) (.c (.str [50])))) (fun z22 => iteP z22 (bindO (callO B .cl (.fn 34
    []) [.agg [cellP z7 0, cellP z7 1, cellP z7 2]]) (fun z23 => bindO (pureO (.bin .eql .str true (.c z23) (.c (.str [49, 32, 51, 32, 54])))) (fun z24 => iteP z24 (bindO (callO B .cl
    (.fn 34 []) [.agg [cellP z11 0, cellP z11 1, cellP z11 2]]) (fun z25 => bindO (pureO (.bin .eql .str true (.c z25) (.c (.str [194, 175, 49, 32, 194, 175, 50])))) (fun z26 => some
    (z26, e)))) (some (.bool false, e))))) (some (.bool false, e))))) (some (.bool false, e)))) (some (.bool false, e)))) (some (.bool false, e)))) (some (.bool false,
    e))))))))))))))))))))))))))) := by kernel_rfl
theorem run12 (B : KB) {E : Type} (h : Handler E) (dep : Nat) (e : E) (x0 : PV) :
    runK (cfg0 B (fun _ => .cl)) fn12 (.cl) h dep [.cv x0] e =
    chkO (valO x0) (bindO (selO x0 0 1 false) (fun z1 => bindO (selO x0 1 1 false) (fun z2 => bindO (selO x0 2 1 false) (fun z3 => bindO (selO x0 2 1 false) (fun z4 => bindO (pureO
    (.len .slice (.c z4))) (fun z5 => bindO (pureO (.minmax false [.c z5, .c (.int .i64 202)])) (fun z6 => bindO (pureO (.slice 1 (.c z3) none (some (.c z6)) none)) (fun z7 => bindO
    (pureO (.build [.bool false, .bool false, .nilS] [(0, (1, .c z1)), (1, (1, .c z2)), (2, (1, .c z7))])) (fun z8 => chkO (okCells z8 3) (some (.agg [cellP z8 0, cellP z8 1, cellP z8
    2], e))))))))))) := by kernel_rfl
theorem run18 (B : KB) {E : Type} (h : Handler E) (dep : Nat) (e : E) (x0 : PV) (x1 : PV) :
    runK (cfg0 B (fun _ => .cl)) fn18 (.cl) h dep [.cv x0, .cv x1] e =
    chkO (valO x0) (chkO (valO x1) (bindO (selO x0 0 1 false) (fun z1 => bindO (selO x1 0 1 false) (fun z2 => bindO (pureO (.bin .eql .bool false (.c z1) (.c z2))) (fun z3 => iteP z3
    (bindO (selO x0 1 1 false) (fun z4 => bindO (selO x1 1 1 false) (fun z5 => bindO (pureO (.bin .eql .bool false (.c z4) (.c z5))) (fun z6 => iteP z6 (bindO (selO x0 2 1 false) (fun
    z7 => bindO (selO x1 2 1 false) (fun z8 => bindO (callO B .cl (.fn 47 []) [z7, z8]) (fun z9 => some (z9, e))))) (some (.bool false, e)))))) (some (.bool false, e))))))) := by kernel_rfl
theorem run25 (B : KB) {E : Type} (h : Handler E) (dep : Nat) (e : E) (x0 : PV) :
    runK (cfg0 B (fun _ => .cl)) fn25 (.cl) h dep [.cv x0] e =
    bindO (pureO (.build [.bool false, .bool false, .nilS] [(0, (1, .c (.bool true))), (2, (1, .c x0))])) (fun z1 => chkO (okCells z1 3) (some (.agg [cellP z1 0, cellP z1 1, cellP z1
    2], e))) := by kernel_rfl
theorem run26 (B : KB) {E : Type} (h : Handler E) (dep : Nat) (e : E) (x0 : PV) (x1 : PV) :
    runK (cfg0 B (fun _ => .cl)) fn26 (.cl) h dep [.cv x0, .cv x1] e =
    chkO (valO x0) (chkO (valO x1) (bindO (selO x0 0 1 false) (fun z1 => bindO (selO x1 0 1 false) (fun z2 => bindO (pureO (.bin .eql .bool false (.c z1) (.c z2))) (fun z3 => iteP z3
    (bindO (selO x0 1 1 false) (fun z4 => bindO (selO x1 1 1 false) (fun z5 => bindO (pureO (.bin .eql .bool false (.c z4) (.c z5))) (fun z6 => iteP z6 (bindO (selO x0 2 1 false) (fun
    z7 => bindO (selO x1 2 1 false) (fun z8 => bindO (callO B .cl (.fn 52 []) [z7, z8]) (fun z9 => some (z9, e))))) (some (.bool false, e)))))) (some (.bool false, e))))))) := by kernel_rfl
theorem run27 (B : KB) {E : Type} (h : Handler E) (dep : Nat) (e : E) (x0 : PV) :
    runK (cfg0 B (fun _ => .cl)) fn27 (.cl) h dep [.cv x0] e =
    chkO (valO x0) (bindO (selO x0 1 1 false) (fun z1 => iteP z1 (bindO (selO x0 2 1 false) (fun z2 => bindO (callO B .cl (.fn 55 []) [z2, .fn 53 []]) (fun z3 => iteP z3 (some (.bool
    false, e)) (bindO (selO x0 0 1 false) (fun z4 => iteP z4 (bindO (selO x0 2 1 false) (fun z5 => bindO (pureO (.len .slice (.c z5))) (fun z6 => bindO (pureO (.bin .leq .num true (.c
    z6) (.c (.int .i64 200)))) (fun z7 => some (z7, e))))) (bindO (selO x0 2 1 false) (fun z8 => bindO (pureO (.len .slice (.c z8))) (fun z9 => bindO (pureO (.bin .eql .num true (.c
    z9) (.c (.int .i64 1)))) (fun z10 => some (z10, e)))))))))) (bindO (selO x0 0 1 false) (fun z11 => iteP z11 (bindO (selO x0 2 1 false) (fun z12 => bindO (pureO (.len .slice (.c
    z12))) (fun z13 => bindO (pureO (.bin .leq .num true (.c z13) (.c (.int .i64 200)))) (fun z14 => some (z14, e))))) (bindO (selO x0 2 1 false) (fun z15 => bindO (pureO (.len .slice
    (.c z15))) (fun z16 => bindO (pureO (.bin .eql .num true (.c z16) (.c (.int .i64 1)))) (fun z17 => some (z17, e))))))))) := by kernel_rfl
theorem run28 (B : KB) {E : Type} (h : Handler E) (dep : Nat) (e : E) (x0 : PV) :
    runK (cfg0 B (fun _ => .cl)) fn28 (.cl) h dep [.cv x0] e =
    chkO (noUndef [x0, nI 0, .int .i64 0]) (loopL (fun z1 => bindO (bindO (pureO (.len .slice (.c (nth z1.1 0)))) (fun z2 => bindO (pureO (.bin .lss .num false (.c (nth z1.1 2)) (.c
    z2))) (fun z3 => iteP z3 (bindO (pureO (.bin .lss .num true (.c (nth z1.1 2)) (.c (.int .i64 30)))) (fun z4 => some z4)) (some (.bool false))))) (fun z5 => iteP z5 (bindO (pureO
    (.idxAddr 3 (.c (nth z1.1 0)) (.c (nth z1.1 2)))) (fun z6 => bindO (pureO (.load 3 true (.c z6))) (fun z7 => bindO (callO B .cl (.fn 12 []) [z7]) (fun z8 => chkO (okSls 3 [z8])
    (chkO (leN (addN 0 (lenL [z8])) (lenL [z8])) (chkO (andB (leN (natP (nth z1.1 1)) (lenL (itemsP (nth z1.1 3)))) (leN (addN (natP (nth z1.1 1)) (lenL (takeL (lenL [z8]) (dropL 0
    [z8])))) 2147483648)) (bindO (pureO (.bin .add .num true (.c (nth z1.1 2)) (.c (.int .i64 1)))) (fun z9 => some (.inl ([nth z1.1 0, nI (addN (natP (nth z1.1 1)) (lenL (takeL (lenL
    [z8]) (dropL 0 [z8])))), z9, .sl 3 (catL (takeL (natP (nth z1.1 1)) (itemsP (nth z1.1 3))) (takeL (lenL [z8]) (dropL 0 [z8]))) false], z1.2)))))))))) (bindO (chkO (okU (slO 3 3
    (itemsP (nth z1.1 3)) 0 (natP (nth z1.1 1)))) (some (slO 3 3 (itemsP (nth z1.1 3)) 0 (natP (nth z1.1 1)), z1.2))) (fun z10 => some (.inr z10))))) ([x0, nI 0, .int .i64 0, .sl 3 []
    false], e)) := by kernel_rfl
theorem run29 (B : KB) {E : Type} (h : Handler E) (dep : Nat) (e : E) (x0 : PV) :
    runK (cfg0 B (fun _ => .cl)) fn29 (.cl) h dep [.cv x0] e =
    chkO (valO x0) (bindO (selO x0 0 3 true) (fun z1 => bindO (callO B .cl (.fn 27 []) [z1]) (fun z2 => bindO (pureO (.un .not (.c z2))) (fun z3 => iteP z3 (some (.tup [.nilS, .int
    .i64 114], e)) (bindO (selO x0 0 3 true) (fun z4 => bindO (pureO (.build [.bool false, .bool false, .nilS] [(0, (3, .c z4))])) (fun z5 => bindO (callO B .cl (.fn 57 []) [z5]) (fun
    z6 => bindO (callO B .cl (.fn 56 []) [z6]) (fun z7 => some (.tup [z7, .int .i64 0], e)))))))))) := by kernel_rfl
theorem run30 (B : KB) {E : Type} (h : Handler E) (dep : Nat) (e : E) (x0 : PV) :
    runK (cfg0 B (fun _ => .cl)) fn30 (.cl) h dep [.cv x0] e =
    chkO (valO x0) (bindO (selO x0 0 3 true) (fun z1 => bindO (callO B .cl (.fn 51 []) [z1]) (fun z2 => bindO (pureO (.un .not (.c z2))) (fun z3 => iteP z3 (some (.tup [.nilS, .int
    .i64 114], e)) (chkO (noUndef [nI 0, .int .i64 0]) (loopL (fun z4 => bindO (selO (nth z4.1 2) 2 1 false) (fun z5 => bindO (pureO (.len .slice (.c z5))) (fun z6 => bindO (pureO
    (.bin .lss .num false (.c (nth z4.1 1)) (.c z6))) (fun z7 => iteP z7 (bindO (selO (nth z4.1 2) 1 1 false) (fun z8 => bindO (selO (nth z4.1 2) 2 1 false) (fun z9 => bindO (pureO
    (.idxAddr 1 (.c z9) (.c (nth z4.1 1)))) (fun z10 => bindO (pureO (.load 1 false (.c z10))) (fun z11 => chkO (okSls 1 [z11]) (chkO (okCells z8 1) (chkO (okSls 3 [.agg [.bool false,
    cellP z8 0, slO 1 1 [z11] 0 (lenL [z11])]]) (chkO (leN (addN 0 (lenL [.agg [.bool false, cellP z8 0, slO 1 1 [z11] 0 (lenL [z11])]])) (lenL [.agg [.bool false, cellP z8 0, slO 1 1
    [z11] 0 (lenL [z11])]])) (chkO (andB (leN (natP (nth z4.1 0)) (lenL (itemsP (nth z4.1 3)))) (leN (addN (natP (nth z4.1 0)) (lenL (takeL (lenL [.agg [.bool false, cellP z8 0, slO 1
    1 [z11] 0 (lenL [z11])]]) (dropL 0 [.agg [.bool false, cellP z8 0, slO 1 1 [z11] 0 (lenL [z11])]])))) 2147483648)) (bindO (pureO (.bin .add .num true (.c (nth z4.1 1)) (.c (.int
    .i64 1)))) (fun z12 => some (.inl ([nI (addN (natP (nth z4.1 0)) (lenL (takeL (lenL [.agg [.bool false, cellP z8 0, slO 1 1 [z11] 0 (lenL [z11])]]) (dropL 0 [.agg [.bool false,
    cellP z8 0, slO 1 1 [z11] 0 (lenL [z11])]])))), z12, nth z4.1 2, .sl 3 (catL (takeL (natP (nth z4.1 0)) (itemsP (nth z4.1 3))) (takeL (lenL [.agg [.bool false, cellP z8 0, slO 1 1
    [z11] 0 (lenL [z11])]]) (dropL 0 [.agg [.bool false, cellP z8 0, slO 1 1 [z11] 0 (lenL [z11])]]))) false], z4.2))))))))))))) (bindO (chkO (okU (.tup [slO 3 3 (itemsP (nth z4.1 3))
    0 (natP (nth z4.1 0)), .int .i64 0])) (some (.tup [slO 3 3 (itemsP (nth z4.1 3)) 0 (natP (nth z4.1 0)), .int .i64 0], z4.2))) (fun z13 => some (.inr z13))))))) ([nI 0, .int .i64 0,
    x0, .sl 3 [] false], e))))))) := by kernel_rfl
theorem run31 (B : KB) {E : Type} (h : Handler E) (dep : Nat) (e : E) (x0 : PV) (x1 : PV) (x2 : PV) :
    runK (cfg0 B (fun _ => .cl)) fn31 (.cl) h dep [.cv x0, .cv x1, .cv x2] e =
    bindO (pureO (.build [.bool false, .bool false, .nilS] [(0, (1, .c x1)), (1, (1, .c x2))])) (fun z1 => bindO (pureO (.build [.bool false, .bool false, .nilS] [(0, (3, .c z1))]))
    (fun z2 => bindO (callO B .cl (.fn 58 []) [z2, x0]) (fun z3 => bindO (pureO (.extract 0 (.c z3))) (fun z4 => bindO (pureO (.extract 1 (.c z3))) (fun z5 => chkO (okCells z4 3)
    (bindO (callO B .cl (.fn 59 []) [z5]) (fun z6 => some (.tup [.agg [cellP z4 0, cellP z4 1, cellP z4 2], z6], e)))))))) := by kernel_rfl
theorem run32 (B : KB) {E : Type} (h : Handler E) (dep : Nat) (e : E) (x0 : PV) (x1 : PV) (x2 : PV) :
    runK (cfg0 B (fun _ => .cl)) fn32 (.cl) h dep [.cv x0, .cv x1, .cv x2] e =
    bindO (pureO (.build [.bool false, .bool false, .nilS] [(0, (1, .c x1)), (1, (1, .c x2))])) (fun z1 => chkO (okCells z1 3) (nilO (cellP z1 2) (chkO (noUndef [x0, x1, .bool false,
    .bool false, .int .i64 0]) (loopL (fun z2 => bindO (pureO (.len .slice (.c (nth z2.1 0)))) (fun z3 => bindO (pureO (.bin .lss .num false (.c (nth z2.1 4)) (.c z3))) (fun z4 => iteP
    z4 (bindO (pureO (.idxAddr 3 (.c (nth z2.1 0)) (.c (nth z2.1 4)))) (fun z5 => bindO (pureO (.load 3 true (.c z5))) (fun z6 => bindO (callO B .cl (.fn 51 []) [z6]) (fun z7 => bindO
    (pureO (.un .not (.c z7))) (fun z8 => iteP z8 (bindO (pureO (.build [.bool false, .bool false, .nilS] [])) (fun z9 => chkO (okCells z9 3) (bindO (some (.tup [.agg [cellP z9 0,
    cellP z9 1, cellP z9 2], .int .i64 114], z2.2)) (fun z10 => some (.inr z10))))) (bindO (iteP (nth z2.1 2) (some (.bool true)) (bindO (pureO (.idxAddr 3 (.c (nth z2.1 0)) (.c (nth
    z2.1 4)))) (fun z11 => bindO (pureO (.fieldAddr 0 (.c z11))) (fun z12 => bindO (pureO (.load 1 false (.c z12))) (fun z13 => some z13))))) (fun z14 => iteP (nth z2.1 3) (bindO
    (pureO (.idxAddr 3 (.c (nth z2.1 0)) (.c (.int .i64 0)))) (fun z15 => bindO (pureO (.fieldAddr 1 (.c z15))) (fun z16 => bindO (pureO (.load 1 false (.c z16))) (fun z17 => chkO
    (okCells z17 1) (bindO (pureO (.idxAddr 3 (.c (nth z2.1 0)) (.c (nth z2.1 4)))) (fun z18 => bindO (pureO (.fieldAddr 2 (.c z18))) (fun z19 => bindO (pureO (.load 1 false (.c z19)))
    (fun z20 => bindO (elemsO 1 z20) (fun z21 => chkO (andB (leN (natP (nth z2.1 10)) (lenL (itemsP (nth z2.1 11)))) (leN (addN (natP (nth z2.1 10)) (lenL z21)) 2147483648)) (bindO
    (pureO (.bin .add .num true (.c (nth z2.1 4)) (.c (.int .i64 1)))) (fun z22 => some (.inl ([nth z2.1 0, nth z2.1 1, z14, .bool true, z22, nth z2.1 5, nth z2.1 6, nth z2.1 7, nth
    z2.1 8, cellP z17 0, nI (addN (natP (nth z2.1 10)) (lenL z21)), .sl 1 (catL (takeL (natP (nth z2.1 10)) (itemsP (nth z2.1 11))) z21) false], z2.2))))))))))))) (bindO (pureO
    (.idxAddr 3 (.c (nth z2.1 0)) (.c (nth z2.1 4)))) (fun z23 => bindO (pureO (.fieldAddr 1 (.c z23))) (fun z24 => bindO (pureO (.load 1 false (.c z24))) (fun z25 => bindO (pureO
    (.idxAddr 3 (.c (nth z2.1 0)) (.c (.int .i64 0)))) (fun z26 => bindO (pureO (.fieldAddr 1 (.c z26))) (fun z27 => bindO (pureO (.load 1 false (.c z27))) (fun z28 => bindO (pureO
    (.bin .neq .bool false (.c z25) (.c z28))) (fun z29 => bindO (pureO (.idxAddr 3 (.c (nth z2.1 0)) (.c (.int .i64 0)))) (fun z30 => bindO (pureO (.fieldAddr 1 (.c z30))) (fun z31 =>
    bindO (pureO (.load 1 false (.c z31))) (fun z32 => chkO (okCells z32 1) (bindO (pureO (.idxAddr 3 (.c (nth z2.1 0)) (.c (nth z2.1 4)))) (fun z33 => bindO (pureO (.fieldAddr 2 (.c
    z33))) (fun z34 => bindO (pureO (.load 1 false (.c z34))) (fun z35 => bindO (elemsO 1 z35) (fun z36 => chkO (andB (leN (natP (nth z2.1 10)) (lenL (itemsP (nth z2.1 11)))) (leN
    (addN (natP (nth z2.1 10)) (lenL z36)) 2147483648)) (bindO (pureO (.bin .add .num true (.c (nth z2.1 4)) (.c (.int .i64 1)))) (fun z37 => some (.inl ([nth z2.1 0, nth z2.1 1, z14,
    z29, z37, nth z2.1 5, nth z2.1 6, nth z2.1 7, nth z2.1 8, cellP z32 0, nI (addN (natP (nth z2.1 10)) (lenL z36)), .sl 1 (catL (takeL (natP (nth z2.1 10)) (itemsP (nth z2.1 11)))
    z36) false], z2.2))))))))))))))))))))))))))) (bindO (iteP (nth z2.1 2) (bindO (pureO (.build [.bool false, .bool false, .nilS] [])) (fun z38 => chkO (okCells z38 3) (some (.tup
    [.agg [cellP z38 0, cellP z38 1, cellP z38 2], .int .i64 111], z2.2)))) (iteP (nth z2.1 3) (bindO (pureO (.build [.bool false, .bool false, .nilS] [])) (fun z39 => chkO (okCells
    z39 3) (some (.tup [.agg [cellP z39 0, cellP z39 1, cellP z39 2], .int .i64 102], z2.2)))) (bindO (bindO (pureO (.un .not (.c (nth z2.1 1)))) (fun z40 => iteP z40 (bindO (pureO
    (.len .slice (.c (nth z2.1 0)))) (fun z41 => bindO (pureO (.bin .neq .num true (.c z41) (.c (.int .i64 1)))) (fun z42 => some z42))) (some (.bool false)))) (fun z43 => iteP z43
    (bindO (pureO (.build [.bool false, .bool false, .nilS] [])) (fun z44 => chkO (okCells z44 3) (some (.tup [.agg [cellP z44 0, cellP z44 1, cellP z44 2], .int .i64 111], z2.2))))
    (bindO (pureO (.len .slice (.c (nth z2.1 0)))) (fun z45 => bindO (pureO (.bin .gtr .num true (.c z45) (.c (.int .i64 200)))) (fun z46 => iteP z46 (bindO (pureO (.build [.bool
    false, .bool false, .nilS] [])) (fun z47 => chkO (okCells z47 3) (some (.tup [.agg [cellP z47 0, cellP z47 1, cellP z47 2], .int .i64 113], z2.2)))) (chkO (okU (.tup [.agg [nth
    z2.1 8, nth z2.1 9, slO 1 1 (itemsP (nth z2.1 11)) 0 (natP (nth z2.1 10))], .int .i64 0])) (some (.tup [.agg [nth z2.1 8, nth z2.1 9, slO 1 1 (itemsP (nth z2.1 11)) 0 (natP (nth
    z2.1 10))], .int .i64 0], z2.2)))))))))) (fun z48 => some (.inr z48)))))) ([x0, x1, .bool false, .bool false, .int .i64 0, .bool false, .bool false, .nilS, cellP z1 0, cellP z1 1,
    nI 0, .sl 1 [] false], e))))) := by kernel_rfl
theorem run33 (B : KB) {E : Type} (h : Handler E) (dep : Nat) (e : E) (x0 : PV) (x1 : PV) :
    runK (cfg0 B (fun _ => .cl)) fn33 (.cl) h dep [.cv x0, .cv x1] e =
    bindO (pureO (.len .slice (.c x0))) (fun z1 => bindO (pureO (.len .slice (.c x1))) (fun z2 => bindO (pureO (.bin .neq .num false (.c z1) (.c z2))) (fun z3 => iteP z3 (some (.bool
    false, e)) (chkO (noUndef [x0, x1, .int .i64 0]) (loopL (fun z4 => bindO (pureO (.len .slice (.c (nth z4.1 0)))) (fun z5 => bindO (pureO (.bin .lss .num false (.c (nth z4.1 2)) (.c
    z5))) (fun z6 => iteP z6 (bindO (pureO (.idxAddr 3 (.c (nth z4.1 0)) (.c (nth z4.1 2)))) (fun z7 => bindO (pureO (.load 3 true (.c z7))) (fun z8 => bindO (pureO (.idxAddr 3 (.c
    (nth z4.1 1)) (.c (nth z4.1 2)))) (fun z9 => bindO (pureO (.load 3 true (.c z9))) (fun z10 => bindO (callO B .cl (.fn 18 []) [z8, z10]) (fun z11 => bindO (pureO (.un .not (.c
    z11))) (fun z12 => iteP z12 (bindO (some (.bool false, z4.2)) (fun z13 => some (.inr z13))) (bindO (pureO (.bin .add .num true (.c (nth z4.1 2)) (.c (.int .i64 1)))) (fun z14 =>
    some (.inl ([nth z4.1 0, nth z4.1 1, z14], z4.2))))))))))) (bindO (some (.bool true, z4.2)) (fun z15 => some (.inr z15)))))) ([x0, x1, .int .i64 0], e)))))) := by kernel_rfl
theorem run47 (B : KB) {E : Type} (h : Handler E) (dep : Nat) (e : E) (x0 : PV) (x1 : PV) :
    runK (cfg0 B (fun _ => .cl)) fn47 (.cl) h dep [.cv x0, .cv x1] e =
    bindO (pureO (.len .slice (.c x0))) (fun z1 => bindO (pureO (.len .slice (.c x1))) (fun z2 => bindO (pureO (.bin .neq .num false (.c z1) (.c z2))) (fun z3 => iteP z3 (some (.bool
    false, e)) (chkO (noUndef [x0, x1, .int .i64 0]) (loopL (fun z4 => bindO (pureO (.len .slice (.c (nth z4.1 0)))) (fun z5 => bindO (pureO (.bin .lss .num false (.c (nth z4.1 2)) (.c
    z5))) (fun z6 => iteP z6 (bindO (pureO (.idxAddr 1 (.c (nth z4.1 0)) (.c (nth z4.1 2)))) (fun z7 => bindO (pureO (.load 1 false (.c z7))) (fun z8 => bindO (pureO (.idxAddr 1 (.c
    (nth z4.1 1)) (.c (nth z4.1 2)))) (fun z9 => bindO (pureO (.load 1 false (.c z9))) (fun z10 => bindO (pureO (.bin .neq .num false (.c z8) (.c z10))) (fun z11 => iteP z11 (bindO
    (some (.bool false, z4.2)) (fun z12 => some (.inr z12))) (bindO (pureO (.bin .add .num true (.c (nth z4.1 2)) (.c (.int .i64 1)))) (fun z13 => some (.inl ([nth z4.1 0, nth z4.1 1,
    z13], z4.2)))))))))) (bindO (some (.bool true, z4.2)) (fun z14 => some (.inr z14)))))) ([x0, x1, .int .i64 0], e)))))) := by kernel_rfl
theorem run51 (B : KB) {E : Type} (h : Handler E) (dep : Nat) (e : E) (x0 : PV) :
    runK (cfg0 B (fun _ => .cl)) fn51 (.cl) h dep [.cv x0] e =
    chkO (valO x0) (chkO (noUndef [.int .i64 0]) (loopL (fun z1 => bindO (bindO (selO (nth z1.1 1) 2 1 false) (fun z2 => bindO (pureO (.len .slice (.c z2))) (fun z3 => bindO (pureO
    (.bin .lss .num false (.c (nth z1.1 0)) (.c z3))) (fun z4 => iteP z4 (bindO (selO (nth z1.1 1) 1 1 false) (fun z5 => some z5)) (some (.bool false)))))) (fun z6 => iteP z6 (bindO
    (selO (nth z1.1 1) 2 1 false) (fun z7 => bindO (pureO (.idxAddr 1 (.c z7) (.c (nth z1.1 0)))) (fun z8 => bindO (pureO (.load 1 false (.c z8))) (fun z9 => bindO (callO B .cl (.fn 90
    []) [z9]) (fun z10 => bindO (pureO (.un .not (.c z10))) (fun z11 => iteP z11 (bindO (some (.bool false, z1.2)) (fun z12 => some (.inr z12))) (bindO (pureO (.bin .add .num true (.c
    (nth z1.1 0)) (.c (.int .i64 1)))) (fun z13 => some (.inl ([z13, nth z1.1 1], z1.2)))))))))) (bindO (bindO (bindO (selO (nth z1.1 1) 0 1 false) (fun z14 => iteP z14 (bindO (selO
    (nth z1.1 1) 2 1 false) (fun z15 => bindO (pureO (.len .slice (.c z15))) (fun z16 => bindO (pureO (.bin .leq .num true (.c z16) (.c (.int .i64 200)))) (fun z17 => iteP z17 (some
    (.bool true)) (bindO (selO (nth z1.1 1) 0 1 false) (fun z18 => bindO (pureO (.un .not (.c z18))) (fun z19 => iteP z19 (bindO (selO (nth z1.1 1) 2 1 false) (fun z20 => bindO (pureO
    (.len .slice (.c z20))) (fun z21 => bindO (pureO (.bin .eql .num true (.c z21) (.c (.int .i64 1)))) (fun z22 => some z22)))) (some (.bool false))))))))) (bindO (selO (nth z1.1 1) 0
    1 false) (fun z23 => bindO (pureO (.un .not (.c z23))) (fun z24 => iteP z24 (bindO (selO (nth z1.1 1) 2 1 false) (fun z25 => bindO (pureO (.len .slice (.c z25))) (fun z26 => bindO
    (pureO (.bin .eql .num true (.c z26) (.c (.int .i64 1)))) (fun z27 => some z27)))) (some (.bool false))))))) (fun z28 => some (z28, z1.2))) (fun z29 => some (.inr z29))))) ([.int
    .i64 0, x0], e))) := by kernel_rfl
theorem run52 (B : KB) {E : Type} (h : Handler E) (dep : Nat) (e : E) (x0 : PV) (x1 : PV) :
    runK (cfg0 B (fun _ => .cl)) fn52 (.cl) h dep [.cv x0, .cv x1] e =
    bindO (pureO (.len .slice (.c x0))) (fun z1 => bindO (pureO (.len .slice (.c x1))) (fun z2 => bindO (pureO (.bin .neq .num false (.c z1) (.c z2))) (fun z3 => iteP z3 (some (.bool
    false, e)) (bindO (pureO (.len .slice (.c x0))) (fun z4 => chkO (noUndef [x0, x1, z4, .int .i64 0]) (loopL (fun z5 => bindO (pureO (.bin .lss .num false (.c (nth z5.1 3)) (.c (nth
    z5.1 2)))) (fun z6 => iteP z6 (bindO (pureO (.idxAddr 1 (.c (nth z5.1 0)) (.c (nth z5.1 3)))) (fun z7 => bindO (pureO (.load 1 false (.c z7))) (fun z8 => bindO (pureO (.idxAddr 1
    (.c (nth z5.1 1)) (.c (nth z5.1 3)))) (fun z9 => bindO (pureO (.load 1 false (.c z9))) (fun z10 => bindO (pureO (.bin .neq .num false (.c z8) (.c z10))) (fun z11 => iteP z11 (bindO
    (some (.bool false, z5.2)) (fun z12 => some (.inr z12))) (bindO (pureO (.bin .add .num true (.c (nth z5.1 3)) (.c (.int .i64 1)))) (fun z13 => some (.inl ([nth z5.1 0, nth z5.1 1,
    nth z5.1 2, z13], z5.2)))))))))) (bindO (some (.bool true, z5.2)) (fun z14 => some (.inr z14))))) ([x0, x1, z4, .int .i64 0], e))))))) := by kernel_rfl
theorem run53 (B : KB) {E : Type} (h : Handler E) (dep : Nat) (e : E) (x0 : PV) :
    runK (cfg0 B (fun _ => .cl)) fn53 (.cl) h dep [.cv x0] e =
    bindO (callO B .cl (.fn 54 []) [x0]) (fun z1 => bindO (pureO (.un .not (.c z1))) (fun z2 => some (z2, e))) := by kernel_rfl
theorem run54 (B : KB) {E : Type} (h : Handler E) (dep : Nat) (e : E) (x0 : PV) :
    runK (cfg0 B (fun _ => .cl)) fn54 (.cl) h dep [.cv x0] e =
    bindO (bindO (pureO (.bin .geq .num true (.c x0) (.c (.int .i64 0)))) (fun z1 => iteP z1 (bindO (pureO (.bin .leq .num true (.c x0) (.c (.int .i64 1114111)))) (fun z2 => iteP z2
    (bindO (pureO (.bin .lss .num true (.c x0) (.c (.int .i64 55296)))) (fun z3 => iteP z3 (some (.bool true)) (bindO (pureO (.bin .gtr .num true (.c x0) (.c (.int .i64 57343)))) (fun
    z4 => some z4)))) (some (.bool false)))) (some (.bool false)))) (fun z5 => some (z5, e)) := by kernel_rfl
theorem run55 (B : KB) {E : Type} (h : Handler E) (dep : Nat) (e : E) (x0 : PV) (x1 : PV) :
    runK (cfg0 B (fun _ => .cl)) fn55 (.cl) h dep [.cv x0, .cv x1] e =
    bindO (callO B .cl (.fn 91 []) [x0, x1]) (fun z1 => bindO (pureO (.bin .geq .num true (.c z1) (.c (.int .i64 0)))) (fun z2 => some (z2, e))) := by kernel_rfl
theorem run56 (B : KB) {E : Type} (h : Handler E) (dep : Nat) (e : E) (x0 : PV) :
    runK (cfg0 B (fun _ => .cl)) fn56 (.cl) h dep [.cv x0] e =
    bindO (callO B .cl (.fn 92 []) [.nilS, x0]) (fun z1 => some (z1, e)) := by kernel_rfl
theorem run57 (B : KB) {E : Type} (h : Handler E) (dep : Nat) (e : E) (x0 : PV) :
    runK (cfg0 B (fun _ => .cl)) fn57 (.cl) h dep [.cv x0] e =
    chkO (valO x0) (chkO (okU (.fn 93 [ptrO (cellsP x0) 0])) (some (.fn 93 [ptrO (cellsP x0) 0], e))) := by kernel_rfl
theorem run58 (B : KB) {E : Type} (h : Handler E) (dep : Nat) (e : E) (x0 : PV) (x1 : PV) :
    runK (cfg0 B (fun _ => .cl)) fn58 (.cl) h dep [.cv x0, .cv x1] e =
    chkO (valO x0) (bindO (selO x0 0 1 false) (fun z1 => bindO (selO x0 1 1 false) (fun z2 => bindO (pureO (.build [.bool false, .bool false, .nilS] [(0, (1, .c z1)), (1, (1, .c
    z2))])) (fun z3 => chkO (okCells z3 3) (bindO (pureO (.len .slice (.c x1))) (fun z4 => nilO (cellP z3 2) (chkO (noUndef [x1, .bool false, .bool false, x1, z4, .int .i64 0]) (loopL
    (fun z5 => bindO (pureO (.bin .lss .num false (.c (nth z5.1 5)) (.c (nth z5.1 4)))) (fun z6 => iteP z6 (bindO (pureO (.idxAddr 3 (.c (nth z5.1 3)) (.c (nth z5.1 5)))) (fun z7 =>
    bindO (pureO (.load 3 true (.c z7))) (fun z8 => chkO (okCells z8 3) (bindO (callO B .cl (.fn 27 []) [.agg [cellP z8 0, cellP z8 1, cellP z8 2]]) (fun z9 => bindO (pureO (.un .not
    (.c z9))) (fun z10 => iteP z10 (bindO (pureO (.build [.bool false, .bool false, .nilS] [])) (fun z11 => bindO (pureO (.build [.int .i64 0] [(0, (1, .c (.int .i64 114)))])) (fun z12
    => chkO (okCells z11 3) (bindO (some (.tup [.agg [cellP z11 0, cellP z11 1, cellP z11 2], .iface 124 z12], z5.2)) (fun z13 => some (.inr z13)))))) (iteP (nth z5.1 1) (iteP (nth
    z5.1 2) (bindO (pureO (.idxAddr 3 (.c (nth z5.1 0)) (.c (.int .i64 0)))) (fun z14 => bindO (pureO (.fieldAddr 1 (.c z14))) (fun z15 => bindO (pureO (.load 1 false (.c z15))) (fun
    z16 => chkO (okCells z16 1) (bindO (elemsO 1 (cellP z8 2)) (fun z17 => chkO (andB (leN (natP (nth z5.1 12)) (lenL (itemsP (nth z5.1 13)))) (leN (addN (natP (nth z5.1 12)) (lenL
    z17)) 2147483648)) (bindO (pureO (.bin .add .num true (.c (nth z5.1 5)) (.c (.int .i64 1)))) (fun z18 => some (.inl ([nth z5.1 0, .bool true, .bool true, nth z5.1 3, nth z5.1 4,
    z18, nth z5.1 6, nth z5.1 7, nth z5.1 8, nth z5.1 9, nth z5.1 10, cellP z16 0, nI (addN (natP (nth z5.1 12)) (lenL z17)), .sl 1 (catL (takeL (natP (nth z5.1 12)) (itemsP (nth z5.1
    13))) z17) false], z5.2)))))))))) (bindO (pureO (.idxAddr 3 (.c (nth z5.1 0)) (.c (.int .i64 0)))) (fun z19 => bindO (pureO (.fieldAddr 1 (.c z19))) (fun z20 => bindO (pureO (.load
    1 false (.c z20))) (fun z21 => bindO (pureO (.bin .neq .bool false (.c (cellP z8 1)) (.c z21))) (fun z22 => bindO (pureO (.idxAddr 3 (.c (nth z5.1 0)) (.c (.int .i64 0)))) (fun z23
    => bindO (pureO (.fieldAddr 1 (.c z23))) (fun z24 => bindO (pureO (.load 1 false (.c z24))) (fun z25 => chkO (okCells z25 1) (bindO (elemsO 1 (cellP z8 2)) (fun z26 => chkO (andB
    (leN (natP (nth z5.1 12)) (lenL (itemsP (nth z5.1 13)))) (leN (addN (natP (nth z5.1 12)) (lenL z26)) 2147483648)) (bindO (pureO (.bin .add .num true (.c (nth z5.1 5)) (.c (.int
    .i64 1)))) (fun z27 => some (.inl ([nth z5.1 0, .bool true, z22, nth z5.1 3, nth z5.1 4, z27, nth z5.1 6, nth z5.1 7, nth z5.1 8, nth z5.1 9, nth z5.1 10, cellP z25 0, nI (addN
    (natP (nth z5.1 12)) (lenL z26)), .sl 1 (catL (takeL (natP (nth z5.1 12)) (itemsP (nth z5.1 13))) z26) false], z5.2))))))))))))))) (iteP (nth z5.1 2) (bindO (pureO (.idxAddr 3 (.c
    (nth z5.1 0)) (.c (.int .i64 0)))) (fun z28 => bindO (pureO (.fieldAddr 1 (.c z28))) (fun z29 => bindO (pureO (.load 1 false (.c z29))) (fun z30 => chkO (okCells z30 1) (bindO
    (elemsO 1 (cellP z8 2)) (fun z31 => chkO (andB (leN (natP (nth z5.1 12)) (lenL (itemsP (nth z5.1 13)))) (leN (addN (natP (nth z5.1 12)) (lenL z31)) 2147483648)) (bindO (pureO (.bin
    .add .num true (.c (nth z5.1 5)) (.c (.int .i64 1)))) (fun z32 => some (.inl ([nth z5.1 0, cellP z8 0, .bool true, nth z5.1 3, nth z5.1 4, z32, nth z5.1 6, nth z5.1 7, nth z5.1 8,
    nth z5.1 9, nth z5.1 10, cellP z30 0, nI (addN (natP (nth z5.1 12)) (lenL z31)), .sl 1 (catL (takeL (natP (nth z5.1 12)) (itemsP (nth z5.1 13))) z31) false], z5.2)))))))))) (bindO
    (pureO (.idxAddr 3 (.c (nth z5.1 0)) (.c (.int .i64 0)))) (fun z33 => bindO (pureO (.fieldAddr 1 (.c z33))) (fun z34 => bindO (pureO (.load 1 false (.c z34))) (fun z35 => bindO
    (pureO (.bin .neq .bool false (.c (cellP z8 1)) (.c z35))) (fun z36 => bindO (pureO (.idxAddr 3 (.c (nth z5.1 0)) (.c (.int .i64 0)))) (fun z37 => bindO (pureO (.fieldAddr 1 (.c
    z37))) (fun z38 => bindO (pureO (.load 1 false (.c z38))) (fun z39 => chkO (okCells z39 1) (bindO (elemsO 1 (cellP z8 2)) (fun z40 => chkO (andB (leN (natP (nth z5.1 12)) (lenL
    (itemsP (nth z5.1 13)))) (leN (addN (natP (nth z5.1 12)) (lenL z40)) 2147483648)) (bindO (pureO (.bin .add .num true (.c (nth z5.1 5)) (.c (.int .i64 1)))) (fun z41 => some (.inl
    ([nth z5.1 0, cellP z8 0, z36, nth z5.1 3, nth z5.1 4, z41, nth z5.1 6, nth z5.1 7, nth z5.1 8, nth z5.1 9, nth z5.1 10, cellP z39 0, nI (addN (natP (nth z5.1 12)) (lenL z40)), .sl
    1 (catL (takeL (natP (nth z5.1 12)) (itemsP (nth z5.1 13))) z40) false], z5.2)))))))))))))))))))))) (bindO (iteP (nth z5.1 1) (bindO (pureO (.build [.bool false, .bool false,
    .nilS] [])) (fun z42 => bindO (pureO (.build [.int .i64 0] [(0, (1, .c (.int .i64 111)))])) (fun z43 => chkO (okCells z42 3) (some (.tup [.agg [cellP z42 0, cellP z42 1, cellP z42
    2], .iface 124 z43], z5.2))))) (iteP (nth z5.1 2) (bindO (pureO (.build [.bool false, .bool false, .nilS] [])) (fun z44 => bindO (pureO (.build [.int .i64 0] [(0, (1, .c (.int .i64
    102)))])) (fun z45 => chkO (okCells z44 3) (some (.tup [.agg [cellP z44 0, cellP z44 1, cellP z44 2], .iface 124 z45], z5.2))))) (bindO (bindO (selO (nth z5.1 6) 0 1 false) (fun
    z46 => bindO (pureO (.un .not (.c z46))) (fun z47 => iteP z47 (bindO (pureO (.len .slice (.c (nth z5.1 0)))) (fun z48 => bindO (pureO (.bin .neq .num true (.c z48) (.c (.int .i64
    1)))) (fun z49 => some z49))) (some (.bool false))))) (fun z50 => iteP z50 (bindO (pureO (.build [.bool false, .bool false, .nilS] [])) (fun z51 => bindO (pureO (.build [.int .i64
    0] [(0, (1, .c (.int .i64 111)))])) (fun z52 => chkO (okCells z51 3) (some (.tup [.agg [cellP z51 0, cellP z51 1, cellP z51 2], .iface 124 z52], z5.2))))) (bindO (pureO (.len
    .slice (.c (nth z5.1 0)))) (fun z53 => bindO (pureO (.bin .gtr .num true (.c z53) (.c (.int .i64 200)))) (fun z54 => iteP z54 (bindO (pureO (.build [.bool false, .bool false,
    .nilS] [])) (fun z55 => bindO (pureO (.build [.int .i64 0] [(0, (1, .c (.int .i64 113)))])) (fun z56 => chkO (okCells z55 3) (some (.tup [.agg [cellP z55 0, cellP z55 1, cellP z55
    2], .iface 124 z56], z5.2))))) (chkO (okU (.tup [.agg [nth z5.1 10, nth z5.1 11, slO 1 1 (itemsP (nth z5.1 13)) 0 (natP (nth z5.1 12))], .nilI])) (some (.tup [.agg [nth z5.1 10,
    nth z5.1 11, slO 1 1 (itemsP (nth z5.1 13)) 0 (natP (nth z5.1 12))], .nilI], z5.2)))))))))) (fun z57 => some (.inr z57))))) ([x1, .bool false, .bool false, x1, z4, .int .i64 0, x0,
    .bool false, .bool false, .nilS, cellP z3 0, cellP z3 1, nI 0, .sl 1 [] false], e))))))))) := by kernel_rfl
theorem run59 (B : KB) {E : Type} (h : Handler E) (dep : Nat) (e : E) (x0 : PV) :
    runK (cfg0 B (fun _ => .cl)) fn59 (.cl) h dep [.cv x0] e =
    chkO (eqN 1 1) (asP 124 x0 (fun z1 => chkO (okCells z1 1) (bindO (selO z1 0 1 false) (fun z2 => some (z2, e)))) (some (.int .i64 0, e))) := by kernel_rfl
theorem run90 (B : KB) {E : Type} (h : Handler E) (dep : Nat) (e : E) (x0 : PV) :
    runK (cfg0 B (fun _ => .cl)) fn90 (.cl) h dep [.cv x0] e =
    bindO (bindO (pureO (.bin .geq .num true (.c x0) (.c (.int .i64 0)))) (fun z1 => iteP z1 (bindO (pureO (.bin .leq .num true (.c x0) (.c (.int .i64 1114111)))) (fun z2 => iteP z2
    (bindO (pureO (.bin .lss .num true (.c x0) (.c (.int .i64 55296)))) (fun z3 => iteP z3 (some (.bool true)) (bindO (pureO (.bin .gtr .num true (.c x0) (.c (.int .i64 57343)))) (fun
    z4 => some z4)))) (some (.bool false)))) (some (.bool false)))) (fun z5 => some (z5, e)) := by kernel_rfl
theorem run91 (B : KB) {E : Type} (h : Handler E) (dep : Nat) (e : E) (x0 : PV) (x1 : PV) :
    runK (cfg0 B (fun _ => .cl)) fn91 (.cl) h dep [.cv x0, .cv x1] e =
    bindO (pureO (.len .slice (.c x0))) (fun z1 => chkO (noUndef [x0, x1, z1, .int .i64 0]) (loopL (fun z2 => bindO (pureO (.bin .lss .num false (.c (nth z2.1 3)) (.c (nth z2.1 2))))
    (fun z3 => iteP z3 (bindO (pureO (.idxAddr 1 (.c (nth z2.1 0)) (.c (nth z2.1 3)))) (fun z4 => bindO (pureO (.load 1 false (.c z4))) (fun z5 => bindO (callO B .cl (nth z2.1 1) [z5])
    (fun z6 => iteP z6 (bindO (some (nth z2.1 3, z2.2)) (fun z7 => some (.inr z7))) (bindO (pureO (.bin .add .num true (.c (nth z2.1 3)) (.c (.int .i64 1)))) (fun z8 => some (.inl
    ([nth z2.1 0, nth z2.1 1, nth z2.1 2, z8], z2.2)))))))) (bindO (some (.int .i64 (-1), z2.2)) (fun z9 => some (.inr z9))))) ([x0, x1, z1, .int .i64 0], e))) := by kernel_rfl
theorem run92 (B : KB) {E : Type} (h : Handler E) (dep : Nat) (e : E) (x0 : PV) :
    runK (cfg0 B (fun _ => .cl)) fn92 (.cl) h dep [.nils, .cv x0] e =
    bindO (rangeO B (onRound dep h (fun z1 => fun z2 => fun z3 => chkO (okArgs z2 1) (chkO (okCells (nth z2 0) 3) (chkO (okSls 3 [.agg [cellP (nth z2 0) 0, cellP (nth z2 0) 1, cellP
    (nth z2 0) 2]]) (chkO (leN (addN 0 (lenL [.agg [cellP (nth z2 0) 0, cellP (nth z2 0) 1, cellP (nth z2 0) 2]])) (lenL [.agg [cellP (nth z2 0) 0, cellP (nth z2 0) 1, cellP (nth z2 0)
    2]])) (chkO (andB (leN (natP (nth z1 2)) (lenL (itemsP (nth z1 3)))) (leN (addN (natP (nth z1 2)) (lenL (takeL (lenL [.agg [cellP (nth z2 0) 0, cellP (nth z2 0) 1, cellP (nth z2 0)
    2]]) (dropL 0 [.agg [cellP (nth z2 0) 0, cellP (nth z2 0) 1, cellP (nth z2 0) 2]])))) 2147483648)) (some (true, ([nth z1 0, nth z1 1, nI (addN (natP (nth z1 2)) (lenL (takeL (lenL
    [.agg [cellP (nth z2 0) 0, cellP (nth z2 0) 1, cellP (nth z2 0) 2]]) (dropL 0 [.agg [cellP (nth z2 0) 0, cellP (nth z2 0) 1, cellP (nth z2 0) 2]])))), .sl 3 (catL (takeL (natP (nth
    z1 2)) (itemsP (nth z1 3))) (takeL (lenL [.agg [cellP (nth z2 0) 0, cellP (nth z2 0) 1, cellP (nth z2 0) 2]]) (dropL 0 [.agg [cellP (nth z2 0) 0, cellP (nth z2 0) 1, cellP (nth z2
    0) 2]]))) false], (none, z3)))))))))) dep x0 ([.nilS, x0, nI 0, .sl 3 [] false], (none, e))) (fun z4 => iteB (isNoneE z4.2.1) (chkO (okU (slO 3 3 (itemsP (nth z4.1 3)) 0 (natP (nth
    z4.1 2)))) (some (slO 3 3 (itemsP (nth z4.1 3)) 0 (natP (nth z4.1 2)), z4.2.2))) (iteB (isRetE z4.2.1) (some (nth z4.1 0, z4.2.2)) none)) := by kernel_rfl
theorem run93 (B : KB) {E : Type} (h : Handler E) (dep : Nat) (e : E) (x0 : Nat) (x1 : PV) :
    runK (cfg0 B (fun _ => .cl)) fn93 (.cl) h dep [.yld x0, .cv x1] e =
    bindO (pureO (.fieldAddr 0 (.c x1))) (fun z1 => bindO (pureO (.fieldAddr 2 (.c z1))) (fun z2 => bindO (pureO (.load 1 false (.c z2))) (fun z3 => bindO (pureO (.len .slice (.c z3)))
    (fun z4 => chkO (noUndef [nI x0, x1, z3, z4, .int .i64 0]) (loopL (fun z5 => bindO (pureO (.bin .lss .num false (.c (nth z5.1 4)) (.c (nth z5.1 3)))) (fun z6 => iteP z6 (bindO
    (pureO (.idxAddr 1 (.c (nth z5.1 2)) (.c (nth z5.1 4)))) (fun z7 => bindO (pureO (.load 1 false (.c z7))) (fun z8 => bindO (pureO (.load 3 true (.c (nth z5.1 1)))) (fun z9 => bindO
    (callO B .cl (.fn 94 []) [z9, z8]) (fun z10 => bindO (h (natP (nth z5.1 0)) [z10] z5.2) (fun z11 => bindO (pureO (.un .not (.c (.bool z11.1)))) (fun z12 => iteP z12 (bindO (some
    (.tup [], z11.2)) (fun z13 => some (.inr z13))) (bindO (pureO (.bin .add .num true (.c (nth z5.1 4)) (.c (.int .i64 1)))) (fun z14 => some (.inl ([nI (natP (nth z5.1 0)), nth z5.1
    1, nth z5.1 2, nth z5.1 3, z14], z11.2))))))))))) (bindO (some (.tup [], z5.2)) (fun z15 => some (.inr z15))))) ([nI x0, x1, z3, z4, .int .i64 0], e)))))) := by kernel_rfl
theorem run94 (B : KB) {E : Type} (h : Handler E) (dep : Nat) (e : E) (x0 : PV) (x1 : PV) :
    runK (cfg0 B (fun _ => .cl)) fn94 (.cl) h dep [.cv x0, .cv x1] e =
    chkO (valO x0) (bindO (selO x0 1 1 false) (fun z1 => chkO (okSls 1 [x1]) (chkO (okCells z1 1) (chkO (okU (.agg [.bool false, cellP z1 0, slO 1 1 [x1] 0 (lenL [x1])])) (some (.agg
    [.bool false, cellP z1 0, slO 1 1 [x1] 0 (lenL [x1])], e)))))) := by kernel_rfl
end Go.Ab


namespace Go.Ab.Derive
open Go Go.Ab
def ps0 : List (Nat × Nat) := [(126, 124), (146, 145), (154, 153), (182, 143)]
def sp0 (g : FuncId) (σ : Nm → Option Ob) (vs : List PV) : Option Out :=
  if g = 95 then spAsG ps0 σ vs
  else if g = 159 then spIsG [1, 2] 265 [143] vs
  else if g = 157 then spRepl vs
  else if g = 158 then spFmt vs
  else if g = 156 then spCheck 130 σ vs
  else if g = 99 then spStr 130 5 σ vs
  else none
noncomputable def B0 : KB := { sp := sp0, L := limCall sp0 tab0, I := limIo sp0 tab0, isIo := ioFlag tab0, leans := leanFlag tab0 }
end Go.Ab.Derive


namespace Go.Ab.Derive
open Go Go.Ab
def NotSp (g : FuncId) : Prop := g ≠ 95 ∧ g ≠ 159 ∧ g ≠ 157 ∧ g ≠ 158 ∧ g ≠ 156 ∧ g ≠ 99
instance (g : FuncId) : Decidable (NotSp g) := by unfold NotSp; infer_instance
theorem sp_none {g : FuncId} (h : NotSp g) (σ : Nm → Option Ob) (vs : List PV) : sp0 g σ vs = none := by
  unfold sp0
  rw [if_neg h.1, if_neg h.2.1, if_neg h.2.2.1, if_neg h.2.2.2.1, if_neg h.2.2.2.2.1, if_neg h.2.2.2.2.2]
theorem sp_here (g : FuncId) : SpHere (sp0 g) := by
  intro σ σ' vs h
  unfold sp0
  split
  · exact as_here ps0 σ σ' vs h
  split
  · rfl
  split
  · rfl
  split
  · rfl
  split
  · exact check_here 130 σ σ' vs h
  split
  · exact str_here 130 5 σ σ' vs h
  rfl
theorem io_flag : ∀ g, (iof0 g).isSome = ioFlag tab0 g := by
  intro g
  unfold iof0 ioFlag
  split
  · rfl
  · rfl
  · rename_i h0 h1
    split
    · rename_i fn ht
      unfold tab0 at ht
      split at ht
      all_goals first | (exact (h0 rfl).elim) | (exact (h1 rfl).elim) | (cases ht; done) | (cases ht; rfl)
    · rfl
theorem cfg_ok (d : Nat → RSh) : CfgOK (cfg0 B0 d) tab0 where
  L := rfl
  I := rfl
  isIo := rfl
  leans := rfl
  ioF g := io_flag g
  ioP g P h := by
    simp only [cfg0, iof0] at h
    split at h
    · cases h; exact ⟨fn96, rfl, by decide, fun xs => ⟨Nat.le_of_ble_eq_true rfl, Nat.le_of_ble_eq_true rfl⟩⟩
    · cases h; exact ⟨fn166, rfl, by decide, fun xs => ⟨Nat.le_of_ble_eq_true rfl, Nat.le_of_ble_eq_true rfl⟩⟩
    · cases h
  spF g h σ vs := by
    simp only [cfg0, Bool.or_eq_false_iff, beq_eq_false_iff_ne] at h
    obtain ⟨⟨⟨⟨⟨h0, h1⟩, h2⟩, h3⟩, h4⟩, h5⟩ := h
    exact sp_none ⟨h0, h1, h2, h3, h4, h5⟩ σ vs
  loc g σ vs hv := cfg_loc sp_here g σ vs hv
  asOk g p t n h σ nm ty cs h1 h2 := by
    have e : ∀ σ vs, sp0 95 σ vs = spAsG ps0 σ vs := fun _ _ => rfl
    simp only [cfg0] at h
    split at h
    · rename_i hc
      obtain ⟨rfl, rfl⟩ := hc
      cases h
      exact as_cfg (ps := ps0) (p := 126) (t := 124) rfl h1 h2
    split at h
    · rename_i hc
      obtain ⟨rfl, rfl⟩ := hc
      cases h
      exact as_cfg (ps := ps0) (p := 146) (t := 145) rfl h1 h2
    split at h
    · rename_i hc
      obtain ⟨rfl, rfl⟩ := hc
      cases h
      exact as_cfg (ps := ps0) (p := 154) (t := 153) rfl h1 h2
    split at h
    · rename_i hc
      obtain ⟨rfl, rfl⟩ := hc
      cases h
      exact as_cfg (ps := ps0) (p := 182) (t := 143) rfl h1 h2
    cases h
theorem call {d : Nat → RSh} {g : FuncId} {fn : RFn} {sh : RSh} {args : List PV} {u : PV} (ht : tab0 g = some fn) (hg : NotSp g) (ha : okVL args = true) (hl : Nat.ble args.length fn.nt = true)
    (hr : runK (cfg0 B0 d) fn sh noHandler 0 (args.map KV.cv) () = some (u, ())) (hio : fn.io = false := by rfl) (hb : Nat.blt g fnBase = true := by rfl) : callO B0 sh (.fn g []) args = some u := by
  refine call_of_run (cfg_ok d) ht (cap := []) (by simpa using ha) (by simpa using Nat.le_of_ble_eq_true hl) (sp_none hg (fun _ => none) _) ?_ hio hb
  simpa using hr
theorem callK {d : Nat → RSh} {g : FuncId} {fn : RFn} {sh : RSh} {args : List PV} {xs : List KV} {u : PV} (ht : tab0 g = some fn) (hg : NotSp g) (hx : okKL xs) (hun : ∀ x ∈ xs, isUnK x = false) (hpv : pvL xs = args) (hl : Nat.ble xs.length fn.nt = true)
    (hr : runK (cfg0 B0 d) fn sh noHandler 0 xs () = some (u, ())) (hio : fn.io = false := by rfl) (hb : Nat.blt g fnBase = true := by rfl) : callO B0 sh (.fn g []) args = some u :=
  call_of_runK (cfg_ok d) ht hx hun hpv (Nat.le_of_ble_eq_true hl) (sp_none hg (fun _ => none) _) hr hio hb
theorem call_eval {g : FuncId} {n : Nat} {args : List PV} {u : PV} (hg : NotSp g) (h : evalFn sp0 tab0 n Unit noHandler 0 g args () = some (u, [], ())) (hu : okV u = true) (hio : ioFlag tab0 g = false) (hb : Nat.blt g fnBase = true := by rfl) : callO B0 .cl (.fn g []) args = some u := by
  have hid : fnId g = g := by simp [fnId, hb]
  have hfa : fnArgs g args [] = args := by simp [fnArgs, hb]
  obtain ⟨e2, _, h2⟩ := evalFn_par n Unit Unit (fun _ _ => True) noHandler (fun _ => noHandler) (fun _ _ _ _ _ _ _ h => by cases h) 0 g args () () trivial _ _ _ h
  have hL : B0.L Unit noHandler 0 g args () = some (u, [], ()) := lim_of h2
  have hI : B0.isIo g = false := hio
  have hs : B0.sp g (fun _ => none) args = none := sp_none hg _ _
  unfold callO
  simp [hid, hfa, spO, hs, hI, hL, convO, convR, hu, chkO]
end Go.Ab.Derive

