/-
  Part 3 of a proof: a machine of our own for the given program, its laws, and what it says of the program. Nothing here is a claim by itself.
-/
import Derived.Test.YtfeimbgcjimjdaaGreatDoorK02
import Derived.Test.YtfeimbgcjimjdaaGreatDoorK01
set_option linter.all false

/-
  Functions: what the evaluator says of a call holds of the model's own.
-/
namespace Go.Ab

section
variable {E : Type} {cx : Cx} {w0 : World} {I0 F0 O0 : Nat → Prop} {Hd : Nat → Option Obj} {R : RelE E} {e : E} {F : Nat → Prop} {lp : Nat → Option Nat} {suf tmv : List Value}
variable {I : Nat → Prop} {L : Loc} {st : St} {w : World} {ds : List Deferred}

/-! ### The results -/

theorem res_ok (hs : SR lp I L st tmv suf w) {P : Program} : ∀ (rv : List ResultVar) (rs : List RRes) (vs : List PV), compRes P rv = some rs → resVs st rs = some vs →
    ∃ us, (rv.mapM fun (r : ResultVar) => (match r with
      | .tmp t => pure (tmv.toArray.getD t undef)
      | .cell a t => do loadVar t (← asAddr (tmv.toArray.getD a undef)) : Sem Value)).run P w = .ok us w ∧ RepL w I lp (some L) vs us := by
  intro rv
  induction rv with
  | nil =>
    intro rs vs h1 h2
    simp only [compRes, Option.some.injEq] at h1
    subst h1
    simp only [resVs, Option.some.injEq] at h2
    subst h2
    exact ⟨[], rfl, .nil⟩
  | cons r rv ih =>
    intro rs vs h1 h2
    simp only [compRes] at h1
    split at h1
    case h_2 => cases h1
    rename_i x xs hx hxs
    cases h1
    simp only [resVs] at h2
    split at h2
    case h_2 => cases h2
    rename_i v vs' hv hvs
    cases h2
    obtain ⟨us, q1, q2⟩ := ih xs vs' hxs hvs
    have key : ∃ u, (match r with
      | .tmp t => pure (tmv.toArray.getD t undef)
      | .cell a t => do loadVar t (← asAddr (tmv.toArray.getD a undef)) : Sem Value).run P w = .ok u w ∧ RepV w I lp (some L) v u := by
      cases r with
      | tmp t =>
        simp only [Option.some.injEq] at hx
        subst hx
        simp only [resV, Option.some.injEq] at hv
        subst hv
        refine ⟨tmv.toArray.getD t undef, rfl, ?_⟩
        rw [agg_getD]
        exact hs.tm.getD t undef
      | cell a t =>
        simp only [Option.map_eq_some_iff] at hx
        obtain ⟨⟨n, ag⟩, hsh, rfl⟩ := hx
        simp only [resV] at hv
        split at hv
        case h_2 => cases hv
        rename_i nm o hr
        split at hv
        case h_2 => cases hv
        rename_i cs hlk
        have hrep := hs.tm.getD a undef
        rw [hr] at hrep
        obtain ⟨b, C, hL, hbv⟩ := inv_ref hrep
        obtain ⟨p, hp, ha⟩ := hs.ob nm _ hlk
        rw [hL] at hp; cases hp
        obtain ⟨c, E', hb, hC, hone, hrl⟩ := ha
        obtain ⟨u, hu, hru⟩ := sel_rep hrl hone.1 hv
        refine ⟨u, ?_, hru⟩
        have hld := run_loadAt_row (P := P) hsh (off := o) hb (v := u) (by
          cases ag
          · simpa using hu
          · simp only [if_true] at hu ⊢
            refine ⟨by simpa using hu.1, ?_⟩
            rw [hu.2, extract_list, Nat.add_sub_cancel_left])
        show (do loadVar t (← asAddr (tmv.toArray.getD a undef)) : Sem Value).run P w = _
        rw [agg_getD]
        have hbv' : tmv.toArray.toList.getD a undef = .pointer (some ⟨b, o, none⟩) := hbv
        rw [hbv']
        simpa [Instr.loadAt, Instr.sureAddr, asAddr] using hld
    obtain ⟨u, k1, k2⟩ := key
    refine ⟨u :: us, ?_, .cons _ _ _ _ k2 q2⟩
    rw [List.mapM_cons, Sem.run_bind, k1, Result.andThen_ok, Sem.run_bind, q1, Result.andThen_ok]
    rfl

theorem one_rep {vs : List PV} {us : List Value} (h : RepL w I lp (some L) vs us) : RepV w I lp (some L) (oneOf vs) (if h : us.toArray.size = 1 then us.toArray[0] else .tuple us.toArray) := by
  match vs, us, h with
  | [], [], .nil => exact .tup [] #[] .nil
  | [v], [u], .cons _ _ _ _ h .nil => exact h
  | v :: v' :: vs, u :: u' :: us, h =>
    have : ¬ (u :: u' :: us).toArray.size = 1 := by simp
    rw [dif_neg this]
    exact .tup _ _ (by simpa using h)

/-! ### What is handed over -/

theorem mapM_some {σ : Nm → Option Ob} : ∀ (S : List Nm) (obs : List Ob), S.mapM σ = some obs → obs.length = S.length ∧ ∀ (j : Nat) (nm : Nm), S[j]? = some nm → ∃ ob, obs[j]? = some ob ∧ σ nm = some ob := by
  intro S
  induction S with
  | nil => intro obs h; simp at h; subst h; exact ⟨rfl, fun j nm h => by simp at h⟩
  | cons x S ih =>
    intro obs h
    rw [List.mapM_cons] at h
    simp only [Option.bind_eq_bind, Option.bind_eq_some_iff, Option.pure_def, Option.some.injEq] at h
    obtain ⟨ob, ho, obs', hos, rfl⟩ := h
    obtain ⟨q1, q2⟩ := ih obs' hos
    refine ⟨by simp [q1], fun j nm hj => ?_⟩
    cases j with
    | zero => simp at hj; subst hj; exact ⟨ob, rfl, ho⟩
    | succ j => simp at hj; obtain ⟨o, h1, h2⟩ := q2 j nm hj; exact ⟨o, by simpa using h1, h2⟩

theorem nodupN_inj : ∀ {S : List Nm}, nodupN S = true → ∀ (i j : Nat) (nm : Nm), S[i]? = some nm → S[j]? = some nm → i = j := by
  intro S
  induction S with
  | nil => intro _ i j nm h; simp at h
  | cons x S ih =>
    intro h i j nm hi hj
    simp only [nodupN, Bool.and_eq_true, Bool.not_eq_true'] at h
    obtain ⟨h1, h2⟩ := h
    have hx : x ∉ S := by simpa using h1
    cases i with
    | zero =>
      cases j with
      | zero => rfl
      | succ j => simp at hi hj; subst hi; exact absurd (List.mem_of_getElem? hj) hx
    | succ i =>
      cases j with
      | zero => simp at hi hj; subst hj; exact absurd (List.mem_of_getElem? hi) hx
      | succ j => simp at hi hj; rw [ih h2 i j nm hi hj]

theorem isArr_bare {ob : Ob} (h : isArr ob = true) : isArr ob.bare = true := by cases ob <;> first | exact h | rfl

theorem ObAt.bare {w : World} {I : Nat → Prop} {lp : Nat → Option Nat} {L : Loc} {ob : Ob} {p : Option (Nat × Nat)} (h : ObAt w I lp L ob p) : ObAt w I lp L ob.bare p := by
  cases p with
  | none => obtain ⟨k, kt, rfl⟩ := h; exact ⟨k, 0, rfl⟩
  | some p =>
    cases ob with
    | arr k kt xs => obtain ⟨c, E, h1, h2, h3, h4⟩ := h; exact ⟨c, E, h1, h2, ⟨h3.1, .inl rfl⟩, h4⟩
    | cells ty cs => exact h
    | map es => exact h
    | siter s p => exact h

theorem hand_ok {shut : Bool} (hs : SR lp I L st tmv suf w) (hf : Fr cx w0 I0 F0 (fun _ => False) Hd R e ds I F L w) {v v' : PV} {u : Value} {obs : List Ob} (hv : RepV w I lp (some L) v u) (h : handOver shut st v = some (v', obs)) :
    ∃ I' ps, CallEnd cx R lp I0 F0 w0 v' obs e u w I' F ps := by
  simp only [handOver] at h
  generalize hS : (if (nodupN (topsOf shut v) && (topsOf shut v).all fun nm => !(reach (look st.objs) deepest (v.names.filter fun nm => !(topsOf shut v).contains nm)).contains nm) = true then topsOf shut v else []) = S at h
  generalize hRn : reach (look st.objs) deepest (v.names.filter fun nm => !S.contains nm) = Rn at h
  split at h
  case h_2 => cases h
  rename_i obs' hm
  obtain ⟨hk, h⟩ := chk_some h
  cases h
  simp only [Bool.and_eq_true] at hk
  obtain ⟨hR, harr⟩ := hk
  obtain ⟨m1, m2⟩ := mapM_some S obs' hm
  have hSnd : nodupN S = true ∧ ∀ nm ∈ S, nm ∉ Rn := by
    by_cases hc : (nodupN (topsOf shut v) && (topsOf shut v).all fun nm => !(reach (look st.objs) deepest (v.names.filter fun nm => !(topsOf shut v).contains nm)).contains nm) = true
    · rw [if_pos hc] at hS
      subst hS
      rw [Bool.and_eq_true] at hc
      refine ⟨hc.1, fun nm hn => ?_⟩
      have := List.all_eq_true.1 hc.2 nm hn
      rw [hRn] at this
      simpa using this
    · rw [if_neg hc] at hS
      subst hS
      exact ⟨rfl, fun nm hn => by cases hn⟩
  obtain ⟨hnd, hdis⟩ := hSnd
  have hloc : ∀ (j : Nat) (nm : Nm), S[j]? = some nm → ∃ p ob, L nm = some p ∧ obs'[j]? = some ob ∧ ObAt w I lp L ob p := by
    intro j nm hj
    obtain ⟨ob, h1, h2⟩ := m2 j nm hj
    obtain ⟨p, hp, ha⟩ := hs.ob nm ob h2
    exact ⟨p, ob, hp, h1, ha⟩
  refine ⟨inR I L Rn, S.map (fun nm => (L nm).getD none), ?_⟩
  have hfz := hf.freeze Rn
  have hps : ∀ (j : Nat) (p : Option (Nat × Nat)), (S.map (fun nm => (L nm).getD none))[j]? = some p → ∃ nm, S[j]? = some nm ∧ L nm = some p := by
    intro j p hj
    rw [List.getElem?_map, Option.map_eq_some_iff] at hj
    obtain ⟨nm, h1, h2⟩ := hj
    obtain ⟨q, ob, hq, _, _⟩ := hloc j nm h1
    rw [hq] at h2
    simp only [Option.getD_some] at h2
    subst h2
    exact ⟨nm, h1, hq⟩
  refine ⟨hfz.ext, hfz.sep, hfz.wd, hfz.re, by rw [List.length_map, List.length_map, m1], ?_, ?_, ?_, ?_, by rw [List.all_map]; exact List.all_eq_true.2 fun ob ho => isArr_bare (List.all_eq_true.1 harr ob ho)⟩
  · intro j ob p hj hp
    obtain ⟨nm, h1, h2⟩ := hps j p hp
    obtain ⟨q, ob', hq, ho, ha⟩ := hloc j nm h1
    rw [h2] at hq; cases hq
    rw [List.getElem?_map, ho] at hj; cases hj
    have hj := ho
    refine ObAt.bare ?_
    exact (ha.mono (I' := inR I L Rn) (fun _ h => .inl h) (fun _ _ => rfl) (fun _ _ h => h) fun _ _ _ => rfl).ofArr (List.all_eq_true.1 harr _ (List.mem_of_getElem? hj))
  · intro j b C hj
    obtain ⟨nm, h1, h2⟩ := hps j _ hj
    obtain ⟨g1, g2, g3, g4⟩ := hf.lB nm b C h2
    refine ⟨g1.elim id fun h => h.elim, g2, ?_, g4⟩
    rintro (hb | ⟨nm', hm', C', hL'⟩)
    · exact g3 hb
    · have := hf.inj nm nm' b C C' h2 hL'
      subst this
      exact hdis nm (List.mem_of_getElem? h1) hm'
  · intro j j' b C C' h1 h2
    obtain ⟨nm, a1, a2⟩ := hps j _ h1
    obtain ⟨nm', b1, b2⟩ := hps j' _ h2
    have := hf.inj nm nm' b C C' a2 b2
    subst this
    exact nodupN_inj hnd j j' nm a1 b1
  · have hsub : SubOK w (inR I L Rn) lp L (some fun nm => if nm ∈ S then L nm else none) (fun nm => nm ∈ S ∨ nm ∈ Rn) (fun nm => if S.contains nm then none else closed (look st.objs) nm) := by
      intro nm p hn hp
      by_cases hm : nm ∈ S
      · have : S.contains nm = true := by simpa using hm
        simp only [this, if_true]
        exact ⟨_, rfl, by simp [hm, hp]⟩
      · have : S.contains nm = false := by simpa using hm
        simp only [this, Bool.false_eq_true, if_false]
        have := closed_ok hs hR (none) nm p (hn.resolve_left hm) hp
        cases hcl : closed (look st.objs) nm with
        | none => simp [closed] at hcl
        | some q =>
          rw [hcl] at this
          cases q with
          | none => trivial
          | some ob => exact this
    have h1 := RepV.subst (I' := inR I L Rn) (fun b hb => .inl hb) hsub hv (fun nm hn => by
      by_cases hm : nm ∈ S
      · exact .inl hm
      · refine .inr ?_
        rw [← hRn]
        exact reach_mem _ _ _ (List.mem_filter.2 ⟨hn, by simpa using hm⟩))
    refine RepV.rename (fun nm p hp => ?_) h1
    split at hp
    · rename_i hm
      have hidx := List.idxOf_lt_length_of_mem hm
      have hget : S[S.idxOf nm]? = some nm := by rw [List.getElem?_eq_getElem hidx]; simp
      simp [toIdx, locOf, locNew, hget, hp]
    · cases hp

/-! ### The way out -/

theorem leaves_ok {P : Program} {fn : Func} {tmps : Array Value} {Rr : Ending → World → Prop} : ∀ {ds : List Deferred} {w : World} {lo : Nat} {I F : Nat → Prop} {L : Loc}, Marks lo I F L w ds → (∀ w' : World, w'.os = w.os → w'.tape = w.tape → w'.output = w.output → w'.heap.size = w.heap.size →
      (∀ b, (b < lo ∨ I b ∨ F b ∨ ∃ nm C, L nm = some (some (b, C))) → w'.heap[b]? = w.heap[b]?) → ∃ v, (results fn tmps).run P w' = .ok v w' ∧ Rr (.returned v) w') →
    LeavesInM Fence.wide 0 P fn tmps Rr ds .returning w := by
  intro ds
  induction ds with
  | nil =>
    intro w lo I F L _ h
    obtain ⟨v, h1, h2⟩ := h w rfl rfl rfl rfl fun _ _ => rfl
    exact ⟨v, h1, h2⟩
  | cons d ds ih =>
    intro w lo I F L hm h
    cases hm with
    | cons D _ h1 h2 h3 h4 h5 h6 h7 hr =>
      refine ⟨by simp, .inl ⟨D, _, rfl, run_takeDeferred h6, ?_⟩⟩
      have hk : ∀ b, b ≠ D → (w.putObj D (.deferred none)).heap[b]? = w.heap[b]? := fun b hb => World.putObj_heap_other hb
      have hsz : (w.putObj D (.deferred none)).heap.size = w.heap.size := World.putObj_size
      have hr' : Marks lo I F L (w.putObj D (.deferred none)) ds := by
        have key : ∀ ds, Marks lo I F L w ds → (∀ d ∈ ds, d.target ≠ .collected D) → Marks lo I F L (w.putObj D (.deferred none)) ds := by
          intro ds hm
          induction hm with
          | nil => intro _; exact .nil
          | cons D' ds g1 g2 g3 g4 g5 g6 g7 _ ih =>
            intro hne
            have hDD : D' ≠ D := fun e => hne { target := .collected D', args := #[] } List.mem_cons_self (by rw [e])
            exact .cons D' ds g1 (by rw [hsz]; exact g2) g3 g4 g5 ((hk D' hDD).trans g6) g7 (ih fun d hd => hne d (List.mem_cons_of_mem _ hd))
        exact key ds hr h7
      refine ih hr' fun w' e1 e2 e3 e4 e5 => h w' e1 e2 e3 (by rw [e4, hsz]) fun b hb => ?_
      have hne : b ≠ D := by
        rintro rfl
        rcases hb with hb | hb | hb | ⟨nm, C, hb⟩
        · omega
        · exact h3 hb
        · exact h4 hb
        · exact h5 nm C hb
      exact (e5 b hb).trans (hk b hne)
end

/-! ### Functions -/

/-- The table's functions are those of the program. -/
def TabOK (cx : Cx) (tab : FuncId → Option RFn) (dd : FuncId → Dead) : Prop := ∀ f fn, tab f = some fn → compF cx.P cx.G (dd f) f = some { fn with io := false, shut := false, leans := false }

theorem tab_fn {cx : Cx} {tab : FuncId → Option RFn} {dd : FuncId → Dead} (htab : TabOK cx tab dd) {g : FuncId} {rf : RFn} (hrf : tab g = some rf) : ∃ fn c, cx.P.funcs[g]? = some fn ∧ fn.body = some c ∧ compRes cx.P fn.results.toList = some rf.res ∧ ¬ (fn.name == "runtime.NumGoroutine") = true ∧ rf.nt = fn.ntmps ∧ rf.code = compC cx.P cx.G (dd g) c := by
  have hcf := htab g rf hrf
  unfold compF at hcf
  split at hcf
  case h_2 => cases hcf
  rename_i fn hfn
  split at hcf
  case h_2 => cases hcf
  rename_i c rs hbody hres
  split at hcf
  case isTrue => cases hcf
  rename_i hname
  obtain ⟨nt, code, res, io⟩ := rf
  simp only [Option.some.injEq, RFn.mk.injEq, and_true] at hcf
  obtain ⟨rfl, rfl, rfl⟩ := hcf
  exact ⟨fn, c, hfn, hbody, hres, hname, rfl, rfl⟩

theorem callOf_ok {cx : Cx} {M : Mach} {tab : FuncId → Option RFn} (hM : CallOK cx M.call) (hsp : MSp cx M) (hloc : MLoc M) {dd : FuncId → Dead} (htab : TabOK cx tab dd) (n : Nat) : CallOK cx (callOf M n tab) := by
    intro E h R dep lp Ir Fr_ wr g args e r obs e' hc hand hdep
    simp only [callOf] at hc
    split at hc
    · cases hc
    rename_i rf hrf
    obtain ⟨fn, c, hfn, hbody, hres, hname, hnt, hcode⟩ := tab_fn htab hrf
    rw [hnt, hcode] at hc
    split at hc
    case h_2 => cases hc
    rename_i x st2 e2 hev
    refine ⟨⟨fn, hfn, by simpa using hname, by rw [hbody]; rfl⟩, fun I F w vs hx hsep hwd hre hrep => ?_⟩
    have hend : x ≠ .normal → x = .ret ∨ ∃ id, x = .exit id := by cases x <;> simp
    have hxe : ∀ id, x ≠ .exit id := by rintro id rfl; simp at hc
    have hc2 : (match resVs st2 rf.res with
          | some vs => match handOver rf.shut st2 (oneOf vs) with
            | some (v, obs) => some (v, obs, e2)
            | none => none
          | none => none) = some (r, obs, e') := by
      cases x with
      | normal => exact hc
      | ret => exact hc
      | exit id => exact absurd rfl (hxe id)
    split at hc2
    case h_2 => cases hc2
    rename_i rvs hrvs
    split at hc2
    case h_2 => cases hc2
    rename_i v' obs' hho
    cases hc2
    refine callsIn_of_wp_marks hfn hbody trivial ?_
    have hlen := hrep.length
    have hst0 : SR lp I (fun _ => none) { tmps := args ++ List.replicate (fn.ntmps - args.length) .undef, objs := List.replicate fn.ntmps [], keep := [] } (vs.toArray ++ Array.replicate (fn.ntmps - vs.toArray.size) undef).toList [] w := by
      refine ⟨?_, .nil, fun nm ob hl => ?_, fun nm _ => rfl⟩
      · have h2 : RepL w I lp (some fun _ => none) (List.replicate (fn.ntmps - args.length) PV.undef) (List.replicate (fn.ntmps - args.length) undef) := RepL.undefs _ _ (by simp)
        have := (hrep.lift (some fun _ => none)).append h2
        simpa [hlen] using this
      · exfalso
        have hnone : look (List.replicate fn.ntmps []) nm = none := by
          unfold look
          cases hg : (List.replicate fn.ntmps ([] : List Ob))[nm.1]? with
          | none => rfl
          | some l =>
            have := List.eq_of_mem_replicate (List.mem_of_getElem? hg)
            subst this
            simp
        rw [hnone] at hl
        cases hl
    have hfr0 : Fr cx w I F (fun _ => False) (fun _ => none) R e [] I F (fun _ => none) w :=
      ⟨Ext.refl _ _ _, hsep, fun b hb => hb.elim, fun nm b C hn => (by cases hn), fun nm nm' b C C' hn => (by cases hn), hwd, hre, .nil, fun b ob hb => (by cases hb)⟩
    refine code_ok (dd := dd g) (M := M) hM hsp hloc c E h dep R lp w I F (fun _ => False) (fun _ => none) [] none _ e x st2 e' hev ⟨⟨Ir, Fr_, wr, hand, hx⟩, hdep⟩ (fun l0 he => by cases he) { tmps := _, defers := [] } w I F _ _ hst0 hfr0 ?_
    rintro a' w' I' F' L' hs' hf'
    have hpost : LeavesInM Fence.wide 0 cx.P fn a'.tmps (CallPost cx R lp I F w r obs e') a'.defers .returning w' := by
      refine leaves_ok hf'.mks fun w2 e1 e3 e4 e5 e6 => ?_
      have hkI : ∀ b, I' b → w2.heap[b]? = w'.heap[b]? := fun b hb => e6 b (.inr (.inl hb))
      have hkF : ∀ b, F' b → w2.heap[b]? = w'.heap[b]? := fun b hb => e6 b (.inr (.inr (.inl hb)))
      have hs2 : SR lp I' L' st2 a'.tmps.toList [] w2 := hs'.keeps (fun _ h => h) hkI fun nm b C hn => e6 b (.inr (.inr (.inr ⟨nm, C, hn⟩)))
      have hf2 : Fr cx w I F (fun _ => False) (fun _ => none) R e' [] I' F' L' w2 := by
        refine ⟨⟨e1.trans hf'.ext.os, e3.trans hf'.ext.tape, e4.trans hf'.ext.output, by rw [e5]; exact hf'.ext.size, fun b hb hF => (e6 b (.inl hb)).trans (hf'.ext.keep b hb hF), hf'.ext.subI, hf'.ext.newI, hf'.ext.newF⟩,
          ⟨fun b hb => by rw [e5]; exact hf'.sep.iB b hb, fun b hb => ⟨by rw [e5]; exact (hf'.sep.fB b hb).1, (hf'.sep.fB b hb).2⟩⟩, fun b hb => hb.elim, fun nm b C hn => ?_, hf'.inj, ?_, ?_, .nil, fun b ob hb => by cases hb⟩
        · obtain ⟨q1, q2, q3, q4⟩ := hf'.lB nm b C hn
          exact ⟨q1, by rw [e5]; exact q2, q3, q4⟩
        · exact cx.stab I' I' w' w2 hf'.wd (fun _ h => h) hkI (by rw [e5]; exact Nat.le_refl _)
        · exact R.stab e' I' I' F' w' w2 hf'.re (fun _ h => h) (fun b hb => hb.elim (hkI b) (hkF b)) (by rw [e5]; exact Nat.le_refl _)
      obtain ⟨us, q1, q2⟩ := res_ok hs2 (P := cx.P) fn.results.toList rf.res rvs hres hrvs
      obtain ⟨I3, ps, hce⟩ := hand_ok hs2 hf2 (one_rep q2) hho
      refine ⟨_, ?_, ⟨I3, F', ps, hce⟩⟩
      unfold results
      rw [Sem.run_bind, Array.mapM_eq_mapM_toList, Sem.run_map]
      rw [Array.toArray_toList] at q1
      exact (congrArg (fun r : Result (List Value) => (r.andThen fun a w' => Result.ok a.toArray w').andThen fun a w' => Sem.run cx.P (pure (if h : a.size = 1 then a[0] else Value.tuple a)) w') q1).trans rfl
    cases x with
    | normal => exact hpost
    | ret => exact hpost
    | exit id => exact absurd rfl (hxe id)
end Go.Ab

/-
  Calls that turn what they are handed by name.
-/
namespace Go.Ab

/-! ### Small laws -/


section
variable {w : World} {I : Nat → Prop} {lp lp' : Nat → Option Nat}

/-- A value looks at the names that it bears alone. -/
theorem RepV.narrow {L L' : Loc} {x : PV} {v : Value} (h : RepV w I lp (some L) x v) (hn : ∀ nm ∈ x.names, ∀ p, L nm = some p → L' nm = some p) : RepV w I lp (some L') x v := by
  have hs : SubOK w I lp L (some L') (fun nm => nm ∈ x.names) (fun _ => none) := fun nm p hS hp => ⟨L', rfl, hn nm hS p hp⟩
  have := RepV.subst (fun _ h => h) hs h fun _ h => h
  rwa [Go.Ab.sub_id] at this
theorem RepL.narrow {L L' : Loc} {xs : List PV} {vs : List Value} (h : RepL w I lp (some L) xs vs) (hn : ∀ nm ∈ namesL xs, ∀ p, L nm = some p → L' nm = some p) : RepL w I lp (some L') xs vs := by
  have hs : SubOK w I lp L (some L') (fun nm => nm ∈ namesL xs) (fun _ => none) := fun nm p hS hp => ⟨L', rfl, hn nm hS p hp⟩
  have := RepL.subst (fun _ h => h) hs h fun _ h => h
  rwa [Go.Ab.subL_id] at this
theorem ObAt.narrow {L L' : Loc} {ob : Ob} {p : Option (Nat × Nat)} (h : ObAt w I lp L ob p) (hn : ∀ nm ∈ ob.names, ∀ p, L nm = some p → L' nm = some p) : ObAt w I lp L' ob p := by
  have hs : SubOK w I lp L (some L') (fun nm => nm ∈ ob.names) (fun _ => none) := fun nm p hS hp => ⟨L', rfl, hn nm hS p hp⟩
  have := ObAt.subst h (fun _ h => h) (fun _ _ => rfl) hs (fun _ h => h) fun _ _ _ => rfl
  rwa [Ob.sub_id] at this

theorem ObAt.noY {L : Loc} {ob : Ob} {p : Option (Nat × Nat)} (h : ObAt w I lp L ob p) (hy : ob.hasY = false) : ObAt w I lp' L ob p := by
  cases p with
  | none => exact h
  | some p =>
    cases ob with
    | cells ty cs => obtain ⟨c, E, h1, h2, h4, h3⟩ := h; exact ⟨c, E, h1, h2, h4, h3.noY hy⟩
    | arr k kt xs => obtain ⟨c, E, h1, h2, h3, h4, h6, h5⟩ := h; exact ⟨c, E, h1, h2, h3, h4, h6, h5.noY (hasY_cellsL (w := w) (I := I) (lp := lp) (lp' := lp') xs hy)⟩
    | map es => obtain ⟨c, E, h1, h2⟩ := h; exact ⟨c, E, h1, h2.noY hy⟩
    | siter s pos => exact h

/-- Where it lay, with as much room. -/
def GeP : Option (Nat × Nat) → Option (Nat × Nat) → Prop
  | none, none => True
  | some (b, C), some (b', C') => b' = b ∧ C ≤ C'
  | _, _ => False

def LocGe (L L' : Loc) : Prop := ∀ nm p, L nm = some p → ∃ p', L' nm = some p' ∧ GeP p p'

theorem GeP.refl (p : Option (Nat × Nat)) : GeP p p := by
  cases p with
  | none => trivial
  | some p => exact ⟨rfl, Nat.le_refl _⟩

theorem LocGe.at {L L' : Loc} (h : LocGe L L') {nm : Nm} {b C : Nat} (hn : L nm = some (some (b, C))) : ∃ C', L' nm = some (some (b, C')) ∧ C ≤ C' := by
  obtain ⟨p, h1, h2⟩ := h nm _ hn
  cases p with
  | none => exact h2.elim
  | some p => obtain ⟨b', C'⟩ := p; obtain ⟨rfl, h3⟩ := h2; exact ⟨C', h1, h3⟩
theorem LocGe.atN {L L' : Loc} (h : LocGe L L') {nm : Nm} (hn : L nm = some none) : L' nm = some none := by
  obtain ⟨p, h1, h2⟩ := h nm _ hn
  cases p with
  | none => exact h1
  | some p => exact h2.elim

mutual
theorem RepV.ge {L L' : Loc} {x : PV} {v : Value} : RepV w I lp (some L) x v → LocGe L L' → RepV w I lp (some L') x v
  | .undef v, _ => .undef v
  | .bool b, _ => .bool b
  | .int k n, _ => .int k n
  | .str s, _ => .str s
  | .nilS, _ => .nilS
  | .nilP, _ => .nilP
  | .nilF, _ => .nilF
  | .nilI, _ => .nilI
  | .nilM, _ => .nilM
  | .slE k full a cap hf, _ => .slE k full a cap hf
  | .sl k xs full b off cap c E fr h1 h2 h3 h4 h5 h6 h8 h7, _ => .sl k xs full b off cap c E fr h1 h2 h3 h4 h5 h6 h8 h7
  | .ptr cs o b off c E fr h1 h2 h3 h4 h8 h5, _ => .ptr cs o b off c E fr h1 h2 h3 h4 h8 h5
  | .agg cs vs h1 h, e => .agg cs vs h1 (h.ge e)
  | .iface t x v h, e => .iface t x v (h.ge e)
  | .fn f cs vs h, e => .fn f cs vs (h.ge e)
  | .yld d l h, _ => .yld d l h
  | .tup xs vs h, e => .tup xs vs (h.ge e)
  | .imap es r ents clock h1 h2 h3, _ => .imap es r ents clock h1 h2 h3
  | .glob g t x c E fr h1 h2 h3, _ => .glob g t x c E fr h1 h2 h3
  | .ref nm o b C h, e => let ⟨C', h', _⟩ := e.at h; .ref nm o b C' h'
  | .aref nm k i o b C h, e => let ⟨C', h', _⟩ := e.at h; .aref nm k i o b C' h'
  | .arr nm k o n cap b C h hC hn, e => let ⟨C', h', hle⟩ := e.at h; .arr nm k o n cap b C' h' (Nat.le_trans hC hle) hn
  | .arrN nm k h, e => .arrN nm k (e.atN h)
  | .mp nm b C h, e => let ⟨C', h', _⟩ := e.at h; .mp nm b C' h'
  | .it nm b C h, e => let ⟨C', h', _⟩ := e.at h; .it nm b C' h'
theorem RepL.ge {L L' : Loc} {xs : List PV} {vs : List Value} : RepL w I lp (some L) xs vs → LocGe L L' → RepL w I lp (some L') xs vs
  | .nil, _ => .nil
  | .cons x v xs vs h hs, e => .cons x v xs vs (h.ge e) (hs.ge e)
end

theorem ObAt.ge {L L' : Loc} {ob : Ob} {p : Option (Nat × Nat)} (h : ObAt w I lp L ob p) (e : LocGe L L') : ObAt w I lp L' ob p := by
  cases p with
  | none => exact h
  | some p =>
    cases ob with
    | cells ty cs => obtain ⟨c, E, h1, h2, h4, h3⟩ := h; exact ⟨c, E, h1, h2, h4, h3.ge e⟩
    | arr k kt xs => exact h
    | map es => exact h
    | siter s pos => exact h

theorem RepL.of_get {L : Option Loc} : ∀ {xs : List PV} {vs : List Value}, xs.length = vs.length → (∀ (i : Nat) (x : PV) (v : Value), xs[i]? = some x → vs[i]? = some v → RepV w I lp L x v) → RepL w I lp L xs vs := by
  intro xs
  induction xs with
  | nil => intro vs h _; cases vs with | nil => exact .nil | cons v vs => simp at h
  | cons x xs ih =>
    intro vs h hg
    cases vs with
    | nil => simp at h
    | cons v vs => exact .cons _ _ _ _ (hg 0 x v rfl rfl) (ih (by simpa using h) fun i y u hy hu => hg (i + 1) y u (by simpa using hy) (by simpa using hu))
end

theorem mem_dedupN : ∀ {l : List Nm} {x : Nm}, x ∈ dedupN l ↔ x ∈ l := by
  intro l
  induction l with
  | nil => intro x; simp [dedupN]
  | cons y l ih =>
    intro x
    simp only [dedupN]
    split
    · rename_i h
      have hy : y ∈ l := by simpa using h
      rw [ih, List.mem_cons]
      exact ⟨.inr, fun h => h.elim (fun e => e ▸ hy) id⟩
    · rw [List.mem_cons, List.mem_cons, ih]

theorem dedupN_inj : ∀ {l : List Nm} (i j : Nat) (x : Nm), (dedupN l)[i]? = some x → (dedupN l)[j]? = some x → i = j := by
  intro l
  induction l with
  | nil => intro i j x h; simp [dedupN] at h
  | cons y l ih =>
    intro i j x hi hj
    simp only [dedupN] at hi hj
    split at hi
    · rename_i h
      rw [if_pos h] at hj
      exact ih i j x hi hj
    · rename_i h
      rw [if_neg h] at hj
      have hy : y ∉ dedupN l := fun hm => h (by simpa using mem_dedupN.1 hm)
      cases i with
      | zero =>
        cases j with
        | zero => rfl
        | succ j => simp at hi hj; subst hi; exact absurd (List.mem_of_getElem? hj) hy
      | succ i =>
        cases j with
        | zero => simp at hi hj; subst hj; exact absurd (List.mem_of_getElem? hi) hy
        | succ j => simp at hi hj; rw [ih i j x hi hj]

theorem idx_get {l : List Nm} {x : Nm} (h : x ∈ l) : l[l.idxOf x]? = some x := by
  have hidx := List.idxOf_lt_length_of_mem h
  rw [List.getElem?_eq_getElem hidx]; simp

/-- Pairs that are told by their first. -/
theorem lookup_of : ∀ {B : List (Nm × Nm)} {s t : Nm}, nodupN (B.map (·.1)) = true → (s, t) ∈ B → B.lookup s = some t := by
  intro B
  induction B with
  | nil => intro s t _ h; cases h
  | cons p B ih =>
    obtain ⟨a, b⟩ := p
    intro s t hn h
    simp only [List.map_cons, nodupN, Bool.and_eq_true, Bool.not_eq_true'] at hn
    rcases List.mem_cons.1 h with h2 | h2
    · cases h2; simp
    · have hne : s ≠ a := by
        rintro rfl
        have : (B.map (·.1)).contains s = true := by rw [List.contains_iff_mem]; exact List.mem_map.2 ⟨(s, t), h2, rfl⟩
        rw [this] at hn; cases hn.1
      have hb : (s == a) = false := by simpa using hne
      rw [List.lookup_cons, hb]
      exact ih hn.2 h2

theorem first_uniq {B : List (Nm × Nm)} (hn : nodupN (B.map (·.1)) = true) {s t t' : Nm} (h : (s, t) ∈ B) (h' : (s, t') ∈ B) : t = t' := by
  have := (lookup_of hn h).symm.trans (lookup_of hn h')
  exact Option.some.inj this

theorem look_putObs : ∀ (l : List (Nm × Ob)) (objs : List (List Ob)) (t : Nm), (∀ p ∈ l, ∃ o, look objs p.1 = some o) →
    (∀ o, (∀ o', (t, o') ∈ l → o' = o) → (t, o) ∈ l → look (putObs l objs) t = some o) ∧ ((∀ o, (t, o) ∉ l) → look (putObs l objs) t = look objs t) := by
  intro l
  induction l with
  | nil => intro objs t _; exact ⟨fun o _ h => (by cases h), fun _ => rfl⟩
  | cons p l ih =>
    obtain ⟨nm, ob⟩ := p
    intro objs t hx
    have hx' : ∀ p ∈ l, ∃ o, look (putOb objs nm ob) p.1 = some o := by
      intro p hp
      cases hl : look (putOb objs nm ob) p.1 with
      | some o => exact ⟨o, rfl⟩
      | none =>
        obtain ⟨o, ho⟩ := hx p (List.mem_cons_of_mem _ hp)
        rw [look_put_none] at hl
        rw [ho] at hl; cases hl
    obtain ⟨i1, i2⟩ := ih (putOb objs nm ob) t hx'
    refine ⟨fun o hu ho => ?_, fun hno => ?_⟩
    · by_cases hl : ∃ o', (t, o') ∈ l
      · obtain ⟨o', ho'⟩ := hl
        have := hu o' (List.mem_cons_of_mem _ ho')
        subst this
        exact i1 o' (fun o2 h2 => hu o2 (List.mem_cons_of_mem _ h2)) ho'
      · have hnl : ∀ o', (t, o') ∉ l := fun o' h => hl ⟨o', h⟩
        rcases List.mem_cons.1 ho with he | he
        · have e1 : t = nm := congrArg Prod.fst he
          have e2 : o = ob := congrArg Prod.snd he
          subst e1; subst e2
          obtain ⟨o0, h0⟩ := hx (t, o) List.mem_cons_self
          have := i2 hnl
          exact this.trans (look_put_same o h0)
        · exact absurd he (hnl o)
    · have hne : t ≠ nm := by rintro rfl; exact hno ob List.mem_cons_self
      show look (putObs l (putOb objs nm ob)) t = look objs t
      rw [i2 fun o h => hno o (List.mem_cons_of_mem _ h), look_put_other ob hne]


/-! ### Behind a call -/

/-- Where objects lie behind a call: those that bear names of the callee's lie where they lay there. -/
noncomputable def locIo (L L' : Loc) (B : List (Nm × Nm)) : Loc := fun t =>
  open Classical in if h : ∃ s, (s, t) ∈ B then some ((L' h.choose).getD none) else L t

theorem locIo_in {L L' : Loc} {B : List (Nm × Nm)} (hU : ∀ s s' t, (s, t) ∈ B → (s', t) ∈ B → s = s') {s t : Nm} (h : (s, t) ∈ B) : locIo L L' B t = some ((L' s).getD none) := by
  unfold locIo
  have hx : ∃ s, (s, t) ∈ B := ⟨s, h⟩
  rw [dif_pos hx, hU _ _ t hx.choose_spec h]

theorem locIo_out {L L' : Loc} {B : List (Nm × Nm)} {t : Nm} (h : ∀ s, (s, t) ∉ B) : locIo L L' B t = L t := by
  unfold locIo
  rw [dif_neg fun ⟨s, hs⟩ => h s hs]

def cutTo (B : List (Nm × Nm)) (m : Nm) : Option (Option Ob) := if (B.map (·.1)).contains m then none else some none
def nameTo (B : List (Nm × Nm)) (m : Nm) : Nm := (B.lookup m).getD m

theorem mem_first {B : List (Nm × Nm)} {m : Nm} : (B.map (·.1)).contains m = true ↔ ∃ t, (m, t) ∈ B := by
  rw [List.contains_iff_mem, List.mem_map]
  constructor
  · rintro ⟨⟨a, b⟩, h1, rfl⟩; exact ⟨b, h1⟩
  · rintro ⟨t, h⟩; exact ⟨(m, t), h, rfl⟩

section take
variable {w : World} {I : Nat → Prop} {lp : Nat → Option Nat} {L L' : Loc} {B : List (Nm × Nm)}

theorem cut_ok (hn : nodupN (B.map (·.1)) = true) (hU : ∀ s s' t, (s, t) ∈ B → (s', t) ∈ B → s = s') : SubOK w I lp L' (some fun m => if (B.map (·.1)).contains m then L' m else none) (fun _ => True) (cutTo B) := by
  intro nm p _ hp
  by_cases h : (B.map (·.1)).contains nm = true
  · simp only [cutTo, h, if_true]; exact ⟨_, rfl, by simp only [h, if_true]; exact hp⟩
  · simp only [cutTo, h]; trivial

theorem name_ok (hn : nodupN (B.map (·.1)) = true) (hU : ∀ s s' t, (s, t) ∈ B → (s', t) ∈ B → s = s') (nm : Nm) (p : Option (Nat × Nat)) (hp : (fun m => if (B.map (·.1)).contains m then L' m else none) nm = some p) : locIo L L' B (nameTo B nm) = some p := by
  simp only at hp
  split at hp
  · rename_i h
    obtain ⟨t, ht⟩ := mem_first.1 h
    have hl : nameTo B nm = t := by unfold nameTo; rw [lookup_of hn ht]; rfl
    rw [hl, locIo_in hU ht, hp]; rfl
  · cases hp

theorem take_val (hn : nodupN (B.map (·.1)) = true) (hU : ∀ s s' t, (s, t) ∈ B → (s', t) ∈ B → s = s') {x : PV} {v : Value} (h : RepV w I lp (some L') x v) : RepV w I lp (some (locIo L L' B)) ((x.sub (cutTo B)).ren (nameTo B)) v :=
  RepV.rename (name_ok hn hU) (RepV.subst (fun _ h => h) (cut_ok hn hU) h fun _ _ => trivial)

theorem take_ob (hn : nodupN (B.map (·.1)) = true) (hU : ∀ s s' t, (s, t) ∈ B → (s', t) ∈ B → s = s') {ob : Ob} {p : Option (Nat × Nat)} (h : ObAt w I lp L' ob p) : ObAt w I lp (locIo L L' B) ((ob.sub (cutTo B)).ren (nameTo B)) p :=
  ObAt.ren (ObAt.subst h (fun _ h => h) (fun _ _ => rfl) (cut_ok hn hU) (fun _ _ => trivial) fun _ _ _ => rfl) (name_ok hn hU)
end take

def putP (tm : List PV) (dst : Option Nat) (v : PV) : List PV :=
  match dst with
  | some d => tm.set d v
  | none => tm

section done
variable {E : Type} {cx : Cx} {w0 : World} {I0 F0 O0 : Nat → Prop} {Hd : Nat → Option Obj} {RE : RelE E} {e : E} {ds : List Deferred} {I F I' : Nat → Prop} {lp lp' : Nat → Option Nat} {L L' : Loc} {st st2 : St} {tmv tmv2 suf wv : List Value} {w w2 : World}

/-- What lies at the end of a call where it lay, and the rest. -/
theorem io_taken {d0 i0 : Nat} {sl dst : Option Nat} {R N : List Nm} {aN : Nat → Nm} {gone : List Nm} {v0 : PV} {v : Value}
    (hs : SR lp I L st tmv suf w) (hf : Fr cx w0 I0 F0 O0 Hd RE e ds I F L w) (hlp : lpLe lp' lp)
    (hd : ∀ d, dst = some d → st.objs[d]? = some [] ∧ (sl = none → d = d0)) (hsl : ∀ r, sl = some r → r = d0) (hlen : N ≠ [] → ∃ l, st.objs[d0]? = some l ∧ l.length = i0) (hnew : sl = none → dst = none → N = [])
    (hR : ∀ nm ∈ R, ∃ p, L nm = some p) (hRn : ∀ (i j : Nat) nm, R[i]? = some nm → R[j]? = some nm → i = j)
    (hs2 : SR lp' I' L' st2 tmv2 wv w2) (hv : RepV w2 I' lp' (some L') v0 v)
    (x1 : w2.os = w.os) (x2 : w2.tape = w.tape) (x3 : w2.output = w.output) (x4 : w.heap.size ≤ w2.heap.size)
    (x5 : ∀ b, b < w.heap.size → (∀ nm C, nm ∈ R → L nm ≠ some (some (b, C))) → w2.heap[b]? = w.heap[b]?) (x6 : ∀ b, I b → I' b)
    (x7 : ∀ b, I' b → I b ∨ (b < w2.heap.size ∧ (w.heap.size ≤ b ∨ ∃ nm C, nm ∈ R ∧ L nm = some (some (b, C)))))
    (x8 : ∀ nm b C, L' nm = some (some (b, C)) → b < w2.heap.size ∧ ¬ I' b ∧ (w.heap.size ≤ b ∨ ∃ nm' C', nm' ∈ R ∧ L nm' = some (some (b, C'))))
    (x9 : ∀ nm nm' b C C', L' nm = some (some (b, C)) → L' nm' = some (some (b, C')) → nm = nm')
    (hB : nodupN (((R.zipIdx.map fun p => (aN p.2, p.1)) ++ N.zipIdx.map fun p => (p.1, (d0, i0 + p.2))).map (·.1)) = true)
    (hge : ∀ (j : Nat) nm, R[j]? = some nm → nm ∉ gone → ∀ p, L nm = some p → ∃ p', L' (aN j) = some p' ∧ GeP p p') {B : List (Nm × Nm)} (hBd : B = (R.zipIdx.map fun p => (aN p.2, p.1)) ++ N.zipIdx.map fun p => (p.1, (d0, i0 + p.2))) :
    SR lp I' (locIo L L' B) (apply st dst { v := (v0.sub (cutTo B)).ren (nameTo B), new := N.map fun m => (((look st2.objs m).getD dead).sub (cutTo B)).ren (nameTo B), ups := (R.zipIdx.map fun p => (p.1, (((look st2.objs (aN p.2)).getD dead).sub (cutTo B)).ren (nameTo B))), gone := gone, io := true, slot := sl }) (putV tmv dst v) suf w2 ∧
      Fr cx w0 I0 F0 O0 Hd RE e ds I' F (locIo L L' B) w2 := by
  rw [← hBd] at hB
  -- the pairs
  have memB : ∀ s t, (s, t) ∈ B ↔ (∃ j : Nat, R[j]? = some t ∧ s = aN j) ∨ (∃ i : Nat, N[i]? = some s ∧ t = (d0, i0 + i)) := by
    intro s t
    rw [hBd, List.mem_append, List.mem_map, List.mem_map]
    constructor
    · rintro (⟨⟨a, j⟩, h1, h2⟩ | ⟨⟨a, i⟩, h1, h2⟩)
      · cases h2
        exact .inl ⟨j, (List.mem_zipIdx_iff_getElem?.1 h1), rfl⟩
      · cases h2
        exact .inr ⟨i, (List.mem_zipIdx_iff_getElem?.1 h1), rfl⟩
    · rintro (⟨j, h1, rfl⟩ | ⟨i, h1, rfl⟩)
      · exact .inl ⟨(t, j), List.mem_zipIdx_iff_getElem?.2 h1, rfl⟩
      · exact .inr ⟨(s, i), List.mem_zipIdx_iff_getElem?.2 h1, rfl⟩
  have hslot : ∀ i : Nat, (∃ s, N[i]? = some s) → L (d0, i0 + i) = none := by
    rintro i ⟨s, hs'⟩
    obtain ⟨l, h1, h2⟩ := hlen fun h => by rw [h] at hs'; simp at hs'
    refine hs.dom _ ?_
    unfold look
    rw [h1]
    exact List.getElem?_eq_none_iff.2 (by simp only; omega)
  have hRL : ∀ (j : Nat) t, R[j]? = some t → ∃ p, L t = some p := fun j t h => hR t (List.mem_of_getElem? h)
  have hU : ∀ s s' t, (s, t) ∈ B → (s', t) ∈ B → s = s' := by
    intro s s' t h h'
    rcases (memB s t).1 h with ⟨j, h1, rfl⟩ | ⟨i, h1, rfl⟩ <;> rcases (memB s' _).1 h' with ⟨j', h2, rfl⟩ | ⟨i', h2, h3⟩
    · rw [hRn j j' t h1 h2]
    · obtain ⟨p, hp⟩ := hRL j t h1
      rw [h3, hslot i' ⟨_, h2⟩] at hp; cases hp
    · obtain ⟨p, hp⟩ := hRL j' _ h2
      rw [hslot i ⟨_, h1⟩] at hp; cases hp
    · have h4 : i0 + i = i0 + i' := congrArg Prod.snd h3
      have : i = i' := by omega
      subst this
      exact Option.some.inj (h1.symm.trans h2)
  have hin : ∀ s t, (s, t) ∈ B → locIo L L' B t = some ((L' s).getD none) := fun s t h => locIo_in hU h
  have hout : ∀ t, (∀ s, (s, t) ∉ B) → locIo L L' B t = L t := fun t h => locIo_out h
  -- the frame
  have hfr : Fr cx w0 I0 F0 O0 Hd RE e ds I' F (locIo L L' B) w2 := by
    have hsrc : ∀ t b C, locIo L L' B t = some (some (b, C)) → (∃ s, (s, t) ∈ B ∧ L' s = some (some (b, C))) ∨ ((∀ s, (s, t) ∉ B) ∧ L t = some (some (b, C))) := by
      intro t b C h
      by_cases hx : ∃ s, (s, t) ∈ B
      · obtain ⟨s, hst⟩ := hx
        rw [hin s t hst] at h
        refine .inl ⟨s, hst, ?_⟩
        cases hl : L' s with
        | none => rw [hl] at h; simp at h
        | some p => rw [hl] at h; simpa using h
      · have hx' : ∀ s, (s, t) ∉ B := fun s h => hx ⟨s, h⟩
        rw [hout t hx'] at h
        exact .inr ⟨hx', h⟩
    have hnotR : ∀ t, (∀ s, (s, t) ∉ B) → t ∉ R := by
      intro t h hm
      obtain ⟨j, hj, hget⟩ := List.getElem_of_mem hm
      exact h (aN j) ((memB _ _).2 (.inl ⟨j, by rw [List.getElem?_eq_getElem hj, hget], rfl⟩))
    refine hf.own x1 x2 x3 x4 (fun b hb hn => x5 b hb fun nm C _ => hn nm C) x6 (fun b hb => (x7 b hb).imp id fun h => ⟨h.1, h.2.imp id fun ⟨nm, C, _, h⟩ => ⟨nm, C, h⟩⟩) (fun t b C ht => ?_) (fun t t' b C C' ht ht' => ?_)
    · rcases hsrc t b C ht with ⟨s, _, h⟩ | ⟨hx, h⟩
      · obtain ⟨g1, g2, g3⟩ := x8 s b C h
        exact ⟨g1, g2, g3.imp id fun ⟨nm, C, _, h⟩ => ⟨nm, C, h⟩⟩
      · obtain ⟨g1, g2, g3, g4⟩ := hf.lB t b C h
        refine ⟨by omega, fun hi => ?_, .inr ⟨t, C, h⟩⟩
        rcases x7 b hi with h1 | ⟨_, h1 | ⟨nm, C', h1, h2⟩⟩
        · exact g3 h1
        · omega
        · have := hf.inj t nm b C C' h h2
          subst this
          exact hnotR t hx h1
    · rcases hsrc t b C ht with ⟨s, hb, h⟩ | ⟨hx, h⟩ <;> rcases hsrc t' b C' ht' with ⟨s', hb', h'⟩ | ⟨hx', h'⟩
      · have := x9 s s' b C C' h h'
        subst this
        exact first_uniq hB hb hb'
      · obtain ⟨_, _, g3⟩ := x8 s b C h
        rcases g3 with g3 | ⟨nm, C2, g3, g4⟩
        · have := (hf.lB t' b C' h').2.1; omega
        · have := hf.inj t' nm b C' C2 h' g4
          subst this
          exact absurd g3 (hnotR t' hx')
      · obtain ⟨_, _, g3⟩ := x8 s' b C' h'
        rcases g3 with g3 | ⟨nm, C2, g3, g4⟩
        · have := (hf.lB t b C h).2.1; omega
        · have := hf.inj t nm b C C2 h g4
          subst this
          exact absurd g3 (hnotR t hx)
      · exact hf.inj t t' b C C' h h'
  refine ⟨?_, hfr⟩
  -- what the caller holds
  have hIk : ∀ b, I b → w2.heap[b]? = w.heap[b]? := fun b hb => x5 b (hf.sep.iB b hb) fun nm C _ hn => (hf.lB nm b C hn).2.2.1 hb
  let L1 : Loc := fun t => if t ∈ R ∧ t ∉ gone then locIo L L' B t else L t
  have hnB : ∀ t, t ∉ R → ∀ p, L t = some p → ∀ s, (s, t) ∉ B := by
    intro t ht p hp s h
    rcases (memB s t).1 h with ⟨j, h1, rfl⟩ | ⟨i, h1, rfl⟩
    · exact ht (List.mem_of_getElem? h1)
    · rw [hslot i ⟨_, h1⟩] at hp; cases hp
  have hge1 : LocGe L L1 := by
    intro t p hp
    by_cases ht : t ∈ R ∧ t ∉ gone
    · obtain ⟨j, hj, hget⟩ := List.getElem_of_mem ht.1
      have hj' : R[j]? = some t := by rw [List.getElem?_eq_getElem hj, hget]
      obtain ⟨p', h1, h2⟩ := hge j t hj' ht.2 p hp
      refine ⟨p', ?_, h2⟩
      simp only [L1, ht, not_false_eq_true, and_self, if_true]
      rw [hin (aN j) t ((memB _ _).2 (.inl ⟨j, hj', rfl⟩)), h1]; rfl
    · exact ⟨p, by simp only [L1, ht, if_false]; exact hp, GeP.refl p⟩
  let f1 : Nm → Option (Option Ob) := fun m => if gone.contains m then some none else none
  have hsub1 : SubOK w2 I' lp L1 (some (locIo L L' B)) (fun _ => True) f1 := by
    intro t p _ hp
    by_cases hg : gone.contains t = true
    · simp only [f1, hg, if_true]
    · simp only [f1, hg]
      refine ⟨_, rfl, ?_⟩
      have hg' : t ∉ gone := by simpa using hg
      by_cases ht : t ∈ R
      · have : t ∈ R ∧ t ∉ gone := ⟨ht, hg'⟩
        simpa only [L1, this, not_false_eq_true, and_self, if_true] using hp
      · have : ¬ (t ∈ R ∧ t ∉ gone) := fun h => ht h.1
        simp only [L1, this, if_false] at hp
        rw [hout t (hnB t ht p hp)]; exact hp
  have htm : RepL w2 I' lp (some (locIo L L' B)) (subL f1 st.tmps) tmv := RepL.subst (fun _ h => h) hsub1 ((RepL.mono x6 hIk (fun _ _ h => h) hs.tm).ge hge1) fun _ _ => trivial
  have hkp : RepL w2 I' lp (some (locIo L L' B)) (subL f1 st.keep) suf := RepL.subst (fun _ h => h) hsub1 ((RepL.mono x6 hIk (fun _ _ h => h) hs.kp).ge hge1) fun _ _ => trivial
  -- the objects
  generalize hups : (R.zipIdx.map fun p => (p.1, (((look st2.objs (aN p.2)).getD dead).sub (cutTo B)).ren (nameTo B))) = ups
  have memU : ∀ t o, (t, o) ∈ ups ↔ ∃ j : Nat, R[j]? = some t ∧ o = (((look st2.objs (aN j)).getD dead).sub (cutTo B)).ren (nameTo B) := by
    intro t o
    rw [← hups, List.mem_map]
    constructor
    · rintro ⟨⟨a, j⟩, h1, h2⟩
      cases h2
      exact ⟨j, List.mem_zipIdx_iff_getElem?.1 h1, rfl⟩
    · rintro ⟨j, h1, rfl⟩
      exact ⟨(t, j), List.mem_zipIdx_iff_getElem?.2 h1, rfl⟩
  have hdead : ∀ f g, (dead.sub f).ren g = dead := fun f g => rfl
  have hobj : ∀ s t, (s, t) ∈ B → ∃ p, locIo L L' B t = some p ∧ ObAt w2 I' lp (locIo L L' B) ((((look st2.objs s).getD dead).sub (cutTo B)).ren (nameTo B)) p := by
    intro s t hst
    refine ⟨_, hin s t hst, ?_⟩
    cases hl : look st2.objs s with
    | none =>
      rw [hs2.dom s hl]
      simp only [Option.getD_none, hdead]
      exact ⟨0, 0, rfl⟩
    | some ob =>
      obtain ⟨p, hp, ha⟩ := hs2.ob s ob hl
      rw [hp]
      simp only [Option.getD_some]
      exact take_ob hB hU (ha.mono (fun _ h => h) (fun _ _ => rfl) hlp fun _ _ _ => rfl)
  have hlook0 : ∀ t, look (st.objs.map (·.map (Ob.sub f1))) t = (look st.objs t).map (Ob.sub f1) := fun t => look_map _ _ t
  have hpres : ∀ p ∈ ups, ∃ o, look (st.objs.map (·.map (Ob.sub f1))) p.1 = some o := by
    rintro ⟨t, o⟩ hp
    obtain ⟨j, hj, _⟩ := (memU t o).1 hp
    obtain ⟨p, hL⟩ := hRL j t hj
    obtain ⟨ob, hob, _⟩ := hs.some_of_loc hL
    exact ⟨_, by rw [hlook0, hob]; rfl⟩
  have hlu : ∀ t, ((∃ j : Nat, R[j]? = some t) → ∃ s, (s, t) ∈ B ∧ look (putObs ups (st.objs.map (·.map (Ob.sub f1)))) t = some ((((look st2.objs s).getD dead).sub (cutTo B)).ren (nameTo B))) ∧
      ((∀ j : Nat, R[j]? ≠ some t) → look (putObs ups (st.objs.map (·.map (Ob.sub f1)))) t = (look st.objs t).map (Ob.sub f1)) := by
    intro t
    obtain ⟨h1, h2⟩ := look_putObs ups (st.objs.map (·.map (Ob.sub f1))) t hpres
    refine ⟨?_, fun hno => ?_⟩
    · rintro ⟨j, hj⟩
      refine ⟨aN j, (memB _ _).2 (.inl ⟨j, hj, rfl⟩), h1 _ (fun o' ho' => ?_) ((memU _ _).2 ⟨j, hj, rfl⟩)⟩
      obtain ⟨j', hj', rfl⟩ := (memU _ _).1 ho'
      rw [hRn j j' t hj hj']
    · rw [h2 fun o ho => by obtain ⟨j, hj, _⟩ := (memU _ _).1 ho; exact hno j hj, hlook0]
  have hother : ∀ t ob, (∀ s, (s, t) ∉ B) → look st.objs t = some ob → ∃ p, locIo L L' B t = some p ∧ ObAt w2 I' lp (locIo L L' B) (ob.sub f1) p := by
    intro t ob hx hl
    obtain ⟨p, hp, ha⟩ := hs.ob t ob hl
    refine ⟨p, by rw [hout t hx]; exact hp, ?_⟩
    have ha2 : ObAt w2 I' lp L ob p := ha.mono x6 hIk (fun _ _ h => h) fun b C hpb => by
      subst hpb
      refine x5 b (hf.lB t b C hp).2.1 fun nm C' hm hn => ?_
      have := hf.inj t nm b C C' hp hn
      subst this
      obtain ⟨j, hj, hget⟩ := List.getElem_of_mem hm
      exact hx (aN j) ((memB _ _).2 (.inl ⟨j, by rw [List.getElem?_eq_getElem hj, hget], rfl⟩))
    exact ObAt.subst (ha2.ge hge1) (fun _ h => h) (fun _ _ => rfl) hsub1 (fun _ _ => trivial) fun _ _ _ => rfl
  -- the state
  have hlens : ∀ (l : List (Nm × Ob)) (objs : List (List Ob)) (d : Nat), (putObs l objs).length = objs.length ∧ ∀ x, objs[d]? = some x → ∃ y, (putObs l objs)[d]? = some y ∧ y.length = x.length := by
    intro l
    induction l with
    | nil => intro objs d; exact ⟨rfl, fun x h => ⟨x, h, rfl⟩⟩
    | cons p l ih =>
      obtain ⟨nm, o⟩ := p
      intro objs d
      obtain ⟨q1, q2⟩ := ih (putOb objs nm o) d
      have hp : (putOb objs nm o).length = objs.length := by unfold putOb; split <;> simp
      refine ⟨q1.trans hp, fun x hx => ?_⟩
      have : ∃ y, (putOb objs nm o)[d]? = some y ∧ y.length = x.length := by
        unfold putOb
        split
        · rename_i l' hl'
          by_cases hnd : nm.1 = d
          · subst hnd
            rw [hx] at hl'; cases hl'
            exact ⟨_, List.getElem?_set_self (List.getElem?_eq_some_iff.1 hx).1, by simp⟩
          · exact ⟨x, by rw [List.getElem?_set_ne hnd]; exact hx, rfl⟩
        · exact ⟨x, hx, rfl⟩
      obtain ⟨y, h1, h2⟩ := this
      obtain ⟨z, h3, h4⟩ := q2 y h1
      exact ⟨z, h3, h4.trans h2⟩
  generalize hXd : putObs ups (st.objs.map (·.map (Ob.sub f1))) = X at hlu
  have hX1 : X.length = st.objs.length := by rw [← hXd, (hlens ups _ 0).1, List.length_map]
  have hX2 : ∀ (d : Nat) (l : List Ob), st.objs[d]? = some l → ∃ l', X[d]? = some l' ∧ l'.length = l.length := by
    intro d l h
    obtain ⟨y, h1, h2⟩ := (hlens ups (st.objs.map (·.map (Ob.sub f1))) d).2 (l.map (Ob.sub f1)) (by rw [List.getElem?_map, h]; rfl)
    exact ⟨y, by rw [← hXd]; exact h1, by rw [h2, List.length_map]⟩
  generalize hnews : (N.map fun m => (((look st2.objs m).getD dead).sub (cutTo B)).ren (nameTo B)) = news
  have hnn : news.length = N.length := by rw [← hnews, List.length_map]
  have hset : ∀ (X : List (List Ob)) (d : Nat), X.set d (X.getD d [] ++ []) = X := by
    intro X d
    rw [List.append_nil]
    apply List.ext_getElem?
    intro i
    by_cases hi : i = d
    · subst hi
      by_cases hlt : i < X.length
      · rw [List.getElem?_set_self hlt, List.getD_eq_getElem?_getD, List.getElem?_eq_getElem hlt]; rfl
      · rw [List.getElem?_eq_none_iff.2 (by simpa using hlt), List.getElem?_eq_none_iff.2 (by simpa using hlt)]
    · rw [List.getElem?_set_ne (Ne.symm hi)]
  have hst : apply st dst { v := (v0.sub (cutTo B)).ren (nameTo B), new := news, ups := ups, gone := gone, io := true, slot := sl } =
      { tmps := putP (subL f1 st.tmps) dst ((v0.sub (cutTo B)).ren (nameTo B)), objs := X.set d0 (X.getD d0 [] ++ news), keep := subL f1 st.keep } := by
    have e1 : (if gone.isEmpty = true then st else subSt f1 st) = { tmps := subL f1 st.tmps, objs := st.objs.map (·.map (Ob.sub f1)), keep := subL f1 st.keep } := by
      split
      · rename_i hg
        have hg' : f1 = fun _ => none := by funext m; simp only [f1]; rw [List.isEmpty_iff.1 hg]; rfl
        rw [hg', subL_id, subL_id]
        have : (fun l : List Ob => l.map (Ob.sub fun _ => none)) = id := by
          funext l
          rw [show (Ob.sub fun _ => none) = id from funext Ob.sub_id, List.map_id]; rfl
        rw [this, List.map_id]
      · rfl
    have e2 : ∀ s : St, (if ups.isEmpty = true then s else { s with objs := putObs ups s.objs }) = { s with objs := putObs ups s.objs } := by
      intro s
      split
      · rename_i hu
        rw [List.isEmpty_iff.1 hu]; rfl
      · rfl
    unfold apply
    simp only [List.isEmpty_nil, if_true]
    rw [e1, e2]
    simp only [hXd]
    cases sl with
    | some r =>
      have := hsl r rfl
      subst this
      cases dst with
      | none => rfl
      | some d => rfl
    | none =>
      cases hdst : dst with
      | none =>
        have hN := hnew rfl hdst
        have : news = [] := by rw [← hnews, hN]; rfl
        rw [this, hset]
        rfl
      | some d =>
        obtain ⟨hcl, h0⟩ := hd d hdst
        have h0 := h0 rfl
        subst h0
        simp only [Option.isSome_none, Bool.false_or]
        obtain ⟨l', h1, h2⟩ := hX2 d [] hcl
        have h3 : l' = [] := List.length_eq_zero_iff.1 h2
        subst h3
        cases hn0 : news with
        | nil => simp only [List.isEmpty_nil, if_true, hset]; rfl
        | cons n ns =>
          have : X.getD d [] = [] := by rw [List.getD_eq_getElem?_getD, h1]; rfl
          simp only [List.isEmpty_cons, Bool.false_eq_true, if_false, this, List.nil_append]; rfl
  have key1 : ∀ (i : Nat) s, N[i]? = some s → look (X.set d0 (X.getD d0 [] ++ news)) (d0, i0 + i) = some ((((look st2.objs s).getD dead).sub (cutTo B)).ren (nameTo B)) := by
    intro i s hi
    obtain ⟨l, h1, h2⟩ := hlen fun h => by rw [h] at hi; simp at hi
    obtain ⟨l', h3, h4⟩ := hX2 d0 l h1
    have hlt : d0 < X.length := (List.getElem?_eq_some_iff.1 h3).1
    rw [look_set_same _ hlt, List.getD_eq_getElem?_getD, h3]
    simp only [Option.getD_some]
    rw [List.getElem?_append_right (by omega), show i0 + i - l'.length = i by omega, ← hnews, List.getElem?_map, hi]
    rfl
  have key2 : ∀ t : Nm, (∀ (i : Nat) s, N[i]? = some s → t ≠ (d0, i0 + i)) → look (X.set d0 (X.getD d0 [] ++ news)) t = look X t := by
    intro t ht
    by_cases h1 : t.1 = d0
    · obtain ⟨a, j⟩ := t
      simp only at h1; subst h1
      by_cases hN : N = []
      · have : news = [] := by rw [← hnews, hN]; rfl
        rw [this, hset]
      · obtain ⟨l, g1, g2⟩ := hlen hN
        obtain ⟨l', h3, h4⟩ := hX2 a l g1
        have hlt : a < X.length := (List.getElem?_eq_some_iff.1 h3).1
        rw [look_set_same _ hlt, List.getD_eq_getElem?_getD, h3]
        simp only [Option.getD_some]
        have hX : look X (a, j) = l'[j]? := by unfold look; rw [h3]
        rw [hX]
        by_cases hj : j < l'.length
        · rw [List.getElem?_append_left hj]
        · rw [List.getElem?_append_right (by omega), List.getElem?_eq_none_iff.2 (by omega : l'.length ≤ j)]
          refine List.getElem?_eq_none_iff.2 ?_
          apply Classical.byContradiction
          intro hlt2
          have hlt3 : j - l'.length < N.length := by omega
          exact ht (j - l'.length) _ (List.getElem?_eq_getElem hlt3) (by rw [show i0 + (j - l'.length) = j by omega])
    · rw [look_set_other _ h1]
  rw [hst]
  have hnotB : ∀ t : Nm, (∀ (i : Nat) s, N[i]? = some s → t ≠ (d0, i0 + i)) → (¬ ∃ j : Nat, R[j]? = some t) → ∀ s, (s, t) ∉ B := by
    intro t ht hj s h
    rcases (memB s t).1 h with ⟨j, h1, _⟩ | ⟨i, h1, h2⟩
    · exact hj ⟨j, h1⟩
    · exact ht i s h1 h2
  have htmf : RepL w2 I' lp (some (locIo L L' B)) (putP (subL f1 st.tmps) dst ((v0.sub (cutTo B)).ren (nameTo B))) (putV tmv dst v) := by
    cases dst with
    | none => exact htm
    | some d => exact htm.set d (take_val hB hU (RepV.mono (fun _ h => h) (fun _ _ => rfl) hlp hv))
  refine ⟨htmf, hkp, fun t ob hl => ?_, fun t hl => ?_⟩
  · simp only at hl
    by_cases ht : ∃ (i : Nat) (s : Nm), N[i]? = some s ∧ t = (d0, i0 + i)
    · obtain ⟨i, s, h1, rfl⟩ := ht
      rw [key1 i s h1] at hl; cases hl
      exact hobj s _ ((memB _ _).2 (.inr ⟨i, h1, rfl⟩))
    · have ht' : ∀ (i : Nat) s, N[i]? = some s → t ≠ (d0, i0 + i) := fun i s h1 h2 => ht ⟨i, s, h1, h2⟩
      rw [key2 t ht'] at hl
      by_cases hj : ∃ j : Nat, R[j]? = some t
      · obtain ⟨s, h1, h2⟩ := (hlu t).1 hj
        rw [h2] at hl; cases hl
        exact hobj s t h1
      · rw [(hlu t).2 fun j h => hj ⟨j, h⟩] at hl
        obtain ⟨ob0, h0, rfl⟩ := Option.map_eq_some_iff.1 hl
        exact hother t ob0 (hnotB t ht' hj) h0
  · simp only at hl
    by_cases ht : ∃ (i : Nat) (s : Nm), N[i]? = some s ∧ t = (d0, i0 + i)
    · obtain ⟨i, s, h1, rfl⟩ := ht
      rw [key1 i s h1] at hl; cases hl
    · have ht' : ∀ (i : Nat) s, N[i]? = some s → t ≠ (d0, i0 + i) := fun i s h1 h2 => ht ⟨i, s, h1, h2⟩
      rw [key2 t ht'] at hl
      by_cases hj : ∃ j : Nat, R[j]? = some t
      · obtain ⟨s, h1, h2⟩ := (hlu t).1 hj
        rw [h2] at hl; cases hl
      · rw [(hlu t).2 fun j h => hj ⟨j, h⟩] at hl
        rw [hout t (hnotB t ht' hj)]
        exact hs.dom t (by simpa using hl)
end done

theorem ioEnd_some {sl : Option Nat} {d0 i0 : Nat} {R : List Nm} {st : St} {v : PV} {out : Out} (h : ioEnd sl d0 i0 R st v = some out) :
    ∃ (N : List Nm) (B : List (Nm × Nm)), B = (R.zipIdx.map fun p => ((witNm (st.keep.getD p.2 .undef)).getD (0, p.2), p.1)) ++ N.zipIdx.map (fun p => (p.1, (d0, i0 + p.2))) ∧ nodupN (B.map (·.1)) = true ∧
      out = { v := (v.sub (cutTo B)).ren (nameTo B), new := N.map fun m => (((look st.objs m).getD dead).sub (cutTo B)).ren (nameTo B), ups := (R.zipIdx.map fun p => (p.1, (((look st.objs ((witNm (st.keep.getD p.2 .undef)).getD (0, p.2))).getD dead).sub (cutTo B)).ren (nameTo B))), gone := ioGone R st.keep, io := true, slot := sl } := by
  unfold ioEnd at h
  obtain ⟨h1, h2⟩ := chk_some h
  refine ⟨_, _, rfl, h1, ?_⟩
  cases h2
  simp only [ioPairs, List.map_map]
  rfl

theorem slotLen_ok {objs : List (List Ob)} {d i0 j : Nat} {o : Ob} (hj : look objs (d, j) = some o) (h : slotLen (look objs) d = some i0) : ∃ l, objs[d]? = some l ∧ l.length = i0 := by
  unfold slotLen at h
  rw [List.find?_eq_some_iff_append] at h
  obtain ⟨h1, as, bs, h2, h3⟩ := h
  cases hl : objs[d]? with
  | none => unfold look at hj; simp only [hl] at hj; cases hj
  | some l =>
    have hlook : ∀ j, look objs (d, j) = l[j]? := fun j => by unfold look; simp only [hl]
    refine ⟨l, rfl, ?_⟩
    have hle : l.length ≤ i0 := by
      rw [hlook] at h1
      simpa using h1
    have hlen : as.length = i0 ∧ ∀ k, k < as.length → as[k]? = some k := by
      have hr := h2
      have hpos : (List.range 64)[as.length]? = some i0 := by rw [hr]; simp
      obtain ⟨q1, q2⟩ := List.getElem?_eq_some_iff.1 hpos
      simp at q2
      refine ⟨q2, fun k hk => ?_⟩
      have : (List.range 64)[k]? = as[k]? := by rw [hr, List.getElem?_append_left hk]
      rw [← this]
      simp at q1
      exact List.getElem?_range (by omega)
    rcases Nat.lt_or_ge l.length i0 with hlt | hge
    · have hm := hlen.2 l.length (by omega)
      have := h3 _ (List.mem_of_getElem? hm)
      rw [hlook] at this
      simp at this
    · omega

theorem io_ok {cx : Cx} {M : Mach} {tab : FuncId → Option RFn} (hM : CallOK cx M.call) (hsp : MSp cx M) (hloc : MLoc M) {dd : FuncId → Dead} (htab : TabOK cx tab dd) (n : Nat) : IoOK cx (ioOf M n tab) := by
  intro g d0 st vs out hc
  unfold ioOf at hc
  split at hc
  case h_1 => cases hc
  rename_i rf hrf
  obtain ⟨fn, c, hfn, hbody, hres, hname, hnt, hcode⟩ := tab_fn htab hrf
  simp only at hc
  generalize hRd : dedupN (reach (look st.objs) deepest (namesL vs)) = R at hc
  have hRn : ∀ (i j : Nat) nm, R[i]? = some nm → R[j]? = some nm → i = j := by rw [← hRd]; exact fun i j nm => dedupN_inj i j nm
  have hmemR : ∀ nm ∈ namesL vs, nm ∈ R := fun nm hn => by rw [← hRd]; exact mem_dedupN.2 (reach_mem _ _ nm hn)
  split at hc
  case h_1 => cases hc
  rename_i ins hins
  obtain ⟨hk, hc⟩ := chk_some hc
  simp only [Bool.and_eq_true, Bool.not_eq_true', decide_eq_true_eq] at hk
  obtain ⟨⟨⟨hy, hshut⟩, hoy⟩, ⟨hlen, hRlen⟩, hnt0⟩ := hk
  split at hc
  case h_2 => cases hc
  rename_i st2 v0 hraw
  have hplace : ∃ sl d1 i1, ioEnd sl d1 i1 R st2 v0 = some out ∧ ((sl = none ∧ d1 = d0 ∧ i1 = 0 ∧ R = []) ∨ (sl = some d1 ∧ ∃ j, (d1, j) ∈ R ∧ slotLen (look st.objs) d1 = some i1)) := by
    unfold ioEndAt at hc
    cases R with
    | nil => exact ⟨none, d0, 0, hc, .inl ⟨rfl, rfl, rfl, rfl⟩⟩
    | cons r rs =>
      simp only at hc
      split at hc
      · rename_i i1 hi1
        exact ⟨some r.1, r.1, i1, hc, .inr ⟨rfl, r.2, List.mem_cons_self, hi1⟩⟩
      · cases hc
  obtain ⟨sl, d1, i1, hc, hplace⟩ := hplace
  obtain ⟨N, B, hB, hBn, hout⟩ := ioEnd_some hc
  unfold ioRaw at hraw
  split at hraw
  case h_2 => cases hraw
  rename_i x st3 u hev
  have hxe : ∀ id, x ≠ .exit id := by rintro id rfl; simp at hraw
  have hraw2 : (match resVs st3 rf.res with
      | some rs => some (st3, oneOf rs)
      | none => none) = some (st2, v0) := by
    cases x with
    | normal => exact hraw
    | ret => exact hraw
    | exit id => exact absurd rfl (hxe id)
  split at hraw2
  case h_2 => cases hraw2
  rename_i rs hrs
  cases hraw2
  obtain ⟨m1, m2⟩ := mapM_some R ins hins
  refine ⟨⟨fn, hfn, by simpa using hname, by rw [hbody]; rfl⟩, ?_⟩
  intro E w0 I0 F0 O0 Hd RE e ds I F lp L tmv suf us w dst hs hf hrep hd hnew
  have hRL : ∀ nm ∈ R, ∃ p ob, L nm = some p ∧ look st.objs nm = some ob ∧ ObAt w I lp L ob p := by
    intro nm hn
    obtain ⟨j, hj, hget⟩ := List.getElem_of_mem hn
    obtain ⟨ob, _, h2⟩ := m2 j nm (by rw [List.getElem?_eq_getElem hj, hget])
    obtain ⟨p, hp, ha⟩ := hs.ob nm ob h2
    exact ⟨p, ob, hp, h2, ha⟩
  -- where the objects lie, by the callee's names
  let Lc : Loc := fun m => if m.1 = 0 then (R[m.2]?).bind L else none
  let fr : Nm → Nm := fun m => (0, R.idxOf m)
  let LR : Loc := fun m => if m ∈ R then L m else none
  have hren : ∀ nm p, LR nm = some p → Lc (fr nm) = some p := by
    intro nm p hp
    simp only [LR] at hp
    split at hp
    · rename_i hm
      simp only [Lc, fr, if_true, idx_get hm, Option.bind_some, hp]
    · cases hp
  have hLc : ∀ nm p, Lc nm = some p → ∃ t, R[nm.2]? = some t ∧ nm.1 = 0 ∧ L t = some p := by
    intro nm p hp
    simp only [Lc] at hp
    split at hp
    · rename_i h1
      cases hr : R[nm.2]? with
      | none => rw [hr] at hp; simp at hp
      | some t => rw [hr] at hp; exact ⟨t, rfl, h1, by simpa using hp⟩
    · cases hp
  let lp' : Nat → Option Nat := fun _ => none
  have hargs : RepL w I lp' (some Lc) (renL fr vs) us := by
    have h1 : RepL w I lp' (some L) vs us := hrep.noY hy
    have h2 : RepL w I lp' (some LR) vs us := h1.narrow fun nm hn p hp => by simp only [LR, hmemR nm hn, if_true]; exact hp
    exact h2.rename hren
  have hil : (ins.map (Ob.ren fr)).length = R.length := by rw [List.length_map, m1]
  let wv : List Value := (List.range rf.nt).map fun j => match (R[j]?).bind L with
    | some (some (b, C)) => .slice (some ⟨b, 0, none⟩) 0 C
    | _ => .slice none 0 0
  have hwvj : ∀ (j : Nat) nm, R[j]? = some nm → wv.getD j undef = (match L nm with
        | some (some (b, C)) => .slice (some ⟨b, 0, none⟩) 0 C
        | _ => .slice none 0 0) := by
    intro j nm hj
    have hjl : j < rf.nt := by have := (List.getElem?_eq_some_iff.1 hj).1; omega
    rw [List.getD_eq_getElem?_getD, List.getElem?_map, List.getElem?_range hjl]
    simp only [Option.map_some, Option.getD_some, hj, Option.bind_some]
  have hwit : RepL w I lp' (some Lc) (wits rf.nt R.length) wv := by
    refine RepL.of_get (by simp [wits, wv]) fun i y v hy' hv => ?_
    simp only [wits, List.getElem?_map, Option.map_eq_some_iff] at hy'
    obtain ⟨j, hj, rfl⟩ := hy'
    have hlt : i < rf.nt ∧ j = i := by
      obtain ⟨h1, h2⟩ := List.getElem?_eq_some_iff.1 hj
      simp at h1 h2
      exact ⟨h1, h2.symm⟩
    obtain ⟨hlt, rfl⟩ := hlt
    split
    case isFalse => exact .undef _
    rename_i hjR
    have ht : R[j]? = some R[j] := List.getElem?_eq_getElem hjR
    have hv2 := hwvj j _ ht
    rw [List.getD_eq_getElem?_getD, hv] at hv2
    simp only [Option.getD_some] at hv2
    subst hv2
    obtain ⟨p, ob, hp, _, _⟩ := hRL _ (List.mem_of_getElem? ht)
    have hlc : Lc (0, j) = some p := by simp only [Lc, if_true, ht, Option.bind_some, hp]
    rw [hp]
    cases p with
    | none => exact .arrN _ _ hlc
    | some p =>
      obtain ⟨b, C⟩ := p
      have := RepV.arr (w := w) (I := I) (lp := lp') (L := Lc) (0, j) 1 0 0 C b C hlc (by omega) (Nat.zero_le _)
      simpa using this
  have hst0 : SR lp' I Lc (ioSt rf.nt (ins.map (Ob.ren fr)) (renL fr vs)) (us.toArray ++ Array.replicate (fn.ntmps - us.toArray.size) undef).toList wv w := by
    have hlen0 : 0 < (List.replicate rf.nt ([] : List Ob)).length := by simpa using hnt0
    have hempty : ∀ nm : Nm, nm.1 ≠ 0 → look ((List.replicate rf.nt []).set 0 (ins.map (Ob.ren fr))) nm = none := by
      intro nm h1
      rw [look_set_other _ h1]
      unfold look
      cases hg : (List.replicate rf.nt ([] : List Ob))[nm.1]? with
      | none => rfl
      | some l =>
        have := List.eq_of_mem_replicate (List.mem_of_getElem? hg)
        subst this
        simp
    refine ⟨?_, ?_, ?_, ?_⟩
    · have hl := hargs.length
      have h2 : RepL w I lp' (some Lc) (List.replicate (rf.nt - (renL fr vs).length) PV.undef) (List.replicate (rf.nt - (renL fr vs).length) undef) := RepL.undefs _ _ (by simp)
      have := hargs.append h2
      show RepL w I lp' (some Lc) (renL fr vs ++ List.replicate (rf.nt - (renL fr vs).length) .undef) _
      rw [hl] at this ⊢
      simpa [hnt] using this
    · show RepL w I lp' (some Lc) (wits rf.nt (ins.map (Ob.ren fr)).length) wv
      rw [hil]; exact hwit
    · intro nm ob hl
      have hobj : look ((List.replicate rf.nt []).set 0 (ins.map (Ob.ren fr))) nm = some ob := hl
      by_cases h1 : nm.1 = 0
      · obtain ⟨a, j⟩ := nm
        simp only at h1; subst h1
        rw [look_set_same _ hlen0, List.getElem?_map] at hobj
        obtain ⟨ob0, ho0, rfl⟩ := Option.map_eq_some_iff.1 hobj
        have hj : j < R.length := by have := (List.getElem?_eq_some_iff.1 ho0).1; omega
        have hRt : R[j]? = some R[j] := List.getElem?_eq_getElem hj
        obtain ⟨ob1, h3, h4⟩ := m2 j _ hRt
        rw [ho0] at h3; cases h3
        obtain ⟨p, hp, ha⟩ := hs.ob _ ob0 h4
        refine ⟨p, by simp only [Lc, if_true, hRt, Option.bind_some, hp], ?_⟩
        have hyo : ob0.hasY = false := by
          have := List.all_eq_true.1 hoy ob0 (List.mem_of_getElem? ho0)
          simpa using this
        have hnarrow : ObAt w I lp' LR ob0 p := (ha.noY hyo).narrow fun m hm q hq => by
          have : m ∈ R := shutR_names hshut (List.mem_of_getElem? hRt) h4 m hm
          simp only [LR, this, if_true]; exact hq
        exact hnarrow.ren hren
      · rw [hempty nm h1] at hobj; cases hobj
    · intro nm hl
      have hobj : look ((List.replicate rf.nt []).set 0 (ins.map (Ob.ren fr))) nm = none := hl
      simp only [Lc]
      split
      · rename_i h1
        obtain ⟨a, j⟩ := nm
        simp only at h1; subst h1
        rw [look_set_same _ hlen0, List.getElem?_map] at hobj
        have h2 : ins[j]? = none := by simpa using hobj
        have : R[j]? = none := List.getElem?_eq_none_iff.2 (by have := List.getElem?_eq_none_iff.1 h2; omega)
        rw [this]; rfl
      · rfl
  let O : Nat → Prop := fun b => ∃ nm C, nm ∈ R ∧ L nm = some (some (b, C))
  have hfr0 : Fr cx w I O O (fun _ => none) relUnit () [] I (fun _ => False) Lc w := by
    refine ⟨⟨rfl, rfl, rfl, Nat.le_refl _, fun _ _ _ => rfl, fun _ h => h, fun _ h => .inl h, fun b h => h.elim⟩, ⟨hf.sep.iB, fun b h => h.elim⟩, fun b h => h, fun nm b C hn => ?_, fun nm nm' b C C' hn hn' => ?_, hf.wd, trivial, .nil, fun b ob hb => by cases hb⟩
    · obtain ⟨t, h1, _, h2⟩ := hLc nm _ hn
      obtain ⟨_, g2, g3, _⟩ := hf.lB t b C h2
      exact ⟨.inr ⟨t, C, List.mem_of_getElem? h1, h2⟩, g2, g3, fun h => h⟩
    · obtain ⟨t, h1, h3, h2⟩ := hLc nm _ hn
      obtain ⟨t', h1', h3', h2'⟩ := hLc nm' _ hn'
      have := hf.inj t t' b C C' h2 h2'
      subst this
      exact Prod.ext (h3.trans h3'.symm) (hRn _ _ t h1 h1')
  rw [hcode] at hev
  refine callsIn_of_wp_marks hfn hbody trivial ?_
  refine code_ok (dd := dd g) (M := M) hM hsp hloc c Unit noHandler 0 relUnit lp' w I O O (fun _ => none) wv none _ () x st2 u hev ⟨⟨I, O, w, hand_none cx _ _ _ _, Ext.refl _ _ _⟩, fun d l h => by cases h⟩ (fun l0 he => by cases he) { tmps := _, defers := [] } w I (fun _ => False) _ _ hst0 hfr0 ?_
  rintro a' w' I' F' L' hs' hf'
  have hpost : LeavesInM Fence.wide 0 cx.P fn a'.tmps (fun
        | .returned v, w' => ∃ I' L', SR lp I' L' (apply st dst out) (putV tmv dst v) suf w' ∧ Fr cx w0 I0 F0 O0 Hd RE e ds I' F L' w'
        | _, _ => False) a'.defers .returning w' := by
    refine leaves_ok hf'.mks fun w2 e1 e3 e4 e5 e6 => ?_
    have hkI : ∀ b, I' b → w2.heap[b]? = w'.heap[b]? := fun b hb => e6 b (.inr (.inl hb))
    have hs2 : SR lp' I' L' st2 a'.tmps.toList wv w2 := hs'.keeps (fun _ h => h) hkI fun nm b C hn => e6 b (.inr (.inr (.inr ⟨nm, C, hn⟩)))
    have hwd2 : cx.Wd I' w2 := cx.stab I' I' w' w2 hf'.wd (fun _ h => h) hkI (by rw [e5]; exact Nat.le_refl _)
    obtain ⟨us', q1, q2⟩ := res_ok hs2 (P := cx.P) fn.results.toList rf.res rs hres hrs
    have hv := one_rep q2
    have hext := hf'.ext
    have hge : ∀ (j : Nat) nm, R[j]? = some nm → nm ∉ ioGone R st2.keep → ∀ p, L nm = some p → ∃ p', L' ((fun k => (witNm (st2.keep.getD k .undef)).getD (0, k)) j) = some p' ∧ GeP p p' := by
      intro j nm hj hng p hp
      have hsome : (witNm (st2.keep.getD j .undef)).isSome = true := by
        cases hw : witNm (st2.keep.getD j .undef) with
        | some q => rfl
        | none =>
          refine absurd ?_ hng
          unfold ioGone
          exact List.mem_map.2 ⟨(nm, j), List.mem_filter.2 ⟨List.mem_zipIdx_iff_getElem?.2 hj, by simp only [hw]; rfl⟩, rfl⟩
      obtain ⟨q, hq⟩ := Option.isSome_iff_exists.1 hsome
      simp only [hq, Option.getD_some]
      have hkeep := hs2.kp.getD j undef
      have hval := hwvj j nm hj
      have hform : st2.keep.getD j .undef = .arr q 1 0 0 := by
        unfold witNm at hq
        split at hq
        · rename_i nm' heq; cases hq; exact heq
        · cases hq
      rw [hform, hval, hp] at hkeep
      cases p with
      | none =>
        simp only at hkeep
        cases hkeep with
        | arrN _ _ h => exact ⟨none, h, trivial⟩
      | some p =>
        obtain ⟨b, C⟩ := p
        simp only at hkeep
        generalize hvv : (Value.slice (some ⟨b, 0, none⟩) 0 C) = vv at hkeep
        cases hkeep with
        | arr _ _ _ _ cap b' C' h hC hn =>
          simp only [Value.slice.injEq, Option.some.injEq, Addr.mk.injEq] at hvv
          obtain ⟨⟨rfl, _, _⟩, _, rfl⟩ := hvv
          exact ⟨some (b, C'), h, rfl, by omega⟩
        | arrN _ _ h => simp at hvv
    have hOb : ∀ b, b < w.heap.size → (∀ nm C, nm ∈ R → L nm ≠ some (some (b, C))) → w2.heap[b]? = w.heap[b]? := fun b hb hn => (e6 b (.inl hb)).trans (hext.keep b hb fun ⟨nm, C, h1, h2⟩ => hn nm C h1 h2)
    have htk := io_taken (d0 := d1) (i0 := i1) (sl := sl) (dst := dst) (R := R) (N := N) (aN := fun k => (witNm (st2.keep.getD k .undef)).getD (0, k)) (gone := ioGone R st2.keep) hs hf (lp' := lp') (fun d l h => by cases h)
      (fun d hdd => ⟨(hd d hdd).2, fun h => by
        rcases hplace with ⟨_, h1, _, _⟩ | ⟨h1, _⟩
        · rw [h1]; exact (hd d hdd).1
        · rw [h] at h1; cases h1⟩)
      (fun r hr => by
        rcases hplace with ⟨h1, _⟩ | ⟨h1, _⟩
        · rw [hr] at h1; cases h1
        · rw [hr] at h1; cases h1; rfl)
      (fun hN => by
        rcases hplace with ⟨h1, h2, h3, h4⟩ | ⟨h1, j, h2, h3⟩
        · cases hdst : dst with
          | none =>
            rcases hnew hdst with h5 | h5
            · rw [hout] at h5; exact absurd (by simpa using h5) hN
            · rw [hout, h1] at h5; cases h5
          | some d =>
            obtain ⟨g1, g2⟩ := hd d hdst
            exact ⟨[], by rw [h2, ← g1]; exact g2, by rw [h3]; rfl⟩
        · obtain ⟨p, ob, hp, hl, _⟩ := hRL _ h2
          exact slotLen_ok hl h3)
      (fun h1 hn => by
        rcases hnew hn with h5 | h5
        · rw [hout] at h5; simpa using h5
        · rw [hout, h1] at h5; cases h5) (fun nm hn => let ⟨p, _, hp, _⟩ := hRL nm hn; ⟨p, hp⟩) hRn hs2 hv
      (e1.trans hext.os) (e3.trans hext.tape) (e4.trans hext.output) (by rw [e5]; exact hext.size) hOb hext.subI
      (fun b hb => by
        rcases hext.newI b hb with h | h | h
        · exact .inl h
        · exact .inr ⟨by rw [e5]; exact hf'.sep.iB b hb, .inr h⟩
        · exact .inr ⟨by rw [e5]; exact hf'.sep.iB b hb, .inl h⟩)
      (fun nm b C hn => by
        obtain ⟨g1, g2, g3, _⟩ := hf'.lB nm b C hn
        exact ⟨by rw [e5]; exact g2, g3, g1⟩) hf'.inj (by rw [← hB]; exact hBn) hge hB
    refine ⟨if h : us'.toArray.size = 1 then us'.toArray[0] else .tuple us'.toArray, ?_, I', locIo L L' B, ?_⟩
    · unfold results
      rw [Sem.run_bind, Array.mapM_eq_mapM_toList, Sem.run_map]
      rw [Array.toArray_toList] at q1
      exact (congrArg (fun r : Result (List Value) => (r.andThen fun a w' => Result.ok a.toArray w').andThen fun a w' => Sem.run cx.P (pure (if h : a.size = 1 then a[0] else Value.tuple a)) w') q1).trans rfl
    · rw [hout]; exact htk
  cases x with
  | normal => exact hpost
  | ret => exact hpost
  | exit id => exact absurd rfl (hxe id)

theorem mapM_congr {σ σ' : Nm → Option Ob} : ∀ (l : List Nm), (∀ nm ∈ l, σ nm = σ' nm) → l.mapM σ = l.mapM σ' := by
  intro l
  induction l with
  | nil => intro _; rfl
  | cons x l ih =>
    intro h
    rw [List.mapM_cons, List.mapM_cons, h x List.mem_cons_self, ih fun nm hn => h nm (List.mem_cons_of_mem _ hn)]

theorem shut_congr {σ σ' : Nm → Option Ob} {R : List Nm} (h : ∀ nm ∈ R, σ nm = σ' nm) : shutR σ R = shutR σ' R := by
  unfold shutR
  rw [Bool.eq_iff_iff]
  simp only [List.all_eq_true]
  exact ⟨fun g nm hn => by rw [← h nm hn]; exact g nm hn, fun g nm hn => by rw [h nm hn]; exact g nm hn⟩

theorem io_loc (M : Mach) (n : Nat) (tab : FuncId → Option RFn) : IoLocal (ioOf M n tab) := by
  intro g d σ σ' vs out hσ h hst
  unfold ioOf at h ⊢
  cases ht : tab g with
  | none => rw [ht] at h; cases h
  | some fn =>
    rw [ht] at h
    simp only at h ⊢
    rw [← reach_congr _ _ hσ]
    have hc : ∀ nm ∈ dedupN (reach σ deepest (namesL vs)), σ nm = σ' nm := fun nm hn => hσ nm (mem_dedupN.1 hn)
    rw [← mapM_congr _ hc, ← shut_congr hc]
    cases hm : (dedupN (reach σ deepest (namesL vs))).mapM σ with
    | none => rw [hm] at h; cases h
    | some ins =>
      rw [hm] at h
      simp only at h ⊢
      generalize dedupN (reach σ deepest (namesL vs)) = R at h ⊢
      obtain ⟨h1, h2⟩ := chk_some h
      simp only [chk, h1, if_true]
      split at h2
      case h_2 => cases h2
      rename_i st v hraw
      unfold ioEndAt at h2 ⊢
      cases R with
      | nil => exact h2
      | cons r rs =>
        simp only at h2
        split at h2
        · obtain ⟨N, B, _, _, rfl⟩ := ioEnd_some h2
          simp [outStays, outTurns] at hst
        · cases h2

theorem ioEnd_io {sl : Option Nat} {d0 i0 : Nat} {R : List Nm} {st : St} {v : PV} {out : Out} (h : ioEnd sl d0 i0 R st v = some out) : out.io = true := by
  obtain ⟨_, _, _, _, rfl⟩ := ioEnd_some h
  rfl

theorem io_flag (M : Mach) (n : Nat) (tab : FuncId → Option RFn) (g : FuncId) (d : Nat) (σ : Nm → Option Ob) (vs : List PV) (out : Out) (h : ioOf M n tab g d σ vs = some out) : out.io = true := by
  unfold ioOf at h
  split at h
  case h_1 => cases h
  simp only at h
  split at h
  case h_1 => cases h
  obtain ⟨_, h⟩ := chk_some h
  split at h
  case h_2 => cases h
  unfold ioEndAt at h
  split at h
  · exact ioEnd_io h
  · split at h
    · exact ioEnd_io h
    · cases h

/-- What the machine tells of functions holds. -/
theorem evalM_ok {cx : Cx} {sp : FuncId → (Nm → Option Ob) → List PV → Option Out} {tab : FuncId → Option RFn} (hsp : SpOK cx sp) (hloc : SpLocal sp) {dd : FuncId → Dead} (htab : TabOK cx tab dd) : ∀ n, CallOK cx (evalM sp tab n).call ∧ MSp cx (evalM sp tab n) ∧ MLoc (evalM sp tab n) := by
  intro n
  induction n with
  | zero => exact ⟨fun E h R dep lp Ir Fr_ wr g args e r obs e' hc => (by cases hc), ⟨hsp, fun g d st vs out h => (by cases h), fun g d σ vs out h => (by cases h)⟩, ⟨hloc, fun _ _ _ _ _ _ _ h _ => h⟩⟩
  | succ n ih =>
    obtain ⟨i1, i2, i3⟩ := ih
    exact ⟨callOf_ok i1 i2 i3 htab n, ⟨hsp, io_ok i1 i2 i3 htab n, io_flag _ n tab⟩, ⟨hloc, io_loc _ n tab⟩⟩

theorem fn_ok {cx : Cx} {sp : FuncId → (Nm → Option Ob) → List PV → Option Out} {tab : FuncId → Option RFn} (hsp : SpOK cx sp) (hloc : SpLocal sp) {dd : FuncId → Dead} (htab : TabOK cx tab dd) (n : Nat) : CallOK cx (evalFn sp tab n) := (evalM_ok hsp hloc htab n).1
end Go.Ab

/-
  From the evaluator to the rows: a law that answers with a bool.
-/
namespace Go.Ab

theorem keptBut_of_same {w w' : World} {may : MemPlace → Prop} (h1 : w'.os = w.os) (h2 : w'.output = w.output) (h3 : ∀ b, b < w.heap.size → w'.heap[b]? = w.heap[b]?) : w.keptBut w' may := by
  refine ⟨h1, h2, fun i hi => ?_⟩
  rw [h3 i hi]
  cases hx : w.heap[i]? with
  | none => rfl
  | some o => cases o <;> first | rfl | exact ⟨rfl, rfl, rfl, fun _ _ => rfl⟩ | exact .inr ⟨rfl, rfl⟩

/-- What holds behind a law's call. -/
structure LawEnd (w w' : World) : Prop where
  os : w'.os = w.os
  tape : w'.tape = w.tape
  output : w'.output = w.output
  size : w.heap.size ≤ w'.heap.size
  same : ∀ b, b < w.heap.size → w'.heap[b]? = w.heap[b]?

theorem law_calls {cx : Cx} {call : CallT} (hM : CallOK cx call) {g : FuncId} {args : List PV} {b : Bool} {obs : List Ob} (hev : call Unit noHandler 0 g args () = some (.bool b, obs, ())) {I : Nat → Prop} {w : World} {vs : List Value}
    (hI : ∀ b, I b → b < w.heap.size) (hw : cx.Wd I w) (hrep : RepL w I (fun _ => none) none args vs) :
    Calls cx.P g vs.toArray w fun e w' => e = .returned (.bool b) ∧ LawEnd w w' := by
  obtain ⟨_, h⟩ := hM Unit noHandler relUnit 0 (fun _ => none) I (fun _ => False) w g args () (.bool b) obs () hev (hand_none cx _ _ _ _) (fun d l h => by cases h)
  have := h I (fun _ => False) w vs (Ext.refl _ _ _) ⟨hI, fun b hb => hb.elim⟩ hw trivial hrep
  refine callsIn_wide.1 (CallsIn.mono' this fun e w' hr => ?_)
  cases e with
  | returned v =>
    obtain ⟨I', F', ps, hce⟩ := hr
    exact ⟨by rw [inv_bool hce.rep], hce.ext.os, hce.ext.tape, hce.ext.output, hce.ext.size, fun b hb => hce.ext.keep b hb fun h => h⟩
  | panicked chain => exact hr.elim
  | outgrown => exact hr.elim
end Go.Ab

/-
  What the evaluator tells with handlers it tells with handlers that are related to them, once there is enough fuel: it is monotone, continuous and parametric.
-/
namespace Go.Ab

/-- From some number on. -/
def Evl (P : Nat → Prop) : Prop := ∃ m, ∀ k, m ≤ k → P k

theorem Evl.of {P : Nat → Prop} (h : ∀ k, P k) : Evl P := ⟨0, fun k _ => h k⟩
theorem Evl.and {P Q : Nat → Prop} (h : Evl P) (h' : Evl Q) : Evl fun k => P k ∧ Q k := by
  obtain ⟨a, ha⟩ := h; obtain ⟨b, hb⟩ := h'
  exact ⟨max a b, fun k hk => ⟨ha k (by omega), hb k (by omega)⟩⟩
theorem Evl.mono {P Q : Nat → Prop} (h : Evl P) (f : ∀ k, P k → Q k) : Evl Q := by
  obtain ⟨a, ha⟩ := h; exact ⟨a, fun k hk => f k (ha k hk)⟩
theorem Evl.mono2 {P Q S : Nat → Prop} (h : Evl P) (h' : Evl Q) (f : ∀ k, P k → Q k → S k) : Evl S := (h.and h').mono fun k ⟨a, b⟩ => f k a b

def HRel {E1 E2 : Type} (RE : E1 → E2 → Prop) (h1 : Handler E1) (h2 : Nat → Handler E2) : Prop :=
  ∀ l args e1 e2, RE e1 e2 → ∀ b e1', h1 l args e1 = some (b, e1') → ∃ e2', RE e1' e2' ∧ Evl fun k => h2 k l args e2 = some (b, e2')

def CallLe (c1 : CallT) (c2 : Nat → CallT) : Prop :=
  ∀ (E1 E2 : Type) (RE : E1 → E2 → Prop) (h1 : Handler E1) (h2 : Nat → Handler E2), HRel RE h1 h2 →
    ∀ dep g args e1 e2, RE e1 e2 → ∀ r obs e1', c1 E1 h1 dep g args e1 = some (r, obs, e1') → ∃ e2', RE e1' e2' ∧ Evl fun k => c2 k E2 (h2 k) dep g args e2 = some (r, obs, e2')

structure MLe (M1 : Mach) (M2 : Nat → Mach) : Prop where
  sp : ∀ k, M1.sp = (M2 k).sp
  call : CallLe M1.call fun k => (M2 k).call
  isIo : ∀ k, M1.isIo = (M2 k).isIo
  leans : ∀ k, M1.leans = (M2 k).leans
  io : ∀ g dst σ vs out, M1.io g dst σ vs = some out → Evl fun k => (M2 k).io g dst σ vs = some out

section par
variable {M1 : Mach} {M2 : Nat → Mach} (hM : MLe M1 M2) {E1 E2 : Type} {RE : E1 → E2 → Prop} {h1 : Handler E1} {h2 : Nat → Handler E2} (hh : HRel RE h1 h2)
include hM

theorem unit_call (g : FuncId) (args : List PV) {r : PV} {obs : List Ob} {u : Unit} (h : M1.call Unit noHandler 0 g args () = some (r, obs, u)) : Evl fun k => (M2 k).call Unit noHandler 0 g args () = some (r, obs, ()) := by
  obtain ⟨_, _, h'⟩ := hM.call Unit Unit (fun _ _ => True) noHandler (fun _ => noHandler) (fun _ _ _ _ _ _ _ h => by cases h) 0 g args () () trivial r obs u h
  exact h'

include hh

theorem execCall_par (dep dst : Nat) (σ : Nm → Option Ob) (tm : List PV) (f : RX) (args : List RX) {e1 : E1} {e2 : E2} (he : RE e1 e2) {out : Out} {e1' : E1}
    (h : execCall M1 h1 dep dst σ tm f args e1 = some (out, e1')) : ∃ e2', RE e1' e2' ∧ Evl fun k => execCall (M2 k) (h2 k) dep dst σ tm f args e2 = some (out, e2') := by
  unfold execCall at h ⊢
  cases hf : f.ev tm with
  | yld d =>
    simp only [hf] at h ⊢
    by_cases hS : (namesL (args.map (RX.ev tm))).isEmpty = true
    · simp only [hS, if_true] at h ⊢
      unfold chk at h ⊢
      split at h
      · rename_i hy
        simp only [hy, if_true]
        cases hq : h1 d (args.map (RX.ev tm)) e1 with
        | none => rw [hq] at h; cases h
        | some p =>
          obtain ⟨b, e⟩ := p
          rw [hq] at h; cases h
          obtain ⟨e2', hr, h2'⟩ := hh _ _ _ _ he _ _ hq
          exact ⟨e2', hr, h2'.mono fun k hk => by rw [hk]⟩
      · cases h
    · simp only [hS] at h ⊢
      unfold chk at h ⊢
      simp only [Bool.false_eq_true, if_false] at h ⊢
      split at h
      · rename_i hy
        simp only [hy, if_true]
        cases hq : h1 d (subL (closed σ) (args.map (RX.ev tm))) e1 with
        | none => rw [hq] at h; cases h
        | some p =>
          obtain ⟨b, e⟩ := p
          rw [hq] at h; cases h
          obtain ⟨e2', hr, h2'⟩ := hh _ _ _ _ he _ _ hq
          exact ⟨e2', hr, h2'.mono fun k hk => by rw [hk]⟩
      · cases h
  | fn g cap =>
    simp only [hf] at h ⊢
    simp only [← hM.sp, ← hM.isIo, ← hM.leans]
    cases hs : M1.sp g σ (args.map (RX.ev tm) ++ cap) with
    | some o => simp only [hs] at h ⊢; cases h; exact ⟨e2, he, .of fun _ => rfl⟩
    | none =>
      simp only [hs] at h ⊢
      cases hio : M1.isIo g with
      | true =>
        simp only [hio, if_true] at h ⊢
        cases hq : M1.io g dst σ (args.map (RX.ev tm) ++ cap) with
        | none => rw [hq] at h; cases h
        | some o => rw [hq] at h; cases h; exact ⟨e2, he, (hM.io _ _ _ _ _ hq).mono fun k hk => by rw [hk]⟩
      | false =>
      simp only [hio, Bool.false_eq_true, if_false] at h ⊢
      by_cases hS : (namesL (args.map (RX.ev tm) ++ cap)).isEmpty = true
      · simp only [hS, if_true] at h ⊢
        by_cases hy : hasYL (args.map (RX.ev tm) ++ cap) = true
        · simp only [hy, if_true] at h ⊢
          cases hq : M1.call E1 h1 dep g (args.map (RX.ev tm) ++ cap) e1 with
          | none => rw [hq] at h; cases h
          | some p =>
            obtain ⟨r, obs, e⟩ := p
            rw [hq] at h; cases h
            obtain ⟨e2', hr, h2'⟩ := hM.call E1 E2 RE h1 h2 hh _ _ _ _ _ he _ _ _ hq
            exact ⟨e2', hr, h2'.mono fun k hk => by simp only at hk; rw [hk]⟩
        · simp only [hy] at h ⊢
          simp only [Bool.false_eq_true, if_false] at h ⊢
          cases hq : M1.call Unit noHandler 0 g (args.map (RX.ev tm) ++ cap) () with
          | none => rw [hq] at h; cases h
          | some p =>
            obtain ⟨r, obs, e⟩ := p
            rw [hq] at h; cases h
            exact ⟨e2, he, (unit_call hM _ _ hq).mono fun k hk => by rw [hk]⟩
      · simp only [hS] at h ⊢
        unfold chk at h ⊢
        simp only [Bool.false_eq_true, if_false] at h ⊢
        split at h
        · rename_i hy
          simp only [hy, if_true]
          cases hq : M1.call Unit noHandler 0 g (subL (closed σ) (args.map (RX.ev tm) ++ cap)) () with
          | none => rw [hq] at h; cases h
          | some p =>
            obtain ⟨r, obs, e⟩ := p
            rw [hq] at h; cases h
            exact ⟨e2, he, (unit_call hM _ _ hq).mono fun k hk => by rw [hk]⟩
        · cases h
  | _ => simp only [hf] at h; cases h

theorem outOf_par (dep : Nat) (o : ROper) (st : St) {e1 : E1} {e2 : E2} (he : RE e1 e2) {out : Out} {e1' : E1} (h : outOf M1 h1 dep o st e1 = some (out, e1')) :
    ∃ e2', RE e1' e2' ∧ Evl fun k => outOf (M2 k) (h2 k) dep o st e2 = some (out, e2') := by
  unfold outOf chk at h ⊢
  split at h
  · rename_i hf
    simp only [hf, if_true]
    cases hop : o.op with
    | call f args =>
      simp only [hop] at h ⊢
      cases hq : execCall M1 h1 dep (o.dst.getD 0) (look st.objs) st.tmps f args e1 with
      | none => rw [hq] at h; cases h
      | some p =>
        obtain ⟨out1, e3⟩ := p
        rw [hq] at h
        simp only [chk] at h
        split at h
        · rename_i hg
          cases h
          obtain ⟨e2', hr, h2'⟩ := execCall_par hM hh dep _ _ _ f args he hq
          exact ⟨e2', hr, h2'.mono fun k hk => by rw [hk]; simp only [hg, if_true]⟩
        · cases h
    | _ =>
      simp only [hop] at h ⊢
      split at h
      · cases h; exact ⟨e2, he, .of fun _ => rfl⟩
      · cases h
  · cases h

theorem stepOp_par (dep : Nat) (o : ROper) (st : St) {e1 : E1} {e2 : E2} (he : RE e1 e2) {st' : St} {e1' : E1} (h : stepOp M1 h1 dep o st e1 = some (st', e1')) :
    ∃ e2', RE e1' e2' ∧ Evl fun k => stepOp (M2 k) (h2 k) dep o st e2 = some (st', e2') := by
  unfold stepOp at h ⊢
  cases hq : outOf M1 h1 dep o st e1 with
  | none => rw [hq] at h; cases h
  | some p =>
    obtain ⟨out, e⟩ := p
    rw [hq] at h; cases h
    obtain ⟨e2', hr, h2'⟩ := outOf_par hM hh dep o st he hq
    exact ⟨e2', hr, h2'.mono fun k hk => by rw [hk]⟩

theorem stepG_par (dep : Nat) (ops : List ROper) (o : ROper) (st : St) {e1 : E1} {e2 : E2} (he : RE e1 e2) {st' : St} {e1' : E1} (h : stepG M1 h1 dep ops o st e1 = some (st', e1')) :
    ∃ e2', RE e1' e2' ∧ Evl fun k => stepG (M2 k) (h2 k) dep ops o st e2 = some (st', e2') := by
  unfold stepG at h ⊢
  cases hw : wants ops o st.tmps with
  | none => rw [hw] at h; cases h
  | some b =>
    rw [hw] at h
    cases b with
    | true => exact stepOp_par hM hh dep o st he h
    | false => cases h; exact ⟨e2, he, .of fun _ => rfl⟩

theorem runOps_par (dep : Nat) (ops : List ROper) : ∀ (l : List ROper) (st : St) {e1 : E1} {e2 : E2} (_ : RE e1 e2) {st' : St} {e1' : E1} (_ : runOps M1 h1 dep ops l st e1 = some (st', e1')),
    ∃ e2', RE e1' e2' ∧ Evl fun k => runOps (M2 k) (h2 k) dep ops l st e2 = some (st', e2') := by
  intro l
  induction l with
  | nil => intro st e1 e2 he st' e1' h; cases h; exact ⟨e2, he, .of fun _ => rfl⟩
  | cons o rest ih =>
    intro st e1 e2 he st' e1' h
    unfold runOps at h ⊢
    cases hq : stepG M1 h1 dep ops o st e1 with
    | none => rw [hq] at h; cases h
    | some p =>
      obtain ⟨s, e⟩ := p
      rw [hq] at h
      obtain ⟨e2', hr, h2'⟩ := stepG_par hM hh dep ops o st he hq
      obtain ⟨e3', hr3, h3'⟩ := ih s hr h
      exact ⟨e3', hr3, h2'.mono2 h3' fun k hk hk' => by rw [hk]; exact hk'⟩

theorem outD_par (dep : Nat) (ops : List ROper) (i : Nat) (o : ROper) (st : St) {e1 : E1} {e2 : E2} (he : RE e1 e2) {out : Out} {e1' : E1} {inf : Info} (h : outD M1 h1 dep ops i o st e1 = some (out, e1', inf)) :
    ∃ e2', RE e1' e2' ∧ Evl fun k => outD (M2 k) (h2 k) dep ops i o st e2 = some (out, e2', inf) := by
  unfold outD at h ⊢
  cases hw : wants ops o st.tmps with
  | none => rw [hw] at h; cases h
  | some b =>
    rw [hw] at h
    cases b with
    | true =>
      simp only at h ⊢
      cases hq : outOf M1 h1 dep o st e1 with
      | none => rw [hq] at h; cases h
      | some p =>
        obtain ⟨out, e⟩ := p
        rw [hq] at h; cases h
        obtain ⟨e2', hr, h2'⟩ := outOf_par hM hh dep o st he hq
        exact ⟨e2', hr, h2'.mono fun k hk => by rw [hk]⟩
    | false => cases h; exact ⟨e2, he, .of fun _ => rfl⟩

theorem runD_par (dep : Nat) (ops : List ROper) : ∀ (l : List (Nat × Nat)) (infos : List Info) (st : St) {e1 : E1} {e2 : E2} (_ : RE e1 e2) {st' : St} {e1' : E1} (_ : runD M1 h1 dep ops l infos st e1 = some (st', e1')),
    ∃ e2', RE e1' e2' ∧ Evl fun k => runD (M2 k) (h2 k) dep ops l infos st e2 = some (st', e2') := by
  intro l
  induction l with
  | nil => intro infos st e1 e2 he st' e1' h; cases h; exact ⟨e2, he, .of fun _ => rfl⟩
  | cons p rest ih =>
    obtain ⟨i, bef⟩ := p
    intro infos st e1 e2 he st' e1' h
    unfold runD at h ⊢
    cases hi : ops[i]? with
    | none => rw [hi] at h; cases h
    | some o =>
      simp only [hi] at h ⊢
      unfold stepD at h ⊢
      cases hq : outD M1 h1 dep ops i o st e1 with
      | none => rw [hq] at h; cases h
      | some p =>
        obtain ⟨out, e, inf⟩ := p
        simp only [hq] at h ⊢
        obtain ⟨e2', hr, h2'⟩ := outD_par hM hh dep ops i o st he hq
        unfold chk at h ⊢
        split at h
        · rename_i hc
          obtain ⟨e3', hr3, h3'⟩ := ih _ _ hr h
          exact ⟨e3', hr3, h2'.mono2 h3' fun k hk hk' => by rw [hk]; simp only [hc, if_true]; exact hk'⟩
        · cases h
end par

/-- What is done with what a loop over a function is handed. -/
def rangeH (M : Mach) (fuel : Nat) (asg b : RCode) {E : Type} (h : Handler E) (dep : Nat) (ps : List Nat) : Handler (Rec E) := fun l args r =>
  if l = dep then
    match r with
    | (s, none, e) =>
      if args.length = ps.length then
        match evalC M fuel asg h (dep + 1) { s with tmps := setPs ps args s.tmps, keep := s.tmps ++ s.keep } e with
        | some (.normal, s', e) => match evalC M fuel b h (dep + 1) s' e with
          | some (x, s', e) => some (x == .normal, ({ s' with tmps := s'.keep.take s.tmps.length, keep := s'.keep.drop s.tmps.length }, (if x = .normal then none else some x), e))
          | none => none
        | _ => none
      else none
    | _ => none
  else
    match r with
    | (s, p, e) => match h l args e with
      | some (b, e) => some (b, (s, p, e))
      | none => none

theorem evalC_rangeH (M : Mach) (fuel : Nat) (f : RX) (ps : List Nat) (asg b : RCode) {E : Type} (h : Handler E) (dep : Nat) (st : St) (e : E) :
    evalC M fuel (.rangeFunc f ps asg b) h dep st e = (match freezeV st (f.ev st.tmps) with
      | some (.fn g cap, st) => match M.call (Rec E) (rangeH M fuel asg b h dep ps) (dep + 1) g (.yld dep :: cap) (st, none, e) with
        | some (_, _, s, p, e) => some (p.getD .normal, s, e)
        | none => none
      | _ => none) := rfl

def loopStep (M : Mach) (fuel : Nat) (asg : List Nat) (grow : List (Nat × Nat)) (b : RCode) {E : Type} (h : Handler E) (dep : Nat) (ds : List Nat) (s : St × E) : Option (Sum (St × E) (Ex × (St × E))) :=
  match evalC M fuel b h dep s.1 s.2 with
  | some (.normal, st, e) => some (.inl (norm asg grow (drop ds st), e))
  | some (x, st, e) => some (.inr (x, st, e))
  | none => none

theorem evalC_loop (M : Mach) (fuel : Nat) (asg : List Nat) (grow : List (Nat × Nat)) (b : RCode) {E : Type} (h : Handler E) (dep : Nat) (st : St) (e : E) :
    evalC M fuel (.loop asg grow b) h dep st e = (match repeatN (loopStep M fuel asg grow b h dep (undefs (norm asg grow st))) fuel (norm asg grow st, e) with
      | some (x, st, e) => some (x, st, e)
      | none => none) := rfl

def onStep {σ ρ τ : Type} (f : σ → Option τ) (g : ρ → Option τ) : Option (Sum σ ρ) → Option τ
  | some (.inl s) => f s
  | some (.inr r) => g r
  | none => none

/-- A loop by its rounds; each round's step is told from some number on. -/
theorem repeat_par {σ1 σ2 ρ1 ρ2 : Type} {R : σ1 → σ2 → Prop} {Q : ρ1 → ρ2 → Prop} {s1 : σ1 → Option (Sum σ1 ρ1)} {s2 : Nat → σ2 → Option (Sum σ2 ρ2)}
    (rep1 : Nat → σ1 → Option ρ1) (hz1 : ∀ s, rep1 0 s = none) (hs1 : ∀ n s, rep1 (n + 1) s = onStep (rep1 n) some (s1 s))
    (rep2 : Nat → Nat → σ2 → Option ρ2) (hs2 : ∀ k n s, rep2 k (n + 1) s = onStep (rep2 k n) some (s2 k s))
    (hs : ∀ a b, R a b → (∀ a', s1 a = some (.inl a') → ∃ b', R a' b' ∧ Evl fun k => s2 k b = some (.inl b')) ∧ (∀ r, s1 a = some (.inr r) → ∃ r', Q r r' ∧ Evl fun k => s2 k b = some (.inr r'))) :
    ∀ (n : Nat) a b, R a b → ∀ r, rep1 n a = some r → ∃ r', Q r r' ∧ Evl fun k => ∀ j, n ≤ j → rep2 k j b = some r' := by
  intro n
  induction n with
  | zero => intro a b _ r h; rw [hz1] at h; cases h
  | succ n ih =>
    intro a b hr r h
    rw [hs1] at h
    cases hq : s1 a with
    | none => rw [hq] at h; cases h
    | some q =>
      rw [hq] at h
      cases q with
      | inl a1 =>
        obtain ⟨b1, hr1, h2⟩ := (hs a b hr).1 a1 hq
        obtain ⟨r', hq', h3⟩ := ih a1 b1 hr1 r h
        exact ⟨r', hq', h2.mono2 h3 fun k hk hk' j hj => by
          obtain ⟨j, rfl⟩ : ∃ i, j = i + 1 := ⟨j - 1, by omega⟩
          rw [hs2, hk]; exact hk' j (by omega)⟩
      | inr p =>
        cases h
        obtain ⟨r', hr1, h2⟩ := (hs a b hr).2 r hq
        exact ⟨r', hr1, h2.mono fun k hk j hj => by
          obtain ⟨j, rfl⟩ : ∃ i, j = i + 1 := ⟨j - 1, by omega⟩
          rw [hs2, hk]; rfl⟩

theorem repeatN_eq {σ : Type} (step : σ → Option (Sum σ (Ex × σ))) (n : Nat) (s : σ) :
    repeatN step (n + 1) s = onStep (repeatN step n) some (step s) := by
  rw [repeatN]; rcases step s with _ | (_ | _) <;> rfl

theorem Evl.diag {P : Nat → Nat → Prop} {n : Nat} (h : Evl fun k => ∀ j, n ≤ j → P k j) : Evl fun k => P k k := by
  obtain ⟨a, ha⟩ := h; exact ⟨max a n, fun k hk => ha k (by omega) k (by omega)⟩

theorem evalC_par {M1 : Mach} {M2 : Nat → Mach} (hM : MLe M1 M2) {f1 : Nat} : ∀ (c : RCode) {E1 E2 : Type} {RE : E1 → E2 → Prop} {h1 : Handler E1} {h2 : Nat → Handler E2} (_ : HRel RE h1 h2) (dep : Nat) (st : St) {e1 : E1} {e2 : E2} (_ : RE e1 e2)
    {x : Ex} {st' : St} {e1' : E1} (_ : evalC M1 f1 c h1 dep st e1 = some (x, st', e1')), ∃ e2', RE e1' e2' ∧ Evl fun k => evalC (M2 k) k c (h2 k) dep st e2 = some (x, st', e2') := by
  intro c
  induction c with
  | skip => intro E1 E2 RE h1 h2 hh dep st e1 e2 he x st' e1' h; cases h; exact ⟨e2, he, .of fun _ => rfl⟩
  | region ops dr lv =>
    intro E1 E2 RE h1 h2 hh dep st e1 e2 he x st' e1' h
    cases dr with
    | none =>
      simp only [evalC] at h ⊢
      cases hq : runOps M1 h1 dep ops ops (clean (dsts ops) st) e1 with
      | none => rw [hq] at h; cases h
      | some p =>
        obtain ⟨s, e⟩ := p
        rw [hq] at h; cases h
        obtain ⟨e2', hr, h2'⟩ := runOps_par hM hh dep ops ops _ he hq
        exact ⟨e2', hr, h2'.mono fun k hk => by rw [hk]⟩
    | some bef =>
      simp only [evalC] at h ⊢
      cases hq : runD M1 h1 dep ops bef [] (clean (dsts ops) st) e1 with
      | none => rw [hq] at h; cases h
      | some p =>
        obtain ⟨s, e⟩ := p
        rw [hq] at h; cases h
        obtain ⟨e2', hr, h2'⟩ := runD_par hM hh dep ops bef [] _ he hq
        exact ⟨e2', hr, h2'.mono fun k hk => by rw [hk]⟩
  | seq a b iha ihb =>
    intro E1 E2 RE h1 h2 hh dep st e1 e2 he x st' e1' h
    simp only [evalC] at h ⊢
    cases hq : evalC M1 f1 a h1 dep st e1 with
    | none => rw [hq] at h; cases h
    | some p =>
      obtain ⟨y, s, e⟩ := p
      rw [hq] at h
      obtain ⟨e2', hr, h2'⟩ := iha hh dep st he hq
      cases y with
      | normal =>
        obtain ⟨e3', hr3, h3'⟩ := ihb hh dep s hr h
        exact ⟨e3', hr3, h2'.mono2 h3' fun k hk hk' => by rw [hk]; exact hk'⟩
      | exit id => cases h; exact ⟨e2', hr, h2'.mono fun k hk => by rw [hk]⟩
      | ret => cases h; exact ⟨e2', hr, h2'.mono fun k hk => by rw [hk]⟩
  | cond c a b iha ihb =>
    intro E1 E2 RE h1 h2 hh dep st e1 e2 he x st' e1' h
    simp only [evalC] at h ⊢
    cases hc : c.ev st.tmps with
    | bool v =>
      rw [hc] at h
      cases v with
      | true => exact iha hh dep st he h
      | false => exact ihb hh dep st he h
    | _ => rw [hc] at h; cases h
  | block id b ih =>
    intro E1 E2 RE h1 h2 hh dep st e1 e2 he x st' e1' h
    simp only [evalC] at h ⊢
    cases hq : evalC M1 f1 b h1 dep st e1 with
    | none => rw [hq] at h; cases h
    | some p =>
      obtain ⟨y, s, e⟩ := p
      rw [hq] at h
      obtain ⟨e2', hr, h2'⟩ := ih hh dep st he hq
      cases y with
      | normal => cases h; exact ⟨e2', hr, h2'.mono fun k hk => by rw [hk]⟩
      | ret => cases h; exact ⟨e2', hr, h2'.mono fun k hk => by rw [hk]⟩
      | exit id' =>
        simp only at h ⊢
        split at h <;> rename_i hid
        · cases h; exact ⟨e2', hr, h2'.mono fun k hk => by rw [hk]; simp only [hid, if_true]⟩
        · cases h; exact ⟨e2', hr, h2'.mono fun k hk => by rw [hk]; simp only [hid, if_false]⟩
  | loop asg grow b ih =>
    intro E1 E2 RE h1 h2 hh dep st e1 e2 he x st' e1' h
    simp only [evalC_loop] at h ⊢
    generalize norm asg grow st = z0 at h ⊢
    cases hq : repeatN (loopStep M1 f1 asg grow b h1 dep (undefs z0)) f1 (z0, e1) with
    | none => rw [hq] at h; cases h
    | some q =>
      obtain ⟨x0, st0, e0⟩ := q
      rw [hq] at h
      cases h
      obtain ⟨⟨x2, s2, e2'⟩, hr, h2'⟩ := repeat_par (R := fun (a : St × E1) (b : St × E2) => a.1 = b.1 ∧ RE a.2 b.2) (Q := fun (a : Ex × St × E1) (b : Ex × St × E2) => a.1 = b.1 ∧ a.2.1 = b.2.1 ∧ RE a.2.2 b.2.2)
        (s1 := loopStep M1 f1 asg grow b h1 dep (undefs z0)) (s2 := fun k => loopStep (M2 k) k asg grow b (h2 k) dep (undefs z0))
        (repeatN (loopStep M1 f1 asg grow b h1 dep (undefs z0))) (fun _ => rfl) (fun n s => repeatN_eq _ n s) (fun k => repeatN (loopStep (M2 k) k asg grow b (h2 k) dep (undefs z0))) (fun k n s => repeatN_eq (loopStep (M2 k) k asg grow b (h2 k) dep (undefs z0)) n s) (by
          rintro ⟨a, ea⟩ ⟨b', eb⟩ ⟨h01, hre⟩
          simp only at h01 hre
          subst h01
          refine ⟨fun a' ha => ?_, fun r ha => ?_⟩
          · unfold loopStep at ha ⊢
            simp only at ha ⊢
            cases hb : evalC M1 f1 b h1 dep a ea with
            | none => rw [hb] at ha; cases ha
            | some p =>
              obtain ⟨y, s, e⟩ := p
              rw [hb] at ha
              obtain ⟨e3, hr3, h3⟩ := ih hh dep a hre hb
              cases y with
              | normal => cases ha; exact ⟨(_, e3), ⟨rfl, hr3⟩, h3.mono fun k hk => by rw [hk]⟩
              | exit id => cases ha
              | ret => cases ha
          · unfold loopStep at ha ⊢
            simp only at ha ⊢
            cases hb : evalC M1 f1 b h1 dep a ea with
            | none => rw [hb] at ha; cases ha
            | some p =>
              obtain ⟨y, s, e⟩ := p
              rw [hb] at ha
              obtain ⟨e3, hr3, h3⟩ := ih hh dep a hre hb
              cases y with
              | normal => cases ha
              | exit id => cases ha; exact ⟨(_, _, e3), ⟨rfl, rfl, hr3⟩, h3.mono fun k hk => by rw [hk]⟩
              | ret => cases ha; exact ⟨(_, _, e3), ⟨rfl, rfl, hr3⟩, h3.mono fun k hk => by rw [hk]⟩) f1 (z0, e1) (z0, e2) ⟨rfl, he⟩ _ hq
      simp only at hr
      obtain ⟨h00, h01, hre⟩ := hr
      subst h00; subst h01
      exact ⟨e2', hre, h2'.diag.mono fun k hk => by rw [hk]⟩
  | rangeFunc f ps asg b iha ihb =>
    intro E1 E2 RE h1 h2 hh dep st e1 e2 he x st' e1' h
    simp only [evalC_rangeH] at h ⊢
    cases hz : freezeV st (f.ev st.tmps) with
    | none => rw [hz] at h; cases h
    | some p =>
      obtain ⟨v, s0⟩ := p
      rw [hz] at h
      cases v with
      | fn g cap =>
        simp only at h ⊢
        cases hq : M1.call (Rec E1) (rangeH M1 f1 asg b h1 dep ps) (dep + 1) g (.yld dep :: cap) (s0, none, e1) with
        | none => rw [hq] at h; cases h
        | some q =>
          obtain ⟨r, obs, s, p, e⟩ := q
          rw [hq] at h
          cases h
          obtain ⟨⟨s2, p2, e2'⟩, hr, h2'⟩ := hM.call (Rec E1) (Rec E2) (fun (a : Rec E1) (b : Rec E2) => a.1 = b.1 ∧ a.2.1 = b.2.1 ∧ RE a.2.2 b.2.2) (rangeH M1 f1 asg b h1 dep ps) (fun k => rangeH (M2 k) k asg b (h2 k) dep ps) (by
              rintro l args ⟨s, p, e⟩ ⟨s2, p2, e2⟩ ⟨h01, h02, hre⟩ bb ⟨s', p', e'⟩ hq
              simp only at h01 h02 hre
              subst h01; subst h02
              unfold rangeH at hq ⊢
              by_cases hl : l = dep
              · simp only [hl, if_true] at hq ⊢
                cases p with
                | some x => cases hq
                | none =>
                  simp only at hq ⊢
                  by_cases hlen : args.length = ps.length
                  · simp only [hlen, if_true] at hq ⊢
                    cases ha : evalC M1 f1 asg h1 (dep + 1) { s with tmps := setPs ps args s.tmps, keep := s.tmps ++ s.keep } e with
                    | none => rw [ha] at hq; cases hq
                    | some q =>
                      obtain ⟨y, s3, e3⟩ := q
                      rw [ha] at hq
                      obtain ⟨e4, hr4, h4⟩ := iha hh (dep + 1) _ hre ha
                      cases y with
                      | normal =>
                        simp only at hq ⊢
                        cases hb : evalC M1 f1 b h1 (dep + 1) s3 e3 with
                        | none => rw [hb] at hq; cases hq
                        | some q =>
                          obtain ⟨y, s5, e5⟩ := q
                          rw [hb] at hq
                          obtain ⟨e6, hr6, h6⟩ := ihb hh (dep + 1) _ hr4 hb
                          cases hq
                          exact ⟨(_, _, e6), ⟨rfl, rfl, hr6⟩, h4.mono2 h6 fun k hk hk' => by simp only [hk, hk']; rfl⟩
                      | exit id => cases hq
                      | ret => cases hq
                  · simp only [hlen, if_false] at hq; cases hq
              · simp only [hl, if_false] at hq ⊢
                cases ha : h1 l args e with
                | none => rw [ha] at hq; cases hq
                | some q =>
                  obtain ⟨y, e3⟩ := q
                  rw [ha] at hq; cases hq
                  obtain ⟨e4, hr4, h4⟩ := hh l args _ _ hre _ _ ha
                  exact ⟨(_, _, e4), ⟨rfl, rfl, hr4⟩, h4.mono fun k hk => by rw [hk]⟩) (dep + 1) g (.yld dep :: cap) (s0, none, e1) (s0, none, e2) ⟨rfl, rfl, he⟩ r obs _ hq
          simp only at hr
          obtain ⟨h01, h02, hre⟩ := hr
          subst h01; subst h02
          exact ⟨e2', hre, h2'.mono fun k hk => by simp only at hk; rw [hk]⟩
      | _ => cases h
  | exit id => intro E1 E2 RE h1 h2 hh dep st e1 e2 he x st' e1' h; cases h; exact ⟨e2, he, .of fun _ => rfl⟩
  | norm g => intro E1 E2 RE h1 h2 hh dep st e1 e2 he x st' e1' h; cases h; exact ⟨e2, he, .of fun _ => rfl⟩
  | scope b ih =>
    intro E1 E2 RE h1 h2 hh dep st e1 e2 he x st' e1' h
    simp only [evalC] at h ⊢
    cases hq : evalC M1 f1 b h1 dep st e1 with
    | none => rw [hq] at h; cases h
    | some p =>
      obtain ⟨y, s, e⟩ := p
      rw [hq] at h
      obtain ⟨e2', hr, h2'⟩ := ih hh dep st he hq
      cases y with
      | normal => cases h; exact ⟨e2', hr, h2'.mono fun k hk => by rw [hk]⟩
      | ret => cases h; exact ⟨e2', hr, h2'.mono fun k hk => by rw [hk]⟩
      | exit id' =>
        simp only at h ⊢
        split at h <;> rename_i hid
        · cases h; exact ⟨e2', hr, h2'.mono fun k hk => by rw [hk]; simp only [hid, if_true]⟩
        · cases h
  | ret => intro E1 E2 RE h1 h2 hh dep st e1 e2 he x st' e1' h; cases h; exact ⟨e2, he, .of fun _ => rfl⟩
  | bad => intro E1 E2 RE h1 h2 hh dep st e1 e2 he x st' e1' h; cases h

theorem Evl.shift {P : Nat → Prop} (h : Evl P) : Evl fun k => ∃ j, k = j + 1 ∧ P j := by
  obtain ⟨a, ha⟩ := h; exact ⟨a + 1, fun k hk => ⟨k - 1, by omega, ha _ (by omega)⟩⟩

theorem HRel.shift {E1 E2 : Type} {RE : E1 → E2 → Prop} {h1 : Handler E1} {h2 : Nat → Handler E2} (hh : HRel RE h1 h2) : HRel RE h1 fun k => h2 (k + 1) := by
  intro l args e1 e2 he b e1' h
  obtain ⟨e2', hr, a, ha⟩ := hh l args e1 e2 he b e1' h
  exact ⟨e2', hr, a, fun k hk => ha _ (by omega)⟩

theorem callOf_par {M1 : Mach} {M2 : Nat → Mach} (hM : MLe M1 M2) (n : Nat) (tab : FuncId → Option RFn) : CallLe (callOf M1 n tab) (fun k => callOf (M2 k) k tab) := by
  intro E1 E2 RE h1 h2 hh dep g args e1 e2 he r obs e1' h
  simp only [callOf] at h ⊢
  cases ht : tab g with
  | none => rw [ht] at h; cases h
  | some fn =>
    rw [ht] at h
    simp only at h ⊢
    cases hq : evalC M1 n fn.code h1 dep { tmps := args ++ List.replicate (fn.nt - args.length) .undef, objs := List.replicate fn.nt [], keep := [] } e1 with
    | none => rw [hq] at h; cases h
    | some p =>
      obtain ⟨x, s, e⟩ := p
      rw [hq] at h
      obtain ⟨e2', hr, h2'⟩ := evalC_par hM fn.code hh dep _ he hq
      cases x with
      | exit id => cases h
      | normal =>
        simp only at h
        cases h3 : resVs s fn.res with
        | none => rw [h3] at h; cases h
        | some vs =>
          rw [h3] at h
          simp only at h
          cases h4 : handOver fn.shut s (oneOf vs) with
          | none => rw [h4] at h; cases h
          | some q =>
            obtain ⟨v, obs'⟩ := q; rw [h4] at h; cases h
            exact ⟨e2', hr, h2'.mono fun k hk => by simp only [hk, h3, h4]⟩
      | ret =>
        simp only at h
        cases h3 : resVs s fn.res with
        | none => rw [h3] at h; cases h
        | some vs =>
          rw [h3] at h
          simp only at h
          cases h4 : handOver fn.shut s (oneOf vs) with
          | none => rw [h4] at h; cases h
          | some q =>
            obtain ⟨v, obs'⟩ := q; rw [h4] at h; cases h
            exact ⟨e2', hr, h2'.mono fun k hk => by simp only [hk, h3, h4]⟩

theorem ioRaw_par {M1 : Mach} {M2 : Nat → Mach} (hM : MLe M1 M2) (n : Nat) (fn : RFn) (ins : List Ob) (vs : List PV) {r : St × PV} (h : ioRaw M1 n fn ins vs = some r) : Evl fun k => ioRaw (M2 k) k fn ins vs = some r := by
  unfold ioRaw at h ⊢
  cases hq : evalC M1 n fn.code noHandler 0 (ioSt fn.nt ins vs) () with
  | none => rw [hq] at h; cases h
  | some p =>
    obtain ⟨x, s, e⟩ := p
    rw [hq] at h
    obtain ⟨e2', _, h2'⟩ := evalC_par (RE := fun (_ _ : Unit) => True) (h1 := noHandler) (h2 := fun _ => noHandler) hM fn.code (fun _ _ _ _ _ _ _ h => by cases h) 0 _ (e1 := ()) (e2 := ()) trivial hq
    refine h2'.mono fun k hk => ?_
    rw [hk]
    exact h

theorem ioOf_par {M1 : Mach} {M2 : Nat → Mach} (hM : MLe M1 M2) (n : Nat) (tab : FuncId → Option RFn) (g : FuncId) (dst : Nat) (σ : Nm → Option Ob) (vs : List PV) (out : Out) (h : ioOf M1 n tab g dst σ vs = some out) :
    Evl fun k => ioOf (M2 k) k tab g dst σ vs = some out := by
  unfold ioOf at h ⊢
  cases ht : tab g with
  | none => rw [ht] at h; cases h
  | some fn =>
    rw [ht] at h
    simp only at h ⊢
    cases hm : (dedupN (reach σ deepest (namesL vs))).mapM σ with
    | none => rw [hm] at h; cases h
    | some ins =>
      rw [hm] at h
      simp only at h ⊢
      unfold chk at h ⊢
      split at h
      case isFalse => cases h
      rename_i hc
      simp only [hc, if_true]
      cases hq : ioRaw M1 n fn (ins.map (Ob.ren fun m => (0, (dedupN (reach σ deepest (namesL vs))).idxOf m))) (renL (fun m => (0, (dedupN (reach σ deepest (namesL vs))).idxOf m)) vs) with
      | none => rw [hq] at h; cases h
      | some p =>
        rw [hq] at h
        refine (ioRaw_par hM n fn _ _ hq).mono fun k hk => ?_
        rw [hk]
        exact h

theorem MLe.of_tail {M1 : Mach} {M2 : Nat → Mach} (h : MLe M1 fun k => M2 (k + 1)) (h0 : M1.sp = (M2 0).sp) (h1 : M1.isIo = (M2 0).isIo) (h2 : M1.leans = (M2 0).leans) : MLe M1 M2 where
  sp k := by cases k with | zero => exact h0 | succ k => exact h.sp k
  call := by
    intro E1 E2 RE g1 g2 hh dep g args e1 e2 he r obs e1' hq
    obtain ⟨e2', hr, h2⟩ := h.call E1 E2 RE g1 (fun k => g2 (k + 1)) hh.shift dep g args e1 e2 he r obs e1' hq
    exact ⟨e2', hr, h2.shift.mono fun k ⟨j, hj, hp⟩ => by subst hj; exact hp⟩
  isIo k := by cases k with | zero => exact h1 | succ k => exact h.isIo k
  leans k := by cases k with | zero => exact h2 | succ k => exact h.leans k
  io g dst σ vs out hq := (h.io g dst σ vs out hq).shift.mono fun k ⟨j, hj, hp⟩ => by subst hj; exact hp

theorem evalM_sp (sp : FuncId → (Nm → Option Ob) → List PV → Option Out) (tab : FuncId → Option RFn) (n : Nat) : (evalM sp tab n).sp = sp := by cases n <;> rfl
theorem evalM_isIo (sp : FuncId → (Nm → Option Ob) → List PV → Option Out) (tab : FuncId → Option RFn) (n : Nat) : (evalM sp tab n).isIo = ioFlag tab := by cases n <;> rfl

theorem evalM_leans (sp : FuncId → (Nm → Option Ob) → List PV → Option Out) (tab : FuncId → Option RFn) (n : Nat) : (evalM sp tab n).leans = leanFlag tab := by cases n <;> rfl

theorem evalM_le {sp : FuncId → (Nm → Option Ob) → List PV → Option Out} {tab : FuncId → Option RFn} : ∀ (n : Nat), MLe (evalM sp tab n) (evalM sp tab) := by
  intro n
  induction n with
  | zero => exact { sp := fun k => (by rw [evalM_sp, evalM_sp]), call := fun E1 E2 RE h1 h2 hh dep g args e1 e2 he r obs e1' h => (by cases h), isIo := fun k => (by rw [evalM_isIo, evalM_isIo]), leans := fun k => (by rw [evalM_leans, evalM_leans]), io := fun g dst σ vs out h => (by cases h) }
  | succ n ih =>
    refine MLe.of_tail ⟨fun k => rfl, ?_, fun k => rfl, fun k => rfl, fun g dst σ vs out h => ioOf_par ih n tab g dst σ vs out h⟩ rfl rfl rfl
    exact callOf_par ih n tab

theorem evalFn_par {sp : FuncId → (Nm → Option Ob) → List PV → Option Out} {tab : FuncId → Option RFn} (n : Nat) : CallLe (evalFn sp tab n) (evalFn sp tab) := (evalM_le n).call
end Go.Ab

/-
  The evaluator once more, for states of which not all is known ('KV.cv v': whatever value without names), in the style of continuations: what hangs on the unknown is told by a few words ('bindO', 'iteP', 'chkO', 'pureO', 'loopL' ..), so that the kernel computes of a function's code a plain term. That it tells the same: AbKs.
-/
namespace Go.Ab

/-! ### Words -/

def bindO {α β : Type} (x : Option α) (f : α → Option β) : Option β :=
  match x with
  | some a => f a
  | none => none
def iteP {β : Type} (v : PV) (a b : Option β) : Option β :=
  match v with
  | .bool true => a
  | .bool false => b
  | _ => none
def iteB {β : Type} (v : Bool) (a b : Option β) : Option β :=
  match v with
  | true => a
  | false => b
def chkO {β : Type} (v : Bool) (a : Option β) : Option β :=
  match v with
  | true => a
  | false => none
mutual
/-- No names, no yields, however deep. -/
def okV : PV → Bool
  | .undef | .bool _ | .int _ _ | .str _ | .nilS | .nilP | .nilF | .nilI | .nilM | .glob _ _ => true
  | .sl _ xs _ => okVL xs | .ptr cs _ => okVL cs | .agg cs => okVL cs | .iface _ x => okV x | .fn _ cap => okVL cap | .tup xs => okVL xs | .imap es => okVL es
  | .yld _ | .ref _ _ | .aref _ _ _ _ | .arr _ _ _ _ | .mp _ | .it _ => false
def okVL : List PV → Bool
  | [] => true
  | x :: xs => okV x && okVL xs
end
def pureO (op : ROp) : Option PV :=
  match exec 0 (fun _ => none) [] op with
  | some out => some out.v
  | none => none
def ptrO (cs : List PV) (o : Nat) : PV := if o < cs.length then .ptr cs o else .undef
def arefO (k k' : Nat) (xs : List PV) (i o : Nat) : PV := if k = k' then (match xs[i]? with | some x => if o < x.cells.length then .ptr x.cells o else .undef | none => .undef) else .undef
def slO (k k' : Nat) (xs : List PV) (o n : Nat) : PV := if k = k' ∧ o + n ≤ xs.length then .sl k ((xs.drop o).take n) false else .undef
def cellP (v : PV) (i : Nat) : PV := v.cells.getD i .undef
def okCells (v : PV) (n : Nat) : Bool := v.isVal && v.cells.length == n
def selO (v : PV) (o n : Nat) (ag : Bool) : Option PV := sel v.cells o n ag
def elemO (xs : List PV) (i o n : Nat) (ag : Bool) : Option PV :=
  match xs[i]? with
  | some e => sel e.cells o n ag
  | none => none
def setO (k : Nat) (xs : List PV) (i o n : Nat) (v : PV) : Option (List PV) :=
  match xs[i]? with
  | some (.agg es) => chkO (v.isVal && decide (v.cells.length = n) && decide (o + n ≤ es.length)) (some (xs.set i (.agg (splice es o v.cells))))
  | some _ => chkO (k == 1 && o == 0 && n == 1 && v.isCell) (some (xs.set i v))
  | none => none
def natO (v : PV) : Option Nat := natOf v
def boundO (x : Option PV) (d top : Nat) : Option Nat := bound x d top
def elemsO (k : Nat) (v : PV) : Option (List PV) := elems (fun _ => none) k v
def appO (k : Nat) (v : PV) (ys : List PV) : Option (List PV) :=
  match v with
  | .nilS => chkO (decide (ys.length ≤ mostLen)) (some ys)
  | .sl k' xs true => match ys with
    | [] => none
    | y :: ys => chkO (k == k' && decide (xs.length + (ys.length + 1) ≤ mostLen)) (some (xs ++ y :: ys))
  | _ => none
def insO (c : TC) (es : List PV) (k v : PV) : Option (List PV) :=
  match setE k v es with
  | some es' => chkO (isKey c k && v.isVal) (some es')
  | none => none
def lookO (c : TC) (z : PV) (ok : Bool) (es : List PV) (k : PV) : Option PV :=
  match findE k es with
  | none => none
  | some r => chkO (isKey c k) (some (if ok then .tup [r.getD z, .bool r.isSome] else r.getD z))
def mkSO (l c : PV) : Option Nat :=
  match natOf l, natOf c with
  | some l, some c => chkO (decide (l ≤ c) && decide (c ≤ mostLen)) (some l)
  | _, _ => none
def binO (op : BinOp) (c : TC) (cst : Bool) (x y : PV) : Option PV := binPV op c cst x y
def strO (v : PV) : Option (List UInt8) :=
  match v with
  | .str s => some s
  | _ => none
def runeP (s : List UInt8) (pos : Nat) : PV := .int .i32 (Utf8.decode ⟨s.toArray⟩ pos).1
def runeN (s : List UInt8) (pos : Nat) : Nat := (Utf8.decode ⟨s.toArray⟩ pos).2
def asP {β : Type} (e : TypeId) (v : PV) (f : PV → Option β) (g : Option β) : Option β :=
  match v with
  | .nilI => g
  | .iface t x => if t = e then f x else none
  | _ => none
def notNil {β : Type} (v : PV) (a : Option β) : Option β :=
  match v with
  | .nilS => none
  | _ => a
def nilO {β : Type} (v : PV) (a : Option β) : Option β :=
  match v with
  | .nilS => a
  | _ => none
def notNilAt (v : PV) (i : Nat) : Bool :=
  match v.cells[i]? with
  | some .nilS => false
  | _ => true
def nth (vs : List PV) (i : Nat) : PV := vs.getD i .undef
def natP (v : PV) : Nat :=
  match v with
  | .int _ n => n.toNat
  | _ => 0
def itemsP (v : PV) : List PV :=
  match v with
  | .sl _ xs _ => xs
  | _ => []
def entsP (v : PV) : List PV :=
  match v with
  | .imap es => es
  | _ => []
def strP (v : PV) : List UInt8 :=
  match v with
  | .str s => s
  | _ => []
def prjP (v : PV) (i : Nat) : PV :=
  match v with
  | .tup xs => xs.getD i .undef
  | .agg xs => xs.getD i .undef
  | _ => .undef

def addN (a b : Nat) : Nat := a + b
def subN (a b : Nat) : Nat := a - b
def minN (a b : Nat) : Nat := min a b
def leN (a b : Nat) : Bool := Nat.ble a b
def ltN (a b : Nat) : Bool := Nat.blt a b
def eqN (a b : Nat) : Bool := Nat.beq a b
def halfN (a : Nat) : Nat := a / 2
def andB (a b : Bool) : Bool := a && b
def nI (n : Nat) : PV := .int .i64 (n : Int)
def lenL (l : List PV) : Nat := l.length
def takeL (n : Nat) (l : List PV) : List PV := l.take n
def dropL (n : Nat) (l : List PV) : List PV := l.drop n
def catL (l l' : List PV) : List PV := l ++ l'
def replL (n : Nat) (v : PV) : List PV := List.replicate n v
def lenS (s : List UInt8) : Nat := s.length
def cellsP (v : PV) : List PV := v.cells
def okArgs (l : List PV) (n : Nat) : Bool := l.length == n && okVL l
def okSls (k : Nat) (l : List PV) : Bool := l.all fun x => x.isVal && x.cells.length == k
def okSto (u w : PV) (o n : Nat) : Bool := u.isVal && decide (u.cells.length = n) && decide (o + n ≤ w.cells.length)
def stoP (u w : PV) (o : Nat) : PV := .agg (splice w.cells o u.cells)
def isNoneE (p : Option Ex) : Bool :=
  match p with
  | none => true
  | _ => false
def isRetE (p : Option Ex) : Bool :=
  match p with
  | some .ret => true
  | _ => false
def isExitE (p : Option Ex) (id : Nat) : Bool :=
  match p with
  | some (.exit id') => Nat.beq id' id
  | _ => false
def valO (v : PV) : Bool := v.isVal
def okU (v : PV) : Bool := okV v
def noUndef (vs : List PV) : Bool := vs.all fun v => !isUndef v
def noYL (vs : List PV) : Bool := !hasYL vs

/-! ### Without end -/

open Classical in
/-- What is told from some number on. -/
noncomputable def lim {α : Type} (f : Nat → Option α) : Option α := if h : ∃ a, Evl fun n => f n = some a then some h.choose else none

theorem lim_some {α : Type} {f : Nat → Option α} {a : α} (h : lim f = some a) : Evl fun n => f n = some a := by
  unfold lim at h
  split at h
  · rename_i hx
    have := hx.choose_spec
    cases h; exact this
  · cases h

theorem Evl.unique {α : Type} {f : Nat → Option α} {a b : α} (h : Evl fun n => f n = some a) (h' : Evl fun n => f n = some b) : a = b := by
  obtain ⟨m, hm⟩ := h.and h'
  have := hm m (Nat.le_refl _)
  exact Option.some.inj (this.1.symm.trans this.2)

theorem lim_of {α : Type} {f : Nat → Option α} {a : α} (h : Evl fun n => f n = some a) : lim f = some a := by
  unfold lim
  have hx : ∃ a, Evl fun n => f n = some a := ⟨a, h⟩
  rw [dif_pos hx]
  exact congrArg some (Evl.unique hx.choose_spec h)

def repS {σ ρ : Type} (step : σ → Option (Sum σ ρ)) : Nat → σ → Option ρ
  | 0, _ => none
  | n + 1, s => onStep (repS step n) some (step s)

/-- A loop: until a round ends it. -/
noncomputable def loopL {σ ρ : Type} (step : σ → Option (Sum σ ρ)) (s : σ) : Option ρ := lim fun n => repS step n s

theorem repS_mono {σ ρ : Type} {step : σ → Option (Sum σ ρ)} : ∀ {n m : Nat} {s : σ} {r : ρ}, n ≤ m → repS step n s = some r → repS step m s = some r := by
  intro n
  induction n with
  | zero => intro m s r _ h; cases h
  | succ n ih =>
    intro m s r hm h
    obtain ⟨m, rfl⟩ : ∃ k, m = k + 1 := ⟨m - 1, by omega⟩
    unfold repS at h ⊢
    revert h
    rcases step s with _ | (s1 | r1) <;> intro h
    · exact h
    · exact ih (by omega) h
    · exact h

theorem loopL_some {σ ρ : Type} {step : σ → Option (Sum σ ρ)} {s : σ} {r : ρ} (h : loopL step s = some r) : ∃ n, repS step n s = some r := by
  obtain ⟨m, hm⟩ := lim_some h
  exact ⟨m, hm m (Nat.le_refl _)⟩

theorem loopL_of {σ ρ : Type} {step : σ → Option (Sum σ ρ)} {s : σ} {r : ρ} {n : Nat} (h : repS step n s = some r) : loopL step s = some r :=
  lim_of ⟨n, fun _ hk => repS_mono hk h⟩

theorem loopL_eq {σ ρ : Type} (step : σ → Option (Sum σ ρ)) (s : σ) : loopL step s = onStep (loopL step) some (step s) := by
  cases hs : step s with
  | none =>
    cases hl : loopL step s with
    | none => rfl
    | some r =>
      obtain ⟨n, hn⟩ := loopL_some hl
      cases n with
      | zero => cases hn
      | succ n => unfold repS at hn; rw [hs] at hn; cases hn
  | some q =>
    cases q with
    | inl s1 =>
      show loopL step s = loopL step s1
      cases hl : loopL step s with
      | some r =>
        obtain ⟨n, hn⟩ := loopL_some hl
        cases n with
        | zero => cases hn
        | succ n => unfold repS at hn; rw [hs] at hn; exact (loopL_of hn).symm
      | none =>
        cases hl1 : loopL step s1 with
        | none => rfl
        | some r =>
          obtain ⟨n, hn⟩ := loopL_some hl1
          have : loopL step s = some r := loopL_of (n := n + 1) (by unfold repS; rw [hs]; exact hn)
          rw [hl] at this; cases this
    | inr r => exact loopL_of (n := 1) (by unfold repS; rw [hs]; rfl)

theorem loopL_inl {σ ρ : Type} {step : σ → Option (Sum σ ρ)} {s s' : σ} (h : step s = some (.inl s')) : loopL step s = loopL step s' := by
  rw [loopL_eq, h]; rfl
theorem loopL_inr {σ ρ : Type} {step : σ → Option (Sum σ ρ)} {s : σ} {r : ρ} (h : step s = some (.inr r)) : loopL step s = some r := by
  rw [loopL_eq, h]; rfl

/-! ### Values -/

inductive KV where
  | un | sk
  | lit (b : Bool)
  | nils
  | cv (v : PV)
  | yld (d : Nat)
  | ref (nm : Nm) (o : Nat)
  | aref (nm : Nm) (k i o : Nat)
  | arr (nm : Nm) (k o n : Nat)
  | mp (nm : Nm)
  | it (nm : Nm)
  | wit (nm : Nm)
  | agg (cs : List KV)
  | iface (t : TypeId) (x : KV)
  | fn (f : FuncId) (cap : List KV)
  | tup (xs : List KV)
  deriving Inhabited

mutual
def KV.pv : KV → PV
  | .un => .undef | .sk => .tup [] | .lit b => .bool b | .nils => .nilS | .cv v => v | .yld d => .yld d
  | .ref nm o => .ref nm o | .aref nm k i o => .aref nm k i o | .arr nm k o n => .arr nm k o n | .mp nm => .mp nm | .it nm => .it nm | .wit nm => .arr nm 1 0 0
  | .agg cs => .agg (pvL cs) | .iface t x => .iface t x.pv | .fn f cap => .fn f (pvL cap) | .tup xs => .tup (pvL xs)
def pvL : List KV → List PV
  | [] => []
  | x :: xs => x.pv :: pvL xs
end

mutual
def KV.names : KV → List Nm
  | .un | .sk | .lit _ | .nils | .cv _ | .yld _ => []
  | .ref nm _ => [nm] | .aref nm _ _ _ => [nm] | .arr nm _ _ _ => [nm] | .mp nm => [nm] | .it nm => [nm] | .wit nm => [nm]
  | .agg cs => knamesL cs | .iface _ x => x.names | .fn _ cap => knamesL cap | .tup xs => knamesL xs
def knamesL : List KV → List Nm
  | [] => []
  | x :: xs => x.names ++ knamesL xs
end

mutual
def KV.hasY : KV → Bool
  | .yld _ => true
  | .agg cs => khasYL cs | .iface _ x => x.hasY | .fn _ cap => khasYL cap | .tup xs => khasYL xs
  | .un | .sk | .lit _ | .nils | .cv _ | .ref _ _ | .aref _ _ _ _ | .arr _ _ _ _ | .mp _ | .it _ | .wit _ => false
def khasYL : List KV → Bool
  | [] => false
  | x :: xs => x.hasY || khasYL xs
end

mutual
/-- What has no names, and is no yield, as a value. -/
def KV.cl : KV → Option PV
  | .lit b => some (.bool b) | .nils => some .nilS | .cv v => some v
  | .agg cs => (clL cs).map .agg | .iface t x => x.cl.map (.iface t) | .fn f cap => (clL cap).map (.fn f)
  | .un | .sk | .yld _ | .ref _ _ | .aref _ _ _ _ | .arr _ _ _ _ | .mp _ | .it _ | .wit _ | .tup _ => none
def clL : List KV → Option (List PV)
  | [] => some []
  | x :: xs => match x.cl, clL xs with
    | some v, some vs => some (v :: vs)
    | _, _ => none
end

mutual
/-- Names are let go. -/
def KV.off (p : Nm → Bool) : KV → KV
  | .ref nm o => if p nm then .un else .ref nm o
  | .aref nm k i o => if p nm then .un else .aref nm k i o
  | .arr nm k o n => if p nm then .un else .arr nm k o n
  | .mp nm => if p nm then .un else .mp nm
  | .it nm => if p nm then .un else .it nm
  | .wit nm => if p nm then .un else .wit nm
  | .agg cs => .agg (offL p cs) | .iface t x => .iface t (x.off p) | .fn f cap => .fn f (offL p cap) | .tup xs => .tup (offL p xs)
  | .un => .un | .sk => .sk | .lit b => .lit b | .nils => .nils | .cv v => .cv v | .yld d => .yld d
def offL (p : Nm → Bool) : List KV → List KV
  | [] => []
  | x :: xs => x.off p :: offL p xs
end

mutual
def KV.ren (f : Nm → Nm) : KV → KV
  | .ref nm o => .ref (f nm) o | .aref nm k i o => .aref (f nm) k i o | .arr nm k o n => .arr (f nm) k o n | .mp nm => .mp (f nm) | .it nm => .it (f nm) | .wit nm => .wit (f nm)
  | .agg cs => .agg (krenL f cs) | .iface t x => .iface t (x.ren f) | .fn g cap => .fn g (krenL f cap) | .tup xs => .tup (krenL f xs)
  | .un => .un | .sk => .sk | .lit b => .lit b | .nils => .nils | .cv v => .cv v | .yld d => .yld d
def krenL (f : Nm → Nm) : List KV → List KV
  | [] => []
  | x :: xs => x.ren f :: krenL f xs
end

inductive KOb where
  | cells (ty : Nat) (cs : List KV)
  | whole (ty : Nat) (v : PV)
  | arr (k ty : Nat) (xs : List PV)
  | map (es : List PV)
  | siter (s : List UInt8) (pos : Nat)
  deriving Inhabited

def KOb.ob : KOb → Ob
  | .cells ty cs => .cells ty (pvL cs)
  | .whole ty v => .cells ty (cellsP v)
  | .arr k kt xs => .arr k kt xs
  | .map es => .map es
  | .siter s pos => .siter s pos

def KOb.names : KOb → List Nm
  | .cells _ cs => knamesL cs
  | _ => []

def KOb.off (p : Nm → Bool) : KOb → KOb
  | .cells ty cs => .cells ty (offL p cs)
  | o => o

def KOb.ren (f : Nm → Nm) : KOb → KOb
  | .cells ty cs => .cells ty (krenL f cs)
  | o => o

/-- Slots: those that hold something, in their order. -/
abbrev Sp := List (Nat × KV)
abbrev SpO := List (Nat × List KOb)

def spGet : Sp → Nat → KV
  | [], _ => .un
  | (j, v) :: l, i => match Nat.beq i j with
    | true => v
    | false => spGet l i
def spPut (i : Nat) (v : KV) : Sp → Sp
  | [] => [(i, v)]
  | (j, u) :: l => match Nat.beq i j with
    | true => (i, v) :: l
    | false => match Nat.blt i j with
      | true => (i, v) :: (j, u) :: l
      | false => (j, u) :: spPut i v l
def spOut (i : Nat) : Sp → Sp
  | [] => []
  | (j, u) :: l => match Nat.beq i j with
    | true => spOut i l
    | false => (j, u) :: spOut i l
def spSet (i : Nat) (v : KV) (l : Sp) : Sp :=
  match v with
  | .un => spOut i l
  | v => spPut i v l
def spMap (f : KV → KV) : Sp → Sp
  | [] => []
  | (j, u) :: l => match f u with
    | .un => spMap f l
    | u => (j, u) :: spMap f l
def spKeep (p : Nat → Bool) : Sp → Sp
  | [] => []
  | (j, u) :: l => match p j with
    | true => (j, u) :: spKeep p l
    | false => spKeep p l
def spHas : Sp → Nat → Bool
  | [], _ => false
  | (j, _) :: l, i => match Nat.beq i j with
    | true => true
    | false => spHas l i
def spNames : Sp → List Nm
  | [] => []
  | (_, u) :: l => u.names ++ spNames l

def soGet : SpO → Nat → List KOb
  | [], _ => []
  | (j, v) :: l, i => match Nat.beq i j with
    | true => v
    | false => soGet l i
def soPut (i : Nat) (v : List KOb) : SpO → SpO
  | [] => [(i, v)]
  | (j, u) :: l => match Nat.beq i j with
    | true => (i, v) :: l
    | false => match Nat.blt i j with
      | true => (i, v) :: (j, u) :: l
      | false => (j, u) :: soPut i v l
def soMap (f : KOb → KOb) : SpO → SpO
  | [] => []
  | (j, u) :: l => (j, u.map f) :: soMap f l
def soKeep (p : Nat → Bool) : SpO → SpO
  | [] => []
  | (j, u) :: l => match p j with
    | true => (j, u) :: soKeep p l
    | false => soKeep p l
def soNames : SpO → List Nm
  | [] => []
  | (_, u) :: l => u.flatMap KOb.names ++ soNames l

structure KSt where
  nt : Nat
  tmps : Sp
  objs : SpO
  keep : List Sp
  deriving Inhabited

def dense (nt : Nat) (l : Sp) : List PV := (List.range nt).map fun i => (spGet l i).pv
def denseO (nt : Nat) (l : SpO) : List (List Ob) := (List.range nt).map fun i => (soGet l i).map KOb.ob

def KSt.st (ks : KSt) : St := { tmps := dense ks.nt ks.tmps, objs := denseO ks.nt ks.objs, keep := ks.keep.flatMap (dense ks.nt) }

def klook (σ : SpO) (nm : Nm) : Option KOb := (soGet σ nm.1)[nm.2]?

def kput (σ : SpO) (nm : Nm) (o : KOb) : SpO :=
  match klook σ nm with
  | some _ => soPut nm.1 ((soGet σ nm.1).set nm.2 o) σ
  | none => σ

def kreach (σ : Nm → Option KOb) : Nat → List Nm → List Nm
  | 0, l => l
  | d + 1, l => l ++ kreach σ d (l.flatMap fun nm => ((σ nm).map KOb.names).getD [])

def kshut (σ : Nm → Option KOb) (R : List Nm) : Bool := R.all fun nm => (((σ nm).map KOb.names).getD []).all fun m => R.contains m

/-! What a value is, its names read. -/
mutual
def KV.close (g : Nm → Option Ob) : KV → PV
  | .ref nm o => match g nm with
    | some (.cells _ cs) => ptrO cs o
    | _ => .undef
  | .aref nm k i o => match g nm with
    | some (.arr k' kt xs) => arefO k k' xs i o
    | _ => .undef
  | .arr nm k o n => match g nm with
    | some (.arr k' kt xs) => slO k k' xs o n
    | _ => .undef
  | .mp nm => match g nm with
    | some (.map es) => .imap es
    | _ => .undef
  | .it _ => .undef
  | .wit nm => match g nm with
    | some (.arr k' kt xs) => slO 1 k' xs 0 0
    | _ => .undef
  | .agg cs => .agg (closeL g cs) | .iface t x => .iface t (x.close g) | .fn f cap => .fn f (closeL g cap) | .tup xs => .tup (closeL g xs)
  | .un => .undef | .sk => .tup [] | .lit b => .bool b | .nils => .nilS | .cv v => v | .yld d => .yld d
def closeL (g : Nm → Option Ob) : List KV → List PV
  | [] => []
  | x :: xs => x.close g :: closeL g xs
end

def KOb.close (g : Nm → Option Ob) : KOb → Ob
  | .cells ty cs => .cells ty (closeL g cs)
  | o => o.ob

def kclosed (σ : Nm → Option KOb) : Nat → Nm → Option Ob
  | 0, nm => (σ nm).map (KOb.close fun _ => none)
  | d + 1, nm => (σ nm).map (KOb.close (kclosed σ d))

/-! Some names are read for good. -/
mutual
def KV.frz (p : Nm → Bool) (g : Nm → Option Ob) : KV → KV
  | .ref nm o => if p nm then .cv ((KV.ref nm o).close g) else .ref nm o
  | .aref nm k i o => if p nm then .cv ((KV.aref nm k i o).close g) else .aref nm k i o
  | .arr nm k o n => if p nm then .cv ((KV.arr nm k o n).close g) else .arr nm k o n
  | .mp nm => if p nm then .cv ((KV.mp nm).close g) else .mp nm
  | .it nm => if p nm then .un else .it nm
  | .wit nm => if p nm then .cv ((KV.wit nm).close g) else .wit nm
  | .agg cs => .agg (frzL p g cs) | .iface t x => .iface t (x.frz p g) | .fn f cap => .fn f (frzL p g cap) | .tup xs => .tup (frzL p g xs)
  | .un => .un | .sk => .sk | .lit b => .lit b | .nils => .nils | .cv v => .cv v | .yld d => .yld d
def frzL (p : Nm → Bool) (g : Nm → Option Ob) : List KV → List KV
  | [] => []
  | x :: xs => x.frz p g :: frzL p g xs
end

def KOb.frz (p : Nm → Bool) (g : Nm → Option Ob) : KOb → KOb
  | .cells ty cs => .cells ty (frzL p g cs)
  | o => o

def kdead : KOb := .arr 0 0 []

def koffSt (p : Nm → Bool) (ks : KSt) : KSt := { ks with tmps := spMap (KV.off p) ks.tmps, objs := soMap (KOb.off p) ks.objs, keep := ks.keep.map (spMap (KV.off p)) }

def kfreeze (σ : Nm → Option KOb) (R : List Nm) (ks : KSt) : KSt :=
  let p := fun m => R.contains m
  let g := kclosed σ deepest
  { ks with tmps := spMap (KV.frz p g) ks.tmps, objs := R.foldl (fun objs nm => kput objs nm kdead) (soMap (KOb.frz p g) ks.objs), keep := ks.keep.map (spMap (KV.frz p g)) }

/-! Looked at as far as it is known, at once. -/
mutual
def forceV {R : Type} : KV → (KV → R) → R
  | .un, K => K .un | .sk, K => K .sk | .lit b, K => (match b with | true => K (.lit true) | false => K (.lit false)) | .nils, K => K .nils | .cv v, K => K (.cv v) | .yld d, K => K (.yld d)
  | .ref nm o, K => (match nm with | (a, b) => K (.ref (a, b) o)) | .aref nm k i o, K => (match nm with | (a, b) => K (.aref (a, b) k i o)) | .arr nm k o n, K => (match nm with | (a, b) => K (.arr (a, b) k o n))
  | .mp nm, K => (match nm with | (a, b) => K (.mp (a, b))) | .it nm, K => (match nm with | (a, b) => K (.it (a, b))) | .wit nm, K => (match nm with | (a, b) => K (.wit (a, b)))
  | .agg cs, K => forceL cs fun cs => K (.agg cs) | .iface t x, K => forceV x fun x => K (.iface t x) | .fn f cap, K => forceL cap fun cap => K (.fn f cap) | .tup xs, K => forceL xs fun xs => K (.tup xs)
def forceL {R : Type} : List KV → (List KV → R) → R
  | [], K => K []
  | x :: xs, K => forceV x fun x => forceL xs fun xs => K (x :: xs)
end
def forceOb {R : Type} : KOb → (KOb → R) → R
  | .cells ty cs, K => forceL cs fun cs => K (.cells ty cs)
  | .whole ty v, K => K (.whole ty v) | .arr k kt xs, K => K (.arr k kt xs) | .map es, K => K (.map es) | .siter s pos, K => K (.siter s pos)
def forceObL {R : Type} : List KOb → (List KOb → R) → R
  | [], K => K []
  | x :: xs, K => forceOb x fun x => forceObL xs fun xs => K (x :: xs)
def forceSp {R : Type} : Sp → (Sp → R) → R
  | [], K => K []
  | (j, x) :: xs, K => forceV x fun x => forceSp xs fun xs => K ((j, x) :: xs)
def forceSo {R : Type} : SpO → (SpO → R) → R
  | [], K => K []
  | (j, x) :: xs, K => forceObL x fun x => forceSo xs fun xs => K ((j, x) :: xs)
def forceKp {R : Type} : List Sp → (List Sp → R) → R
  | [], K => K []
  | x :: xs, K => forceSp x fun x => forceKp xs fun xs => K (x :: xs)
def force {R : Type} (ks : KSt) (K : KSt → R) : R :=
  match ks with
  | ⟨nt, tmps, objs, keep⟩ => forceSp tmps fun a => forceSo objs fun b => forceKp keep fun c => K { nt, tmps := a, objs := b, keep := c }

/-! ### Operations -/

def cstK (v : PV) : KV :=
  match v with
  | .bool b => .lit b
  | .nilS => .nils
  | .fn f [] => .fn f []
  | v => .cv v

def RX.kv (tm : Sp) : RX → KV
  | .t i => spGet tm i
  | .c v => cstK v

def okX : RX → Bool
  | .t _ => true
  | .c v => okV v

def ROp.mapX (g : RX → RX) : ROp → ROp
  | .mov x => .mov (g x) | .pick c a b => .pick (g c) (g a) (g b) | .box x => .box (g x) | .alloc ty z => .alloc ty z
  | .build z ps => .build z (ps.map fun p => (p.1, p.2.1, g p.2.2)) | .mkSl k ps => .mkSl k (ps.map g) | .load n ag x => .load n ag (g x) | .store n x v => .store n (g x) (g v)
  | .nilck x => .nilck (g x) | .bin op c cst x y => .bin op c cst (g x) (g y) | .un op x => .un op (g x) | .conv k x => .conv k (g x) | .toBytes x => .toBytes (g x) | .ofBytes x => .ofBytes (g x)
  | .ofRune x => .ofRune (g x) | .strId x => .strId (g x) | .mkI t x => .mkI t (g x) | .mkF f cap => .mkF f (cap.map g) | .mkMap => .mkMap | .insert c x k v => .insert c (g x) (g k) (g v)
  | .lookup c z ok x k => .lookup c z ok (g x) (g k) | .mkS k z l c => .mkS k z (g l) (g c) | .slice k x lo hi mx => .slice k (g x) (lo.map g) (hi.map g) (mx.map g) | .strSlice x lo hi => .strSlice (g x) (lo.map g) (hi.map g)
  | .fieldAddr off x => .fieldAddr off (g x) | .field off n ag x => .field off n ag (g x) | .idxAddr k x i => .idxAddr k (g x) (g i) | .idxAddrA k l x i => .idxAddrA k l (g x) (g i) | .strIdx x i => .strIdx (g x) (g i)
  | .extract j x => .extract j (g x) | .len c x => .len c (g x) | .append k ty s x => .append k ty (g s) (g x) | .copy k d s => .copy k (g d) (g s) | .minmax mx xs => .minmax mx (xs.map g) | .call f args => .call (g f) (args.map g)
  | .iter x => .iter (g x) | .next x => .next (g x) | .tassert t z ok x => .tassert t z ok (g x) | .bad => .bad

def instX (tm : Sp) (x : RX) : RX := .c (((x.kv tm).cl).getD .undef)

structure KOut where
  v : KV
  new : List KOb := []
  upd : Option (Nm × KOb) := none
  kill : Option Nm := none
  frz : List Nm := []
  gone : List Nm := []
  ups : List (Nm × KOb) := []
  io : Bool := false
  slot : Option Nat := none

/-- Operations that make nothing and turn nothing, of what has no names. -/
def isG : ROp → Bool
  | .build _ _ | .load _ _ _ | .nilck _ | .bin _ _ _ _ _ | .un _ _ | .conv _ _ | .toBytes _ | .ofBytes _ | .ofRune _ | .strId _ | .lookup _ _ _ _ _ | .slice _ _ _ _ _ | .strSlice _ _ _
  | .fieldAddr _ _ | .field _ _ _ _ | .idxAddr _ _ _ | .idxAddrA _ _ _ _ | .strIdx _ _ | .extract _ _ | .len _ _ | .minmax _ _ | .tassert _ _ _ _ => true
  | _ => false
def okOp : ROp → Bool
  | .build z _ => okVL z
  | .lookup _ z _ _ _ => okV z
  | .tassert _ z _ _ => okV z
  | _ => true
/-- An operation on what has no names. -/
def gO {R : Type} (tm : Sp) (op : ROp) (K : KOut → Option R) : Option R :=
  if (isG op && okOp op && op.xs.all fun x => ((x.kv tm).cl).isSome) then bindO (pureO (op.mapX (instX tm))) fun z => K { v := .cv z } else none

/-- A value's cells. -/
def cellsK {R : Type} (n : Nat) (x : KV) (K : List KV → Option R) : Option R :=
  match x with
  | .agg cs => if cs.length = n then K cs else none
  | .cv v => chkO (okCells v n) (K ((List.range n).map fun i => .cv (cellP v i)))
  | .un | .sk | .tup _ => none
  | y => if n = 1 then K [y] else none

def kfill {R : Type} (tm : Sp) : List KV → List (Nat × Nat × RX) → (List KV → Option R) → Option R
  | z, [], K => K z
  | z, (off, n, x) :: ps, K => cellsK n (x.kv tm) fun cs => if off + n ≤ z.length then kfill tm (z.take off ++ cs ++ z.drop (off + n)) ps K else none

def elemsK {R : Type} (σ : Nm → Option KOb) (k : Nat) (x : KV) (K : List PV → Option R) : Option R :=
  match x with
  | .arr nm k' o n => match σ nm with
    | some (.arr k'' kt xs) => if k = k' ∧ k' = k'' then chkO (leN (addN o n) (lenL xs)) (K (takeL n (dropL o xs))) else none
    | _ => none
  | x => match x.cl with
    | some v => bindO (elemsO k v) K
    | none => none

/-- One operation but for calls. -/
def execK {R : Type} (d : Nat) (σ : Nm → Option KOb) (tm : Sp) (op : ROp) (K : KOut → Option R) : Option R :=
  match op with
  | .mov x => K { v := x.kv tm }
  | .pick c a b => match c.kv tm with
    | .lit true => K { v := a.kv tm }
    | .lit false => K { v := b.kv tm }
    | .cv v => iteP v (K { v := a.kv tm }) (K { v := b.kv tm })
    | _ => none
  | .box x => match x.kv tm with
    | .cv v => chkO (valO v) (K { v := .ref (d, 0) 0, new := [.whole 0 v] })
    | .agg cs => K { v := .ref (d, 0) 0, new := [.cells 0 cs] }
    | .un | .sk | .tup _ => none
    | y => K { v := .ref (d, 0) 0, new := [.cells 0 [y]] }
  | .alloc ty z => if okVL z then K { v := .ref (d, 0) 0, new := [.cells ty (z.map cstK)] } else none
  | .build z ps =>
    if ps.all fun p => ((p.2.2.kv tm).cl).isSome then gO tm (.build z ps) K
    else if okVL z then kfill tm (z.map cstK) ps fun cs => K { v := .agg cs } else none
  | .mkSl k ps =>
    let xs := ps.map (RX.kv tm)
    match clL xs with
    | some vs => chkO (okSls k vs) (K { v := .arr (d, 0) k 0 (lenL vs), new := [.arr k 0 vs] })
    | none =>
      let R := kreach σ deepest (knamesL xs)
      if (knamesL xs).isEmpty then none
      else if kshut σ R ∧ khasYL xs = false then
        let ys := closeL (kclosed σ deepest) xs
        chkO (okSls k ys) (K { v := .arr (d, 0) k 0 (lenL ys), new := [.arr k 0 ys], frz := R })
      else none
  | .load n ag x => match x.kv tm with
    | .ref nm o => match σ nm with
      | some (.cells _ cs) => if ag then (if o + n ≤ cs.length then K { v := .agg ((cs.drop o).take n) } else none) else (match cs[o]? with | some c => K { v := c } | none => none)
      | some (.whole _ v) => bindO (selO v o n ag) fun z => K { v := .cv z }
      | _ => none
    | .aref nm k i o => match σ nm with
      | some (.arr k' kt xs) => if k = k' then bindO (elemO xs i o n ag) fun z => K { v := .cv z } else none
      | _ => none
    | _ => gO tm op K
  | .store n x v => match x.kv tm with
    | .ref nm o => match σ nm with
      | some (.cells ty cs) => cellsK n (v.kv tm) fun vs => if o + n ≤ cs.length then K { v := .un, upd := some (nm, .cells ty (cs.take o ++ vs ++ cs.drop (o + n))) } else none
      | some (.whole ty w) => match (v.kv tm).cl with
        | some u => chkO (okSto u w o n) (K { v := .un, upd := some (nm, .whole ty (stoP u w o)) })
        | none => none
      | _ => none
    | .aref nm k i o => match σ nm with
      | some (.arr k' kt xs) => match (v.kv tm).cl with
        | some u => if k = k' then bindO (setO k xs i o n u) fun ys => K { v := .un, upd := some (nm, .arr k kt ys) } else none
        | none => none
      | _ => none
    | _ => none
  | .nilck x => match x.kv tm with
    | .ref nm o => K { v := .ref nm o }
    | .aref nm k i o => K { v := .aref nm k i o }
    | .fn f cap => K { v := .fn f cap }
    | .yld l => K { v := .yld l }
    | _ => gO tm op K
  | .bin o c cst x y => match x.kv tm, y.kv tm with
    | .ref _ _, .cv v => match o with
      | .eql => iteB (match c, v with | .ptr, .nilP => true | _, _ => false) (K { v := .lit false }) none
      | .neq => iteB (match c, v with | .ptr, .nilP => true | _, _ => false) (K { v := .lit true }) none
      | _ => none
    | _, _ => gO tm op K
  | .un .not x => match x.kv tm with
    | .lit b => K { v := .lit (!b) }
    | _ => gO tm op K
  | .mkI t x => match (x.kv tm).cl with
    | some v => K { v := .cv (.iface t v) }
    | none => match x.kv tm with
      | .un | .sk | .tup _ | .yld _ => none
      | y => K { v := .iface t y }
  | .mkF f cap => if (cap.map (RX.kv tm)).all fun | .un | .sk | .tup _ | .yld _ => false | _ => true then K { v := .fn f (cap.map (RX.kv tm)) } else none
  | .mkMap => K { v := .mp (d, 0), new := [.map []] }
  | .insert c x k v => match x.kv tm with
    | .mp nm => match σ nm, (k.kv tm).cl, (v.kv tm).cl with
      | some (.map es), some kk, some vv => bindO (insO c es kk vv) fun es' => K { v := .un, upd := some (nm, .map es') }
      | some (.map es), some kk, none =>
        let R := kreach σ deepest (knamesL [v.kv tm])
        if (knamesL [v.kv tm]).isEmpty then none
        else if kshut σ R ∧ khasYL [v.kv tm] = false ∧ R.contains nm = false then
          bindO (insO c es kk (nth (closeL (kclosed σ deepest) [v.kv tm]) 0)) fun es' => K { v := .un, upd := some (nm, .map es'), frz := R }
        else none
      | _, _, _ => none
    | _ => none
  | .lookup c z ok x k => match x.kv tm with
    | .mp nm => match σ nm, (k.kv tm).cl with
      | some (.map es), some kk => if okV z = true then bindO (lookO c z ok es kk) fun v => K { v := .cv v } else none
      | _, _ => none
    | _ => gO tm op K
  | .mkS k z l c => match (l.kv tm).cl, (c.kv tm).cl with
    | some l, some c => if z.cells.length = k ∧ okV z = true then bindO (mkSO l c) fun n => K { v := .arr (d, 0) k 0 n, new := [.arr k 0 (replL n z)] } else none
    | _, _ => none
  | .slice k x lo hi mx => match x.kv tm with
    | .arr nm k' o n =>
      if k = k' ∧ (mx.isNone ∨ hi.isSome) ∧ (lo.toList ++ hi.toList ++ mx.toList).all fun y => ((y.kv tm).cl).isSome then
        let ev := fun (y : RX) => ((y.kv tm).cl).getD .undef
        bindO (boundO (mx.map ev) n n) fun m => bindO (boundO (hi.map ev) n m) fun h =>
          match lo with
          | none => K { v := .arr nm k o h }
          | some lo => bindO (boundO (some (ev lo)) 0 h) fun l => iteB (andB (eqN h l) (ltN 0 l)) (K { v := .cv (.sl k [] false) }) (K { v := .arr nm k (addN o l) (subN h l) })
      else none
    | _ => gO tm op K
  | .fieldAddr off x => match x.kv tm with
    | .ref nm o => K { v := .ref nm (o + off) }
    | .aref nm k i o => K { v := .aref nm k i (o + off) }
    | _ => gO tm op K
  | .field off n ag x => match x.kv tm with
    | .agg cs => if ag then (if off + n ≤ cs.length then K { v := .agg ((cs.drop off).take n) } else none) else (match cs[off]? with | some c => K { v := c } | none => none)
    | _ => gO tm op K
  | .idxAddr k x i => match x.kv tm with
    | .arr nm k' o n => match (i.kv tm).cl with
      | some i => if k = k' then bindO (natO i) fun j => chkO (ltN j n) (K { v := .aref nm k (addN o j) 0 }) else none
      | none => none
    | _ => gO tm op K
  | .extract j x => match x.kv tm with
    | .tup xs => match xs[j]? with
      | some v => K { v }
      | none => none
    | _ => gO tm op K
  | .len c x => match x.kv tm with
    | .arr _ _ _ n => match c with
      | .slice => K { v := .cv (nI n) }
      | _ => none
    | .mp nm => match c, σ nm with
      | .map, some (.map es) => K { v := .cv (nI (halfN (lenL es))) }
      | _, _ => none
    | _ => gO tm op K
  | .append k ty s x => elemsK σ k (x.kv tm) fun ys =>
    match s.kv tm with
    | .arr nm k' o n => match σ nm with
      | some (.arr k'' kt xs) => if k = k' ∧ k' = k'' ∧ o = 0 then chkO (andB (leN n (lenL xs)) (leN (addN n (lenL ys)) mostLen)) (K { v := .arr nm k 0 (addN n (lenL ys)), upd := some (nm, .arr k (if kt = ty then ty else 0) (catL (takeL n xs) ys)), kill := some nm }) else none
      | _ => none
    | .nils => chkO (leN (lenL ys) mostLen) (K { v := .arr (d, 0) k 0 (lenL ys), new := [.arr k ty ys] })
    | .cv v => bindO (appO k v ys) fun zs => K { v := .arr (d, 0) k 0 (lenL zs), new := [.arr k ty zs] }
    | _ => none
  | .copy k x s => elemsK σ k (s.kv tm) fun ys =>
    match x.kv tm with
    | .arr nm k' o n => match σ nm with
      | some (.arr k'' kt xs) => if k = k' ∧ k' = k'' then chkO (leN (addN o n) (lenL xs)) (K { v := .cv (nI (minN (lenL ys) n)), upd := some (nm, .arr k kt (catL (catL (takeL o xs) (takeL n ys)) (dropL (addN o (lenL (takeL n ys))) xs))) }) else none
      | _ => none
    | .nils => K { v := .cv (nI 0) }
    | _ => none
  | .iter x => match (x.kv tm).cl with
    | some v => bindO (strO v) fun s => K { v := .it (d, 0), new := [.siter s 0] }
    | none => none
  | .next x => match x.kv tm with
    | .it nm => match σ nm with
      | some (.siter s pos) => iteB (ltN pos (lenS s)) (K { v := .tup [.lit true, .cv (nI pos), .cv (runeP s pos)], upd := some (nm, .siter s (addN pos (runeN s pos))) }) (K { v := .tup [.lit false] })
      | _ => none
    | _ => none
  | .tassert t z ok x => match x.kv tm with
    | .iface u y => if u = t then K { v := if ok then .tup [y, .lit true] else y } else if ok = true ∧ okV z = true then K { v := .tup [.cv z, .lit false] } else none
    | _ => gO tm op K
  | .call _ _ => none
  | .bad => none
  | _ => gO tm op K

def kupd (u : Option (Nm × KOb)) (ks : KSt) : KSt :=
  match u with
  | some (nm, ob) => { ks with objs := kput ks.objs nm ob }
  | none => ks
def kkill (k : Option Nm) (ks : KSt) : KSt :=
  match k with
  | some nm => koffSt (fun m => m == nm) ks
  | none => ks
def kfrzs (σ : Nm → Option KOb) (R : List Nm) (ks : KSt) : KSt :=
  match R with
  | [] => ks
  | nm :: R => kfreeze σ (nm :: R) ks
def kgone (l : List Nm) (ks : KSt) : KSt :=
  match l with
  | [] => ks
  | nm :: l => koffSt (fun m => (nm :: l).contains m) ks
def kups : List (Nm × KOb) → SpO → SpO
  | [], σ => σ
  | (nm, o) :: l, σ => kups l (kput σ nm o)
def kset (dst : Option Nat) (v : KV) (new : List KOb) (ks : KSt) : KSt :=
  match dst with
  | some d => match Nat.blt d ks.nt with
    | true => { ks with tmps := spSet d v ks.tmps, objs := match new with | [] => ks.objs | x :: xs => soPut d (x :: xs) ks.objs }
    | false => ks
  | none => ks
def kturn (l : List (Nm × KOb)) (ks : KSt) : KSt := { ks with objs := kups l ks.objs }
def kext (sl : Option Nat) (new : List KOb) (ks : KSt) : KSt :=
  match sl with
  | some r => match Nat.blt r ks.nt with
    | true => { ks with objs := soPut r (soGet ks.objs r ++ new) ks.objs }
    | false => ks
  | none => ks
def newAt (sl : Option Nat) (new : List KOb) : List KOb :=
  match sl with
  | some _ => []
  | none => new
def kapply (ks : KSt) (dst : Option Nat) (o : KOut) : KSt := kset dst o.v (newAt o.slot o.new) (kext o.slot o.new <| kturn o.ups (kgone o.gone (kfrzs (klook ks.objs) o.frz (kkill o.kill (kupd o.upd ks)))))

/-! ### The same shape -/

mutual
def fitV : KV → KV → Bool
  | .un, x => match x with | .un => true | _ => false
  | .sk, x => match x with | .sk => true | _ => false
  | .yld _, x => match x with | .yld _ => true | _ => false
  | .ref nm o, x => match x with | .ref nm' o' => nm == nm' && o == o' | _ => false
  | .aref _ _ _ _, _ => false
  | .arr nm k o _, x => match x with | .arr nm' k' o' _ => nm == nm' && k == k' && Nat.beq o o' | _ => false
  | .mp nm, x => match x with | .mp nm' => nm == nm' | _ => false
  | .it nm, x => match x with | .it nm' => nm == nm' | _ => false
  | .wit nm, x => match x with | .wit nm' => nm == nm' | _ => false
  | .fn f cap, x => match x with | .fn f' cap' => f == f' && fitL cap cap' | _ => false
  | .tup xs, x => match x with | .tup ys => fitL xs ys | _ => false
  | .lit _, x => x.cl.isSome
  | .nils, x => x.cl.isSome
  | .cv _, x => x.cl.isSome
  | .agg cs, x => if (clL cs).isSome then x.cl.isSome else match x with | .agg cs' => fitL cs cs' | _ => false
  | .iface t y, x => if y.cl.isSome then x.cl.isSome else match x with | .iface t' y' => t == t' && fitV y y' | _ => false
def fitL : List KV → List KV → Bool
  | [], l => match l with | [] => true | _ => false
  | x :: xs, l => match l with | y :: ys => fitV x y && fitL xs ys | _ => false
end

mutual
/-- What a value of such a shape bears that is not known. -/
def leaves : KV → KV → List PV
  | .un, _ => [] | .sk, _ => [] | .yld _, x => (match x with | .yld d => [nI d] | _ => []) | .ref _ _, _ => [] | .aref _ _ _ _, _ => [] | .mp _, _ => [] | .it _, _ => [] | .wit _, _ => []
  | .arr _ _ _ _, x => match x with | .arr _ _ _ n => [nI n] | _ => []
  | .fn _ cap, x => match x with | .fn _ cap' => leavesL cap cap' | _ => []
  | .tup xs, x => match x with | .tup ys => leavesL xs ys | _ => []
  | .lit _, x => [x.cl.getD .undef]
  | .nils, x => [x.cl.getD .undef]
  | .cv _, x => [x.cl.getD .undef]
  | .agg cs, x => if (clL cs).isSome then [x.cl.getD .undef] else match x with | .agg cs' => leavesL cs cs' | _ => []
  | .iface _ y, x => if y.cl.isSome then [x.cl.getD .undef] else match x with | .iface _ y' => leaves y y' | _ => []
def leavesL : List KV → List KV → List PV
  | [], _ => []
  | x :: xs, l => match l with | y :: ys => leaves x y ++ leavesL xs ys | _ => []
end

mutual
/-- The value of such a shape that bears these, from the i-th on; the number of the next one. -/
def fill : KV → List PV → Nat → KV × Nat
  | .un, _, i => (.un, i) | .sk, _, i => (.sk, i) | .yld _, vs, i => (.yld (natP (nth vs i)), i + 1) | .ref nm o, _, i => (.ref nm o, i) | .aref nm k j o, _, i => (.aref nm k j o, i) | .mp nm, _, i => (.mp nm, i) | .it nm, _, i => (.it nm, i) | .wit nm, _, i => (.wit nm, i)
  | .arr nm k o _, vs, i => (.arr nm k o (natP (nth vs i)), i + 1)
  | .fn f cap, vs, i => let p := fillL cap vs i; (.fn f p.1, p.2)
  | .tup xs, vs, i => let p := fillL xs vs i; (.tup p.1, p.2)
  | .lit _, vs, i => (.cv (nth vs i), i + 1)
  | .nils, vs, i => (.cv (nth vs i), i + 1)
  | .cv _, vs, i => (.cv (nth vs i), i + 1)
  | .agg cs, vs, i => if (clL cs).isSome then (.cv (nth vs i), i + 1) else let p := fillL cs vs i; (.agg p.1, p.2)
  | .iface t y, vs, i => if y.cl.isSome then (.cv (nth vs i), i + 1) else let p := fill y vs i; (.iface t p.1, p.2)
def fillL : List KV → List PV → Nat → List KV × Nat
  | [], _, i => ([], i)
  | x :: xs, vs, i => let p := fill x vs i; let q := fillL xs vs p.2; (p.1 :: q.1, q.2)
end

def fitOb : KOb → KOb → Bool
  | .cells ty cs, x => match x with | .cells ty' cs' => ty == ty' && fitL cs cs' | _ => false
  | .whole ty _, x => match x with | .whole ty' _ => ty == ty' | _ => false
  | .arr k t _, x => match x with | .arr k' t' _ => k == k' && t == t' | _ => false
  | .map _, x => match x with | .map _ => true | _ => false
  | .siter _ _, x => match x with | .siter _ _ => true | _ => false
def leavesOb : KOb → KOb → List PV
  | .cells _ cs, x => match x with | .cells _ cs' => leavesL cs cs' | _ => []
  | .whole _ _, x => match x with | .whole _ v => [v] | _ => []
  | .arr k _ _, x => match x with | .arr _ _ xs => [.sl k xs false] | _ => []
  | .map _, x => match x with | .map es => [.imap es] | _ => []
  | .siter _ _, x => match x with | .siter s pos => [.str s, nI pos] | _ => []
def fillOb : KOb → List PV → Nat → KOb × Nat
  | .cells ty cs, vs, i => let p := fillL cs vs i; (.cells ty p.1, p.2)
  | .whole ty _, vs, i => (.whole ty (nth vs i), i + 1)
  | .arr k t _, vs, i => (.arr k t (itemsP (nth vs i)), i + 1)
  | .map _, vs, i => (.map (entsP (nth vs i)), i + 1)
  | .siter _ _, vs, i => (.siter (strP (nth vs i)) (natP (nth vs (i + 1))), i + 2)

def fitObL : List KOb → List KOb → Bool
  | [], [] => true
  | x :: xs, y :: ys => fitOb x y && fitObL xs ys
  | _, _ => false
def leavesObL : List KOb → List KOb → List PV
  | x :: xs, y :: ys => leavesOb x y ++ leavesObL xs ys
  | _, _ => []
def fillObL : List KOb → List PV → Nat → List KOb × Nat
  | [], _, i => ([], i)
  | x :: xs, vs, i => let p := fillOb x vs i; let q := fillObL xs vs p.2; (p.1 :: q.1, q.2)
def fitSp : Sp → Sp → Bool
  | [], [] => true
  | (i, x) :: xs, (j, y) :: ys => Nat.beq i j && (fitV x y && fitSp xs ys)
  | _, _ => false
def leavesSp : Sp → Sp → List PV
  | (_, x) :: xs, (_, y) :: ys => leaves x y ++ leavesSp xs ys
  | _, _ => []
def fillSp : Sp → List PV → Nat → Sp × Nat
  | [], _, i => ([], i)
  | (j, x) :: xs, vs, i => let p := fill x vs i; let q := fillSp xs vs p.2; ((j, p.1) :: q.1, q.2)
def fitSo : SpO → SpO → Bool
  | [], [] => true
  | (i, x) :: xs, (j, y) :: ys => Nat.beq i j && (fitObL x y && fitSo xs ys)
  | _, _ => false
def leavesSo : SpO → SpO → List PV
  | (_, x) :: xs, (_, y) :: ys => leavesObL x y ++ leavesSo xs ys
  | _, _ => []
def fillSo : SpO → List PV → Nat → SpO × Nat
  | [], _, i => ([], i)
  | (j, x) :: xs, vs, i => let p := fillObL x vs i; let q := fillSo xs vs p.2; ((j, p.1) :: q.1, q.2)
def fitKp : List Sp → List Sp → Bool
  | [], [] => true
  | x :: xs, y :: ys => fitSp x y && fitKp xs ys
  | _, _ => false
def leavesKp : List Sp → List Sp → List PV
  | x :: xs, y :: ys => leavesSp x y ++ leavesKp xs ys
  | _, _ => []
def fillKp : List Sp → List PV → Nat → List Sp × Nat
  | [], _, i => ([], i)
  | x :: xs, vs, i => let p := fillSp x vs i; let q := fillKp xs vs p.2; (p.1 :: q.1, q.2)

def fitSt (p x : KSt) : Bool := Nat.beq p.nt x.nt && (fitSp p.tmps x.tmps && (fitSo p.objs x.objs && fitKp p.keep x.keep))
def leavesSt (p x : KSt) : List PV := leavesSp p.tmps x.tmps ++ leavesSo p.objs x.objs ++ leavesKp p.keep x.keep
def fillSt (p : KSt) (vs : List PV) : KSt :=
  let a := fillSp p.tmps vs 0
  let b := fillSo p.objs vs a.2
  let c := fillKp p.keep vs b.2
  { nt := p.nt, tmps := a.1, objs := b.1, keep := c.1 }

/-! ### What a call that turns what it is handed gives, by its shape -/

mutual
/-- What a value of such a shape bears that is not known. -/
def fitP : KV → PV → Option (List PV)
  | .un, x => match x with | .undef => some [] | _ => none
  | .sk, x => match x with | .tup [] => some [] | _ => none
  | .yld _, x => match x with | .yld d => some [nI d] | _ => none
  | .aref _ _ _ _, _ => none
  | .wit nm, x => match x with | .arr nm' 1 0 0 => chkO (nm == nm') (some []) | _ => none
  | .ref nm o, x => match x with | .ref nm' o' => chkO (nm == nm' && o == o') (some []) | _ => none
  | .mp nm, x => match x with | .mp nm' => chkO (nm == nm') (some []) | _ => none
  | .it nm, x => match x with | .it nm' => chkO (nm == nm') (some []) | _ => none
  | .arr nm k o _, x => match x with | .arr nm' k' o' n => chkO (nm == nm' && k == k' && Nat.beq o o') (some [nI n]) | _ => none
  | .lit _, x => chkO (okV x) (some [x])
  | .nils, x => chkO (okV x) (some [x])
  | .cv _, x => chkO (okV x) (some [x])
  | .fn f cap, x => match x with | .fn f' cap' => if f = f' then fitPL cap cap' else none | _ => none
  | .tup xs, x => match x with | .tup ys => fitPL xs ys | _ => none
  | .agg cs, x => if (clL cs).isSome then chkO (okV x) (some [x]) else match x with | .agg cs' => fitPL cs cs' | _ => none
  | .iface t y, x => if y.cl.isSome then chkO (okV x) (some [x]) else match x with | .iface t' y' => if t = t' then fitP y y' else none | _ => none
def fitPL : List KV → List PV → Option (List PV)
  | [], l => match l with | [] => some [] | _ => none
  | x :: xs, l => match l with
    | y :: ys => match fitP x y, fitPL xs ys with
      | some a, some b => some (a ++ b)
      | _, _ => none
    | _ => none
end

def fitPOb : KOb → Ob → Option (List PV)
  | .cells ty cs, x => match x with | .cells ty' cs' => if ty = ty' then fitPL cs cs' else none | _ => none
  | .whole ty _, x => match x with | .cells ty' cs' => chkO (ty == ty' && okVL cs') (some [.agg cs']) | _ => none
  | .arr k t _, x => match x with | .arr k' t' xs => chkO (k == k' && t == t' && okVL xs) (some [.sl k xs false]) | _ => none
  | .map _, x => match x with | .map es => chkO (okVL es) (some [.imap es]) | _ => none
  | .siter _ _, x => match x with | .siter s pos => some [.str s, nI pos] | _ => none
def fitPObL : List KOb → List Ob → Option (List PV)
  | [], l => match l with | [] => some [] | _ => none
  | x :: xs, l => match l with
    | y :: ys => match fitPOb x y, fitPObL xs ys with
      | some a, some b => some (a ++ b)
      | _, _ => none
    | _ => none

/-- Of what shape a function's arguments are, the objects that it is handed by name, and what it gives: objects that were handed in are named (0, j), new ones (1, i). -/
structure IoSh where
  args : List KV
  ins : List KOb
  res : KV
  outs : List KOb
  news : List KOb
  gone : List Nat
  deriving Inhabited

def ioFit (P : IoSh) (out : Out) : Option (List PV) :=
  if out.gone = P.gone.map (fun j => (0, j)) then
    match fitP P.res out.v, fitPObL P.outs (out.ups.map (·.2)), fitPObL P.news out.new with
    | some a, some b, some c => some (a ++ (b ++ c))
    | _, _, _ => none
  else none

def canonR (k : Nat) : List Nm := (List.range k).map fun j => (0, j)

/-! ### Calls -/

/-- What a call gives: without names; a list of its own; more than one. -/
inductive RSh where
  | cl
  | own (k : Nat)
  | tup (l : List RSh)
  | agg (l : List RSh)
  deriving Inhabited

mutual
def convR (obs : List Ob) : RSh → Nat → PV → Option (PV × Nat)
  | .cl, j, v => chkO (okV v) (some (v, j))
  | .own k, j, v => match v, obs[j]? with
    | .arr nm k' o n, some (.arr k'' kt xs) => chkO (nm == (0, j) && k == k' && k == k'' && o == 0 && n == xs.length && kt == 0 && okVL xs) (some (.sl k xs false, j + 1))
    | _, _ => none
  | .tup l, j, v => match v with
    | .tup vs => (convRL obs l j vs).map fun p => (.tup p.1, p.2)
    | _ => none
  | .agg l, j, v => match v with
    | .agg vs => (convRL obs l j vs).map fun p => (.agg p.1, p.2)
    | _ => none
def convRL (obs : List Ob) : List RSh → Nat → List PV → Option (List PV × Nat)
  | [], j, [] => some ([], j)
  | s :: l, j, v :: vs => match convR obs s j v with
    | some (u, j) => (convRL obs l j vs).map fun p => (u :: p.1, p.2)
    | none => none
  | _, _, _ => none
end

def convO (sh : RSh) (v : PV) (obs : List Ob) : Option PV :=
  match convR obs sh 0 v with
  | some (r, j) => chkO (j == obs.length) (some r)
  | none => none

mutual
def putR (d : Nat) : RSh → Nat → PV → KV × List KOb × Nat
  | .cl, j, r => (.cv r, [], j)
  | .own k, j, r => (.arr (d, j) k 0 (lenL (itemsP r)), [.arr k 0 (itemsP r)], j + 1)
  | .tup l, j, r => let p := putRL d l j r 0; (.tup p.1, p.2)
  | .agg l, j, r => let p := putRL d l j r 0; (.agg p.1, p.2)
def putRL (d : Nat) : List RSh → Nat → PV → Nat → List KV × List KOb × Nat
  | [], j, _, _ => ([], [], j)
  | s :: l, j, r, i =>
    let p := putR d s j (prjP r i)
    let q := putRL d l p.2.2 r (i + 1)
    (p.1 :: q.1, p.2.1 ++ q.2.1, q.2.2)
end

structure KB where
  sp : FuncId → (Nm → Option Ob) → List PV → Option Out
  L : CallT
  I : FuncId → List Ob → List PV → Option (St × PV)
  isIo : FuncId → Bool
  leans : FuncId → Bool

structure KCfg where
  b : KB
  spF : FuncId → Bool
  asT : FuncId → TypeId → Option (TypeId × Nat)
  rsh : FuncId → RSh × Bool
  dsh : Nat → RSh
  ioF : FuncId → Option IoSh

/-- What is told of a function that is taken as it is told, if that is but a value, and new lists. -/
def spO (sp : FuncId → (Nm → Option Ob) → List PV → Option Out) (g : FuncId) (vs : List PV) : Option (Option (PV × List Ob)) :=
  match sp g (fun _ => none) vs with
  | some out => chkO (out.upd.isNone && out.kill.isNone && out.frz.isEmpty && out.gone.isEmpty && out.ups.isEmpty && !out.io && out.slot.isNone) (some (some (out.v, out.new)))
  | none => some none

/-- A call of what has no names: what comes of it. -/
noncomputable def callO (B : KB) (sh : RSh) (f : PV) (args : List PV) : Option PV :=
  match f with
  | .fn g cap => match spO B.sp g (args ++ cap) with
    | some (some (v, obs)) => convO sh v obs
    | some none => if B.isIo g then none else match B.L Unit noHandler 0 g (args ++ cap) () with
      | some (r, obs, _) => convO sh r obs
      | none => none
    | none => none
  | _ => none

/-- The same, of lists that are lent; 'fr': what comes of it does not lean on them. -/
noncomputable def lendO (B : KB) (sh : RSh) (fr : Bool) (g : FuncId) (args : List PV) : Option PV :=
  if hasYL args then none
  else match B.L Unit noHandler 0 g args () with
    | some (r, obs, _) => chkO ((r.free && obs.all Ob.free && !B.leans g) == fr) (convO sh r obs)
    | none => none

/-- A loop over a function: of what has no names. -/
noncomputable def rangeO (B : KB) {E : Type} (h : Handler E) (dep : Nat) (f : PV) (e : E) : Option E :=
  match f with
  | .fn g cap => match B.L E h (dep + 1) g (.yld dep :: cap) e with
    | some (_, _, e) => some e
    | none => none
  | _ => none

/-- A call that turns what it is handed by name: by what is not known of it, what is not known of what it gives. -/
noncomputable def ioO (B : KB) (P : IoSh) (g : FuncId) (vs : List PV) : Option (List PV) :=
  match B.I g ((fillObL P.ins vs (fillL P.args vs 0).2).1.map KOb.ob) (pvL (fillL P.args vs 0).1) with
  | some (st, v) => match ioEnd none 1 0 (canonR P.ins.length) st v with
    | some out => ioFit P out
    | none => none
  | none => none

def ioNm (R : List Nm) (d i0 : Nat) (m : Nm) : Nm := if m.1 = 0 then R.getD m.2 (0, 0) else (d, i0 + m.2)

def ioOut (P : IoSh) (R : List Nm) (sl : Option Nat) (d i0 : Nat) (rs : List PV) : KOut :=
  let v := fill P.res rs 0
  let o := fillObL P.outs rs v.2
  let w := fillObL P.news rs o.2
  { v := v.1.ren (ioNm R d i0), new := w.1.map (KOb.ren (ioNm R d i0)), gone := P.gone.map fun j => R.getD j (0, 0), ups := R.zip (o.1.map (KOb.ren (ioNm R d i0))), io := true, slot := sl }

noncomputable def kcallIo {R : Type} (cfg : KCfg) (P : IoSh) (g : FuncId) (d : Nat) (σ : Nm → Option KOb) (xs : List KV) (K : KOut → Option R) : Option R :=
  let S := dedupN (kreach σ deepest (knamesL xs))
  match S.mapM σ with
  | none => none
  | some ins =>
    let f : Nm → Nm := fun m => (0, S.idxOf m)
    if kshut σ S = true ∧ khasYL xs = false ∧ cfg.spF g = false ∧ (fitL P.args (krenL f xs) && fitObL P.ins (ins.map (KOb.ren f))) = true then
      bindO (ioO cfg.b P g (leavesL P.args (krenL f xs) ++ leavesObL P.ins (ins.map (KOb.ren f)))) fun rs => match S with
        | [] => K (ioOut P S none d 0 rs)
        | r :: _ => match slotLen σ r.1 with
          | some i0 => K (ioOut P S (some r.1) r.1 i0 rs)
          | none => none
    else none

noncomputable def kcall {E R : Type} (cfg : KCfg) (h : Handler E) (d : Nat) (σ : Nm → Option KOb) (tm : Sp) (f : RX) (args : List RX) (e : E) (K : KOut → E → Option R) : Option R :=
  match f.kv tm with
  | .yld l =>
    let xs := args.map (RX.kv tm)
    match clL xs with
    | some vs => bindO (h l vs e) fun p => K { v := .cv (.bool p.1) } p.2
    | none =>
      let R := kreach σ deepest (knamesL xs)
      if (knamesL xs).isEmpty then none
      else if kshut σ R then
        let ys := closeL (kclosed σ deepest) xs
        chkO (noYL ys) (bindO (h l ys e) fun p => K { v := .cv (.bool p.1), frz := R } p.2)
      else none
  | .fn g caps =>
    let xs := args.map (RX.kv tm) ++ caps
    match cfg.ioF g with
    | some P => kcallIo cfg P g d σ xs fun out => K out e
    | none =>
    match xs with
    | [ex, .iface p (.ref nm 0)] => match cfg.asT g p, ex.cl, σ nm with
      | some (t, n), some err, some (.cells ty cs) => chkO (eqN cs.length n) (asP t err (fun x => chkO (okCells x n) (K { v := .lit true, upd := some (nm, .whole ty x) } e)) (K { v := .lit false } e))
      | _, _, _ => none
    | _ => match clL xs with
      | some vs => bindO (callO cfg.b (cfg.rsh g).1 (.fn g []) vs) fun r => let p := putR d (cfg.rsh g).1 0 r; K { v := p.1, new := p.2.1 } e
      | none =>
        let R := kreach σ deepest (knamesL xs)
        if (knamesL xs).isEmpty ∨ cfg.spF g = true then none
        else if kshut σ R then
          bindO (lendO cfg.b (cfg.rsh g).1 (cfg.rsh g).2 g (closeL (kclosed σ deepest) xs)) fun r => let p := putR d (cfg.rsh g).1 0 r; K { v := p.1, new := p.2.1, frz := if (cfg.rsh g).2 then [] else R } e
        else none
  | .cv v => match clL (args.map (RX.kv tm)) with
    | some vs => bindO (callO cfg.b (cfg.dsh d) v vs) fun r => let p := putR d (cfg.dsh d) 0 r; K { v := p.1, new := p.2.1 } e
    | none => none
  | _ => none

/-! ### Steps -/

def kfresh (o : ROper) (ks : KSt) : Bool :=
  if makes o.op then
    match o.dst with
    | some d => Nat.blt d ks.nt && (soGet ks.objs d).isEmpty
    | none => match o.op with
      | .call _ _ => true
      | _ => false
  else true

def kquiet : SpO → Bool
  | [] => true
  | (_, u) :: l => (u.all fun o => match o with | .cells _ cs => !khasYL cs | _ => true) && kquiet l

noncomputable def koutOf {E R : Type} (cfg : KCfg) (h : Handler E) (o : ROper) (ks : KSt) (e : E) (K : KOut → E → Option R) : Option R :=
  if kfresh o ks ∧ o.op.xs.all okX ∧ kquiet ks.objs then
    match o.op with
    | .call f args => kcall cfg h (o.dst.getD 0) (klook ks.objs) ks.tmps f args e fun out e => if (!out.io || o.dst.isSome || out.new.isEmpty || out.slot.isSome) = true then K out e else none
    | op => execK (o.dst.getD 0) (klook ks.objs) ks.tmps op fun out => K out e
  else none

/-- Is an operation wanted? -/
def kwants {R : Type} (ops : List ROper) (o : ROper) (ks : KSt) (K : Bool → KSt → Option R) : Option R :=
  match o.guard with
  | none => K true ks
  | some (j, want) =>
    match ops[j]? with
    | some p => match p.dst with
      | some d => match spGet ks.tmps d with
        | .lit b => K (b == want) ks
        | .sk => K false ks
        | .cv v => iteP v (K (true == want) { ks with tmps := spPut d (.lit true) ks.tmps }) (K (false == want) { ks with tmps := spPut d (.lit false) ks.tmps })
        | _ => none
      | none => none
    | none => none

noncomputable def kstep {E R : Type} (cfg : KCfg) (h : Handler E) (ops : List ROper) (o : ROper) (ks : KSt) (e : E) (K : KSt → E → Option R) : Option R :=
  kwants ops o ks fun b ks => match b with
    | true => koutOf cfg h o ks e fun out e => force (kapply ks o.dst out) fun ks => K ks e
    | false => force (kapply ks o.dst { v := .sk }) fun ks => K ks e

noncomputable def kruns {E R : Type} (cfg : KCfg) (h : Handler E) (ops : List ROper) : List ROper → KSt → E → (KSt → E → Option R) → Option R
  | [], ks, e, K => K ks e
  | o :: rest, ks, e, K => kstep cfg h ops o ks e fun ks e => kruns cfg h ops rest ks e K

def kstays (o : KOut) : Bool := o.upd.isNone && o.kill.isNone && o.frz.isEmpty && o.gone.isEmpty && o.ups.isEmpty && o.slot.isNone
def kturns (o : KOut) : Bool := o.kill.isNone && o.gone.isEmpty && o.ups.isEmpty && o.slot.isNone && !o.io

def kupdNames (o : KOut) : List Nm :=
  match o.upd with
  | some (nm, _) => [nm]
  | none => []

def kinfo (ops : List ROper) (i : Nat) (o : ROper) (ks : KSt) (out : KOut) : Info :=
  let vs := o.op.xs.map (RX.kv ks.tmps)
  { i, dst := o.dst, reads := slotsOf o.op.xs ++ guardSlot ops o, rn := if blind o.op && kstays out then [] else kreach (klook ks.objs) deepest (knamesL vs ++ out.frz),
    cls := if isCall o.op && khasYL vs then .other else if kstays out then .quiet else if kturns out then .turns else .other,
    on := out.v.names ++ out.new.flatMap KOb.names, tch := kupdNames out ++ out.frz, frz := !out.frz.isEmpty }

noncomputable def kstepD {E R : Type} (cfg : KCfg) (h : Handler E) (ops : List ROper) (i : Nat) (o : ROper) (ks : KSt) (e : E) (K : KSt → E → Info → Option R) : Option R :=
  kwants ops o ks fun b ks => match b with
    | true => koutOf cfg h o ks e fun out e => force (kapply ks o.dst out) fun k1 => K k1 e (kinfo ops i o ks out)
    | false => force (kapply ks o.dst { v := .sk }) fun k1 => K k1 e { i, cls := .quiet, dst := o.dst, reads := guardSlot ops o, rn := [] }

noncomputable def krunsD {E R : Type} (cfg : KCfg) (h : Handler E) (ops : List ROper) : List (Nat × Nat) → List Info → KSt → E → (KSt → E → Option R) → Option R
  | [], _, ks, e, K => K ks e
  | (i, bef) :: rest, infos, ks, e, K => match ops[i]? with
    | some o => kstepD cfg h ops i o ks e fun ks e info => if (infos.all fun j => bef.testBit j.i || indep j info) then krunsD cfg h ops rest (info :: infos) ks e K else none
    | none => none

/-! ### What is let go -/

def kclean (ds : List Nat) (ks : KSt) : KSt :=
  if ds.all fun d => (soGet ks.objs d).isEmpty then ks
  else
    let ks := koffSt (fun m => ds.contains m.1) ks
    { ks with objs := soKeep (fun i => !ds.contains i) ks.objs }

def kempty (ks : KSt) (t : Nat) : Bool := Nat.blt t ks.nt && (soGet ks.objs t).isEmpty

def krehomeTo (t : Nat) (ks : KSt) (nm : Nm) : KSt :=
    if nm ≠ (t, 0) ∧ kempty ks t = true then
      match klook ks.objs nm with
      | some ob =>
        let f : Nm → Nm := fun m => if m = nm then (t, 0) else m
        let objs := soMap (KOb.ren f) ks.objs
        { ks with tmps := spMap (KV.ren f) ks.tmps, objs := soPut t [ob.ren f] (kput objs nm kdead), keep := ks.keep.map (spMap (KV.ren f)) }
      | none => ks
    else ks

def krehome1 (t : Nat) (ks : KSt) : KSt :=
  match spGet ks.tmps t with
  | .arr nm _ _ _ => krehomeTo t ks nm
  | .wit nm => krehomeTo t ks nm
  | _ => ks

/-- A list that a cell holds is named behind the object that holds the cell. -/
def kgrown (nm : Nm) (ty : Nat) (cs : List KV) (i k : Nat) (ks : KSt) : KSt :=
  let l := soGet ks.objs nm.1
  { ks with objs := soPut nm.1 (l.set nm.2 (.cells ty (cs.set i (.arr (nm.1, l.length) k 0 0))) ++ [.arr k 0 []]) ks.objs }

def kgrowMove (nm m : Nm) (ks : KSt) : KSt :=
  let l := soGet ks.objs nm.1
  if m.1 ≠ nm.1 then
    match klook ks.objs m with
    | some ob =>
      let f : Nm → Nm := fun x => if x = m then (nm.1, l.length) else x
      let objs := kput (soMap (KOb.ren f) ks.objs) m kdead
      { ks with tmps := spMap (KV.ren f) ks.tmps, objs := soPut nm.1 (soGet objs nm.1 ++ [ob.ren f]) objs, keep := ks.keep.map (spMap (KV.ren f)) }
    | none => ks
  else ks

def kgrowCell {R : Type} (nm : Nm) (ty : Nat) (cs : List KV) (i k : Nat) (ks : KSt) (K : KSt → Option R) : Option R :=
  match cs[i]? with
  | some .nils => K (kgrown nm ty cs i k ks)
  | some (.cv v) => nilO v (K (kgrown nm ty cs i k ks))
  | some (.arr m _ _ _) => K (kgrowMove nm m ks)
  | some (.wit m) => K (kgrowMove nm m ks)
  | _ => K ks

def kgrowC {R : Type} (x off k : Nat) (ks : KSt) (K : KSt → Option R) : Option R :=
  match spGet ks.tmps x with
  | .ref nm o => match klook ks.objs nm with
    | some (.cells ty cs) => kgrowCell nm ty cs (o + off) k ks K
    | some (.whole _ v) => chkO (notNilAt v (o + off)) (K ks)
    | _ => K ks
  | _ => K ks

def kgrow1 {R : Type} (t k : Nat) (ks : KSt) (K : KSt → Option R) : Option R :=
  if gcBase ≤ t then kgrowC (t % gcBase) (t / gcBase - 1) k ks K
  else match spGet ks.tmps t with
  | .nils => K (if kempty ks t then { ks with tmps := spPut t (.arr (t, 0) k 0 0) ks.tmps, objs := soPut t [.arr k 0 []] ks.objs } else ks)
  | .cv v => notNil v (K ks)
  | _ => K ks

def kgrows {R : Type} : List (Nat × Nat) → KSt → (KSt → Option R) → Option R
  | [], ks, K => K ks
  | (t, k) :: l, ks, K => kgrow1 t k ks fun ks => kgrows l ks K

def kunnamed (ks : KSt) : List Nat :=
  let R := spNames ks.tmps ++ ks.keep.flatMap spNames ++ soNames ks.objs
  (ks.objs.filter fun p => !p.2.isEmpty && R.all fun nm => nm.1 != p.1).map (·.1)

def knorm {R : Type} (asg : List Nat) (grow : List (Nat × Nat)) (ks : KSt) (K : KSt → Option R) : Option R :=
  kgrows grow (asg.foldl (fun ks t => krehome1 t ks) ks) fun ks => K (kclean (kunnamed ks) ks)

/-- All but the slots that were known ahead of a loop is let go. -/
def kdrop (k0 : KSt) (ks : KSt) : KSt :=
  let ks := { ks with tmps := spKeep (spHas k0.tmps) ks.tmps }
  kclean (kunnamed ks) ks

def ktidy (live : Option (List Nat)) (ks : KSt) : KSt :=
  match live with
  | none => ks
  | some l =>
    let ks := { ks with tmps := spKeep (fun i => l.contains i) ks.tmps }
    kclean (kunnamed ks) ks

/-! ### Code -/

def pureOp : ROp → Bool
  | .mov _ | .pick _ _ _ | .build _ _ | .nilck _ | .bin _ _ _ _ _ | .un _ _ | .conv _ _ | .toBytes _ | .ofBytes _ | .ofRune _ | .strId _ | .mkI _ _ | .lookup _ _ _ _ _ | .slice _ _ _ _ _ | .strSlice _ _ _
  | .fieldAddr _ _ | .field _ _ _ _ | .idxAddr _ _ _ | .idxAddrA _ _ _ _ | .strIdx _ _ | .extract _ _ | .len _ _ | .minmax _ _ | .tassert _ _ _ _ | .load _ _ _ => true
  | _ => false

/-- A region of short circuits, of which but one value lives on. -/
def condSlot (ops : List ROper) (lv : Option (List Nat)) : Option Nat :=
  if (ops.any fun o => o.guard.isSome) && (ops.all fun o => pureOp o.op) then
    match lv with
    | some l => match l.filter fun t => (ops.filterMap (·.dst)).contains t with
      | [t] => some t
      | _ => none
    | none => none
  else none

def ksetPs : List Nat → List PV → Nat → Sp → Sp
  | p :: ps, vs, i, tm => ksetPs ps vs (i + 1) (spPut p (.cv (nth vs i)) tm)
  | [], _, _, tm => tm

def isNormal : Ex → Bool
  | .normal => true
  | _ => false
def exitOf : Ex → Option Ex
  | .normal => none
  | x => some x
def exitsOf : RCode → List Nat
  | .seq a b => exitsOf a ++ exitsOf b
  | .cond _ a b => exitsOf a ++ exitsOf b
  | .block id b => (exitsOf b).filter fun i => i != id
  | .loop _ _ b => exitsOf b
  | .rangeFunc _ _ _ b => exitsOf b
  | .scope b => exitsOf b
  | .exit id => [id]
  | _ => []
def konEx {R : Type} : List Nat → Option Ex → (Nat → Option R) → Option R
  | [], _, _ => none
  | id :: l, p, K => iteB (isExitE p id) (K id) (konEx l p K)

/-- What is left of a frame while a loop over a function runs. -/
abbrev KRec (E : Type) := List PV × Option Ex × E

/-- A round of a loop over a function, or of one of those about it. -/
def onRound {E : Type} (dep : Nat) (h : Handler E) (body : List PV → List PV → E → Option (Bool × KRec E)) : Handler (KRec E) := fun l args r =>
  if l = dep then
    match r with
    | (vs, none, e) => body vs args e
    | _ => none
  else
    match r with
    | (vs, p, e) => match h l args e with
      | some (b, e) => some (b, (vs, p, e))
      | none => none

/-- Behind a loop's round. -/
def onLoop {E R : Type} (asg : List Nat) (grow : List (Nat × Nat)) (k0 : KSt) (K : Ex → KSt → E → Option R) (x : Ex) (ks : KSt) (e : E) : Option (Sum (List PV × E) R) :=
  match x with
  | .normal => knorm asg grow (kdrop k0 ks) fun k1 => force k1 fun k1 => if fitSt k0 k1 then some (.inl (leavesSt k0 k1, e)) else none
  | x => bindO (K x ks e) fun r => some (.inr r)

noncomputable def evalK (cfg : KCfg) : RCode → {E R : Type} → Handler E → Nat → KSt → E → (Ex → KSt → E → Option R) → Option R
  | .skip, _, _, _, _, ks, e, K => K .normal ks e
  | .region ops none lv, E, _, h, _, ks, e, K =>
    force (kclean (dsts ops) ks) fun ks =>
    match condSlot ops lv with
    | some t => bindO (kruns (E := E) cfg h ops ops ks e fun ks _ => (spGet ks.tmps t).cl) fun z => force (ktidy lv { ks with tmps := spPut t (.cv z) ks.tmps }) fun ks => K .normal ks e
    | none => kruns cfg h ops ops ks e fun ks e => force (ktidy lv ks) fun ks => K .normal ks e
  | .region ops (some bef) lv, _, _, h, _, ks, e, K => force (kclean (dsts ops) ks) fun ks => krunsD cfg h ops bef [] ks e fun ks e => force (ktidy lv ks) fun ks => K .normal ks e
  | .seq a b, _, _, h, dep, ks, e, K => evalK cfg a h dep ks e fun x ks e => match x with
    | .normal => evalK cfg b h dep ks e K
    | x => K x ks e
  | .cond c a b, _, _, h, dep, ks, e, K => match c.kv ks.tmps with
    | .lit true => evalK cfg a h dep ks e K
    | .lit false => evalK cfg b h dep ks e K
    | .cv v => iteP v (evalK cfg a h dep ks e K) (evalK cfg b h dep ks e K)
    | _ => none
  | .block id body, _, _, h, dep, ks, e, K => evalK cfg body h dep ks e fun x ks e => match x with
    | .exit id' => if id' = id then K .normal ks e else K (.exit id') ks e
    | x => K x ks e
  | .loop asg grow body, E, R, h, dep, ks, e, K => knorm asg grow ks fun k0 => force k0 fun k0 => chkO (noUndef (leavesSp k0.tmps k0.tmps)) <| if fitSt k0 k0 = false then none else
    loopL (σ := List PV × E) (ρ := R) (fun s => force (fillSt k0 s.1) fun ks => evalK cfg body h dep ks s.2 (onLoop asg grow k0 K)) (leavesSt k0 k0, e)
  | .rangeFunc f ps assign body, E, R, h, dep, ks, e, K =>
    match (f.kv ks.tmps).cl with
    | some fv => if (ps.all fun p => Nat.blt p ks.nt) && fitSt ks ks && okX f then bindO (rangeO (E := KRec E) cfg.b (onRound dep h fun vs args e =>
        chkO (okArgs args ps.length) (
          force (fillSt ks vs) fun k0 =>
          force { k0 with tmps := ksetPs ps args 0 k0.tmps, keep := k0.tmps :: k0.keep } fun k1 =>
          evalK cfg assign (R := Bool × KRec E) h (dep + 1) k1 e fun x k1 e => match x with
            | .normal => evalK cfg body h (dep + 1) k1 e fun x k2 e =>
              match k2.keep with
              | [] => none
              | sp :: kp =>
                force { k2 with tmps := sp, keep := kp } fun k3 =>
                if fitSt ks k3 then some (isNormal x, (leavesSt ks k3, exitOf x, e)) else none
            | _ => none)) dep fv (leavesSt ks ks, none, e)) fun r => force (fillSt ks r.1) fun k1 =>
        iteB (isNoneE r.2.1) (K .normal k1 r.2.2) (iteB (isRetE r.2.1) (K .ret k1 r.2.2)
          (konEx (exitsOf body) r.2.1 fun id => K (.exit id) k1 r.2.2)) else none
    | none => none
  | .exit id, _, _, _, _, ks, e, K => K (.exit id) ks e
  | .scope b, _, _, h, dep, ks, e, K => evalK cfg b h dep ks e fun x ks e => match x with
    | .exit id => if id < gbase then K (.exit id) ks e else none
    | x => K x ks e
  | .ret, _, _, _, _, ks, e, K => K .ret ks e
  | .norm grow, _, _, _, _, ks, e, K => knorm [] grow ks fun k0 => force k0 fun k0 => K .normal k0 e
  | .bad, _, _, _, _, _, _, _ => none

/-! ### Functions -/

def kresV {R : Type} (ks : KSt) (r : RRes) (K : KV → Option R) : Option R :=
  match r with
  | .tmp t => K (spGet ks.tmps t)
  | .cell t n ag => match spGet ks.tmps t with
    | .ref nm o => match klook ks.objs nm with
      | some (.cells _ cs) => if ag then (if o + n ≤ cs.length then K (.agg ((cs.drop o).take n)) else none) else (match cs[o]? with | some c => K c | none => none)
      | some (.whole _ v) => bindO (selO v o n ag) fun z => K (.cv z)
      | _ => none
    | _ => none

def kresVs {R : Type} (ks : KSt) : List RRes → (List KV → Option R) → Option R
  | [], K => K []
  | r :: rs, K => kresV ks r fun v => kresVs ks rs fun vs => K (v :: vs)

def koneOf : List KV → KV
  | [v] => v
  | vs => .tup vs

def isZero : Nat → Bool
  | 0 => true
  | _ => false

def ktops : KV → List Nm
  | .arr nm _ o _ => if isZero o then [nm] else []
  | .wit nm => [nm]
  | .agg cs => cs.flatMap fun | .arr nm _ o _ => if isZero o then [nm] else [] | .wit nm => [nm] | _ => []
  | .tup xs => xs.flatMap fun | .arr nm _ o _ => if isZero o then [nm] else [] | .wit nm => [nm] | .agg cs => cs.flatMap (fun | .arr nm _ o _ => if isZero o then [nm] else [] | .wit nm => [nm] | _ => []) | _ => []
  | _ => []

mutual
def ownN : RSh → KV → List Nm
  | .own _, x => match x with | .arr nm _ _ _ => [nm] | _ => []
  | .tup l, x => match x with | .tup xs => ownNL l xs | _ => []
  | .agg l, x => match x with | .agg xs => ownNL l xs | _ => []
  | .cl, _ => []
def ownNL : List RSh → List KV → List Nm
  | s :: l, x :: xs => ownN s x ++ ownNL l xs
  | _, _ => []
end

mutual
/-- What a result is, as a call tells it. -/
def khand {R : Type} (σ : Nm → Option KOb) (S : List Nm) : RSh → KV → (PV → Option R) → Option R
  | .cl, x, K => match x.cl with
    | some u => K u
    | none => match x with
      | .tup xs => match clL xs with
        | some us => K (.tup us)
        | none => if x.names.all fun nm => !S.contains nm then chkO (okU (x.close (kclosed σ deepest))) (K (x.close (kclosed σ deepest))) else none
      | _ => if x.names.all fun nm => !S.contains nm then chkO (okU (x.close (kclosed σ deepest))) (K (x.close (kclosed σ deepest))) else none
  | .own k, x, K => match x with
    | .arr nm k' o n => match σ nm with
      | some (.arr k'' kt xs) => if k = k' ∧ k = k'' ∧ isZero o = true then chkO (eqN n (lenL xs)) (K (.sl k xs false)) else none
      | _ => none
    | _ => none
  | .tup l, x, K => match x with
    | .tup xs => khandL σ S l xs fun us => K (.tup us)
    | _ => none
  | .agg l, x, K => match x with
    | .agg xs => khandL σ S l xs fun us => K (.agg us)
    | _ => none
def khandL {R : Type} (σ : Nm → Option KOb) (S : List Nm) : List RSh → List KV → (List PV → Option R) → Option R
  | [], [], K => K []
  | s :: l, x :: xs, K => khand σ S s x fun u => khandL σ S l xs fun us => K (u :: us)
  | _, _, _ => none
end

def ktopsOf (shut : Bool) (v : KV) : List Nm :=
  match shut with
  | true => []
  | false => ktops v

def khandOver {R : Type} (ks : KSt) (shut : Bool) (sh : RSh) (v : KV) (K : PV → Option R) : Option R :=
  let σ := klook ks.objs
  let S := ktopsOf shut v
  let R := kreach σ deepest (v.names.filter fun nm => !S.contains nm)
  if S = ownN sh v ∧ nodupN S = true ∧ (S.all (fun nm => !R.contains nm)) = true ∧ kshut σ R = true then khand σ S sh v K else none

noncomputable def runK (cfg : KCfg) (fn : RFn) (sh : RSh) {E : Type} (h : Handler E) (dep : Nat) (args : List KV) (e : E) : Option (PV × E) :=
  force { nt := fn.nt, tmps := args.zipIdx.map fun p => (p.2, p.1), objs := [], keep := [] } fun ks => evalK cfg fn.code h dep ks e fun x ks e => match x with
    | .exit _ => none
    | _ => kresVs ks fn.res fun vs => khandOver ks fn.shut sh (koneOf vs) fun v => some (v, e)


/-! ### Functions that turn what they are handed by name -/

def kwitNm : KV → Option Nm
  | .wit nm => some nm
  | .arr nm k o n => if k = 1 ∧ o = 0 ∧ n = 0 then some nm else none
  | _ => none

def kioOb (σ : Nm → Option KOb) (B : List (Nm × Nm)) (nm : Nm) : KOb :=
  (((σ nm).getD kdead).off fun m => !(B.map (·.1)).contains m).ren fun m => (B.lookup m).getD m

def kioNews (σ : Nm → Option KOb) (A : List (Nm × Nm)) (v : KV) : List Nm :=
  dedupN ((kreach σ deepest (v.names ++ A.flatMap fun p => ((σ p.1).map KOb.names).getD [])).filter fun m => !(A.map (·.1)).contains m)

def kioPairs (k : Nat) (sp : Sp) : List (Nm × Nm) := (canonR k).zipIdx.map fun p => ((kwitNm (spGet sp p.2)).getD (0, p.2), p.1)
def kioGone (k : Nat) (sp : Sp) : List Nm := ((canonR k).zipIdx.filter fun p => (kwitNm (spGet sp p.2)).isNone).map (·.1)

/-- As 'leavesOb'; of an object that is known as a whole: its cells. -/
def leavesObN (p x : KOb) : List PV :=
  match x with
  | .whole _ v => [.agg (cellsP v)]
  | x => leavesOb p x
def leavesObNL : List KOb → List KOb → List PV
  | x :: xs, y :: ys => leavesObN x y ++ leavesObNL xs ys
  | _, _ => []

def kioEnd (P : IoSh) (ks : KSt) (v : KV) : Option (List PV) :=
  match ks.keep with
  | [sp] =>
    let A := kioPairs P.ins.length sp
    let N := kioNews (klook ks.objs) A v
    let B := A ++ N.zipIdx.map fun p => (p.1, (1, 0 + p.2))
    let u := (v.off fun m => !(B.map (·.1)).contains m).ren fun m => (B.lookup m).getD m
    let os := A.map fun p => kioOb (klook ks.objs) B p.1
    let ns := N.map (kioOb (klook ks.objs) B)
    if nodupN (B.map (·.1)) = true ∧ kioGone P.ins.length sp = P.gone.map (fun j => (0, j)) ∧ (fitV P.res u && (fitObL P.outs os && fitObL P.news ns)) = true then
      some (leaves P.res u ++ (leavesObNL P.outs os ++ leavesObNL P.news ns))
    else none
  | _ => none

noncomputable def runIoK (cfg : KCfg) (fn : RFn) (P : IoSh) (vs : List PV) : Option (List PV) :=
  let a := fillL P.args vs 0
  let b := fillObL P.ins vs a.2
  force { nt := fn.nt, tmps := a.1.zipIdx.map fun p => (p.2, p.1), objs := [(0, b.1)], keep := [(List.range P.ins.length).map fun j => (j, .wit (0, j))] } fun ks => evalK (E := Unit) cfg fn.code noHandler 0 ks () fun x ks _ => match x with
    | .exit _ => none
    | _ => kresVs ks fn.res fun vs => kioEnd P ks (koneOf vs)

end Go.Ab

/-
  'KV' stands for values: names, what is let go, what is read, as the values'.
-/
namespace Go.Ab

theorem okVL_iff {xs : List PV} : okVL xs = true ↔ ∀ x ∈ xs, okV x = true := by
  induction xs with
  | nil => simp [okVL]
  | cons x xs ih => simp [okVL, ih]

mutual
theorem okV_iff : ∀ {v : PV}, okV v = true → v.names = [] ∧ v.hasY = false
  | .undef, _ | .bool _, _ | .int _ _, _ | .str _, _ | .nilS, _ | .nilP, _ | .nilF, _ | .nilI, _ | .nilM, _ | .glob _ _, _ => by simp [PV.names, PV.hasY]
  | .sl _ xs _, h => by simp only [okV] at h; simp [PV.names, PV.hasY, (okVL_names h).2]
  | .ptr cs _, h => by simp only [okV] at h; simp [PV.names, PV.hasY, (okVL_names h).2]
  | .imap es, h => by simp only [okV] at h; simp [PV.names, PV.hasY, (okVL_names h).2]
  | .agg cs, h => by simp only [okV] at h; simp [PV.names, PV.hasY, okVL_names h]
  | .fn _ cap, h => by simp only [okV] at h; simp [PV.names, PV.hasY, okVL_names h]
  | .tup xs, h => by simp only [okV] at h; simp [PV.names, PV.hasY, okVL_names h]
  | .iface _ x, h => by simp only [okV] at h; simp [PV.names, PV.hasY, okV_iff h]
  | .yld _, h | .ref _ _, h | .aref _ _ _ _, h | .arr _ _ _ _, h | .mp _, h | .it _, h => by simp [okV] at h
theorem okVL_names : ∀ {xs : List PV}, okVL xs = true → namesL xs = [] ∧ hasYL xs = false
  | [], _ => by simp [namesL, hasYL]
  | x :: xs, h => by
    simp only [okVL, Bool.and_eq_true] at h
    simp [namesL, hasYL, okV_iff h.1, okVL_names h.2]
end

theorem sub_none {v : PV} (h : v.names = []) (f : Nm → Option (Option Ob)) : v.sub f = v := by
  rw [PV.sub_congr (g := fun _ => none) v (by rw [h]; simp)]
  exact sub_id v
where
  sub_id : ∀ (x : PV), x.sub (fun _ => none) = x
    | .undef | .bool _ | .int _ _ | .str _ | .nilS | .nilP | .nilF | .nilI | .nilM | .sl _ _ _ | .ptr _ _ | .yld _ | .imap _ | .glob _ _ | .ref _ _ | .aref _ _ _ _ | .arr _ _ _ _ | .mp _ | .it _ => by simp [PV.sub]
    | .agg cs => by simp [PV.sub, subL_id cs]
    | .iface t x => by simp [PV.sub, sub_id x]
    | .fn g cap => by simp [PV.sub, subL_id cap]
    | .tup xs => by simp [PV.sub, subL_id xs]
  subL_id : ∀ (xs : List PV), subL (fun _ => none) xs = xs
    | [] => rfl
    | x :: xs => by simp [subL, sub_id x, subL_id xs]

mutual
theorem ren_none : ∀ {v : PV}, v.names = [] → ∀ (f : Nm → Nm), v.ren f = v
  | .undef, _, _ | .bool _, _, _ | .int _ _, _, _ | .str _, _, _ | .nilS, _, _ | .nilP, _, _ | .nilF, _, _ | .nilI, _, _ | .nilM, _, _ | .sl _ _ _, _, _ | .ptr _ _, _, _ | .yld _, _, _ | .imap _, _, _ | .glob _ _, _, _ => by simp [PV.ren]
  | .agg cs, h, f => by simp [PV.names] at h; simp [PV.ren, renL_none h f]
  | .iface t x, h, f => by simp [PV.names] at h; simp [PV.ren, ren_none h f]
  | .fn g cap, h, f => by simp [PV.names] at h; simp [PV.ren, renL_none h f]
  | .tup xs, h, f => by simp [PV.names] at h; simp [PV.ren, renL_none h f]
  | .ref _ _, h, _ | .aref _ _ _ _, h, _ | .arr _ _ _ _, h, _ | .mp _, h, _ | .it _, h, _ => by simp [PV.names] at h
theorem renL_none : ∀ {xs : List PV}, namesL xs = [] → ∀ (f : Nm → Nm), renL f xs = xs
  | [], _, _ => rfl
  | x :: xs, h, f => by simp [namesL] at h; simp [renL, ren_none h.1 f, renL_none h.2 f]
end

/-! ### Values -/

mutual
def KV.ok : KV → Prop
  | .cv v => okV v = true
  | .agg cs => okKL cs
  | .iface _ x => x.ok
  | .fn _ cap => okKL cap
  | .tup xs => okKL xs
  | .un | .sk | .lit _ | .nils | .yld _ | .ref _ _ | .aref _ _ _ _ | .arr _ _ _ _ | .mp _ | .it _ | .wit _ => True
def okKL : List KV → Prop
  | [] => True
  | x :: xs => x.ok ∧ okKL xs
end

theorem okKL_mem {xs : List KV} : okKL xs ↔ ∀ x ∈ xs, x.ok := by
  induction xs with
  | nil => simp [okKL]
  | cons x xs ih => simp [okKL, ih]

theorem pvL_map (xs : List KV) : pvL xs = xs.map KV.pv := by
  induction xs with
  | nil => rfl
  | cons x xs ih => simp [pvL, ih]

mutual
theorem KV.pv_names : ∀ {x : KV}, x.ok → x.pv.names = x.names
  | .un, _ | .sk, _ | .lit _, _ | .nils, _ | .yld _, _ | .ref _ _, _ | .aref _ _ _ _, _ | .arr _ _ _ _, _ | .mp _, _ | .it _, _ | .wit _, _ => by simp [KV.pv, PV.names, KV.names, namesL]
  | .cv v, h => by simp [KV.pv, KV.names, (okV_iff h).1]
  | .agg cs, h => by simp [KV.pv, PV.names, KV.names, pvL_names h]
  | .iface t x, h => by simp [KV.pv, PV.names, KV.names, KV.pv_names (x := x) h]
  | .fn f cap, h => by simp [KV.pv, PV.names, KV.names, pvL_names h]
  | .tup xs, h => by simp [KV.pv, PV.names, KV.names, pvL_names h]
theorem pvL_names : ∀ {xs : List KV}, okKL xs → namesL (pvL xs) = knamesL xs
  | [], _ => rfl
  | x :: xs, h => by simp [pvL, namesL, knamesL, KV.pv_names h.1, pvL_names h.2]
end

mutual
theorem KV.pv_hasY : ∀ {x : KV}, x.ok → x.pv.hasY = x.hasY
  | .un, _ | .sk, _ | .lit _, _ | .nils, _ | .yld _, _ | .ref _ _, _ | .aref _ _ _ _, _ | .arr _ _ _ _, _ | .mp _, _ | .it _, _ | .wit _, _ => by simp [KV.pv, PV.hasY, KV.hasY, hasYL]
  | .cv v, h => by simp [KV.pv, KV.hasY, (okV_iff h).2]
  | .agg cs, h => by simp [KV.pv, PV.hasY, KV.hasY, pvL_hasY h]
  | .iface t x, h => by simp [KV.pv, PV.hasY, KV.hasY, KV.pv_hasY (x := x) h]
  | .fn f cap, h => by simp [KV.pv, PV.hasY, KV.hasY, pvL_hasY h]
  | .tup xs, h => by simp [KV.pv, PV.hasY, KV.hasY, pvL_hasY h]
theorem pvL_hasY : ∀ {xs : List KV}, okKL xs → hasYL (pvL xs) = khasYL xs
  | [], _ => rfl
  | x :: xs, h => by simp [pvL, hasYL, khasYL, KV.pv_hasY h.1, pvL_hasY h.2]
end

mutual
theorem KV.cl_pv : ∀ {x : KV} {v : PV}, x.cl = some v → x.pv = v
  | .lit b, v, h => by simp [KV.cl] at h; simp [KV.pv, h]
  | .nils, v, h => by simp [KV.cl] at h; simp [KV.pv, h]
  | .cv u, v, h => by simp [KV.cl] at h; simp [KV.pv, h]
  | .agg cs, v, h => by
    simp only [KV.cl, Option.map_eq_some_iff] at h
    obtain ⟨vs, hv, rfl⟩ := h
    simp [KV.pv, clL_pv hv]
  | .iface t x, v, h => by
    simp only [KV.cl, Option.map_eq_some_iff] at h
    obtain ⟨u, hv, rfl⟩ := h
    simp [KV.pv, KV.cl_pv hv]
  | .fn f cap, v, h => by
    simp only [KV.cl, Option.map_eq_some_iff] at h
    obtain ⟨vs, hv, rfl⟩ := h
    simp [KV.pv, clL_pv hv]
  | .un, v, h | .sk, v, h | .yld _, v, h | .ref _ _, v, h | .aref _ _ _ _, v, h | .arr _ _ _ _, v, h | .mp _, v, h | .it _, v, h | .wit _, v, h | .tup _, v, h => by simp [KV.cl] at h
theorem clL_pv : ∀ {xs : List KV} {vs : List PV}, clL xs = some vs → pvL xs = vs
  | [], vs, h => by simp [clL] at h; simp [pvL, h]
  | x :: xs, vs, h => by
    simp only [clL] at h
    split at h
    · rename_i v us h1 h2
      cases h
      simp [pvL, KV.cl_pv h1, clL_pv h2]
    · cases h
end

mutual
theorem KV.cl_names : ∀ {x : KV} {v : PV}, x.cl = some v → x.names = [] ∧ x.hasY = false
  | .lit b, v, h | .nils, v, h | .cv u, v, h => by simp [KV.names, KV.hasY]
  | .agg cs, v, h => by
    simp only [KV.cl, Option.map_eq_some_iff] at h
    obtain ⟨vs, hv, rfl⟩ := h
    simpa [KV.names, KV.hasY] using clL_names hv
  | .iface t x, v, h => by
    simp only [KV.cl, Option.map_eq_some_iff] at h
    obtain ⟨u, hv, rfl⟩ := h
    simpa [KV.names, KV.hasY] using KV.cl_names hv
  | .fn f cap, v, h => by
    simp only [KV.cl, Option.map_eq_some_iff] at h
    obtain ⟨vs, hv, rfl⟩ := h
    simpa [KV.names, KV.hasY] using clL_names hv
  | .un, v, h | .sk, v, h | .yld _, v, h | .ref _ _, v, h | .aref _ _ _ _, v, h | .arr _ _ _ _, v, h | .mp _, v, h | .it _, v, h | .wit _, v, h | .tup _, v, h => by simp [KV.cl] at h
theorem clL_names : ∀ {xs : List KV} {vs : List PV}, clL xs = some vs → knamesL xs = [] ∧ khasYL xs = false
  | [], vs, h => by simp [knamesL, khasYL]
  | x :: xs, vs, h => by
    simp only [clL] at h
    split at h
    · rename_i v us h1 h2
      have := KV.cl_names h1
      have := clL_names h2
      simp [knamesL, khasYL, *]
    · cases h
end

mutual
theorem KV.cl_ok : ∀ {x : KV} {v : PV}, x.ok → x.cl = some v → okV v = true
  | .lit b, v, _, h => by simp [KV.cl] at h; subst h; rfl
  | .nils, v, _, h => by simp [KV.cl] at h; subst h; rfl
  | .cv u, v, hx, h => by simp [KV.cl] at h; subst h; exact hx
  | .agg cs, v, hx, h => by
    simp only [KV.cl, Option.map_eq_some_iff] at h
    obtain ⟨vs, hv, rfl⟩ := h
    simpa [okV] using clL_ok (xs := cs) hx hv
  | .iface t x, v, hx, h => by
    simp only [KV.cl, Option.map_eq_some_iff] at h
    obtain ⟨u, hv, rfl⟩ := h
    simpa [okV] using KV.cl_ok (x := x) hx hv
  | .fn f cap, v, hx, h => by
    simp only [KV.cl, Option.map_eq_some_iff] at h
    obtain ⟨vs, hv, rfl⟩ := h
    simpa [okV] using clL_ok (xs := cap) hx hv
  | .un, v, _, h | .sk, v, _, h | .yld _, v, _, h | .ref _ _, v, _, h | .aref _ _ _ _, v, _, h | .arr _ _ _ _, v, _, h | .mp _, v, _, h | .it _, v, _, h | .wit _, v, _, h | .tup _, v, _, h => by simp [KV.cl] at h
theorem clL_ok : ∀ {xs : List KV} {vs : List PV}, okKL xs → clL xs = some vs → okVL vs = true
  | [], vs, _, h => by simp [clL] at h; subst h; rfl
  | x :: xs, vs, hx, h => by
    simp only [clL] at h
    split at h
    · rename_i v us h1 h2
      cases h
      simp [okVL, KV.cl_ok hx.1 h1, clL_ok hx.2 h2]
    · cases h
end

/-! ### Let go, renamed, read -/

def subOff (p : Nm → Bool) : Nm → Option (Option Ob) := fun m => if p m = true then some none else none

mutual
theorem KV.off_pv (p : Nm → Bool) : ∀ {x : KV}, x.ok → (x.off p).pv = x.pv.sub (subOff p)
  | .un, _ | .sk, _ | .lit _, _ | .nils, _ | .yld _, _ => by simp [KV.off, KV.pv, PV.sub, subL]
  | .cv v, h => by simp [KV.off, KV.pv, sub_none (okV_iff h).1]
  | .ref nm _, _ | .aref nm _ _ _, _ | .arr nm _ _ _, _ | .mp nm, _ | .it nm, _ | .wit nm, _ => by
    simp only [KV.off, KV.pv, PV.sub, subOff]
    cases hp : p nm <;> simp [KV.pv]
  | .agg cs, h => by simp [KV.off, KV.pv, PV.sub, offL_pv p h]
  | .iface t x, h => by simp [KV.off, KV.pv, PV.sub, KV.off_pv p (x := x) h]
  | .fn f cap, h => by simp [KV.off, KV.pv, PV.sub, offL_pv p h]
  | .tup xs, h => by simp [KV.off, KV.pv, PV.sub, offL_pv p h]
theorem offL_pv (p : Nm → Bool) : ∀ {xs : List KV}, okKL xs → pvL (offL p xs) = subL (subOff p) (pvL xs)
  | [], _ => rfl
  | x :: xs, h => by simp [offL, pvL, subL, KV.off_pv p h.1, offL_pv p h.2]
end

mutual
theorem KV.off_ok (p : Nm → Bool) : ∀ {x : KV}, x.ok → (x.off p).ok
  | .un, _ | .sk, _ | .lit _, _ | .nils, _ | .yld _, _ => by simp [KV.off, KV.ok]
  | .cv v, h => by simpa [KV.off, KV.ok] using h
  | .ref nm _, _ | .aref nm _ _ _, _ | .arr nm _ _ _, _ | .mp nm, _ | .it nm, _ | .wit nm, _ => by
    simp only [KV.off]
    cases hp : p nm <;> simp [KV.ok]
  | .agg cs, h => by simpa [KV.off, KV.ok] using offL_ok p h
  | .iface t x, h => by simpa [KV.off, KV.ok] using KV.off_ok p (x := x) h
  | .fn f cap, h => by simpa [KV.off, KV.ok] using offL_ok p h
  | .tup xs, h => by simpa [KV.off, KV.ok] using offL_ok p h
theorem offL_ok (p : Nm → Bool) : ∀ {xs : List KV}, okKL xs → okKL (offL p xs)
  | [], _ => trivial
  | x :: xs, h => ⟨KV.off_ok p h.1, offL_ok p h.2⟩
end

mutual
theorem KV.ren_pv (f : Nm → Nm) : ∀ {x : KV}, x.ok → (x.ren f).pv = x.pv.ren f
  | .un, _ | .sk, _ | .lit _, _ | .nils, _ | .yld _, _ | .ref _ _, _ | .aref _ _ _ _, _ | .arr _ _ _ _, _ | .mp _, _ | .it _, _ | .wit _, _ => by simp [KV.ren, KV.pv, PV.ren, renL]
  | .cv v, h => by simp [KV.ren, KV.pv, ren_none (okV_iff h).1]
  | .agg cs, h => by simp [KV.ren, KV.pv, PV.ren, renL_pv f h]
  | .iface t x, h => by simp [KV.ren, KV.pv, PV.ren, KV.ren_pv f (x := x) h]
  | .fn g cap, h => by simp [KV.ren, KV.pv, PV.ren, renL_pv f h]
  | .tup xs, h => by simp [KV.ren, KV.pv, PV.ren, renL_pv f h]
theorem renL_pv (f : Nm → Nm) : ∀ {xs : List KV}, okKL xs → pvL (krenL f xs) = renL f (pvL xs)
  | [], _ => rfl
  | x :: xs, h => by simp [krenL, pvL, renL, KV.ren_pv f h.1, renL_pv f h.2]
end

mutual
theorem KV.ren_ok (f : Nm → Nm) : ∀ {x : KV}, x.ok → (x.ren f).ok
  | .un, _ | .sk, _ | .lit _, _ | .nils, _ | .yld _, _ | .ref _ _, _ | .aref _ _ _ _, _ | .arr _ _ _ _, _ | .mp _, _ | .it _, _ | .wit _, _ => by simp [KV.ren, KV.ok]
  | .cv v, h => by simpa [KV.ren, KV.ok] using h
  | .agg cs, h => by simpa [KV.ren, KV.ok] using krenL_ok f h
  | .iface t x, h => by simpa [KV.ren, KV.ok] using KV.ren_ok f (x := x) h
  | .fn g cap, h => by simpa [KV.ren, KV.ok] using krenL_ok f h
  | .tup xs, h => by simpa [KV.ren, KV.ok] using krenL_ok f h
theorem krenL_ok (f : Nm → Nm) : ∀ {xs : List KV}, okKL xs → okKL (krenL f xs)
  | [], _ => trivial
  | x :: xs, h => ⟨KV.ren_ok f h.1, krenL_ok f h.2⟩
end

/-- What names are read as. -/
def subCl (g : Nm → Option Ob) : Nm → Option (Option Ob) := fun m => some (g m)

mutual
theorem KV.close_pv (g : Nm → Option Ob) : ∀ {x : KV}, x.ok → x.close g = x.pv.sub (subCl g)
  | .un, _ | .sk, _ | .lit _, _ | .nils, _ | .yld _, _ => by simp [KV.close, KV.pv, PV.sub, subL]
  | .cv v, h => by simp [KV.close, KV.pv, sub_none (okV_iff h).1]
  | .ref nm o, _ => by
    simp only [KV.close, KV.pv, PV.sub, subCl]
    cases g nm with
    | none => rfl
    | some ob => cases ob <;> simp [ptrO]
  | .aref nm k i o, _ => by
    simp only [KV.close, KV.pv, PV.sub, subCl]
    cases g nm with
    | none => rfl
    | some ob =>
      cases ob with
      | arr k' kt xs =>
        simp only [arefO]
        by_cases hk : k = k'
        · simp only [hk, if_true]; cases xs[i]? <;> rfl
        · simp [hk]
      | _ => rfl
  | .arr nm k o n, _ => by
    simp only [KV.close, KV.pv, PV.sub, subCl]
    cases g nm with
    | none => rfl
    | some ob => cases ob <;> simp [slO]
  | .mp nm, _ => by
    simp only [KV.close, KV.pv, PV.sub, subCl]
    cases g nm with
    | none => rfl
    | some ob => cases ob <;> rfl
  | .it nm, _ => by simp [KV.close, KV.pv, PV.sub, subCl]
  | .wit nm, _ => by
    simp only [KV.close, KV.pv, PV.sub, subCl]
    cases g nm with
    | none => rfl
    | some ob => cases ob <;> simp [slO]
  | .agg cs, h => by simp [KV.close, KV.pv, PV.sub, closeL_pv g h]
  | .iface t x, h => by simp [KV.close, KV.pv, PV.sub, KV.close_pv g (x := x) h]
  | .fn f cap, h => by simp [KV.close, KV.pv, PV.sub, closeL_pv g h]
  | .tup xs, h => by simp [KV.close, KV.pv, PV.sub, closeL_pv g h]
theorem closeL_pv (g : Nm → Option Ob) : ∀ {xs : List KV}, okKL xs → closeL g xs = subL (subCl g) (pvL xs)
  | [], _ => rfl
  | x :: xs, h => by simp [closeL, pvL, subL, KV.close_pv g h.1, closeL_pv g h.2]
end

def subFrz (p : Nm → Bool) (g : Nm → Option Ob) : Nm → Option (Option Ob) := fun m => if p m = true then some (g m) else none

mutual
theorem KV.frz_pv (p : Nm → Bool) (g : Nm → Option Ob) : ∀ {x : KV}, x.ok → (x.frz p g).pv = x.pv.sub (subFrz p g)
  | .un, _ | .sk, _ | .lit _, _ | .nils, _ | .yld _, _ => by simp [KV.frz, KV.pv, PV.sub, subL]
  | .cv v, h => by simp [KV.frz, KV.pv, sub_none (okV_iff h).1]
  | .ref nm o, _ => by
    cases hp : p nm with
    | false => simp [KV.frz, hp, KV.pv, PV.sub, subFrz]
    | true =>
      have := KV.close_pv g (x := .ref nm o) trivial
      simp only [KV.frz, hp, if_true, KV.pv]; rw [this]; simp [KV.pv, PV.sub, subFrz, subCl, hp]
  | .aref nm k i o, _ => by
    cases hp : p nm with
    | false => simp [KV.frz, hp, KV.pv, PV.sub, subFrz]
    | true =>
      have := KV.close_pv g (x := .aref nm k i o) trivial
      simp only [KV.frz, hp, if_true, KV.pv]; rw [this]; simp [KV.pv, PV.sub, subFrz, subCl, hp]
  | .arr nm k o n, _ => by
    cases hp : p nm with
    | false => simp [KV.frz, hp, KV.pv, PV.sub, subFrz]
    | true =>
      have := KV.close_pv g (x := .arr nm k o n) trivial
      simp only [KV.frz, hp, if_true, KV.pv]; rw [this]; simp [KV.pv, PV.sub, subFrz, subCl, hp]
  | .mp nm, _ => by
    cases hp : p nm with
    | false => simp [KV.frz, hp, KV.pv, PV.sub, subFrz]
    | true =>
      have := KV.close_pv g (x := .mp nm) trivial
      simp only [KV.frz, hp, if_true, KV.pv]; rw [this]; simp [KV.pv, PV.sub, subFrz, subCl, hp]
  | .it nm, _ => by
    cases hp : p nm with
    | false => simp [KV.frz, hp, KV.pv, PV.sub, subFrz]
    | true => simp [KV.frz, hp, KV.pv, PV.sub, subFrz]
  | .wit nm, _ => by
    cases hp : p nm with
    | false => simp [KV.frz, hp, KV.pv, PV.sub, subFrz]
    | true =>
      have := KV.close_pv g (x := .wit nm) trivial
      simp only [KV.frz, hp, if_true, KV.pv]; rw [this]; simp [KV.pv, PV.sub, subFrz, subCl, hp]
  | .agg cs, h => by simp [KV.frz, KV.pv, PV.sub, frzL_pv p g h]
  | .iface t x, h => by simp [KV.frz, KV.pv, PV.sub, KV.frz_pv p g (x := x) h]
  | .fn f cap, h => by simp [KV.frz, KV.pv, PV.sub, frzL_pv p g h]
  | .tup xs, h => by simp [KV.frz, KV.pv, PV.sub, frzL_pv p g h]
theorem frzL_pv (p : Nm → Bool) (g : Nm → Option Ob) : ∀ {xs : List KV}, okKL xs → pvL (frzL p g xs) = subL (subFrz p g) (pvL xs)
  | [], _ => rfl
  | x :: xs, h => by simp [frzL, pvL, subL, KV.frz_pv p g h.1, frzL_pv p g h.2]
end

/-! ### Objects that are read -/

/-- No names, no yields. -/
def Ob.shut (o : Ob) : Prop :=
  match o with
  | .cells _ cs => okVL cs = true
  | .arr _ _ xs => okVL xs = true
  | .map es => okVL es = true
  | .siter _ _ => True

theorem okV_cells {v : PV} (h : okV v = true) : okVL v.cells = true := by
  cases v <;> simp_all [PV.cells, okVL, okV]

theorem okVL_of {xs ys : List PV} (h : okVL xs = true) (hs : ∀ y ∈ ys, y ∈ xs) : okVL ys = true := okVL_iff.2 fun y hy => okVL_iff.1 h y (hs y hy)
theorem okVL_take {xs : List PV} (h : okVL xs = true) (n : Nat) : okVL (xs.take n) = true := okVL_of h fun _ hy => List.mem_of_mem_take hy
theorem okVL_drop {xs : List PV} (h : okVL xs = true) (n : Nat) : okVL (xs.drop n) = true := okVL_of h fun _ hy => List.mem_of_mem_drop hy
theorem okVL_append {xs ys : List PV} (h : okVL xs = true) (h' : okVL ys = true) : okVL (xs ++ ys) = true :=
  okVL_iff.2 fun y hy => (List.mem_append.1 hy).elim (okVL_iff.1 h y) (okVL_iff.1 h' y)
theorem okVL_get {xs : List PV} (h : okVL xs = true) {i : Nat} {x : PV} (hx : xs[i]? = some x) : okV x = true := okVL_iff.1 h x (List.mem_of_getElem? hx)
theorem okVL_set {xs : List PV} (h : okVL xs = true) (i : Nat) {x : PV} (hx : okV x = true) : okVL (xs.set i x) = true :=
  okVL_iff.2 fun y hy => (List.mem_or_eq_of_mem_set hy).elim (okVL_iff.1 h y) fun e => e ▸ hx

mutual
theorem KV.close_ok {g : Nm → Option Ob} (hg : ∀ nm ob, g nm = some ob → ob.shut) : ∀ {x : KV}, x.ok → x.hasY = false → okV (x.close g) = true
  | .un, _, _ | .sk, _, _ | .lit _, _, _ | .nils, _, _ => by simp [KV.close, okV, okVL]
  | .yld _, _, h => by simp [KV.hasY] at h
  | .cv v, h, _ => by have : okV v = true := h; simpa [KV.close] using this
  | .ref nm o, _, _ => by
    simp only [KV.close]
    cases hn : g nm with
    | none => rfl
    | some ob =>
      cases ob with
      | cells ty cs =>
        have : okVL cs = true := hg _ _ hn
        simp only [ptrO]
        split
        · simpa [okV] using this
        · rfl
      | _ => rfl
  | .aref nm k i o, _, _ => by
    simp only [KV.close]
    cases hn : g nm with
    | none => rfl
    | some ob =>
      cases ob with
      | arr k' kt xs =>
        have : okVL xs = true := hg _ _ hn
        simp only [arefO]
        split
        · split
          · rename_i x hx
            split
            · simpa [okV] using okV_cells (okVL_get this hx)
            · rfl
          · rfl
        · rfl
      | _ => rfl
  | .arr nm k o n, _, _ => by
    simp only [KV.close]
    cases hn : g nm with
    | none => rfl
    | some ob =>
      cases ob with
      | arr k' kt xs =>
        have : okVL xs = true := hg _ _ hn
        simp only [slO]
        split
        · simpa [okV] using okVL_take (okVL_drop this o) n
        · rfl
      | _ => rfl
  | .mp nm, _, _ => by
    simp only [KV.close]
    cases hn : g nm with
    | none => rfl
    | some ob =>
      cases ob with
      | map es =>
        have : okVL es = true := hg _ _ hn
        simpa [okV] using this
      | _ => rfl
  | .it nm, _, _ => by simp [KV.close, okV, PV.names, PV.hasY]
  | .wit nm, _, _ => by
    simp only [KV.close]
    cases hn : g nm with
    | none => rfl
    | some ob =>
      cases ob with
      | arr k' kt xs =>
        have : okVL xs = true := hg _ _ hn
        simp only [slO]
        split
        · simpa [okV] using okVL_take (okVL_drop this 0) 0
        · rfl
      | _ => rfl
  | .agg cs, h, hy => by simpa [KV.close, okV] using closeL_ok hg (xs := cs) h (by simpa [KV.hasY] using hy)
  | .iface t x, h, hy => by simpa [KV.close, okV] using KV.close_ok hg (x := x) h (by simpa [KV.hasY] using hy)
  | .fn f cap, h, hy => by simpa [KV.close, okV] using closeL_ok hg (xs := cap) h (by simpa [KV.hasY] using hy)
  | .tup xs, h, hy => by simpa [KV.close, okV] using closeL_ok hg (xs := xs) h (by simpa [KV.hasY] using hy)
theorem closeL_ok {g : Nm → Option Ob} (hg : ∀ nm ob, g nm = some ob → ob.shut) : ∀ {xs : List KV}, okKL xs → khasYL xs = false → okVL (closeL g xs) = true
  | [], _, _ => rfl
  | x :: xs, h, hy => by
    simp only [khasYL, Bool.or_eq_false_iff] at hy
    simp [closeL, okVL, KV.close_ok hg h.1 hy.1, closeL_ok hg h.2 hy.2]
end

mutual
theorem KV.frz_ok {p : Nm → Bool} {g : Nm → Option Ob} (hg : ∀ nm ob, g nm = some ob → ob.shut) : ∀ {x : KV}, x.ok → (x.frz p g).ok
  | .un, _ | .sk, _ | .lit _, _ | .nils, _ | .yld _, _ => by simp [KV.frz, KV.ok]
  | .cv v, h => by simpa [KV.frz, KV.ok] using h
  | .ref nm o, _ => by
    simp only [KV.frz]; split
    · exact KV.close_ok hg (x := .ref nm o) trivial rfl
    · trivial
  | .aref nm k i o, _ => by
    simp only [KV.frz]; split
    · exact KV.close_ok hg (x := .aref nm k i o) trivial rfl
    · trivial
  | .arr nm k o n, _ => by
    simp only [KV.frz]; split
    · exact KV.close_ok hg (x := .arr nm k o n) trivial rfl
    · trivial
  | .mp nm, _ => by
    simp only [KV.frz]; split
    · exact KV.close_ok hg (x := .mp nm) trivial rfl
    · trivial
  | .it nm, _ => by
    simp only [KV.frz]; split <;> trivial
  | .wit nm, _ => by
    simp only [KV.frz]; split
    · exact KV.close_ok hg (x := .wit nm) trivial rfl
    · trivial
  | .agg cs, h => by simpa [KV.frz, KV.ok] using frzL_ok hg h
  | .iface t x, h => by simpa [KV.frz, KV.ok] using KV.frz_ok hg (x := x) h
  | .fn f cap, h => by simpa [KV.frz, KV.ok] using frzL_ok hg h
  | .tup xs, h => by simpa [KV.frz, KV.ok] using frzL_ok hg h
theorem frzL_ok {p : Nm → Bool} {g : Nm → Option Ob} (hg : ∀ nm ob, g nm = some ob → ob.shut) : ∀ {xs : List KV}, okKL xs → okKL (frzL p g xs)
  | [], _ => trivial
  | x :: xs, h => ⟨KV.frz_ok hg h.1, frzL_ok hg h.2⟩
end
end Go.Ab

/-
  'KSt' stands for states.
-/
namespace Go.Ab

/-! ### Slots -/

theorem beq_true {i j : Nat} (h : Nat.beq i j = true) : i = j := Nat.eq_of_beq_eq_true h
theorem beq_false {i j : Nat} (h : Nat.beq i j = false) : i ≠ j := Nat.ne_of_beq_eq_false h

theorem spGet_put (i : Nat) (v : KV) : ∀ (l : Sp) (j : Nat), spGet (spPut i v l) j = if j = i then v else spGet l j := by
  intro l
  induction l with
  | nil =>
    intro j
    simp only [spPut, spGet]
    cases h : Nat.beq j i with
    | true => simp [beq_true h]
    | false => simp [beq_false h]
  | cons p l ih =>
    obtain ⟨k, u⟩ := p
    intro j
    simp only [spPut]
    cases h : Nat.beq i k with
    | true =>
      have := beq_true h; subst this
      simp only [spGet]
      cases h2 : Nat.beq j i with
      | true => simp [beq_true h2]
      | false => simp [beq_false h2]
    | false =>
      cases h3 : Nat.blt i k with
      | true =>
        simp only [spGet]
        cases h2 : Nat.beq j i with
        | true => simp [beq_true h2]
        | false => simp [beq_false h2]
      | false =>
        simp only [spGet]
        cases h2 : Nat.beq j k with
        | true =>
          have h4 := beq_true h2; have h5 := beq_false h
          subst h4
          simp [Ne.symm h5]
        | false => exact ih j

theorem spGet_out (i : Nat) : ∀ (l : Sp) (j : Nat), spGet (spOut i l) j = if j = i then .un else spGet l j := by
  intro l
  induction l with
  | nil => intro j; simp [spOut, spGet]
  | cons p l ih =>
    obtain ⟨k, u⟩ := p
    intro j
    simp only [spOut]
    cases h : Nat.beq i k with
    | true =>
      have := beq_true h; subst this
      simp only [spGet]
      rw [ih j]
      cases h2 : Nat.beq j i with
      | true => simp [beq_true h2]
      | false => simp [beq_false h2]
    | false =>
      simp only [spGet]
      cases h2 : Nat.beq j k with
      | true =>
        have h4 := beq_true h2; have h5 := beq_false h
        subst h4
        simp [Ne.symm h5]
      | false => exact ih j

theorem spGet_set (i : Nat) (v : KV) (l : Sp) (j : Nat) : spGet (spSet i v l) j = if j = i then v else spGet l j := by
  unfold spSet
  split
  · exact spGet_out i l j
  · exact spGet_put i v l j

theorem spGet_keep (p : Nat → Bool) : ∀ (l : Sp) (j : Nat), spGet (spKeep p l) j = if p j = true then spGet l j else .un := by
  intro l
  induction l with
  | nil => intro j; simp [spKeep, spGet]
  | cons q l ih =>
    obtain ⟨k, u⟩ := q
    intro j
    simp only [spKeep]
    cases hp : p k with
    | true =>
      simp only [spGet]
      cases h2 : Nat.beq j k with
      | true => have := beq_true h2; subst this; simp [hp]
      | false => exact ih j
    | false =>
      simp only [spGet]
      rw [ih j]
      cases h2 : Nat.beq j k with
      | true => have := beq_true h2; subst this; simp [hp]
      | false => rfl

def isUnK : KV → Bool
  | .un => true
  | _ => false

structure SpWf (nt : Nat) (l : Sp) : Prop where
  srt : (l.map (·.1)).Pairwise (· < ·)
  lt : ∀ p ∈ l, p.1 < nt
  ok : ∀ p ∈ l, p.2.ok
  nu : ∀ p ∈ l, isUnK p.2 = false

theorem SpWf.nil (nt : Nat) : SpWf nt [] := ⟨.nil, by simp, by simp, by simp⟩

theorem SpWf.tail {nt : Nat} {p : Nat × KV} {l : Sp} (h : SpWf nt (p :: l)) : SpWf nt l :=
  ⟨(List.pairwise_cons.1 h.srt).2, fun q hq => h.lt q (by simp [hq]), fun q hq => h.ok q (by simp [hq]), fun q hq => h.nu q (by simp [hq])⟩

theorem spGet_not {l : Sp} {i : Nat} (h : ∀ p ∈ l, p.1 ≠ i) : spGet l i = .un := by
  induction l with
  | nil => rfl
  | cons p l ih =>
    obtain ⟨k, u⟩ := p
    simp only [spGet]
    cases h2 : Nat.beq i k with
    | true => exact absurd (beq_true h2).symm (h (k, u) (by simp))
    | false => exact ih fun q hq => h q (by simp [hq])

theorem SpWf.get_mem {nt : Nat} {l : Sp} (h : SpWf nt l) {p : Nat × KV} (hp : p ∈ l) : spGet l p.1 = p.2 := by
  induction l with
  | nil => cases hp
  | cons q l ih =>
    obtain ⟨k, u⟩ := q
    simp only [spGet]
    rcases List.mem_cons.1 hp with rfl | hp'
    · simp
    · have h1 := (List.pairwise_cons.1 h.srt).1 p.1 (List.mem_map.2 ⟨p, hp', rfl⟩)
      simp only at h1
      cases h2 : Nat.beq p.1 k with
      | true => have := beq_true h2; omega
      | false => exact ih h.tail hp'

theorem spGet_mem {l : Sp} {i : Nat} (h : spGet l i ≠ .un) : (i, spGet l i) ∈ l := by
  induction l with
  | nil => exact absurd rfl h
  | cons p l ih =>
    obtain ⟨k, u⟩ := p
    simp only [spGet] at h ⊢
    cases h2 : Nat.beq i k with
    | true => have := beq_true h2; subst this; simp
    | false => rw [h2] at h; simp only at h ⊢; exact List.mem_cons_of_mem _ (ih h)

theorem un_cases (x : KV) : x = .un ∨ x ≠ .un := by cases x <;> simp

theorem SpWf.get_ok {nt : Nat} {l : Sp} (h : SpWf nt l) (i : Nat) : (spGet l i).ok := by
  rcases un_cases (spGet l i) with h1 | h1
  · rw [h1]; trivial
  · exact h.ok _ (spGet_mem h1)

theorem SpWf.get_ge {nt : Nat} {l : Sp} (h : SpWf nt l) {i : Nat} (hi : nt ≤ i) : spGet l i = .un := by
  rcases un_cases (spGet l i) with h1 | h1
  · exact h1
  · have := h.lt _ (spGet_mem h1); simp only at this; omega

theorem spPut_mem {i : Nat} {v : KV} : ∀ {l : Sp} {p : Nat × KV}, p ∈ spPut i v l → p = (i, v) ∨ p ∈ l := by
  intro l
  induction l with
  | nil => intro p hp; simp [spPut] at hp; exact .inl hp
  | cons q l ih =>
    obtain ⟨k, u⟩ := q
    intro p hp
    simp only [spPut] at hp
    cases h : Nat.beq i k with
    | true =>
      rw [h] at hp; simp only [List.mem_cons] at hp ⊢
      rcases hp with rfl | hp
      · exact .inl rfl
      · exact .inr (.inr hp)
    | false =>
      rw [h] at hp
      cases h3 : Nat.blt i k with
      | true =>
        rw [h3] at hp; simp only [List.mem_cons] at hp ⊢
        rcases hp with rfl | hp | hp
        · exact .inl rfl
        · exact .inr (.inl hp)
        · exact .inr (.inr hp)
      | false =>
        rw [h3] at hp; simp only [List.mem_cons] at hp ⊢
        rcases hp with rfl | hp
        · exact .inr (.inl rfl)
        · exact (ih hp).imp id .inr

theorem spPut_srt {i : Nat} {v : KV} : ∀ {l : Sp}, (l.map (·.1)).Pairwise (· < ·) → ((spPut i v l).map (·.1)).Pairwise (· < ·) := by
  intro l
  induction l with
  | nil => intro _; simp [spPut]
  | cons q l ih =>
    obtain ⟨k, u⟩ := q
    intro h
    have h1 := List.pairwise_cons.1 h
    simp only [spPut]
    cases h2 : Nat.beq i k with
    | true =>
      have := beq_true h2; subst this
      exact List.pairwise_cons.2 ⟨h1.1, h1.2⟩
    | false =>
      cases h3 : Nat.blt i k with
      | true =>
        have h4 : i < k := by simpa [Nat.blt_eq] using h3
        refine List.pairwise_cons.2 ⟨fun a ha => ?_, h⟩
        simp only [List.map_cons, List.mem_cons] at ha
        rcases ha with rfl | ha
        · exact h4
        · exact Nat.lt_trans h4 (h1.1 a ha)
      | false =>
        have h5 := beq_false h2
        have h4 : ¬ i < k := by intro h6; rw [show Nat.blt i k = true by simpa [Nat.blt_eq] using h6] at h3; cases h3
        refine List.pairwise_cons.2 ⟨fun a ha => ?_, ih h1.2⟩
        obtain ⟨p, hp, rfl⟩ := List.mem_map.1 ha
        rcases spPut_mem hp with rfl | hp
        · simp only; omega
        · exact h1.1 _ (List.mem_map.2 ⟨p, hp, rfl⟩)

theorem SpWf.put {nt : Nat} {l : Sp} (h : SpWf nt l) {i : Nat} (hi : i < nt) {v : KV} (hv : v.ok) (hu : isUnK v = false) : SpWf nt (spPut i v l) where
  srt := spPut_srt h.srt
  lt p hp := (spPut_mem hp).elim (fun e => by rw [e]; exact hi) (h.lt p)
  ok p hp := (spPut_mem hp).elim (fun e => by rw [e]; exact hv) (h.ok p)
  nu p hp := (spPut_mem hp).elim (fun e => by rw [e]; exact hu) (h.nu p)

theorem spOut_sub (i : Nat) : ∀ (l : Sp), (spOut i l).Sublist l := by
  intro l
  induction l with
  | nil => exact .slnil
  | cons q l ih =>
    obtain ⟨k, u⟩ := q
    simp only [spOut]
    cases Nat.beq i k with
    | true => exact .cons _ ih
    | false => exact .cons_cons _ ih

theorem spKeep_sub (p : Nat → Bool) : ∀ (l : Sp), (spKeep p l).Sublist l := by
  intro l
  induction l with
  | nil => exact .slnil
  | cons q l ih =>
    obtain ⟨k, u⟩ := q
    simp only [spKeep]
    cases p k with
    | true => exact .cons_cons _ ih
    | false => exact .cons _ ih

theorem SpWf.sub {nt : Nat} {l l' : Sp} (h : SpWf nt l) (hs : l'.Sublist l) : SpWf nt l' :=
  ⟨h.srt.sublist (hs.map _), fun p hp => h.lt p (hs.subset hp), fun p hp => h.ok p (hs.subset hp), fun p hp => h.nu p (hs.subset hp)⟩

theorem SpWf.set {nt : Nat} {l : Sp} (h : SpWf nt l) {i : Nat} (hi : i < nt) {v : KV} (hv : v.ok) : SpWf nt (spSet i v l) := by
  unfold spSet
  split
  · exact h.sub (spOut_sub i l)
  · rename_i hu
    refine h.put hi hv ?_
    cases v <;> simp_all [isUnK]

theorem spMap_keys (f : KV → KV) : ∀ (l : Sp), ((spMap f l).map (·.1)).Sublist (l.map (·.1)) := by
  intro l
  induction l with
  | nil => exact .slnil
  | cons q l ih =>
    obtain ⟨k, u⟩ := q
    simp only [spMap]
    split
    · exact .cons _ ih
    · exact .cons_cons _ ih

theorem spMap_mem {f : KV → KV} : ∀ {l : Sp} {p : Nat × KV}, p ∈ spMap f l → ∃ q ∈ l, p = (q.1, f q.2) ∧ isUnK p.2 = false := by
  intro l
  induction l with
  | nil => intro p hp; cases hp
  | cons q l ih =>
    obtain ⟨k, u⟩ := q
    intro p hp
    simp only [spMap] at hp
    split at hp
    · obtain ⟨q, hq, h⟩ := ih hp; exact ⟨q, by simp [hq], h⟩
    · rename_i hne
      rcases List.mem_cons.1 hp with rfl | hp
      · exact ⟨(k, u), by simp, rfl, by cases hf : f u <;> simp_all [isUnK]⟩
      · obtain ⟨q, hq, h⟩ := ih hp; exact ⟨q, by simp [hq], h⟩

theorem SpWf.map {nt : Nat} {l : Sp} (h : SpWf nt l) {f : KV → KV} (hf : ∀ x : KV, x.ok → (f x).ok) : SpWf nt (spMap f l) where
  srt := h.srt.sublist (spMap_keys f l)
  lt p hp := by obtain ⟨q, hq, rfl, _⟩ := spMap_mem hp; exact h.lt q hq
  ok p hp := by obtain ⟨q, hq, rfl, _⟩ := spMap_mem hp; exact hf _ (h.ok q hq)
  nu p hp := by obtain ⟨q, hq, _, h⟩ := spMap_mem hp; exact h

theorem spGet_map {nt : Nat} {f : KV → KV} (hf : f .un = .un) : ∀ {l : Sp} (_ : SpWf nt l) (i : Nat), spGet (spMap f l) i = f (spGet l i) := by
  intro l
  induction l with
  | nil => intro _ i; simp [spMap, spGet, hf]
  | cons q l ih =>
    obtain ⟨k, u⟩ := q
    intro h i
    have h1 := List.pairwise_cons.1 h.srt
    simp only [spMap, spGet]
    split
    · rename_i hu
      cases h2 : Nat.beq i k with
      | true =>
        have := beq_true h2; subst this
        simp only
        rw [hu]
        refine spGet_not fun p hp => ?_
        obtain ⟨q, hq, rfl, _⟩ := spMap_mem hp
        have := h1.1 q.1 (List.mem_map.2 ⟨q, hq, rfl⟩)
        simp only at this ⊢; omega
      | false => exact ih h.tail i
    · simp only [spGet]
      cases h2 : Nat.beq i k with
      | true => rfl
      | false => exact ih h.tail i

theorem spHas_iff {l : Sp} {i : Nat} : spHas l i = true ↔ ∃ p ∈ l, p.1 = i := by
  induction l with
  | nil => simp [spHas]
  | cons q l ih =>
    obtain ⟨k, u⟩ := q
    simp only [spHas]
    cases h2 : Nat.beq i k with
    | true => simp [beq_true h2]
    | false => simp [ih, Ne.symm (beq_false h2)]

theorem spNames_iff {l : Sp} {nm : Nm} : nm ∈ spNames l ↔ ∃ p ∈ l, nm ∈ p.2.names := by
  induction l with
  | nil => simp [spNames]
  | cons q l ih => obtain ⟨k, u⟩ := q; simp [spNames, ih]

theorem SpWf.has_iff {nt : Nat} {l : Sp} (h : SpWf nt l) (i : Nat) : spHas l i = true ↔ spGet l i ≠ .un := by
  rw [spHas_iff]
  constructor
  · rintro ⟨p, hp, rfl⟩ hu
    rw [h.get_mem hp] at hu
    have := h.nu p hp
    rw [hu] at this; cases this
  · intro hu; exact ⟨_, spGet_mem hu, rfl⟩

/-! ### Dense -/

theorem dense_get? (nt : Nat) (l : Sp) (i : Nat) : (dense nt l)[i]? = if i < nt then some (spGet l i).pv else none := by
  unfold dense
  rw [List.getElem?_map]
  split
  · rename_i h; rw [List.getElem?_range h]; rfl
  · rename_i h; rw [List.getElem?_eq_none (by simpa using h)]; rfl

theorem dense_length (nt : Nat) (l : Sp) : (dense nt l).length = nt := by simp [dense]

theorem dense_getD {nt : Nat} {l : Sp} (h : SpWf nt l) (i : Nat) : (dense nt l).getD i .undef = (spGet l i).pv := by
  rw [List.getD_eq_getElem?_getD, dense_get?]
  split
  · rfl
  · rename_i hi; rw [h.get_ge (by omega)]; rfl

theorem dense_ext {nt : Nat} {l : Sp} {xs : List PV} (hl : xs.length = nt) (h : ∀ i, i < nt → xs[i]? = some (spGet l i).pv) : dense nt l = xs := by
  apply List.ext_getElem?
  intro i
  rw [dense_get?]
  split
  · rename_i hi; exact (h i hi).symm
  · rename_i hi; rw [List.getElem?_eq_none (by omega)]

theorem dense_set {nt : Nat} {l : Sp} (d : Nat) (v : KV) : dense nt (spSet d v l) = (dense nt l).set d v.pv := by
  refine dense_ext (by simp [dense_length]) fun i hi => ?_
  rw [List.getElem?_set, dense_length, dense_get?, spGet_set]
  by_cases h : d = i
  · subst h; simp [hi]
  · simp [h, Ne.symm h, hi]

theorem dense_put {nt : Nat} {l : Sp} (d : Nat) (v : KV) : dense nt (spPut d v l) = (dense nt l).set d v.pv := by
  refine dense_ext (by simp [dense_length]) fun i hi => ?_
  rw [List.getElem?_set, dense_length, dense_get?, spGet_put]
  by_cases h : d = i
  · subst h; simp [hi]
  · simp [h, Ne.symm h, hi]

theorem dense_map {nt : Nat} {l : Sp} (h : SpWf nt l) {f : KV → KV} {g : Nm → Option (Option Ob)} (hu : f .un = .un) (hf : ∀ x : KV, x.ok → (f x).pv = x.pv.sub g) :
    dense nt (spMap f l) = subL g (dense nt l) := by
  refine dense_ext (by rw [subL_length, dense_length]) fun i hi => ?_
  rw [subL_getElem?, dense_get?, spGet_map hu h, if_pos hi, hf _ (h.get_ok i)]
  rfl

theorem renL_length (f : Nm → Nm) (xs : List PV) : (renL f xs).length = xs.length := by
  induction xs with
  | nil => rfl
  | cons x xs ih => simp [renL, ih]
theorem renL_getElem? (f : Nm → Nm) (xs : List PV) (i : Nat) : (renL f xs)[i]? = (xs[i]?).map (PV.ren f) := by
  induction xs generalizing i with
  | nil => rfl
  | cons x xs ih => cases i <;> simp [renL, ih]

theorem dense_ren {nt : Nat} {l : Sp} (h : SpWf nt l) (f : Nm → Nm) : dense nt (spMap (KV.ren f) l) = renL f (dense nt l) := by
  refine dense_ext (by rw [renL_length, dense_length]) fun i hi => ?_
  rw [renL_getElem?, dense_get?, spGet_map (by simp [KV.ren]) h, if_pos hi, KV.ren_pv f (h.get_ok i)]
  rfl

theorem dense_names {nt : Nat} {l : Sp} (h : SpWf nt l) (nm : Nm) : nm ∈ namesL (dense nt l) ↔ nm ∈ spNames l := by
  have hm : ∀ (xs : List PV), nm ∈ namesL xs ↔ ∃ x ∈ xs, nm ∈ x.names := by
    intro xs
    induction xs with
    | nil => simp [namesL]
    | cons x xs ih => simp [namesL, ih]
  rw [hm, spNames_iff]
  constructor
  · rintro ⟨x, hx, hn⟩
    obtain ⟨i, hi⟩ := List.getElem?_of_mem hx
    rw [dense_get?] at hi
    split at hi
    · cases hi
      rw [KV.pv_names (h.get_ok i)] at hn
      have hne : spGet l i ≠ .un := by intro hu; rw [hu] at hn; simp [KV.names] at hn
      exact ⟨_, spGet_mem hne, hn⟩
    · cases hi
  · rintro ⟨p, hp, hn⟩
    have := h.get_mem hp
    refine ⟨p.2.pv, List.mem_of_getElem? (i := p.1) ?_, ?_⟩
    · rw [dense_get?, if_pos (h.lt p hp), this]
    · rw [KV.pv_names (h.ok p hp)]; exact hn

/-! ### Objects -/

def KOb.ok : KOb → Prop
  | .cells _ cs => okKL cs
  | .whole _ v => okV v = true
  | .arr _ _ xs => okVL xs = true
  | .map es => okVL es = true
  | .siter _ _ => True

structure SoWf (nt : Nat) (l : SpO) : Prop where
  srt : (l.map (·.1)).Pairwise (· < ·)
  lt : ∀ p ∈ l, p.1 < nt
  ok : ∀ p ∈ l, ∀ o ∈ p.2, o.ok

theorem SoWf.nil (nt : Nat) : SoWf nt [] := ⟨.nil, by simp, by simp⟩
theorem SoWf.tail {nt : Nat} {p : Nat × List KOb} {l : SpO} (h : SoWf nt (p :: l)) : SoWf nt l :=
  ⟨(List.pairwise_cons.1 h.srt).2, fun q hq => h.lt q (by simp [hq]), fun q hq => h.ok q (by simp [hq])⟩

theorem KOb.ob_names {o : KOb} (h : o.ok) : o.ob.names = o.names := by
  cases o with
  | cells ty cs => exact pvL_names h
  | whole ty v => exact (okVL_names (okV_cells h)).1
  | _ => rfl

theorem soGet_put (i : Nat) (v : List KOb) : ∀ (l : SpO) (j : Nat), soGet (soPut i v l) j = if j = i then v else soGet l j := by
  intro l
  induction l with
  | nil =>
    intro j
    simp only [soPut, soGet]
    cases h : Nat.beq j i with
    | true => simp [beq_true h]
    | false => simp [beq_false h]
  | cons p l ih =>
    obtain ⟨k, u⟩ := p
    intro j
    simp only [soPut]
    cases h : Nat.beq i k with
    | true =>
      have := beq_true h; subst this
      simp only [soGet]
      cases h2 : Nat.beq j i with
      | true => simp [beq_true h2]
      | false => simp [beq_false h2]
    | false =>
      cases h3 : Nat.blt i k with
      | true =>
        simp only [soGet]
        cases h2 : Nat.beq j i with
        | true => simp [beq_true h2]
        | false => simp [beq_false h2]
      | false =>
        simp only [soGet]
        cases h2 : Nat.beq j k with
        | true =>
          have h4 := beq_true h2; have h5 := beq_false h
          subst h4
          simp [Ne.symm h5]
        | false => exact ih j

theorem soGet_keep (p : Nat → Bool) : ∀ (l : SpO) (j : Nat), soGet (soKeep p l) j = if p j = true then soGet l j else [] := by
  intro l
  induction l with
  | nil => intro j; simp [soKeep, soGet]
  | cons q l ih =>
    obtain ⟨k, u⟩ := q
    intro j
    simp only [soKeep]
    cases hp : p k with
    | true =>
      simp only [soGet]
      cases h2 : Nat.beq j k with
      | true => have := beq_true h2; subst this; simp [hp]
      | false => exact ih j
    | false =>
      simp only [soGet]
      rw [ih j]
      cases h2 : Nat.beq j k with
      | true => have := beq_true h2; subst this; simp [hp]
      | false => rfl

theorem soGet_map (f : KOb → KOb) : ∀ (l : SpO) (j : Nat), soGet (soMap f l) j = (soGet l j).map f := by
  intro l
  induction l with
  | nil => intro j; simp [soMap, soGet]
  | cons q l ih =>
    obtain ⟨k, u⟩ := q
    intro j
    simp only [soMap, soGet]
    cases h2 : Nat.beq j k with
    | true => rfl
    | false => exact ih j

theorem soGet_mem {l : SpO} {i : Nat} (h : soGet l i ≠ []) : (i, soGet l i) ∈ l := by
  induction l with
  | nil => exact absurd rfl h
  | cons p l ih =>
    obtain ⟨k, u⟩ := p
    simp only [soGet] at h ⊢
    cases h2 : Nat.beq i k with
    | true => have := beq_true h2; subst this; simp
    | false => rw [h2] at h; simp only at h ⊢; exact List.mem_cons_of_mem _ (ih h)

theorem SoWf.get_mem {nt : Nat} {l : SpO} (h : SoWf nt l) {p : Nat × List KOb} (hp : p ∈ l) : soGet l p.1 = p.2 := by
  induction l with
  | nil => cases hp
  | cons q l ih =>
    obtain ⟨k, u⟩ := q
    simp only [soGet]
    rcases List.mem_cons.1 hp with rfl | hp'
    · simp
    · have h1 := (List.pairwise_cons.1 h.srt).1 p.1 (List.mem_map.2 ⟨p, hp', rfl⟩)
      simp only at h1
      cases h2 : Nat.beq p.1 k with
      | true => have := beq_true h2; omega
      | false => exact ih h.tail hp'

theorem SoWf.get_ok {nt : Nat} {l : SpO} (h : SoWf nt l) {i : Nat} {o : KOb} (ho : o ∈ soGet l i) : o.ok := by
  have : soGet l i ≠ [] := by intro h1; rw [h1] at ho; cases ho
  exact h.ok _ (soGet_mem this) o ho

theorem SoWf.get_ge {nt : Nat} {l : SpO} (h : SoWf nt l) {i : Nat} (hi : nt ≤ i) : soGet l i = [] := by
  by_cases h1 : soGet l i = []
  · exact h1
  · have := h.lt _ (soGet_mem h1); simp only at this; omega

theorem soPut_mem {i : Nat} {v : List KOb} : ∀ {l : SpO} {p : Nat × List KOb}, p ∈ soPut i v l → p = (i, v) ∨ p ∈ l := by
  intro l
  induction l with
  | nil => intro p hp; simp [soPut] at hp; exact .inl hp
  | cons q l ih =>
    obtain ⟨k, u⟩ := q
    intro p hp
    simp only [soPut] at hp
    cases h : Nat.beq i k with
    | true =>
      rw [h] at hp; simp only [List.mem_cons] at hp ⊢
      rcases hp with rfl | hp
      · exact .inl rfl
      · exact .inr (.inr hp)
    | false =>
      rw [h] at hp
      cases h3 : Nat.blt i k with
      | true =>
        rw [h3] at hp; simp only [List.mem_cons] at hp ⊢
        rcases hp with rfl | hp | hp
        · exact .inl rfl
        · exact .inr (.inl hp)
        · exact .inr (.inr hp)
      | false =>
        rw [h3] at hp; simp only [List.mem_cons] at hp ⊢
        rcases hp with rfl | hp
        · exact .inr (.inl rfl)
        · exact (ih hp).imp id .inr

theorem soPut_srt {i : Nat} {v : List KOb} : ∀ {l : SpO}, (l.map (·.1)).Pairwise (· < ·) → ((soPut i v l).map (·.1)).Pairwise (· < ·) := by
  intro l
  induction l with
  | nil => intro _; simp [soPut]
  | cons q l ih =>
    obtain ⟨k, u⟩ := q
    intro h
    have h1 := List.pairwise_cons.1 h
    simp only [soPut]
    cases h2 : Nat.beq i k with
    | true =>
      have := beq_true h2; subst this
      exact List.pairwise_cons.2 ⟨h1.1, h1.2⟩
    | false =>
      cases h3 : Nat.blt i k with
      | true =>
        have h4 : i < k := by simpa [Nat.blt_eq] using h3
        refine List.pairwise_cons.2 ⟨fun a ha => ?_, h⟩
        simp only [List.map_cons, List.mem_cons] at ha
        rcases ha with rfl | ha
        · exact h4
        · exact Nat.lt_trans h4 (h1.1 a ha)
      | false =>
        have h5 := beq_false h2
        have h4 : ¬ i < k := by intro h6; rw [show Nat.blt i k = true by simpa [Nat.blt_eq] using h6] at h3; cases h3
        refine List.pairwise_cons.2 ⟨fun a ha => ?_, ih h1.2⟩
        obtain ⟨p, hp, rfl⟩ := List.mem_map.1 ha
        rcases soPut_mem hp with rfl | hp
        · simp only; omega
        · exact h1.1 _ (List.mem_map.2 ⟨p, hp, rfl⟩)

theorem SoWf.put {nt : Nat} {l : SpO} (h : SoWf nt l) {i : Nat} (hi : i < nt) {v : List KOb} (hv : ∀ o ∈ v, o.ok) : SoWf nt (soPut i v l) where
  srt := soPut_srt h.srt
  lt p hp := (soPut_mem hp).elim (fun e => by rw [e]; exact hi) (h.lt p)
  ok p hp := (soPut_mem hp).elim (fun e => by rw [e]; exact hv) (h.ok p)

theorem soKeep_sub (p : Nat → Bool) : ∀ (l : SpO), (soKeep p l).Sublist l := by
  intro l
  induction l with
  | nil => exact .slnil
  | cons q l ih =>
    obtain ⟨k, u⟩ := q
    simp only [soKeep]
    cases p k with
    | true => exact .cons_cons _ ih
    | false => exact .cons _ ih

theorem SoWf.sub {nt : Nat} {l l' : SpO} (h : SoWf nt l) (hs : l'.Sublist l) : SoWf nt l' :=
  ⟨h.srt.sublist (hs.map _), fun p hp => h.lt p (hs.subset hp), fun p hp => h.ok p (hs.subset hp)⟩

theorem soMap_keys (f : KOb → KOb) : ∀ (l : SpO), (soMap f l).map (·.1) = l.map (·.1) := by
  intro l
  induction l with
  | nil => rfl
  | cons q l ih => obtain ⟨k, u⟩ := q; simp [soMap, ih]

theorem soMap_mem {f : KOb → KOb} : ∀ {l : SpO} {p : Nat × List KOb}, p ∈ soMap f l → ∃ q ∈ l, p = (q.1, q.2.map f) := by
  intro l
  induction l with
  | nil => intro p hp; cases hp
  | cons q l ih =>
    obtain ⟨k, u⟩ := q
    intro p hp
    rcases List.mem_cons.1 hp with rfl | hp
    · exact ⟨(k, u), by simp, rfl⟩
    · obtain ⟨q, hq, h⟩ := ih hp; exact ⟨q, by simp [hq], h⟩

theorem SoWf.map {nt : Nat} {l : SpO} (h : SoWf nt l) {f : KOb → KOb} (hf : ∀ x : KOb, x.ok → (f x).ok) : SoWf nt (soMap f l) where
  srt := by rw [soMap_keys]; exact h.srt
  lt p hp := by obtain ⟨q, hq, rfl⟩ := soMap_mem hp; exact h.lt q hq
  ok p hp o ho := by
    obtain ⟨q, hq, rfl⟩ := soMap_mem hp
    obtain ⟨o', ho', rfl⟩ := List.mem_map.1 ho
    exact hf _ (h.ok q hq o' ho')

theorem soNames_iff {l : SpO} {nm : Nm} : nm ∈ soNames l ↔ ∃ p ∈ l, ∃ o ∈ p.2, nm ∈ o.names := by
  induction l with
  | nil => simp [soNames]
  | cons q l ih => obtain ⟨k, u⟩ := q; simp [soNames, ih]

/-! ### Dense -/

theorem denseO_get? (nt : Nat) (l : SpO) (i : Nat) : (denseO nt l)[i]? = if i < nt then some ((soGet l i).map KOb.ob) else none := by
  unfold denseO
  rw [List.getElem?_map]
  split
  · rename_i h; rw [List.getElem?_range h]; rfl
  · rename_i h; rw [List.getElem?_eq_none (by simpa using h)]; rfl

theorem denseO_length (nt : Nat) (l : SpO) : (denseO nt l).length = nt := by simp [denseO]

theorem denseO_ext {nt : Nat} {l : SpO} {xs : List (List Ob)} (hl : xs.length = nt) (h : ∀ i, i < nt → xs[i]? = some ((soGet l i).map KOb.ob)) : denseO nt l = xs := by
  apply List.ext_getElem?
  intro i
  rw [denseO_get?]
  split
  · rename_i hi; exact (h i hi).symm
  · rename_i hi; rw [List.getElem?_eq_none (by omega)]

theorem denseO_put {nt : Nat} {l : SpO} (d : Nat) (v : List KOb) : denseO nt (soPut d v l) = (denseO nt l).set d (v.map KOb.ob) := by
  refine denseO_ext (by simp [denseO_length]) fun i hi => ?_
  rw [List.getElem?_set, denseO_length, denseO_get?, soGet_put]
  by_cases h : d = i
  · subst h; simp [hi]
  · simp [h, Ne.symm h, hi]

theorem denseO_map {nt : Nat} {l : SpO} (h : SoWf nt l) {f : KOb → KOb} {g : Ob → Ob} (hf : ∀ x : KOb, x.ok → (f x).ob = g x.ob) : denseO nt (soMap f l) = (denseO nt l).map (·.map g) := by
  refine denseO_ext (by simp [denseO_length]) fun i hi => ?_
  rw [List.getElem?_map, denseO_get?, if_pos hi, soGet_map]
  simp only [Option.map_some, List.map_map, Option.some.injEq]
  apply List.map_congr_left
  intro o ho
  simp [hf o (h.get_ok ho)]

theorem denseO_look {nt : Nat} {l : SpO} (h : SoWf nt l) (nm : Nm) : look (denseO nt l) nm = (klook l nm).map KOb.ob := by
  unfold look klook
  rw [denseO_get?]
  split
  · rename_i x hx
    split at hx
    · cases hx; rw [List.getElem?_map]
    · cases hx
  · rename_i hx
    split at hx
    · cases hx
    · rw [h.get_ge (by omega)]; rfl

theorem klook_lt {nt : Nat} {l : SpO} (h : SoWf nt l) {nm : Nm} {o : KOb} (ho : klook l nm = some o) : nm.1 < nt := by
  apply Classical.byContradiction
  intro hn
  unfold klook at ho
  rw [h.get_ge (by omega)] at ho
  cases ho

theorem klook_ok {nt : Nat} {l : SpO} (h : SoWf nt l) {nm : Nm} {o : KOb} (ho : klook l nm = some o) : o.ok := h.get_ok (List.mem_of_getElem? ho)

theorem denseO_kput {nt : Nat} {l : SpO} (h : SoWf nt l) (nm : Nm) (o : KOb) : denseO nt (kput l nm o) = putOb (denseO nt l) nm o.ob := by
  unfold kput putOb
  cases hk : klook l nm with
  | some o' =>
    have hlt := klook_lt h hk
    simp only
    rw [denseO_put, denseO_get?, if_pos hlt]
    simp [List.map_set]
  | none =>
    simp only
    rw [denseO_get?]
    split
    · rename_i x hx
      split at hx
      · cases hx
        have h1 : ((soGet l nm.1).map KOb.ob).set nm.2 o.ob = (soGet l nm.1).map KOb.ob := by
          rw [List.set_eq_of_length_le]
          have := List.getElem?_eq_none_iff.1 hk
          simpa using this
        rw [h1]
        refine denseO_ext (by simp [denseO_length]) fun i hi => ?_
        rw [List.getElem?_set, denseO_length, denseO_get?]
        by_cases h2 : nm.1 = i
        · subst h2; simp [hi]
        · simp [h2, hi]
      · cases hx
    · rfl

theorem SoWf.kput {nt : Nat} {l : SpO} (h : SoWf nt l) (nm : Nm) {o : KOb} (ho : o.ok) : SoWf nt (kput l nm o) := by
  unfold Go.Ab.kput
  cases hk : klook l nm with
  | some o' =>
    refine h.put (klook_lt h hk) fun x hx => ?_
    rcases List.mem_or_eq_of_mem_set hx with h1 | rfl
    · exact h.get_ok h1
    · exact ho
  | none => exact h

theorem denseO_names {nt : Nat} {l : SpO} (h : SoWf nt l) (nm : Nm) : nm ∈ (denseO nt l).flatMap (fun l => l.flatMap Ob.names) ↔ nm ∈ soNames l := by
  rw [soNames_iff]
  simp only [List.mem_flatMap]
  constructor
  · rintro ⟨x, hx, ob, hob, hn⟩
    obtain ⟨i, hi⟩ := List.getElem?_of_mem hx
    rw [denseO_get?] at hi
    split at hi
    · cases hi
      obtain ⟨o, ho, rfl⟩ := List.mem_map.1 hob
      rw [KOb.ob_names (h.get_ok ho)] at hn
      have : soGet l i ≠ [] := by intro h1; rw [h1] at ho; cases ho
      exact ⟨_, soGet_mem this, o, ho, hn⟩
    · cases hi
  · rintro ⟨p, hp, o, ho, hn⟩
    have := h.get_mem hp
    refine ⟨p.2.map KOb.ob, List.mem_of_getElem? (i := p.1) ?_, o.ob, List.mem_map.2 ⟨o, ho, rfl⟩, ?_⟩
    · rw [denseO_get?, if_pos (h.lt p hp), this]
    · rw [KOb.ob_names (h.ok p hp o ho)]; exact hn

end Go.Ab

/-
  What is done to states.
-/
namespace Go.Ab

mutual
theorem forceV_eq {R : Type} : ∀ (x : KV) (K : KV → R), forceV x K = K x
  | .un, _ | .sk, _ | .nils, _ | .cv _, _ | .yld _, _ => rfl
  | .lit b, K => by cases b <;> rfl
  | .ref nm _, _ | .aref nm _ _ _, _ | .arr nm _ _ _, _ | .mp nm, _ | .it nm, _ | .wit nm, _ => by cases nm; rfl
  | .agg cs, K => by simp only [forceV]; rw [forceL_eq cs]
  | .iface t x, K => by simp only [forceV]; rw [forceV_eq x]
  | .fn f cap, K => by simp only [forceV]; rw [forceL_eq cap]
  | .tup xs, K => by simp only [forceV]; rw [forceL_eq xs]
theorem forceL_eq {R : Type} : ∀ (xs : List KV) (K : List KV → R), forceL xs K = K xs
  | [], _ => rfl
  | x :: xs, K => by simp only [forceL]; rw [forceV_eq x, forceL_eq xs]
end
theorem forceOb_eq {R : Type} (x : KOb) (K : KOb → R) : forceOb x K = K x := by cases x <;> simp [forceOb, forceL_eq]
theorem forceObL_eq {R : Type} : ∀ (xs : List KOb) (K : List KOb → R), forceObL xs K = K xs
  | [], _ => rfl
  | x :: xs, K => by simp only [forceObL]; rw [forceOb_eq x, forceObL_eq xs]
theorem forceSp_eq {R : Type} : ∀ (xs : Sp) (K : Sp → R), forceSp xs K = K xs
  | [], _ => rfl
  | (j, x) :: xs, K => by simp only [forceSp]; rw [forceV_eq x, forceSp_eq xs]
theorem forceSo_eq {R : Type} : ∀ (xs : SpO) (K : SpO → R), forceSo xs K = K xs
  | [], _ => rfl
  | (j, x) :: xs, K => by simp only [forceSo]; rw [forceObL_eq x, forceSo_eq xs]
theorem forceKp_eq {R : Type} : ∀ (xs : List Sp) (K : List Sp → R), forceKp xs K = K xs
  | [], _ => rfl
  | x :: xs, K => by simp only [forceKp]; rw [forceSp_eq x, forceKp_eq xs]
theorem force_eq {R : Type} (ks : KSt) (K : KSt → R) : force ks K = K ks := by
  cases ks; simp only [force]; rw [forceSp_eq, forceSo_eq, forceKp_eq]

structure KSt.Ok (ks : KSt) : Prop where
  tm : SpWf ks.nt ks.tmps
  ob : SoWf ks.nt ks.objs
  kp : ∀ sp ∈ ks.keep, SpWf ks.nt sp

theorem cstK_pv (v : PV) : (cstK v).pv = v := by
  unfold cstK
  split <;> simp [KV.pv, pvL]
theorem cstK_ok {v : PV} (h : okV v = true) : (cstK v).ok := by
  unfold cstK
  split
  · trivial
  · trivial
  · trivial
  · exact h

variable {ks : KSt}

theorem st_ev (h : ks.Ok) (x : RX) : x.ev ks.st.tmps = (x.kv ks.tmps).pv := by
  cases x with
  | t i => exact dense_getD h.tm i
  | c v => exact (cstK_pv v).symm

theorem kv_ok (h : ks.Ok) {x : RX} (hx : okX x = true) : (x.kv ks.tmps).ok := by
  cases x with
  | t i => exact h.tm.get_ok i
  | c v => exact cstK_ok hx

theorem st_look (h : ks.Ok) (nm : Nm) : look ks.st.objs nm = (klook ks.objs nm).map KOb.ob := denseO_look h.ob nm

theorem st_lookF (h : ks.Ok) : look ks.st.objs = fun nm => (klook ks.objs nm).map KOb.ob := funext (st_look h)

/-! ### Let go -/

theorem KOb.off_ob (p : Nm → Bool) {o : KOb} (h : o.ok) : (o.off p).ob = o.ob.sub (subOff p) := by
  cases o with
  | cells ty cs => simp [KOb.off, KOb.ob, Ob.sub, offL_pv p h]
  | whole ty v =>
    have := (okVL_names (okV_cells h)).1
    simp only [KOb.off, KOb.ob, Ob.sub, cellsP]
    rw [subL_none this]
  | _ => rfl
where
  subL_none {xs : List PV} (h : namesL xs = []) : subL (subOff p) xs = xs := by
    induction xs with
    | nil => rfl
    | cons x xs ih =>
      simp [namesL] at h
      simp [subL, sub_none h.1, ih h.2]

theorem KOb.off_ok (p : Nm → Bool) {o : KOb} (h : o.ok) : (o.off p).ok := by
  cases o with
  | cells ty cs => exact offL_ok p h
  | _ => exact h

theorem subL_append (f : Nm → Option (Option Ob)) (xs ys : List PV) : subL f (xs ++ ys) = subL f xs ++ subL f ys := by
  induction xs with
  | nil => rfl
  | cons x xs ih => simp [subL, ih]

theorem flat_map {nt : Nat} {l : List Sp} {f : KV → KV} {g : List PV → List PV} (hg : g [] = []) (ha : ∀ xs ys, g (xs ++ ys) = g xs ++ g ys) (h : ∀ sp ∈ l, dense nt (spMap f sp) = g (dense nt sp)) :
    (l.map (spMap f)).flatMap (dense nt) = g (l.flatMap (dense nt)) := by
  induction l with
  | nil => simp [hg]
  | cons x l ih =>
    simp only [List.map_cons, List.flatMap_cons, ha]
    rw [h x (by simp), ih fun sp hsp => h sp (by simp [hsp])]

theorem koff_st (p : Nm → Bool) (h : ks.Ok) : (koffSt p ks).st = subSt (subOff p) ks.st := by
  unfold koffSt KSt.st subSt
  simp only
  rw [dense_map h.tm (by simp [KV.off]) (fun x hx => KV.off_pv p hx), denseO_map h.ob (fun o ho => KOb.off_ob p ho),
    flat_map (g := subL (subOff p)) rfl (subL_append _) fun sp hsp => dense_map (h.kp sp hsp) (by simp [KV.off]) fun x hx => KV.off_pv p hx]

theorem koff_ok (p : Nm → Bool) (h : ks.Ok) : (koffSt p ks).Ok where
  tm := h.tm.map fun x hx => KV.off_ok p hx
  ob := h.ob.map fun x hx => KOb.off_ok p hx
  kp sp hsp := by
    obtain ⟨q, hq, rfl⟩ := List.mem_map.1 hsp
    exact (h.kp q hq).map fun x hx => KV.off_ok p hx

/-! ### Read for good -/

theorem KOb.close_ob (g : Nm → Option Ob) {o : KOb} (h : o.ok) : o.close g = o.ob.sub (subCl g) := by
  cases o with
  | cells ty cs => simp [KOb.close, KOb.ob, Ob.sub, closeL_pv g h]
  | whole ty v =>
    have := (okVL_names (okV_cells h)).1
    simp only [KOb.close, KOb.ob, Ob.sub, cellsP]
    rw [subL_none this]
  | _ => rfl
where
  subL_none {xs : List PV} (h : namesL xs = []) : subL (subCl g) xs = xs := by
    induction xs with
    | nil => rfl
    | cons x xs ih =>
      simp [namesL] at h
      simp [subL, sub_none h.1, ih h.2]

theorem kclosed_eq {σ : Nm → Option KOb} (hσ : ∀ nm o, σ nm = some o → o.ok) : ∀ (d : Nat) (nm : Nm), kclosed σ d nm = (σ nm).map fun o => closeOb (fun nm => (σ nm).map KOb.ob) d o.ob := by
  intro d
  induction d with
  | zero =>
    intro nm
    unfold kclosed
    cases h : σ nm with
    | none => rfl
    | some o => simp only [Option.map_some]; rw [KOb.close_ob _ (hσ _ _ h)]; rfl
  | succ d ih =>
    intro nm
    unfold kclosed
    cases h : σ nm with
    | none => rfl
    | some o =>
      simp only [Option.map_some]
      rw [KOb.close_ob _ (hσ _ _ h)]
      congr 1
      unfold closeOb
      congr 1
      funext m
      unfold subCl
      rw [ih m, Option.map_map]
      rfl

theorem closeOb_shut_arr (σ : Nm → Option Ob) (d : Nat) (o : Ob) : (∀ ty cs, o ≠ .cells ty cs) → closeOb σ d o = o := by
  intro h
  cases d <;> cases o <;> simp [closeOb, Ob.sub] <;> exact absurd rfl (h _ _)

/-- No yields in any cells. -/
def quietO (σ : Nm → Option KOb) : Prop := ∀ nm ty cs, σ nm = some (.cells ty cs) → khasYL cs = false

theorem kclosed_shut {σ : Nm → Option KOb} (hσ : ∀ nm o, σ nm = some o → o.ok) (hq : quietO σ) : ∀ (d : Nat) (nm : Nm) (ob : Ob), kclosed σ d nm = some ob → ob.shut := by
  intro d
  induction d with
  | zero =>
    intro nm ob h
    unfold kclosed at h
    cases ho : σ nm with
    | none => rw [ho] at h; cases h
    | some o =>
      rw [ho] at h; cases h
      have hok := hσ _ _ ho
      cases o with
      | cells ty cs => exact (closeL_ok (fun _ _ h => by cases h) hok (hq _ _ _ ho))
      | whole ty v => exact (okV_cells hok)
      | arr k kt xs => exact hok
      | map es => exact hok
      | siter s pos => trivial
  | succ d ih =>
    intro nm ob h
    unfold kclosed at h
    cases ho : σ nm with
    | none => rw [ho] at h; cases h
    | some o =>
      rw [ho] at h; cases h
      have hok := hσ _ _ ho
      cases o with
      | cells ty cs => exact (closeL_ok ih hok (hq _ _ _ ho))
      | whole ty v => exact (okV_cells hok)
      | arr k kt xs => exact hok
      | map es => exact hok
      | siter s pos => trivial

theorem KOb.frz_ob (p : Nm → Bool) (g : Nm → Option Ob) {o : KOb} (h : o.ok) : (o.frz p g).ob = o.ob.sub (subFrz p g) := by
  cases o with
  | cells ty cs => simp [KOb.frz, KOb.ob, Ob.sub, frzL_pv p g h]
  | whole ty v =>
    have := (okVL_names (okV_cells h)).1
    simp only [KOb.frz, KOb.ob, Ob.sub, cellsP]
    rw [subL_none this]
  | _ => rfl
where
  subL_none {xs : List PV} (h : namesL xs = []) : subL (subFrz p g) xs = xs := by
    induction xs with
    | nil => rfl
    | cons x xs ih =>
      simp [namesL] at h
      simp [subL, sub_none h.1, ih h.2]

theorem KOb.frz_ok {p : Nm → Bool} {g : Nm → Option Ob} (hg : ∀ nm ob, g nm = some ob → ob.shut) {o : KOb} (h : o.ok) : (o.frz p g).ok := by
  cases o with
  | cells ty cs => exact frzL_ok hg h
  | _ => exact h

theorem kputs_ok {nt : Nat} : ∀ (R : List Nm) {l : SpO}, SoWf nt l → SoWf nt (R.foldl (fun objs nm => kput objs nm kdead) l) := by
  intro R
  induction R with
  | nil => intro l h; exact h
  | cons nm R ih => intro l h; exact ih (h.kput nm (o := kdead) rfl)

theorem kputs_st {nt : Nat} : ∀ (R : List Nm) {l : SpO}, SoWf nt l → denseO nt (R.foldl (fun objs nm => kput objs nm kdead) l) = R.foldl (fun objs nm => putOb objs nm dead) (denseO nt l) := by
  intro R
  induction R with
  | nil => intro l _; rfl
  | cons nm R ih =>
    intro l h
    simp only [List.foldl_cons]
    rw [ih (h.kput nm (o := kdead) rfl), denseO_kput h]
    rfl

theorem klook_okF (h : ks.Ok) : ∀ nm o, klook ks.objs nm = some o → o.ok := fun _ _ ho => klook_ok h.ob ho

theorem kclosed_st (h : ks.Ok) (nm : Nm) : subCl (kclosed (klook ks.objs) deepest) nm = closed (look ks.st.objs) nm := by
  unfold subCl closed
  rw [kclosed_eq (klook_okF h), st_lookF h, Option.map_map]
  rfl

theorem kquiet_ok {l : SpO} (h : kquiet l = true) : ∀ p ∈ l, ∀ ty cs, KOb.cells ty cs ∈ p.2 → khasYL cs = false := by
  induction l with
  | nil => intro p hp; cases hp
  | cons q l ih =>
    obtain ⟨k, u⟩ := q
    simp only [kquiet, Bool.and_eq_true] at h
    intro p hp ty cs hcs
    rcases List.mem_cons.1 hp with rfl | hp
    · have := List.all_eq_true.1 h.1 _ hcs
      simpa using this
    · exact ih h.2 p hp ty cs hcs

theorem quiet_look {l : SpO} (h : kquiet l = true) : quietO (klook l) := by
  intro nm ty cs ho
  have hm : soGet l nm.1 ≠ [] := by intro h1; unfold klook at ho; rw [h1] at ho; cases ho
  exact kquiet_ok h _ (soGet_mem hm) ty cs (List.mem_of_getElem? ho)

theorem kfreeze_gen {l : KSt} (hl : l.Ok) {σ : Nm → Option KOb} (hσ : ∀ nm o, σ nm = some o → o.ok) (hq : quietO σ) (R : List Nm) :
    (kfreeze σ R l).st = freezeAll (fun nm => (σ nm).map KOb.ob) R l.st := by
  have hf : subFrz (fun m => R.contains m) (kclosed σ deepest) = fun m => if R.contains m = true then closed (fun nm => (σ nm).map KOb.ob) m else none := by
    funext m
    unfold subFrz closed
    rw [kclosed_eq hσ, Option.map_map]
    rfl
  unfold kfreeze freezeAll subSt KSt.st
  simp only
  rw [dense_map hl.tm (g := subFrz (fun m => R.contains m) (kclosed σ deepest)) (by simp [KV.frz]) (fun x hx => KV.frz_pv _ _ hx),
    kputs_st R (hl.ob.map fun x hx => KOb.frz_ok (kclosed_shut hσ hq deepest) hx), denseO_map hl.ob (fun o ho => KOb.frz_ob _ _ ho),
    flat_map (g := subL (subFrz (fun m => R.contains m) (kclosed σ deepest))) rfl (subL_append _) fun sp hsp => dense_map (hl.kp sp hsp) (by simp [KV.frz]) fun x hx => KV.frz_pv _ _ hx, hf]

theorem kfreeze_ok {l : KSt} (hl : l.Ok) {σ : Nm → Option KOb} (hσ : ∀ nm o, σ nm = some o → o.ok) (hq : quietO σ) (R : List Nm) : (kfreeze σ R l).Ok where
  tm := hl.tm.map fun x hx => KV.frz_ok (kclosed_shut hσ hq deepest) hx
  ob := kputs_ok R (hl.ob.map fun x hx => KOb.frz_ok (kclosed_shut hσ hq deepest) hx)
  kp sp hsp := by
    obtain ⟨q, hq', rfl⟩ := List.mem_map.1 hsp
    exact (hl.kp q hq').map fun x hx => KV.frz_ok (kclosed_shut hσ hq deepest) hx

/-! ### What an operation does -/

structure KOut.Ok (o : KOut) : Prop where
  v : o.v.ok
  new : ∀ x ∈ o.new, x.ok
  upd : ∀ nm x, o.upd = some (nm, x) → x.ok
  ups : ∀ p ∈ o.ups, p.2.ok := by simp

def KOut.out (o : KOut) : Out := { v := o.v.pv, new := o.new.map KOb.ob, upd := o.upd.map fun p => (p.1, p.2.ob), kill := o.kill, frz := o.frz, gone := o.gone, ups := o.ups.map fun p => (p.1, p.2.ob), io := o.io, slot := o.slot }

def bupd (u : Option (Nm × Ob)) (st : St) : St :=
  match u with
  | some (nm, ob) => { st with objs := putOb st.objs nm ob }
  | none => st
def bkill (k : Option Nm) (st : St) : St :=
  match k with
  | some nm => subSt (fun m => if m = nm then some none else none) st
  | none => st
def bset (dst : Option Nat) (v : PV) (new : List Ob) (st : St) : St :=
  match dst with
  | some d => { st with tmps := st.tmps.set d v, objs := if new.isEmpty then st.objs else st.objs.set d new }
  | none => st

def bgone (l : List Nm) (st : St) : St := if l.isEmpty then st else subSt (fun m => if l.contains m then some none else none) st
def bturn (l : List (Nm × Ob)) (st : St) : St := if l.isEmpty then st else { st with objs := putObs l st.objs }

def bext (sl : Option Nat) (new : List Ob) (st : St) : St :=
  match sl with
  | some r => { st with objs := st.objs.set r (st.objs.getD r [] ++ new) }
  | none => st
def newAtO (sl : Option Nat) (new : List Ob) : List Ob :=
  match sl with
  | some _ => []
  | none => new

theorem apply_eq (st : St) (dst : Option Nat) (o : Out) : apply st dst o = bset dst o.v (newAtO o.slot o.new) (bext o.slot o.new <| bturn o.ups (bgone o.gone (if o.frz.isEmpty then bkill o.kill (bupd o.upd st) else freezeAll (look st.objs) o.frz (bkill o.kill (bupd o.upd st))))) := by
  unfold apply bset bkill bupd bgone bturn bext newAtO
  cases dst <;> cases o.upd <;> cases o.kill <;> cases o.slot <;> rfl

theorem kups_ok {nt : Nat} : ∀ (l : List (Nm × KOb)) {σ : SpO}, (∀ p ∈ l, p.2.ok) → SoWf nt σ → SoWf nt (kups l σ) := by
  intro l
  induction l with
  | nil => intro σ _ h; exact h
  | cons p l ih =>
    obtain ⟨nm, o⟩ := p
    intro σ hl h
    exact ih (fun q hq => hl q (List.mem_cons_of_mem _ hq)) (h.kput nm (hl (nm, o) List.mem_cons_self))
theorem kups_st {nt : Nat} : ∀ (l : List (Nm × KOb)) {σ : SpO}, (∀ p ∈ l, p.2.ok) → SoWf nt σ → denseO nt (kups l σ) = putObs (l.map fun p => (p.1, p.2.ob)) (denseO nt σ) := by
  intro l
  induction l with
  | nil => intro σ _ h; rfl
  | cons p l ih =>
    obtain ⟨nm, o⟩ := p
    intro σ hl h
    show denseO nt (kups l (kput σ nm o)) = putObs (l.map fun p => (p.1, p.2.ob)) (putOb (denseO nt σ) nm o.ob)
    rw [ih (fun q hq => hl q (List.mem_cons_of_mem _ hq)) (h.kput nm (hl (nm, o) List.mem_cons_self)), denseO_kput h]

theorem kapply_both (h : ks.Ok) (hq : kquiet ks.objs = true) (dst : Option Nat) {o : KOut} (ho : o.Ok) : (kapply ks dst o).st = apply ks.st dst o.out ∧ (kapply ks dst o).Ok := by
  rw [apply_eq]
  unfold kapply KOut.out
  simp only
  have h1 : (kupd o.upd ks).Ok ∧ (kupd o.upd ks).st = bupd (o.upd.map fun p => (p.1, p.2.ob)) ks.st := by
    cases hu : o.upd with
    | none => exact ⟨h, rfl⟩
    | some p =>
      obtain ⟨nm, ob⟩ := p
      refine ⟨⟨h.tm, h.ob.kput nm (ho.upd _ _ hu), h.kp⟩, ?_⟩
      simp only [Option.map_some, kupd, bupd, KSt.st]
      rw [denseO_kput h.ob]
  rw [← h1.2]
  generalize kupd o.upd ks = k1 at h1 ⊢
  have h2 : (kkill o.kill k1).Ok ∧ (kkill o.kill k1).st = bkill o.kill k1.st := by
    cases hu : o.kill with
    | none => exact ⟨h1.1, rfl⟩
    | some nm =>
      refine ⟨koff_ok _ h1.1, ?_⟩
      simp only [kkill, bkill]
      rw [koff_st _ h1.1]
      congr 1
      funext m
      unfold subOff
      by_cases hm : m = nm
      · simp [hm]
      · simp [hm]
  rw [← h2.2]
  generalize kkill o.kill k1 = k2 at h2 ⊢
  have h3 : (kfrzs (klook ks.objs) o.frz k2).Ok ∧ (kfrzs (klook ks.objs) o.frz k2).st = (if o.frz.isEmpty = true then k2.st else freezeAll (look ks.st.objs) o.frz k2.st) := by
    cases hf : o.frz with
    | nil => exact ⟨h2.1, rfl⟩
    | cons nm R =>
      refine ⟨kfreeze_ok h2.1 (klook_okF h) (quiet_look hq) _, ?_⟩
      rw [st_lookF h]
      exact kfreeze_gen h2.1 (klook_okF h) (quiet_look hq) _
  rw [← h3.2]
  generalize kfrzs (klook ks.objs) o.frz k2 = k4 at h3 ⊢
  have h5 : (kgone o.gone k4).Ok ∧ (kgone o.gone k4).st = bgone o.gone k4.st := by
    cases hg : o.gone with
    | nil => exact ⟨h3.1, rfl⟩
    | cons nm l =>
      refine ⟨koff_ok _ h3.1, ?_⟩
      simp only [kgone, bgone, List.isEmpty_cons, Bool.false_eq_true, if_false]
      rw [koff_st _ h3.1]
      congr 1
  rw [← h5.2]
  generalize kgone o.gone k4 = k5 at h5 ⊢
  have h6 : (kturn o.ups k5).Ok ∧ (kturn o.ups k5).st = bturn (o.ups.map fun p => (p.1, p.2.ob)) k5.st := by
    refine ⟨⟨h5.1.tm, kups_ok _ ho.ups h5.1.ob, h5.1.kp⟩, ?_⟩
    have : ∀ (l : List (Nm × Ob)) (s : St), bturn l s = { s with objs := putObs l s.objs } := by
      intro l s
      unfold bturn
      split
      · rename_i hl; rw [List.isEmpty_iff.1 hl]; rfl
      · rfl
    rw [this]
    simp only [kturn, KSt.st]
    rw [kups_st _ ho.ups h5.1.ob]
  rw [← h6.2]
  generalize kturn o.ups k5 = k6 at h6 ⊢
  have h7 : (kext o.slot o.new k6).Ok ∧ (kext o.slot o.new k6).st = bext o.slot (o.new.map KOb.ob) k6.st := by
    cases hs : o.slot with
    | none => exact ⟨h6.1, rfl⟩
    | some r =>
      simp only [kext, bext]
      cases hr : Nat.blt r k6.nt with
      | true =>
        have hr' : r < k6.nt := by simpa [Nat.blt_eq] using hr
        refine ⟨⟨h6.1.tm, h6.1.ob.put hr' fun x hx => ?_, h6.1.kp⟩, ?_⟩
        · rcases List.mem_append.1 hx with hx | hx
          · exact h6.1.ob.get_ok hx
          · exact ho.new x hx
        · unfold KSt.st
          simp only
          rw [denseO_put, List.map_append]
          congr 3
          rw [List.getD_eq_getElem?_getD, denseO_get?, if_pos hr']
          rfl
      | false =>
        have hr' : ¬ r < k6.nt := by intro h; rw [show Nat.blt r k6.nt = true by simpa [Nat.blt_eq] using h] at hr; cases hr
        refine ⟨h6.1, ?_⟩
        unfold KSt.st
        simp only
        rw [List.set_eq_of_length_le (by rw [denseO_length]; omega)]
  rw [← h7.2]
  have hnew2 : newAtO o.slot (o.new.map KOb.ob) = (newAt o.slot o.new).map KOb.ob := by cases o.slot <;> rfl
  rw [hnew2]
  have honew : ∀ x ∈ newAt o.slot o.new, x.ok := by
    cases o.slot with
    | none => exact ho.new
    | some r => intro x hx; cases hx
  generalize newAt o.slot o.new = nw at honew ⊢
  generalize kext o.slot o.new k6 = k3 at h7 ⊢
  obtain ⟨ok3, _⟩ := h7
  cases dst with
  | none => exact ⟨rfl, ok3⟩
  | some d =>
    simp only [kset, bset]
    cases hd : Nat.blt d k3.nt with
    | true =>
      have hd' : d < k3.nt := by simpa [Nat.blt_eq] using hd
      refine ⟨?_, ?_⟩
      · unfold KSt.st
        simp only
        rw [dense_set]
        cases hn : nw with
        | nil => simp
        | cons x xs => simp [denseO_put]
      · refine ⟨ok3.tm.set hd' ho.v, ?_, ok3.kp⟩
        simp only
        cases hn : nw with
        | nil => exact ok3.ob
        | cons x xs => rw [hn] at honew; exact ok3.ob.put hd' honew
    | false =>
      have hd' : ¬ d < k3.nt := by intro h; rw [show Nat.blt d k3.nt = true by simpa [Nat.blt_eq] using h] at hd; cases hd
      refine ⟨?_, ok3⟩
      unfold KSt.st
      simp only
      rw [List.set_eq_of_length_le (by rw [dense_length]; omega)]
      split
      · rfl
      · rw [List.set_eq_of_length_le (by rw [denseO_length]; omega)]

end Go.Ab

/-
  Operations on what has no names.
-/
namespace Go.Ab

theorem fill_map (T : List PV) : ∀ (ps : List (Nat × Nat × RX)) (z : List PV), fillPV [] z (ps.map fun p => (p.1, p.2.1, .c (p.2.2.ev T))) = fillPV T z ps := by
  intro ps
  induction ps with
  | nil => intro z; rfl
  | cons p ps ih =>
    obtain ⟨off, n, x⟩ := p
    intro z
    simp only [List.map_cons, fillPV]
    rw [ih]
    rfl

theorem evO_map (T : List PV) (x : Option RX) : evO [] (x.map fun y => .c (y.ev T)) = evO T x := by cases x <;> rfl

theorem exec_inst (d : Nat) (σ : Nm → Option Ob) (T : List PV) (op : ROp) (hg : isG op = true) : exec d σ [] (op.mapX fun x => .c (x.ev T)) = exec d σ T op := by
  cases op with
  | build z ps => simp only [ROp.mapX, exec]; rw [fill_map T]
  | slice k x lo hi mx => simp only [ROp.mapX, exec]; rw [evO_map, evO_map, evO_map]; rfl
  | strSlice x lo hi => simp only [ROp.mapX, exec]; rw [evO_map, evO_map]; rfl
  | minmax mx xs => simp only [ROp.mapX, exec, List.map_map]; rfl
  | mov | pick | box | alloc | mkSl | store | mkI | mkF | mkMap | insert | mkS | append | copy | call | iter | next | bad => simp [isG] at hg
  | _ => rfl

theorem optmap_congr {f g : RX → RX} {o : Option RX} (h : ∀ a ∈ o.toList, f a = g a) : o.map f = o.map g := by
  cases o with
  | none => rfl
  | some a => simp [h a (by simp)]

theorem mapX_congr {f g : RX → RX} (op : ROp) (hg : isG op = true) (h : ∀ x ∈ op.xs, f x = g x) : op.mapX f = op.mapX g := by
  cases op with
  | build z ps =>
    simp only [ROp.mapX]
    congr 1
    apply List.map_congr_left
    intro p hp
    rw [h p.2.2 (List.mem_map.2 ⟨p, hp, rfl⟩)]
  | slice k x lo hi mx =>
    simp only [ROp.mapX, ROp.xs] at h ⊢
    rw [h x (by simp), optmap_congr (o := lo) fun a ha => h a (by simp [ha]), optmap_congr (o := hi) fun a ha => h a (by simp [ha]), optmap_congr (o := mx) fun a ha => h a (by simp [ha])]
  | strSlice x lo hi =>
    simp only [ROp.mapX, ROp.xs] at h ⊢
    rw [h x (by simp), optmap_congr (o := lo) fun a ha => h a (by simp [ha]), optmap_congr (o := hi) fun a ha => h a (by simp [ha])]
  | minmax mx xs => simp only [ROp.mapX]; congr 1; exact List.map_congr_left h
  | mov | pick | box | alloc | mkSl | store | mkI | mkF | mkMap | insert | mkS | append | copy | call | iter | next | bad => simp [isG] at hg
  | bin op c cst x y => simp only [ROp.mapX, ROp.xs] at h ⊢; rw [h x (by simp), h y (by simp)]
  | lookup c z ok x k => simp only [ROp.mapX, ROp.xs] at h ⊢; rw [h x (by simp), h k (by simp)]
  | idxAddr k x i => simp only [ROp.mapX, ROp.xs] at h ⊢; rw [h x (by simp), h i (by simp)]
  | idxAddrA k l x i => simp only [ROp.mapX, ROp.xs] at h ⊢; rw [h x (by simp), h i (by simp)]
  | strIdx x i => simp only [ROp.mapX, ROp.xs] at h ⊢; rw [h x (by simp), h i (by simp)]
  | load n ag x | nilck x | un op x | conv k x | toBytes x | ofBytes x | ofRune x | strId x | fieldAddr off x | field off n ag x | extract j x | len c x | tassert t z ok x => simp only [ROp.mapX, ROp.xs] at h ⊢; rw [h x (by simp)]

theorem reach_nil' (σ : Nm → Option Ob) : ∀ d, reach σ d [] = [] := by
  intro d; induction d with
  | zero => rfl
  | succ d ih => simp [reach, ih]

theorem exec_g_local {d : Nat} {σ : Nm → Option Ob} {T : List PV} {op : ROp} (hg : isG op = true) (hx : ∀ x ∈ op.xs, okV (x.ev T) = true) : exec d σ T op = exec 0 (fun _ => none) T op := by
  have h1 : exec d σ T op = exec 0 σ T op := by cases op <;> simp [isG] at hg <;> rfl
  rw [h1]
  refine exec_congr op (fun _ _ => rfl) ?_
  have : namesL (op.xs.map (RX.ev T)) = [] := (okVL_names (okVL_iff.2 fun v hv => by
    obtain ⟨x, hx', rfl⟩ := List.mem_map.1 hv
    exact hx x hx')).1
  rw [this]
  intro nm hnm
  rw [reach_nil'] at hnm; cases hnm

theorem okV_bool (b : Bool) : okV (.bool b) = true := rfl
theorem okV_int (k : IntKind) (n : Int) : okV (.int k n) = true := rfl
theorem okV_str (s : List UInt8) : okV (.str s) = true := rfl

theorem okV_fill {T : List PV} : ∀ (ps : List (Nat × Nat × RX)) (z cs : List PV), okVL z = true → (∀ x ∈ ps.map (·.2.2), okV (x.ev T) = true) → fillPV T z ps = some cs → okVL cs = true := by
  intro ps
  induction ps with
  | nil => intro z cs hz _ h; simp [fillPV] at h; subst h; exact hz
  | cons p ps ih =>
    obtain ⟨off, n, y⟩ := p
    intro z cs hz hp h
    simp only [fillPV] at h
    obtain ⟨_, h⟩ := chk_inv h
    refine ih _ cs ?_ (fun x hx => hp x (by simp only [List.map_cons, List.mem_cons]; exact .inr hx)) h
    exact okVL_append (okVL_append (okVL_take hz _) (okV_cells (hp y (by simp)))) (okVL_drop hz _)

theorem okV_sel {cs : List PV} (h : okVL cs = true) {o n : Nat} {ag : Bool} {v : PV} (hs : sel cs o n ag = some v) : okV v = true := by
  unfold sel at hs
  split at hs
  · obtain ⟨_, hs⟩ := chk_inv hs
    cases hs
    simpa [okV] using okVL_take (okVL_drop h o) n
  · exact okVL_get h hs

theorem okV_find {k : PV} : ∀ {es : List PV} {v : PV}, findE k es = some (some v) → okVL es = true → okV v = true
  | [], v, h, _ => by simp [findE] at h
  | [_], v, h, _ => by simp [findE] at h
  | a :: u :: es, v, h, he => by
    simp only [okVL, Bool.and_eq_true] at he
    simp only [findE] at h
    split at h
    · cases h; exact he.2.1
    · exact okV_find h he.2.2
    · cases h

theorem okV_sliceOf {k : Nat} {x v : PV} {lo hi mx : Option PV} (hx : okV x = true) (h : sliceOf k x lo hi mx = some v) : okV v = true := by
  cases x with
  | sl k' xs full =>
    simp only [sliceOf] at h
    split at h
    · cases h
    split at h
    · cases h
    split at h
    · cases h
    obtain ⟨_, h⟩ := chk_inv h
    cases h
    simp only [okV] at hx ⊢
    exact okVL_drop (okVL_take hx _) _
  | nilS =>
    simp only [sliceOf] at h
    split at h
    · cases h
    split at h
    · cases h
    split at h
    · cases h
    obtain ⟨_, h⟩ := chk_inv h
    cases h; rfl
  | arr nm k' o n => simp [okV] at hx
  | _ => simp [sliceOf] at h

theorem okV_bytes (s : List UInt8) : okVL (byteList s) = true := okVL_iff.2 fun x hx => by
  obtain ⟨b, _, rfl⟩ := List.mem_map.1 hx
  rfl

theorem okV_binPV {op : BinOp} {c : TC} {cst : Bool} {x y v : PV} (h : binPV op c cst x y = some v) : okV v = true := by
  have hI : ∀ {op k a b v}, binInt op k a b = some v → okV v = true := by
    intro op k a b v h
    unfold binInt at h
    split at h
    all_goals first
      | (cases h; rfl)
      | (obtain ⟨_, h⟩ := chk_inv h; cases h; rfl)
      | (obtain ⟨b, _, rfl⟩ := Option.map_eq_some_iff.1 h; rfl)
  have hS : ∀ {op a b v}, binStr op a b = some v → okV v = true := by
    intro op a b v h
    unfold binStr at h
    split at h
    all_goals first
      | (cases h; rfl)
      | (obtain ⟨_, h⟩ := chk_inv h; cases h; rfl)
      | cases h
  unfold binPV at h
  split at h
  · split at h
    · obtain ⟨_, h⟩ := chk_inv h; cases h; rfl
    · obtain ⟨_, h⟩ := chk_inv h; cases h; rfl
    · obtain ⟨_, h⟩ := chk_inv h; exact hI h
  · exact hS h
  · split at h
    · obtain ⟨b, _, rfl⟩ := Option.map_eq_some_iff.1 h; rfl
    · obtain ⟨b, _, rfl⟩ := Option.map_eq_some_iff.1 h; rfl
    · cases h

structure Plain (o : Out) : Prop where
  eq : o = { v := o.v }
  ok : okV o.v = true

theorem Plain.mk' {v : PV} (h : okV v = true) : Plain { v := v } := ⟨rfl, h⟩

theorem plain_map {x : Option PV} {out : Out} (h : (x.map fun v => ({ v := v } : Out)) = some out) (hv : ∀ v, x = some v → okV v = true) : Plain out := by
  obtain ⟨v, hx, rfl⟩ := Option.map_eq_some_iff.1 h
  exact .mk' (hv v hx)

theorem exec_plain {T : List PV} {op : ROp} (hg : isG op = true) (hx : ∀ x ∈ op.xs, okV (x.ev T) = true) (hz : ∀ z ps, op = .build z ps → okVL z = true) (hl : ∀ c z ok x k, op = .lookup c z ok x k → okV z = true)
    (ht : ∀ t z ok x, op = .tassert t z ok x → okV z = true) {out : Out} (h : exec 0 (fun _ => none) T op = some out) : Plain out := by
  cases op with
  | mov | pick | box | alloc | mkSl | store | mkI | mkF | mkMap | insert | mkS | append | copy | call | iter | next | bad => simp [isG] at hg
  | build z ps =>
    simp only [exec] at h
    split at h
    · rename_i cs hc
      cases h
      exact .mk' (by simpa [okV] using okV_fill ps z cs (hz z ps rfl) hx hc)
    · cases h
  | load n ag x =>
    have hv := hx x (by simp [ROp.xs])
    simp only [exec] at h
    split at h
    · rename_i e; rw [e] at hv; simp [okV] at hv
    · rename_i e; rw [e] at hv
      exact plain_map h fun v hs => okV_sel (by simpa [okV] using hv) hs
    · rename_i e; rw [e] at hv; simp [okV] at hv
    · cases h
  | nilck x =>
    have hv := hx x (by simp [ROp.xs])
    simp only [exec] at h
    split at h
    all_goals first
      | (rename_i e; rw [e] at hv; cases h; exact .mk' hv)
      | cases h
  | bin op c cst x y => simp only [exec] at h; exact plain_map h fun v => okV_binPV
  | un op x =>
    simp only [exec] at h
    split at h
    · cases h; exact .mk' rfl
    · cases h; exact .mk' rfl
    · cases h
  | conv k x => simp only [exec] at h; split at h; (cases h; exact .mk' rfl); cases h
  | toBytes x =>
    simp only [exec] at h; split at h
    · obtain ⟨_, h⟩ := chk_inv h; cases h; exact .mk' (by simpa [okV] using okV_bytes _)
    · cases h
  | ofBytes x =>
    simp only [exec] at h; split at h
    · split at h
      · cases h; exact .mk' rfl
      · cases h
    · cases h
  | ofRune x => simp only [exec] at h; split at h; (cases h; exact .mk' rfl); cases h
  | strId x => simp only [exec] at h; split at h; (cases h; exact .mk' rfl); cases h
  | lookup c z ok x k =>
    have hv := hx x (by simp [ROp.xs])
    have hz := hl c z ok x k rfl
    simp only [exec] at h
    have hes : ∀ es, (match x.ev T with | .mp nm => (none : Option (List PV)) | .imap es => some es | .nilM => some [] | _ => none) = some es → okVL es = true := by
      intro es he
      cases hq : x.ev T <;> rw [hq] at he hv <;> simp only [reduceCtorEq, Option.some.injEq] at he
      · subst he; rfl
      · subst he; simpa [okV] using hv
    split at h
    · cases h
    · rename_i es he
      split at h
      · cases h
      · rename_i r hr
        obtain ⟨_, h⟩ := chk_inv h
        cases h
        have hes' : okVL es = true := hes es (by revert he; cases x.ev T <;> exact id)
        have hrz : okV (r.getD z) = true := by
          cases r with
          | none => exact hz
          | some v => exact okV_find hr hes'
        refine .mk' ?_
        split
        · simp [okV, okVL, hrz]
        · exact hrz
  | slice k x lo hi mx => simp only [exec] at h; exact plain_map h fun v hs => okV_sliceOf (hx x (by simp [ROp.xs])) hs
  | strSlice x lo hi =>
    simp only [exec] at h
    split at h
    · split at h
      · cases h
      · split at h
        · cases h
        · cases h; exact .mk' rfl
    · cases h
  | fieldAddr off x =>
    have hv := hx x (by simp [ROp.xs])
    simp only [exec] at h
    split at h
    · rename_i e; rw [e] at hv; simp [okV] at hv
    · rename_i e; rw [e] at hv; obtain ⟨_, h⟩ := chk_inv h; cases h; exact .mk' (by simpa [okV] using hv)
    · rename_i e; rw [e] at hv; simp [okV] at hv
    · cases h
  | field off n ag x =>
    have hv := hx x (by simp [ROp.xs])
    simp only [exec] at h
    split at h
    · rename_i e; rw [e] at hv; exact plain_map h fun v hs => okV_sel (by simpa [okV] using hv) hs
    · cases h
  | idxAddr k x i =>
    have hv := hx x (by simp [ROp.xs])
    simp only [exec] at h
    split at h
    · rename_i e; rw [e] at hv
      split at h
      · rename_i y hy
        obtain ⟨_, h⟩ := chk_inv h; cases h
        exact .mk' (by simpa [okV] using okV_cells (okVL_get (by simpa [okV] using hv) hy))
      · cases h
    · rename_i e; rw [e] at hv; simp [okV] at hv
    · cases h
  | idxAddrA k l x i =>
    have hv := hx x (by simp [ROp.xs])
    simp only [exec] at h
    split at h
    · rename_i e; rw [e] at hv; obtain ⟨_, h⟩ := chk_inv h; cases h; exact .mk' (by simpa [okV] using hv)
    · rename_i e; rw [e] at hv; simp [okV] at hv
    · cases h
  | strIdx x i =>
    simp only [exec] at h
    split at h
    · split at h
      · cases h; exact .mk' rfl
      · cases h
    · cases h
  | extract j x =>
    have hv := hx x (by simp [ROp.xs])
    simp only [exec] at h
    split at h
    · rename_i e; rw [e] at hv
      split at h
      · rename_i v hg'
        cases h; exact .mk' (okVL_get (by simpa [okV] using hv) hg')
      · cases h
    · cases h
  | len c x => simp only [exec] at h; obtain ⟨n, _, rfl⟩ := Option.map_eq_some_iff.1 h; exact .mk' rfl
  | minmax mx xs =>
    simp only [exec] at h
    split at h
    · obtain ⟨n, _, rfl⟩ := Option.map_eq_some_iff.1 h; exact .mk' rfl
    · cases h
  | tassert t z ok x =>
    have hv := hx x (by simp [ROp.xs])
    have hz := ht t z ok x rfl
    simp only [exec] at h
    split at h
    · rename_i e; rw [e] at hv
      split at h
      · cases h
        refine .mk' ?_
        simp only [okV] at hv
        split
        · simp [okV, okVL, hv]
        · exact hv
      · obtain ⟨_, h⟩ := chk_inv h; cases h; exact .mk' (by simp [okV, okVL, hz])
    · obtain ⟨_, h⟩ := chk_inv h; cases h; exact .mk' (by simp [okV, okVL, hz])
    · cases h

end Go.Ab
