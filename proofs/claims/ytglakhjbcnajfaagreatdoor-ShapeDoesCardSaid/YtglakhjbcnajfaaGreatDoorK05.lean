/-
  Part 5 of a proof: a machine of our own for the given program, its laws, and what it says of the program. Nothing here is a claim by itself.
-/
import Derived.Test.YtglakhjbcnajfaaGreatDoorK04
import Derived.Test.YtglakhjbcnajfaaGreatDoorK03
import Derived.Test.YtglakhjbcnajfaaGreatDoorProg
import Derived.Test.YtglakhjbcnajfaaGreatDoorK01
import Derived.KernelRfl
set_option linter.all false

namespace Go.Ab
variable {cfg : KCfg} {tab : FuncId → Option RFn}
theorem exec_pure {d : Nat} {σ : Nm → Option Ob} {T : List PV} {op : ROp} (hp : pureOp op = true) {out : Out} (h : exec d σ T op = some out) : out = { v := out.v } := by
  have hm : ∀ {x : Option PV}, (x.map fun v => ({ v := v } : Out)) = some out → out = { v := out.v } := by
    intro x hx
    obtain ⟨v, _, rfl⟩ := Option.map_eq_some_iff.1 hx
    rfl
  have hcm : ∀ {b : Bool} {x : Option PV}, chk b (x.map fun v => ({ v := v } : Out)) = some out → out = { v := out.v } := by
    intro b x hx
    exact hm (chk_inv hx).2
  have hc : ∀ {b : Bool} {v : PV}, chk b (some ({ v := v } : Out)) = some out → out = { v := out.v } := by
    intro b v hx
    obtain ⟨_, hx⟩ := chk_inv hx
    cases hx; rfl
  cases op with
  | box | alloc | mkSl | store | mkF | mkMap | insert | mkS | append | copy | call | iter | next | bad => simp [pureOp] at hp
  | mov x => cases h; rfl
  | mkI t x => cases h; rfl
  | bin op c cst x y => exact hm h
  | slice k x lo hi mx => exact hm h
  | len c x =>
    simp only [exec] at h
    obtain ⟨n, _, rfl⟩ := Option.map_eq_some_iff.1 h
    rfl
  | pick c a b | conv k x | ofRune x | strId x | un op x | nilck x => simp only [exec] at h; split at h <;> first | (cases h; rfl) | cases h
  | build z ps => simp only [exec] at h; split at h <;> first | (cases h; rfl) | cases h
  | toBytes x => simp only [exec] at h; split at h <;> first | exact hc h | cases h
  | field off n ag x => simp only [exec] at h; split at h <;> first | exact hm h | cases h
  | fieldAddr off x => simp only [exec] at h; split at h <;> first | exact hc h | (cases h; rfl) | cases h
  | idxAddrA k l x i => simp only [exec] at h; split at h <;> first | exact hc h | cases h
  | ofBytes x | strIdx x i | extract j x | minmax mx xs | idxAddr k x i | strSlice x lo hi =>
    simp only [exec] at h
    split at h
    all_goals first
      | (cases h; done)
      | exact hc h
      | (obtain ⟨n, _, rfl⟩ := Option.map_eq_some_iff.1 h; rfl)
      | (split at h
         all_goals first
           | (cases h; done)
           | exact hc h
           | (cases h; rfl)
           | (split at h
              all_goals first
                | (cases h; done)
                | (cases h; rfl)))
  | tassert t z ok x =>
    simp only [exec] at h
    split at h
    · split at h
      · cases h; rfl
      · exact hc h
    · exact hc h
    · cases h
  | lookup c z ok x k =>
    simp only [exec] at h
    split at h
    · cases h
    · split at h
      · cases h
      · exact hc h
  | load n ag x =>
    simp only [exec] at h
    split at h
    · split at h
      · exact hm h
      · cases h
    · exact hm h
    · split at h
      · split at h
        · exact hcm h
        · cases h
      · cases h
    · cases h
theorem apply_plain (st : St) (dst : Option Nat) (v : PV) : apply st dst { v } = bset dst v [] st := by
  rw [apply_eq]; simp [bkill, bupd, bgone, bturn, bext, newAtO]
theorem pure_runs {M : Mach} {E : Type} {h : Handler E} {dep : Nat} {ops : List ROper} : ∀ (l : List ROper), (∀ o ∈ l, pureOp o.op = true) → ∀ {st st' : St} {e e' : E}, runOps M h dep ops l st e = some (st', e') →
    e' = e ∧ st'.objs = st.objs ∧ st'.keep = st.keep ∧ st'.tmps.length = st.tmps.length ∧ ∀ i, i ∉ l.filterMap (·.dst) → st'.tmps[i]? = st.tmps[i]? := by
  intro l
  induction l with
  | nil => intro _ st st' e e' h; cases h; exact ⟨rfl, rfl, rfl, rfl, fun _ _ => rfl⟩
  | cons o rest ih =>
    intro hp st st' e e' h
    simp only [runOps] at h
    split at h
    case h_2 => cases h
    rename_i s1 e1 hs
    have hone : e1 = e ∧ ∃ v, s1 = bset o.dst v [] st := by
      unfold stepG at hs
      split at hs
      · unfold stepOp at hs
        split at hs
        · rename_i out e2 ho
          cases hs
          unfold outOf at ho
          obtain ⟨_, ho⟩ := chk_inv ho
          have hpo := hp o (by simp)
          split at ho
          · rename_i f args hop; rw [hop] at hpo; simp [pureOp] at hpo
          · split at ho
            · rename_i out' hx
              cases ho
              have := exec_pure hpo hx
              refine ⟨rfl, out.v, ?_⟩
              rw [this, apply_plain]
            · cases ho
        · cases hs
      · cases hs; exact ⟨rfl, _, apply_plain _ _ _⟩
      · cases hs
    obtain ⟨rfl, v, rfl⟩ := hone
    obtain ⟨a, b, c, d, f⟩ := ih (fun o' ho' => hp o' (by simp [ho'])) h
    refine ⟨a, ?_, ?_, ?_, ?_⟩
    · rw [b]; cases o.dst <;> rfl
    · rw [c]; cases o.dst <;> rfl
    · rw [d]; cases o.dst <;> simp [bset]
    · intro i hi
      have hi' : i ∉ rest.filterMap (·.dst) := fun hm => hi (by
        simp only [List.mem_filterMap] at hm ⊢
        obtain ⟨o', ho', hd⟩ := hm
        exact ⟨o', by simp [ho'], hd⟩)
      rw [f i hi']
      cases hd : o.dst with
      | none => rfl
      | some t =>
        have hne : t ≠ i := fun e => hi (by
          simp only [List.mem_filterMap]
          exact ⟨o, by simp, by rw [hd, e]⟩)
        simp only [bset]
        rw [List.getElem?_set_ne hne]
theorem tidy_congr {st st' : St} (h1 : st'.objs = st.objs) (h2 : st'.keep = st.keep) (hl : st'.tmps.length = st.tmps.length) {l : List Nat} (h3 : ∀ i, i ∈ l → st'.tmps[i]? = st.tmps[i]?) : tidy (some l) st' = tidy (some l) st := by
  have : keepOnly l st' = keepOnly l st := by
    unfold keepOnly
    obtain ⟨t', o', k'⟩ := st'
    obtain ⟨t, o, k⟩ := st
    simp only at h1 h2 hl h3
    subst h1; subst h2
    have hl : t'.length = t.length := hl
    congr 1
    show (t'.zipIdx.map fun (x : PV × Nat) => if l.contains x.2 then x.1 else .undef) = t.zipIdx.map fun (x : PV × Nat) => if l.contains x.2 then x.1 else .undef
    apply List.ext_getElem?
    intro i
    rw [List.getElem?_map, List.getElem?_map, List.getElem?_zipIdx, List.getElem?_zipIdx]
    by_cases hi : i ∈ l
    · rw [h3 i hi]
    · by_cases hlt : i < t.length
      · rw [List.getElem?_eq_getElem hlt, List.getElem?_eq_getElem (by omega)]
        simp [hi]
      · rw [List.getElem?_eq_none (by omega), List.getElem?_eq_none (by omega)]
  unfold tidy
  simp only [this]
theorem kdrop_ok {k0 ks : KSt} (h : ks.Ok) : (kdrop k0 ks).Ok ∧ (kdrop k0 ks).nt = ks.nt := by
  unfold kdrop
  obtain ⟨h1, h2⟩ := kkeep_st h (spHas k0.tmps)
  obtain ⟨h3, h4, h5⟩ := kclean_st h2 (kunnamed { ks with tmps := spKeep (spHas k0.tmps) ks.tmps })
  exact ⟨h4, h5⟩
theorem ksetPs_ok {nt : Nat} : ∀ (ps : List Nat) (args : List PV) (i : Nat) {tm : Sp}, SpWf nt tm → (∀ p ∈ ps, p < nt) → okVL args = true → SpWf nt (ksetPs ps args i tm) := by
  intro ps
  induction ps with
  | nil => intro args i tm h _ _; exact h
  | cons p ps ih =>
    intro args i tm h hp ha
    simp only [ksetPs]
    refine ih args (i + 1) (h.put (hp p (by simp)) ?_ rfl) (fun q hq => hp q (by simp [hq])) ha
    show okV (nth args i) = true
    unfold nth
    rw [List.getD_eq_getElem?_getD]
    cases hg : args[i]? with
    | none => rfl
    | some v => exact okVL_get ha hg
theorem ksetPs_st {nt : Nat} : ∀ (ps : List Nat) (args : List PV) (i : Nat) {tm : Sp}, i + ps.length = args.length → dense nt (ksetPs ps args i tm) = setPs ps (args.drop i) (dense nt tm) := by
  intro ps
  induction ps with
  | nil => intro args i tm _; simp [ksetPs, setPs]
  | cons p ps ih =>
    intro args i tm hl
    simp only [List.length_cons] at hl
    have hd : args.drop i = args[i]'(by omega) :: args.drop (i + 1) := List.drop_eq_getElem_cons (by omega)
    rw [hd]
    simp only [ksetPs, setPs]
    rw [ih args (i + 1) (by omega), dense_put]
    have : nth args i = args[i]'(by omega) := by
      unfold nth; rw [List.getD_eq_getElem?_getD, List.getElem?_eq_getElem (by omega)]; rfl
    rw [← this]
    rfl
theorem konEx_some {R : Type} {r : R} {K : Nat → Option R} : ∀ {l : List Nat} {p : Option Ex}, konEx l p K = some r → ∃ id, p = some (.exit id) ∧ K id = some r := by
  intro l
  induction l with
  | nil => intro p h; cases h
  | cons id l ih =>
    intro p h
    simp only [konEx] at h
    rcases iteB_some h with ⟨h1, h2⟩ | ⟨_, h2⟩
    · refine ⟨id, ?_, h2⟩
      unfold isExitE at h1
      split at h1
      · rename_i id'; rw [Nat.eq_of_beq_eq_true h1]
      · cases h1
    · exact ih h2
def sp_dense (sp : Sp) (k3 : KSt) : List PV := dense k3.nt sp
theorem evalK_ok (hc : CfgOK cfg tab) : ∀ (c : RCode) {E R : Type} {h : Handler E} {hn : Nat → Handler E} (_ : HOk h hn) (dep : Nat) {ks : KSt} {e : E} {K : Ex → KSt → E → Option R} {r : R}, ks.Ok → evalK cfg c h dep ks e K = some r →
    ∃ x k' e', K x k' e' = some r ∧ k'.Ok ∧ Evl fun n => evalC (machN cfg.b.sp tab n) n c (hn n) dep ks.st e = some (x, k'.st, e') := by
  intro c
  induction c with
  | skip => intro E R h hn hh dep ks e K r hk hr; exact ⟨_, _, _, hr, hk, .of fun n => rfl⟩
  | region ops dr lv =>
    intro E R h hn hh dep ks e K r hk hr
    obtain ⟨c1, c2, _⟩ := kclean_st hk (dsts ops)
    cases dr with
    | none =>
      simp only [evalK] at hr
      rw [force_eq] at hr
      split at hr
      · rename_i t hslot
        obtain ⟨z, hz, hr⟩ := bindO_some hr
        rw [force_eq] at hr
        obtain ⟨k1, e1, hz2, hk1, h1⟩ := kruns_ok (dep := dep) hc hh ops c2 hz
        unfold condSlot at hslot
        split at hslot
        case isFalse => cases hslot
        rename_i hcond
        simp only [Bool.and_eq_true] at hcond
        cases lv with
        | none => cases hslot
        | some l =>
        simp only at hslot
        split at hslot
        case h_2 => cases hslot
        rename_i t' hfil
        cases hslot
        have hpure : ∀ o ∈ ops, pureOp o.op = true := List.all_eq_true.1 hcond.2
        have hzok : okV z = true := KV.cl_ok (hk1.tm.get_ok t) hz2
        have htlt : t < k1.nt := by
          apply Classical.byContradiction
          intro hlt
          rw [hk1.tm.get_ge (by omega)] at hz2; cases hz2
        obtain ⟨m, hm⟩ := h1
        have hm0 := hm m (Nat.le_refl _)
        obtain ⟨rfl, p2, p3, p4, p5⟩ := pure_runs ops hpure hm0
        have hnt : k1.nt = (kclean (dsts ops) ks).nt := by
          have : k1.st.tmps.length = (kclean (dsts ops) ks).st.tmps.length := p4
          have a1 : k1.st.tmps.length = k1.nt := dense_length _ _
          have a2 : (kclean (dsts ops) ks).st.tmps.length = (kclean (dsts ops) ks).nt := dense_length _ _
          omega
        have hput : ({ kclean (dsts ops) ks with tmps := spPut t (.cv z) (kclean (dsts ops) ks).tmps } : KSt).Ok := ⟨c2.tm.put (by omega) hzok rfl, c2.ob, c2.kp⟩
        obtain ⟨t1, t2⟩ := ktidy_st hput (some l)
        refine ⟨_, _, _, hr, t2, ⟨m, fun n hn' => ?_⟩⟩
        have hb := hm n hn'
        rw [c1] at hb
        simp only [evalC, hb, t1]
        have : tidy (some l) k1.st = tidy (some l) ({ kclean (dsts ops) ks with tmps := spPut t (.cv z) (kclean (dsts ops) ks).tmps } : KSt).st := by
          refine tidy_congr (st' := k1.st) (st := ({ kclean (dsts ops) ks with tmps := spPut t (.cv z) (kclean (dsts ops) ks).tmps } : KSt).st) p2 p3 ?_ fun i hi => ?_
          · rw [p4]
            show (dense _ _).length = (dense _ _).length
            rw [dense_length, dense_length]
          · show k1.st.tmps[i]? = (dense _ (spPut t (.cv z) _))[i]?
            rw [dense_put]
            by_cases hit : i = t
            · subst hit
              rw [List.getElem?_set_self (by rw [dense_length]; show i < (kclean (dsts ops) ks).nt; omega)]
              show (dense k1.nt k1.tmps)[i]? = _
              rw [dense_get?, if_pos htlt, KV.cl_pv hz2]
              rfl
            · rw [List.getElem?_set_ne (Ne.symm hit)]
              refine p5 i fun hmem => hit ?_
              have : i ∈ l.filter fun t => (ops.filterMap (·.dst)).contains t := List.mem_filter.2 ⟨hi, by simpa using hmem⟩
              rw [hfil] at this
              simpa using this
        rw [this]
      · obtain ⟨k1, e1, hr, hk1, h1⟩ := kruns_ok (dep := dep) hc hh ops c2 hr
        rw [force_eq] at hr
        obtain ⟨t1, t2⟩ := ktidy_st hk1 lv
        rw [c1] at h1
        exact ⟨_, _, _, hr, t2, h1.mono fun n hn' => by simp only [evalC, hn', t1]⟩
    | some bef =>
      simp only [evalK] at hr
      rw [force_eq] at hr
      obtain ⟨k1, e1, hr, hk1, h1⟩ := krunsD_ok (dep := dep) hc hh bef [] c2 hr
      rw [force_eq] at hr
      obtain ⟨t1, t2⟩ := ktidy_st hk1 lv
      rw [c1] at h1
      exact ⟨_, _, _, hr, t2, h1.mono fun n hn' => by simp only [evalC, hn', t1]⟩
  | seq a b iha ihb =>
    intro E R h hn hh dep ks e K r hk hr
    simp only [evalK] at hr
    obtain ⟨x, k1, e1, hr, hk1, h1⟩ := iha hh dep hk hr
    cases x with
    | normal =>
      obtain ⟨x2, k2, e2, hr, hk2, h2⟩ := ihb hh dep hk1 hr
      exact ⟨_, _, _, hr, hk2, h1.mono2 h2 fun n a b => by simp only [evalC, a, b]⟩
    | exit id => exact ⟨_, _, _, hr, hk1, h1.mono fun n a => by simp only [evalC, a]⟩
    | ret => exact ⟨_, _, _, hr, hk1, h1.mono fun n a => by simp only [evalC, a]⟩
  | cond c a b iha ihb =>
    intro E R h hn hh dep ks e K r hk hr
    simp only [evalK] at hr
    have hev := st_ev hk c
    split at hr
    · rename_i hv
      obtain ⟨x, k1, e1, hr, hk1, h1⟩ := iha hh dep hk hr
      exact ⟨_, _, _, hr, hk1, h1.mono fun n a => by simp only [evalC, hev, hv, KV.pv, a]⟩
    · rename_i hv
      obtain ⟨x, k1, e1, hr, hk1, h1⟩ := ihb hh dep hk hr
      exact ⟨_, _, _, hr, hk1, h1.mono fun n a => by simp only [evalC, hev, hv, KV.pv, a]⟩
    · rename_i v hv
      rcases iteP_some hr with ⟨rfl, hr⟩ | ⟨rfl, hr⟩
      · obtain ⟨x, k1, e1, hr, hk1, h1⟩ := iha hh dep hk hr
        exact ⟨_, _, _, hr, hk1, h1.mono fun n a => by simp only [evalC, hev, hv, KV.pv, a]⟩
      · obtain ⟨x, k1, e1, hr, hk1, h1⟩ := ihb hh dep hk hr
        exact ⟨_, _, _, hr, hk1, h1.mono fun n a => by simp only [evalC, hev, hv, KV.pv, a]⟩
    · cases hr
  | block id b ih =>
    intro E R h hn hh dep ks e K r hk hr
    simp only [evalK] at hr
    obtain ⟨x, k1, e1, hr, hk1, h1⟩ := ih hh dep hk hr
    cases x with
    | normal => exact ⟨_, _, _, hr, hk1, h1.mono fun n a => by simp only [evalC, a]⟩
    | ret => exact ⟨_, _, _, hr, hk1, h1.mono fun n a => by simp only [evalC, a]⟩
    | exit id' =>
      simp only at hr
      split at hr
      · rename_i hid; exact ⟨_, _, _, hr, hk1, h1.mono fun n a => by simp only [evalC, a, hid, if_true]⟩
      · rename_i hid; exact ⟨_, _, _, hr, hk1, h1.mono fun n a => by simp only [evalC, a, hid, if_false]⟩
  | loop asg grow b ih =>
    intro E R h hn hh dep ks e K r hk hr
    simp only [evalK] at hr
    obtain ⟨k0, hr, hk0, hnt0, hst0⟩ := knorm_st hk hr
    rw [force_eq] at hr
    obtain ⟨hU, hr⟩ := chkO_some hr
    split at hr
    · cases hr
    rename_i hself
    have hself : fitSt k0 k0 = true := by simpa using hself
    obtain ⟨m, hm⟩ := loopL_some hr
    have key : ∀ (m : Nat) (vs : List PV) (e : E), (fillSt k0 vs).Ok → repS (fun s : List PV × E => force (fillSt k0 s.1) fun ks => evalK cfg b h dep ks s.2 (onLoop asg grow k0 K)) m (vs, e) = some r →
        ∃ x k' e', K x k' e' = some r ∧ k'.Ok ∧ Evl fun n => ∀ j, m ≤ j → repeatN (loopStep (machN cfg.b.sp tab n) n asg grow b (hn n) dep (undefs k0.st)) j ((fillSt k0 vs).st, e) = some (x, k'.st, e') := by
      intro m
      induction m with
      | zero => intro vs e _ h0; cases h0
      | succ m ihm =>
        intro vs e hkv hm
        unfold repS at hm
        simp only at hm
        rw [force_eq] at hm
        cases hs : evalK cfg b h dep (fillSt k0 vs) e (onLoop asg grow k0 K) with
        | none =>
          rw [hs] at hm; cases hm
        | some q =>
          rw [hs] at hm
          obtain ⟨x, k1, e1, hq, hk1, h1⟩ := ih hh dep hkv hs
          have hother : ∀ y, y ≠ Ex.normal → x = y → (bindO (K y k1 e1) fun r => some (Sum.inr r)) = some q → ∃ x k' e', K x k' e' = some r ∧ k'.Ok ∧ Evl fun n => ∀ j, m + 1 ≤ j → repeatN (loopStep (machN cfg.b.sp tab n) n asg grow b (hn n) dep (undefs k0.st)) j ((fillSt k0 vs).st, e) = some (x, k'.st, e') := by
            intro y hy hxy hq
            obtain ⟨r', hr', hq⟩ := bindO_some hq
            cases hq
            cases hm
            refine ⟨y, k1, e1, hr', hk1, h1.mono fun n hn' j hj => ?_⟩
            obtain ⟨j, rfl⟩ : ∃ i, j = i + 1 := ⟨j - 1, by omega⟩
            rw [repeatN_eq]
            subst hxy
            cases x with
            | normal => exact absurd rfl hy
            | exit id => simp only [loopStep, hn', onStep]
            | ret => simp only [loopStep, hn', onStep]
          cases x with
          | exit id => exact hother (.exit id) (by simp) rfl hq
          | ret => exact hother .ret (by simp) rfl hq
          | normal =>
            unfold onLoop at hq; simp only at hq
            obtain ⟨d1, d2⟩ := kdrop_ok (k0 := k0) hk1
            obtain ⟨k2, hq, hk2, hnt2, hst2⟩ := knorm_st d1 hq
            rw [force_eq] at hq
            split at hq
            · rename_i hfit
              cases hq
              obtain ⟨f1, f2, f3, f4⟩ := fillSt_ok hfit hk0 hk2
              obtain ⟨g1, _, _⟩ := kdrop_st hk0 hU hk1 (by omega)
              obtain ⟨x3, k3, e3, hr3, hk3, h3⟩ := ihm _ _ f2 hm
              refine ⟨x3, k3, e3, hr3, hk3, h1.mono2 h3 fun n hn1 hn3 j hj => ?_⟩
              obtain ⟨j, rfl⟩ : ∃ i, j = i + 1 := ⟨j - 1, by omega⟩
              rw [repeatN_eq]
              have := hn3 j (by omega)
              rw [f1, hst2, g1] at this
              simp only [loopStep, hn1, onStep]
              exact this
            · cases hq
    obtain ⟨s1, s2, _, _⟩ := fillSt_ok (p := k0) (x := k0) hself hk0 hk0
    obtain ⟨x, k', e', hr', hk', hev⟩ := key m _ e s2 hm
    refine ⟨x, k', e', hr', hk', hev.diag.mono fun n hn' => ?_⟩
    rw [s1, hst0] at hn'
    rw [evalC_loop, hn']
  | rangeFunc f ps asg b iha ihb =>
    intro E R h hn hh dep ks e K r hk hr
    simp only [evalK] at hr
    split at hr
    case h_2 => cases hr
    rename_i fv hfv
    split at hr
    case isFalse => cases hr
    rename_i hps
    simp only [Bool.and_eq_true] at hps
    obtain ⟨⟨hps, hself⟩, hxf⟩ := hps
    have hpslt : ∀ p ∈ ps, p < ks.nt := fun p hp => by
      have := List.all_eq_true.1 hps p hp
      simpa [Nat.blt_eq] using this
    obtain ⟨⟨vs, p, e2⟩, hrange, hr2⟩ := bindO_some hr
    clear hr
    rw [force_eq] at hr2
    simp only at hr2
    unfold rangeO at hrange
    split at hrange
    case h_2 => cases hrange
    rename_i g cap
    split at hrange
    case h_2 => cases hrange
    rename_i rv obs rr hL
    cases hrange
    rw [hc.L] at hL
    obtain ⟨m, hm⟩ := lim_some hL
    have hm := hm m (Nat.le_refl _)
    obtain ⟨s1, s2, _, _⟩ := fillSt_ok (p := ks) (x := ks) hself hk hk
    obtain ⟨⟨st2, p2, e2'⟩, hre, hev⟩ := evalFn_par (sp := cfg.b.sp) (tab := tab) m (KRec E) (Rec E)
      (fun a b => a.2.1 = b.2.1 ∧ a.2.2 = b.2.2 ∧ (fillSt ks a.1).Ok ∧ (fillSt ks a.1).st = b.1) _ (fun n => rangeH (machN cfg.b.sp tab n) n asg b (hn n) dep ps) (by
        rintro l args ⟨vs, p, e⟩ ⟨s, p', e'⟩ ⟨h1, h2, h3, h4⟩ bb ⟨vs', q, e1⟩ hq
        simp only at h1 h2 h3 h4
        subst h1; subst h2; subst h4
        unfold onRound at hq
        unfold rangeH
        by_cases hl : l = dep
        · simp only [hl, if_true] at hq ⊢
          cases p with
          | some x => cases hq
          | none =>
            simp only at hq ⊢
            obtain ⟨hargs, hq⟩ := chkO_some hq
            unfold okArgs at hargs
            simp only [Bool.and_eq_true, beq_iff_eq] at hargs
            rw [force_eq, force_eq] at hq
            have hnt : (fillSt ks vs).nt = ks.nt := rfl
            have hk1 : ({ fillSt ks vs with tmps := ksetPs ps args 0 (fillSt ks vs).tmps, keep := (fillSt ks vs).tmps :: (fillSt ks vs).keep } : KSt).Ok :=
              ⟨ksetPs_ok ps args 0 h3.tm hpslt hargs.2, h3.ob, fun sp hsp => (List.mem_cons.1 hsp).elim (fun e => e ▸ h3.tm) (h3.kp sp)⟩
            have hk1st : ({ fillSt ks vs with tmps := ksetPs ps args 0 (fillSt ks vs).tmps, keep := (fillSt ks vs).tmps :: (fillSt ks vs).keep } : KSt).st = { (fillSt ks vs).st with tmps := setPs ps args (fillSt ks vs).st.tmps, keep := (fillSt ks vs).st.tmps ++ (fillSt ks vs).st.keep } := by
              unfold KSt.st
              simp only
              rw [ksetPs_st ps args 0 (by omega)]
              simp
            obtain ⟨x1, k2, e3, hq, hk2, ha⟩ := iha hh (dep + 1) hk1 hq
            cases x1 with
            | exit id => cases hq
            | ret => cases hq
            | normal =>
              simp only at hq
              obtain ⟨x2, k3, e4, hq, hk3, hb⟩ := ihb hh (dep + 1) hk2 hq
              split at hq
              case h_1 => cases hq
              rename_i sp kp hkeep
              rw [force_eq] at hq
              split at hq
              case isFalse => cases hq
              rename_i hfit
              cases hq
              have hk4 : ({ k3 with tmps := sp, keep := kp } : KSt).Ok := ⟨hk3.kp sp (by rw [hkeep]; simp), hk3.ob, fun q hq => hk3.kp q (by rw [hkeep]; simp [hq])⟩
              obtain ⟨f1, f2, f3, f4⟩ := fillSt_ok hfit hk hk4
              have f5 : ks.nt = k3.nt := f4
              refine ⟨({ tmps := sp_dense sp k3, objs := k3.st.objs, keep := kp.flatMap (dense k3.nt) }, exitOf x2, e1), ⟨rfl, rfl, f2, ?_⟩, ha.mono2 hb fun n hn1 hn2 => ?_⟩
              · rw [f1]; rfl
              · simp only [hargs.1, if_true]
                rw [← hk1st, hn1]
                simp only
                rw [hn2]
                simp only
                have hkp : k3.st.keep = dense k3.nt sp ++ kp.flatMap (dense k3.nt) := by
                  show k3.keep.flatMap (dense k3.nt) = _
                  rw [hkeep]; rfl
                have hlen : (fillSt ks vs).st.tmps.length = (dense k3.nt sp).length := by
                  show (dense ks.nt _).length = _
                  rw [dense_length, dense_length]; exact f5
                rw [hkp, hlen, List.take_left, List.drop_left]
                cases x2 <;> rfl
        · simp only [hl, if_false] at hq ⊢
          split at hq
          · rename_i b2 e3 h6
            cases hq
            exact ⟨_, ⟨rfl, rfl, h3, rfl⟩, (hh _ _ _ _ h6).mono fun n hn' => by rw [hn']⟩
          · cases hq) (dep + 1) g (.yld dep :: cap) (leavesSt ks ks, none, e) (ks.st, none, e) ⟨rfl, rfl, s2, s1⟩ rv obs _ hm
    simp only at hre
    obtain ⟨h1, h2, h3, h4⟩ := hre
    subst h1; subst h2; subst h4
    have hfe : f.ev ks.st.tmps = .fn g cap := by rw [st_ev hk, KV.cl_pv hfv]
    have hcap : (PV.fn g cap).names = [] := by
      exact (okV_iff (KV.cl_ok (kv_ok hk hxf) hfv)).1
    have hbase : Evl fun n => evalC (machN cfg.b.sp tab n) n (.rangeFunc f ps asg b) (hn n) dep ks.st e = some (p.getD .normal, (fillSt ks vs).st, e2) := hev.mono fun n hn' => by
      rw [evalC_rangeH, hfe]
      unfold freezeV
      rw [hcap]
      simp only [List.isEmpty_nil, if_true]
      simp only [machN, evalFn] at hn' ⊢
      rw [hn']
    rcases iteB_some hr2 with ⟨hp, hr2⟩ | ⟨_, hr2⟩
    · cases p with
      | some x => cases hp
      | none => exact ⟨_, _, _, hr2, h3, hbase⟩
    · rcases iteB_some hr2 with ⟨hp, hr2⟩ | ⟨_, hr2⟩
      · unfold isRetE at hp
        split at hp
        · exact ⟨_, _, _, hr2, h3, hbase⟩
        · cases hp
      · obtain ⟨id, hpe, hr3⟩ := konEx_some hr2
        subst hpe
        exact ⟨_, _, _, hr3, h3, hbase⟩
  | exit id => intro E R h hn hh dep ks e K r hk hr; exact ⟨_, _, _, hr, hk, .of fun n => rfl⟩
  | scope b ih =>
    intro E R h hn hh dep ks e K r hk hr
    simp only [evalK] at hr
    obtain ⟨x, k1, e1, hr, hk1, h1⟩ := ih hh dep hk hr
    cases x with
    | normal => exact ⟨_, _, _, hr, hk1, h1.mono fun n a => by simp only [evalC, a]⟩
    | ret => exact ⟨_, _, _, hr, hk1, h1.mono fun n a => by simp only [evalC, a]⟩
    | exit id' =>
      simp only at hr
      split at hr
      · rename_i hid; exact ⟨_, _, _, hr, hk1, h1.mono fun n a => by simp only [evalC, a, hid, if_true]⟩
      · cases hr
  | ret => intro E R h hn hh dep ks e K r hk hr; exact ⟨_, _, _, hr, hk, .of fun n => rfl⟩
  | norm g =>
    intro E R h hn hh dep ks e K r hk hr
    simp only [evalK] at hr
    obtain ⟨k', hr, hk', _, hst⟩ := knorm_st hk hr
    rw [force_eq] at hr
    exact ⟨_, _, _, hr, hk', .of fun n => by simp only [evalC, hst]⟩
  | bad => intro E R h hn hh dep ks e K r hk hr; cases hr
end Go.Ab


namespace Go.Ab
variable {cfg : KCfg} {tab : FuncId → Option RFn} {ks : KSt}
theorem kresV_ok {R : Type} {r : R} (h : ks.Ok) {x : RRes} {K : KV → Option R} (hr : kresV ks x K = some r) : ∃ v, K v = some r ∧ v.ok ∧ resV ks.st x = some v.pv := by
  have hget : ∀ t, ks.st.tmps.getD t .undef = (spGet ks.tmps t).pv := fun t => dense_getD h.tm t
  have lk := st_look h
  cases x with
  | tmp t => exact ⟨_, hr, h.tm.get_ok t, by simp only [resV, hget]⟩
  | cell t n ag =>
    simp only [kresV] at hr
    split at hr
    · rename_i nm o hv
      split at hr
      · rename_i cs hl
        have hcs : okKL cs := klook_ok h.ob hl
        split at hr
        · rename_i hag
          split at hr
          · rename_i hle
            refine ⟨_, hr, okKL_take (okKL_drop hcs _) _, ?_⟩
            simp only [resV, hget, hv, KV.pv, lk, hl, Option.map_some, KOb.ob, sel, hag, if_true, chk, pvL_length, hle, decide_true, pvL_take, pvL_drop]
          · cases hr
        · rename_i hag
          split at hr
          · rename_i c hc
            refine ⟨_, hr, okKL_mem.1 hcs c (List.mem_of_getElem? hc), ?_⟩
            simp only [resV, hget, hv, KV.pv, lk, hl, Option.map_some, KOb.ob, sel, hag, pvL_get?, hc]
            rfl
          · cases hr
      · rename_i w hl
        obtain ⟨z, hz, hr⟩ := bindO_some hr
        have hw : okV w = true := klook_ok h.ob hl
        unfold selO at hz
        refine ⟨_, hr, okV_sel (okV_cells hw) hz, ?_⟩
        simp only [resV, hget, hv, KV.pv, lk, hl, Option.map_some, KOb.ob, cellsP, hz]
      · cases hr
    · cases hr
theorem kresVs_ok {R : Type} {r : R} (h : ks.Ok) : ∀ (l : List RRes) {K : List KV → Option R}, kresVs ks l K = some r → ∃ vs, K vs = some r ∧ okKL vs ∧ resVs ks.st l = some (pvL vs) := by
  intro l
  induction l with
  | nil => intro K hr; exact ⟨[], hr, trivial, rfl⟩
  | cons x l ih =>
    intro K hr
    simp only [kresVs] at hr
    obtain ⟨v, hr, hv, h1⟩ := kresV_ok h hr
    obtain ⟨vs, hr, hvs, h2⟩ := ih hr
    exact ⟨v :: vs, hr, ⟨hv, hvs⟩, by simp only [resVs, h1, h2, pvL]⟩
theorem koneOf_ok {vs : List KV} (h : okKL vs) : (koneOf vs).ok ∧ (koneOf vs).pv = oneOf (pvL vs) := by
  match vs, h with
  | [], h => exact ⟨trivial, rfl⟩
  | [v], h => exact ⟨h.1, rfl⟩
  | v :: w :: vs, h => exact ⟨h, rfl⟩
theorem isZero_iff {o : Nat} : isZero o = true ↔ o = 0 := by cases o <;> simp [isZero]
def top1 : PV → List Nm
  | .arr nm _ 0 _ => [nm]
  | _ => []
def top2 : PV → List Nm
  | .arr nm _ 0 _ => [nm]
  | .agg cs => cs.flatMap top1
  | _ => []
def ktop1 : KV → List Nm
  | .arr nm _ o _ => if isZero o then [nm] else []
  | .wit nm => [nm]
  | _ => []
def ktop2 : KV → List Nm
  | .arr nm _ o _ => if isZero o then [nm] else []
  | .wit nm => [nm]
  | .agg cs => cs.flatMap ktop1
  | _ => []
theorem ktop1_ok {x : KV} (h : x.ok) : ktop1 x = top1 x.pv := by
  cases x with
  | arr nm k o n => cases o <;> rfl
  | cv v =>
    have hv : okV v = true := h
    cases v <;> first | rfl | simp [okV] at hv
  | _ => rfl
theorem top1_none {cs : List PV} (h : okVL cs = true) : cs.flatMap top1 = [] := by
  rw [List.flatMap_eq_nil_iff]
  intro x hx
  have := okVL_iff.1 h x hx
  cases x <;> first | rfl | simp [okV] at this
theorem flatMap_top1 {cs : List KV} (h : okKL cs) : cs.flatMap ktop1 = (pvL cs).flatMap top1 := by
  rw [pvL_map, List.flatMap_map]
  induction cs with
  | nil => rfl
  | cons x xs ih => simp only [List.flatMap_cons]; rw [ktop1_ok h.1, ih h.2]
theorem ktop2_ok {x : KV} (h : x.ok) : ktop2 x = top2 x.pv := by
  cases x with
  | arr nm k o n => cases o <;> rfl
  | agg cs => exact flatMap_top1 h
  | cv v =>
    have hv : okV v = true := h
    cases v with
    | agg cs => simp only [okV] at hv; exact (top1_none hv).symm
    | _ => first | rfl | simp [okV] at hv
  | _ => rfl
theorem tops_eq (v : PV) : tops v = match v with | .tup xs => xs.flatMap top2 | v => top2 v := by
  have e1 : (fun (x : PV) => match x with | .arr nm _ 0 _ => [nm] | _ => []) = top1 := by
    funext x; cases x <;> first | rfl | (rename_i nm k o n; cases o <;> rfl)
  cases v with
  | arr nm k o n => cases o <;> rfl
  | agg cs => simp only [tops, top2]; rfl
  | tup xs =>
    simp only [tops]
    congr 1
  | _ => rfl
theorem ktops_eq (v : KV) : ktops v = match v with | .tup xs => xs.flatMap ktop2 | v => ktop2 v := by
  cases v <;> first | rfl | (simp only [ktops]; congr 1)
theorem ktops_ok {v : KV} (h : v.ok) : ktops v = tops v.pv := by
  rw [ktops_eq, tops_eq]
  cases v with
  | tup xs =>
    have hx : okKL xs := h
    simp only [KV.pv]
    rw [pvL_map, List.flatMap_map]
    clear h
    induction xs with
    | nil => rfl
    | cons x xs ih => simp only [List.flatMap_cons]; rw [ktop2_ok hx.1, ih hx.2]
  | cv u =>
    have hu : okV u = true := h
    simp only [KV.pv, ktop2]
    cases u with
    | tup xs =>
      simp only [okV] at hu
      symm
      rw [List.flatMap_eq_nil_iff]
      intro x hx
      have hx' := okVL_iff.1 hu x hx
      have := ktop2_ok (x := .cv x) hx'
      simpa [ktop2, KV.pv] using this.symm
    | agg cs => simp only [okV] at hu; exact (top1_none hu).symm
    | _ => first | rfl | simp [okV] at hu
  | _ => exact ktop2_ok h
theorem nodupN_iff : ∀ {l : List Nm}, nodupN l = true ↔ l.Nodup
  | [] => by simp [nodupN]
  | x :: xs => by simp [nodupN, nodupN_iff (l := xs)]
theorem mapM_look {σ : Nm → Option Ob} : ∀ {S : List Nm}, (∀ nm ∈ S, ∃ ob, σ nm = some ob ∧ isArr ob = true) → ∃ obs, S.mapM σ = some obs ∧ obs.all isArr = true ∧ obs.length = S.length ∧ ∀ (i : Nat) nm, S[i]? = some nm → obs[i]? = σ nm := by
  intro S
  induction S with
  | nil => intro _; exact ⟨[], rfl, rfl, rfl, by simp⟩
  | cons nm S ih =>
    intro h
    obtain ⟨ob, h1, h2⟩ := h nm (by simp)
    obtain ⟨obs, h3, h4, h5, h6⟩ := ih fun m hm => h m (by simp [hm])
    refine ⟨ob :: obs, by simp [List.mapM_cons, h1, h3], by simp [h2, h4], by simp [h5], ?_⟩
    intro i m hi
    cases i with
    | zero => simp at hi; subst hi; simp [h1]
    | succ i => simp at hi ⊢; exact h6 i m hi
theorem idxOf_mid {pre mid post : List Nm} {nm : Nm} (hnd : (pre ++ nm :: mid ++ post).Nodup) : (pre ++ nm :: mid ++ post).idxOf nm = pre.length := by
  have hn : nm ∉ pre := fun hm => by
    rw [List.append_assoc, List.nodup_append] at hnd
    exact hnd.2.2 nm hm nm (by simp) rfl
  rw [List.append_assoc, List.idxOf_append, if_neg hn]
  simp
section hand
variable {σ : Nm → Option KOb} (hσ : ∀ nm o, σ nm = some o → o.ok) {S : List Nm} (hnd : S.Nodup) {obs : List Ob} (hobs : ∀ (i : Nat) nm, S[i]? = some nm → obs[i]? = (σ nm).map fun o => o.ob.bare)
include hσ hnd hobs
def subH (σ : Nm → Option KOb) (S : List Nm) : Nm → Option (Option Ob) := fun nm => if S.contains nm = true then none else closed (fun nm => (σ nm).map KOb.ob) nm
omit hnd hobs in
theorem close_subH {x : KV} (hx : x.ok) (hn : (x.names.all fun nm => !S.contains nm) = true) : x.pv.sub (subH σ S) = x.close (kclosed σ deepest) := by
  rw [KV.close_pv _ hx]
  refine PV.sub_congr _ fun nm hm => ?_
  rw [KV.pv_names hx] at hm
  have := List.all_eq_true.1 hn nm hm
  unfold subH subCl closed
  simp only [Bool.not_eq_true'] at this
  rw [this, kclosed_eq hσ, Option.map_map]
  rfl
omit hσ hnd hobs in
theorem sub_cl {x : KV} {u : PV} (hx : x.ok) (h : x.cl = some u) (f : Nm → Option (Option Ob)) (g : Nm → Nm) : (x.pv.sub f).ren g = u := by
  have hu := KV.cl_ok hx h
  rw [KV.cl_pv h, sub_none (okV_iff hu).1, ren_none (okV_iff hu).1]
mutual
theorem khand_ok {R : Type} {r : R} : ∀ (sh : RSh) (x : KV), x.ok → ∀ {K : PV → Option R}, khand σ S sh x K = some r → ∀ (pre post : List Nm), S = pre ++ ownN sh x ++ post →
    ∃ u, K u = some r ∧ convR obs sh pre.length ((x.pv.sub (subH σ S)).ren (toIdx S)) = some (u, pre.length + (ownN sh x).length)
  | .cl, x, hx, K, hr, pre, post, _ => by
    have hclose : (if x.names.all fun nm => !S.contains nm then chkO (okU (x.close (kclosed σ deepest))) (K (x.close (kclosed σ deepest))) else none) = some r →
        ∃ u, K u = some r ∧ convR obs .cl pre.length ((x.pv.sub (subH σ S)).ren (toIdx S)) = some (u, pre.length + (ownN .cl x).length) := by
      intro hr
      split at hr
      · rename_i hn
        obtain ⟨h1, hr⟩ := chkO_some hr
        unfold okU at h1
        refine ⟨_, hr, ?_⟩
        rw [close_subH hσ hx hn, ren_none (okV_iff h1).1]
        simp [convR, h1, chkO, ownN]
      · cases hr
    simp only [khand] at hr
    cases hu : x.cl with
    | some u =>
      rw [hu] at hr
      refine ⟨u, hr, ?_⟩
      rw [sub_cl hx hu]
      simp [convR, KV.cl_ok hx hu, chkO, ownN]
    | none =>
      rw [hu] at hr
      cases x with
      | tup xs =>
        simp only at hr
        cases hus : clL xs with
        | some us =>
          rw [hus] at hr
          have hok := clL_ok (xs := xs) hx hus
          have htup : okV (.tup us) = true := by simpa [okV] using hok
          refine ⟨.tup us, hr, ?_⟩
          have : (KV.tup xs).pv = .tup us := by simp [KV.pv, clL_pv hus]
          rw [this, sub_none (okV_iff htup).1, ren_none (okV_iff htup).1]
          simp [convR, htup, chkO, ownN]
        | none => rw [hus] at hr; exact hclose hr
      | _ => exact hclose hr
  | .own k, x, hx, K, hr, pre, post, hS => by
    simp only [khand] at hr
    split at hr
    · rename_i nm k' o n
      split at hr
      · rename_i k'' kt xs hl
        split at hr
        · rename_i hc
          obtain ⟨rfl, rfl, ho⟩ := hc
          rw [isZero_iff] at ho
          subst ho
          obtain ⟨h1, hr⟩ := chkO_some hr
          rw [eqN_iff] at h1
          unfold lenL at h1
          simp only [ownN] at hS
          refine ⟨_, hr, ?_⟩
          have hmem : S.contains nm = true := by rw [List.contains_iff_mem, hS]; simp
          have hi : S[pre.length]? = some nm := by rw [hS]; simp
          have hidx : S.idxOf nm = pre.length := by
            have e : S = pre ++ nm :: [] ++ post := by rw [hS]
            rw [e]; exact idxOf_mid (e ▸ hnd)
          have hob : obs[pre.length]? = some (.arr k 0 xs) := by rw [hobs _ _ hi, hl]; rfl
          have hxok : okVL xs = true := hσ _ _ hl
          have hsub : (PV.arr nm k 0 n).sub (subH σ S) = .arr nm k 0 n := by
            simp only [PV.sub, subH, hmem, if_true]
          simp only [KV.pv]
          rw [hsub]
          simp [PV.ren, toIdx, hidx, convR, hob, chkO, h1, hxok, ownN]
        · cases hr
      · cases hr
    · cases hr
  | .opt k, x, hx, K, hr, pre, post, hS => by
    simp only [khand] at hr
    split at hr
    · rename_i nm k' o n
      split at hr
      · rename_i k'' kt xs hl
        split at hr
        · rename_i hc
          obtain ⟨rfl, rfl, ho⟩ := hc
          rw [isZero_iff] at ho
          subst ho
          obtain ⟨h1, hr⟩ := chkO_some hr
          rw [eqN_iff] at h1
          unfold lenL at h1
          simp only [ownN] at hS
          refine ⟨_, hr, ?_⟩
          have hmem : S.contains nm = true := by rw [List.contains_iff_mem, hS]; simp
          have hi : S[pre.length]? = some nm := by rw [hS]; simp
          have hidx : S.idxOf nm = pre.length := by
            have e : S = pre ++ nm :: [] ++ post := by rw [hS]
            rw [e]; exact idxOf_mid (e ▸ hnd)
          have hob : obs[pre.length]? = some (.arr k 0 xs) := by rw [hobs _ _ hi, hl]; rfl
          have hxok : okVL xs = true := hσ _ _ hl
          have hsub : (PV.arr nm k 0 n).sub (subH σ S) = .arr nm k 0 n := by
            simp only [PV.sub, subH, hmem, if_true]
          simp only [KV.pv]
          rw [hsub]
          simp [PV.ren, toIdx, hidx, convR, hob, chkO, h1, hxok, ownN]
        · cases hr
      · cases hr
    · refine ⟨.nilS, hr, ?_⟩
      simp [KV.pv, PV.sub, PV.ren, convR, ownN]
    · unfold nilO at hr
      split at hr
      · refine ⟨.nilS, hr, ?_⟩
        simp [KV.pv, PV.sub, PV.ren, convR, ownN]
      · cases hr
    · cases hr
  | .tup l, x, hx, K, hr, pre, post, hS => by
    simp only [khand] at hr
    split at hr
    · rename_i xs
      simp only [ownN] at hS
      obtain ⟨us, h1, h2⟩ := khandL_ok l xs hx hr pre post hS
      refine ⟨_, h1, ?_⟩
      simp only [KV.pv, PV.sub, PV.ren, convR, h2, ownN]
      rfl
    · cases hr
  | .agg l, x, hx, K, hr, pre, post, hS => by
    simp only [khand] at hr
    split at hr
    · rename_i xs
      simp only [ownN] at hS
      obtain ⟨us, h1, h2⟩ := khandL_ok l xs hx hr pre post hS
      refine ⟨_, h1, ?_⟩
      simp only [KV.pv, PV.sub, PV.ren, convR, h2, ownN]
      rfl
    · cases hr
theorem khandL_ok {R : Type} {r : R} : ∀ (l : List RSh) (xs : List KV), okKL xs → ∀ {K : List PV → Option R}, khandL σ S l xs K = some r → ∀ (pre post : List Nm), S = pre ++ ownNL l xs ++ post →
    ∃ us, K us = some r ∧ convRL obs l pre.length (renL (toIdx S) (subL (subH σ S) (pvL xs))) = some (us, pre.length + (ownNL l xs).length)
  | [], [], _, K, hr, pre, post, _ => ⟨[], hr, by simp [pvL, subL, renL, convRL, ownNL]⟩
  | [], _ :: _, _, K, hr, _, _, _ => by simp [khandL] at hr
  | _ :: _, [], _, K, hr, _, _, _ => by simp [khandL] at hr
  | s :: l, x :: xs, hx, K, hr, pre, post, hS => by
    simp only [khandL] at hr
    simp only [ownNL] at hS
    obtain ⟨u, hr, h1⟩ := khand_ok s x hx.1 hr pre (ownNL l xs ++ post) (by rw [hS]; simp [List.append_assoc])
    obtain ⟨us, hr, h2⟩ := khandL_ok l xs hx.2 hr (pre ++ ownN s x) post (by rw [hS]; simp [List.append_assoc])
    refine ⟨u :: us, hr, ?_⟩
    simp only [pvL, subL, renL, convRL, h1]
    rw [List.length_append] at h2
    rw [h2]
    simp [ownNL, Nat.add_assoc]
end
end hand
theorem own_arr {σ : Nm → Option KOb} {S : List Nm} {R : Type} {r : R} : ∀ (sh : RSh) (x : KV) {K : PV → Option R}, khand σ S sh x K = some r → (∀ nm ∈ ownN sh x, ∃ k kt xs, σ nm = some (.arr k kt xs)) ∧ ∃ u, K u = some r := by
  intro sh
  refine RSh.rec (motive_1 := fun sh => ∀ (x : KV) {K : PV → Option R}, khand σ S sh x K = some r → (∀ nm ∈ ownN sh x, ∃ k kt xs, σ nm = some (.arr k kt xs)) ∧ ∃ u, K u = some r)
    (motive_2 := fun l => ∀ (xs : List KV) {K : List PV → Option R}, khandL σ S l xs K = some r → (∀ nm ∈ ownNL l xs, ∃ k kt ys, σ nm = some (.arr k kt ys)) ∧ ∃ us, K us = some r) ?_ ?_ ?_ ?_ ?_ ?_ ?_ sh
  · intro x K hr
    refine ⟨by simp [ownN], ?_⟩
    simp only [khand] at hr
    split at hr
    · exact ⟨_, hr⟩
    · split at hr
      · split at hr
        · exact ⟨_, hr⟩
        · split at hr
          · exact ⟨_, (chkO_some hr).2⟩
          · cases hr
      · split at hr
        · exact ⟨_, (chkO_some hr).2⟩
        · cases hr
  · intro k x K hr
    simp only [khand] at hr
    split at hr
    · rename_i nm k' o n
      split at hr
      · rename_i k'' kt xs hl
        split at hr
        · exact ⟨by simp [ownN, hl], _, (chkO_some hr).2⟩
        · cases hr
      · cases hr
    · cases hr
  · intro k x K hr
    simp only [khand] at hr
    split at hr
    · rename_i nm k' o n
      split at hr
      · rename_i k'' kt xs hl
        split at hr
        · exact ⟨by simp [ownN, hl], _, (chkO_some hr).2⟩
        · cases hr
      · cases hr
    · exact ⟨by simp [ownN], _, hr⟩
    · unfold nilO at hr
      split at hr
      · exact ⟨by simp [ownN], _, hr⟩
      · cases hr
    · cases hr
  · intro l ih x K hr
    simp only [khand] at hr
    split at hr
    · rename_i xs
      obtain ⟨h1, us, h2⟩ := ih xs hr
      exact ⟨by simpa [ownN] using h1, _, h2⟩
    · cases hr
  · intro l ih x K hr
    simp only [khand] at hr
    split at hr
    · rename_i xs
      obtain ⟨h1, us, h2⟩ := ih xs hr
      exact ⟨by simpa [ownN] using h1, _, h2⟩
    · cases hr
  · intro xs K hr
    cases xs with
    | nil => exact ⟨by simp [ownNL], _, hr⟩
    | cons x xs => simp [khandL] at hr
  · intro s l ihs ihl xs K hr
    cases xs with
    | nil => simp [khandL] at hr
    | cons x xs =>
      simp only [khandL] at hr
      obtain ⟨h1, u, hr⟩ := ihs x hr
      obtain ⟨h2, us, hr⟩ := ihl xs hr
      refine ⟨?_, _, hr⟩
      intro nm hm
      simp only [ownNL, List.mem_append] at hm
      exact hm.elim (h1 nm) (h2 nm)
theorem ktopsOf_ok (shut : Bool) {v : KV} (h : v.ok) : ktopsOf shut v = topsOf shut v.pv := by
  cases shut with
  | true => rfl
  | false => exact ktops_ok h
theorem khandOver_ok {R : Type} {r : R} (h : ks.Ok) {shut : Bool} {sh : RSh} {v : KV} (hv : v.ok) {K : PV → Option R} (hr : khandOver ks shut sh v K = some r) : ∃ u rv obs, K u = some r ∧ handOver shut ks.st v.pv = some (rv, obs) ∧ convO sh rv obs = some u := by
  unfold khandOver at hr
  simp only at hr
  split at hr
  case isFalse => cases hr
  rename_i hc
  obtain ⟨hS, hnd, hdis, hsh⟩ := hc
  have hσ := klook_okF h
  obtain ⟨harr, _⟩ := own_arr sh v hr
  rw [← hS] at harr
  have hlk := st_lookF h
  obtain ⟨obs, hm, hall, hlen, hget⟩ := mapM_look (σ := look ks.st.objs) (S := ktopsOf shut v) fun nm hm => by
    obtain ⟨k, kt, xs, he⟩ := harr nm hm
    exact ⟨.arr k kt xs, by rw [st_look h, he]; rfl, rfl⟩
  have hnd' := nodupN_iff.1 hnd
  obtain ⟨u, hu, hconv⟩ := khand_ok hσ hnd' (obs := obs.map Ob.bare) (fun i nm hi => by rw [List.getElem?_map, hget i nm hi, st_look h, Option.map_map]; rfl) sh v hv hr [] [] (by rw [← hS]; simp)
  refine ⟨u, (v.pv.sub (subH (klook ks.objs) (ktopsOf shut v))).ren (toIdx (ktopsOf shut v)), obs.map Ob.bare, hu, ?_, ?_⟩
  · have e : (fun nm => if (topsOf shut v.pv).contains nm = true then none else closed (look ks.st.objs) nm) = subH (klook ks.objs) (ktopsOf shut v) := by
      funext nm
      unfold subH
      rw [ktopsOf_ok shut hv, hlk]
    rw [kreach_eq hσ, ← hlk] at hdis hsh
    rw [kshut_eq hσ, ← hlk] at hsh
    rw [ktopsOf_ok shut hv, ← KV.pv_names hv] at hdis hsh
    rw [ktopsOf_ok shut hv] at hnd hm
    unfold handOver
    simp only [hnd, hdis, Bool.and_self, if_true, hm, hsh, hall, chk, e, ktopsOf_ok shut hv]
  · unfold convO
    simp only [List.length_nil, Nat.zero_add] at hconv
    rw [hconv]
    simp [chkO, hlen, hS]
theorem init_ok {nt : Nat} {args : List KV} (ha : okKL args) (hu : ∀ x ∈ args, isUnK x = false) (hl : args.length ≤ nt) : ({ nt, tmps := args.zipIdx.map fun p => (p.2, p.1), objs := [], keep := [] } : KSt).Ok ∧
    ({ nt, tmps := args.zipIdx.map fun p => (p.2, p.1), objs := [], keep := [] } : KSt).st = { tmps := pvL args ++ List.replicate (nt - (pvL args).length) .undef, objs := List.replicate nt [], keep := [] } := by
  have hmem : ∀ p ∈ args.zipIdx.map (fun p => (p.2, p.1)), args[p.1]? = some p.2 := by
    intro p hp
    obtain ⟨⟨x, i⟩, hq, rfl⟩ := List.mem_map.1 hp
    rw [List.mem_zipIdx_iff_getElem?] at hq
    exact hq
  have hw : SpWf nt (args.zipIdx.map fun p => (p.2, p.1)) := by
    refine ⟨?_, ?_, ?_, ?_⟩
    · rw [List.map_map]
      have : ((fun p : Nat × KV => p.1) ∘ fun p : KV × Nat => (p.2, p.1)) = Prod.snd := rfl
      rw [this, List.zipIdx_map_snd]
      exact List.pairwise_lt_range'
    · intro p hp
      have := (List.getElem?_eq_some_iff.1 (hmem p hp)).1
      omega
    · intro p hp; exact okKL_mem.1 ha _ (List.mem_of_getElem? (hmem p hp))
    · intro p hp; exact hu _ (List.mem_of_getElem? (hmem p hp))
  refine ⟨⟨hw, .nil nt, by simp⟩, ?_⟩
  unfold KSt.st
  simp only [List.flatMap_nil]
  congr 1
  · refine dense_ext (by simp [pvL_length]; omega) fun i hi => ?_
    by_cases hia : i < args.length
    · rw [List.getElem?_append_left (by rw [pvL_length]; exact hia), pvL_get?, List.getElem?_eq_getElem hia]
      have hp : (i, args[i]) ∈ args.zipIdx.map (fun p => (p.2, p.1)) := by
        refine List.mem_map.2 ⟨(args[i], i), ?_, rfl⟩
        rw [List.mem_zipIdx_iff_getElem?]
        simp [hia]
      rw [show spGet (args.zipIdx.map fun p => (p.2, p.1)) i = args[i] from hw.get_mem hp]
      rfl
    · rw [List.getElem?_append_right (by rw [pvL_length]; omega), List.getElem?_replicate, if_pos (by rw [pvL_length]; omega)]
      rw [show spGet (args.zipIdx.map fun p => (p.2, p.1)) i = .un from spGet_not fun p hp => by
        have := (List.getElem?_eq_some_iff.1 (hmem p hp)).1
        omega]
      rfl
  · refine denseO_ext (by simp) fun i hi => ?_
    rw [List.getElem?_replicate, if_pos hi]
    rfl
theorem runK_ok (hc : CfgOK cfg tab) {g : FuncId} {fn : RFn} (ht : tab g = some fn) {E : Type} {h : Handler E} {hn : Nat → Handler E} (hh : HOk h hn) {dep : Nat} {sh : RSh} {args : List KV} {e e' : E} {u : PV}
    (ha : okKL args) (hu : ∀ x ∈ args, isUnK x = false) (hl : args.length ≤ fn.nt) (hr : runK cfg fn sh h dep args e = some (u, e')) :
    ∃ r obs, convO sh r obs = some u ∧ Evl fun n => evalFn cfg.b.sp tab n E (hn n) dep g (pvL args) e = some (r, obs, e') := by
  unfold runK at hr
  rw [force_eq] at hr
  obtain ⟨i1, i2⟩ := init_ok ha hu hl
  have hh' : HOk h fun n => hn (n + 1) := fun l args e r hq => by
    obtain ⟨a, hb⟩ := hh l args e r hq
    exact ⟨a, fun n hn' => hb (n + 1) (by omega)⟩
  obtain ⟨x, k1, e1, hr, hk1, hev⟩ := evalK_ok hc fn.code hh' dep i1 hr
  rw [i2] at hev
  have fin : (kresVs k1 fn.res fun vs => khandOver k1 fn.shut sh (koneOf vs) fun v => some (v, e1)) = some (u, e') → (∀ id, x ≠ .exit id) → ∃ r obs, convO sh r obs = some u ∧ Evl fun n => evalFn cfg.b.sp tab n E (hn n) dep g (pvL args) e = some (r, obs, e') := by
    intro hr hx
    obtain ⟨vs, hr, hvs, h1⟩ := kresVs_ok hk1 fn.res hr
    obtain ⟨o1, o2⟩ := koneOf_ok hvs
    obtain ⟨u', rv, obs, hr, h2, h3⟩ := khandOver_ok hk1 o1 hr
    cases hr
    refine ⟨rv, obs, h3, hev.shift.mono ?_⟩
    rintro k ⟨j, rfl, hj⟩
    show callOf (evalM cfg.b.sp tab j) j tab E (hn (j + 1)) dep g (pvL args) e = _
    simp only [callOf, ht]
    simp only [machN] at hj
    rw [hj]
    cases x with
    | exit id => exact absurd rfl (hx id)
    | normal => simp only [h1]; rw [← o2, h2]
    | ret => simp only [h1]; rw [← o2, h2]
  cases x with
  | exit id => cases hr
  | normal => exact fin hr (by simp)
  | ret => exact fin hr (by simp)
end Go.Ab


namespace Go.Ab
section
variable {cfg : KCfg} {tab : FuncId → Option RFn}
theorem cvL_pv : ∀ (vs : List PV), pvL (vs.map KV.cv) = vs
  | [] => rfl
  | v :: vs => by simp [pvL, KV.pv, cvL_pv vs]
theorem cvL_ok {vs : List PV} (h : okVL vs = true) : okKL (vs.map KV.cv) := okKL_mem.2 fun x hx => by
  obtain ⟨v, hv, rfl⟩ := List.mem_map.1 hx
  exact okVL_iff.1 h v hv
theorem cvL_un {vs : List PV} : ∀ x ∈ vs.map KV.cv, isUnK x = false := fun x hx => by
  obtain ⟨v, _, rfl⟩ := List.mem_map.1 hx
  rfl
theorem noH : HOk noHandler (fun _ => noHandler) := fun _ _ _ _ h => by cases h
theorem call_of_run (hc : CfgOK cfg tab) {g : FuncId} {fn : RFn} (ht : tab g = some fn) {sh : RSh} {cap args : List PV} {u : PV} (ha : okVL (args ++ cap) = true) (hl : (args ++ cap).length ≤ fn.nt)
    (hsp : cfg.b.sp g (fun _ => none) (args ++ cap) = none) (hr : runK cfg fn sh noHandler 0 ((args ++ cap).map KV.cv) () = some (u, ())) (hio : fn.io = false := by rfl) : callO cfg.b sh (.fn g cap) args = some u := by
  obtain ⟨r, obs, h1, h2⟩ := runK_ok hc ht (hn := fun _ => noHandler) noH (cvL_ok ha) cvL_un (by simpa using hl) hr
  rw [cvL_pv] at h2
  have hL : cfg.b.L Unit noHandler 0 g (args ++ cap) () = some (r, obs, ()) := by rw [hc.L]; exact lim_of h2
  have hfl : cfg.b.isIo g = false := by rw [hc.isIo]; unfold ioFlag; rw [ht]; exact hio
  unfold callO
  simp only [spO, hsp, hL, hfl, Bool.false_eq_true, if_false]
  exact h1
theorem conv_cl {r u : PV} {obs : List Ob} (h : convO .cl r obs = some u) : r = u ∧ obs = [] ∧ okV u = true := by
  unfold convO at h
  simp only [convR] at h
  split at h
  · rename_i r' j hr
    obtain ⟨h1, h2⟩ := chkO_some hr
    cases h2
    obtain ⟨h3, h4⟩ := chkO_some h
    cases h4
    simp only [beq_iff_eq] at h3
    exact ⟨rfl, List.length_eq_zero_iff.1 h3.symm, h1⟩
  · cases h
theorem lend_of_run (hc : CfgOK cfg tab) {g : FuncId} {fn : RFn} (ht : tab g = some fn) {fr : Bool} {args : List PV} {u : PV} (ha : okVL args = true) (hl : args.length ≤ fn.nt)
    (hr : runK cfg fn .cl noHandler 0 (args.map KV.cv) () = some (u, ())) (hfr : (u.free && !leanFlag tab g) = fr) : lendO cfg.b .cl fr g args = some u := by
  obtain ⟨r, obs, h1, h2⟩ := runK_ok hc ht (hn := fun _ => noHandler) noH (cvL_ok ha) cvL_un (by simpa using hl) hr
  rw [cvL_pv] at h2
  obtain ⟨e1, e2, _⟩ := conv_cl h1
  subst e1; subst e2
  have hL : cfg.b.L Unit noHandler 0 g args () = some (r, [], ()) := by rw [hc.L]; exact lim_of h2
  unfold lendO
  rw [(okVL_names ha).2]
  simp only [Bool.false_eq_true, if_false, hL, List.all_nil, Bool.and_true, hc.leans, hfr, beq_self_eq_true, chkO]
  exact h1
theorem law_of_run (hc : CfgOK cfg tab) {g : FuncId} {fn : RFn} (ht : tab g = some fn) {args : List PV} {b : Bool} (ha : okVL args = true) (hl : args.length ≤ fn.nt)
    (hr : runK cfg fn .cl noHandler 0 (args.map KV.cv) () = some (.bool b, ())) : ∃ n, evalFn cfg.b.sp tab n Unit noHandler 0 g args () = some (.bool b, [], ()) := by
  obtain ⟨r, obs, h1, m, hm⟩ := runK_ok hc ht (hn := fun _ => noHandler) noH (cvL_ok ha) cvL_un (by simpa using hl) hr
  rw [cvL_pv] at hm
  obtain ⟨e1, e2, _⟩ := conv_cl h1
  subst e1; subst e2
  exact ⟨m, hm m (Nat.le_refl _)⟩
end
theorem loop_run {σ ρ : Type} {step : σ → Option (Sum σ ρ)} {s0 : σ} {r : ρ} (inv : Nat → σ) (N : Nat) (h0 : s0 = inv 0) (hs : ∀ i, i < N → step (inv i) = some (.inl (inv (i + 1)))) (he : step (inv N) = some (.inr r)) : loopL step s0 = some r := by
  have key : ∀ m i, i + m = N → loopL step (inv i) = some r := by
    intro m
    induction m with
    | zero => intro i hi; obtain rfl : i = N := by omega
              exact loopL_inr he
    | succ m ih => intro i hi; rw [loopL_inl (hs i (by omega))]; exact ih (i + 1) (by omega)
  rw [h0]; exact key N 0 (by omega)
def yieldAll {E : Type} (h : Handler E) (d : Nat) : List (List PV) → E → Option E
  | [], e => some e
  | a :: l, e => match h d a e with
    | some (true, e) => yieldAll h d l e
    | some (false, e) => some e
    | none => none
@[simp] theorem bindO_val {α β : Type} (a : α) (f : α → Option β) : bindO (some a) f = f a := rfl
@[simp] theorem bindO_none' {α β : Type} (f : α → Option β) : bindO none f = none := rfl
@[simp] theorem chkO_true {β : Type} (a : Option β) : chkO true a = a := rfl
@[simp] theorem chkO_false {β : Type} (a : Option β) : chkO false a = none := rfl
@[simp] theorem iteP_bool {β : Type} (b : Bool) (x y : Option β) : iteP (.bool b) x y = if b = true then x else y := by cases b <;> rfl
@[simp] theorem iteB_bool {β : Type} (b : Bool) (x y : Option β) : iteB b x y = if b = true then x else y := by cases b <;> rfl
theorem iteP_true {β : Type} (x y : Option β) : iteP (.bool true) x y = x := rfl
theorem iteP_false {β : Type} (x y : Option β) : iteP (.bool false) x y = y := rfl
section pure
variable {c : TC} {cst : Bool} {k : IntKind}
@[simp] theorem pure_add (a b : Int) : pureO (.bin .add c cst (.c (.int k a)) (.c (.int k b))) = some (.int k (k.wrap (a + b))) := by simp [pureO, exec, RX.ev, binPV, chk, binInt]
@[simp] theorem pure_sub (a b : Int) : pureO (.bin .sub c cst (.c (.int k a)) (.c (.int k b))) = some (.int k (k.wrap (a - b))) := by simp [pureO, exec, RX.ev, binPV, chk, binInt]
@[simp] theorem pure_mul (a b : Int) : pureO (.bin .mul c cst (.c (.int k a)) (.c (.int k b))) = some (.int k (k.wrap (a * b))) := by simp [pureO, exec, RX.ev, binPV, chk, binInt]
theorem pure_rem (a b : Int) (hb : b ≠ 0) : pureO (.bin .rem c cst (.c (.int k a)) (.c (.int k b))) = some (.int k (a.tmod b)) := by simp [pureO, exec, RX.ev, binPV, chk, binInt, hb]
@[simp] theorem pure_eql (a b : Int) : pureO (.bin .eql c cst (.c (.int k a)) (.c (.int k b))) = some (.bool (a == b)) := by simp [pureO, exec, RX.ev, binPV, chk, binInt, cmpInt]
@[simp] theorem pure_neq (a b : Int) : pureO (.bin .neq c cst (.c (.int k a)) (.c (.int k b))) = some (.bool (a != b)) := by simp [pureO, exec, RX.ev, binPV, chk, binInt, cmpInt]
@[simp] theorem pure_lss (a b : Int) : pureO (.bin .lss c cst (.c (.int k a)) (.c (.int k b))) = some (.bool (decide (a < b))) := by simp [pureO, exec, RX.ev, binPV, chk, binInt, cmpInt]
@[simp] theorem pure_leq (a b : Int) : pureO (.bin .leq c cst (.c (.int k a)) (.c (.int k b))) = some (.bool (decide (a ≤ b))) := by simp [pureO, exec, RX.ev, binPV, chk, binInt, cmpInt]
@[simp] theorem pure_gtr (a b : Int) : pureO (.bin .gtr c cst (.c (.int k a)) (.c (.int k b))) = some (.bool (decide (b < a))) := by simp [pureO, exec, RX.ev, binPV, chk, binInt, cmpInt]
@[simp] theorem pure_geq (a b : Int) : pureO (.bin .geq c cst (.c (.int k a)) (.c (.int k b))) = some (.bool (decide (b ≤ a))) := by simp [pureO, exec, RX.ev, binPV, chk, binInt, cmpInt]
@[simp] theorem pure_eqs (a b : List UInt8) : pureO (.bin .eql c cst (.c (.str a)) (.c (.str b))) = some (.bool (a == b)) := by simp [pureO, exec, RX.ev, binPV, binStr]
@[simp] theorem pure_nes (a b : List UInt8) : pureO (.bin .neq c cst (.c (.str a)) (.c (.str b))) = some (.bool (!(a == b))) := by simp [pureO, exec, RX.ev, binPV, binStr]
@[simp] theorem pure_eqb (a b : Bool) : pureO (.bin .eql .bool cst (.c (.bool a)) (.c (.bool b))) = some (.bool (a == b)) := by simp [pureO, exec, RX.ev, binPV, eqNil]
@[simp] theorem pure_neb (a b : Bool) : pureO (.bin .neq .bool cst (.c (.bool a)) (.c (.bool b))) = some (.bool (!(a == b))) := by simp [pureO, exec, RX.ev, binPV, eqNil]
@[simp] theorem pure_not (b : Bool) : pureO (.un .not (.c (.bool b))) = some (.bool (!b)) := rfl
@[simp] theorem pure_neg (n : Int) : pureO (.un .neg (.c (.int k n))) = some (.int k (k.wrap (0 - n))) := rfl
@[simp] theorem pure_conv {k' : IntKind} (n : Int) : pureO (.conv k (.c (.int k' n))) = some (.int k (k.wrap n)) := rfl
@[simp] theorem pure_lens (s : List UInt8) : pureO (.len .str (.c (.str s))) = some (.int .i64 (s.length : Int)) := rfl
@[simp] theorem pure_lenl {j : Nat} (xs : List PV) (f : Bool) : pureO (.len .slice (.c (.sl j xs f))) = some (.int .i64 (xs.length : Int)) := rfl
@[simp] theorem pure_lenn : pureO (.len .slice (.c .nilS)) = some (.int .i64 0) := rfl
@[simp] theorem pure_tup (j : Nat) (xs : List PV) : pureO (.extract j (.c (.tup xs))) = xs[j]? := by
  simp only [pureO, exec, RX.ev]; cases xs[j]? <;> rfl
@[simp] theorem pure_load {n o : Nat} {ag : Bool} (cs : List PV) : pureO (.load n ag (.c (.ptr cs o))) = sel cs o n ag := by
  simp only [pureO, exec, RX.ev]; cases sel cs o n ag <;> rfl
@[simp] theorem pure_field {n o : Nat} {ag : Bool} (cs : List PV) : pureO (.field o n ag (.c (.agg cs))) = sel cs o n ag := by
  simp only [pureO, exec, RX.ev]; cases sel cs o n ag <;> rfl
@[simp] theorem pure_nilck (cs : List PV) (o : Nat) : pureO (.nilck (.c (.ptr cs o))) = some (.ptr cs o) := rfl
@[simp] theorem pure_nilckf (f : Nat) (cs : List PV) : pureO (.nilck (.c (.fn f cs))) = some (.fn f cs) := rfl
@[simp] theorem pure_faddr {off o : Nat} (cs : List PV) : pureO (.fieldAddr off (.c (.ptr cs o))) = if o + off < cs.length then some (.ptr cs (o + off)) else none := by
  by_cases hq : o + off < cs.length <;> simp [pureO, exec, RX.ev, chk, hq]
theorem pure_lidx {xs : List PV} {j n : Nat} {f : Bool} {v : PV} (hn : 0 < n) (h : xs[j]? = some v) : pureO (.idxAddr n (.c (.sl n xs f)) (.c (.int k (j : Int)))) = some (.ptr v.cells 0) := by
  simp [pureO, exec, RX.ev, natOf, h, chk, hn]
theorem pure_ssl2 {s : List UInt8} {h : Nat} (hh : h ≤ s.length) : pureO (.strSlice (.c (.str s)) none (some (.c (.int k (h : Int))))) = some (.str (s.take h)) := by
  simp [pureO, exec, RX.ev, evO, bound, natOf, chk, hh]
end pure
@[simp] theorem sel_one (v : PV) : sel [v] 0 1 false = some v := rfl
@[simp] theorem cells_int (k : IntKind) (n : Int) : (PV.int k n).cells = [.int k n] := rfl
@[simp] theorem cells_str (s : List UInt8) : (PV.str s).cells = [.str s] := rfl
@[simp] theorem cells_bool (b : Bool) : (PV.bool b).cells = [.bool b] := rfl
@[simp] theorem cells_agg' (cs : List PV) : (PV.agg cs).cells = cs := rfl
@[simp] theorem addN_eq (a b : Nat) : addN a b = a + b := rfl
@[simp] theorem subN_eq (a b : Nat) : subN a b = a - b := rfl
@[simp] theorem minN_eq (a b : Nat) : minN a b = min a b := rfl
@[simp] theorem lenL_eq (l : List PV) : lenL l = l.length := rfl
@[simp] theorem takeL_eq (n : Nat) (l : List PV) : takeL n l = l.take n := rfl
@[simp] theorem dropL_eq (n : Nat) (l : List PV) : dropL n l = l.drop n := rfl
@[simp] theorem catL_eq (l m : List PV) : catL l m = l ++ m := rfl
@[simp] theorem replL_eq (n : Nat) (v : PV) : replL n v = List.replicate n v := rfl
@[simp] theorem itemsP_sl (k : Nat) (xs : List PV) (f : Bool) : itemsP (.sl k xs f) = xs := rfl
@[simp] theorem natP_int (k : IntKind) (n : Int) : natP (.int k n) = n.toNat := rfl
@[simp] theorem nI_eq (n : Nat) : nI n = .int .i64 (n : Int) := rfl
@[simp] theorem andB_eq (a b : Bool) : andB a b = (a && b) := rfl
@[simp] theorem leN_eq (a b : Nat) : leN a b = decide (a ≤ b) := by
  rw [Bool.eq_iff_iff, leN_iff, decide_eq_true_iff]
@[simp] theorem ltN_eq (a b : Nat) : ltN a b = decide (a < b) := by
  rw [Bool.eq_iff_iff, ltN_iff, decide_eq_true_iff]
@[simp] theorem eqN_eq (a b : Nat) : eqN a b = decide (a = b) := by
  rw [Bool.eq_iff_iff, eqN_iff, decide_eq_true_iff]
@[simp] theorem nth_0 (x : PV) (l : List PV) : nth (x :: l) 0 = x := rfl
@[simp] theorem nth_1 (a x : PV) (l : List PV) : nth (a :: x :: l) 1 = x := rfl
@[simp] theorem nth_2 (a b x : PV) (l : List PV) : nth (a :: b :: x :: l) 2 = x := rfl
@[simp] theorem nth_3 (a b c x : PV) (l : List PV) : nth (a :: b :: c :: x :: l) 3 = x := rfl
@[simp] theorem nth_4 (a b c d x : PV) (l : List PV) : nth (a :: b :: c :: d :: x :: l) 4 = x := rfl
@[simp] theorem nth_5 (a b c d e x : PV) (l : List PV) : nth (a :: b :: c :: d :: e :: x :: l) 5 = x := rfl
@[simp] theorem nth_6 (a b c d e f x : PV) (l : List PV) : nth (a :: b :: c :: d :: e :: f :: x :: l) 6 = x := rfl
@[simp] theorem nth_7 (a b c d e f g x : PV) (l : List PV) : nth (a :: b :: c :: d :: e :: f :: g :: x :: l) 7 = x := rfl
@[simp] theorem nth_8 (a b c d e f g h x : PV) (l : List PV) : nth (a :: b :: c :: d :: e :: f :: g :: h :: x :: l) 8 = x := rfl
@[simp] theorem selO_eq (v : PV) (o n : Nat) (ag : Bool) : selO v o n ag = sel v.cells o n ag := rfl
@[simp] theorem natO_int (k : IntKind) (n : Nat) : natO (.int k (n : Int)) = some n := by simp [natO, natOf]
end Go.Ab


namespace Go.Ab
mutual
theorem fitP_leaves : ∀ (p x : KV), fitV p x = true → x.ok → fitP p x.pv = some (leaves p x)
  | .un, x, h, _ => by cases x <;> simp [fitV] at h; rfl
  | .sk, x, h, _ => by cases x <;> simp [fitV] at h; rfl
  | .yld d, x, h, _ => by cases x <;> simp [fitV] at h; rfl
  | .ref nm o, x, h, _ => by cases x <;> simp [fitV] at h; obtain ⟨rfl, rfl⟩ := h; simp [fitP, KV.pv, leaves, chkO]
  | .aref _ _ _ _, x, h, _ => by simp [fitV] at h
  | .mp nm, x, h, _ => by cases x <;> simp [fitV] at h; subst h; simp [fitP, KV.pv, leaves, chkO]
  | .it nm, x, h, _ => by cases x <;> simp [fitV] at h; subst h; simp [fitP, KV.pv, leaves, chkO]
  | .wit nm, x, h, _ => by cases x <;> simp [fitV] at h; subst h; simp [fitP, KV.pv, leaves, chkO]
  | .arr nm k o n, x, h, _ => by
    cases x with
    | arr nm' k' o' n' =>
      simp only [fitV] at h
      simp only [KV.pv, fitP, leaves]
      rw [h]; rfl
    | _ => simp [fitV] at h
  | .lit b, x, h, hx => leaf_fit hx (by simpa [fitV] using h)
  | .nils, x, h, hx => leaf_fit hx (by simpa [fitV] using h)
  | .cv v, x, h, hx => leaf_fit hx (by simpa [fitV] using h)
  | .fn f cap, x, h, hx => by
    cases x with
    | fn f' cap' =>
      simp only [fitV, Bool.and_eq_true, beq_iff_eq] at h
      obtain ⟨rfl, h⟩ := h
      simp only [KV.pv, fitP, if_true, leaves]
      exact fitPL_leaves cap cap' h hx
    | _ => simp [fitV] at h
  | .tup xs, x, h, hx => by
    cases x with
    | tup ys =>
      simp only [fitV] at h
      simp only [KV.pv, fitP, leaves]
      exact fitPL_leaves xs ys h hx
    | _ => simp [fitV] at h
  | .agg cs, x, h, hx => by
    simp only [fitV] at h
    simp only [fitP, leaves]
    by_cases hc : (clL cs).isSome = true
    · rw [if_pos hc] at h
      rw [if_pos hc, if_pos hc]
      exact leaf_fit hx h
    · rw [if_neg hc] at h
      rw [if_neg hc, if_neg hc]
      cases x with
      | agg cs' => exact fitPL_leaves cs cs' h hx
      | _ => simp at h
  | .iface t y, x, h, hx => by
    simp only [fitV] at h
    simp only [fitP, leaves]
    by_cases hc : y.cl.isSome = true
    · rw [if_pos hc] at h
      rw [if_pos hc, if_pos hc]
      exact leaf_fit hx h
    · rw [if_neg hc] at h
      rw [if_neg hc, if_neg hc]
      cases x with
      | iface t' y' =>
        simp only [Bool.and_eq_true, beq_iff_eq] at h
        obtain ⟨rfl, h⟩ := h
        simp only [KV.pv, if_true]
        exact fitP_leaves y y' h hx
      | _ => simp at h
theorem fitPL_leaves : ∀ (ps xs : List KV), fitL ps xs = true → okKL xs → fitPL ps (pvL xs) = some (leavesL ps xs)
  | [], xs, h, _ => by cases xs <;> simp [fitL] at h; rfl
  | p :: ps, xs, h, hx => by
    cases xs with
    | nil => simp [fitL] at h
    | cons x xs =>
      simp only [fitL, Bool.and_eq_true] at h
      simp only [pvL, fitPL, leavesL]
      rw [fitP_leaves p x h.1 hx.1, fitPL_leaves ps xs h.2 hx.2]
theorem leaf_fit {x : KV} (hx : x.ok) (h : x.cl.isSome = true) : chkO (okV x.pv) (some [x.pv]) = some [x.cl.getD .undef] := by
  obtain ⟨v, hv⟩ := Option.isSome_iff_exists.1 h
  have h1 := KV.cl_ok hx hv
  rw [KV.cl_pv hv, hv]
  simp [chkO, h1]
end
theorem fitPOb_leaves (p x : KOb) (h : fitOb p x = true) (hx : x.ok) : fitPOb p x.ob = some (leavesObN p x) := by
  cases p with
  | cells ty cs =>
    cases x with
    | cells ty' cs' =>
      simp only [fitOb, Bool.and_eq_true, beq_iff_eq] at h
      obtain ⟨rfl, h⟩ := h
      simp only [fitPOb, KOb.ob, if_true]
      exact fitPL_leaves cs cs' h hx
    | _ => simp [fitOb] at h
  | whole ty w =>
    cases x with
    | whole ty' v =>
      simp only [fitOb, beq_iff_eq] at h
      subst h
      have hx' : okV v = true := hx
      have h2 : okVL (cellsP v) = true := okV_cells hx'
      simp [fitPOb, KOb.ob, leavesObN, chkO, h2]
    | _ => simp [fitOb] at h
  | arr k kt ws =>
    cases x with
    | arr k' kt xs =>
      simp only [fitOb, Bool.and_eq_true, beq_iff_eq] at h
      obtain ⟨rfl, rfl⟩ := h
      have hx' : okVL xs = true := hx
      simp [fitPOb, KOb.ob, leavesObN, leavesOb, chkO, hx']
    | _ => simp [fitOb] at h
  | map ws =>
    cases x with
    | map es =>
      have hx' : okVL es = true := hx
      simp [fitPOb, KOb.ob, leavesObN, leavesOb, chkO, hx']
    | _ => simp [fitOb] at h
  | siter s0 p0 =>
    cases x with
    | siter s pos => rfl
    | _ => simp [fitOb] at h
theorem fitPObL_leaves : ∀ (ps xs : List KOb), fitObL ps xs = true → (∀ o ∈ xs, o.ok) → fitPObL ps (xs.map KOb.ob) = some (leavesObNL ps xs)
  | [], [], _, _ => rfl
  | [], _ :: _, h, _ => by simp [fitObL] at h
  | _ :: _, [], h, _ => by simp [fitObL] at h
  | p :: ps, x :: xs, h, hx => by
    simp only [fitObL, Bool.and_eq_true] at h
    simp only [List.map_cons, fitPObL, leavesObNL]
    rw [fitPOb_leaves p x h.1 (hx x List.mem_cons_self), fitPObL_leaves ps xs h.2 fun o ho => hx o (List.mem_cons_of_mem _ ho)]
theorem kwit_pv {x : KV} (h : x.ok) : witNm x.pv = kwitNm x := by
  cases x with
  | arr nm k o n =>
    simp only [KV.pv, kwitNm, witNm]
    by_cases hc : k = 1 ∧ o = 0 ∧ n = 0
    · obtain ⟨rfl, rfl, rfl⟩ := hc; rfl
    · rw [if_neg hc]
      split
      · rename_i heq
        cases heq
        exact absurd ⟨rfl, rfl, rfl⟩ hc
      · rfl
  | cv v =>
    have hv : okV v = true := h
    simp only [KV.pv, kwitNm]
    unfold witNm
    split
    · simp [okV] at hv
    · rfl
  | _ => rfl
section
variable {ks : KSt}
theorem kioEnd_ok (hk : ks.Ok) {P : IoSh} {v : KV} (hv : v.ok) {rs : List PV} (h : kioEnd P ks v = some rs) : ∃ out, ioEnd none 1 0 (canonR P.ins.length) ks.st v.pv = some out ∧ ioFit P out = some rs := by
  unfold kioEnd at h
  split at h
  case h_2 => cases h
  rename_i sp hkeep
  simp only at h
  have hsp : SpWf ks.nt sp := hk.kp sp (by rw [hkeep]; exact List.mem_singleton.2 rfl)
  have hst : ks.st.keep = dense ks.nt sp := by
    show ks.keep.flatMap (dense ks.nt) = _
    rw [hkeep]; simp
  have hw : ∀ j, witNm (ks.st.keep.getD j .undef) = kwitNm (spGet sp j) := fun j => by
    rw [hst, dense_getD hsp, kwit_pv (hsp.get_ok j)]
  have hA : ioPairs (canonR P.ins.length) ks.st.keep = kioPairs P.ins.length sp := by
    unfold ioPairs kioPairs
    exact List.map_congr_left fun p _ => by rw [hw]
  have hG : ioGone (canonR P.ins.length) ks.st.keep = kioGone P.ins.length sp := by
    unfold ioGone kioGone
    congr 1
    exact List.filter_congr fun p _ => by rw [hw]
  have hlk := st_lookF hk
  have hnm : ∀ m : Nm, ((look ks.st.objs m).map Ob.names).getD [] = ((klook ks.objs m).map KOb.names).getD [] := by
    intro m
    rw [st_look hk]
    cases hl : klook ks.objs m with
    | none => rfl
    | some o =>
      simp only [Option.map_some, Option.getD_some]
      exact KOb.ob_names (klook_ok hk.ob hl)
  have hN : ioNews (look ks.st.objs) (kioPairs P.ins.length sp) v.pv = kioNews (klook ks.objs) (kioPairs P.ins.length sp) v := by
    unfold ioNews kioNews
    rw [KV.pv_names hv]
    have e1 : ((kioPairs P.ins.length sp).flatMap fun p => ((look ks.st.objs p.1).map Ob.names).getD []) = (kioPairs P.ins.length sp).flatMap fun p => ((klook ks.objs p.1).map KOb.names).getD [] := by
      congr 1; funext p; exact hnm p.1
    rw [e1, hlk, ← kreach_eq (klook_okF hk)]
  generalize kioPairs P.ins.length sp = A at h hA hN
  generalize hNd : kioNews (klook ks.objs) A v = N at h hN
  generalize hB : (A ++ N.zipIdx.map fun p => (p.1, (1, 0 + p.2))) = B at h
  split at h
  case isFalse => cases h
  rename_i hcd
  obtain ⟨hnd, hgone, hfit⟩ := hcd
  cases h
  simp only [Bool.and_eq_true] at hfit
  obtain ⟨hf1, hf2, hf3⟩ := hfit
  have hoff : (fun m => if (B.map (·.1)).contains m then none else some none : Nm → Option (Option Ob)) = subOff fun m => !(B.map (·.1)).contains m := by
    funext m
    show (if (B.map (·.1)).contains m = true then none else some none) = if (!(B.map (·.1)).contains m) = true then some none else none
    cases (B.map (·.1)).contains m <;> rfl
  have hob : ∀ nm, ioOb (look ks.st.objs) B nm = (kioOb (klook ks.objs) B nm).ob ∧ (kioOb (klook ks.objs) B nm).ok := by
    intro nm
    unfold ioOb kioOb
    have hok : ((klook ks.objs nm).getD kdead).ok := by
      cases hl : klook ks.objs nm with
      | none => exact rfl
      | some o => exact klook_ok hk.ob hl
    have hobs : ((look ks.st.objs nm).getD dead) = ((klook ks.objs nm).getD kdead).ob := by
      rw [st_look hk]
      cases klook ks.objs nm <;> rfl
    rw [hoff, hobs, ← KOb.off_ob _ hok, ← KOb.ren_ob _ (KOb.off_ok _ hok)]
    exact ⟨rfl, KOb.ren_ok _ (KOb.off_ok _ hok)⟩
  refine ⟨{ v := (v.pv.sub fun m => if (B.map (·.1)).contains m then none else some none).ren fun m => (B.lookup m).getD m, new := N.map (ioOb (look ks.st.objs) B), ups := A.map fun p => (p.2, ioOb (look ks.st.objs) B p.1), gone := kioGone P.ins.length sp, io := true }, ?_, ?_⟩
  · unfold ioEnd
    simp only
    rw [hA, hN, hB, hG]
    simp [chk, hnd]
  · unfold ioFit
    simp only
    rw [if_pos hgone]
    have e1 : (v.pv.sub fun m => if (B.map (·.1)).contains m then none else some none).ren (fun m => (B.lookup m).getD m) = ((v.off fun m => !(B.map (·.1)).contains m).ren fun m => (B.lookup m).getD m).pv := by
      rw [hoff, ← KV.off_pv _ hv, ← KV.ren_pv _ (KV.off_ok _ hv)]
    have e2 : (A.map fun p => (p.2, ioOb (look ks.st.objs) B p.1)).map (·.2) = (A.map fun p => kioOb (klook ks.objs) B p.1).map KOb.ob := by
      rw [List.map_map, List.map_map]
      exact List.map_congr_left fun p _ => (hob p.1).1
    have e3 : N.map (ioOb (look ks.st.objs) B) = (N.map (kioOb (klook ks.objs) B)).map KOb.ob := by
      rw [List.map_map]
      exact List.map_congr_left fun m _ => (hob m).1
    rw [e1, e2, e3, fitP_leaves _ _ hf1 (KV.ren_ok _ (KV.off_ok _ hv)), fitPObL_leaves _ _ hf2 (fun o ho => by
      obtain ⟨p, _, rfl⟩ := List.mem_map.1 ho; exact (hob p.1).2), fitPObL_leaves _ _ hf3 (fun o ho => by
      obtain ⟨m, _, rfl⟩ := List.mem_map.1 ho; exact (hob m).2)]
end
mutual
theorem fill_any {vs : List PV} (hv : okVL vs = true) : ∀ (p : KV) (i : Nat), (fill p vs i).1.ok
  | .un, i | .sk, i | .yld _, i | .ref _ _, i | .aref _ _ _ _, i | .mp _, i | .it _, i | .wit _, i | .arr _ _ _ _, i => trivial
  | .lit _, i | .nils, i | .cv _, i => nth_ok hv i
  | .fn f cap, i => fillL_any hv cap i
  | .tup xs, i => fillL_any hv xs i
  | .agg cs, i => by
    simp only [fill]
    split
    · exact nth_ok hv i
    · exact fillL_any hv cs i
  | .iface t y, i => by
    simp only [fill]
    split
    · exact nth_ok hv i
    · exact fill_any hv y i
theorem fillL_any {vs : List PV} (hv : okVL vs = true) : ∀ (ps : List KV) (i : Nat), okKL (fillL ps vs i).1
  | [], i => trivial
  | p :: ps, i => ⟨fill_any hv p i, fillL_any hv ps _⟩
theorem nth_ok {vs : List PV} (hv : okVL vs = true) (i : Nat) : okV (nth vs i) = true := by
  unfold nth
  rw [List.getD_eq_getElem?_getD]
  cases h : vs[i]? with
  | none => rfl
  | some x => exact okVL_get hv h
end
theorem fillOb_any {vs : List PV} (hv : okVL vs = true) (p : KOb) (i : Nat) : (fillOb p vs i).1.ok := by
  cases p with
  | cells ty cs => exact fillL_any hv cs i
  | whole ty w => exact nth_ok hv i
  | arr k kt xs =>
    have := nth_ok hv i
    show okVL (itemsP (nth vs i)) = true
    unfold itemsP
    split
    · rename_i heq; rw [heq] at this; simpa [okV] using this
    · rfl
  | map es =>
    have := nth_ok hv i
    show okVL (entsP (nth vs i)) = true
    unfold entsP
    split
    · rename_i heq; rw [heq] at this; simpa [okV] using this
    · rfl
  | siter s p => trivial
theorem fillObL_any {vs : List PV} (hv : okVL vs = true) : ∀ (ps : List KOb) (i : Nat), (∀ o ∈ (fillObL ps vs i).1, o.ok) ∧ (fillObL ps vs i).1.length = ps.length
  | [], i => ⟨fun o ho => (by cases ho), rfl⟩
  | p :: ps, i => by
    obtain ⟨h1, h2⟩ := fillObL_any hv ps (fillOb p vs i).2
    refine ⟨fun o ho => ?_, by simp [fillObL, h2]⟩
    simp only [fillObL, List.mem_cons] at ho
    rcases ho with rfl | ho
    · exact fillOb_any hv p i
    · exact h1 o ho
theorem fillL_un {vs : List PV} : ∀ (ps : List KV) (i : Nat), (∀ p ∈ ps, isUnK p = false) → (∀ x ∈ (fillL ps vs i).1, isUnK x = false) ∧ (fillL ps vs i).1.length = ps.length
  | [], i, _ => ⟨fun o ho => (by cases ho), rfl⟩
  | p :: ps, i, hp => by
    obtain ⟨h1, h2⟩ := fillL_un (vs := vs) ps (fill p vs i).2 fun q hq => hp q (List.mem_cons_of_mem _ hq)
    refine ⟨fun x hx => ?_, by simp [fillL, h2]⟩
    simp only [fillL, List.mem_cons] at hx
    rcases hx with rfl | hx
    · exact un_fill (hp p List.mem_cons_self)
    · exact h1 x hx
theorem io_of_run {cfg : KCfg} {tab : FuncId → Option RFn} (hc : CfgOK cfg tab) {g : FuncId} {fn : RFn} (ht : tab g = some fn) {P : IoSh} (hP : cfg.ioF g = some P) (hun : P.args.all (fun p => !isUnK p) = true) {vs rs : List PV} (hv : okVL vs = true)
    (hr : runIoK cfg fn P vs = some rs) : ioO cfg.b P g vs = some rs := by
  obtain ⟨fn', ht', hla, hli, hnt⟩ := hc.ioP g P hP
  rw [ht] at ht'; cases ht'
  unfold runIoK at hr
  simp only at hr
  rw [force_eq] at hr
  obtain ⟨u1, u2⟩ := fillL_un (vs := vs) P.args 0 fun p hp => by simpa using List.all_eq_true.1 hun p hp
  have a1 := fillL_any hv P.args 0
  obtain ⟨b1, b2⟩ := fillObL_any hv P.ins (fillL P.args vs 0).2
  generalize has : (fillL P.args vs 0).1 = aas at hr u1 u2 a1
  generalize hos : (fillObL P.ins vs (fillL P.args vs 0).2).1 = os at hr b1 b2
  obtain ⟨i1, i2⟩ := init_ok (nt := fn.nt) a1 u1 (by omega)
  have hwsp : SpWf fn.nt ((List.range P.ins.length).map fun j => (j, KV.wit (0, j))) := by
    refine ⟨?_, ?_, ?_, ?_⟩
    · rw [List.map_map]
      have : ((fun p : Nat × KV => p.1) ∘ fun j => (j, KV.wit (0, j))) = id := rfl
      rw [this, List.map_id]
      exact List.pairwise_lt_range
    · intro p hp
      obtain ⟨j, hj, rfl⟩ := List.mem_map.1 hp
      have := List.mem_range.1 hj
      simp only; omega
    · intro p hp
      obtain ⟨j, hj, rfl⟩ := List.mem_map.1 hp
      trivial
    · intro p hp
      obtain ⟨j, hj, rfl⟩ := List.mem_map.1 hp
      rfl
  have hso : SoWf fn.nt [(0, os)] := ⟨by simp, by simp [hnt], fun p hp o ho => by simp only [List.mem_singleton] at hp; subst hp; exact b1 o ho⟩
  have hks : ({ nt := fn.nt, tmps := aas.zipIdx.map fun p => (p.2, p.1), objs := [(0, os)], keep := [(List.range P.ins.length).map fun j => (j, KV.wit (0, j))] } : KSt).Ok :=
    ⟨i1.tm, hso, fun sp hsp => by simp only [List.mem_singleton] at hsp; subst hsp; exact hwsp⟩
  have hst : ({ nt := fn.nt, tmps := aas.zipIdx.map fun p => (p.2, p.1), objs := [(0, os)], keep := [(List.range P.ins.length).map fun j => (j, KV.wit (0, j))] } : KSt).st = ioSt fn.nt (os.map KOb.ob) (pvL aas) := by
    have e1 : dense fn.nt (aas.zipIdx.map fun p => (p.2, p.1)) = pvL aas ++ List.replicate (fn.nt - (pvL aas).length) .undef := congrArg St.tmps i2
    unfold KSt.st ioSt
    simp only
    rw [e1]
    congr 1
    · refine denseO_ext (by simp) fun i hi => ?_
      by_cases h0 : i = 0
      · subst h0
        rw [List.getElem?_set_self (by simpa using hnt)]
        rfl
      · rw [List.getElem?_set_ne (Ne.symm h0), List.getElem?_replicate, if_pos hi]
        have : soGet [(0, os)] i = [] := by
          simp only [soGet]
          cases hb : Nat.beq i 0 with
          | true => exact absurd (beq_true hb) h0
          | false => rfl
        rw [this]; rfl
    · simp only [List.flatMap_cons, List.flatMap_nil, List.append_nil]
      refine dense_ext (by simp [wits]) fun i hi => ?_
      unfold wits
      rw [List.getElem?_map, List.getElem?_range hi]
      simp only [Option.map_some, List.length_map]
      by_cases hij : i < os.length
      · rw [if_pos hij]
        have hm : (i, KV.wit (0, i)) ∈ (List.range P.ins.length).map fun j => (j, KV.wit (0, j)) := List.mem_map.2 ⟨i, List.mem_range.2 (by omega), rfl⟩
        rw [show spGet ((List.range P.ins.length).map fun j => (j, KV.wit (0, j))) i = KV.wit (0, i) from hwsp.get_mem hm]
        rfl
      · rw [if_neg hij]
        rw [show spGet ((List.range P.ins.length).map fun j => (j, KV.wit (0, j))) i = .un from spGet_not fun p hp => by
          obtain ⟨j, hj, rfl⟩ := List.mem_map.1 hp
          have := List.mem_range.1 hj
          simp only; omega]
        rfl
  obtain ⟨x, k1, e1, hr, hk1, hev⟩ := evalK_ok hc fn.code (h := noHandler) (hn := fun _ => noHandler) noH 0 hks hr
  rw [hst] at hev
  have fin : (kresVs k1 fn.res fun vs => kioEnd P k1 (koneOf vs)) = some rs → (∀ id, x ≠ .exit id) → ioO cfg.b P g vs = some rs := by
    intro hr hx
    obtain ⟨ws, hr, hws, h1⟩ := kresVs_ok hk1 fn.res hr
    obtain ⟨o1, o2⟩ := koneOf_ok hws
    obtain ⟨out, g1, g2⟩ := kioEnd_ok hk1 o1 hr
    have hI : cfg.b.I g (os.map KOb.ob) (pvL aas) = some (k1.st, (koneOf ws).pv) := by
      rw [hc.I]
      unfold limIo
      rw [ht]
      refine lim_of (hev.mono fun n hn' => ?_)
      unfold ioRaw
      rw [hn']
      cases x with
      | exit id => exact absurd rfl (hx id)
      | normal => simp only [h1]; rw [← o2]
      | ret => simp only [h1]; rw [← o2]
    unfold ioO
    rw [hos, has, hI]
    simp only [g1, g2]
  cases x with
  | exit id => cases hr
  | normal => exact fin hr (by simp)
  | ret => exact fin hr (by simp)
end Go.Ab


namespace Go.Ab
open Go
noncomputable def mkF (io shut : Bool) (nt : Nat) (f : FuncId) : RFn := { nt, code := ((compF Go.Proofs.Tryz.prog (fun _ => none) (deadOf Go.Proofs.Tryz.prog f) f).getD default).code, res := ((compF Go.Proofs.Tryz.prog (fun _ => none) (deadOf Go.Proofs.Tryz.prog f) f).getD default).res, io, shut }
theorem mkF_comp {io shut : Bool} {nt : Nat} {f : FuncId} (h : (compF Go.Proofs.Tryz.prog (fun _ => none) (deadOf Go.Proofs.Tryz.prog f) f).map (·.nt) = some nt) : compF Go.Proofs.Tryz.prog (fun _ => none) (deadOf Go.Proofs.Tryz.prog f) f = some { mkF io shut nt f with io := false, shut := false } := by
  obtain ⟨fn, h1, rfl⟩ := Option.map_eq_some_iff.1 h
  unfold mkF
  rw [h1]
  have h2 := h1
  unfold compF at h2
  split at h2
  · split at h2
    · split at h2
      · cases h2
      · cases h2; rfl
    · cases h2
  · cases h2
noncomputable def fn3 : RFn := mkF false true 70 3
noncomputable def fn4 : RFn := mkF false true 106 4
noncomputable def fn5 : RFn := mkF false true 97 5
noncomputable def fn6 : RFn := mkF false true 132 6
noncomputable def fn7 : RFn := mkF false true 116 7
noncomputable def fn8 : RFn := mkF false true 103 8
noncomputable def fn9 : RFn := mkF false true 69 9
noncomputable def fn10 : RFn := mkF false true 93 10
noncomputable def fn12 : RFn := mkF false true 15 12
noncomputable def fn13 : RFn := mkF false true 33 13
noncomputable def fn14 : RFn := mkF false true 8 14
noncomputable def fn15 : RFn := mkF false true 38 15
noncomputable def fn16 : RFn := mkF false true 24 16
noncomputable def fn17 : RFn := mkF false true 6 17
noncomputable def fn18 : RFn := mkF false true 24 18
noncomputable def fn19 : RFn := mkF false true 88 19
noncomputable def fn20 : RFn := mkF false true 53 20
noncomputable def fn21 : RFn := mkF false true 24 21
noncomputable def fn22 : RFn := mkF false true 8 22
noncomputable def fn23 : RFn := mkF false true 25 23
noncomputable def fn24 : RFn := mkF false true 8 24
noncomputable def fn25 : RFn := mkF false true 9 25
noncomputable def fn26 : RFn := mkF false true 4 26
noncomputable def fn27 : RFn := mkF false true 4 27
noncomputable def fn28 : RFn := mkF false true 5 28
noncomputable def fn30 : RFn := mkF false true 10 30
noncomputable def fn31 : RFn := mkF false true 6 31
noncomputable def fn32 : RFn := mkF false true 9 32
noncomputable def fn33 : RFn := mkF false true 6 33
noncomputable def fn34 : RFn := mkF false true 17 34
noncomputable def fn35 : RFn := mkF false true 9 35
noncomputable def fn36 : RFn := mkF false true 26 36
noncomputable def fn37 : RFn := mkF false true 41 37
noncomputable def fn38 : RFn := mkF false true 8 38
noncomputable def fn39 : RFn := mkF false true 37 39
noncomputable def fn40 : RFn := mkF false true 6 40
noncomputable def fn41 : RFn := mkF false true 76 41
noncomputable def fn42 : RFn := mkF false true 53 42
noncomputable def fn43 : RFn := mkF false true 69 43
noncomputable def fn44 : RFn := mkF false true 26 44
noncomputable def fn46 : RFn := mkF false true 13 46
noncomputable def fn47 : RFn := mkF false true 59 47
noncomputable def fn48 : RFn := mkF false true 44 48
noncomputable def fn49 : RFn := mkF false true 56 49
noncomputable def fn50 : RFn := mkF false true 8 50
noncomputable def fn51 : RFn := mkF false true 9 51
noncomputable def fn52 : RFn := mkF false false 13 52
noncomputable def fn53 : RFn := mkF false true 73 53
noncomputable def fn54 : RFn := mkF false true 11 54
noncomputable def fn55 : RFn := mkF false true 53 55
noncomputable def fn56 : RFn := mkF false true 17 56
noncomputable def fn57 : RFn := mkF false true 72 57
noncomputable def fn58 : RFn := mkF false true 47 58
noncomputable def fn59 : RFn := mkF false true 8 59
noncomputable def fn60 : RFn := mkF false true 6 60
noncomputable def fn61 : RFn := mkF false true 11 61
noncomputable def fn62 : RFn := mkF false true 9 62
noncomputable def fn63 : RFn := mkF false true 6 63
noncomputable def fn65 : RFn := mkF false true 19 65
noncomputable def fn66 : RFn := mkF false true 17 66
noncomputable def fn67 : RFn := mkF false true 28 67
noncomputable def fn68 : RFn := mkF false true 40 68
noncomputable def fn69 : RFn := mkF false true 52 69
noncomputable def fn70 : RFn := mkF false true 46 70
noncomputable def fn75 : RFn := mkF false true 5 75
noncomputable def fn76 : RFn := mkF false true 32 76
noncomputable def fn77 : RFn := mkF false true 20 77
noncomputable def fn78 : RFn := mkF false true 19 78
noncomputable def fn79 : RFn := mkF false true 11 79
noncomputable def fn80 : RFn := mkF false false 36 80
noncomputable def fn81 : RFn := mkF true false 28 81
noncomputable def fn82 : RFn := mkF false true 19 82
noncomputable def fn11 : RFn := mkF false false 71 11
noncomputable def fn29 : RFn := mkF false false 29 29
noncomputable def fn45 : RFn := mkF false false 34 45
noncomputable def fn71 : RFn := mkF true false 19 71
noncomputable def fn72 : RFn := mkF false false 11 72
noncomputable def fn73 : RFn := mkF false false 6 73
noncomputable def fn88 : RFn := mkF false false 104 88
noncomputable def fn89 : RFn := mkF false false 8 89
noncomputable def fn99 : RFn := mkF false false 54 99
noncomputable def fn105 : RFn := mkF false false 15 105
noncomputable def tab0 : FuncId → Option RFn
  | 3 => some fn3
  | 4 => some fn4
  | 5 => some fn5
  | 6 => some fn6
  | 7 => some fn7
  | 8 => some fn8
  | 9 => some fn9
  | 10 => some fn10
  | 12 => some fn12
  | 13 => some fn13
  | 14 => some fn14
  | 15 => some fn15
  | 16 => some fn16
  | 17 => some fn17
  | 18 => some fn18
  | 19 => some fn19
  | 20 => some fn20
  | 21 => some fn21
  | 22 => some fn22
  | 23 => some fn23
  | 24 => some fn24
  | 25 => some fn25
  | 26 => some fn26
  | 27 => some fn27
  | 28 => some fn28
  | 30 => some fn30
  | 31 => some fn31
  | 32 => some fn32
  | 33 => some fn33
  | 34 => some fn34
  | 35 => some fn35
  | 36 => some fn36
  | 37 => some fn37
  | 38 => some fn38
  | 39 => some fn39
  | 40 => some fn40
  | 41 => some fn41
  | 42 => some fn42
  | 43 => some fn43
  | 44 => some fn44
  | 46 => some fn46
  | 47 => some fn47
  | 48 => some fn48
  | 49 => some fn49
  | 50 => some fn50
  | 51 => some fn51
  | 52 => some fn52
  | 53 => some fn53
  | 54 => some fn54
  | 55 => some fn55
  | 56 => some fn56
  | 57 => some fn57
  | 58 => some fn58
  | 59 => some fn59
  | 60 => some fn60
  | 61 => some fn61
  | 62 => some fn62
  | 63 => some fn63
  | 65 => some fn65
  | 66 => some fn66
  | 67 => some fn67
  | 68 => some fn68
  | 69 => some fn69
  | 70 => some fn70
  | 75 => some fn75
  | 76 => some fn76
  | 77 => some fn77
  | 78 => some fn78
  | 79 => some fn79
  | 80 => some fn80
  | 81 => some fn81
  | 82 => some fn82
  | 11 => some fn11
  | 29 => some fn29
  | 45 => some fn45
  | 71 => some fn71
  | 72 => some fn72
  | 73 => some fn73
  | 88 => some fn88
  | 89 => some fn89
  | 99 => some fn99
  | 105 => some fn105
  | _ => none
end Go.Ab


set_option maxRecDepth 100000
namespace Go.Ab
open Go
def rsh0 : FuncId → RSh × Bool
  | 15 => (.cl, false)
  | 38 => (.cl, false)
  | 51 => (.cl, false)
  | 52 => (.own 1, true)
  | 75 => (.cl, false)
  | 80 => (.own 1, true)
  | 90 => (.own 1, true)
  | _ => (.cl, true)
def sh71 : IoSh := { args := [], ins := [], res := .un, outs := [], news := [], gone := [] }
def sh81 : IoSh := { args := [.arr (0, 0) 1 0 0], ins := [.arr 1 0 []], res := .tup [], outs := [.arr 1 0 []], news := [], gone := [] }
def iof0 : FuncId → Option IoSh
  | 71 => some sh71
  | 81 => some sh81
  | _ => none
def cfg0 (b : KB) (dsh : Nat → RSh) : KCfg := { b, rsh := rsh0, spF := fun f => f == 64 || f == 95 || f == 90 || f == 87 || f == 74, asT := fun f p => if f = 64 ∧ p = 74 then some (72, 1) else none, dsh, ioF := iof0 }
theorem run10 (B : KB) {E : Type} (h : Handler E) (dep : Nat) (e : E) (x0 : PV) (x1 : PV) (x2 : PV) :
    runK (cfg0 B (fun _ => .cl)) fn10 (.cl) h dep [.cv x0, .cv x1, .cv x2] e =
    chkO (valO x1) (chkO (valO x2) (bindO (callO B .cl (.fn 11 []) []) (fun z1 => bindO (selO x1 0 3 true) (fun z2 => bindO (callO B .cl (.fn 12 []) [z2]) (fun z3 => chkO (okSto z3 x1
    0 3) (bindO (selO x2 0 3 true) (fun z4 => bindO (callO B .cl (.fn 12 []) [z4]) (fun z5 => chkO (okSto z5 x2 0 3) (bindO (callO B .cl (.fn 14 []) [x0]) (fun z6 => bindO (selO (stoP
    z5 x2 0) 0 3 true) (fun z7 => bindO (callO B .cl (.fn 13 []) [z6, z7]) (fun z8 => bindO (pureO (.extract 0 (.c z8))) (fun z9 => bindO (pureO (.extract 1 (.c z8))) (fun z10 => chkO
    (okCells z9 3) (bindO (selO (stoP z5 x2 0) 0 3 true) (fun z11 => bindO (callO B .cl (.fn 19 []) [z6, z11]) (fun z12 => bindO (pureO (.extract 0 (.c z12))) (fun z13 => bindO (pureO
    (.extract 1 (.c z12))) (fun z14 => chkO (okCells z13 3) (bindO (selO (stoP z3 x1 0) 0 3 true) (fun z15 => bindO (selO (stoP z5 x2 0) 0 3 true) (fun z16 => bindO (callO B .cl (.fn
    15 []) [z6, z15, z16]) (fun z17 => bindO (pureO (.extract 0 (.c z17))) (fun z18 => bindO (pureO (.extract 1 (.c z17))) (fun z19 => chkO (okCells z18 3) (bindO (selO (stoP z3 x1 0)
    0 3 true) (fun z20 => bindO (selO (stoP z5 x2 0) 0 3 true) (fun z21 => bindO (callO B .cl (.fn 20 []) [z6, z20, z21]) (fun z22 => bindO (pureO (.extract 0 (.c z22))) (fun z23 =>
    bindO (pureO (.extract 1 (.c z22))) (fun z24 => chkO (okCells z23 3) (iteP z1 (bindO (callO B .cl (.fn 21 []) [.agg [cellP z9 0, cellP z9 1, cellP z9 2], .agg [cellP z13 0, cellP
    z13 1, cellP z13 2]]) (fun z25 => iteP z25 (bindO (pureO (.bin .eql .num false (.c z10) (.c z14))) (fun z26 => iteP z26 (bindO (callO B .cl (.fn 21 []) [.agg [cellP z18 0, cellP
    z18 1, cellP z18 2], .agg [cellP z23 0, cellP z23 1, cellP z23 2]]) (fun z27 => iteP z27 (bindO (pureO (.bin .eql .num false (.c z19) (.c z24))) (fun z28 => iteP z28 (bindO (callO
    B .cl (.fn 22 []) [z6]) (fun z29 => bindO (callO B .cl (.fn 23 []) [z6]) (fun z30 => bindO (pureO (.bin .eql .bool false (.c z29) (.c z30))) (fun z31 => iteP z31 (bindO (callO B
    .cl (.fn 24 []) [z6]) (fun z32 => bindO (callO B .cl (.fn 25 []) [z6]) (fun z33 => bindO (pureO (.bin .eql .bool false (.c z32) (.c z33))) (fun z34 => iteP z34 (bindO (selO (stoP
    z3 x1 0) 1 1 false) (fun z35 => bindO (callO B .cl (.fn 26 []) [z35]) (fun z36 => bindO (selO (stoP z3 x1 0) 1 1 false) (fun z37 => bindO (callO B .cl (.fn 27 []) [z37]) (fun z38
    => bindO (pureO (.bin .eql .num false (.c z36) (.c z38))) (fun z39 => some (z39, e))))))) (some (.bool false, e)))))) (some (.bool false, e)))))) (some (.bool false, e)))) (some
    (.bool false, e)))) (some (.bool false, e)))) (some (.bool false, e)))) (some (.bool false, e)))))))))))))))))))))))))))))))))) := by kernel_rfl
theorem run12 (B : KB) {E : Type} (h : Handler E) (dep : Nat) (e : E) (x0 : PV) :
    runK (cfg0 B (fun _ => .cl)) fn12 (.cl) h dep [.cv x0] e =
    chkO (valO x0) (bindO (selO x0 0 1 false) (fun z1 => bindO (selO x0 1 1 false) (fun z2 => bindO (selO x0 2 1 false) (fun z3 => bindO (selO x0 2 1 false) (fun z4 => bindO (pureO
    (.len .slice (.c z4))) (fun z5 => bindO (pureO (.minmax false [.c z5, .c (.int .i64 202)])) (fun z6 => bindO (pureO (.slice 1 (.c z3) none (some (.c z6)) none)) (fun z7 => bindO
    (pureO (.build [.bool false, .bool false, .nilS] [(0, (1, .c z1)), (1, (1, .c z2)), (2, (1, .c z7))])) (fun z8 => chkO (okCells z8 3) (some (.agg [cellP z8 0, cellP z8 1, cellP z8
    2], e))))))))))) := by kernel_rfl
theorem run13 (B : KB) {E : Type} (h : Handler E) (dep : Nat) (e : E) (x0 : PV) (x1 : PV) :
    runK (cfg0 B (fun _ => .cl)) fn13 (.cl) h dep [.cv x0, .cv x1] e =
    chkO (valO x1) (bindO (callO B .cl (.fn 30 []) []) (fun z1 => bindO (pureO (.lookup .str (.agg [.nilF, .nilF]) false (.c z1) (.c x0))) (fun z2 => chkO (okCells z2 2) (bindO (selO
    x1 0 3 true) (fun z3 => chkO (okSls 3 [z3]) (bindO (lendO B .cl true 31 [slO 3 3 [z3] 0 (lenL [z3])]) (fun z4 => bindO (pureO (.un .not (.c z4))) (fun z5 => iteP z5 (bindO (pureO
    (.build [.bool false, .bool false, .nilS] [])) (fun z6 => chkO (okCells z6 3) (some (.tup [.agg [cellP z6 0, cellP z6 1, cellP z6 2], .int .i64 114], e)))) (bindO (pureO (.bin .eql
    .func true (.c (cellP z2 0)) (.c .nilF))) (fun z7 => iteP z7 (bindO (pureO (.build [.bool false, .bool false, .nilS] [])) (fun z8 => chkO (okCells z8 3) (some (.tup [.agg [cellP z8
    0, cellP z8 1, cellP z8 2], .int .i64 102], e)))) (bindO (selO x1 0 3 true) (fun z9 => bindO (callO B .cl (cellP z2 0) [z9]) (fun z10 => bindO (pureO (.extract 0 (.c z10))) (fun
    z11 => bindO (pureO (.extract 1 (.c z10))) (fun z12 => chkO (okCells z11 3) (bindO (callO B .cl (.fn 32 []) [z12]) (fun z13 => some (.tup [.agg [cellP z11 0, cellP z11 1, cellP z11
    2], z13], e)))))))))))))))))) := by kernel_rfl
theorem run14 (B : KB) {E : Type} (h : Handler E) (dep : Nat) (e : E) (x0 : PV) :
    runK (cfg0 B (fun _ => .cl)) fn14 (.cl) h dep [.cv x0] e =
    bindO (pureO (.len .str (.c x0))) (fun z1 => bindO (pureO (.minmax false [.c z1, .c (.int .i64 20)])) (fun z2 => bindO (pureO (.strSlice (.c x0) none (some (.c z2)))) (fun z3 =>
    some (z3, e)))) := by kernel_rfl
theorem run15 (B : KB) {E : Type} (h : Handler E) (dep : Nat) (e : E) (x0 : PV) (x1 : PV) (x2 : PV) :
    runK (cfg0 B (fun _ => .cl)) fn15 (.cl) h dep [.cv x0, .cv x1, .cv x2] e =
    chkO (valO x1) (chkO (valO x2) (bindO (callO B .cl (.fn 30 []) []) (fun z1 => bindO (pureO (.lookup .str (.agg [.nilF, .nilF]) false (.c z1) (.c x0))) (fun z2 => chkO (okCells z2
    2) (bindO (selO x1 0 3 true) (fun z3 => bindO (selO x2 0 3 true) (fun z4 => chkO (okSls 3 [z3, z4]) (bindO (lendO B .cl true 31 [slO 3 3 [z3, z4] 0 (lenL [z3, z4])]) (fun z5 =>
    bindO (pureO (.un .not (.c z5))) (fun z6 => iteP z6 (bindO (pureO (.build [.bool false, .bool false, .nilS] [])) (fun z7 => chkO (okCells z7 3) (some (.tup [.agg [cellP z7 0, cellP
    z7 1, cellP z7 2], .int .i64 114], e)))) (bindO (pureO (.bin .eql .func true (.c (cellP z2 1)) (.c .nilF))) (fun z8 => iteP z8 (bindO (pureO (.build [.bool false, .bool false,
    .nilS] [])) (fun z9 => chkO (okCells z9 3) (some (.tup [.agg [cellP z9 0, cellP z9 1, cellP z9 2], .int .i64 102], e)))) (bindO (selO x2 0 3 true) (fun z10 => bindO (selO x1 0 3
    true) (fun z11 => bindO (pureO (.build [.bool false, .bool false, .nilS, .bool false, .bool false, .nilS] [(0, (3, .c z10)), (3, (3, .c z11))])) (fun z12 => bindO (callO B .cl
    (cellP z2 1) [z12]) (fun z13 => bindO (pureO (.extract 0 (.c z13))) (fun z14 => bindO (pureO (.extract 1 (.c z13))) (fun z15 => chkO (okCells z14 3) (bindO (callO B .cl (.fn 32 [])
    [z15]) (fun z16 => some (.tup [.agg [cellP z14 0, cellP z14 1, cellP z14 2], z16], e)))))))))))))))))))))) := by kernel_rfl
theorem run16 (B : KB) {E : Type} (h : Handler E) (dep : Nat) (e : E) (x0 : PV) :
    runK (cfg0 B (fun _ => .cl)) fn16 (.cl) h dep [.cv x0] e =
    chkO (valO x0) (bindO (selO x0 1 1 false) (fun z1 => iteP z1 (bindO (selO x0 2 1 false) (fun z2 => bindO (callO B .cl (.fn 35 []) [z2, .fn 33 []]) (fun z3 => iteP z3 (some (.bool
    false, e)) (bindO (selO x0 0 1 false) (fun z4 => iteP z4 (bindO (selO x0 2 1 false) (fun z5 => bindO (pureO (.len .slice (.c z5))) (fun z6 => bindO (pureO (.bin .leq .num true (.c
    z6) (.c (.int .i64 200)))) (fun z7 => some (z7, e))))) (bindO (selO x0 2 1 false) (fun z8 => bindO (pureO (.len .slice (.c z8))) (fun z9 => bindO (pureO (.bin .eql .num true (.c
    z9) (.c (.int .i64 1)))) (fun z10 => some (z10, e)))))))))) (bindO (selO x0 0 1 false) (fun z11 => iteP z11 (bindO (selO x0 2 1 false) (fun z12 => bindO (pureO (.len .slice (.c
    z12))) (fun z13 => bindO (pureO (.bin .leq .num true (.c z13) (.c (.int .i64 200)))) (fun z14 => some (z14, e))))) (bindO (selO x0 2 1 false) (fun z15 => bindO (pureO (.len .slice
    (.c z15))) (fun z16 => bindO (pureO (.bin .eql .num true (.c z16) (.c (.int .i64 1)))) (fun z17 => some (z17, e))))))))) := by kernel_rfl
theorem run18 (B : KB) {E : Type} (h : Handler E) (dep : Nat) (e : E) (x0 : PV) (x1 : PV) :
    runK (cfg0 B (fun _ => .cl)) fn18 (.cl) h dep [.cv x0, .cv x1] e =
    chkO (valO x0) (chkO (valO x1) (bindO (selO x0 0 1 false) (fun z1 => bindO (selO x1 0 1 false) (fun z2 => bindO (pureO (.bin .eql .bool false (.c z1) (.c z2))) (fun z3 => iteP z3
    (bindO (selO x0 1 1 false) (fun z4 => bindO (selO x1 1 1 false) (fun z5 => bindO (pureO (.bin .eql .bool false (.c z4) (.c z5))) (fun z6 => iteP z6 (bindO (selO x0 2 1 false) (fun
    z7 => bindO (selO x1 2 1 false) (fun z8 => bindO (callO B .cl (.fn 36 []) [z7, z8]) (fun z9 => some (z9, e))))) (some (.bool false, e)))))) (some (.bool false, e))))))) := by kernel_rfl
theorem run19 (B : KB) {E : Type} (h : Handler E) (dep : Nat) (e : E) (x0 : PV) (x1 : PV) :
    runK (cfg0 B (fun _ => .cl)) fn19 (.cl) h dep [.cv x0, .cv x1] e =
    chkO (valO x1) (bindO (selO x1 0 3 true) (fun z1 => bindO (callO B .cl (.fn 37 []) [z1]) (fun z2 => bindO (pureO (.un .not (.c z2))) (fun z3 => iteP z3 (bindO (pureO (.build [.bool
    false, .bool false, .nilS] [])) (fun z4 => chkO (okCells z4 3) (some (.tup [.agg [cellP z4 0, cellP z4 1, cellP z4 2], .int .i64 114], e)))) (bindO (selO x1 2 1 false) (fun z5 =>
    bindO (elemsO 1 z5) (fun z6 => chkO (leN (lenL z6) 2147483648) (bindO (pureO (.bin .eql .str true (.c x0) (.c (.str [226, 141, 180])))) (fun z7 => iteP z7 (bindO (selO x1 0 1
    false) (fun z8 => bindO (pureO (.un .not (.c z8))) (fun z9 => iteP z9 (bindO (callO B .cl (.fn 38 []) [.nilS, .bool false]) (fun z10 => chkO (okCells z10 3) (some (.tup [.agg
    [cellP z10 0, cellP z10 1, cellP z10 2], .int .i64 0], e)))) (bindO (selO x1 2 1 false) (fun z11 => bindO (pureO (.len .slice (.c z11))) (fun z12 => chkO (okSls 1 [z12]) (bindO
    (lendO B .cl false 38 [slO 1 1 [z12] 0 (lenL [z12]), .bool false]) (fun z13 => chkO (okCells z13 3) (some (.tup [.agg [cellP z13 0, cellP z13 1, cellP z13 2], .int .i64 0],
    e)))))))))) (bindO (pureO (.bin .eql .str true (.c x0) (.c (.str [226, 141, 179])))) (fun z14 => iteP z14 (bindO (selO x1 0 3 true) (fun z15 => bindO (callO B .cl (.fn 39 [])
    [z15]) (fun z16 => bindO (pureO (.extract 0 (.c z16))) (fun z17 => bindO (pureO (.extract 1 (.c z16))) (fun z18 => chkO (okCells z17 3) (some (.tup [.agg [cellP z17 0, cellP z17 1,
    cellP z17 2], z18], e))))))) (bindO (pureO (.bin .eql .str true (.c x0) (.c (.str [44])))) (fun z19 => iteP z19 (bindO (selO x1 1 1 false) (fun z20 => bindO (lendO B .cl false 38
    [slO 1 1 z6 0 (lenL z6), z20]) (fun z21 => chkO (okCells z21 3) (some (.tup [.agg [cellP z21 0, cellP z21 1, cellP z21 2], .int .i64 0], e))))) (bindO (pureO (.bin .eql .str true
    (.c x0) (.c (.str [226, 140, 189])))) (fun z22 => iteP z22 (chkO (noUndef [nI (lenL z6), .int .i64 0]) (loopL (fun z23 => bindO (pureO (.bin .lss .num false (.c (nth z23.1 1)) (.c
    (nI (natP (nth z23.1 0)))))) (fun z24 => iteP z24 (bindO (selO (nth z23.1 2) 2 1 false) (fun z25 => bindO (pureO (.bin .sub .num true (.c (nI (natP (nth z23.1 0)))) (.c (.int .i64
    1)))) (fun z26 => bindO (pureO (.bin .sub .num false (.c z26) (.c (nth z23.1 1)))) (fun z27 => bindO (pureO (.idxAddr 1 (.c z25) (.c z27))) (fun z28 => bindO (pureO (.load 1 false
    (.c z28))) (fun z29 => bindO (natO (nth z23.1 1)) (fun z30 => chkO (ltN z30 (natP (nth z23.1 0))) (bindO (setO 1 (itemsP (nth z23.1 6)) (addN 0 z30) 0 1 z29) (fun z31 => bindO
    (pureO (.bin .add .num true (.c (nth z23.1 1)) (.c (.int .i64 1)))) (fun z32 => some (.inl ([nI (natP (nth z23.1 0)), z32, nth z23.1 2, nth z23.1 3, nth z23.1 4, nth z23.1 5, .sl 1
    z31 false], z23.2)))))))))))) (bindO (bindO (selO (nth z23.1 2) 0 1 false) (fun z33 => bindO (selO (nth z23.1 2) 1 1 false) (fun z34 => chkO (okCells z33 1) (chkO (okCells z34 1)
    (chkO (okU (.tup [.agg [cellP z33 0, cellP z34 0, slO 1 1 (itemsP (nth z23.1 6)) 0 (natP (nth z23.1 0))], .int .i64 0])) (some (.tup [.agg [cellP z33 0, cellP z34 0, slO 1 1
    (itemsP (nth z23.1 6)) 0 (natP (nth z23.1 0))], .int .i64 0], z23.2))))))) (fun z35 => some (.inr z35))))) ([nI (lenL z6), .int .i64 0, x1, .bool false, .bool false, .nilS, .sl 1
    z6 false], e))) (bindO (pureO (.bin .eql .str true (.c x0) (.c (.str [226, 134, 145])))) (fun z36 => iteP z36 (bindO (pureO (.bin .eql .num true (.c (nI (lenL z6))) (.c (.int .i64
    0)))) (fun z37 => iteP z37 (bindO (selO x1 1 1 false) (fun z38 => bindO (callO B .cl (.fn 27 []) [z38]) (fun z39 => chkO (okSls 1 [z39]) (chkO (leN (addN 0 (lenL [z39])) (lenL
    [z39])) (chkO (andB (leN (lenL z6) (lenL z6)) (leN (addN (lenL z6) (lenL (takeL (lenL [z39]) (dropL 0 [z39])))) 2147483648)) (bindO (selO x1 1 1 false) (fun z40 => bindO (boundO
    none (addN (lenL z6) (lenL (takeL (lenL [z39]) (dropL 0 [z39])))) (addN (lenL z6) (lenL (takeL (lenL [z39]) (dropL 0 [z39]))))) (fun z41 => bindO (boundO (some (.int .i64 1)) (addN
    (lenL z6) (lenL (takeL (lenL [z39]) (dropL 0 [z39])))) z41) (fun z42 => chkO (okCells z40 1) (chkO (okU (.tup [.agg [.bool false, cellP z40 0, slO 1 1 (catL (takeL (lenL z6) z6)
    (takeL (lenL [z39]) (dropL 0 [z39]))) 0 z42], .int .i64 0])) (some (.tup [.agg [.bool false, cellP z40 0, slO 1 1 (catL (takeL (lenL z6) z6) (takeL (lenL [z39]) (dropL 0 [z39]))) 0
    z42], .int .i64 0], e)))))))))))) (bindO (selO x1 1 1 false) (fun z43 => bindO (boundO none (lenL z6) (lenL z6)) (fun z44 => bindO (boundO (some (.int .i64 1)) (lenL z6) z44) (fun
    z45 => chkO (okCells z43 1) (chkO (okU (.tup [.agg [.bool false, cellP z43 0, slO 1 1 z6 0 z45], .int .i64 0])) (some (.tup [.agg [.bool false, cellP z43 0, slO 1 1 z6 0 z45], .int
    .i64 0], e))))))))) (bindO (pureO (.bin .eql .str true (.c x0) (.c (.str [226, 137, 162])))) (fun z46 => iteP z46 (bindO (callO B .cl (.fn 40 []) [nI (lenL z6)]) (fun z47 => chkO
    (okCells z47 3) (some (.tup [.agg [cellP z47 0, cellP z47 1, cellP z47 2], .int .i64 0], e)))) (bindO (pureO (.build [.bool false, .bool false, .nilS] [])) (fun z48 => chkO
    (okCells z48 3) (some (.tup [.agg [cellP z48 0, cellP z48 1, cellP z48 2], .int .i64 102], e))))))))))))))))))))))) := by kernel_rfl
theorem run20 (B : KB) {E : Type} (h : Handler E) (dep : Nat) (e : E) (x0 : PV) (x1 : PV) (x2 : PV) :
    runK (cfg0 B (fun _ => .cl)) fn20 (.cl) h dep [.cv x0, .cv x1, .cv x2] e =
    chkO (valO x1) (chkO (valO x2) (bindO (selO x1 0 3 true) (fun z1 => bindO (callO B .cl (.fn 37 []) [z1]) (fun z2 => bindO (pureO (.un .not (.c z2))) (fun z3 => iteP z3 (bindO
    (pureO (.build [.bool false, .bool false, .nilS] [])) (fun z4 => chkO (okCells z4 3) (some (.tup [.agg [cellP z4 0, cellP z4 1, cellP z4 2], .int .i64 114], e)))) (bindO (selO x2 0
    3 true) (fun z5 => bindO (callO B .cl (.fn 37 []) [z5]) (fun z6 => bindO (pureO (.un .not (.c z6))) (fun z7 => iteP z7 (bindO (pureO (.build [.bool false, .bool false, .nilS] []))
    (fun z8 => chkO (okCells z8 3) (some (.tup [.agg [cellP z8 0, cellP z8 1, cellP z8 2], .int .i64 114], e)))) (bindO (pureO (.bin .eql .str true (.c x0) (.c (.str [226, 141,
    180])))) (fun z9 => iteP z9 (iteP z9 (bindO (selO x1 0 3 true) (fun z10 => bindO (selO x2 0 3 true) (fun z11 => bindO (callO B .cl (.fn 41 []) [x0, z10, z11]) (fun z12 => bindO
    (pureO (.extract 0 (.c z12))) (fun z13 => bindO (pureO (.extract 1 (.c z12))) (fun z14 => chkO (okCells z13 3) (some (.tup [.agg [cellP z13 0, cellP z13 1, cellP z13 2], z14],
    e)))))))) (bindO (pureO (.bin .eql .str true (.c x0) (.c (.str [226, 141, 179])))) (fun z15 => iteP z15 (bindO (selO x1 0 1 false) (fun z16 => bindO (pureO (.un .not (.c z16)))
    (fun z17 => iteP z17 (bindO (pureO (.build [.bool false, .bool false, .nilS] [])) (fun z18 => chkO (okCells z18 3) (some (.tup [.agg [cellP z18 0, cellP z18 1, cellP z18 2], .int
    .i64 111], e)))) (bindO (selO x1 0 3 true) (fun z19 => bindO (selO x2 0 3 true) (fun z20 => bindO (callO B .cl (.fn 42 []) [z19, z20]) (fun z21 => chkO (okCells z21 3) (some (.tup
    [.agg [cellP z21 0, cellP z21 1, cellP z21 2], .int .i64 0], e))))))))) (bindO (pureO (.bin .eql .str true (.c x0) (.c (.str [44])))) (fun z22 => iteP z22 (bindO (selO x1 0 3 true)
    (fun z23 => bindO (selO x2 0 3 true) (fun z24 => bindO (callO B .cl (.fn 43 []) [z23, z24]) (fun z25 => bindO (pureO (.extract 0 (.c z25))) (fun z26 => bindO (pureO (.extract 1 (.c
    z25))) (fun z27 => chkO (okCells z26 3) (some (.tup [.agg [cellP z26 0, cellP z26 1, cellP z26 2], z27], e)))))))) (bindO (pureO (.bin .eql .str true (.c x0) (.c (.str [226, 137,
    162])))) (fun z28 => iteP z28 (bindO (selO x1 0 3 true) (fun z29 => bindO (selO x2 0 3 true) (fun z30 => bindO (callO B .cl (.fn 21 []) [z29, z30]) (fun z31 => iteP z31 (bindO
    (callO B .cl (.fn 40 []) [.int .i64 0]) (fun z32 => chkO (okCells z32 3) (some (.tup [.agg [cellP z32 0, cellP z32 1, cellP z32 2], .int .i64 0], e)))) (bindO (callO B .cl (.fn 40
    []) [.int .i64 1]) (fun z33 => chkO (okCells z33 3) (some (.tup [.agg [cellP z33 0, cellP z33 1, cellP z33 2], .int .i64 0], e)))))))) (bindO (pureO (.build [.bool false, .bool
    false, .nilS] [])) (fun z34 => chkO (okCells z34 3) (some (.tup [.agg [cellP z34 0, cellP z34 1, cellP z34 2], .int .i64 102], e))))))))))) (bindO (pureO (.bin .eql .str true (.c
    x0) (.c (.str [226, 140, 189])))) (fun z35 => iteP z35 (iteP z35 (bindO (selO x1 0 3 true) (fun z36 => bindO (selO x2 0 3 true) (fun z37 => bindO (callO B .cl (.fn 41 []) [x0, z36,
    z37]) (fun z38 => bindO (pureO (.extract 0 (.c z38))) (fun z39 => bindO (pureO (.extract 1 (.c z38))) (fun z40 => chkO (okCells z39 3) (some (.tup [.agg [cellP z39 0, cellP z39 1,
    cellP z39 2], z40], e)))))))) (bindO (pureO (.bin .eql .str true (.c x0) (.c (.str [226, 141, 179])))) (fun z41 => iteP z41 (bindO (selO x1 0 1 false) (fun z42 => bindO (pureO (.un
    .not (.c z42))) (fun z43 => iteP z43 (bindO (pureO (.build [.bool false, .bool false, .nilS] [])) (fun z44 => chkO (okCells z44 3) (some (.tup [.agg [cellP z44 0, cellP z44 1,
    cellP z44 2], .int .i64 111], e)))) (bindO (selO x1 0 3 true) (fun z45 => bindO (selO x2 0 3 true) (fun z46 => bindO (callO B .cl (.fn 42 []) [z45, z46]) (fun z47 => chkO (okCells
    z47 3) (some (.tup [.agg [cellP z47 0, cellP z47 1, cellP z47 2], .int .i64 0], e))))))))) (bindO (pureO (.bin .eql .str true (.c x0) (.c (.str [44])))) (fun z48 => iteP z48 (bindO
    (selO x1 0 3 true) (fun z49 => bindO (selO x2 0 3 true) (fun z50 => bindO (callO B .cl (.fn 43 []) [z49, z50]) (fun z51 => bindO (pureO (.extract 0 (.c z51))) (fun z52 => bindO
    (pureO (.extract 1 (.c z51))) (fun z53 => chkO (okCells z52 3) (some (.tup [.agg [cellP z52 0, cellP z52 1, cellP z52 2], z53], e)))))))) (bindO (pureO (.bin .eql .str true (.c x0)
    (.c (.str [226, 137, 162])))) (fun z54 => iteP z54 (bindO (selO x1 0 3 true) (fun z55 => bindO (selO x2 0 3 true) (fun z56 => bindO (callO B .cl (.fn 21 []) [z55, z56]) (fun z57 =>
    iteP z57 (bindO (callO B .cl (.fn 40 []) [.int .i64 0]) (fun z58 => chkO (okCells z58 3) (some (.tup [.agg [cellP z58 0, cellP z58 1, cellP z58 2], .int .i64 0], e)))) (bindO
    (callO B .cl (.fn 40 []) [.int .i64 1]) (fun z59 => chkO (okCells z59 3) (some (.tup [.agg [cellP z59 0, cellP z59 1, cellP z59 2], .int .i64 0], e)))))))) (bindO (pureO (.build
    [.bool false, .bool false, .nilS] [])) (fun z60 => chkO (okCells z60 3) (some (.tup [.agg [cellP z60 0, cellP z60 1, cellP z60 2], .int .i64 102], e))))))))))) (bindO (pureO (.bin
    .eql .str true (.c x0) (.c (.str [226, 134, 145])))) (fun z61 => iteP z61 (iteP z61 (bindO (selO x1 0 3 true) (fun z62 => bindO (selO x2 0 3 true) (fun z63 => bindO (callO B .cl
    (.fn 41 []) [x0, z62, z63]) (fun z64 => bindO (pureO (.extract 0 (.c z64))) (fun z65 => bindO (pureO (.extract 1 (.c z64))) (fun z66 => chkO (okCells z65 3) (some (.tup [.agg
    [cellP z65 0, cellP z65 1, cellP z65 2], z66], e)))))))) (bindO (pureO (.bin .eql .str true (.c x0) (.c (.str [226, 141, 179])))) (fun z67 => iteP z67 (bindO (selO x1 0 1 false)
    (fun z68 => bindO (pureO (.un .not (.c z68))) (fun z69 => iteP z69 (bindO (pureO (.build [.bool false, .bool false, .nilS] [])) (fun z70 => chkO (okCells z70 3) (some (.tup [.agg
    [cellP z70 0, cellP z70 1, cellP z70 2], .int .i64 111], e)))) (bindO (selO x1 0 3 true) (fun z71 => bindO (selO x2 0 3 true) (fun z72 => bindO (callO B .cl (.fn 42 []) [z71, z72])
    (fun z73 => chkO (okCells z73 3) (some (.tup [.agg [cellP z73 0, cellP z73 1, cellP z73 2], .int .i64 0], e))))))))) (bindO (pureO (.bin .eql .str true (.c x0) (.c (.str [44]))))
    (fun z74 => iteP z74 (bindO (selO x1 0 3 true) (fun z75 => bindO (selO x2 0 3 true) (fun z76 => bindO (callO B .cl (.fn 43 []) [z75, z76]) (fun z77 => bindO (pureO (.extract 0 (.c
    z77))) (fun z78 => bindO (pureO (.extract 1 (.c z77))) (fun z79 => chkO (okCells z78 3) (some (.tup [.agg [cellP z78 0, cellP z78 1, cellP z78 2], z79], e)))))))) (bindO (pureO
    (.bin .eql .str true (.c x0) (.c (.str [226, 137, 162])))) (fun z80 => iteP z80 (bindO (selO x1 0 3 true) (fun z81 => bindO (selO x2 0 3 true) (fun z82 => bindO (callO B .cl (.fn
    21 []) [z81, z82]) (fun z83 => iteP z83 (bindO (callO B .cl (.fn 40 []) [.int .i64 0]) (fun z84 => chkO (okCells z84 3) (some (.tup [.agg [cellP z84 0, cellP z84 1, cellP z84 2],
    .int .i64 0], e)))) (bindO (callO B .cl (.fn 40 []) [.int .i64 1]) (fun z85 => chkO (okCells z85 3) (some (.tup [.agg [cellP z85 0, cellP z85 1, cellP z85 2], .int .i64 0],
    e)))))))) (bindO (pureO (.build [.bool false, .bool false, .nilS] [])) (fun z86 => chkO (okCells z86 3) (some (.tup [.agg [cellP z86 0, cellP z86 1, cellP z86 2], .int .i64 102],
    e))))))))))) (bindO (pureO (.bin .eql .str true (.c x0) (.c (.str [226, 134, 147])))) (fun z87 => iteP z87 (bindO (selO x1 0 3 true) (fun z88 => bindO (selO x2 0 3 true) (fun z89
    => bindO (callO B .cl (.fn 41 []) [x0, z88, z89]) (fun z90 => bindO (pureO (.extract 0 (.c z90))) (fun z91 => bindO (pureO (.extract 1 (.c z90))) (fun z92 => chkO (okCells z91 3)
    (some (.tup [.agg [cellP z91 0, cellP z91 1, cellP z91 2], z92], e)))))))) (bindO (pureO (.bin .eql .str true (.c x0) (.c (.str [226, 141, 179])))) (fun z93 => iteP z93 (bindO
    (selO x1 0 1 false) (fun z94 => bindO (pureO (.un .not (.c z94))) (fun z95 => iteP z95 (bindO (pureO (.build [.bool false, .bool false, .nilS] [])) (fun z96 => chkO (okCells z96 3)
    (some (.tup [.agg [cellP z96 0, cellP z96 1, cellP z96 2], .int .i64 111], e)))) (bindO (selO x1 0 3 true) (fun z97 => bindO (selO x2 0 3 true) (fun z98 => bindO (callO B .cl (.fn
    42 []) [z97, z98]) (fun z99 => chkO (okCells z99 3) (some (.tup [.agg [cellP z99 0, cellP z99 1, cellP z99 2], .int .i64 0], e))))))))) (bindO (pureO (.bin .eql .str true (.c x0)
    (.c (.str [44])))) (fun z100 => iteP z100 (bindO (selO x1 0 3 true) (fun z101 => bindO (selO x2 0 3 true) (fun z102 => bindO (callO B .cl (.fn 43 []) [z101, z102]) (fun z103 =>
    bindO (pureO (.extract 0 (.c z103))) (fun z104 => bindO (pureO (.extract 1 (.c z103))) (fun z105 => chkO (okCells z104 3) (some (.tup [.agg [cellP z104 0, cellP z104 1, cellP z104
    2], z105], e)))))))) (bindO (pureO (.bin .eql .str true (.c x0) (.c (.str [226, 137, 162])))) (fun z106 => iteP z106 (bindO (selO x1 0 3 true) (fun z107 => bindO (selO x2 0 3 true)
    (fun z108 => bindO (callO B .cl (.fn 21 []) [z107, z108]) (fun z109 => iteP z109 (bindO (callO B .cl (.fn 40 []) [.int .i64 0]) (fun z110 => chkO (okCells z110 3) (some (.tup [.agg
    [cellP z110 0, cellP z110 1, cellP z110 2], .int .i64 0], e)))) (bindO (callO B .cl (.fn 40 []) [.int .i64 1]) (fun z111 => chkO (okCells z111 3) (some (.tup [.agg [cellP z111 0,
    cellP z111 1, cellP z111 2], .int .i64 0], e)))))))) (bindO (pureO (.build [.bool false, .bool false, .nilS] [])) (fun z112 => chkO (okCells z112 3) (some (.tup [.agg [cellP z112
    0, cellP z112 1, cellP z112 2], .int .i64 102], e))))))))))))))))))))))))))) := by kernel_rfl
theorem run21 (B : KB) {E : Type} (h : Handler E) (dep : Nat) (e : E) (x0 : PV) (x1 : PV) :
    runK (cfg0 B (fun _ => .cl)) fn21 (.cl) h dep [.cv x0, .cv x1] e =
    chkO (valO x0) (chkO (valO x1) (bindO (selO x0 0 1 false) (fun z1 => bindO (selO x1 0 1 false) (fun z2 => bindO (pureO (.bin .eql .bool false (.c z1) (.c z2))) (fun z3 => iteP z3
    (bindO (selO x0 1 1 false) (fun z4 => bindO (selO x1 1 1 false) (fun z5 => bindO (pureO (.bin .eql .bool false (.c z4) (.c z5))) (fun z6 => iteP z6 (bindO (selO x0 2 1 false) (fun
    z7 => bindO (selO x1 2 1 false) (fun z8 => bindO (callO B .cl (.fn 44 []) [z7, z8]) (fun z9 => some (z9, e))))) (some (.bool false, e)))))) (some (.bool false, e))))))) := by kernel_rfl
theorem run22 (B : KB) {E : Type} (h : Handler E) (dep : Nat) (e : E) (x0 : PV) :
    runK (cfg0 B (fun _ => .cl)) fn22 (.cl) h dep [.cv x0] e =
    bindO (callO B .cl (.fn 30 []) []) (fun z1 => bindO (pureO (.lookup .str (.agg [.nilF, .nilF]) false (.c z1) (.c x0))) (fun z2 => bindO (pureO (.field 0 1 false (.c z2))) (fun z3
    => bindO (pureO (.bin .neq .func true (.c z3) (.c .nilF))) (fun z4 => some (z4, e))))) := by kernel_rfl
theorem run23 (B : KB) {E : Type} (h : Handler E) (dep : Nat) (e : E) (x0 : PV) :
    runK (cfg0 B (fun _ => .cl)) fn23 (.cl) h dep [.cv x0] e =
    bindO (bindO (pureO (.bin .eql .str true (.c x0) (.c (.str [226, 141, 180])))) (fun z1 => iteP z1 (some (.bool true)) (bindO (pureO (.bin .eql .str true (.c x0) (.c (.str [226,
    141, 179])))) (fun z2 => iteP z2 (some (.bool true)) (bindO (pureO (.bin .eql .str true (.c x0) (.c (.str [44])))) (fun z3 => iteP z3 (some (.bool true)) (bindO (pureO (.bin .eql
    .str true (.c x0) (.c (.str [226, 140, 189])))) (fun z4 => iteP z4 (some (.bool true)) (bindO (pureO (.bin .eql .str true (.c x0) (.c (.str [226, 134, 145])))) (fun z5 => iteP z5
    (some (.bool true)) (bindO (pureO (.bin .eql .str true (.c x0) (.c (.str [226, 137, 162])))) (fun z6 => some z6)))))))))))) (fun z7 => some (z7, e)) := by kernel_rfl
theorem run24 (B : KB) {E : Type} (h : Handler E) (dep : Nat) (e : E) (x0 : PV) :
    runK (cfg0 B (fun _ => .cl)) fn24 (.cl) h dep [.cv x0] e =
    bindO (callO B .cl (.fn 30 []) []) (fun z1 => bindO (pureO (.lookup .str (.agg [.nilF, .nilF]) false (.c z1) (.c x0))) (fun z2 => bindO (pureO (.field 1 1 false (.c z2))) (fun z3
    => bindO (pureO (.bin .neq .func true (.c z3) (.c .nilF))) (fun z4 => some (z4, e))))) := by kernel_rfl
theorem run25 (B : KB) {E : Type} (h : Handler E) (dep : Nat) (e : E) (x0 : PV) :
    runK (cfg0 B (fun _ => .cl)) fn25 (.cl) h dep [.cv x0] e =
    bindO (callO B .cl (.fn 23 []) [x0]) (fun z1 => iteP z1 (some (.bool true, e)) (bindO (pureO (.bin .eql .str true (.c x0) (.c (.str [226, 134, 147])))) (fun z2 => some (z2, e)))) := by kernel_rfl
theorem run26 (B : KB) {E : Type} (h : Handler E) (dep : Nat) (e : E) (x0 : PV) :
    runK (cfg0 B (fun _ => .cl)) fn26 (.cl) h dep [.cv x0] e =
    iteP x0 (some (.int .i64 32, e)) (some (.int .i64 0, e)) := by kernel_rfl
theorem run27 (B : KB) {E : Type} (h : Handler E) (dep : Nat) (e : E) (x0 : PV) :
    runK (cfg0 B (fun _ => .cl)) fn27 (.cl) h dep [.cv x0] e =
    iteP x0 (some (.int .i64 32, e)) (some (.int .i64 0, e)) := by kernel_rfl
theorem run30 (B : KB) {E : Type} (h : Handler E) (dep : Nat) (e : E)  :
    runK (cfg0 B (fun _ => .cl)) fn30 (.cl) h dep [] e =
    bindO (pureO (.build [.nilF, .nilF] [(0, (1, .c (.fn 46 []))), (1, (1, .c (.fn 47 [])))])) (fun z1 => bindO (insO .str [] (.str [226, 141, 180]) z1) (fun z2 => bindO (pureO (.build
    [.nilF, .nilF] [(0, (1, .c (.fn 48 []))), (1, (1, .c (.fn 49 [])))])) (fun z3 => bindO (insO .str z2 (.str [226, 141, 179]) z3) (fun z4 => bindO (pureO (.build [.nilF, .nilF] [(0,
    (1, .c (.fn 50 []))), (1, (1, .c (.fn 53 [])))])) (fun z5 => bindO (insO .str z4 (.str [44]) z5) (fun z6 => bindO (pureO (.build [.nilF, .nilF] [(0, (1, .c (.fn 54 []))), (1, (1,
    .c (.fn 55 [])))])) (fun z7 => bindO (insO .str z6 (.str [226, 140, 189]) z7) (fun z8 => bindO (pureO (.build [.nilF, .nilF] [(0, (1, .c (.fn 56 []))), (1, (1, .c (.fn 57 [])))]))
    (fun z9 => bindO (insO .str z8 (.str [226, 134, 145]) z9) (fun z10 => bindO (pureO (.build [.nilF, .nilF] [(0, (1, .c .nilF)), (1, (1, .c (.fn 58 [])))])) (fun z11 => bindO (insO
    .str z10 (.str [226, 134, 147]) z11) (fun z12 => bindO (pureO (.build [.nilF, .nilF] [(0, (1, .c (.fn 59 []))), (1, (1, .c (.fn 61 [])))])) (fun z13 => bindO (insO .str z12 (.str
    [226, 137, 162]) z13) (fun z14 => chkO (okU (.imap z14)) (some (.imap z14, e)))))))))))))))) := by kernel_rfl
theorem run31 (B : KB) {E : Type} (h : Handler E) (dep : Nat) (e : E) (x0 : PV) :
    runK (cfg0 B (fun _ => .cl)) fn31 (.cl) h dep [.cv x0] e =
    bindO (callO B .cl (.fn 62 []) [x0, .fn 63 []]) (fun z1 => bindO (pureO (.un .not (.c z1))) (fun z2 => some (z2, e))) := by kernel_rfl
theorem run32 (B : KB) {E : Type} (h : Handler E) (dep : Nat) (e : E) (x0 : PV) :
    runK (cfg0 B (fun _ => .cl)) fn32 (.cl) h dep [.cv x0] e =
    chkO (eqN 1 1) (asP 72 x0 (fun z1 => chkO (okCells z1 1) (bindO (selO z1 0 1 false) (fun z2 => some (z2, e)))) (some (.int .i64 0, e))) := by kernel_rfl
theorem run33 (B : KB) {E : Type} (h : Handler E) (dep : Nat) (e : E) (x0 : PV) :
    runK (cfg0 B (fun _ => .cl)) fn33 (.cl) h dep [.cv x0] e =
    bindO (callO B .cl (.fn 34 []) [x0]) (fun z1 => bindO (pureO (.un .not (.c z1))) (fun z2 => some (z2, e))) := by kernel_rfl
theorem run34 (B : KB) {E : Type} (h : Handler E) (dep : Nat) (e : E) (x0 : PV) :
    runK (cfg0 B (fun _ => .cl)) fn34 (.cl) h dep [.cv x0] e =
    bindO (bindO (pureO (.bin .geq .num true (.c x0) (.c (.int .i64 0)))) (fun z1 => iteP z1 (bindO (pureO (.bin .leq .num true (.c x0) (.c (.int .i64 1114111)))) (fun z2 => iteP z2
    (bindO (pureO (.bin .lss .num true (.c x0) (.c (.int .i64 55296)))) (fun z3 => iteP z3 (some (.bool true)) (bindO (pureO (.bin .gtr .num true (.c x0) (.c (.int .i64 57343)))) (fun
    z4 => some z4)))) (some (.bool false)))) (some (.bool false)))) (fun z5 => some (z5, e)) := by kernel_rfl
theorem run35 (B : KB) {E : Type} (h : Handler E) (dep : Nat) (e : E) (x0 : PV) (x1 : PV) :
    runK (cfg0 B (fun _ => .cl)) fn35 (.cl) h dep [.cv x0, .cv x1] e =
    bindO (callO B .cl (.fn 65 []) [x0, x1]) (fun z1 => bindO (pureO (.bin .geq .num true (.c z1) (.c (.int .i64 0)))) (fun z2 => some (z2, e))) := by kernel_rfl
theorem run36 (B : KB) {E : Type} (h : Handler E) (dep : Nat) (e : E) (x0 : PV) (x1 : PV) :
    runK (cfg0 B (fun _ => .cl)) fn36 (.cl) h dep [.cv x0, .cv x1] e =
    bindO (pureO (.len .slice (.c x0))) (fun z1 => bindO (pureO (.len .slice (.c x1))) (fun z2 => bindO (pureO (.bin .neq .num false (.c z1) (.c z2))) (fun z3 => iteP z3 (some (.bool
    false, e)) (bindO (pureO (.len .slice (.c x0))) (fun z4 => chkO (noUndef [x0, x1, z4, .int .i64 0]) (loopL (fun z5 => bindO (pureO (.bin .lss .num false (.c (nth z5.1 3)) (.c (nth
    z5.1 2)))) (fun z6 => iteP z6 (bindO (pureO (.idxAddr 1 (.c (nth z5.1 0)) (.c (nth z5.1 3)))) (fun z7 => bindO (pureO (.load 1 false (.c z7))) (fun z8 => bindO (pureO (.idxAddr 1
    (.c (nth z5.1 1)) (.c (nth z5.1 3)))) (fun z9 => bindO (pureO (.load 1 false (.c z9))) (fun z10 => bindO (pureO (.bin .neq .num false (.c z8) (.c z10))) (fun z11 => iteP z11 (bindO
    (some (.bool false, z5.2)) (fun z12 => some (.inr z12))) (bindO (pureO (.bin .add .num true (.c (nth z5.1 3)) (.c (.int .i64 1)))) (fun z13 => some (.inl ([nth z5.1 0, nth z5.1 1,
    nth z5.1 2, z13], z5.2)))))))))) (bindO (some (.bool true, z5.2)) (fun z14 => some (.inr z14))))) ([x0, x1, z4, .int .i64 0], e))))))) := by kernel_rfl
theorem run37 (B : KB) {E : Type} (h : Handler E) (dep : Nat) (e : E) (x0 : PV) :
    runK (cfg0 B (fun _ => .cl)) fn37 (.cl) h dep [.cv x0] e =
    chkO (valO x0) (chkO (noUndef [.int .i64 0]) (loopL (fun z1 => bindO (bindO (selO (nth z1.1 1) 2 1 false) (fun z2 => bindO (pureO (.len .slice (.c z2))) (fun z3 => bindO (pureO
    (.bin .lss .num false (.c (nth z1.1 0)) (.c z3))) (fun z4 => iteP z4 (bindO (selO (nth z1.1 1) 1 1 false) (fun z5 => some z5)) (some (.bool false)))))) (fun z6 => iteP z6 (bindO
    (selO (nth z1.1 1) 2 1 false) (fun z7 => bindO (pureO (.idxAddr 1 (.c z7) (.c (nth z1.1 0)))) (fun z8 => bindO (pureO (.load 1 false (.c z8))) (fun z9 => bindO (callO B .cl (.fn 66
    []) [z9]) (fun z10 => bindO (pureO (.un .not (.c z10))) (fun z11 => iteP z11 (bindO (some (.bool false, z1.2)) (fun z12 => some (.inr z12))) (bindO (pureO (.bin .add .num true (.c
    (nth z1.1 0)) (.c (.int .i64 1)))) (fun z13 => some (.inl ([z13, nth z1.1 1], z1.2)))))))))) (bindO (bindO (bindO (selO (nth z1.1 1) 0 1 false) (fun z14 => iteP z14 (bindO (selO
    (nth z1.1 1) 2 1 false) (fun z15 => bindO (pureO (.len .slice (.c z15))) (fun z16 => bindO (pureO (.bin .leq .num true (.c z16) (.c (.int .i64 200)))) (fun z17 => iteP z17 (some
    (.bool true)) (bindO (selO (nth z1.1 1) 0 1 false) (fun z18 => bindO (pureO (.un .not (.c z18))) (fun z19 => iteP z19 (bindO (selO (nth z1.1 1) 2 1 false) (fun z20 => bindO (pureO
    (.len .slice (.c z20))) (fun z21 => bindO (pureO (.bin .eql .num true (.c z21) (.c (.int .i64 1)))) (fun z22 => some z22)))) (some (.bool false))))))))) (bindO (selO (nth z1.1 1) 0
    1 false) (fun z23 => bindO (pureO (.un .not (.c z23))) (fun z24 => iteP z24 (bindO (selO (nth z1.1 1) 2 1 false) (fun z25 => bindO (pureO (.len .slice (.c z25))) (fun z26 => bindO
    (pureO (.bin .eql .num true (.c z26) (.c (.int .i64 1)))) (fun z27 => some z27)))) (some (.bool false))))))) (fun z28 => some (z28, z1.2))) (fun z29 => some (.inr z29))))) ([.int
    .i64 0, x0], e))) := by kernel_rfl
theorem run38 (B : KB) {E : Type} (h : Handler E) (dep : Nat) (e : E) (x0 : PV) (x1 : PV) :
    runK (cfg0 B (fun _ => .cl)) fn38 (.cl) h dep [.cv x0, .cv x1] e =
    bindO (pureO (.build [.bool false, .bool false, .nilS] [(0, (1, .c (.bool true))), (1, (1, .c x1)), (2, (1, .c x0))])) (fun z1 => chkO (okCells z1 3) (some (.agg [cellP z1 0, cellP
    z1 1, cellP z1 2], e))) := by kernel_rfl
theorem run39 (B : KB) {E : Type} (h : Handler E) (dep : Nat) (e : E) (x0 : PV) :
    runK (cfg0 B (fun _ => .cl)) fn39 (.cl) h dep [.cv x0] e =
    chkO (valO x0) (bindO (selO x0 2 1 false) (fun z1 => bindO (pureO (.len .slice (.c z1))) (fun z2 => bindO (pureO (.bin .neq .num true (.c z2) (.c (.int .i64 1)))) (fun z3 => iteP
    z3 (bindO (pureO (.build [.bool false, .bool false, .nilS] [])) (fun z4 => chkO (okCells z4 3) (some (.tup [.agg [cellP z4 0, cellP z4 1, cellP z4 2], .int .i64 111], e)))) (bindO
    (selO x0 2 1 false) (fun z5 => bindO (pureO (.idxAddr 1 (.c z5) (.c (.int .i64 0)))) (fun z6 => bindO (pureO (.load 1 false (.c z6))) (fun z7 => bindO (bindO (selO x0 1 1 false)
    (fun z8 => iteP z8 (some (.bool true)) (bindO (pureO (.bin .lss .num true (.c z7) (.c (.int .i64 0)))) (fun z9 => some z9)))) (fun z10 => iteP z10 (bindO (pureO (.build [.bool
    false, .bool false, .nilS] [])) (fun z11 => chkO (okCells z11 3) (some (.tup [.agg [cellP z11 0, cellP z11 1, cellP z11 2], .int .i64 102], e)))) (bindO (pureO (.bin .gtr .num true
    (.c z7) (.c (.int .i64 200)))) (fun z12 => iteP z12 (bindO (pureO (.build [.bool false, .bool false, .nilS] [])) (fun z13 => chkO (okCells z13 3) (some (.tup [.agg [cellP z13 0,
    cellP z13 1, cellP z13 2], .int .i64 113], e)))) (chkO (noUndef [z7, nI 0, .int .i64 1]) (loopL (fun z14 => bindO (pureO (.bin .leq .num false (.c (nth z14.1 2)) (.c (nth z14.1
    0)))) (fun z15 => iteP z15 (chkO (okSls 1 [nth z14.1 2]) (chkO (leN (addN 0 (lenL [nth z14.1 2])) (lenL [nth z14.1 2])) (chkO (andB (leN (natP (nth z14.1 1)) (lenL (itemsP (nth
    z14.1 6)))) (leN (addN (natP (nth z14.1 1)) (lenL (takeL (lenL [nth z14.1 2]) (dropL 0 [nth z14.1 2])))) 2147483648)) (bindO (pureO (.bin .add .num true (.c (nth z14.1 2)) (.c
    (.int .i64 1)))) (fun z16 => some (.inl ([nth z14.1 0, nI (addN (natP (nth z14.1 1)) (lenL (takeL (lenL [nth z14.1 2]) (dropL 0 [nth z14.1 2])))), z16, nth z14.1 3, nth z14.1 4,
    nth z14.1 5, .sl 1 (catL (takeL (natP (nth z14.1 1)) (itemsP (nth z14.1 6))) (takeL (lenL [nth z14.1 2]) (dropL 0 [nth z14.1 2]))) false], z14.2))))))) (bindO (bindO (lendO B .cl
    false 38 [slO 1 1 (itemsP (nth z14.1 6)) 0 (natP (nth z14.1 1)), .bool false]) (fun z17 => chkO (okCells z17 3) (some (.tup [.agg [cellP z17 0, cellP z17 1, cellP z17 2], .int .i64
    0], z14.2)))) (fun z18 => some (.inr z18))))) ([z7, nI 0, .int .i64 1, .bool false, .bool false, .nilS, .sl 1 [] false], e)))))))))))))) := by kernel_rfl
theorem run40 (B : KB) {E : Type} (h : Handler E) (dep : Nat) (e : E) (x0 : PV) :
    runK (cfg0 B (fun _ => .cl)) fn40 (.cl) h dep [.cv x0] e =
    chkO (okSls 1 [x0]) (chkO (okU (.agg [.bool false, .bool false, slO 1 1 [x0] 0 (lenL [x0])])) (some (.agg [.bool false, .bool false, slO 1 1 [x0] 0 (lenL [x0])], e))) := by kernel_rfl
theorem run41 (B : KB) {E : Type} (h : Handler E) (dep : Nat) (e : E) (x0 : PV) (x1 : PV) (x2 : PV) :
    runK (cfg0 B (fun _ => .cl)) fn41 (.cl) h dep [.cv x0, .cv x1, .cv x2] e =
    chkO (valO x1) (chkO (valO x2) (bindO (selO x1 2 1 false) (fun z1 => bindO (pureO (.len .slice (.c z1))) (fun z2 => bindO (pureO (.bin .neq .num true (.c z2) (.c (.int .i64 1))))
    (fun z3 => iteP z3 (bindO (pureO (.build [.bool false, .bool false, .nilS] [])) (fun z4 => chkO (okCells z4 3) (some (.tup [.agg [cellP z4 0, cellP z4 1, cellP z4 2], .int .i64
    111], e)))) (bindO (selO x1 2 1 false) (fun z5 => bindO (pureO (.idxAddr 1 (.c z5) (.c (.int .i64 0)))) (fun z6 => bindO (pureO (.load 1 false (.c z6))) (fun z7 => bindO (bindO
    (selO x1 1 1 false) (fun z8 => iteP z8 (some (.bool true)) (bindO (pureO (.bin .eql .str true (.c x0) (.c (.str [226, 141, 180])))) (fun z9 => iteP z9 (bindO (pureO (.bin .lss .num
    true (.c z7) (.c (.int .i64 0)))) (fun z10 => some z10)) (some (.bool false)))))) (fun z11 => iteP z11 (bindO (pureO (.build [.bool false, .bool false, .nilS] [])) (fun z12 => chkO
    (okCells z12 3) (some (.tup [.agg [cellP z12 0, cellP z12 1, cellP z12 2], .int .i64 102], e)))) (bindO (bindO (pureO (.bin .eql .str true (.c x0) (.c (.str [226, 141, 180]))))
    (fun z13 => iteP z13 (bindO (pureO (.bin .gtr .num true (.c z7) (.c (.int .i64 200)))) (fun z14 => iteP z14 (some (.bool true)) (bindO (pureO (.bin .lss .num true (.c z7) (.c (.int
    .i64 (-200))))) (fun z15 => some z15)))) (bindO (pureO (.bin .eql .str true (.c x0) (.c (.str [226, 134, 145])))) (fun z16 => iteP z16 (bindO (pureO (.bin .gtr .num true (.c z7)
    (.c (.int .i64 200)))) (fun z17 => iteP z17 (some (.bool true)) (bindO (pureO (.bin .lss .num true (.c z7) (.c (.int .i64 (-200))))) (fun z18 => some z18)))) (some (.bool
    false)))))) (fun z19 => iteP z19 (bindO (pureO (.build [.bool false, .bool false, .nilS] [])) (fun z20 => chkO (okCells z20 3) (some (.tup [.agg [cellP z20 0, cellP z20 1, cellP
    z20 2], .int .i64 113], e)))) (bindO (bindO (pureO (.bin .eql .str true (.c x0) (.c (.str [226, 141, 180])))) (fun z21 => iteP z21 (bindO (pureO (.bin .gtr .num true (.c z7) (.c
    (.int .i64 0)))) (fun z22 => iteP z22 (bindO (selO x2 2 1 false) (fun z23 => bindO (pureO (.len .slice (.c z23))) (fun z24 => bindO (pureO (.bin .eql .num true (.c z24) (.c (.int
    .i64 0)))) (fun z25 => some z25)))) (some (.bool false)))) (some (.bool false)))) (fun z26 => iteP z26 (bindO (pureO (.build [.bool false, .bool false, .nilS] [])) (fun z27 => chkO
    (okCells z27 3) (some (.tup [.agg [cellP z27 0, cellP z27 1, cellP z27 2], .int .i64 110], e)))) (bindO (pureO (.bin .eql .str true (.c x0) (.c (.str [226, 141, 180])))) (fun z28
    => iteP z28 (bindO (selO x2 0 3 true) (fun z29 => bindO (callO B .cl (.fn 67 []) [z7, z29]) (fun z30 => chkO (okCells z30 3) (some (.tup [.agg [cellP z30 0, cellP z30 1, cellP z30
    2], .int .i64 0], e))))) (bindO (pureO (.bin .eql .str true (.c x0) (.c (.str [226, 140, 189])))) (fun z31 => iteP z31 (bindO (selO x2 0 3 true) (fun z32 => bindO (callO B .cl (.fn
    68 []) [z7, z32]) (fun z33 => chkO (okCells z33 3) (some (.tup [.agg [cellP z33 0, cellP z33 1, cellP z33 2], .int .i64 0], e))))) (bindO (pureO (.bin .eql .str true (.c x0) (.c
    (.str [226, 134, 145])))) (fun z34 => iteP z34 (bindO (selO x2 0 3 true) (fun z35 => bindO (callO B .cl (.fn 69 []) [z7, z35]) (fun z36 => chkO (okCells z36 3) (some (.tup [.agg
    [cellP z36 0, cellP z36 1, cellP z36 2], .int .i64 0], e))))) (bindO (selO x2 0 3 true) (fun z37 => bindO (callO B .cl (.fn 70 []) [z7, z37]) (fun z38 => chkO (okCells z38 3) (some
    (.tup [.agg [cellP z38 0, cellP z38 1, cellP z38 2], .int .i64 0], e))))))))))))))))))))))))) := by kernel_rfl
theorem run42 (B : KB) {E : Type} (h : Handler E) (dep : Nat) (e : E) (x0 : PV) (x1 : PV) :
    runK (cfg0 B (fun _ => .cl)) fn42 (.cl) h dep [.cv x0, .cv x1] e =
    chkO (valO x0) (chkO (valO x1) (bindO (selO x1 0 1 false) (fun z1 => bindO (pureO (.build [.bool false, .bool false, .nilS] [(0, (1, .c z1))])) (fun z2 => chkO (okCells z2 3) (nilO
    (cellP z2 2) (chkO (noUndef [.int .i64 0]) (loopL (fun z3 => bindO (selO (nth z3.1 2) 2 1 false) (fun z4 => bindO (pureO (.len .slice (.c z4))) (fun z5 => bindO (pureO (.bin .lss
    .num false (.c (nth z3.1 0)) (.c z5))) (fun z6 => iteP z6 (chkO (noUndef [nth z3.1 0, .int .i64 0]) (loopL (fun z7 => bindO (selO (nth z7.1 2) 2 1 false) (fun z8 => bindO (pureO
    (.len .slice (.c z8))) (fun z9 => bindO (pureO (.bin .lss .num false (.c (nth z7.1 1)) (.c z9))) (fun z10 => iteP z10 (bindO (selO (nth z7.1 2) 2 1 false) (fun z11 => bindO (pureO
    (.idxAddr 1 (.c z11) (.c (nth z7.1 1)))) (fun z12 => bindO (pureO (.load 1 false (.c z12))) (fun z13 => bindO (selO (nth z7.1 3) 2 1 false) (fun z14 => bindO (pureO (.idxAddr 1 (.c
    z14) (.c (nth z7.1 0)))) (fun z15 => bindO (pureO (.load 1 false (.c z15))) (fun z16 => bindO (pureO (.bin .neq .num false (.c z13) (.c z16))) (fun z17 => iteP z17 (bindO (pureO
    (.bin .add .num true (.c (nth z7.1 1)) (.c (.int .i64 1)))) (fun z18 => some (.inl ([nth z7.1 0, z18, nth z7.1 2, nth z7.1 3, nth z7.1 4, nth z7.1 5, nth z7.1 6, nth z7.1 7, nth
    z7.1 8, nI (natP (nth z7.1 9)), .sl 1 (itemsP (nth z7.1 10)) false], z7.2)))) (bindO (selO (nth z7.1 2) 1 1 false) (fun z19 => bindO (selO (nth z7.1 3) 1 1 false) (fun z20 => bindO
    (pureO (.bin .neq .bool false (.c z19) (.c z20))) (fun z21 => iteP z21 (bindO (pureO (.bin .add .num true (.c (nth z7.1 1)) (.c (.int .i64 1)))) (fun z22 => some (.inl ([nth z7.1
    0, z22, nth z7.1 2, nth z7.1 3, nth z7.1 4, nth z7.1 5, nth z7.1 6, nth z7.1 7, nth z7.1 8, nI (natP (nth z7.1 9)), .sl 1 (itemsP (nth z7.1 10)) false], z7.2)))) (bindO (bindO
    (pureO (.bin .add .num true (.c (nth z7.1 1)) (.c (.int .i64 1)))) (fun z23 => chkO (okSls 1 [z23]) (chkO (leN (addN 0 (lenL [z23])) (lenL [z23])) (chkO (andB (leN (natP (nth z7.1
    9)) (lenL (itemsP (nth z7.1 10)))) (leN (addN (natP (nth z7.1 9)) (lenL (takeL (lenL [z23]) (dropL 0 [z23])))) 2147483648)) (bindO (pureO (.bin .add .num true (.c (nth z7.1 0)) (.c
    (.int .i64 1)))) (fun z24 => some (.inl ([z24, nth z7.1 2, nth z7.1 3, nth z7.1 4, nth z7.1 5, nth z7.1 6, nth z7.1 7, nth z7.1 8, nI (addN (natP (nth z7.1 9)) (lenL (takeL (lenL
    [z23]) (dropL 0 [z23])))), .sl 1 (catL (takeL (natP (nth z7.1 9)) (itemsP (nth z7.1 10))) (takeL (lenL [z23]) (dropL 0 [z23]))) false], z7.2)))))))) (fun z25 => some (.inr
    z25))))))))))))))) (bindO (bindO (pureO (.bin .add .num true (.c (nth z7.1 1)) (.c (.int .i64 1)))) (fun z26 => chkO (okSls 1 [z26]) (chkO (leN (addN 0 (lenL [z26])) (lenL [z26]))
    (chkO (andB (leN (natP (nth z7.1 9)) (lenL (itemsP (nth z7.1 10)))) (leN (addN (natP (nth z7.1 9)) (lenL (takeL (lenL [z26]) (dropL 0 [z26])))) 2147483648)) (bindO (pureO (.bin
    .add .num true (.c (nth z7.1 0)) (.c (.int .i64 1)))) (fun z27 => some (.inl ([z27, nth z7.1 2, nth z7.1 3, nth z7.1 4, nth z7.1 5, nth z7.1 6, nth z7.1 7, nth z7.1 8, nI (addN
    (natP (nth z7.1 9)) (lenL (takeL (lenL [z26]) (dropL 0 [z26])))), .sl 1 (catL (takeL (natP (nth z7.1 9)) (itemsP (nth z7.1 10))) (takeL (lenL [z26]) (dropL 0 [z26]))) false],
    z7.2)))))))) (fun z28 => some (.inr z28))))))) ([nth z3.1 0, .int .i64 0, nth z3.1 1, nth z3.1 2, nth z3.1 3, nth z3.1 4, nth z3.1 5, nth z3.1 6, nth z3.1 7, nI (natP (nth z3.1
    8)), .sl 1 (itemsP (nth z3.1 9)) false], z3.2))) (bindO (chkO (okU (.agg [nth z3.1 6, nth z3.1 7, slO 1 1 (itemsP (nth z3.1 9)) 0 (natP (nth z3.1 8))])) (some (.agg [nth z3.1 6,
    nth z3.1 7, slO 1 1 (itemsP (nth z3.1 9)) 0 (natP (nth z3.1 8))], z3.2))) (fun z29 => some (.inr z29))))))) ([.int .i64 0, x0, x1, .bool false, .bool false, .nilS, cellP z2 0,
    cellP z2 1, nI 0, .sl 1 [] false], e)))))))) := by kernel_rfl
theorem run43 (B : KB) {E : Type} (h : Handler E) (dep : Nat) (e : E) (x0 : PV) (x1 : PV) :
    runK (cfg0 B (fun _ => .cl)) fn43 (.cl) h dep [.cv x0, .cv x1] e =
    chkO (valO x0) (chkO (valO x1) (bindO (bindO (selO x0 2 1 false) (fun z1 => bindO (pureO (.len .slice (.c z1))) (fun z2 => bindO (pureO (.bin .gtr .num true (.c z2) (.c (.int .i64
    0)))) (fun z3 => iteP z3 (bindO (selO x1 2 1 false) (fun z4 => bindO (pureO (.len .slice (.c z4))) (fun z5 => bindO (pureO (.bin .gtr .num true (.c z5) (.c (.int .i64 0)))) (fun z6
    => iteP z6 (bindO (selO x0 1 1 false) (fun z7 => bindO (selO x1 1 1 false) (fun z8 => bindO (pureO (.bin .neq .bool false (.c z7) (.c z8))) (fun z9 => some z9)))) (some (.bool
    false)))))) (some (.bool false)))))) (fun z10 => iteP z10 (bindO (pureO (.build [.bool false, .bool false, .nilS] [])) (fun z11 => chkO (okCells z11 3) (some (.tup [.agg [cellP z11
    0, cellP z11 1, cellP z11 2], .int .i64 102], e)))) (bindO (selO x0 2 1 false) (fun z12 => bindO (pureO (.len .slice (.c z12))) (fun z13 => bindO (selO x1 2 1 false) (fun z14 =>
    bindO (pureO (.len .slice (.c z14))) (fun z15 => bindO (pureO (.bin .add .num false (.c z13) (.c z15))) (fun z16 => bindO (pureO (.bin .gtr .num true (.c z16) (.c (.int .i64
    200)))) (fun z17 => iteP z17 (bindO (pureO (.build [.bool false, .bool false, .nilS] [])) (fun z18 => chkO (okCells z18 3) (some (.tup [.agg [cellP z18 0, cellP z18 1, cellP z18
    2], .int .i64 113], e)))) (bindO (selO x0 2 1 false) (fun z19 => bindO (elemsO 1 z19) (fun z20 => chkO (leN (lenL z20) 2147483648) (bindO (selO x1 2 1 false) (fun z21 => bindO
    (elemsO 1 z21) (fun z22 => chkO (andB (leN (lenL z20) (lenL z20)) (leN (addN (lenL z20) (lenL z22)) 2147483648)) (bindO (selO x0 1 1 false) (fun z23 => iteP z23 (bindO (selO x0 2 1
    false) (fun z24 => bindO (pureO (.len .slice (.c z24))) (fun z25 => bindO (pureO (.bin .gtr .num true (.c z25) (.c (.int .i64 0)))) (fun z26 => iteP z26 (bindO (lendO B .cl false
    38 [slO 1 1 (catL (takeL (lenL z20) z20) z22) 0 (addN (lenL z20) (lenL z22)), .bool true]) (fun z27 => chkO (okCells z27 3) (some (.tup [.agg [cellP z27 0, cellP z27 1, cellP z27
    2], .int .i64 0], e)))) (bindO (selO x1 1 1 false) (fun z28 => iteP z28 (bindO (selO x1 2 1 false) (fun z29 => bindO (pureO (.len .slice (.c z29))) (fun z30 => bindO (pureO (.bin
    .gtr .num true (.c z30) (.c (.int .i64 0)))) (fun z31 => iteP z31 (bindO (lendO B .cl false 38 [slO 1 1 (catL (takeL (lenL z20) z20) z22) 0 (addN (lenL z20) (lenL z22)), .bool
    true]) (fun z32 => chkO (okCells z32 3) (some (.tup [.agg [cellP z32 0, cellP z32 1, cellP z32 2], .int .i64 0], e)))) (bindO (selO x0 1 1 false) (fun z33 => iteP z33 (bindO (selO
    x1 1 1 false) (fun z34 => bindO (lendO B .cl false 38 [slO 1 1 (catL (takeL (lenL z20) z20) z22) 0 (addN (lenL z20) (lenL z22)), z34]) (fun z35 => chkO (okCells z35 3) (some (.tup
    [.agg [cellP z35 0, cellP z35 1, cellP z35 2], .int .i64 0], e))))) (bindO (lendO B .cl false 38 [slO 1 1 (catL (takeL (lenL z20) z20) z22) 0 (addN (lenL z20) (lenL z22)), .bool
    false]) (fun z36 => chkO (okCells z36 3) (some (.tup [.agg [cellP z36 0, cellP z36 1, cellP z36 2], .int .i64 0], e)))))))))) (bindO (selO x0 1 1 false) (fun z37 => iteP z37 (bindO
    (selO x1 1 1 false) (fun z38 => bindO (lendO B .cl false 38 [slO 1 1 (catL (takeL (lenL z20) z20) z22) 0 (addN (lenL z20) (lenL z22)), z38]) (fun z39 => chkO (okCells z39 3) (some
    (.tup [.agg [cellP z39 0, cellP z39 1, cellP z39 2], .int .i64 0], e))))) (bindO (lendO B .cl false 38 [slO 1 1 (catL (takeL (lenL z20) z20) z22) 0 (addN (lenL z20) (lenL z22)),
    .bool false]) (fun z40 => chkO (okCells z40 3) (some (.tup [.agg [cellP z40 0, cellP z40 1, cellP z40 2], .int .i64 0], e)))))))))))) (bindO (selO x1 1 1 false) (fun z41 => iteP
    z41 (bindO (selO x1 2 1 false) (fun z42 => bindO (pureO (.len .slice (.c z42))) (fun z43 => bindO (pureO (.bin .gtr .num true (.c z43) (.c (.int .i64 0)))) (fun z44 => iteP z44
    (bindO (lendO B .cl false 38 [slO 1 1 (catL (takeL (lenL z20) z20) z22) 0 (addN (lenL z20) (lenL z22)), .bool true]) (fun z45 => chkO (okCells z45 3) (some (.tup [.agg [cellP z45
    0, cellP z45 1, cellP z45 2], .int .i64 0], e)))) (bindO (selO x0 1 1 false) (fun z46 => iteP z46 (bindO (selO x1 1 1 false) (fun z47 => bindO (lendO B .cl false 38 [slO 1 1 (catL
    (takeL (lenL z20) z20) z22) 0 (addN (lenL z20) (lenL z22)), z47]) (fun z48 => chkO (okCells z48 3) (some (.tup [.agg [cellP z48 0, cellP z48 1, cellP z48 2], .int .i64 0], e)))))
    (bindO (lendO B .cl false 38 [slO 1 1 (catL (takeL (lenL z20) z20) z22) 0 (addN (lenL z20) (lenL z22)), .bool false]) (fun z49 => chkO (okCells z49 3) (some (.tup [.agg [cellP z49
    0, cellP z49 1, cellP z49 2], .int .i64 0], e)))))))))) (bindO (selO x0 1 1 false) (fun z50 => iteP z50 (bindO (selO x1 1 1 false) (fun z51 => bindO (lendO B .cl false 38 [slO 1 1
    (catL (takeL (lenL z20) z20) z22) 0 (addN (lenL z20) (lenL z22)), z51]) (fun z52 => chkO (okCells z52 3) (some (.tup [.agg [cellP z52 0, cellP z52 1, cellP z52 2], .int .i64 0],
    e))))) (bindO (lendO B .cl false 38 [slO 1 1 (catL (takeL (lenL z20) z20) z22) 0 (addN (lenL z20) (lenL z22)), .bool false]) (fun z53 => chkO (okCells z53 3) (some (.tup [.agg
    [cellP z53 0, cellP z53 1, cellP z53 2], .int .i64 0], e)))))))))))))))))))))))))) := by kernel_rfl
theorem run44 (B : KB) {E : Type} (h : Handler E) (dep : Nat) (e : E) (x0 : PV) (x1 : PV) :
    runK (cfg0 B (fun _ => .cl)) fn44 (.cl) h dep [.cv x0, .cv x1] e =
    bindO (pureO (.len .slice (.c x0))) (fun z1 => bindO (pureO (.len .slice (.c x1))) (fun z2 => bindO (pureO (.bin .neq .num false (.c z1) (.c z2))) (fun z3 => iteP z3 (some (.bool
    false, e)) (chkO (noUndef [x0, x1, .int .i64 0]) (loopL (fun z4 => bindO (pureO (.len .slice (.c (nth z4.1 0)))) (fun z5 => bindO (pureO (.bin .lss .num false (.c (nth z4.1 2)) (.c
    z5))) (fun z6 => iteP z6 (bindO (pureO (.idxAddr 1 (.c (nth z4.1 0)) (.c (nth z4.1 2)))) (fun z7 => bindO (pureO (.load 1 false (.c z7))) (fun z8 => bindO (pureO (.idxAddr 1 (.c
    (nth z4.1 1)) (.c (nth z4.1 2)))) (fun z9 => bindO (pureO (.load 1 false (.c z9))) (fun z10 => bindO (pureO (.bin .neq .num false (.c z8) (.c z10))) (fun z11 => iteP z11 (bindO
    (some (.bool false, z4.2)) (fun z12 => some (.inr z12))) (bindO (pureO (.bin .add .num true (.c (nth z4.1 2)) (.c (.int .i64 1)))) (fun z13 => some (.inl ([nth z4.1 0, nth z4.1 1,
    z13], z4.2)))))))))) (bindO (some (.bool true, z4.2)) (fun z14 => some (.inr z14)))))) ([x0, x1, .int .i64 0], e)))))) := by kernel_rfl
theorem run46 (B : KB) {E : Type} (h : Handler E) (dep : Nat) (e : E) (x0 : PV) :
    runK (cfg0 B (fun _ => .cl)) fn46 (.cl) h dep [.cv x0] e =
    chkO (valO x0) (bindO (selO x0 0 1 false) (fun z1 => bindO (pureO (.un .not (.c z1))) (fun z2 => iteP z2 (bindO (callO B .cl (.fn 75 []) [.nilS]) (fun z3 => chkO (okCells z3 3)
    (some (.tup [.agg [cellP z3 0, cellP z3 1, cellP z3 2], .nilI], e)))) (bindO (selO x0 2 1 false) (fun z4 => bindO (pureO (.len .slice (.c z4))) (fun z5 => chkO (okSls 1 [z5])
    (bindO (lendO B .cl false 75 [slO 1 1 [z5] 0 (lenL [z5])]) (fun z6 => chkO (okCells z6 3) (some (.tup [.agg [cellP z6 0, cellP z6 1, cellP z6 2], .nilI], e)))))))))) := by kernel_rfl
theorem run47 (B : KB) {E : Type} (h : Handler E) (dep : Nat) (e : E) (x0 : PV) :
    runK (cfg0 B (fun _ => .cl)) fn47 (.cl) h dep [.cv x0] e =
    chkO (valO x0) (bindO (selO x0 0 6 true) (fun z1 => bindO (callO B .cl (.fn 76 []) [z1, .int .i64 (-9223372036854775808), .int .i64 200]) (fun z2 => bindO (pureO (.extract 0 (.c
    z2))) (fun z3 => bindO (pureO (.extract 1 (.c z2))) (fun z4 => bindO (bindO (pureO (.bin .eql .iface true (.c z4) (.c .nilI))) (fun z5 => iteP z5 (bindO (pureO (.bin .lss .num true
    (.c z3) (.c (.int .i64 0)))) (fun z6 => some z6)) (some (.bool false)))) (fun z7 => iteP z7 (bindO (pureO (.build [.int .i64 0] [(0, (1, .c (.int .i64 102)))])) (fun z8 => bindO
    (pureO (.bin .neq .iface true (.c (.iface 72 z8)) (.c .nilI))) (fun z9 => iteP z9 (bindO (pureO (.build [.bool false, .bool false, .nilS] [])) (fun z10 => chkO (okCells z10 3)
    (some (.tup [.agg [cellP z10 0, cellP z10 1, cellP z10 2], .iface 72 z8], e)))) (bindO (pureO (.build [.int .i64 0] [(0, (1, .c (.int .i64 110)))])) (fun z11 => bindO (bindO (pureO
    (.bin .gtr .num true (.c z3) (.c (.int .i64 0)))) (fun z12 => iteP z12 (bindO (selO x0 2 1 false) (fun z13 => bindO (pureO (.len .slice (.c z13))) (fun z14 => bindO (pureO (.bin
    .eql .num true (.c z14) (.c (.int .i64 0)))) (fun z15 => some z15)))) (some (.bool false)))) (fun z16 => iteP z16 (bindO (pureO (.build [.bool false, .bool false, .nilS] [])) (fun
    z17 => chkO (okCells z17 3) (some (.tup [.agg [cellP z17 0, cellP z17 1, cellP z17 2], .iface 72 z11], e)))) (chkO (noUndef [nI 0, z3, .int .i64 0]) (loopL (fun z18 => bindO (pureO
    (.bin .lss .num false (.c (nth z18.1 2)) (.c (nth z18.1 1)))) (fun z19 => iteP z19 (bindO (selO (nth z18.1 3) 2 1 false) (fun z20 => bindO (selO (nth z18.1 3) 2 1 false) (fun z21
    => bindO (pureO (.len .slice (.c z21))) (fun z22 => bindO (pureO (.bin .rem .num false (.c (nth z18.1 2)) (.c z22))) (fun z23 => bindO (pureO (.idxAddr 1 (.c z20) (.c z23))) (fun
    z24 => bindO (pureO (.load 1 false (.c z24))) (fun z25 => chkO (okSls 1 [z25]) (chkO (leN (addN 0 (lenL [z25])) (lenL [z25])) (chkO (andB (leN (natP (nth z18.1 0)) (lenL (itemsP
    (nth z18.1 7)))) (leN (addN (natP (nth z18.1 0)) (lenL (takeL (lenL [z25]) (dropL 0 [z25])))) 2147483648)) (bindO (pureO (.bin .add .num true (.c (nth z18.1 2)) (.c (.int .i64
    1)))) (fun z26 => some (.inl ([nI (addN (natP (nth z18.1 0)) (lenL (takeL (lenL [z25]) (dropL 0 [z25])))), nth z18.1 1, z26, nth z18.1 3, nth z18.1 4, nth z18.1 5, nth z18.1 6, .sl
    1 (catL (takeL (natP (nth z18.1 0)) (itemsP (nth z18.1 7))) (takeL (lenL [z25]) (dropL 0 [z25]))) false], z18.2))))))))))))) (bindO (bindO (selO (nth z18.1 3) 0 3 true) (fun z27 =>
    bindO (lendO B .cl false 51 [z27, slO 1 1 (itemsP (nth z18.1 7)) 0 (natP (nth z18.1 0))]) (fun z28 => chkO (okCells z28 3) (some (.tup [.agg [cellP z28 0, cellP z28 1, cellP z28
    2], .nilI], z18.2))))) (fun z29 => some (.inr z29))))) ([nI 0, z3, .int .i64 0, x0, .bool false, .bool false, .nilS, .sl 1 [] false], e))))))))) (bindO (pureO (.bin .neq .iface
    true (.c z4) (.c .nilI))) (fun z30 => iteP z30 (bindO (pureO (.build [.bool false, .bool false, .nilS] [])) (fun z31 => chkO (okCells z31 3) (some (.tup [.agg [cellP z31 0, cellP
    z31 1, cellP z31 2], z4], e)))) (bindO (pureO (.build [.int .i64 0] [(0, (1, .c (.int .i64 110)))])) (fun z32 => bindO (bindO (pureO (.bin .gtr .num true (.c z3) (.c (.int .i64
    0)))) (fun z33 => iteP z33 (bindO (selO x0 2 1 false) (fun z34 => bindO (pureO (.len .slice (.c z34))) (fun z35 => bindO (pureO (.bin .eql .num true (.c z35) (.c (.int .i64 0))))
    (fun z36 => some z36)))) (some (.bool false)))) (fun z37 => iteP z37 (bindO (pureO (.build [.bool false, .bool false, .nilS] [])) (fun z38 => chkO (okCells z38 3) (some (.tup [.agg
    [cellP z38 0, cellP z38 1, cellP z38 2], .iface 72 z32], e)))) (chkO (noUndef [nI 0, z3, .int .i64 0]) (loopL (fun z39 => bindO (pureO (.bin .lss .num false (.c (nth z39.1 2)) (.c
    (nth z39.1 1)))) (fun z40 => iteP z40 (bindO (selO (nth z39.1 3) 2 1 false) (fun z41 => bindO (selO (nth z39.1 3) 2 1 false) (fun z42 => bindO (pureO (.len .slice (.c z42))) (fun
    z43 => bindO (pureO (.bin .rem .num false (.c (nth z39.1 2)) (.c z43))) (fun z44 => bindO (pureO (.idxAddr 1 (.c z41) (.c z44))) (fun z45 => bindO (pureO (.load 1 false (.c z45)))
    (fun z46 => chkO (okSls 1 [z46]) (chkO (leN (addN 0 (lenL [z46])) (lenL [z46])) (chkO (andB (leN (natP (nth z39.1 0)) (lenL (itemsP (nth z39.1 7)))) (leN (addN (natP (nth z39.1 0))
    (lenL (takeL (lenL [z46]) (dropL 0 [z46])))) 2147483648)) (bindO (pureO (.bin .add .num true (.c (nth z39.1 2)) (.c (.int .i64 1)))) (fun z47 => some (.inl ([nI (addN (natP (nth
    z39.1 0)) (lenL (takeL (lenL [z46]) (dropL 0 [z46])))), nth z39.1 1, z47, nth z39.1 3, nth z39.1 4, nth z39.1 5, nth z39.1 6, .sl 1 (catL (takeL (natP (nth z39.1 0)) (itemsP (nth
    z39.1 7))) (takeL (lenL [z46]) (dropL 0 [z46]))) false], z39.2))))))))))))) (bindO (bindO (selO (nth z39.1 3) 0 3 true) (fun z48 => bindO (lendO B .cl false 51 [z48, slO 1 1
    (itemsP (nth z39.1 7)) 0 (natP (nth z39.1 0))]) (fun z49 => chkO (okCells z49 3) (some (.tup [.agg [cellP z49 0, cellP z49 1, cellP z49 2], .nilI], z39.2))))) (fun z50 => some
    (.inr z50))))) ([nI 0, z3, .int .i64 0, x0, .bool false, .bool false, .nilS, .sl 1 [] false], e)))))))))))))) := by kernel_rfl
theorem run48 (B : KB) {E : Type} (h : Handler E) (dep : Nat) (e : E) (x0 : PV) :
    runK (cfg0 B (fun _ => .cl)) fn48 (.cl) h dep [.cv x0] e =
    chkO (valO x0) (bindO (selO x0 0 3 true) (fun z1 => bindO (callO B .cl (.fn 77 []) [z1]) (fun z2 => bindO (pureO (.extract 0 (.c z2))) (fun z3 => bindO (pureO (.extract 1 (.c z2)))
    (fun z4 => bindO (pureO (.bin .neq .iface true (.c z4) (.c .nilI))) (fun z5 => iteP z5 (bindO (pureO (.build [.bool false, .bool false, .nilS] [])) (fun z6 => chkO (okCells z6 3)
    (some (.tup [.agg [cellP z6 0, cellP z6 1, cellP z6 2], z4], e)))) (bindO (pureO (.bin .lss .num true (.c z3) (.c (.int .i64 0)))) (fun z7 => iteP z7 (bindO (pureO (.build [.bool
    false, .bool false, .nilS] [])) (fun z8 => bindO (pureO (.build [.int .i64 0] [(0, (1, .c (.int .i64 102)))])) (fun z9 => chkO (okCells z8 3) (some (.tup [.agg [cellP z8 0, cellP
    z8 1, cellP z8 2], .iface 72 z9], e))))) (bindO (pureO (.bin .gtr .num true (.c z3) (.c (.int .i64 200)))) (fun z10 => iteP z10 (bindO (pureO (.build [.bool false, .bool false,
    .nilS] [])) (fun z11 => bindO (pureO (.build [.int .i64 0] [(0, (1, .c (.int .i64 113)))])) (fun z12 => chkO (okCells z11 3) (some (.tup [.agg [cellP z11 0, cellP z11 1, cellP z11
    2], .iface 72 z12], e))))) (bindO (callO B .cl (.fn 75 []) [.nilS]) (fun z13 => chkO (okCells z13 3) (nilO (cellP z13 2) (chkO (noUndef [z3, .int .i64 0]) (loopL (fun z14 => bindO
    (pureO (.bin .lss .num false (.c (nth z14.1 1)) (.c (nth z14.1 0)))) (fun z15 => iteP z15 (bindO (pureO (.bin .add .num true (.c (nth z14.1 1)) (.c (.int .i64 1)))) (fun z16 =>
    chkO (okSls 1 [z16]) (chkO (leN (addN 0 (lenL [z16])) (lenL [z16])) (chkO (andB (leN (natP (nth z14.1 7)) (lenL (itemsP (nth z14.1 8)))) (leN (addN (natP (nth z14.1 7)) (lenL
    (takeL (lenL [z16]) (dropL 0 [z16])))) 2147483648)) (bindO (pureO (.bin .add .num true (.c (nth z14.1 1)) (.c (.int .i64 1)))) (fun z17 => some (.inl ([nth z14.1 0, z17, nth z14.1
    2, nth z14.1 3, nth z14.1 4, nth z14.1 5, nth z14.1 6, nI (addN (natP (nth z14.1 7)) (lenL (takeL (lenL [z16]) (dropL 0 [z16])))), .sl 1 (catL (takeL (natP (nth z14.1 7)) (itemsP
    (nth z14.1 8))) (takeL (lenL [z16]) (dropL 0 [z16]))) false], z14.2)))))))) (bindO (chkO (okU (.tup [.agg [nth z14.1 5, nth z14.1 6, slO 1 1 (itemsP (nth z14.1 8)) 0 (natP (nth
    z14.1 7))], .nilI])) (some (.tup [.agg [nth z14.1 5, nth z14.1 6, slO 1 1 (itemsP (nth z14.1 8)) 0 (natP (nth z14.1 7))], .nilI], z14.2))) (fun z18 => some (.inr z18))))) ([z3,
    .int .i64 0, .bool false, .bool false, .nilS, cellP z13 0, cellP z13 1, nI 0, .sl 1 [] false], e)))))))))))))))) := by kernel_rfl
theorem run49 (B : KB) {E : Type} (h : Handler E) (dep : Nat) (e : E) (x0 : PV) :
    runK (cfg0 B (fun _ => .cl)) fn49 (.cl) h dep [.cv x0] e =
    chkO (valO x0) (bindO (selO x0 3 1 false) (fun z1 => bindO (pureO (.un .not (.c z1))) (fun z2 => iteP z2 (bindO (pureO (.build [.bool false, .bool false, .nilS] [])) (fun z3 =>
    bindO (pureO (.build [.int .i64 0] [(0, (1, .c (.int .i64 111)))])) (fun z4 => chkO (okCells z3 3) (some (.tup [.agg [cellP z3 0, cellP z3 1, cellP z3 2], .iface 72 z4], e)))))
    (bindO (selO x0 0 1 false) (fun z5 => bindO (pureO (.build [.bool false, .bool false, .nilS] [(0, (1, .c z5))])) (fun z6 => chkO (okCells z6 3) (bindO (selO x0 2 1 false) (fun z7
    => bindO (pureO (.len .slice (.c z7))) (fun z8 => nilO (cellP z6 2) (chkO (noUndef [z7, z8, .int .i64 0]) (loopL (fun z9 => bindO (pureO (.bin .lss .num false (.c (nth z9.1 2)) (.c
    (nth z9.1 1)))) (fun z10 => iteP z10 (bindO (pureO (.idxAddr 1 (.c (nth z9.1 0)) (.c (nth z9.1 2)))) (fun z11 => bindO (pureO (.load 1 false (.c z11))) (fun z12 => bindO (selO (nth
    z9.1 3) 5 1 false) (fun z13 => bindO (callO B .cl (.fn 78 []) [z13, z12]) (fun z14 => bindO (bindO (pureO (.bin .lss .num true (.c z14) (.c (.int .i64 0)))) (fun z15 => iteP z15
    (some (.bool true)) (bindO (selO (nth z9.1 3) 4 1 false) (fun z16 => bindO (selO (nth z9.1 3) 1 1 false) (fun z17 => bindO (pureO (.bin .neq .bool false (.c z16) (.c z17))) (fun
    z18 => some z18)))))) (fun z19 => iteP z19 (bindO (selO (nth z9.1 3) 5 1 false) (fun z20 => bindO (pureO (.len .slice (.c z20))) (fun z21 => bindO (pureO (.bin .add .num true (.c
    z21) (.c (.int .i64 1)))) (fun z22 => chkO (okSls 1 [z22]) (chkO (leN (addN 0 (lenL [z22])) (lenL [z22])) (chkO (andB (leN (natP (nth z9.1 9)) (lenL (itemsP (nth z9.1 10)))) (leN
    (addN (natP (nth z9.1 9)) (lenL (takeL (lenL [z22]) (dropL 0 [z22])))) 2147483648)) (bindO (pureO (.bin .add .num true (.c (nth z9.1 2)) (.c (.int .i64 1)))) (fun z23 => some (.inl
    ([nth z9.1 0, nth z9.1 1, z23, nth z9.1 3, nth z9.1 4, nth z9.1 5, nth z9.1 6, nth z9.1 7, nth z9.1 8, nI (addN (natP (nth z9.1 9)) (lenL (takeL (lenL [z22]) (dropL 0 [z22])))),
    .sl 1 (catL (takeL (natP (nth z9.1 9)) (itemsP (nth z9.1 10))) (takeL (lenL [z22]) (dropL 0 [z22]))) false], z9.2)))))))))) (bindO (pureO (.bin .add .num true (.c z14) (.c (.int
    .i64 1)))) (fun z24 => chkO (okSls 1 [z24]) (chkO (leN (addN 0 (lenL [z24])) (lenL [z24])) (chkO (andB (leN (natP (nth z9.1 9)) (lenL (itemsP (nth z9.1 10)))) (leN (addN (natP (nth
    z9.1 9)) (lenL (takeL (lenL [z24]) (dropL 0 [z24])))) 2147483648)) (bindO (pureO (.bin .add .num true (.c (nth z9.1 2)) (.c (.int .i64 1)))) (fun z25 => some (.inl ([nth z9.1 0,
    nth z9.1 1, z25, nth z9.1 3, nth z9.1 4, nth z9.1 5, nth z9.1 6, nth z9.1 7, nth z9.1 8, nI (addN (natP (nth z9.1 9)) (lenL (takeL (lenL [z24]) (dropL 0 [z24])))), .sl 1 (catL
    (takeL (natP (nth z9.1 9)) (itemsP (nth z9.1 10))) (takeL (lenL [z24]) (dropL 0 [z24]))) false], z9.2)))))))))))))) (bindO (chkO (okU (.tup [.agg [nth z9.1 7, nth z9.1 8, slO 1 1
    (itemsP (nth z9.1 10)) 0 (natP (nth z9.1 9))], .nilI])) (some (.tup [.agg [nth z9.1 7, nth z9.1 8, slO 1 1 (itemsP (nth z9.1 10)) 0 (natP (nth z9.1 9))], .nilI], z9.2))) (fun z26
    => some (.inr z26))))) ([z7, z8, .int .i64 0, x0, .bool false, .bool false, .nilS, cellP z6 0, cellP z6 1, nI 0, .sl 1 [] false], e)))))))))))) := by kernel_rfl
theorem run50 (B : KB) {E : Type} (h : Handler E) (dep : Nat) (e : E) (x0 : PV) :
    runK (cfg0 B (fun _ => .cl)) fn50 (.cl) h dep [.cv x0] e =
    chkO (valO x0) (bindO (selO x0 0 3 true) (fun z1 => bindO (selO x0 0 3 true) (fun z2 => bindO (callO B (.own 1) (.fn 52 []) [z2]) (fun z3 => bindO (lendO B .cl false 51 [z1, slO 1
    1 (itemsP z3) 0 (lenL (itemsP z3))]) (fun z4 => chkO (okCells z4 3) (some (.tup [.agg [cellP z4 0, cellP z4 1, cellP z4 2], .nilI], e))))))) := by kernel_rfl
theorem run51 (B : KB) {E : Type} (h : Handler E) (dep : Nat) (e : E) (x0 : PV) (x1 : PV) :
    runK (cfg0 B (fun _ => .cl)) fn51 (.cl) h dep [.cv x0, .cv x1] e =
    chkO (valO x0) (bindO (selO x0 1 1 false) (fun z1 => bindO (pureO (.build [.bool false, .bool false, .nilS] [(0, (1, .c (.bool true))), (1, (1, .c z1)), (2, (1, .c x1))])) (fun z2
    => chkO (okCells z2 3) (some (.agg [cellP z2 0, cellP z2 1, cellP z2 2], e))))) := by kernel_rfl
theorem run52 (B : KB) {E : Type} (h : Handler E) (dep : Nat) (e : E) (x0 : PV) :
    runK (cfg0 B (fun _ => .cl)) fn52 (.own 1) h dep [.cv x0] e =
    chkO (valO x0) (bindO (selO x0 2 1 false) (fun z1 => bindO (pureO (.len .slice (.c z1))) (fun z2 => bindO (mkSO z2 z2) (fun z3 => bindO (selO x0 2 1 false) (fun z4 => bindO (elemsO
    1 z4) (fun z5 => chkO (leN (addN 0 z3) (lenL (replL z3 (.int .i64 0)))) (chkO (eqN z3 (lenL (catL (catL (takeL 0 (replL z3 (.int .i64 0))) (takeL z3 z5)) (dropL (addN 0 (lenL
    (takeL z3 z5))) (replL z3 (.int .i64 0)))))) (some (.sl 1 (catL (catL (takeL 0 (replL z3 (.int .i64 0))) (takeL z3 z5)) (dropL (addN 0 (lenL (takeL z3 z5))) (replL z3 (.int .i64
    0)))) false, e))))))))) := by kernel_rfl
theorem run53 (B : KB) {E : Type} (h : Handler E) (dep : Nat) (e : E) (x0 : PV) :
    runK (cfg0 B (fun _ => .cl)) fn53 (.cl) h dep [.cv x0] e =
    chkO (valO x0) (bindO (bindO (selO x0 5 1 false) (fun z1 => bindO (pureO (.len .slice (.c z1))) (fun z2 => bindO (pureO (.bin .gtr .num true (.c z2) (.c (.int .i64 0)))) (fun z3 =>
    iteP z3 (bindO (selO x0 2 1 false) (fun z4 => bindO (pureO (.len .slice (.c z4))) (fun z5 => bindO (pureO (.bin .gtr .num true (.c z5) (.c (.int .i64 0)))) (fun z6 => iteP z6
    (bindO (selO x0 4 1 false) (fun z7 => bindO (selO x0 1 1 false) (fun z8 => bindO (pureO (.bin .neq .bool false (.c z7) (.c z8))) (fun z9 => some z9)))) (some (.bool false))))))
    (some (.bool false)))))) (fun z10 => iteP z10 (bindO (pureO (.build [.bool false, .bool false, .nilS] [])) (fun z11 => bindO (pureO (.build [.int .i64 0] [(0, (1, .c (.int .i64
    102)))])) (fun z12 => chkO (okCells z11 3) (some (.tup [.agg [cellP z11 0, cellP z11 1, cellP z11 2], .iface 72 z12], e))))) (bindO (selO x0 5 1 false) (fun z13 => bindO (pureO
    (.len .slice (.c z13))) (fun z14 => bindO (selO x0 2 1 false) (fun z15 => bindO (pureO (.len .slice (.c z15))) (fun z16 => bindO (pureO (.bin .add .num false (.c z14) (.c z16)))
    (fun z17 => bindO (pureO (.bin .gtr .num true (.c z17) (.c (.int .i64 200)))) (fun z18 => iteP z18 (bindO (pureO (.build [.bool false, .bool false, .nilS] [])) (fun z19 => bindO
    (pureO (.build [.int .i64 0] [(0, (1, .c (.int .i64 113)))])) (fun z20 => chkO (okCells z19 3) (some (.tup [.agg [cellP z19 0, cellP z19 1, cellP z19 2], .iface 72 z20], e)))))
    (bindO (selO x0 3 3 true) (fun z21 => bindO (callO B .cl (.fn 79 []) [z21]) (fun z22 => iteP z22 (bindO (selO x0 5 1 false) (fun z23 => bindO (selO x0 2 1 false) (fun z24 => chkO
    (okSls 1 [z23, z24]) (bindO (lendO B (.own 1) true 80 [slO 1 1 [z23, z24] 0 (lenL [z23, z24])]) (fun z25 => chkO (okU (.tup [.agg [.bool true, .bool true, slO 1 1 (itemsP z25) 0
    (lenL (itemsP z25))], .nilI])) (some (.tup [.agg [.bool true, .bool true, slO 1 1 (itemsP z25) 0 (lenL (itemsP z25))], .nilI], e))))))) (bindO (selO x0 0 3 true) (fun z26 => bindO
    (callO B .cl (.fn 79 []) [z26]) (fun z27 => iteP z27 (bindO (selO x0 5 1 false) (fun z28 => bindO (selO x0 2 1 false) (fun z29 => chkO (okSls 1 [z28, z29]) (bindO (lendO B (.own 1)
    true 80 [slO 1 1 [z28, z29] 0 (lenL [z28, z29])]) (fun z30 => chkO (okU (.tup [.agg [.bool true, .bool true, slO 1 1 (itemsP z30) 0 (lenL (itemsP z30))], .nilI])) (some (.tup [.agg
    [.bool true, .bool true, slO 1 1 (itemsP z30) 0 (lenL (itemsP z30))], .nilI], e))))))) (bindO (selO x0 4 1 false) (fun z31 => iteP z31 (bindO (selO x0 1 1 false) (fun z32 => bindO
    (selO x0 5 1 false) (fun z33 => bindO (selO x0 2 1 false) (fun z34 => chkO (okSls 1 [z33, z34]) (bindO (lendO B (.own 1) true 80 [slO 1 1 [z33, z34] 0 (lenL [z33, z34])]) (fun z35
    => chkO (okCells z32 1) (chkO (okU (.tup [.agg [.bool true, cellP z32 0, slO 1 1 (itemsP z35) 0 (lenL (itemsP z35))], .nilI])) (some (.tup [.agg [.bool true, cellP z32 0, slO 1 1
    (itemsP z35) 0 (lenL (itemsP z35))], .nilI], e))))))))) (bindO (selO x0 5 1 false) (fun z36 => bindO (selO x0 2 1 false) (fun z37 => chkO (okSls 1 [z36, z37]) (bindO (lendO B (.own
    1) true 80 [slO 1 1 [z36, z37] 0 (lenL [z36, z37])]) (fun z38 => chkO (okU (.tup [.agg [.bool true, .bool false, slO 1 1 (itemsP z38) 0 (lenL (itemsP z38))], .nilI])) (some (.tup
    [.agg [.bool true, .bool false, slO 1 1 (itemsP z38) 0 (lenL (itemsP z38))], .nilI], e)))))))))))))))))))))))) := by kernel_rfl
theorem run54 (B : KB) {E : Type} (h : Handler E) (dep : Nat) (e : E) (x0 : PV) (x1 : PV) (x2 : PV) :
    runK (cfg0 B (fun _ => .cl)) fn54 (.cl) h dep [.agg [.cv x0, .cv x1, .cv x2]] e =
    bindO (callO B (.own 1) (.fn 52 []) [.agg [x0, x1, x2]]) (fun z1 => bindO (ioO B (.mk [.arr (0, 0) 1 0 0] [.arr 1 0 []] (.tup []) [.arr 1 0 []] [] []) 81 [nI (lenL (itemsP z1)),
    .sl 1 (itemsP z1) false]) (fun z2 => chkO (okU (.tup [.agg [x0, x1, slO 1 1 (itemsP (nth z2 0)) 0 (lenL (itemsP z1))], .nilI])) (some (.tup [.agg [x0, x1, slO 1 1 (itemsP (nth z2
    0)) 0 (lenL (itemsP z1))], .nilI], e)))) := by kernel_rfl
theorem run55 (B : KB) {E : Type} (h : Handler E) (dep : Nat) (e : E) (x0 : PV) :
    runK (cfg0 B (fun _ => .cl)) fn55 (.cl) h dep [.cv x0] e =
    chkO (valO x0) (bindO (selO x0 3 3 true) (fun z1 => bindO (callO B .cl (.fn 77 []) [z1]) (fun z2 => bindO (pureO (.extract 0 (.c z2))) (fun z3 => bindO (pureO (.extract 1 (.c z2)))
    (fun z4 => bindO (pureO (.bin .neq .iface true (.c z4) (.c .nilI))) (fun z5 => iteP z5 (bindO (pureO (.build [.bool false, .bool false, .nilS] [])) (fun z6 => chkO (okCells z6 3)
    (some (.tup [.agg [cellP z6 0, cellP z6 1, cellP z6 2], z4], e)))) (bindO (selO x0 0 3 true) (fun z7 => chkO (okCells z7 3) (bindO (selO x0 0 3 true) (fun z8 => bindO (callO B
    (.own 1) (.fn 52 []) [z8]) (fun z9 => bindO (selO x0 2 1 false) (fun z10 => bindO (pureO (.len .slice (.c z10))) (fun z11 => bindO (pureO (.bin .gtr .num true (.c z11) (.c (.int
    .i64 0)))) (fun z12 => iteP z12 (bindO (pureO (.bin .rem .num false (.c z3) (.c z11))) (fun z13 => bindO (pureO (.bin .add .num false (.c z13) (.c z11))) (fun z14 => bindO (pureO
    (.bin .rem .num false (.c z14) (.c z11))) (fun z15 => bindO (selO x0 2 1 false) (fun z16 => bindO (pureO (.slice 1 (.c z16) (some (.c z15)) none none)) (fun z17 => bindO (selO x0 2
    1 false) (fun z18 => bindO (pureO (.slice 1 (.c z18) none (some (.c z15)) (some (.c z15)))) (fun z19 => chkO (okSls 1 [z17, z19]) (bindO (lendO B (.own 1) true 80 [slO 1 1 [z17,
    z19] 0 (lenL [z17, z19])]) (fun z20 => chkO (okU (.tup [.agg [cellP z7 0, cellP z7 1, slO 1 1 (itemsP z20) 0 (lenL (itemsP z20))], .nilI])) (some (.tup [.agg [cellP z7 0, cellP z7
    1, slO 1 1 (itemsP z20) 0 (lenL (itemsP z20))], .nilI], e)))))))))))) (chkO (okU (.tup [.agg [cellP z7 0, cellP z7 1, slO 1 1 (itemsP z9) 0 (lenL (itemsP z9))], .nilI])) (some
    (.tup [.agg [cellP z7 0, cellP z7 1, slO 1 1 (itemsP z9) 0 (lenL (itemsP z9))], .nilI], e))))))))))))))))) := by kernel_rfl
theorem run56 (B : KB) {E : Type} (h : Handler E) (dep : Nat) (e : E) (x0 : PV) :
    runK (cfg0 B (fun _ => .cl)) fn56 (.cl) h dep [.cv x0] e =
    chkO (valO x0) (bindO (selO x0 0 3 true) (fun z1 => bindO (callO B (.own 1) (.fn 52 []) [z1]) (fun z2 => bindO (selO x0 1 1 false) (fun z3 => bindO (callO B .cl (.fn 26 []) [z3])
    (fun z4 => chkO (okSls 1 [z4]) (chkO (leN (addN 0 (lenL [z4])) (lenL [z4])) (chkO (andB (leN (lenL (itemsP z2)) (lenL (itemsP z2))) (leN (addN (lenL (itemsP z2)) (lenL (takeL (lenL
    [z4]) (dropL 0 [z4])))) 2147483648)) (bindO (selO x0 1 1 false) (fun z5 => bindO (boundO (some (.int .i64 1)) (addN (lenL (itemsP z2)) (lenL (takeL (lenL [z4]) (dropL 0 [z4]))))
    (addN (lenL (itemsP z2)) (lenL (takeL (lenL [z4]) (dropL 0 [z4]))))) (fun z6 => bindO (boundO (some (.int .i64 1)) (addN (lenL (itemsP z2)) (lenL (takeL (lenL [z4]) (dropL 0
    [z4])))) z6) (fun z7 => chkO (okCells z5 1) (chkO (okU (.tup [.agg [.bool false, cellP z5 0, slO 1 1 (catL (takeL (lenL (itemsP z2)) (itemsP z2)) (takeL (lenL [z4]) (dropL 0
    [z4]))) 0 z7], .nilI])) (some (.tup [.agg [.bool false, cellP z5 0, slO 1 1 (catL (takeL (lenL (itemsP z2)) (itemsP z2)) (takeL (lenL [z4]) (dropL 0 [z4]))) 0 z7], .nilI],
    e)))))))))))))) := by kernel_rfl
theorem run57 (B : KB) {E : Type} (h : Handler E) (dep : Nat) (e : E) (x0 : PV) :
    runK (cfg0 B (fun _ => .cl)) fn57 (.cl) h dep [.cv x0] e =
    chkO (valO x0) (bindO (selO x0 0 6 true) (fun z1 => bindO (callO B .cl (.fn 76 []) [z1, .int .i64 (-200), .int .i64 200]) (fun z2 => bindO (pureO (.extract 0 (.c z2))) (fun z3 =>
    bindO (pureO (.extract 1 (.c z2))) (fun z4 => bindO (pureO (.bin .neq .iface true (.c z4) (.c .nilI))) (fun z5 => iteP z5 (bindO (pureO (.build [.bool false, .bool false, .nilS]
    [])) (fun z6 => chkO (okCells z6 3) (some (.tup [.agg [cellP z6 0, cellP z6 1, cellP z6 2], z4], e)))) (bindO (pureO (.bin .lss .num true (.c z3) (.c (.int .i64 0)))) (fun z7 =>
    iteP z7 (bindO (selO x0 2 1 false) (fun z8 => bindO (pureO (.len .slice (.c z8))) (fun z9 => bindO (pureO (.bin .add .num false (.c z9) (.c z3))) (fun z10 => bindO (pureO (.un .neg
    (.c z3))) (fun z11 => bindO (mkSO z11 z11) (fun z12 => chkO (noUndef [z10, nI z12, nI z12, .int .i64 0]) (loopL (fun z13 => bindO (pureO (.bin .lss .num false (.c (nth z13.1 3))
    (.c (nth z13.1 2)))) (fun z14 => iteP z14 (bindO (selO (nth z13.1 4) 1 1 false) (fun z15 => bindO (callO B .cl (.fn 26 []) [z15]) (fun z16 => bindO (natO (nth z13.1 3)) (fun z17 =>
    chkO (ltN z17 (natP (nth z13.1 1))) (bindO (setO 1 (itemsP (nth z13.1 8)) (addN 0 z17) 0 1 z16) (fun z18 => bindO (pureO (.bin .add .num false (.c (nth z13.1 0)) (.c (nth z13.1
    3)))) (fun z19 => bindO (bindO (pureO (.bin .geq .num true (.c z19) (.c (.int .i64 0)))) (fun z20 => iteP z20 (bindO (selO (nth z13.1 4) 2 1 false) (fun z21 => bindO (pureO (.len
    .slice (.c z21))) (fun z22 => bindO (pureO (.bin .lss .num false (.c z19) (.c z22))) (fun z23 => some z23)))) (some (.bool false)))) (fun z24 => iteP z24 (bindO (selO (nth z13.1 4)
    2 1 false) (fun z25 => bindO (pureO (.idxAddr 1 (.c z25) (.c z19))) (fun z26 => bindO (pureO (.load 1 false (.c z26))) (fun z27 => bindO (natO (nth z13.1 3)) (fun z28 => chkO (ltN
    z28 (natP (nth z13.1 1))) (bindO (setO 1 z18 (addN 0 z28) 0 1 z27) (fun z29 => bindO (pureO (.bin .add .num true (.c (nth z13.1 3)) (.c (.int .i64 1)))) (fun z30 => some (.inl
    ([nth z13.1 0, nI (natP (nth z13.1 1)), nth z13.1 2, z30, nth z13.1 4, nth z13.1 5, nth z13.1 6, nth z13.1 7, .sl 1 z29 false], z13.2)))))))))) (bindO (pureO (.bin .add .num true
    (.c (nth z13.1 3)) (.c (.int .i64 1)))) (fun z31 => some (.inl ([nth z13.1 0, nI (natP (nth z13.1 1)), nth z13.1 2, z31, nth z13.1 4, nth z13.1 5, nth z13.1 6, nth z13.1 7, .sl 1
    z18 false], z13.2)))))))))))) (bindO (bindO (selO (nth z13.1 4) 0 3 true) (fun z32 => bindO (lendO B .cl false 51 [z32, slO 1 1 (itemsP (nth z13.1 8)) 0 (natP (nth z13.1 1))]) (fun
    z33 => chkO (okCells z33 3) (some (.tup [.agg [cellP z33 0, cellP z33 1, cellP z33 2], .nilI], z13.2))))) (fun z34 => some (.inr z34))))) ([z10, nI z12, nI z12, .int .i64 0, x0,
    .bool false, .bool false, .nilS, .sl 1 (replL z12 (.int .i64 0)) false], e)))))))) (bindO (mkSO z3 z3) (fun z35 => chkO (noUndef [.int .i64 0, nI z35, nI z35, .int .i64 0]) (loopL
    (fun z36 => bindO (pureO (.bin .lss .num false (.c (nth z36.1 3)) (.c (nth z36.1 2)))) (fun z37 => iteP z37 (bindO (selO (nth z36.1 4) 1 1 false) (fun z38 => bindO (callO B .cl
    (.fn 26 []) [z38]) (fun z39 => bindO (natO (nth z36.1 3)) (fun z40 => chkO (ltN z40 (natP (nth z36.1 1))) (bindO (setO 1 (itemsP (nth z36.1 8)) (addN 0 z40) 0 1 z39) (fun z41 =>
    bindO (pureO (.bin .add .num false (.c (nth z36.1 0)) (.c (nth z36.1 3)))) (fun z42 => bindO (bindO (pureO (.bin .geq .num true (.c z42) (.c (.int .i64 0)))) (fun z43 => iteP z43
    (bindO (selO (nth z36.1 4) 2 1 false) (fun z44 => bindO (pureO (.len .slice (.c z44))) (fun z45 => bindO (pureO (.bin .lss .num false (.c z42) (.c z45))) (fun z46 => some z46))))
    (some (.bool false)))) (fun z47 => iteP z47 (bindO (selO (nth z36.1 4) 2 1 false) (fun z48 => bindO (pureO (.idxAddr 1 (.c z48) (.c z42))) (fun z49 => bindO (pureO (.load 1 false
    (.c z49))) (fun z50 => bindO (natO (nth z36.1 3)) (fun z51 => chkO (ltN z51 (natP (nth z36.1 1))) (bindO (setO 1 z41 (addN 0 z51) 0 1 z50) (fun z52 => bindO (pureO (.bin .add .num
    true (.c (nth z36.1 3)) (.c (.int .i64 1)))) (fun z53 => some (.inl ([nth z36.1 0, nI (natP (nth z36.1 1)), nth z36.1 2, z53, nth z36.1 4, nth z36.1 5, nth z36.1 6, nth z36.1 7,
    .sl 1 z52 false], z36.2)))))))))) (bindO (pureO (.bin .add .num true (.c (nth z36.1 3)) (.c (.int .i64 1)))) (fun z54 => some (.inl ([nth z36.1 0, nI (natP (nth z36.1 1)), nth
    z36.1 2, z54, nth z36.1 4, nth z36.1 5, nth z36.1 6, nth z36.1 7, .sl 1 z41 false], z36.2)))))))))))) (bindO (bindO (selO (nth z36.1 4) 0 3 true) (fun z55 => bindO (lendO B .cl
    false 51 [z55, slO 1 1 (itemsP (nth z36.1 8)) 0 (natP (nth z36.1 1))]) (fun z56 => chkO (okCells z56 3) (some (.tup [.agg [cellP z56 0, cellP z56 1, cellP z56 2], .nilI],
    z36.2))))) (fun z57 => some (.inr z57))))) ([.int .i64 0, nI z35, nI z35, .int .i64 0, x0, .bool false, .bool false, .nilS, .sl 1 (replL z35 (.int .i64 0)) false], e)))))))))))) := by kernel_rfl
theorem run58 (B : KB) {E : Type} (h : Handler E) (dep : Nat) (e : E) (x0 : PV) :
    runK (cfg0 B (fun _ => .cl)) fn58 (.cl) h dep [.cv x0] e =
    chkO (valO x0) (bindO (selO x0 3 3 true) (fun z1 => bindO (callO B .cl (.fn 77 []) [z1]) (fun z2 => bindO (pureO (.extract 0 (.c z2))) (fun z3 => bindO (pureO (.extract 1 (.c z2)))
    (fun z4 => bindO (pureO (.bin .neq .iface true (.c z4) (.c .nilI))) (fun z5 => iteP z5 (bindO (pureO (.build [.bool false, .bool false, .nilS] [])) (fun z6 => chkO (okCells z6 3)
    (some (.tup [.agg [cellP z6 0, cellP z6 1, cellP z6 2], z4], e)))) (bindO (selO x0 2 1 false) (fun z7 => bindO (pureO (.len .slice (.c z7))) (fun z8 => bindO (pureO (.bin .geq .num
    true (.c z3) (.c (.int .i64 0)))) (fun z9 => iteP z9 (bindO (selO x0 0 3 true) (fun z10 => bindO (selO x0 0 3 true) (fun z11 => bindO (callO B (.own 1) (.fn 52 []) [z11]) (fun z12
    => bindO (pureO (.minmax false [.c z3, .c z8])) (fun z13 => bindO (boundO none (lenL (itemsP z12)) (lenL (itemsP z12))) (fun z14 => bindO (boundO none (lenL (itemsP z12)) z14) (fun
    z15 => bindO (boundO (some z13) 0 z15) (fun z16 => iteB (andB (eqN z15 z16) (ltN 0 z16)) (bindO (callO B .cl (.fn 51 []) [z10, .sl 1 [] false]) (fun z17 => chkO (okCells z17 3)
    (some (.tup [.agg [cellP z17 0, cellP z17 1, cellP z17 2], .nilI], e)))) (bindO (lendO B .cl false 51 [z10, slO 1 1 (itemsP z12) (addN 0 z16) (subN z15 z16)]) (fun z18 => chkO
    (okCells z18 3) (some (.tup [.agg [cellP z18 0, cellP z18 1, cellP z18 2], .nilI], e)))))))))))) (bindO (selO x0 0 3 true) (fun z19 => bindO (selO x0 0 3 true) (fun z20 => bindO
    (callO B (.own 1) (.fn 52 []) [z20]) (fun z21 => bindO (pureO (.un .neg (.c z8))) (fun z22 => bindO (pureO (.minmax true [.c z3, .c z22])) (fun z23 => bindO (pureO (.bin .add .num
    false (.c z8) (.c z23))) (fun z24 => bindO (pureO (.minmax true [.c z24, .c (.int .i64 0)])) (fun z25 => bindO (boundO none (lenL (itemsP z21)) (lenL (itemsP z21))) (fun z26 =>
    bindO (boundO (some z25) (lenL (itemsP z21)) z26) (fun z27 => bindO (lendO B .cl false 51 [z19, slO 1 1 (itemsP z21) 0 z27]) (fun z28 => chkO (okCells z28 3) (some (.tup [.agg
    [cellP z28 0, cellP z28 1, cellP z28 2], .nilI], e))))))))))))))))))))))) := by kernel_rfl
theorem run59 (B : KB) {E : Type} (h : Handler E) (dep : Nat) (e : E) (x0 : PV) :
    runK (cfg0 B (fun _ => .cl)) fn59 (.cl) h dep [.cv x0] e =
    chkO (valO x0) (bindO (selO x0 2 1 false) (fun z1 => bindO (pureO (.len .slice (.c z1))) (fun z2 => bindO (callO B .cl (.fn 60 []) [z2]) (fun z3 => chkO (okCells z3 3) (some (.tup
    [.agg [cellP z3 0, cellP z3 1, cellP z3 2], .nilI], e)))))) := by kernel_rfl
theorem run60 (B : KB) {E : Type} (h : Handler E) (dep : Nat) (e : E) (x0 : PV) :
    runK (cfg0 B (fun _ => .cl)) fn60 (.cl) h dep [.cv x0] e =
    chkO (okSls 1 [x0]) (chkO (okU (.agg [.bool false, .bool false, slO 1 1 [x0] 0 (lenL [x0])])) (some (.agg [.bool false, .bool false, slO 1 1 [x0] 0 (lenL [x0])], e))) := by kernel_rfl
theorem run61 (B : KB) {E : Type} (h : Handler E) (dep : Nat) (e : E) (x0 : PV) :
    runK (cfg0 B (fun _ => .cl)) fn61 (.cl) h dep [.cv x0] e =
    chkO (valO x0) (bindO (selO x0 3 3 true) (fun z1 => bindO (selO x0 0 3 true) (fun z2 => bindO (callO B .cl (.fn 18 []) [z1, z2]) (fun z3 => iteP z3 (bindO (callO B .cl (.fn 60 [])
    [.int .i64 0]) (fun z4 => chkO (okCells z4 3) (some (.tup [.agg [cellP z4 0, cellP z4 1, cellP z4 2], .nilI], e)))) (bindO (callO B .cl (.fn 60 []) [.int .i64 1]) (fun z5 => chkO
    (okCells z5 3) (some (.tup [.agg [cellP z5 0, cellP z5 1, cellP z5 2], .nilI], e)))))))) := by kernel_rfl
theorem run62 (B : KB) {E : Type} (h : Handler E) (dep : Nat) (e : E) (x0 : PV) (x1 : PV) :
    runK (cfg0 B (fun _ => .cl)) fn62 (.cl) h dep [.cv x0, .cv x1] e =
    bindO (callO B .cl (.fn 82 []) [x0, x1]) (fun z1 => bindO (pureO (.bin .geq .num true (.c z1) (.c (.int .i64 0)))) (fun z2 => some (z2, e))) := by kernel_rfl
theorem run63 (B : KB) {E : Type} (h : Handler E) (dep : Nat) (e : E) (x0 : PV) :
    runK (cfg0 B (fun _ => .cl)) fn63 (.cl) h dep [.cv x0] e =
    chkO (valO x0) (bindO (selO x0 0 3 true) (fun z1 => bindO (callO B .cl (.fn 16 []) [z1]) (fun z2 => bindO (pureO (.un .not (.c z2))) (fun z3 => some (z3, e))))) := by kernel_rfl
theorem run65 (B : KB) {E : Type} (h : Handler E) (dep : Nat) (e : E) (x0 : PV) (x1 : PV) :
    runK (cfg0 B (fun _ => .cl)) fn65 (.cl) h dep [.cv x0, .cv x1] e =
    bindO (pureO (.len .slice (.c x0))) (fun z1 => chkO (noUndef [x0, x1, z1, .int .i64 0]) (loopL (fun z2 => bindO (pureO (.bin .lss .num false (.c (nth z2.1 3)) (.c (nth z2.1 2))))
    (fun z3 => iteP z3 (bindO (pureO (.idxAddr 1 (.c (nth z2.1 0)) (.c (nth z2.1 3)))) (fun z4 => bindO (pureO (.load 1 false (.c z4))) (fun z5 => bindO (callO B .cl (nth z2.1 1) [z5])
    (fun z6 => iteP z6 (bindO (some (nth z2.1 3, z2.2)) (fun z7 => some (.inr z7))) (bindO (pureO (.bin .add .num true (.c (nth z2.1 3)) (.c (.int .i64 1)))) (fun z8 => some (.inl
    ([nth z2.1 0, nth z2.1 1, nth z2.1 2, z8], z2.2)))))))) (bindO (some (.int .i64 (-1), z2.2)) (fun z9 => some (.inr z9))))) ([x0, x1, z1, .int .i64 0], e))) := by kernel_rfl
theorem run66 (B : KB) {E : Type} (h : Handler E) (dep : Nat) (e : E) (x0 : PV) :
    runK (cfg0 B (fun _ => .cl)) fn66 (.cl) h dep [.cv x0] e =
    bindO (bindO (pureO (.bin .geq .num true (.c x0) (.c (.int .i64 0)))) (fun z1 => iteP z1 (bindO (pureO (.bin .leq .num true (.c x0) (.c (.int .i64 1114111)))) (fun z2 => iteP z2
    (bindO (pureO (.bin .lss .num true (.c x0) (.c (.int .i64 55296)))) (fun z3 => iteP z3 (some (.bool true)) (bindO (pureO (.bin .gtr .num true (.c x0) (.c (.int .i64 57343)))) (fun
    z4 => some z4)))) (some (.bool false)))) (some (.bool false)))) (fun z5 => some (z5, e)) := by kernel_rfl
theorem run67 (B : KB) {E : Type} (h : Handler E) (dep : Nat) (e : E) (x0 : PV) (x1 : PV) :
    runK (cfg0 B (fun _ => .cl)) fn67 (.cl) h dep [.cv x0, .cv x1] e =
    chkO (valO x1) (chkO (noUndef [x0, nI 0, .int .i64 0]) (loopL (fun z1 => bindO (pureO (.bin .lss .num false (.c (nth z1.1 2)) (.c (nth z1.1 0)))) (fun z2 => iteP z2 (bindO (selO
    (nth z1.1 3) 2 1 false) (fun z3 => bindO (selO (nth z1.1 3) 2 1 false) (fun z4 => bindO (pureO (.len .slice (.c z4))) (fun z5 => bindO (pureO (.bin .rem .num false (.c (nth z1.1
    2)) (.c z5))) (fun z6 => bindO (pureO (.idxAddr 1 (.c z3) (.c z6))) (fun z7 => bindO (pureO (.load 1 false (.c z7))) (fun z8 => chkO (okSls 1 [z8]) (chkO (leN (addN 0 (lenL [z8]))
    (lenL [z8])) (chkO (andB (leN (natP (nth z1.1 1)) (lenL (itemsP (nth z1.1 7)))) (leN (addN (natP (nth z1.1 1)) (lenL (takeL (lenL [z8]) (dropL 0 [z8])))) 2147483648)) (bindO (pureO
    (.bin .add .num true (.c (nth z1.1 2)) (.c (.int .i64 1)))) (fun z9 => some (.inl ([nth z1.1 0, nI (addN (natP (nth z1.1 1)) (lenL (takeL (lenL [z8]) (dropL 0 [z8])))), z9, nth
    z1.1 3, nth z1.1 4, nth z1.1 5, nth z1.1 6, .sl 1 (catL (takeL (natP (nth z1.1 1)) (itemsP (nth z1.1 7))) (takeL (lenL [z8]) (dropL 0 [z8]))) false], z1.2))))))))))))) (bindO
    (bindO (selO (nth z1.1 3) 1 1 false) (fun z10 => bindO (lendO B .cl false 38 [slO 1 1 (itemsP (nth z1.1 7)) 0 (natP (nth z1.1 1)), z10]) (fun z11 => chkO (okCells z11 3) (some
    (.agg [cellP z11 0, cellP z11 1, cellP z11 2], z1.2))))) (fun z12 => some (.inr z12))))) ([x0, nI 0, .int .i64 0, x1, .bool false, .bool false, .nilS, .sl 1 [] false], e))) := by kernel_rfl
theorem run68 (B : KB) {E : Type} (h : Handler E) (dep : Nat) (e : E) (x0 : PV) (x1 : PV) :
    runK (cfg0 B (fun _ => .cl)) fn68 (.cl) h dep [.cv x0, .cv x1] e =
    chkO (valO x1) (bindO (selO x1 2 1 false) (fun z1 => bindO (pureO (.len .slice (.c z1))) (fun z2 => chkO (noUndef [x0, nI 0, z2, .int .i64 0]) (loopL (fun z3 => bindO (pureO (.bin
    .lss .num false (.c (nth z3.1 3)) (.c (nth z3.1 2)))) (fun z4 => iteP z4 (bindO (selO (nth z3.1 4) 2 1 false) (fun z5 => bindO (pureO (.bin .rem .num false (.c (nth z3.1 0)) (.c
    (nth z3.1 2)))) (fun z6 => bindO (pureO (.bin .add .num false (.c z6) (.c (nth z3.1 3)))) (fun z7 => bindO (pureO (.bin .rem .num false (.c z7) (.c (nth z3.1 2)))) (fun z8 => bindO
    (pureO (.bin .add .num false (.c z8) (.c (nth z3.1 2)))) (fun z9 => bindO (pureO (.bin .rem .num false (.c z9) (.c (nth z3.1 2)))) (fun z10 => bindO (pureO (.idxAddr 1 (.c z5) (.c
    z10))) (fun z11 => bindO (pureO (.load 1 false (.c z11))) (fun z12 => chkO (okSls 1 [z12]) (chkO (leN (addN 0 (lenL [z12])) (lenL [z12])) (chkO (andB (leN (natP (nth z3.1 1)) (lenL
    (itemsP (nth z3.1 8)))) (leN (addN (natP (nth z3.1 1)) (lenL (takeL (lenL [z12]) (dropL 0 [z12])))) 2147483648)) (bindO (pureO (.bin .add .num true (.c (nth z3.1 3)) (.c (.int .i64
    1)))) (fun z13 => some (.inl ([nth z3.1 0, nI (addN (natP (nth z3.1 1)) (lenL (takeL (lenL [z12]) (dropL 0 [z12])))), nth z3.1 2, z13, nth z3.1 4, nth z3.1 5, nth z3.1 6, nth z3.1
    7, .sl 1 (catL (takeL (natP (nth z3.1 1)) (itemsP (nth z3.1 8))) (takeL (lenL [z12]) (dropL 0 [z12]))) false], z3.2))))))))))))))) (bindO (bindO (selO (nth z3.1 4) 0 1 false) (fun
    z14 => bindO (selO (nth z3.1 4) 1 1 false) (fun z15 => chkO (okCells z14 1) (chkO (okCells z15 1) (chkO (okU (.agg [cellP z14 0, cellP z15 0, slO 1 1 (itemsP (nth z3.1 8)) 0 (natP
    (nth z3.1 1))])) (some (.agg [cellP z14 0, cellP z15 0, slO 1 1 (itemsP (nth z3.1 8)) 0 (natP (nth z3.1 1))], z3.2))))))) (fun z16 => some (.inr z16))))) ([x0, nI 0, z2, .int .i64
    0, x1, .bool false, .bool false, .nilS, .sl 1 [] false], e))))) := by kernel_rfl
theorem run69 (B : KB) {E : Type} (h : Handler E) (dep : Nat) (e : E) (x0 : PV) (x1 : PV) :
    runK (cfg0 B (fun _ => .cl)) fn69 (.cl) h dep [.cv x0, .cv x1] e =
    chkO (valO x1) (bindO (pureO (.bin .lss .num true (.c x0) (.c (.int .i64 0)))) (fun z1 => iteP z1 (bindO (selO x1 2 1 false) (fun z2 => bindO (pureO (.len .slice (.c z2))) (fun z3
    => bindO (pureO (.bin .add .num false (.c z3) (.c x0))) (fun z4 => bindO (pureO (.un .neg (.c x0))) (fun z5 => chkO (noUndef [z5, nI 0, z4, z4]) (loopL (fun z6 => bindO (pureO
    (.bin .add .num false (.c (nth z6.1 2)) (.c (nth z6.1 0)))) (fun z7 => bindO (pureO (.bin .lss .num false (.c (nth z6.1 3)) (.c z7))) (fun z8 => iteP z8 (bindO (bindO (pureO (.bin
    .lss .num true (.c (nth z6.1 3)) (.c (.int .i64 0)))) (fun z9 => iteP z9 (some (.bool true)) (bindO (selO (nth z6.1 4) 2 1 false) (fun z10 => bindO (pureO (.len .slice (.c z10)))
    (fun z11 => bindO (pureO (.bin .geq .num false (.c (nth z6.1 3)) (.c z11))) (fun z12 => some z12)))))) (fun z13 => iteP z13 (bindO (selO (nth z6.1 4) 1 1 false) (fun z14 => bindO
    (callO B .cl (.fn 27 []) [z14]) (fun z15 => chkO (okSls 1 [z15]) (chkO (leN (addN 0 (lenL [z15])) (lenL [z15])) (chkO (andB (leN (natP (nth z6.1 1)) (lenL (itemsP (nth z6.1 8))))
    (leN (addN (natP (nth z6.1 1)) (lenL (takeL (lenL [z15]) (dropL 0 [z15])))) 2147483648)) (bindO (pureO (.bin .add .num true (.c (nth z6.1 3)) (.c (.int .i64 1)))) (fun z16 => some
    (.inl ([nth z6.1 0, nI (addN (natP (nth z6.1 1)) (lenL (takeL (lenL [z15]) (dropL 0 [z15])))), nth z6.1 2, z16, nth z6.1 4, nth z6.1 5, nth z6.1 6, nth z6.1 7, .sl 1 (catL (takeL
    (natP (nth z6.1 1)) (itemsP (nth z6.1 8))) (takeL (lenL [z15]) (dropL 0 [z15]))) false], z6.2))))))))) (bindO (selO (nth z6.1 4) 2 1 false) (fun z17 => bindO (pureO (.idxAddr 1 (.c
    z17) (.c (nth z6.1 3)))) (fun z18 => bindO (pureO (.load 1 false (.c z18))) (fun z19 => chkO (okSls 1 [z19]) (chkO (leN (addN 0 (lenL [z19])) (lenL [z19])) (chkO (andB (leN (natP
    (nth z6.1 1)) (lenL (itemsP (nth z6.1 8)))) (leN (addN (natP (nth z6.1 1)) (lenL (takeL (lenL [z19]) (dropL 0 [z19])))) 2147483648)) (bindO (pureO (.bin .add .num true (.c (nth
    z6.1 3)) (.c (.int .i64 1)))) (fun z20 => some (.inl ([nth z6.1 0, nI (addN (natP (nth z6.1 1)) (lenL (takeL (lenL [z19]) (dropL 0 [z19])))), nth z6.1 2, z20, nth z6.1 4, nth z6.1
    5, nth z6.1 6, nth z6.1 7, .sl 1 (catL (takeL (natP (nth z6.1 1)) (itemsP (nth z6.1 8))) (takeL (lenL [z19]) (dropL 0 [z19]))) false], z6.2)))))))))))) (bindO (bindO (selO (nth
    z6.1 4) 1 1 false) (fun z21 => bindO (lendO B .cl false 38 [slO 1 1 (itemsP (nth z6.1 8)) 0 (natP (nth z6.1 1)), z21]) (fun z22 => chkO (okCells z22 3) (some (.agg [cellP z22 0,
    cellP z22 1, cellP z22 2], z6.2))))) (fun z23 => some (.inr z23)))))) ([z5, nI 0, z4, z4, x1, .bool false, .bool false, .nilS, .sl 1 [] false], e))))))) (chkO (noUndef [x0, nI 0,
    .int .i64 0, .int .i64 0]) (loopL (fun z24 => bindO (pureO (.bin .add .num false (.c (nth z24.1 2)) (.c (nth z24.1 0)))) (fun z25 => bindO (pureO (.bin .lss .num false (.c (nth
    z24.1 3)) (.c z25))) (fun z26 => iteP z26 (bindO (bindO (pureO (.bin .lss .num true (.c (nth z24.1 3)) (.c (.int .i64 0)))) (fun z27 => iteP z27 (some (.bool true)) (bindO (selO
    (nth z24.1 4) 2 1 false) (fun z28 => bindO (pureO (.len .slice (.c z28))) (fun z29 => bindO (pureO (.bin .geq .num false (.c (nth z24.1 3)) (.c z29))) (fun z30 => some z30))))))
    (fun z31 => iteP z31 (bindO (selO (nth z24.1 4) 1 1 false) (fun z32 => bindO (callO B .cl (.fn 27 []) [z32]) (fun z33 => chkO (okSls 1 [z33]) (chkO (leN (addN 0 (lenL [z33])) (lenL
    [z33])) (chkO (andB (leN (natP (nth z24.1 1)) (lenL (itemsP (nth z24.1 8)))) (leN (addN (natP (nth z24.1 1)) (lenL (takeL (lenL [z33]) (dropL 0 [z33])))) 2147483648)) (bindO (pureO
    (.bin .add .num true (.c (nth z24.1 3)) (.c (.int .i64 1)))) (fun z34 => some (.inl ([nth z24.1 0, nI (addN (natP (nth z24.1 1)) (lenL (takeL (lenL [z33]) (dropL 0 [z33])))), nth
    z24.1 2, z34, nth z24.1 4, nth z24.1 5, nth z24.1 6, nth z24.1 7, .sl 1 (catL (takeL (natP (nth z24.1 1)) (itemsP (nth z24.1 8))) (takeL (lenL [z33]) (dropL 0 [z33]))) false],
    z24.2))))))))) (bindO (selO (nth z24.1 4) 2 1 false) (fun z35 => bindO (pureO (.idxAddr 1 (.c z35) (.c (nth z24.1 3)))) (fun z36 => bindO (pureO (.load 1 false (.c z36))) (fun z37
    => chkO (okSls 1 [z37]) (chkO (leN (addN 0 (lenL [z37])) (lenL [z37])) (chkO (andB (leN (natP (nth z24.1 1)) (lenL (itemsP (nth z24.1 8)))) (leN (addN (natP (nth z24.1 1)) (lenL
    (takeL (lenL [z37]) (dropL 0 [z37])))) 2147483648)) (bindO (pureO (.bin .add .num true (.c (nth z24.1 3)) (.c (.int .i64 1)))) (fun z38 => some (.inl ([nth z24.1 0, nI (addN (natP
    (nth z24.1 1)) (lenL (takeL (lenL [z37]) (dropL 0 [z37])))), nth z24.1 2, z38, nth z24.1 4, nth z24.1 5, nth z24.1 6, nth z24.1 7, .sl 1 (catL (takeL (natP (nth z24.1 1)) (itemsP
    (nth z24.1 8))) (takeL (lenL [z37]) (dropL 0 [z37]))) false], z24.2)))))))))))) (bindO (bindO (selO (nth z24.1 4) 1 1 false) (fun z39 => bindO (lendO B .cl false 38 [slO 1 1
    (itemsP (nth z24.1 8)) 0 (natP (nth z24.1 1)), z39]) (fun z40 => chkO (okCells z40 3) (some (.agg [cellP z40 0, cellP z40 1, cellP z40 2], z24.2))))) (fun z41 => some (.inr
    z41)))))) ([x0, nI 0, .int .i64 0, .int .i64 0, x1, .bool false, .bool false, .nilS, .sl 1 [] false], e))))) := by kernel_rfl
theorem run70 (B : KB) {E : Type} (h : Handler E) (dep : Nat) (e : E) (x0 : PV) (x1 : PV) :
    runK (cfg0 B (fun _ => .cl)) fn70 (.cl) h dep [.cv x0, .cv x1] e =
    chkO (valO x1) (bindO (selO x1 2 1 false) (fun z1 => bindO (pureO (.len .slice (.c z1))) (fun z2 => chkO (noUndef [x0, nI 0, z2, .int .i64 0]) (loopL (fun z3 => bindO (pureO (.bin
    .lss .num false (.c (nth z3.1 3)) (.c (nth z3.1 2)))) (fun z4 => iteP z4 (bindO (bindO (pureO (.bin .geq .num true (.c (nth z3.1 0)) (.c (.int .i64 0)))) (fun z5 => iteP z5 (bindO
    (pureO (.bin .geq .num false (.c (nth z3.1 3)) (.c (nth z3.1 0)))) (fun z6 => iteP z6 (some (.bool true)) (bindO (pureO (.bin .lss .num true (.c (nth z3.1 0)) (.c (.int .i64 0))))
    (fun z7 => iteP z7 (bindO (pureO (.bin .sub .num false (.c (nth z3.1 3)) (.c (nth z3.1 2)))) (fun z8 => bindO (pureO (.bin .lss .num false (.c z8) (.c (nth z3.1 0)))) (fun z9 =>
    some z9))) (some (.bool false)))))) (bindO (pureO (.bin .lss .num true (.c (nth z3.1 0)) (.c (.int .i64 0)))) (fun z10 => iteP z10 (bindO (pureO (.bin .sub .num false (.c (nth z3.1
    3)) (.c (nth z3.1 2)))) (fun z11 => bindO (pureO (.bin .lss .num false (.c z11) (.c (nth z3.1 0)))) (fun z12 => some z12))) (some (.bool false)))))) (fun z13 => iteP z13 (bindO
    (selO (nth z3.1 4) 2 1 false) (fun z14 => bindO (pureO (.idxAddr 1 (.c z14) (.c (nth z3.1 3)))) (fun z15 => bindO (pureO (.load 1 false (.c z15))) (fun z16 => chkO (okSls 1 [z16])
    (chkO (leN (addN 0 (lenL [z16])) (lenL [z16])) (chkO (andB (leN (natP (nth z3.1 1)) (lenL (itemsP (nth z3.1 8)))) (leN (addN (natP (nth z3.1 1)) (lenL (takeL (lenL [z16]) (dropL 0
    [z16])))) 2147483648)) (bindO (pureO (.bin .add .num true (.c (nth z3.1 3)) (.c (.int .i64 1)))) (fun z17 => some (.inl ([nth z3.1 0, nI (addN (natP (nth z3.1 1)) (lenL (takeL
    (lenL [z16]) (dropL 0 [z16])))), nth z3.1 2, z17, nth z3.1 4, nth z3.1 5, nth z3.1 6, nth z3.1 7, .sl 1 (catL (takeL (natP (nth z3.1 1)) (itemsP (nth z3.1 8))) (takeL (lenL [z16])
    (dropL 0 [z16]))) false], z3.2)))))))))) (bindO (pureO (.bin .add .num true (.c (nth z3.1 3)) (.c (.int .i64 1)))) (fun z18 => some (.inl ([nth z3.1 0, nI (natP (nth z3.1 1)), nth
    z3.1 2, z18, nth z3.1 4, nth z3.1 5, nth z3.1 6, nth z3.1 7, .sl 1 (itemsP (nth z3.1 8)) false], z3.2)))))) (bindO (bindO (selO (nth z3.1 4) 1 1 false) (fun z19 => bindO (lendO B
    .cl false 38 [slO 1 1 (itemsP (nth z3.1 8)) 0 (natP (nth z3.1 1)), z19]) (fun z20 => chkO (okCells z20 3) (some (.agg [cellP z20 0, cellP z20 1, cellP z20 2], z3.2))))) (fun z21 =>
    some (.inr z21))))) ([x0, nI 0, z2, .int .i64 0, x1, .bool false, .bool false, .nilS, .sl 1 [] false], e))))) := by kernel_rfl
theorem run75 (B : KB) {E : Type} (h : Handler E) (dep : Nat) (e : E) (x0 : PV) :
    runK (cfg0 B (fun _ => .cl)) fn75 (.cl) h dep [.cv x0] e =
    bindO (pureO (.build [.bool false, .bool false, .nilS] [(0, (1, .c (.bool true))), (2, (1, .c x0))])) (fun z1 => chkO (okCells z1 3) (some (.agg [cellP z1 0, cellP z1 1, cellP z1
    2], e))) := by kernel_rfl
theorem run76 (B : KB) {E : Type} (h : Handler E) (dep : Nat) (e : E) (x0 : PV) (x1 : PV) (x2 : PV) :
    runK (cfg0 B (fun _ => .cl)) fn76 (.cl) h dep [.cv x0, .cv x1, .cv x2] e =
    chkO (valO x0) (bindO (selO x0 3 3 true) (fun z1 => bindO (callO B .cl (.fn 77 []) [z1]) (fun z2 => bindO (pureO (.extract 0 (.c z2))) (fun z3 => bindO (pureO (.extract 1 (.c z2)))
    (fun z4 => bindO (bindO (pureO (.bin .eql .iface true (.c z4) (.c .nilI))) (fun z5 => iteP z5 (bindO (pureO (.bin .lss .num false (.c z3) (.c x1))) (fun z6 => iteP z6 (some (.bool
    true)) (bindO (pureO (.bin .gtr .num false (.c z3) (.c x2))) (fun z7 => some z7)))) (some (.bool false)))) (fun z8 => iteP z8 (bindO (pureO (.build [.int .i64 0] [(0, (1, .c (.int
    .i64 113)))])) (fun z9 => some (.tup [z3, .iface 72 z9], e))) (some (.tup [z3, z4], e)))))))) := by kernel_rfl
theorem run77 (B : KB) {E : Type} (h : Handler E) (dep : Nat) (e : E) (x0 : PV) :
    runK (cfg0 B (fun _ => .cl)) fn77 (.cl) h dep [.cv x0] e =
    chkO (valO x0) (bindO (selO x0 2 1 false) (fun z1 => bindO (pureO (.len .slice (.c z1))) (fun z2 => bindO (pureO (.bin .neq .num true (.c z2) (.c (.int .i64 1)))) (fun z3 => iteP
    z3 (bindO (pureO (.build [.int .i64 0] [(0, (1, .c (.int .i64 111)))])) (fun z4 => some (.tup [.int .i64 0, .iface 72 z4], e))) (bindO (selO x0 1 1 false) (fun z5 => iteP z5 (bindO
    (pureO (.build [.int .i64 0] [(0, (1, .c (.int .i64 102)))])) (fun z6 => some (.tup [.int .i64 0, .iface 72 z6], e))) (bindO (selO x0 2 1 false) (fun z7 => bindO (pureO (.idxAddr 1
    (.c z7) (.c (.int .i64 0)))) (fun z8 => bindO (pureO (.load 1 false (.c z8))) (fun z9 => some (.tup [z9, .nilI], e))))))))))) := by kernel_rfl
theorem run78 (B : KB) {E : Type} (h : Handler E) (dep : Nat) (e : E) (x0 : PV) (x1 : PV) :
    runK (cfg0 B (fun _ => .cl)) fn78 (.cl) h dep [.cv x0, .cv x1] e =
    bindO (pureO (.len .slice (.c x0))) (fun z1 => chkO (noUndef [x0, x1, z1, .int .i64 0]) (loopL (fun z2 => bindO (pureO (.bin .lss .num false (.c (nth z2.1 3)) (.c (nth z2.1 2))))
    (fun z3 => iteP z3 (bindO (pureO (.idxAddr 1 (.c (nth z2.1 0)) (.c (nth z2.1 3)))) (fun z4 => bindO (pureO (.load 1 false (.c z4))) (fun z5 => bindO (pureO (.bin .eql .num false
    (.c (nth z2.1 1)) (.c z5))) (fun z6 => iteP z6 (bindO (some (nth z2.1 3, z2.2)) (fun z7 => some (.inr z7))) (bindO (pureO (.bin .add .num true (.c (nth z2.1 3)) (.c (.int .i64
    1)))) (fun z8 => some (.inl ([nth z2.1 0, nth z2.1 1, nth z2.1 2, z8], z2.2)))))))) (bindO (some (.int .i64 (-1), z2.2)) (fun z9 => some (.inr z9))))) ([x0, x1, z1, .int .i64 0],
    e))) := by kernel_rfl
theorem run79 (B : KB) {E : Type} (h : Handler E) (dep : Nat) (e : E) (x0 : PV) :
    runK (cfg0 B (fun _ => .cl)) fn79 (.cl) h dep [.cv x0] e =
    chkO (valO x0) (bindO (bindO (selO x0 1 1 false) (fun z1 => iteP z1 (bindO (selO x0 2 1 false) (fun z2 => bindO (pureO (.len .slice (.c z2))) (fun z3 => bindO (pureO (.bin .gtr
    .num true (.c z3) (.c (.int .i64 0)))) (fun z4 => some z4)))) (some (.bool false)))) (fun z5 => some (z5, e))) := by kernel_rfl
theorem run80 (B : KB) {E : Type} (h : Handler E) (dep : Nat) (e : E) (x0 : PV) :
    runK (cfg0 B (fun _ => .cl)) fn80 (.own 1) h dep [.cv x0] e =
    bindO (pureO (.len .slice (.c x0))) (fun z1 => chkO (noUndef [x0, .int .i64 0, x0, z1, .int .i64 0]) (loopL (fun z2 => bindO (pureO (.bin .lss .num false (.c (nth z2.1 4)) (.c (nth
    z2.1 3)))) (fun z3 => iteP z3 (bindO (pureO (.idxAddr 1 (.c (nth z2.1 2)) (.c (nth z2.1 4)))) (fun z4 => bindO (pureO (.load 1 false (.c z4))) (fun z5 => bindO (pureO (.len .slice
    (.c z5))) (fun z6 => bindO (pureO (.bin .add .num false (.c (nth z2.1 1)) (.c z6))) (fun z7 => bindO (pureO (.bin .lss .num true (.c z7) (.c (.int .i64 0)))) (fun z8 => iteP z8
    none (bindO (pureO (.bin .add .num true (.c (nth z2.1 4)) (.c (.int .i64 1)))) (fun z9 => some (.inl ([nth z2.1 0, z7, nth z2.1 2, nth z2.1 3, z9], z2.2)))))))))) (bindO (bindO
    (callO B (.own 1) (.fn 90 []) [.nilS, nth z2.1 1]) (fun z10 => bindO (pureO (.len .slice (.c (nth z2.1 0)))) (fun z11 => chkO (noUndef [nI (lenL (itemsP z10)), nth z2.1 0, z11,
    .int .i64 0]) (loopL (fun z12 => bindO (pureO (.bin .lss .num false (.c (nth z12.1 3)) (.c (nth z12.1 2)))) (fun z13 => iteP z13 (bindO (pureO (.idxAddr 1 (.c (nth z12.1 1)) (.c
    (nth z12.1 3)))) (fun z14 => bindO (pureO (.load 1 false (.c z14))) (fun z15 => bindO (elemsO 1 z15) (fun z16 => chkO (andB (leN (natP (nth z12.1 0)) (lenL (itemsP (nth z12.1 4))))
    (leN (addN (natP (nth z12.1 0)) (lenL z16)) 2147483648)) (bindO (pureO (.bin .add .num true (.c (nth z12.1 3)) (.c (.int .i64 1)))) (fun z17 => some (.inl ([nI (addN (natP (nth
    z12.1 0)) (lenL z16)), nth z12.1 1, nth z12.1 2, z17, .sl 1 (catL (takeL (natP (nth z12.1 0)) (itemsP (nth z12.1 4))) z16) false], z12.2)))))))) (bindO (chkO (eqN (natP (nth z12.1
    0)) (lenL (itemsP (nth z12.1 4)))) (some (.sl 1 (itemsP (nth z12.1 4)) false, z12.2))) (fun z18 => some (.inr z18))))) ([nI (lenL (itemsP z10)), nth z2.1 0, z11, .int .i64 0, .sl 1
    (itemsP z10) false], z2.2))))) (fun z19 => some (.inr z19))))) ([x0, .int .i64 0, x0, z1, .int .i64 0], e))) := by kernel_rfl
theorem run81 (B : KB) (x0 : PV) (x1 : PV) :
    runIoK (cfg0 B (fun _ => .cl)) fn81 sh81 [x0, x1] =
    bindO (pureO (.bin .sub .num true (.c (nI (natP (nth [x0, x1] 0)))) (.c (.int .i64 1)))) (fun z1 => chkO (noUndef [nI (natP (nth [x0, x1] 0)), .int .i64 0, z1]) (loopL (fun z2 =>
    bindO (pureO (.bin .lss .num false (.c (nth z2.1 1)) (.c (nth z2.1 2)))) (fun z3 => iteP z3 (bindO (natO (nth z2.1 2)) (fun z4 => chkO (ltN z4 (natP (nth z2.1 0))) (bindO (elemO
    (itemsP (nth z2.1 3)) (addN 0 z4) 0 1 false) (fun z5 => bindO (natO (nth z2.1 1)) (fun z6 => chkO (ltN z6 (natP (nth z2.1 0))) (bindO (elemO (itemsP (nth z2.1 3)) (addN 0 z6) 0 1
    false) (fun z7 => bindO (natO (nth z2.1 1)) (fun z8 => chkO (ltN z8 (natP (nth z2.1 0))) (bindO (setO 1 (itemsP (nth z2.1 3)) (addN 0 z8) 0 1 z5) (fun z9 => bindO (natO (nth z2.1
    2)) (fun z10 => chkO (ltN z10 (natP (nth z2.1 0))) (bindO (setO 1 z9 (addN 0 z10) 0 1 z7) (fun z11 => bindO (pureO (.bin .add .num true (.c (nth z2.1 1)) (.c (.int .i64 1)))) (fun
    z12 => bindO (pureO (.bin .sub .num true (.c (nth z2.1 2)) (.c (.int .i64 1)))) (fun z13 => some (.inl ([nI (natP (nth z2.1 0)), z12, z13, .sl 1 z11 false], z2.2)))))))))))))))))
    (bindO (some [.sl 1 (itemsP (nth z2.1 3)) false]) (fun z14 => some (.inr z14))))) ([nI (natP (nth [x0, x1] 0)), .int .i64 0, z1, .sl 1 (itemsP (nth [x0, x1] 1)) false], ()))) := by kernel_rfl
theorem run82 (B : KB) {E : Type} (h : Handler E) (dep : Nat) (e : E) (x0 : PV) (x1 : PV) :
    runK (cfg0 B (fun _ => .cl)) fn82 (.cl) h dep [.cv x0, .cv x1] e =
    bindO (pureO (.len .slice (.c x0))) (fun z1 => chkO (noUndef [x0, x1, z1, .int .i64 0]) (loopL (fun z2 => bindO (pureO (.bin .lss .num false (.c (nth z2.1 3)) (.c (nth z2.1 2))))
    (fun z3 => iteP z3 (bindO (pureO (.idxAddr 3 (.c (nth z2.1 0)) (.c (nth z2.1 3)))) (fun z4 => bindO (pureO (.load 3 true (.c z4))) (fun z5 => bindO (callO B .cl (nth z2.1 1) [z5])
    (fun z6 => iteP z6 (bindO (some (nth z2.1 3, z2.2)) (fun z7 => some (.inr z7))) (bindO (pureO (.bin .add .num true (.c (nth z2.1 3)) (.c (.int .i64 1)))) (fun z8 => some (.inl
    ([nth z2.1 0, nth z2.1 1, nth z2.1 2, z8], z2.2)))))))) (bindO (some (.int .i64 (-1), z2.2)) (fun z9 => some (.inr z9))))) ([x0, x1, z1, .int .i64 0], e))) := by kernel_rfl
end Go.Ab

