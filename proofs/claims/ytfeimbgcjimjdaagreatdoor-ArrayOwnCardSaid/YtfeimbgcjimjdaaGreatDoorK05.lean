/-
  Part 5 of a proof: a machine of our own for the given program, its laws, and what it says of the program. Nothing here is a claim by itself.
-/
import Derived.Test.YtfeimbgcjimjdaaGreatDoorK04
import Derived.Test.YtfeimbgcjimjdaaGreatDoorK03
import Derived.Test.YtfeimbgcjimjdaaGreatDoorProg
import Derived.Test.YtfeimbgcjimjdaaGreatDoorK01
import Derived.KernelRfl
import Derived.IntWalk
import Derived.Lib.Replace
import Derived.Lib.ItoaNum
import Derived.WalkKit
import Derived.Test.YtfeimbgcjimjdaaGreatDoorK02
import Derived.Lib.Builder
import Derived.Lib.UnsafeStr
import Derived.Lib.Bytealg
import Derived.Lib.AppendZerosOnto
import Derived.Lib.Walk
import Derived.Lib.SliceRun
import Derived.Laws.Externs
import Derived.Shelf.RegionOpenPlain
import Derived.Shelf.Strings.Replace
import Derived.Shelf.Strconv.Itoa4
import Derived.Lib.Strings
import Derived.LaidEql
import Derived.Stop.Asserts
import Derived.RowKitTokens
import Derived.Lib.AppendIntMem
import Derived.Lib.CountLaws
set_option linter.all false

namespace Go.Ab
variable {cfg : KCfg} {tab : FuncId → Option RFn}
theorem exec_pure {d : Nat} {σ : Nm → Option Ob} {T : List PV} {op : ROp} (hp : pureOp op = true) {out : Out} (h : exec d σ T op = some out) : out = { v := out.v } := by
  have hm : ∀ {x : Option PV}, (x.map fun v => ({ v := v } : Out)) = some out → out = { v := out.v } := by
    intro x hx
    obtain ⟨v, _, rfl⟩ := Option.map_eq_some_iff.1 hx
    rfl
  have hcm : ∀ {b : Bool} {x : Option PV}, chk b (x.map fun v => ({ v := v } : Out)) = some out → out = { v := out.v } := by
    intro b x hx
    exact hm (chk_inv hx).2
  have hc : ∀ {b : Bool} {v : PV}, chk b (some ({ v := v } : Out)) = some out → out = { v := out.v } := by
    intro b v hx
    obtain ⟨_, hx⟩ := chk_inv hx
    cases hx; rfl
  cases op with
  | box | alloc | mkSl | store | mkF | mkMap | insert | mkS | append | copy | call | iter | next | bad => simp [pureOp] at hp
  | mov x => cases h; rfl
  | mkI t x => cases h; rfl
  | bin op c cst x y => exact hm h
  | slice k x lo hi mx => exact hm h
  | len c x =>
    simp only [exec] at h
    obtain ⟨n, _, rfl⟩ := Option.map_eq_some_iff.1 h
    rfl
  | pick c a b | conv k x | ofRune x | strId x | un op x | nilck x => simp only [exec] at h; split at h <;> first | (cases h; rfl) | cases h
  | build z ps => simp only [exec] at h; split at h <;> first | (cases h; rfl) | cases h
  | toBytes x => simp only [exec] at h; split at h <;> first | exact hc h | cases h
  | field off n ag x => simp only [exec] at h; split at h <;> first | exact hm h | cases h
  | fieldAddr off x => simp only [exec] at h; split at h <;> first | exact hc h | (cases h; rfl) | cases h
  | idxAddrA k l x i => simp only [exec] at h; split at h <;> first | exact hc h | cases h
  | ofBytes x | strIdx x i | extract j x | minmax mx xs | idxAddr k x i | strSlice x lo hi =>
    simp only [exec] at h
    split at h
    all_goals first
      | (cases h; done)
      | exact hc h
      | (obtain ⟨n, _, rfl⟩ := Option.map_eq_some_iff.1 h; rfl)
      | (split at h
         all_goals first
           | (cases h; done)
           | exact hc h
           | (cases h; rfl)
           | (split at h
              all_goals first
                | (cases h; done)
                | (cases h; rfl)))
  | tassert t z ok x =>
    simp only [exec] at h
    split at h
    · split at h
      · cases h; rfl
      · exact hc h
    · exact hc h
    · cases h
  | lookup c z ok x k =>
    simp only [exec] at h
    split at h
    · cases h
    · split at h
      · cases h
      · exact hc h
  | load n ag x =>
    simp only [exec] at h
    split at h
    · split at h
      · exact hm h
      · cases h
    · exact hm h
    · split at h
      · split at h
        · exact hcm h
        · cases h
      · cases h
    · cases h
theorem apply_plain (st : St) (dst : Option Nat) (v : PV) : apply st dst { v } = bset dst v [] st := by
  rw [apply_eq]; simp [bkill, bupd, bgone, bturn, bext, newAtO]
theorem pure_runs {M : Mach} {E : Type} {h : Handler E} {dep : Nat} {ops : List ROper} : ∀ (l : List ROper), (∀ o ∈ l, pureOp o.op = true) → ∀ {st st' : St} {e e' : E}, runOps M h dep ops l st e = some (st', e') →
    e' = e ∧ st'.objs = st.objs ∧ st'.keep = st.keep ∧ st'.tmps.length = st.tmps.length ∧ ∀ i, i ∉ l.filterMap (·.dst) → st'.tmps[i]? = st.tmps[i]? := by
  intro l
  induction l with
  | nil => intro _ st st' e e' h; cases h; exact ⟨rfl, rfl, rfl, rfl, fun _ _ => rfl⟩
  | cons o rest ih =>
    intro hp st st' e e' h
    simp only [runOps] at h
    split at h
    case h_2 => cases h
    rename_i s1 e1 hs
    have hone : e1 = e ∧ ∃ v, s1 = bset o.dst v [] st := by
      unfold stepG at hs
      split at hs
      · unfold stepOp at hs
        split at hs
        · rename_i out e2 ho
          cases hs
          unfold outOf at ho
          obtain ⟨_, ho⟩ := chk_inv ho
          have hpo := hp o (by simp)
          split at ho
          · rename_i f args hop; rw [hop] at hpo; simp [pureOp] at hpo
          · split at ho
            · rename_i out' hx
              cases ho
              have := exec_pure hpo hx
              refine ⟨rfl, out.v, ?_⟩
              rw [this, apply_plain]
            · cases ho
        · cases hs
      · cases hs; exact ⟨rfl, _, apply_plain _ _ _⟩
      · cases hs
    obtain ⟨rfl, v, rfl⟩ := hone
    obtain ⟨a, b, c, d, f⟩ := ih (fun o' ho' => hp o' (by simp [ho'])) h
    refine ⟨a, ?_, ?_, ?_, ?_⟩
    · rw [b]; cases o.dst <;> rfl
    · rw [c]; cases o.dst <;> rfl
    · rw [d]; cases o.dst <;> simp [bset]
    · intro i hi
      have hi' : i ∉ rest.filterMap (·.dst) := fun hm => hi (by
        simp only [List.mem_filterMap] at hm ⊢
        obtain ⟨o', ho', hd⟩ := hm
        exact ⟨o', by simp [ho'], hd⟩)
      rw [f i hi']
      cases hd : o.dst with
      | none => rfl
      | some t =>
        have hne : t ≠ i := fun e => hi (by
          simp only [List.mem_filterMap]
          exact ⟨o, by simp, by rw [hd, e]⟩)
        simp only [bset]
        rw [List.getElem?_set_ne hne]
theorem tidy_congr {st st' : St} (h1 : st'.objs = st.objs) (h2 : st'.keep = st.keep) (hl : st'.tmps.length = st.tmps.length) {l : List Nat} (h3 : ∀ i, i ∈ l → st'.tmps[i]? = st.tmps[i]?) : tidy (some l) st' = tidy (some l) st := by
  have : keepOnly l st' = keepOnly l st := by
    unfold keepOnly
    obtain ⟨t', o', k'⟩ := st'
    obtain ⟨t, o, k⟩ := st
    simp only at h1 h2 hl h3
    subst h1; subst h2
    have hl : t'.length = t.length := hl
    congr 1
    show (t'.zipIdx.map fun (x : PV × Nat) => if l.contains x.2 then x.1 else .undef) = t.zipIdx.map fun (x : PV × Nat) => if l.contains x.2 then x.1 else .undef
    apply List.ext_getElem?
    intro i
    rw [List.getElem?_map, List.getElem?_map, List.getElem?_zipIdx, List.getElem?_zipIdx]
    by_cases hi : i ∈ l
    · rw [h3 i hi]
    · by_cases hlt : i < t.length
      · rw [List.getElem?_eq_getElem hlt, List.getElem?_eq_getElem (by omega)]
        simp [hi]
      · rw [List.getElem?_eq_none (by omega), List.getElem?_eq_none (by omega)]
  unfold tidy
  simp only [this]
theorem kdrop_ok {k0 ks : KSt} (h : ks.Ok) : (kdrop k0 ks).Ok ∧ (kdrop k0 ks).nt = ks.nt := by
  unfold kdrop
  obtain ⟨h1, h2⟩ := kkeep_st h (spHas k0.tmps)
  obtain ⟨h3, h4, h5⟩ := kclean_st h2 (kunnamed { ks with tmps := spKeep (spHas k0.tmps) ks.tmps })
  exact ⟨h4, h5⟩
theorem ksetPs_ok {nt : Nat} : ∀ (ps : List Nat) (args : List PV) (i : Nat) {tm : Sp}, SpWf nt tm → (∀ p ∈ ps, p < nt) → okVL args = true → SpWf nt (ksetPs ps args i tm) := by
  intro ps
  induction ps with
  | nil => intro args i tm h _ _; exact h
  | cons p ps ih =>
    intro args i tm h hp ha
    simp only [ksetPs]
    refine ih args (i + 1) (h.put (hp p (by simp)) ?_ rfl) (fun q hq => hp q (by simp [hq])) ha
    show okV (nth args i) = true
    unfold nth
    rw [List.getD_eq_getElem?_getD]
    cases hg : args[i]? with
    | none => rfl
    | some v => exact okVL_get ha hg
theorem ksetPs_st {nt : Nat} : ∀ (ps : List Nat) (args : List PV) (i : Nat) {tm : Sp}, i + ps.length = args.length → dense nt (ksetPs ps args i tm) = setPs ps (args.drop i) (dense nt tm) := by
  intro ps
  induction ps with
  | nil => intro args i tm _; simp [ksetPs, setPs]
  | cons p ps ih =>
    intro args i tm hl
    simp only [List.length_cons] at hl
    have hd : args.drop i = args[i]'(by omega) :: args.drop (i + 1) := List.drop_eq_getElem_cons (by omega)
    rw [hd]
    simp only [ksetPs, setPs]
    rw [ih args (i + 1) (by omega), dense_put]
    have : nth args i = args[i]'(by omega) := by
      unfold nth; rw [List.getD_eq_getElem?_getD, List.getElem?_eq_getElem (by omega)]; rfl
    rw [← this]
    rfl
theorem konEx_some {R : Type} {r : R} {K : Nat → Option R} : ∀ {l : List Nat} {p : Option Ex}, konEx l p K = some r → ∃ id, p = some (.exit id) ∧ K id = some r := by
  intro l
  induction l with
  | nil => intro p h; cases h
  | cons id l ih =>
    intro p h
    simp only [konEx] at h
    rcases iteB_some h with ⟨h1, h2⟩ | ⟨_, h2⟩
    · refine ⟨id, ?_, h2⟩
      unfold isExitE at h1
      split at h1
      · rename_i id'; rw [Nat.eq_of_beq_eq_true h1]
      · cases h1
    · exact ih h2
def sp_dense (sp : Sp) (k3 : KSt) : List PV := dense k3.nt sp
theorem evalK_ok (hc : CfgOK cfg tab) : ∀ (c : RCode) {E R : Type} {h : Handler E} {hn : Nat → Handler E} (_ : HOk h hn) (dep : Nat) {ks : KSt} {e : E} {K : Ex → KSt → E → Option R} {r : R}, ks.Ok → evalK cfg c h dep ks e K = some r →
    ∃ x k' e', K x k' e' = some r ∧ k'.Ok ∧ Evl fun n => evalC (machN cfg.b.sp tab n) n c (hn n) dep ks.st e = some (x, k'.st, e') := by
  intro c
  induction c with
  | skip => intro E R h hn hh dep ks e K r hk hr; exact ⟨_, _, _, hr, hk, .of fun n => rfl⟩
  | region ops dr lv =>
    intro E R h hn hh dep ks e K r hk hr
    obtain ⟨c1, c2, _⟩ := kclean_st hk (dsts ops)
    cases dr with
    | none =>
      simp only [evalK] at hr
      rw [force_eq] at hr
      split at hr
      · rename_i t hslot
        obtain ⟨z, hz, hr⟩ := bindO_some hr
        rw [force_eq] at hr
        obtain ⟨k1, e1, hz2, hk1, h1⟩ := kruns_ok (dep := dep) hc hh ops c2 hz
        unfold condSlot at hslot
        split at hslot
        case isFalse => cases hslot
        rename_i hcond
        simp only [Bool.and_eq_true] at hcond
        cases lv with
        | none => cases hslot
        | some l =>
        simp only at hslot
        split at hslot
        case h_2 => cases hslot
        rename_i t' hfil
        cases hslot
        have hpure : ∀ o ∈ ops, pureOp o.op = true := List.all_eq_true.1 hcond.2
        have hzok : okV z = true := KV.cl_ok (hk1.tm.get_ok t) hz2
        have htlt : t < k1.nt := by
          apply Classical.byContradiction
          intro hlt
          rw [hk1.tm.get_ge (by omega)] at hz2; cases hz2
        obtain ⟨m, hm⟩ := h1
        have hm0 := hm m (Nat.le_refl _)
        obtain ⟨rfl, p2, p3, p4, p5⟩ := pure_runs ops hpure hm0
        have hnt : k1.nt = (kclean (dsts ops) ks).nt := by
          have : k1.st.tmps.length = (kclean (dsts ops) ks).st.tmps.length := p4
          have a1 : k1.st.tmps.length = k1.nt := dense_length _ _
          have a2 : (kclean (dsts ops) ks).st.tmps.length = (kclean (dsts ops) ks).nt := dense_length _ _
          omega
        have hput : ({ kclean (dsts ops) ks with tmps := spPut t (.cv z) (kclean (dsts ops) ks).tmps } : KSt).Ok := ⟨c2.tm.put (by omega) hzok rfl, c2.ob, c2.kp⟩
        obtain ⟨t1, t2⟩ := ktidy_st hput (some l)
        refine ⟨_, _, _, hr, t2, ⟨m, fun n hn' => ?_⟩⟩
        have hb := hm n hn'
        rw [c1] at hb
        simp only [evalC, hb, t1]
        have : tidy (some l) k1.st = tidy (some l) ({ kclean (dsts ops) ks with tmps := spPut t (.cv z) (kclean (dsts ops) ks).tmps } : KSt).st := by
          refine tidy_congr (st' := k1.st) (st := ({ kclean (dsts ops) ks with tmps := spPut t (.cv z) (kclean (dsts ops) ks).tmps } : KSt).st) p2 p3 ?_ fun i hi => ?_
          · rw [p4]
            show (dense _ _).length = (dense _ _).length
            rw [dense_length, dense_length]
          · show k1.st.tmps[i]? = (dense _ (spPut t (.cv z) _))[i]?
            rw [dense_put]
            by_cases hit : i = t
            · subst hit
              rw [List.getElem?_set_self (by rw [dense_length]; show i < (kclean (dsts ops) ks).nt; omega)]
              show (dense k1.nt k1.tmps)[i]? = _
              rw [dense_get?, if_pos htlt, KV.cl_pv hz2]
              rfl
            · rw [List.getElem?_set_ne (Ne.symm hit)]
              refine p5 i fun hmem => hit ?_
              have : i ∈ l.filter fun t => (ops.filterMap (·.dst)).contains t := List.mem_filter.2 ⟨hi, by simpa using hmem⟩
              rw [hfil] at this
              simpa using this
        rw [this]
      · obtain ⟨k1, e1, hr, hk1, h1⟩ := kruns_ok (dep := dep) hc hh ops c2 hr
        rw [force_eq] at hr
        obtain ⟨t1, t2⟩ := ktidy_st hk1 lv
        rw [c1] at h1
        exact ⟨_, _, _, hr, t2, h1.mono fun n hn' => by simp only [evalC, hn', t1]⟩
    | some bef =>
      simp only [evalK] at hr
      rw [force_eq] at hr
      obtain ⟨k1, e1, hr, hk1, h1⟩ := krunsD_ok (dep := dep) hc hh bef [] c2 hr
      rw [force_eq] at hr
      obtain ⟨t1, t2⟩ := ktidy_st hk1 lv
      rw [c1] at h1
      exact ⟨_, _, _, hr, t2, h1.mono fun n hn' => by simp only [evalC, hn', t1]⟩
  | seq a b iha ihb =>
    intro E R h hn hh dep ks e K r hk hr
    simp only [evalK] at hr
    obtain ⟨x, k1, e1, hr, hk1, h1⟩ := iha hh dep hk hr
    cases x with
    | normal =>
      obtain ⟨x2, k2, e2, hr, hk2, h2⟩ := ihb hh dep hk1 hr
      exact ⟨_, _, _, hr, hk2, h1.mono2 h2 fun n a b => by simp only [evalC, a, b]⟩
    | exit id => exact ⟨_, _, _, hr, hk1, h1.mono fun n a => by simp only [evalC, a]⟩
    | ret => exact ⟨_, _, _, hr, hk1, h1.mono fun n a => by simp only [evalC, a]⟩
  | cond c a b iha ihb =>
    intro E R h hn hh dep ks e K r hk hr
    simp only [evalK] at hr
    have hev := st_ev hk c
    split at hr
    · rename_i hv
      obtain ⟨x, k1, e1, hr, hk1, h1⟩ := iha hh dep hk hr
      exact ⟨_, _, _, hr, hk1, h1.mono fun n a => by simp only [evalC, hev, hv, KV.pv, a]⟩
    · rename_i hv
      obtain ⟨x, k1, e1, hr, hk1, h1⟩ := ihb hh dep hk hr
      exact ⟨_, _, _, hr, hk1, h1.mono fun n a => by simp only [evalC, hev, hv, KV.pv, a]⟩
    · rename_i v hv
      rcases iteP_some hr with ⟨rfl, hr⟩ | ⟨rfl, hr⟩
      · obtain ⟨x, k1, e1, hr, hk1, h1⟩ := iha hh dep hk hr
        exact ⟨_, _, _, hr, hk1, h1.mono fun n a => by simp only [evalC, hev, hv, KV.pv, a]⟩
      · obtain ⟨x, k1, e1, hr, hk1, h1⟩ := ihb hh dep hk hr
        exact ⟨_, _, _, hr, hk1, h1.mono fun n a => by simp only [evalC, hev, hv, KV.pv, a]⟩
    · cases hr
  | block id b ih =>
    intro E R h hn hh dep ks e K r hk hr
    simp only [evalK] at hr
    obtain ⟨x, k1, e1, hr, hk1, h1⟩ := ih hh dep hk hr
    cases x with
    | normal => exact ⟨_, _, _, hr, hk1, h1.mono fun n a => by simp only [evalC, a]⟩
    | ret => exact ⟨_, _, _, hr, hk1, h1.mono fun n a => by simp only [evalC, a]⟩
    | exit id' =>
      simp only at hr
      split at hr
      · rename_i hid; exact ⟨_, _, _, hr, hk1, h1.mono fun n a => by simp only [evalC, a, hid, if_true]⟩
      · rename_i hid; exact ⟨_, _, _, hr, hk1, h1.mono fun n a => by simp only [evalC, a, hid, if_false]⟩
  | loop asg grow b ih =>
    intro E R h hn hh dep ks e K r hk hr
    simp only [evalK] at hr
    obtain ⟨k0, hr, hk0, hnt0, hst0⟩ := knorm_st hk hr
    rw [force_eq] at hr
    obtain ⟨hU, hr⟩ := chkO_some hr
    split at hr
    · cases hr
    rename_i hself
    have hself : fitSt k0 k0 = true := by simpa using hself
    obtain ⟨m, hm⟩ := loopL_some hr
    have key : ∀ (m : Nat) (vs : List PV) (e : E), (fillSt k0 vs).Ok → repS (fun s : List PV × E => force (fillSt k0 s.1) fun ks => evalK cfg b h dep ks s.2 (onLoop asg grow k0 K)) m (vs, e) = some r →
        ∃ x k' e', K x k' e' = some r ∧ k'.Ok ∧ Evl fun n => ∀ j, m ≤ j → repeatN (loopStep (machN cfg.b.sp tab n) n asg grow b (hn n) dep (undefs k0.st)) j ((fillSt k0 vs).st, e) = some (x, k'.st, e') := by
      intro m
      induction m with
      | zero => intro vs e _ h0; cases h0
      | succ m ihm =>
        intro vs e hkv hm
        unfold repS at hm
        simp only at hm
        rw [force_eq] at hm
        cases hs : evalK cfg b h dep (fillSt k0 vs) e (onLoop asg grow k0 K) with
        | none =>
          rw [hs] at hm; cases hm
        | some q =>
          rw [hs] at hm
          obtain ⟨x, k1, e1, hq, hk1, h1⟩ := ih hh dep hkv hs
          have hother : ∀ y, y ≠ Ex.normal → x = y → (bindO (K y k1 e1) fun r => some (Sum.inr r)) = some q → ∃ x k' e', K x k' e' = some r ∧ k'.Ok ∧ Evl fun n => ∀ j, m + 1 ≤ j → repeatN (loopStep (machN cfg.b.sp tab n) n asg grow b (hn n) dep (undefs k0.st)) j ((fillSt k0 vs).st, e) = some (x, k'.st, e') := by
            intro y hy hxy hq
            obtain ⟨r', hr', hq⟩ := bindO_some hq
            cases hq
            cases hm
            refine ⟨y, k1, e1, hr', hk1, h1.mono fun n hn' j hj => ?_⟩
            obtain ⟨j, rfl⟩ : ∃ i, j = i + 1 := ⟨j - 1, by omega⟩
            rw [repeatN_eq]
            subst hxy
            cases x with
            | normal => exact absurd rfl hy
            | exit id => simp only [loopStep, hn', onStep]
            | ret => simp only [loopStep, hn', onStep]
          cases x with
          | exit id => exact hother (.exit id) (by simp) rfl hq
          | ret => exact hother .ret (by simp) rfl hq
          | normal =>
            unfold onLoop at hq; simp only at hq
            obtain ⟨d1, d2⟩ := kdrop_ok (k0 := k0) hk1
            obtain ⟨k2, hq, hk2, hnt2, hst2⟩ := knorm_st d1 hq
            rw [force_eq] at hq
            split at hq
            · rename_i hfit
              cases hq
              obtain ⟨f1, f2, f3, f4⟩ := fillSt_ok hfit hk0 hk2
              obtain ⟨g1, _, _⟩ := kdrop_st hk0 hU hk1 (by omega)
              obtain ⟨x3, k3, e3, hr3, hk3, h3⟩ := ihm _ _ f2 hm
              refine ⟨x3, k3, e3, hr3, hk3, h1.mono2 h3 fun n hn1 hn3 j hj => ?_⟩
              obtain ⟨j, rfl⟩ : ∃ i, j = i + 1 := ⟨j - 1, by omega⟩
              rw [repeatN_eq]
              have := hn3 j (by omega)
              rw [f1, hst2, g1] at this
              simp only [loopStep, hn1, onStep]
              exact this
            · cases hq
    obtain ⟨s1, s2, _, _⟩ := fillSt_ok (p := k0) (x := k0) hself hk0 hk0
    obtain ⟨x, k', e', hr', hk', hev⟩ := key m _ e s2 hm
    refine ⟨x, k', e', hr', hk', hev.diag.mono fun n hn' => ?_⟩
    rw [s1, hst0] at hn'
    rw [evalC_loop, hn']
  | rangeFunc f ps asg b iha ihb =>
    intro E R h hn hh dep ks e K r hk hr
    simp only [evalK] at hr
    split at hr
    case h_2 => cases hr
    rename_i fv hfv
    split at hr
    case isFalse => cases hr
    rename_i hps
    simp only [Bool.and_eq_true] at hps
    obtain ⟨⟨hps, hself⟩, hxf⟩ := hps
    have hpslt : ∀ p ∈ ps, p < ks.nt := fun p hp => by
      have := List.all_eq_true.1 hps p hp
      simpa [Nat.blt_eq] using this
    obtain ⟨⟨vs, p, e2⟩, hrange, hr2⟩ := bindO_some hr
    clear hr
    rw [force_eq] at hr2
    simp only at hr2
    unfold rangeO at hrange
    split at hrange
    case h_2 => cases hrange
    rename_i g cap
    split at hrange
    case h_2 => cases hrange
    rename_i rv obs rr hL
    cases hrange
    rw [hc.L] at hL
    obtain ⟨m, hm⟩ := lim_some hL
    have hm := hm m (Nat.le_refl _)
    obtain ⟨s1, s2, _, _⟩ := fillSt_ok (p := ks) (x := ks) hself hk hk
    obtain ⟨⟨st2, p2, e2'⟩, hre, hev⟩ := evalFn_par (sp := cfg.b.sp) (tab := tab) m (KRec E) (Rec E)
      (fun a b => a.2.1 = b.2.1 ∧ a.2.2 = b.2.2 ∧ (fillSt ks a.1).Ok ∧ (fillSt ks a.1).st = b.1) _ (fun n => rangeH (machN cfg.b.sp tab n) n asg b (hn n) dep ps) (by
        rintro l args ⟨vs, p, e⟩ ⟨s, p', e'⟩ ⟨h1, h2, h3, h4⟩ bb ⟨vs', q, e1⟩ hq
        simp only at h1 h2 h3 h4
        subst h1; subst h2; subst h4
        unfold onRound at hq
        unfold rangeH
        by_cases hl : l = dep
        · simp only [hl, if_true] at hq ⊢
          cases p with
          | some x => cases hq
          | none =>
            simp only at hq ⊢
            obtain ⟨hargs, hq⟩ := chkO_some hq
            unfold okArgs at hargs
            simp only [Bool.and_eq_true, beq_iff_eq] at hargs
            rw [force_eq, force_eq] at hq
            have hnt : (fillSt ks vs).nt = ks.nt := rfl
            have hk1 : ({ fillSt ks vs with tmps := ksetPs ps args 0 (fillSt ks vs).tmps, keep := (fillSt ks vs).tmps :: (fillSt ks vs).keep } : KSt).Ok :=
              ⟨ksetPs_ok ps args 0 h3.tm hpslt hargs.2, h3.ob, fun sp hsp => (List.mem_cons.1 hsp).elim (fun e => e ▸ h3.tm) (h3.kp sp)⟩
            have hk1st : ({ fillSt ks vs with tmps := ksetPs ps args 0 (fillSt ks vs).tmps, keep := (fillSt ks vs).tmps :: (fillSt ks vs).keep } : KSt).st = { (fillSt ks vs).st with tmps := setPs ps args (fillSt ks vs).st.tmps, keep := (fillSt ks vs).st.tmps ++ (fillSt ks vs).st.keep } := by
              unfold KSt.st
              simp only
              rw [ksetPs_st ps args 0 (by omega)]
              simp
            obtain ⟨x1, k2, e3, hq, hk2, ha⟩ := iha hh (dep + 1) hk1 hq
            cases x1 with
            | exit id => cases hq
            | ret => cases hq
            | normal =>
              simp only at hq
              obtain ⟨x2, k3, e4, hq, hk3, hb⟩ := ihb hh (dep + 1) hk2 hq
              split at hq
              case h_1 => cases hq
              rename_i sp kp hkeep
              rw [force_eq] at hq
              split at hq
              case isFalse => cases hq
              rename_i hfit
              cases hq
              have hk4 : ({ k3 with tmps := sp, keep := kp } : KSt).Ok := ⟨hk3.kp sp (by rw [hkeep]; simp), hk3.ob, fun q hq => hk3.kp q (by rw [hkeep]; simp [hq])⟩
              obtain ⟨f1, f2, f3, f4⟩ := fillSt_ok hfit hk hk4
              have f5 : ks.nt = k3.nt := f4
              refine ⟨({ tmps := sp_dense sp k3, objs := k3.st.objs, keep := kp.flatMap (dense k3.nt) }, exitOf x2, e1), ⟨rfl, rfl, f2, ?_⟩, ha.mono2 hb fun n hn1 hn2 => ?_⟩
              · rw [f1]; rfl
              · simp only [hargs.1, if_true]
                rw [← hk1st, hn1]
                simp only
                rw [hn2]
                simp only
                have hkp : k3.st.keep = dense k3.nt sp ++ kp.flatMap (dense k3.nt) := by
                  show k3.keep.flatMap (dense k3.nt) = _
                  rw [hkeep]; rfl
                have hlen : (fillSt ks vs).st.tmps.length = (dense k3.nt sp).length := by
                  show (dense ks.nt _).length = _
                  rw [dense_length, dense_length]; exact f5
                rw [hkp, hlen, List.take_left, List.drop_left]
                cases x2 <;> rfl
        · simp only [hl, if_false] at hq ⊢
          split at hq
          · rename_i b2 e3 h6
            cases hq
            exact ⟨_, ⟨rfl, rfl, h3, rfl⟩, (hh _ _ _ _ h6).mono fun n hn' => by rw [hn']⟩
          · cases hq) (dep + 1) g (.yld dep :: cap) (leavesSt ks ks, none, e) (ks.st, none, e) ⟨rfl, rfl, s2, s1⟩ rv obs _ hm
    simp only at hre
    obtain ⟨h1, h2, h3, h4⟩ := hre
    subst h1; subst h2; subst h4
    have hfe : f.ev ks.st.tmps = .fn g cap := by rw [st_ev hk, KV.cl_pv hfv]
    have hcap : (PV.fn g cap).names = [] := by
      exact (okV_iff (KV.cl_ok (kv_ok hk hxf) hfv)).1
    have hbase : Evl fun n => evalC (machN cfg.b.sp tab n) n (.rangeFunc f ps asg b) (hn n) dep ks.st e = some (p.getD .normal, (fillSt ks vs).st, e2) := hev.mono fun n hn' => by
      rw [evalC_rangeH, hfe]
      unfold freezeV
      rw [hcap]
      simp only [List.isEmpty_nil, if_true]
      simp only [machN, evalFn] at hn' ⊢
      rw [hn']
    rcases iteB_some hr2 with ⟨hp, hr2⟩ | ⟨_, hr2⟩
    · cases p with
      | some x => cases hp
      | none => exact ⟨_, _, _, hr2, h3, hbase⟩
    · rcases iteB_some hr2 with ⟨hp, hr2⟩ | ⟨_, hr2⟩
      · unfold isRetE at hp
        split at hp
        · exact ⟨_, _, _, hr2, h3, hbase⟩
        · cases hp
      · obtain ⟨id, hpe, hr3⟩ := konEx_some hr2
        subst hpe
        exact ⟨_, _, _, hr3, h3, hbase⟩
  | exit id => intro E R h hn hh dep ks e K r hk hr; exact ⟨_, _, _, hr, hk, .of fun n => rfl⟩
  | scope b ih =>
    intro E R h hn hh dep ks e K r hk hr
    simp only [evalK] at hr
    obtain ⟨x, k1, e1, hr, hk1, h1⟩ := ih hh dep hk hr
    cases x with
    | normal => exact ⟨_, _, _, hr, hk1, h1.mono fun n a => by simp only [evalC, a]⟩
    | ret => exact ⟨_, _, _, hr, hk1, h1.mono fun n a => by simp only [evalC, a]⟩
    | exit id' =>
      simp only at hr
      split at hr
      · rename_i hid; exact ⟨_, _, _, hr, hk1, h1.mono fun n a => by simp only [evalC, a, hid, if_true]⟩
      · cases hr
  | ret => intro E R h hn hh dep ks e K r hk hr; exact ⟨_, _, _, hr, hk, .of fun n => rfl⟩
  | norm g =>
    intro E R h hn hh dep ks e K r hk hr
    simp only [evalK] at hr
    obtain ⟨k', hr, hk', _, hst⟩ := knorm_st hk hr
    rw [force_eq] at hr
    exact ⟨_, _, _, hr, hk', .of fun n => by simp only [evalC, hst]⟩
  | bad => intro E R h hn hh dep ks e K r hk hr; cases hr
end Go.Ab


namespace Go.Ab
variable {cfg : KCfg} {tab : FuncId → Option RFn} {ks : KSt}
theorem kresV_ok {R : Type} {r : R} (h : ks.Ok) {x : RRes} {K : KV → Option R} (hr : kresV ks x K = some r) : ∃ v, K v = some r ∧ v.ok ∧ resV ks.st x = some v.pv := by
  have hget : ∀ t, ks.st.tmps.getD t .undef = (spGet ks.tmps t).pv := fun t => dense_getD h.tm t
  have lk := st_look h
  cases x with
  | tmp t => exact ⟨_, hr, h.tm.get_ok t, by simp only [resV, hget]⟩
  | cell t n ag =>
    simp only [kresV] at hr
    split at hr
    · rename_i nm o hv
      split at hr
      · rename_i cs hl
        have hcs : okKL cs := klook_ok h.ob hl
        split at hr
        · rename_i hag
          split at hr
          · rename_i hle
            refine ⟨_, hr, okKL_take (okKL_drop hcs _) _, ?_⟩
            simp only [resV, hget, hv, KV.pv, lk, hl, Option.map_some, KOb.ob, sel, hag, if_true, chk, pvL_length, hle, decide_true, pvL_take, pvL_drop]
          · cases hr
        · rename_i hag
          split at hr
          · rename_i c hc
            refine ⟨_, hr, okKL_mem.1 hcs c (List.mem_of_getElem? hc), ?_⟩
            simp only [resV, hget, hv, KV.pv, lk, hl, Option.map_some, KOb.ob, sel, hag, pvL_get?, hc]
            rfl
          · cases hr
      · rename_i w hl
        obtain ⟨z, hz, hr⟩ := bindO_some hr
        have hw : okV w = true := klook_ok h.ob hl
        unfold selO at hz
        refine ⟨_, hr, okV_sel (okV_cells hw) hz, ?_⟩
        simp only [resV, hget, hv, KV.pv, lk, hl, Option.map_some, KOb.ob, cellsP, hz]
      · cases hr
    · cases hr
theorem kresVs_ok {R : Type} {r : R} (h : ks.Ok) : ∀ (l : List RRes) {K : List KV → Option R}, kresVs ks l K = some r → ∃ vs, K vs = some r ∧ okKL vs ∧ resVs ks.st l = some (pvL vs) := by
  intro l
  induction l with
  | nil => intro K hr; exact ⟨[], hr, trivial, rfl⟩
  | cons x l ih =>
    intro K hr
    simp only [kresVs] at hr
    obtain ⟨v, hr, hv, h1⟩ := kresV_ok h hr
    obtain ⟨vs, hr, hvs, h2⟩ := ih hr
    exact ⟨v :: vs, hr, ⟨hv, hvs⟩, by simp only [resVs, h1, h2, pvL]⟩
theorem koneOf_ok {vs : List KV} (h : okKL vs) : (koneOf vs).ok ∧ (koneOf vs).pv = oneOf (pvL vs) := by
  match vs, h with
  | [], h => exact ⟨trivial, rfl⟩
  | [v], h => exact ⟨h.1, rfl⟩
  | v :: w :: vs, h => exact ⟨h, rfl⟩
theorem isZero_iff {o : Nat} : isZero o = true ↔ o = 0 := by cases o <;> simp [isZero]
def top1 : PV → List Nm
  | .arr nm _ 0 _ => [nm]
  | _ => []
def top2 : PV → List Nm
  | .arr nm _ 0 _ => [nm]
  | .agg cs => cs.flatMap top1
  | _ => []
def ktop1 : KV → List Nm
  | .arr nm _ o _ => if isZero o then [nm] else []
  | .wit nm => [nm]
  | _ => []
def ktop2 : KV → List Nm
  | .arr nm _ o _ => if isZero o then [nm] else []
  | .wit nm => [nm]
  | .agg cs => cs.flatMap ktop1
  | _ => []
theorem ktop1_ok {x : KV} (h : x.ok) : ktop1 x = top1 x.pv := by
  cases x with
  | arr nm k o n => cases o <;> rfl
  | cv v =>
    have hv : okV v = true := h
    cases v <;> first | rfl | simp [okV] at hv
  | _ => rfl
theorem top1_none {cs : List PV} (h : okVL cs = true) : cs.flatMap top1 = [] := by
  rw [List.flatMap_eq_nil_iff]
  intro x hx
  have := okVL_iff.1 h x hx
  cases x <;> first | rfl | simp [okV] at this
theorem flatMap_top1 {cs : List KV} (h : okKL cs) : cs.flatMap ktop1 = (pvL cs).flatMap top1 := by
  rw [pvL_map, List.flatMap_map]
  induction cs with
  | nil => rfl
  | cons x xs ih => simp only [List.flatMap_cons]; rw [ktop1_ok h.1, ih h.2]
theorem ktop2_ok {x : KV} (h : x.ok) : ktop2 x = top2 x.pv := by
  cases x with
  | arr nm k o n => cases o <;> rfl
  | agg cs => exact flatMap_top1 h
  | cv v =>
    have hv : okV v = true := h
    cases v with
    | agg cs => simp only [okV] at hv; exact (top1_none hv).symm
    | _ => first | rfl | simp [okV] at hv
  | _ => rfl
theorem tops_eq (v : PV) : tops v = match v with | .tup xs => xs.flatMap top2 | v => top2 v := by
  have e1 : (fun (x : PV) => match x with | .arr nm _ 0 _ => [nm] | _ => []) = top1 := by
    funext x; cases x <;> first | rfl | (rename_i nm k o n; cases o <;> rfl)
  cases v with
  | arr nm k o n => cases o <;> rfl
  | agg cs => simp only [tops, top2]; rfl
  | tup xs =>
    simp only [tops]
    congr 1
  | _ => rfl
theorem ktops_eq (v : KV) : ktops v = match v with | .tup xs => xs.flatMap ktop2 | v => ktop2 v := by
  cases v <;> first | rfl | (simp only [ktops]; congr 1)
theorem ktops_ok {v : KV} (h : v.ok) : ktops v = tops v.pv := by
  rw [ktops_eq, tops_eq]
  cases v with
  | tup xs =>
    have hx : okKL xs := h
    simp only [KV.pv]
    rw [pvL_map, List.flatMap_map]
    clear h
    induction xs with
    | nil => rfl
    | cons x xs ih => simp only [List.flatMap_cons]; rw [ktop2_ok hx.1, ih hx.2]
  | cv u =>
    have hu : okV u = true := h
    simp only [KV.pv, ktop2]
    cases u with
    | tup xs =>
      simp only [okV] at hu
      symm
      rw [List.flatMap_eq_nil_iff]
      intro x hx
      have hx' := okVL_iff.1 hu x hx
      have := ktop2_ok (x := .cv x) hx'
      simpa [ktop2, KV.pv] using this.symm
    | agg cs => simp only [okV] at hu; exact (top1_none hu).symm
    | _ => first | rfl | simp [okV] at hu
  | _ => exact ktop2_ok h
theorem nodupN_iff : ∀ {l : List Nm}, nodupN l = true ↔ l.Nodup
  | [] => by simp [nodupN]
  | x :: xs => by simp [nodupN, nodupN_iff (l := xs)]
theorem mapM_look {σ : Nm → Option Ob} : ∀ {S : List Nm}, (∀ nm ∈ S, ∃ ob, σ nm = some ob ∧ isArr ob = true) → ∃ obs, S.mapM σ = some obs ∧ obs.all isArr = true ∧ obs.length = S.length ∧ ∀ (i : Nat) nm, S[i]? = some nm → obs[i]? = σ nm := by
  intro S
  induction S with
  | nil => intro _; exact ⟨[], rfl, rfl, rfl, by simp⟩
  | cons nm S ih =>
    intro h
    obtain ⟨ob, h1, h2⟩ := h nm (by simp)
    obtain ⟨obs, h3, h4, h5, h6⟩ := ih fun m hm => h m (by simp [hm])
    refine ⟨ob :: obs, by simp [List.mapM_cons, h1, h3], by simp [h2, h4], by simp [h5], ?_⟩
    intro i m hi
    cases i with
    | zero => simp at hi; subst hi; simp [h1]
    | succ i => simp at hi ⊢; exact h6 i m hi
theorem idxOf_mid {pre mid post : List Nm} {nm : Nm} (hnd : (pre ++ nm :: mid ++ post).Nodup) : (pre ++ nm :: mid ++ post).idxOf nm = pre.length := by
  have hn : nm ∉ pre := fun hm => by
    rw [List.append_assoc, List.nodup_append] at hnd
    exact hnd.2.2 nm hm nm (by simp) rfl
  rw [List.append_assoc, List.idxOf_append, if_neg hn]
  simp
section hand
variable {σ : Nm → Option KOb} (hσ : ∀ nm o, σ nm = some o → o.ok) {S : List Nm} (hnd : S.Nodup) {obs : List Ob} (hobs : ∀ (i : Nat) nm, S[i]? = some nm → obs[i]? = (σ nm).map fun o => o.ob.bare)
include hσ hnd hobs
def subH (σ : Nm → Option KOb) (S : List Nm) : Nm → Option (Option Ob) := fun nm => if S.contains nm = true then none else closed (fun nm => (σ nm).map KOb.ob) nm
omit hnd hobs in
theorem close_subH {x : KV} (hx : x.ok) (hn : (x.names.all fun nm => !S.contains nm) = true) : x.pv.sub (subH σ S) = x.close (kclosed σ deepest) := by
  rw [KV.close_pv _ hx]
  refine PV.sub_congr _ fun nm hm => ?_
  rw [KV.pv_names hx] at hm
  have := List.all_eq_true.1 hn nm hm
  unfold subH subCl closed
  simp only [Bool.not_eq_true'] at this
  rw [this, kclosed_eq hσ, Option.map_map]
  rfl
omit hσ hnd hobs in
theorem sub_cl {x : KV} {u : PV} (hx : x.ok) (h : x.cl = some u) (f : Nm → Option (Option Ob)) (g : Nm → Nm) : (x.pv.sub f).ren g = u := by
  have hu := KV.cl_ok hx h
  rw [KV.cl_pv h, sub_none (okV_iff hu).1, ren_none (okV_iff hu).1]
mutual
theorem khand_ok {R : Type} {r : R} : ∀ (sh : RSh) (x : KV), x.ok → ∀ {K : PV → Option R}, khand σ S sh x K = some r → ∀ (pre post : List Nm), S = pre ++ ownN sh x ++ post →
    ∃ u, K u = some r ∧ convR obs sh pre.length ((x.pv.sub (subH σ S)).ren (toIdx S)) = some (u, pre.length + (ownN sh x).length)
  | .cl, x, hx, K, hr, pre, post, _ => by
    have hclose : (if x.names.all fun nm => !S.contains nm then chkO (okU (x.close (kclosed σ deepest))) (K (x.close (kclosed σ deepest))) else none) = some r →
        ∃ u, K u = some r ∧ convR obs .cl pre.length ((x.pv.sub (subH σ S)).ren (toIdx S)) = some (u, pre.length + (ownN .cl x).length) := by
      intro hr
      split at hr
      · rename_i hn
        obtain ⟨h1, hr⟩ := chkO_some hr
        unfold okU at h1
        refine ⟨_, hr, ?_⟩
        rw [close_subH hσ hx hn, ren_none (okV_iff h1).1]
        simp [convR, h1, chkO, ownN]
      · cases hr
    simp only [khand] at hr
    cases hu : x.cl with
    | some u =>
      rw [hu] at hr
      refine ⟨u, hr, ?_⟩
      rw [sub_cl hx hu]
      simp [convR, KV.cl_ok hx hu, chkO, ownN]
    | none =>
      rw [hu] at hr
      cases x with
      | tup xs =>
        simp only at hr
        cases hus : clL xs with
        | some us =>
          rw [hus] at hr
          have hok := clL_ok (xs := xs) hx hus
          have htup : okV (.tup us) = true := by simpa [okV] using hok
          refine ⟨.tup us, hr, ?_⟩
          have : (KV.tup xs).pv = .tup us := by simp [KV.pv, clL_pv hus]
          rw [this, sub_none (okV_iff htup).1, ren_none (okV_iff htup).1]
          simp [convR, htup, chkO, ownN]
        | none => rw [hus] at hr; exact hclose hr
      | _ => exact hclose hr
  | .own k, x, hx, K, hr, pre, post, hS => by
    simp only [khand] at hr
    split at hr
    · rename_i nm k' o n
      split at hr
      · rename_i k'' kt xs hl
        split at hr
        · rename_i hc
          obtain ⟨rfl, rfl, ho⟩ := hc
          rw [isZero_iff] at ho
          subst ho
          obtain ⟨h1, hr⟩ := chkO_some hr
          rw [eqN_iff] at h1
          unfold lenL at h1
          simp only [ownN] at hS
          refine ⟨_, hr, ?_⟩
          have hmem : S.contains nm = true := by rw [List.contains_iff_mem, hS]; simp
          have hi : S[pre.length]? = some nm := by rw [hS]; simp
          have hidx : S.idxOf nm = pre.length := by
            have e : S = pre ++ nm :: [] ++ post := by rw [hS]
            rw [e]; exact idxOf_mid (e ▸ hnd)
          have hob : obs[pre.length]? = some (.arr k 0 xs) := by rw [hobs _ _ hi, hl]; rfl
          have hxok : okVL xs = true := hσ _ _ hl
          have hsub : (PV.arr nm k 0 n).sub (subH σ S) = .arr nm k 0 n := by
            simp only [PV.sub, subH, hmem, if_true]
          simp only [KV.pv]
          rw [hsub]
          simp [PV.ren, toIdx, hidx, convR, hob, chkO, h1, hxok, ownN]
        · cases hr
      · cases hr
    · cases hr
  | .opt k, x, hx, K, hr, pre, post, hS => by
    simp only [khand] at hr
    split at hr
    · rename_i nm k' o n
      split at hr
      · rename_i k'' kt xs hl
        split at hr
        · rename_i hc
          obtain ⟨rfl, rfl, ho⟩ := hc
          rw [isZero_iff] at ho
          subst ho
          obtain ⟨h1, hr⟩ := chkO_some hr
          rw [eqN_iff] at h1
          unfold lenL at h1
          simp only [ownN] at hS
          refine ⟨_, hr, ?_⟩
          have hmem : S.contains nm = true := by rw [List.contains_iff_mem, hS]; simp
          have hi : S[pre.length]? = some nm := by rw [hS]; simp
          have hidx : S.idxOf nm = pre.length := by
            have e : S = pre ++ nm :: [] ++ post := by rw [hS]
            rw [e]; exact idxOf_mid (e ▸ hnd)
          have hob : obs[pre.length]? = some (.arr k 0 xs) := by rw [hobs _ _ hi, hl]; rfl
          have hxok : okVL xs = true := hσ _ _ hl
          have hsub : (PV.arr nm k 0 n).sub (subH σ S) = .arr nm k 0 n := by
            simp only [PV.sub, subH, hmem, if_true]
          simp only [KV.pv]
          rw [hsub]
          simp [PV.ren, toIdx, hidx, convR, hob, chkO, h1, hxok, ownN]
        · cases hr
      · cases hr
    · refine ⟨.nilS, hr, ?_⟩
      simp [KV.pv, PV.sub, PV.ren, convR, ownN]
    · unfold nilO at hr
      split at hr
      · refine ⟨.nilS, hr, ?_⟩
        simp [KV.pv, PV.sub, PV.ren, convR, ownN]
      · cases hr
    · cases hr
  | .tup l, x, hx, K, hr, pre, post, hS => by
    simp only [khand] at hr
    split at hr
    · rename_i xs
      simp only [ownN] at hS
      obtain ⟨us, h1, h2⟩ := khandL_ok l xs hx hr pre post hS
      refine ⟨_, h1, ?_⟩
      simp only [KV.pv, PV.sub, PV.ren, convR, h2, ownN]
      rfl
    · cases hr
  | .agg l, x, hx, K, hr, pre, post, hS => by
    simp only [khand] at hr
    split at hr
    · rename_i xs
      simp only [ownN] at hS
      obtain ⟨us, h1, h2⟩ := khandL_ok l xs hx hr pre post hS
      refine ⟨_, h1, ?_⟩
      simp only [KV.pv, PV.sub, PV.ren, convR, h2, ownN]
      rfl
    · cases hr
theorem khandL_ok {R : Type} {r : R} : ∀ (l : List RSh) (xs : List KV), okKL xs → ∀ {K : List PV → Option R}, khandL σ S l xs K = some r → ∀ (pre post : List Nm), S = pre ++ ownNL l xs ++ post →
    ∃ us, K us = some r ∧ convRL obs l pre.length (renL (toIdx S) (subL (subH σ S) (pvL xs))) = some (us, pre.length + (ownNL l xs).length)
  | [], [], _, K, hr, pre, post, _ => ⟨[], hr, by simp [pvL, subL, renL, convRL, ownNL]⟩
  | [], _ :: _, _, K, hr, _, _, _ => by simp [khandL] at hr
  | _ :: _, [], _, K, hr, _, _, _ => by simp [khandL] at hr
  | s :: l, x :: xs, hx, K, hr, pre, post, hS => by
    simp only [khandL] at hr
    simp only [ownNL] at hS
    obtain ⟨u, hr, h1⟩ := khand_ok s x hx.1 hr pre (ownNL l xs ++ post) (by rw [hS]; simp [List.append_assoc])
    obtain ⟨us, hr, h2⟩ := khandL_ok l xs hx.2 hr (pre ++ ownN s x) post (by rw [hS]; simp [List.append_assoc])
    refine ⟨u :: us, hr, ?_⟩
    simp only [pvL, subL, renL, convRL, h1]
    rw [List.length_append] at h2
    rw [h2]
    simp [ownNL, Nat.add_assoc]
end
end hand
theorem own_arr {σ : Nm → Option KOb} {S : List Nm} {R : Type} {r : R} : ∀ (sh : RSh) (x : KV) {K : PV → Option R}, khand σ S sh x K = some r → (∀ nm ∈ ownN sh x, ∃ k kt xs, σ nm = some (.arr k kt xs)) ∧ ∃ u, K u = some r := by
  intro sh
  refine RSh.rec (motive_1 := fun sh => ∀ (x : KV) {K : PV → Option R}, khand σ S sh x K = some r → (∀ nm ∈ ownN sh x, ∃ k kt xs, σ nm = some (.arr k kt xs)) ∧ ∃ u, K u = some r)
    (motive_2 := fun l => ∀ (xs : List KV) {K : List PV → Option R}, khandL σ S l xs K = some r → (∀ nm ∈ ownNL l xs, ∃ k kt ys, σ nm = some (.arr k kt ys)) ∧ ∃ us, K us = some r) ?_ ?_ ?_ ?_ ?_ ?_ ?_ sh
  · intro x K hr
    refine ⟨by simp [ownN], ?_⟩
    simp only [khand] at hr
    split at hr
    · exact ⟨_, hr⟩
    · split at hr
      · split at hr
        · exact ⟨_, hr⟩
        · split at hr
          · exact ⟨_, (chkO_some hr).2⟩
          · cases hr
      · split at hr
        · exact ⟨_, (chkO_some hr).2⟩
        · cases hr
  · intro k x K hr
    simp only [khand] at hr
    split at hr
    · rename_i nm k' o n
      split at hr
      · rename_i k'' kt xs hl
        split at hr
        · exact ⟨by simp [ownN, hl], _, (chkO_some hr).2⟩
        · cases hr
      · cases hr
    · cases hr
  · intro k x K hr
    simp only [khand] at hr
    split at hr
    · rename_i nm k' o n
      split at hr
      · rename_i k'' kt xs hl
        split at hr
        · exact ⟨by simp [ownN, hl], _, (chkO_some hr).2⟩
        · cases hr
      · cases hr
    · exact ⟨by simp [ownN], _, hr⟩
    · unfold nilO at hr
      split at hr
      · exact ⟨by simp [ownN], _, hr⟩
      · cases hr
    · cases hr
  · intro l ih x K hr
    simp only [khand] at hr
    split at hr
    · rename_i xs
      obtain ⟨h1, us, h2⟩ := ih xs hr
      exact ⟨by simpa [ownN] using h1, _, h2⟩
    · cases hr
  · intro l ih x K hr
    simp only [khand] at hr
    split at hr
    · rename_i xs
      obtain ⟨h1, us, h2⟩ := ih xs hr
      exact ⟨by simpa [ownN] using h1, _, h2⟩
    · cases hr
  · intro xs K hr
    cases xs with
    | nil => exact ⟨by simp [ownNL], _, hr⟩
    | cons x xs => simp [khandL] at hr
  · intro s l ihs ihl xs K hr
    cases xs with
    | nil => simp [khandL] at hr
    | cons x xs =>
      simp only [khandL] at hr
      obtain ⟨h1, u, hr⟩ := ihs x hr
      obtain ⟨h2, us, hr⟩ := ihl xs hr
      refine ⟨?_, _, hr⟩
      intro nm hm
      simp only [ownNL, List.mem_append] at hm
      exact hm.elim (h1 nm) (h2 nm)
theorem ktopsOf_ok (shut : Bool) {v : KV} (h : v.ok) : ktopsOf shut v = topsOf shut v.pv := by
  cases shut with
  | true => rfl
  | false => exact ktops_ok h
theorem khandOver_ok {R : Type} {r : R} (h : ks.Ok) {shut : Bool} {sh : RSh} {v : KV} (hv : v.ok) {K : PV → Option R} (hr : khandOver ks shut sh v K = some r) : ∃ u rv obs, K u = some r ∧ handOver shut ks.st v.pv = some (rv, obs) ∧ convO sh rv obs = some u := by
  unfold khandOver at hr
  simp only at hr
  split at hr
  case isFalse => cases hr
  rename_i hc
  obtain ⟨hS, hnd, hdis, hsh⟩ := hc
  have hσ := klook_okF h
  obtain ⟨harr, _⟩ := own_arr sh v hr
  rw [← hS] at harr
  have hlk := st_lookF h
  obtain ⟨obs, hm, hall, hlen, hget⟩ := mapM_look (σ := look ks.st.objs) (S := ktopsOf shut v) fun nm hm => by
    obtain ⟨k, kt, xs, he⟩ := harr nm hm
    exact ⟨.arr k kt xs, by rw [st_look h, he]; rfl, rfl⟩
  have hnd' := nodupN_iff.1 hnd
  obtain ⟨u, hu, hconv⟩ := khand_ok hσ hnd' (obs := obs.map Ob.bare) (fun i nm hi => by rw [List.getElem?_map, hget i nm hi, st_look h, Option.map_map]; rfl) sh v hv hr [] [] (by rw [← hS]; simp)
  refine ⟨u, (v.pv.sub (subH (klook ks.objs) (ktopsOf shut v))).ren (toIdx (ktopsOf shut v)), obs.map Ob.bare, hu, ?_, ?_⟩
  · have e : (fun nm => if (topsOf shut v.pv).contains nm = true then none else closed (look ks.st.objs) nm) = subH (klook ks.objs) (ktopsOf shut v) := by
      funext nm
      unfold subH
      rw [ktopsOf_ok shut hv, hlk]
    rw [kreach_eq hσ, ← hlk] at hdis hsh
    rw [kshut_eq hσ, ← hlk] at hsh
    rw [ktopsOf_ok shut hv, ← KV.pv_names hv] at hdis hsh
    rw [ktopsOf_ok shut hv] at hnd hm
    unfold handOver
    simp only [hnd, hdis, Bool.and_self, if_true, hm, hsh, hall, chk, e, ktopsOf_ok shut hv]
  · unfold convO
    simp only [List.length_nil, Nat.zero_add] at hconv
    rw [hconv]
    simp [chkO, hlen, hS]
theorem init_ok {nt : Nat} {args : List KV} (ha : okKL args) (hu : ∀ x ∈ args, isUnK x = false) (hl : args.length ≤ nt) : ({ nt, tmps := args.zipIdx.map fun p => (p.2, p.1), objs := [], keep := [] } : KSt).Ok ∧
    ({ nt, tmps := args.zipIdx.map fun p => (p.2, p.1), objs := [], keep := [] } : KSt).st = { tmps := pvL args ++ List.replicate (nt - (pvL args).length) .undef, objs := List.replicate nt [], keep := [] } := by
  have hmem : ∀ p ∈ args.zipIdx.map (fun p => (p.2, p.1)), args[p.1]? = some p.2 := by
    intro p hp
    obtain ⟨⟨x, i⟩, hq, rfl⟩ := List.mem_map.1 hp
    rw [List.mem_zipIdx_iff_getElem?] at hq
    exact hq
  have hw : SpWf nt (args.zipIdx.map fun p => (p.2, p.1)) := by
    refine ⟨?_, ?_, ?_, ?_⟩
    · rw [List.map_map]
      have : ((fun p : Nat × KV => p.1) ∘ fun p : KV × Nat => (p.2, p.1)) = Prod.snd := rfl
      rw [this, List.zipIdx_map_snd]
      exact List.pairwise_lt_range'
    · intro p hp
      have := (List.getElem?_eq_some_iff.1 (hmem p hp)).1
      omega
    · intro p hp; exact okKL_mem.1 ha _ (List.mem_of_getElem? (hmem p hp))
    · intro p hp; exact hu _ (List.mem_of_getElem? (hmem p hp))
  refine ⟨⟨hw, .nil nt, by simp⟩, ?_⟩
  unfold KSt.st
  simp only [List.flatMap_nil]
  congr 1
  · refine dense_ext (by simp [pvL_length]; omega) fun i hi => ?_
    by_cases hia : i < args.length
    · rw [List.getElem?_append_left (by rw [pvL_length]; exact hia), pvL_get?, List.getElem?_eq_getElem hia]
      have hp : (i, args[i]) ∈ args.zipIdx.map (fun p => (p.2, p.1)) := by
        refine List.mem_map.2 ⟨(args[i], i), ?_, rfl⟩
        rw [List.mem_zipIdx_iff_getElem?]
        simp [hia]
      rw [show spGet (args.zipIdx.map fun p => (p.2, p.1)) i = args[i] from hw.get_mem hp]
      rfl
    · rw [List.getElem?_append_right (by rw [pvL_length]; omega), List.getElem?_replicate, if_pos (by rw [pvL_length]; omega)]
      rw [show spGet (args.zipIdx.map fun p => (p.2, p.1)) i = .un from spGet_not fun p hp => by
        have := (List.getElem?_eq_some_iff.1 (hmem p hp)).1
        omega]
      rfl
  · refine denseO_ext (by simp) fun i hi => ?_
    rw [List.getElem?_replicate, if_pos hi]
    rfl
theorem runK_ok (hc : CfgOK cfg tab) {g : FuncId} {fn : RFn} (ht : tab g = some fn) {E : Type} {h : Handler E} {hn : Nat → Handler E} (hh : HOk h hn) {dep : Nat} {sh : RSh} {args : List KV} {e e' : E} {u : PV}
    (ha : okKL args) (hu : ∀ x ∈ args, isUnK x = false) (hl : args.length ≤ fn.nt) (hr : runK cfg fn sh h dep args e = some (u, e')) :
    ∃ r obs, convO sh r obs = some u ∧ Evl fun n => evalFn cfg.b.sp tab n E (hn n) dep g (pvL args) e = some (r, obs, e') := by
  unfold runK at hr
  rw [force_eq] at hr
  obtain ⟨i1, i2⟩ := init_ok ha hu hl
  have hh' : HOk h fun n => hn (n + 1) := fun l args e r hq => by
    obtain ⟨a, hb⟩ := hh l args e r hq
    exact ⟨a, fun n hn' => hb (n + 1) (by omega)⟩
  obtain ⟨x, k1, e1, hr, hk1, hev⟩ := evalK_ok hc fn.code hh' dep i1 hr
  rw [i2] at hev
  have fin : (kresVs k1 fn.res fun vs => khandOver k1 fn.shut sh (koneOf vs) fun v => some (v, e1)) = some (u, e') → (∀ id, x ≠ .exit id) → ∃ r obs, convO sh r obs = some u ∧ Evl fun n => evalFn cfg.b.sp tab n E (hn n) dep g (pvL args) e = some (r, obs, e') := by
    intro hr hx
    obtain ⟨vs, hr, hvs, h1⟩ := kresVs_ok hk1 fn.res hr
    obtain ⟨o1, o2⟩ := koneOf_ok hvs
    obtain ⟨u', rv, obs, hr, h2, h3⟩ := khandOver_ok hk1 o1 hr
    cases hr
    refine ⟨rv, obs, h3, hev.shift.mono ?_⟩
    rintro k ⟨j, rfl, hj⟩
    show callOf (evalM cfg.b.sp tab j) j tab E (hn (j + 1)) dep g (pvL args) e = _
    simp only [callOf, ht]
    simp only [machN] at hj
    rw [hj]
    cases x with
    | exit id => exact absurd rfl (hx id)
    | normal => simp only [h1]; rw [← o2, h2]
    | ret => simp only [h1]; rw [← o2, h2]
  cases x with
  | exit id => cases hr
  | normal => exact fin hr (by simp)
  | ret => exact fin hr (by simp)
end Go.Ab


namespace Go.Ab
section
variable {cfg : KCfg} {tab : FuncId → Option RFn}
theorem cvL_pv : ∀ (vs : List PV), pvL (vs.map KV.cv) = vs
  | [] => rfl
  | v :: vs => by simp [pvL, KV.pv, cvL_pv vs]
theorem cvL_ok {vs : List PV} (h : okVL vs = true) : okKL (vs.map KV.cv) := okKL_mem.2 fun x hx => by
  obtain ⟨v, hv, rfl⟩ := List.mem_map.1 hx
  exact okVL_iff.1 h v hv
theorem cvL_un {vs : List PV} : ∀ x ∈ vs.map KV.cv, isUnK x = false := fun x hx => by
  obtain ⟨v, _, rfl⟩ := List.mem_map.1 hx
  rfl
theorem noH : HOk noHandler (fun _ => noHandler) := fun _ _ _ _ h => by cases h
theorem call_of_run (hc : CfgOK cfg tab) {g : FuncId} {fn : RFn} (ht : tab g = some fn) {sh : RSh} {cap args : List PV} {u : PV} (ha : okVL (args ++ cap) = true) (hl : (args ++ cap).length ≤ fn.nt)
    (hsp : cfg.b.sp g (fun _ => none) (args ++ cap) = none) (hr : runK cfg fn sh noHandler 0 ((args ++ cap).map KV.cv) () = some (u, ())) (hio : fn.io = false := by rfl) : callO cfg.b sh (.fn g cap) args = some u := by
  obtain ⟨r, obs, h1, h2⟩ := runK_ok hc ht (hn := fun _ => noHandler) noH (cvL_ok ha) cvL_un (by simpa using hl) hr
  rw [cvL_pv] at h2
  have hL : cfg.b.L Unit noHandler 0 g (args ++ cap) () = some (r, obs, ()) := by rw [hc.L]; exact lim_of h2
  have hfl : cfg.b.isIo g = false := by rw [hc.isIo]; unfold ioFlag; rw [ht]; exact hio
  unfold callO
  simp only [spO, hsp, hL, hfl, Bool.false_eq_true, if_false]
  exact h1
theorem call_of_sp (hc : CfgOK cfg tab) {g : FuncId} {cap args : List PV} {u : PV} (hsp : cfg.b.sp g (fun _ => none) (args ++ cap) = some { v := u }) (hu : okV u = true) : callO cfg.b .cl (.fn g cap) args = some u := by
  unfold callO
  simp [spO, hsp, hu, chkO, convO, convR]
theorem range_of_run (hc : CfgOK cfg tab) {g : FuncId} {fn : RFn} (ht : tab g = some fn) {E : Type} {h : Handler E} {dep : Nat} {cap : List PV} {u : PV} {e e' : E} (ha : okVL cap = true) (hl : cap.length + 1 ≤ fn.nt)
    (hr : runK cfg fn .cl h (dep + 1) (.yld dep :: cap.map KV.cv) e = some (u, e')) : rangeO cfg.b h dep (.fn g cap) e = some e' := by
  obtain ⟨r, obs, h1, h2⟩ := runK_ok hc ht (hn := fun _ => h) (fun l args e r hq => .of fun _ => hq) (dep := dep + 1) (args := .yld dep :: cap.map KV.cv) ⟨trivial, cvL_ok ha⟩ (fun x hx => by
    rcases List.mem_cons.1 hx with rfl | hx
    · rfl
    · exact cvL_un x hx) (by simpa using hl) hr
  have e1 : pvL (.yld dep :: cap.map KV.cv) = .yld dep :: cap := by simp [pvL, KV.pv, cvL_pv]
  rw [e1] at h2
  have hL : cfg.b.L E h (dep + 1) g (.yld dep :: cap) e = some (r, obs, e') := by rw [hc.L]; exact lim_of h2
  unfold rangeO
  simp only [hL]
theorem conv_cl {r u : PV} {obs : List Ob} (h : convO .cl r obs = some u) : r = u ∧ obs = [] ∧ okV u = true := by
  unfold convO at h
  simp only [convR] at h
  split at h
  · rename_i r' j hr
    obtain ⟨h1, h2⟩ := chkO_some hr
    cases h2
    obtain ⟨h3, h4⟩ := chkO_some h
    cases h4
    simp only [beq_iff_eq] at h3
    exact ⟨rfl, List.length_eq_zero_iff.1 h3.symm, h1⟩
  · cases h
theorem lend_of_run (hc : CfgOK cfg tab) {g : FuncId} {fn : RFn} (ht : tab g = some fn) {fr : Bool} {args : List PV} {u : PV} (ha : okVL args = true) (hl : args.length ≤ fn.nt)
    (hr : runK cfg fn .cl noHandler 0 (args.map KV.cv) () = some (u, ())) (hfr : (u.free && !leanFlag tab g) = fr) : lendO cfg.b .cl fr g args = some u := by
  obtain ⟨r, obs, h1, h2⟩ := runK_ok hc ht (hn := fun _ => noHandler) noH (cvL_ok ha) cvL_un (by simpa using hl) hr
  rw [cvL_pv] at h2
  obtain ⟨e1, e2, _⟩ := conv_cl h1
  subst e1; subst e2
  have hL : cfg.b.L Unit noHandler 0 g args () = some (r, [], ()) := by rw [hc.L]; exact lim_of h2
  unfold lendO
  rw [(okVL_names ha).2]
  simp only [Bool.false_eq_true, if_false, hL, List.all_nil, Bool.and_true, hc.leans, hfr, beq_self_eq_true, chkO]
  exact h1
theorem law_of_run (hc : CfgOK cfg tab) {g : FuncId} {fn : RFn} (ht : tab g = some fn) {args : List PV} {b : Bool} (ha : okVL args = true) (hl : args.length ≤ fn.nt)
    (hr : runK cfg fn .cl noHandler 0 (args.map KV.cv) () = some (.bool b, ())) : ∃ n, evalFn cfg.b.sp tab n Unit noHandler 0 g args () = some (.bool b, [], ()) := by
  obtain ⟨r, obs, h1, m, hm⟩ := runK_ok hc ht (hn := fun _ => noHandler) noH (cvL_ok ha) cvL_un (by simpa using hl) hr
  rw [cvL_pv] at hm
  obtain ⟨e1, e2, _⟩ := conv_cl h1
  subst e1; subst e2
  exact ⟨m, hm m (Nat.le_refl _)⟩
end
def yieldAll {E : Type} (h : Handler E) (d : Nat) : List (List PV) → E → Option E
  | [], e => some e
  | a :: l, e => match h d a e with
    | some (true, e) => yieldAll h d l e
    | some (false, e) => some e
    | none => none
@[simp] theorem bindO_val {α β : Type} (a : α) (f : α → Option β) : bindO (some a) f = f a := rfl
@[simp] theorem bindO_none' {α β : Type} (f : α → Option β) : bindO none f = none := rfl
@[simp] theorem chkO_true {β : Type} (a : Option β) : chkO true a = a := rfl
@[simp] theorem chkO_false {β : Type} (a : Option β) : chkO false a = none := rfl
@[simp] theorem iteP_bool {β : Type} (b : Bool) (x y : Option β) : iteP (.bool b) x y = if b = true then x else y := by cases b <;> rfl
@[simp] theorem iteB_bool {β : Type} (b : Bool) (x y : Option β) : iteB b x y = if b = true then x else y := by cases b <;> rfl
theorem iteP_true {β : Type} (x y : Option β) : iteP (.bool true) x y = x := rfl
theorem iteP_false {β : Type} (x y : Option β) : iteP (.bool false) x y = y := rfl
section pure
variable {c : TC} {cst : Bool} {k : IntKind}
@[simp] theorem pure_add (a b : Int) : pureO (.bin .add c cst (.c (.int k a)) (.c (.int k b))) = some (.int k (k.wrap (a + b))) := by simp [pureO, exec, RX.ev, binPV, chk, binInt]
@[simp] theorem pure_sub (a b : Int) : pureO (.bin .sub c cst (.c (.int k a)) (.c (.int k b))) = some (.int k (k.wrap (a - b))) := by simp [pureO, exec, RX.ev, binPV, chk, binInt]
@[simp] theorem pure_mul (a b : Int) : pureO (.bin .mul c cst (.c (.int k a)) (.c (.int k b))) = some (.int k (k.wrap (a * b))) := by simp [pureO, exec, RX.ev, binPV, chk, binInt]
theorem pure_quo (a b : Int) (hb : b ≠ 0) : pureO (.bin .quo c cst (.c (.int k a)) (.c (.int k b))) = some (.int k (k.wrap (a.tdiv b))) := by simp [pureO, exec, RX.ev, binPV, chk, binInt, hb]
theorem pure_rem (a b : Int) (hb : b ≠ 0) : pureO (.bin .rem c cst (.c (.int k a)) (.c (.int k b))) = some (.int k (a.tmod b)) := by simp [pureO, exec, RX.ev, binPV, chk, binInt, hb]
@[simp] theorem pure_eql (a b : Int) : pureO (.bin .eql c cst (.c (.int k a)) (.c (.int k b))) = some (.bool (a == b)) := by simp [pureO, exec, RX.ev, binPV, chk, binInt, cmpInt]
@[simp] theorem pure_neq (a b : Int) : pureO (.bin .neq c cst (.c (.int k a)) (.c (.int k b))) = some (.bool (a != b)) := by simp [pureO, exec, RX.ev, binPV, chk, binInt, cmpInt]
@[simp] theorem pure_lss (a b : Int) : pureO (.bin .lss c cst (.c (.int k a)) (.c (.int k b))) = some (.bool (decide (a < b))) := by simp [pureO, exec, RX.ev, binPV, chk, binInt, cmpInt]
@[simp] theorem pure_leq (a b : Int) : pureO (.bin .leq c cst (.c (.int k a)) (.c (.int k b))) = some (.bool (decide (a ≤ b))) := by simp [pureO, exec, RX.ev, binPV, chk, binInt, cmpInt]
@[simp] theorem pure_gtr (a b : Int) : pureO (.bin .gtr c cst (.c (.int k a)) (.c (.int k b))) = some (.bool (decide (b < a))) := by simp [pureO, exec, RX.ev, binPV, chk, binInt, cmpInt]
@[simp] theorem pure_geq (a b : Int) : pureO (.bin .geq c cst (.c (.int k a)) (.c (.int k b))) = some (.bool (decide (b ≤ a))) := by simp [pureO, exec, RX.ev, binPV, chk, binInt, cmpInt]
@[simp] theorem pure_eqs (a b : List UInt8) : pureO (.bin .eql c cst (.c (.str a)) (.c (.str b))) = some (.bool (a == b)) := by simp [pureO, exec, RX.ev, binPV, binStr]
@[simp] theorem pure_nes (a b : List UInt8) : pureO (.bin .neq c cst (.c (.str a)) (.c (.str b))) = some (.bool (!(a == b))) := by simp [pureO, exec, RX.ev, binPV, binStr]
@[simp] theorem pure_eqb (a b : Bool) : pureO (.bin .eql .bool cst (.c (.bool a)) (.c (.bool b))) = some (.bool (a == b)) := by simp [pureO, exec, RX.ev, binPV, eqNil]
@[simp] theorem pure_neb (a b : Bool) : pureO (.bin .neq .bool cst (.c (.bool a)) (.c (.bool b))) = some (.bool (!(a == b))) := by simp [pureO, exec, RX.ev, binPV, eqNil]
@[simp] theorem pure_not (b : Bool) : pureO (.un .not (.c (.bool b))) = some (.bool (!b)) := rfl
@[simp] theorem pure_neg (n : Int) : pureO (.un .neg (.c (.int k n))) = some (.int k (k.wrap (0 - n))) := rfl
@[simp] theorem pure_conv {k' : IntKind} (n : Int) : pureO (.conv k (.c (.int k' n))) = some (.int k (k.wrap n)) := rfl
@[simp] theorem pure_lens (s : List UInt8) : pureO (.len .str (.c (.str s))) = some (.int .i64 (s.length : Int)) := rfl
@[simp] theorem pure_lenl {j : Nat} (xs : List PV) (f : Bool) : pureO (.len .slice (.c (.sl j xs f))) = some (.int .i64 (xs.length : Int)) := rfl
@[simp] theorem pure_lenn : pureO (.len .slice (.c .nilS)) = some (.int .i64 0) := rfl
@[simp] theorem pure_tup (j : Nat) (xs : List PV) : pureO (.extract j (.c (.tup xs))) = xs[j]? := by
  simp only [pureO, exec, RX.ev]; cases xs[j]? <;> rfl
@[simp] theorem pure_load {n o : Nat} {ag : Bool} (cs : List PV) : pureO (.load n ag (.c (.ptr cs o))) = sel cs o n ag := by
  simp only [pureO, exec, RX.ev]; cases sel cs o n ag <;> rfl
@[simp] theorem pure_field {n o : Nat} {ag : Bool} (cs : List PV) : pureO (.field o n ag (.c (.agg cs))) = sel cs o n ag := by
  simp only [pureO, exec, RX.ev]; cases sel cs o n ag <;> rfl
@[simp] theorem pure_nilck (cs : List PV) (o : Nat) : pureO (.nilck (.c (.ptr cs o))) = some (.ptr cs o) := rfl
@[simp] theorem pure_nilckf (f : Nat) (cs : List PV) : pureO (.nilck (.c (.fn f cs))) = some (.fn f cs) := rfl
@[simp] theorem pure_faddr {off o : Nat} (cs : List PV) : pureO (.fieldAddr off (.c (.ptr cs o))) = if o + off < cs.length then some (.ptr cs (o + off)) else none := by
  by_cases hq : o + off < cs.length <;> simp [pureO, exec, RX.ev, chk, hq]
theorem pure_lidx {xs : List PV} {j n : Nat} {f : Bool} {v : PV} (hn : 0 < n) (h : xs[j]? = some v) : pureO (.idxAddr n (.c (.sl n xs f)) (.c (.int k (j : Int)))) = some (.ptr v.cells 0) := by
  simp [pureO, exec, RX.ev, natOf, h, chk, hn]
end pure
@[simp] theorem sel_one (v : PV) : sel [v] 0 1 false = some v := rfl
@[simp] theorem cells_int (k : IntKind) (n : Int) : (PV.int k n).cells = [.int k n] := rfl
@[simp] theorem cells_str (s : List UInt8) : (PV.str s).cells = [.str s] := rfl
@[simp] theorem cells_bool (b : Bool) : (PV.bool b).cells = [.bool b] := rfl
@[simp] theorem cells_agg' (cs : List PV) : (PV.agg cs).cells = cs := rfl
@[simp] theorem addN_eq (a b : Nat) : addN a b = a + b := rfl
@[simp] theorem subN_eq (a b : Nat) : subN a b = a - b := rfl
@[simp] theorem minN_eq (a b : Nat) : minN a b = min a b := rfl
@[simp] theorem lenL_eq (l : List PV) : lenL l = l.length := rfl
@[simp] theorem takeL_eq (n : Nat) (l : List PV) : takeL n l = l.take n := rfl
@[simp] theorem dropL_eq (n : Nat) (l : List PV) : dropL n l = l.drop n := rfl
@[simp] theorem catL_eq (l m : List PV) : catL l m = l ++ m := rfl
@[simp] theorem replL_eq (n : Nat) (v : PV) : replL n v = List.replicate n v := rfl
@[simp] theorem itemsP_sl (k : Nat) (xs : List PV) (f : Bool) : itemsP (.sl k xs f) = xs := rfl
@[simp] theorem natP_int (k : IntKind) (n : Int) : natP (.int k n) = n.toNat := rfl
@[simp] theorem nI_eq (n : Nat) : nI n = .int .i64 (n : Int) := rfl
@[simp] theorem andB_eq (a b : Bool) : andB a b = (a && b) := rfl
@[simp] theorem leN_eq (a b : Nat) : leN a b = decide (a ≤ b) := by
  rw [Bool.eq_iff_iff, leN_iff, decide_eq_true_iff]
@[simp] theorem ltN_eq (a b : Nat) : ltN a b = decide (a < b) := by
  rw [Bool.eq_iff_iff, ltN_iff, decide_eq_true_iff]
@[simp] theorem eqN_eq (a b : Nat) : eqN a b = decide (a = b) := by
  rw [Bool.eq_iff_iff, eqN_iff, decide_eq_true_iff]
@[simp] theorem nth_0 (x : PV) (l : List PV) : nth (x :: l) 0 = x := rfl
@[simp] theorem nth_1 (a x : PV) (l : List PV) : nth (a :: x :: l) 1 = x := rfl
@[simp] theorem nth_2 (a b x : PV) (l : List PV) : nth (a :: b :: x :: l) 2 = x := rfl
@[simp] theorem nth_3 (a b c x : PV) (l : List PV) : nth (a :: b :: c :: x :: l) 3 = x := rfl
@[simp] theorem nth_4 (a b c d x : PV) (l : List PV) : nth (a :: b :: c :: d :: x :: l) 4 = x := rfl
@[simp] theorem nth_5 (a b c d e x : PV) (l : List PV) : nth (a :: b :: c :: d :: e :: x :: l) 5 = x := rfl
@[simp] theorem nth_6 (a b c d e f x : PV) (l : List PV) : nth (a :: b :: c :: d :: e :: f :: x :: l) 6 = x := rfl
@[simp] theorem nth_7 (a b c d e f g x : PV) (l : List PV) : nth (a :: b :: c :: d :: e :: f :: g :: x :: l) 7 = x := rfl
@[simp] theorem nth_8 (a b c d e f g h x : PV) (l : List PV) : nth (a :: b :: c :: d :: e :: f :: g :: h :: x :: l) 8 = x := rfl
@[simp] theorem selO_eq (v : PV) (o n : Nat) (ag : Bool) : selO v o n ag = sel v.cells o n ag := rfl
@[simp] theorem natO_int (k : IntKind) (n : Nat) : natO (.int k (n : Int)) = some n := by simp [natO, natOf]
end Go.Ab


namespace Go.Ab
section
variable {ks : KSt}
end
end Go.Ab


namespace Go.Ab
open Go
def globs0 : Globs := fun g => if g = 1 then some [.glob 1 175] else if g = 2 then some [.glob 2 175] else none
noncomputable def mkF (io shut leans : Bool) (nt : Nat) (f : FuncId) : RFn := { nt, code := ((compF Go.Proofs.Tryz.prog globs0 (deadOf Go.Proofs.Tryz.prog f) f).getD default).code, res := ((compF Go.Proofs.Tryz.prog globs0 (deadOf Go.Proofs.Tryz.prog f) f).getD default).res, io, shut, leans }
theorem mkF_comp {io shut leans : Bool} {nt : Nat} {f : FuncId} (h : (compF Go.Proofs.Tryz.prog globs0 (deadOf Go.Proofs.Tryz.prog f) f).map (·.nt) = some nt) : compF Go.Proofs.Tryz.prog globs0 (deadOf Go.Proofs.Tryz.prog f) f = some { mkF io shut leans nt f with io := false, shut := false, leans := false } := by
  obtain ⟨fn, h1, rfl⟩ := Option.map_eq_some_iff.1 h
  unfold mkF
  rw [h1]
  have h2 := h1
  unfold compF at h2
  split at h2
  · split at h2
    · split at h2
      · cases h2
      · cases h2; rfl
    · cases h2
  · cases h2
noncomputable def fn7 : RFn := mkF false true false 93 7
noncomputable def fn9 : RFn := mkF false true false 15 9
noncomputable def fn10 : RFn := mkF false false false 101 10
noncomputable def fn11 : RFn := mkF false true false 8 11
noncomputable def fn12 : RFn := mkF false true false 24 12
noncomputable def fn13 : RFn := mkF false true false 24 13
noncomputable def fn31 : RFn := mkF false true false 26 31
noncomputable def fn14 : RFn := mkF false false false 56 14
noncomputable def fn18 : RFn := mkF false true false 26 18
noncomputable def fn21 : RFn := mkF false true false 17 21
noncomputable def fn22 : RFn := mkF false true false 9 22
noncomputable def fn23 : RFn := mkF false true false 7 23
noncomputable def fn24 : RFn := mkF false true false 38 24
noncomputable def fn25 : RFn := mkF false true false 11 25
noncomputable def fn26 : RFn := mkF false true false 6 26
noncomputable def fn27 : RFn := mkF false true false 36 27
noncomputable def fn28 : RFn := mkF false true false 6 28
noncomputable def fn29 : RFn := mkF false true false 17 29
noncomputable def fn30 : RFn := mkF false true false 9 30
noncomputable def fn32 : RFn := mkF false true false 7 32
noncomputable def fn33 : RFn := mkF false true false 31 33
noncomputable def fn44 : RFn := mkF false true false 29 44
noncomputable def fn45 : RFn := mkF false true false 21 45
noncomputable def fn46 : RFn := mkF false true false 16 46
noncomputable def fn47 : RFn := mkF false true false 16 47
noncomputable def fn48 : RFn := mkF false true false 19 48
noncomputable def fn49 : RFn := mkF false true false 10 49
noncomputable def fn70 : RFn := mkF false true false 36 70
noncomputable def fn71 : RFn := mkF false true false 36 71
noncomputable def fn72 : RFn := mkF false true false 51 72
noncomputable def fn73 : RFn := mkF false true false 56 73
noncomputable def fn74 : RFn := mkF false true false 43 74
noncomputable def fn75 : RFn := mkF false true false 11 75
noncomputable def fn76 : RFn := mkF false true false 11 76
noncomputable def fn77 : RFn := mkF false true false 10 77
noncomputable def fn78 : RFn := mkF false true false 66 78
noncomputable def fn79 : RFn := mkF false true false 10 79
noncomputable def fn80 : RFn := mkF false true false 41 80
noncomputable def fn82 : RFn := mkF false true false 5 82
noncomputable def fn83 : RFn := mkF false true false 10 83
noncomputable def fn84 : RFn := mkF false true false 11 84
noncomputable def fn85 : RFn := mkF false true false 4 85
noncomputable def fn86 : RFn := mkF false true false 10 86
noncomputable def fn87 : RFn := mkF false true false 18 87
noncomputable def fn88 : RFn := mkF false true true 21 88
noncomputable def fn89 : RFn := mkF false true false 13 89
noncomputable def fn110 : RFn := mkF false true false 51 110
noncomputable def fn111 : RFn := mkF false true false 10 111
noncomputable def fn8 : RFn := mkF false true false 65 8
noncomputable def fn19 : RFn := mkF false true false 49 19
noncomputable def fn20 : RFn := mkF false false false 29 20
noncomputable def fn40 : RFn := mkF false false false 52 40
noncomputable def fn41 : RFn := mkF false false false 45 41
noncomputable def fn42 : RFn := mkF false false false 34 42
noncomputable def fn56 : RFn := mkF false false false 8 56
noncomputable def fn57 : RFn := mkF false false false 11 57
noncomputable def fn58 : RFn := mkF false false false 25 58
noncomputable def fn59 : RFn := mkF false false false 6 59
noncomputable def fn60 : RFn := mkF false false false 8 60
noncomputable def fn61 : RFn := mkF false false false 8 61
noncomputable def fn63 : RFn := mkF false false false 11 63
noncomputable def fn64 : RFn := mkF true false false 19 64
noncomputable def fn95 : RFn := mkF false false false 66 95
noncomputable def fn96 : RFn := mkF false false false 15 96
noncomputable def fn97 : RFn := mkF false false false 73 97
noncomputable def fn101 : RFn := mkF false false false 18 101
noncomputable def fn102 : RFn := mkF false false false 21 102
noncomputable def fn105 : RFn := mkF false false false 8 105
noncomputable def fn114 : RFn := mkF false false false 172 114
noncomputable def fn122 : RFn := mkF false false false 143 122
noncomputable def fn124 : RFn := mkF false false false 5 124
noncomputable def fn125 : RFn := mkF false false false 94 125
noncomputable def tab0 : FuncId → Option RFn
  | 7 => some fn7
  | 9 => some fn9
  | 10 => some fn10
  | 11 => some fn11
  | 12 => some fn12
  | 13 => some fn13
  | 31 => some fn31
  | 14 => some fn14
  | 18 => some fn18
  | 21 => some fn21
  | 22 => some fn22
  | 23 => some fn23
  | 24 => some fn24
  | 25 => some fn25
  | 26 => some fn26
  | 27 => some fn27
  | 28 => some fn28
  | 29 => some fn29
  | 30 => some fn30
  | 32 => some fn32
  | 33 => some fn33
  | 44 => some fn44
  | 45 => some fn45
  | 46 => some fn46
  | 47 => some fn47
  | 48 => some fn48
  | 49 => some fn49
  | 70 => some fn70
  | 71 => some fn71
  | 72 => some fn72
  | 73 => some fn73
  | 74 => some fn74
  | 75 => some fn75
  | 76 => some fn76
  | 77 => some fn77
  | 78 => some fn78
  | 79 => some fn79
  | 80 => some fn80
  | 82 => some fn82
  | 83 => some fn83
  | 84 => some fn84
  | 85 => some fn85
  | 86 => some fn86
  | 87 => some fn87
  | 88 => some fn88
  | 89 => some fn89
  | 110 => some fn110
  | 111 => some fn111
  | 8 => some fn8
  | 19 => some fn19
  | 20 => some fn20
  | 40 => some fn40
  | 41 => some fn41
  | 42 => some fn42
  | 56 => some fn56
  | 57 => some fn57
  | 58 => some fn58
  | 59 => some fn59
  | 60 => some fn60
  | 61 => some fn61
  | 63 => some fn63
  | 64 => some fn64
  | 95 => some fn95
  | 96 => some fn96
  | 97 => some fn97
  | 101 => some fn101
  | 102 => some fn102
  | 105 => some fn105
  | 114 => some fn114
  | 122 => some fn122
  | 124 => some fn124
  | 125 => some fn125
  | _ => none
end Go.Ab


set_option maxRecDepth 100000
namespace Go.Ab
open Go
def rsh0 : FuncId → RSh × Bool
  | 10 => (.tup [.agg [.cl, .cl, .opt 1], .cl], false)
  | 14 => (.tup [.agg [.cl, .cl, .opt 1], .cl], true)
  | 88 => (.cl, false)
  | _ => (.cl, true)
def sh64 : IoSh := { args := [], ins := [], res := .un, outs := [], news := [], gone := [] }
def iof0 : FuncId → Option IoSh
  | 64 => some sh64
  | _ => none
def cfg0 (b : KB) (dsh : Nat → RSh) : KCfg := { b, rsh := rsh0, spF := fun f => f == 43 || f == 81 || f == 62 || f == 99 || f == 135 || f == 106 || f == 65 || f == 100, asT := fun f p => if f = 43 ∧ p = 66 then some (64, 1) else if f = 43 ∧ p = 117 then some (73, 1) else none, dsh, ioF := iof0 }
theorem run7 (B : KB) {E : Type} (h : Handler E) (dep : Nat) (e : E) (x0 : PV) (x1 : PV) :
    runK (cfg0 B (fun _ => .cl)) fn7 (.cl) h dep [.cv x0, .cv x1] e =
    chkO (valO x0) (chkO (valO x1) (bindO (callO B .cl (.fn 8 []) []) (fun z1 => bindO (selO x0 0 3 true) (fun z2 => bindO (callO B .cl (.fn 9 []) [z2]) (fun z3 => chkO (okSto z3 x0 0
    3) (bindO (selO x1 0 3 true) (fun z4 => bindO (callO B .cl (.fn 9 []) [z4]) (fun z5 => chkO (okSto z5 x1 0 3) (bindO (selO (stoP z3 x0 0) 2 1 false) (fun z6 => bindO (elemsO 1 z6)
    (fun z7 => chkO (leN (lenL z7) 2147483648) (bindO (selO (stoP z5 x1 0) 2 1 false) (fun z8 => bindO (elemsO 1 z8) (fun z9 => chkO (leN (lenL z9) 2147483648) (bindO (selO (stoP z3 x0
    0) 0 3 true) (fun z10 => bindO (callO B (.tup [.agg [.cl, .cl, .opt 1], .cl]) (.fn 14 []) [.str [43], z10]) (fun z11 => nilB (prjP (prjP z11 0) 2) (bindO (selO (stoP z3 x0 0) 0 3
    true) (fun z12 => bindO (selO (stoP z5 x1 0) 0 3 true) (fun z13 => bindO (callO B (.tup [.agg [.cl, .cl, .opt 1], .cl]) (.fn 10 []) [.str [226, 140, 136], z12, z13]) (fun z14 =>
    nilB (prjP (prjP z14 0) 2) (chkO (noUndef [z1, nI (lenL z7), nI (lenL z9), prjP z11 1, prjP z14 1, .int .i64 0]) (loopL (fun z15 => bindO (pureO (.len .slice (.c (nth z15.1 10))))
    (fun z16 => bindO (pureO (.bin .lss .num false (.c (nth z15.1 5)) (.c z16))) (fun z17 => iteP z17 (bindO (pureO (.idxAddr 1 (.c (nth z15.1 10)) (.c (nth z15.1 5)))) (fun z18 =>
    none)) (bindO (chkO (noUndef [nth z15.1 0, nI (natP (nth z15.1 1)), nI (natP (nth z15.1 2)), nth z15.1 3, nth z15.1 4, .int .i64 0]) (loopL (fun z19 => bindO (pureO (.len .slice
    (.c (nth z19.1 13)))) (fun z20 => bindO (pureO (.bin .lss .num false (.c (nth z19.1 5)) (.c z20))) (fun z21 => iteP z21 (bindO (pureO (.idxAddr 1 (.c (nth z19.1 13)) (.c (nth z19.1
    5)))) (fun z22 => none)) (bindO (iteP (nth z19.1 0) (bindO (selO (nth z19.1 6) 2 1 false) (fun z23 => bindO (lendO B .cl true 18 [z23, slO 1 1 (itemsP (nth z19.1 14)) 0 (natP (nth
    z19.1 1))]) (fun z24 => iteP z24 (bindO (selO (nth z19.1 7) 2 1 false) (fun z25 => bindO (lendO B .cl true 18 [z25, slO 1 1 (itemsP (nth z19.1 15)) 0 (natP (nth z19.1 2))]) (fun
    z26 => iteP z26 (bindO (pureO (.bin .eql .num true (.c (nth z19.1 3)) (.c (.int .i64 0)))) (fun z27 => iteP z27 (bindO (pureO (.bin .eql .num true (.c (nth z19.1 4)) (.c (.int .i64
    0)))) (fun z28 => iteP z28 (some (.bool true, z19.2)) (bindO (pureO (.len .slice (.c (nth z19.1 13)))) (fun z29 => bindO (pureO (.bin .eql .num true (.c z29) (.c (.int .i64 0))))
    (fun z30 => some (z30, z19.2)))))) (bindO (pureO (.len .slice (.c (nth z19.1 10)))) (fun z31 => bindO (pureO (.bin .eql .num true (.c z31) (.c (.int .i64 0)))) (fun z32 => iteP z32
    (bindO (pureO (.bin .eql .num true (.c (nth z19.1 4)) (.c (.int .i64 0)))) (fun z33 => iteP z33 (some (.bool true, z19.2)) (bindO (pureO (.len .slice (.c (nth z19.1 13)))) (fun z34
    => bindO (pureO (.bin .eql .num true (.c z34) (.c (.int .i64 0)))) (fun z35 => some (z35, z19.2)))))) (some (.bool false, z19.2))))))) (some (.bool false, z19.2))))) (some (.bool
    false, z19.2))))) (some (.bool false, z19.2))) (fun z36 => some (.inr z36)))))) ([nth z15.1 0, nI (natP (nth z15.1 1)), nI (natP (nth z15.1 2)), nth z15.1 3, nth z15.1 4, .int .i64
    0, nth z15.1 6, nth z15.1 7, nth z15.1 8, nth z15.1 9, nth z15.1 10, nth z15.1 11, nth z15.1 12, nth z15.1 13, .sl 1 (itemsP (nth z15.1 14)) false, .sl 1 (itemsP (nth z15.1 15))
    false], z15.2))) (fun z37 => some (.inr z37)))))) ([z1, nI (lenL z7), nI (lenL z9), prjP z11 1, prjP z14 1, .int .i64 0, stoP z3 x0 0, stoP z5 x1 0, prjP (prjP z11 0) 0, prjP (prjP
    z11 0) 1, prjP (prjP z11 0) 2, prjP (prjP z14 0) 0, prjP (prjP z14 0) 1, prjP (prjP z14 0) 2, .sl 1 z7 false, .sl 1 z9 false], e))) (chkO (noUndef [z1, nI (lenL z7), nI (lenL z9),
    prjP z11 1, prjP z14 1, .int .i64 0]) (loopL (fun z38 => bindO (pureO (.len .slice (.c (nth z38.1 10)))) (fun z39 => bindO (pureO (.bin .lss .num false (.c (nth z38.1 5)) (.c
    z39))) (fun z40 => iteP z40 (bindO (pureO (.idxAddr 1 (.c (nth z38.1 10)) (.c (nth z38.1 5)))) (fun z41 => none)) (bindO (chkO (noUndef [nth z38.1 0, nI (natP (nth z38.1 1)), nI
    (natP (nth z38.1 2)), nth z38.1 3, nth z38.1 4, .int .i64 0]) (loopL (fun z42 => bindO (pureO (.bin .lss .num false (.c (nth z42.1 5)) (.c (nI (natP (nth z42.1 13)))))) (fun z43 =>
    iteP z43 (bindO (natO (nth z42.1 5)) (fun z44 => chkO (ltN z44 (natP (nth z42.1 13))) (bindO (setO 1 (itemsP (nth z42.1 16)) (addN 0 z44) 0 1 (.int .i64 99)) (fun z45 => bindO
    (pureO (.bin .add .num true (.c (nth z42.1 5)) (.c (.int .i64 1)))) (fun z46 => some (.inl ([nth z42.1 0, nI (natP (nth z42.1 1)), nI (natP (nth z42.1 2)), nth z42.1 3, nth z42.1
    4, z46, nth z42.1 6, nth z42.1 7, nth z42.1 8, nth z42.1 9, nth z42.1 10, nth z42.1 11, nth z42.1 12, nI (natP (nth z42.1 13)), .sl 1 (itemsP (nth z42.1 14)) false, .sl 1 (itemsP
    (nth z42.1 15)) false, .sl 1 z45 false], z42.2))))))) (bindO (iteP (nth z42.1 0) (bindO (selO (nth z42.1 6) 2 1 false) (fun z47 => bindO (lendO B .cl true 18 [z47, slO 1 1 (itemsP
    (nth z42.1 14)) 0 (natP (nth z42.1 1))]) (fun z48 => iteP z48 (bindO (selO (nth z42.1 7) 2 1 false) (fun z49 => bindO (lendO B .cl true 18 [z49, slO 1 1 (itemsP (nth z42.1 15)) 0
    (natP (nth z42.1 2))]) (fun z50 => iteP z50 (bindO (pureO (.bin .eql .num true (.c (nth z42.1 3)) (.c (.int .i64 0)))) (fun z51 => iteP z51 (bindO (pureO (.bin .eql .num true (.c
    (nth z42.1 4)) (.c (.int .i64 0)))) (fun z52 => iteP z52 (some (.bool true, z42.2)) (bindO (pureO (.bin .eql .num true (.c (nI (natP (nth z42.1 13)))) (.c (.int .i64 0)))) (fun z53
    => some (z53, z42.2))))) (bindO (pureO (.len .slice (.c (nth z42.1 10)))) (fun z54 => bindO (pureO (.bin .eql .num true (.c z54) (.c (.int .i64 0)))) (fun z55 => iteP z55 (bindO
    (pureO (.bin .eql .num true (.c (nth z42.1 4)) (.c (.int .i64 0)))) (fun z56 => iteP z56 (some (.bool true, z42.2)) (bindO (pureO (.bin .eql .num true (.c (nI (natP (nth z42.1
    13)))) (.c (.int .i64 0)))) (fun z57 => some (z57, z42.2))))) (some (.bool false, z42.2))))))) (some (.bool false, z42.2))))) (some (.bool false, z42.2))))) (some (.bool false,
    z42.2))) (fun z58 => some (.inr z58))))) ([nth z38.1 0, nI (natP (nth z38.1 1)), nI (natP (nth z38.1 2)), nth z38.1 3, nth z38.1 4, .int .i64 0, nth z38.1 6, nth z38.1 7, nth z38.1
    8, nth z38.1 9, nth z38.1 10, nth z38.1 11, nth z38.1 12, nI (natP (nth z38.1 13)), .sl 1 (itemsP (nth z38.1 14)) false, .sl 1 (itemsP (nth z38.1 15)) false, .sl 1 (itemsP (nth
    z38.1 16)) false], z38.2))) (fun z59 => some (.inr z59)))))) ([z1, nI (lenL z7), nI (lenL z9), prjP z11 1, prjP z14 1, .int .i64 0, stoP z3 x0 0, stoP z5 x1 0, prjP (prjP z11 0) 0,
    prjP (prjP z11 0) 1, prjP (prjP z11 0) 2, prjP (prjP z14 0) 0, prjP (prjP z14 0) 1, nI (lenL (itemsP (prjP (prjP z14 0) 2))), .sl 1 z7 false, .sl 1 z9 false, .sl 1 (itemsP (prjP
    (prjP z14 0) 2)) false], e))))))) (bindO (selO (stoP z3 x0 0) 0 3 true) (fun z60 => bindO (selO (stoP z5 x1 0) 0 3 true) (fun z61 => bindO (callO B (.tup [.agg [.cl, .cl, .opt 1],
    .cl]) (.fn 10 []) [.str [226, 140, 136], z60, z61]) (fun z62 => nilB (prjP (prjP z62 0) 2) (chkO (noUndef [z1, nI (lenL z7), nI (lenL z9), prjP z11 1, prjP z62 1, .int .i64 0])
    (loopL (fun z63 => bindO (pureO (.bin .lss .num false (.c (nth z63.1 5)) (.c (nI (natP (nth z63.1 10)))))) (fun z64 => iteP z64 (bindO (natO (nth z63.1 5)) (fun z65 => chkO (ltN
    z65 (natP (nth z63.1 10))) (bindO (setO 1 (itemsP (nth z63.1 16)) (addN 0 z65) 0 1 (.int .i64 99)) (fun z66 => bindO (pureO (.bin .add .num true (.c (nth z63.1 5)) (.c (.int .i64
    1)))) (fun z67 => some (.inl ([nth z63.1 0, nI (natP (nth z63.1 1)), nI (natP (nth z63.1 2)), nth z63.1 3, nth z63.1 4, z67, nth z63.1 6, nth z63.1 7, nth z63.1 8, nth z63.1 9, nI
    (natP (nth z63.1 10)), nth z63.1 11, nth z63.1 12, nth z63.1 13, .sl 1 (itemsP (nth z63.1 14)) false, .sl 1 (itemsP (nth z63.1 15)) false, .sl 1 z66 false], z63.2))))))) (bindO
    (chkO (noUndef [nth z63.1 0, nI (natP (nth z63.1 1)), nI (natP (nth z63.1 2)), nth z63.1 3, nth z63.1 4, .int .i64 0]) (loopL (fun z68 => bindO (pureO (.len .slice (.c (nth z68.1
    13)))) (fun z69 => bindO (pureO (.bin .lss .num false (.c (nth z68.1 5)) (.c z69))) (fun z70 => iteP z70 (bindO (pureO (.idxAddr 1 (.c (nth z68.1 13)) (.c (nth z68.1 5)))) (fun z71
    => none)) (bindO (iteP (nth z68.1 0) (bindO (selO (nth z68.1 6) 2 1 false) (fun z72 => bindO (lendO B .cl true 18 [z72, slO 1 1 (itemsP (nth z68.1 14)) 0 (natP (nth z68.1 1))])
    (fun z73 => iteP z73 (bindO (selO (nth z68.1 7) 2 1 false) (fun z74 => bindO (lendO B .cl true 18 [z74, slO 1 1 (itemsP (nth z68.1 15)) 0 (natP (nth z68.1 2))]) (fun z75 => iteP
    z75 (bindO (pureO (.bin .eql .num true (.c (nth z68.1 3)) (.c (.int .i64 0)))) (fun z76 => iteP z76 (bindO (pureO (.bin .eql .num true (.c (nth z68.1 4)) (.c (.int .i64 0)))) (fun
    z77 => iteP z77 (some (.bool true, z68.2)) (bindO (pureO (.len .slice (.c (nth z68.1 13)))) (fun z78 => bindO (pureO (.bin .eql .num true (.c z78) (.c (.int .i64 0)))) (fun z79 =>
    some (z79, z68.2)))))) (bindO (pureO (.bin .eql .num true (.c (nI (natP (nth z68.1 10)))) (.c (.int .i64 0)))) (fun z80 => iteP z80 (bindO (pureO (.bin .eql .num true (.c (nth
    z68.1 4)) (.c (.int .i64 0)))) (fun z81 => iteP z81 (some (.bool true, z68.2)) (bindO (pureO (.len .slice (.c (nth z68.1 13)))) (fun z82 => bindO (pureO (.bin .eql .num true (.c
    z82) (.c (.int .i64 0)))) (fun z83 => some (z83, z68.2)))))) (some (.bool false, z68.2)))))) (some (.bool false, z68.2))))) (some (.bool false, z68.2))))) (some (.bool false,
    z68.2))) (fun z84 => some (.inr z84)))))) ([nth z63.1 0, nI (natP (nth z63.1 1)), nI (natP (nth z63.1 2)), nth z63.1 3, nth z63.1 4, .int .i64 0, nth z63.1 6, nth z63.1 7, nth
    z63.1 8, nth z63.1 9, nI (natP (nth z63.1 10)), nth z63.1 11, nth z63.1 12, nth z63.1 13, .sl 1 (itemsP (nth z63.1 14)) false, .sl 1 (itemsP (nth z63.1 15)) false, .sl 1 (itemsP
    (nth z63.1 16)) false], z63.2))) (fun z85 => some (.inr z85))))) ([z1, nI (lenL z7), nI (lenL z9), prjP z11 1, prjP z62 1, .int .i64 0, stoP z3 x0 0, stoP z5 x1 0, prjP (prjP z11
    0) 0, prjP (prjP z11 0) 1, nI (lenL (itemsP (prjP (prjP z11 0) 2))), prjP (prjP z62 0) 0, prjP (prjP z62 0) 1, prjP (prjP z62 0) 2, .sl 1 z7 false, .sl 1 z9 false, .sl 1 (itemsP
    (prjP (prjP z11 0) 2)) false], e))) (chkO (noUndef [z1, nI (lenL z7), nI (lenL z9), prjP z11 1, prjP z62 1, .int .i64 0]) (loopL (fun z86 => bindO (pureO (.bin .lss .num false (.c
    (nth z86.1 5)) (.c (nI (natP (nth z86.1 10)))))) (fun z87 => iteP z87 (bindO (natO (nth z86.1 5)) (fun z88 => chkO (ltN z88 (natP (nth z86.1 10))) (bindO (setO 1 (itemsP (nth z86.1
    16)) (addN 0 z88) 0 1 (.int .i64 99)) (fun z89 => bindO (pureO (.bin .add .num true (.c (nth z86.1 5)) (.c (.int .i64 1)))) (fun z90 => some (.inl ([nth z86.1 0, nI (natP (nth
    z86.1 1)), nI (natP (nth z86.1 2)), nth z86.1 3, nth z86.1 4, z90, nth z86.1 6, nth z86.1 7, nth z86.1 8, nth z86.1 9, nI (natP (nth z86.1 10)), nth z86.1 11, nth z86.1 12, nI
    (natP (nth z86.1 13)), .sl 1 (itemsP (nth z86.1 14)) false, .sl 1 (itemsP (nth z86.1 15)) false, .sl 1 z89 false, .sl 1 (itemsP (nth z86.1 17)) false], z86.2))))))) (bindO (chkO
    (noUndef [nth z86.1 0, nI (natP (nth z86.1 1)), nI (natP (nth z86.1 2)), nth z86.1 3, nth z86.1 4, .int .i64 0]) (loopL (fun z91 => bindO (pureO (.bin .lss .num false (.c (nth
    z91.1 5)) (.c (nI (natP (nth z91.1 13)))))) (fun z92 => iteP z92 (bindO (natO (nth z91.1 5)) (fun z93 => chkO (ltN z93 (natP (nth z91.1 13))) (bindO (setO 1 (itemsP (nth z91.1 17))
    (addN 0 z93) 0 1 (.int .i64 99)) (fun z94 => bindO (pureO (.bin .add .num true (.c (nth z91.1 5)) (.c (.int .i64 1)))) (fun z95 => some (.inl ([nth z91.1 0, nI (natP (nth z91.1
    1)), nI (natP (nth z91.1 2)), nth z91.1 3, nth z91.1 4, z95, nth z91.1 6, nth z91.1 7, nth z91.1 8, nth z91.1 9, nI (natP (nth z91.1 10)), nth z91.1 11, nth z91.1 12, nI (natP (nth
    z91.1 13)), .sl 1 (itemsP (nth z91.1 14)) false, .sl 1 (itemsP (nth z91.1 15)) false, .sl 1 (itemsP (nth z91.1 16)) false, .sl 1 z94 false], z91.2))))))) (bindO (iteP (nth z91.1 0)
    (bindO (selO (nth z91.1 6) 2 1 false) (fun z96 => bindO (lendO B .cl true 18 [z96, slO 1 1 (itemsP (nth z91.1 14)) 0 (natP (nth z91.1 1))]) (fun z97 => iteP z97 (bindO (selO (nth
    z91.1 7) 2 1 false) (fun z98 => bindO (lendO B .cl true 18 [z98, slO 1 1 (itemsP (nth z91.1 15)) 0 (natP (nth z91.1 2))]) (fun z99 => iteP z99 (bindO (pureO (.bin .eql .num true
    (.c (nth z91.1 3)) (.c (.int .i64 0)))) (fun z100 => iteP z100 (bindO (pureO (.bin .eql .num true (.c (nth z91.1 4)) (.c (.int .i64 0)))) (fun z101 => iteP z101 (some (.bool true,
    z91.2)) (bindO (pureO (.bin .eql .num true (.c (nI (natP (nth z91.1 13)))) (.c (.int .i64 0)))) (fun z102 => some (z102, z91.2))))) (bindO (pureO (.bin .eql .num true (.c (nI (natP
    (nth z91.1 10)))) (.c (.int .i64 0)))) (fun z103 => iteP z103 (bindO (pureO (.bin .eql .num true (.c (nth z91.1 4)) (.c (.int .i64 0)))) (fun z104 => iteP z104 (some (.bool true,
    z91.2)) (bindO (pureO (.bin .eql .num true (.c (nI (natP (nth z91.1 13)))) (.c (.int .i64 0)))) (fun z105 => some (z105, z91.2))))) (some (.bool false, z91.2)))))) (some (.bool
    false, z91.2))))) (some (.bool false, z91.2))))) (some (.bool false, z91.2))) (fun z106 => some (.inr z106))))) ([nth z86.1 0, nI (natP (nth z86.1 1)), nI (natP (nth z86.1 2)), nth
    z86.1 3, nth z86.1 4, .int .i64 0, nth z86.1 6, nth z86.1 7, nth z86.1 8, nth z86.1 9, nI (natP (nth z86.1 10)), nth z86.1 11, nth z86.1 12, nI (natP (nth z86.1 13)), .sl 1 (itemsP
    (nth z86.1 14)) false, .sl 1 (itemsP (nth z86.1 15)) false, .sl 1 (itemsP (nth z86.1 16)) false, .sl 1 (itemsP (nth z86.1 17)) false], z86.2))) (fun z107 => some (.inr z107)))))
    ([z1, nI (lenL z7), nI (lenL z9), prjP z11 1, prjP z62 1, .int .i64 0, stoP z3 x0 0, stoP z5 x1 0, prjP (prjP z11 0) 0, prjP (prjP z11 0) 1, nI (lenL (itemsP (prjP (prjP z11 0)
    2))), prjP (prjP z62 0) 0, prjP (prjP z62 0) 1, nI (lenL (itemsP (prjP (prjP z62 0) 2))), .sl 1 z7 false, .sl 1 z9 false, .sl 1 (itemsP (prjP (prjP z11 0) 2)) false, .sl 1 (itemsP
    (prjP (prjP z62 0) 2)) false], e)))))))))))))))))))))))) := by kernel_rfl
theorem run9 (B : KB) {E : Type} (h : Handler E) (dep : Nat) (e : E) (x0 : PV) :
    runK (cfg0 B (fun _ => .cl)) fn9 (.cl) h dep [.cv x0] e =
    chkO (valO x0) (bindO (selO x0 0 1 false) (fun z1 => bindO (selO x0 1 1 false) (fun z2 => bindO (selO x0 2 1 false) (fun z3 => bindO (selO x0 2 1 false) (fun z4 => bindO (pureO
    (.len .slice (.c z4))) (fun z5 => bindO (pureO (.minmax false [.c z5, .c (.int .i64 202)])) (fun z6 => bindO (pureO (.slice 1 (.c z3) none (some (.c z6)) none)) (fun z7 => bindO
    (pureO (.build [.bool false, .bool false, .nilS] [(0, (1, .c z1)), (1, (1, .c z2)), (2, (1, .c z7))])) (fun z8 => chkO (okCells z8 3) (some (.agg [cellP z8 0, cellP z8 1, cellP z8
    2], e))))))))))) := by kernel_rfl
theorem run10 (B : KB) {E : Type} (h : Handler E) (dep : Nat) (e : E) (x0 : PV) (x1 : PV) (x2 : PV) :
    runK (cfg0 B (fun _ => .cl)) fn10 (.tup [.agg [.cl, .cl, .opt 1], .cl]) h dep [.cv x0, .cv x1, .cv x2] e =
    chkO (valO x0) (chkO (valO x1) (chkO (valO x2) (bindO (selO x1 0 3 true) (fun z1 => bindO (selO x2 0 3 true) (fun z2 => bindO (pureO (.build [.bool false, .bool false, .nilS, .bool
    false, .bool false, .nilS] [(0, (3, .c z1)), (3, (3, .c z2))])) (fun z3 => chkO (okCells z3 6) (bindO (selO x1 0 3 true) (fun z4 => bindO (selO x2 0 3 true) (fun z5 => chkO (okSls
    3 [z4, z5]) (bindO (lendO B .cl true 21 [slO 3 3 [z4, z5] 0 (lenL [z4, z5])]) (fun z6 => bindO (pureO (.bin .neq .iface true (.c z6) (.c .nilI))) (fun z7 => iteP z7 (bindO (pureO
    (.build [.bool false, .bool false, .nilS] [])) (fun z8 => bindO (callO B .cl (.fn 22 []) [z6]) (fun z9 => chkO (okCells z8 3) (chkO (okCells z9 1) (nilO (cellP z8 2) (some (.tup
    [.agg [cellP z8 0, cellP z8 1, .nilS], cellP z9 0], e))))))) (bindO (selO x0 0 1 false) (fun z10 => bindO (callO B .cl (.fn 23 []) [z10]) (fun z11 => bindO (pureO (.un .not (.c
    z11))) (fun z12 => iteP z12 (bindO (pureO (.build [.bool false, .bool false, .nilS] [])) (fun z13 => chkO (okCells z13 3) (chkO (okCells (.int .i64 102) 1) (nilO (cellP z13 2)
    (some (.tup [.agg [cellP z13 0, cellP z13 1, .nilS], cellP (.int .i64 102) 0], e)))))) (bindO (callO B .cl (.fn 24 []) [.agg [cellP z3 0, cellP z3 1, cellP z3 2, cellP z3 3, cellP
    z3 4, cellP z3 5]]) (fun z14 => bindO (pureO (.extract 0 (.c z14))) (fun z15 => bindO (pureO (.extract 1 (.c z14))) (fun z16 => bindO (selO x0 0 1 false) (fun z17 => bindO (pureO
    (.bin .eql .str true (.c z17) (.c (.str [61])))) (fun z18 => iteP z18 (bindO (pureO (.bin .neq .iface true (.c z16) (.c .nilI))) (fun z19 => iteP z19 (bindO (pureO (.build [.bool
    false, .bool false, .nilS] [])) (fun z20 => bindO (callO B .cl (.fn 22 []) [z16]) (fun z21 => chkO (okCells z20 3) (chkO (okCells z21 1) (nilO (cellP z20 2) (some (.tup [.agg
    [cellP z20 0, cellP z20 1, .nilS], cellP z21 0], e))))))) (bindO (selO x1 0 1 false) (fun z22 => iteP z22 (bindO (pureO (.build [.bool false, .bool false, .nilS] [(0, (1, .c (.bool
    true)))])) (fun z23 => chkO (okCells z23 3) (bindO (callO B .cl (.fn 26 []) [.agg [cellP z3 0, cellP z3 1, cellP z3 2, cellP z3 3, cellP z3 4, cellP z3 5], z15]) (fun z24 => nilO
    (cellP z23 2) (bindO (rangeO B (onRound dep h (fun z25 => fun z26 => fun z27 => chkO (okArgs z26 2) (bindO (iteP (nth z25 8) (bindO (selO (nth z25 2) 1 1 false) (fun z28 => bindO
    (selO (nth z25 3) 1 1 false) (fun z29 => bindO (pureO (.bin .neq .bool false (.c z28) (.c z29))) (fun z30 => some z30)))) (some (.bool false))) (fun z31 => iteP z31 (bindO (selO
    (nth z25 1) 0 1 false) (fun z32 => bindO (callO B .cl (.fn 27 []) [z32, .int .i64 0, .int .i64 1]) (fun z33 => bindO (pureO (.extract 0 (.c z33))) (fun z34 => bindO (pureO
    (.extract 1 (.c z33))) (fun z35 => bindO (pureO (.bin .neq .num true (.c z35) (.c (.int .i64 0)))) (fun z36 => iteP z36 (bindO (pureO (.build [.bool false, .bool false, .nilS] []))
    (fun z37 => chkO (okCells z37 3) (chkO (okCells z35 1) (some (false, ([nth z25 0, nth z25 1, nth z25 2, nth z25 3, cellP z37 0, cellP z37 1, cellP z37 2, cellP z35 0, nth z25 8,
    nth z25 9, nth z25 10, nI (natP (nth z25 11)), .sl 1 (itemsP (nth z25 12)) false], (some .ret, z27))))))) (chkO (okSls 1 [z34]) (chkO (leN (addN 0 (lenL [z34])) (lenL [z34])) (chkO
    (andB (leN (natP (nth z25 11)) (lenL (itemsP (nth z25 12)))) (leN (addN (natP (nth z25 11)) (lenL (takeL (lenL [z34]) (dropL 0 [z34])))) 2147483648)) (some (true, ([nth z25 0, nth
    z25 1, nth z25 2, nth z25 3, nth z25 4, nth z25 5, nth z25 6, nth z25 7, nth z25 8, nth z25 9, nth z25 10, nI (addN (natP (nth z25 11)) (lenL (takeL (lenL [z34]) (dropL 0
    [z34])))), .sl 1 (catL (takeL (natP (nth z25 11)) (itemsP (nth z25 12))) (takeL (lenL [z34]) (dropL 0 [z34]))) false], (none, z27))))))))))))) (bindO (selO (nth z25 1) 0 1 false)
    (fun z38 => bindO (callO B .cl (.fn 27 []) [z38, nth z26 0, nth z26 1]) (fun z39 => bindO (pureO (.extract 0 (.c z39))) (fun z40 => bindO (pureO (.extract 1 (.c z39))) (fun z41 =>
    bindO (pureO (.bin .neq .num true (.c z41) (.c (.int .i64 0)))) (fun z42 => iteP z42 (bindO (pureO (.build [.bool false, .bool false, .nilS] [])) (fun z43 => chkO (okCells z43 3)
    (chkO (okCells z41 1) (some (false, ([nth z25 0, nth z25 1, nth z25 2, nth z25 3, cellP z43 0, cellP z43 1, cellP z43 2, cellP z41 0, nth z25 8, nth z25 9, nth z25 10, nI (natP
    (nth z25 11)), .sl 1 (itemsP (nth z25 12)) false], (some .ret, z27))))))) (chkO (okSls 1 [z40]) (chkO (leN (addN 0 (lenL [z40])) (lenL [z40])) (chkO (andB (leN (natP (nth z25 11))
    (lenL (itemsP (nth z25 12)))) (leN (addN (natP (nth z25 11)) (lenL (takeL (lenL [z40]) (dropL 0 [z40])))) 2147483648)) (some (true, ([nth z25 0, nth z25 1, nth z25 2, nth z25 3,
    nth z25 4, nth z25 5, nth z25 6, nth z25 7, nth z25 8, nth z25 9, nth z25 10, nI (addN (natP (nth z25 11)) (lenL (takeL (lenL [z40]) (dropL 0 [z40])))), .sl 1 (catL (takeL (natP
    (nth z25 11)) (itemsP (nth z25 12))) (takeL (lenL [z40]) (dropL 0 [z40]))) false], (none, z27))))))))))))))))) dep z24 ([z24, x0, x1, x2, .bool false, .bool false, .nilS, .int .i64
    0, .bool true, cellP z23 0, cellP z23 1, nI 0, .sl 1 [] false], (none, e))) (fun z44 => iteB (isNoneE z44.2.1) (chkO (okCells (.int .i64 0) 1) (chkO (eqN (natP (nth z44.1 11))
    (lenL (itemsP (nth z44.1 12)))) (some (.tup [.agg [nth z44.1 9, nth z44.1 10, .sl 1 (itemsP (nth z44.1 12)) false], cellP (.int .i64 0) 0], z44.2.2)))) (iteB (isRetE z44.2.1) (nilO
    (nth z44.1 6) (some (.tup [.agg [nth z44.1 4, nth z44.1 5, .nilS], nth z44.1 7], z44.2.2))) none))))))) (bindO (selO x2 0 1 false) (fun z45 => bindO (pureO (.build [.bool false,
    .bool false, .nilS] [(0, (1, .c z45))])) (fun z46 => chkO (okCells z46 3) (bindO (callO B .cl (.fn 26 []) [.agg [cellP z3 0, cellP z3 1, cellP z3 2, cellP z3 3, cellP z3 4, cellP
    z3 5], z15]) (fun z47 => nilO (cellP z46 2) (bindO (rangeO B (onRound dep h (fun z48 => fun z49 => fun z50 => chkO (okArgs z49 2) (bindO (iteP (nth z48 8) (bindO (selO (nth z48 2)
    1 1 false) (fun z51 => bindO (selO (nth z48 3) 1 1 false) (fun z52 => bindO (pureO (.bin .neq .bool false (.c z51) (.c z52))) (fun z53 => some z53)))) (some (.bool false))) (fun
    z54 => iteP z54 (bindO (selO (nth z48 1) 0 1 false) (fun z55 => bindO (callO B .cl (.fn 27 []) [z55, .int .i64 0, .int .i64 1]) (fun z56 => bindO (pureO (.extract 0 (.c z56))) (fun
    z57 => bindO (pureO (.extract 1 (.c z56))) (fun z58 => bindO (pureO (.bin .neq .num true (.c z58) (.c (.int .i64 0)))) (fun z59 => iteP z59 (bindO (pureO (.build [.bool false,
    .bool false, .nilS] [])) (fun z60 => chkO (okCells z60 3) (chkO (okCells z58 1) (some (false, ([nth z48 0, nth z48 1, nth z48 2, nth z48 3, cellP z60 0, cellP z60 1, cellP z60 2,
    cellP z58 0, nth z48 8, nth z48 9, nth z48 10, nI (natP (nth z48 11)), .sl 1 (itemsP (nth z48 12)) false], (some .ret, z50))))))) (chkO (okSls 1 [z57]) (chkO (leN (addN 0 (lenL
    [z57])) (lenL [z57])) (chkO (andB (leN (natP (nth z48 11)) (lenL (itemsP (nth z48 12)))) (leN (addN (natP (nth z48 11)) (lenL (takeL (lenL [z57]) (dropL 0 [z57])))) 2147483648))
    (some (true, ([nth z48 0, nth z48 1, nth z48 2, nth z48 3, nth z48 4, nth z48 5, nth z48 6, nth z48 7, nth z48 8, nth z48 9, nth z48 10, nI (addN (natP (nth z48 11)) (lenL (takeL
    (lenL [z57]) (dropL 0 [z57])))), .sl 1 (catL (takeL (natP (nth z48 11)) (itemsP (nth z48 12))) (takeL (lenL [z57]) (dropL 0 [z57]))) false], (none, z50))))))))))))) (bindO (selO
    (nth z48 1) 0 1 false) (fun z61 => bindO (callO B .cl (.fn 27 []) [z61, nth z49 0, nth z49 1]) (fun z62 => bindO (pureO (.extract 0 (.c z62))) (fun z63 => bindO (pureO (.extract 1
    (.c z62))) (fun z64 => bindO (pureO (.bin .neq .num true (.c z64) (.c (.int .i64 0)))) (fun z65 => iteP z65 (bindO (pureO (.build [.bool false, .bool false, .nilS] [])) (fun z66 =>
    chkO (okCells z66 3) (chkO (okCells z64 1) (some (false, ([nth z48 0, nth z48 1, nth z48 2, nth z48 3, cellP z66 0, cellP z66 1, cellP z66 2, cellP z64 0, nth z48 8, nth z48 9, nth
    z48 10, nI (natP (nth z48 11)), .sl 1 (itemsP (nth z48 12)) false], (some .ret, z50))))))) (chkO (okSls 1 [z63]) (chkO (leN (addN 0 (lenL [z63])) (lenL [z63])) (chkO (andB (leN
    (natP (nth z48 11)) (lenL (itemsP (nth z48 12)))) (leN (addN (natP (nth z48 11)) (lenL (takeL (lenL [z63]) (dropL 0 [z63])))) 2147483648)) (some (true, ([nth z48 0, nth z48 1, nth
    z48 2, nth z48 3, nth z48 4, nth z48 5, nth z48 6, nth z48 7, nth z48 8, nth z48 9, nth z48 10, nI (addN (natP (nth z48 11)) (lenL (takeL (lenL [z63]) (dropL 0 [z63])))), .sl 1
    (catL (takeL (natP (nth z48 11)) (itemsP (nth z48 12))) (takeL (lenL [z63]) (dropL 0 [z63]))) false], (none, z50))))))))))))))))) dep z47 ([z47, x0, x1, x2, .bool false, .bool
    false, .nilS, .int .i64 0, .bool true, cellP z46 0, cellP z46 1, nI 0, .sl 1 [] false], (none, e))) (fun z67 => iteB (isNoneE z67.2.1) (chkO (okCells (.int .i64 0) 1) (chkO (eqN
    (natP (nth z67.1 11)) (lenL (itemsP (nth z67.1 12)))) (some (.tup [.agg [nth z67.1 9, nth z67.1 10, .sl 1 (itemsP (nth z67.1 12)) false], cellP (.int .i64 0) 0], z67.2.2)))) (iteB
    (isRetE z67.2.1) (nilO (nth z67.1 6) (some (.tup [.agg [nth z67.1 4, nth z67.1 5, .nilS], nth z67.1 7], z67.2.2))) none)))))))))))) (bindO (selO x0 0 1 false) (fun z68 => bindO
    (pureO (.bin .eql .str true (.c z68) (.c (.str [226, 137, 160])))) (fun z69 => chkO (okCells z69 1) (bindO (pureO (.bin .neq .iface true (.c z16) (.c .nilI))) (fun z70 => iteP z70
    (bindO (pureO (.build [.bool false, .bool false, .nilS] [])) (fun z71 => bindO (callO B .cl (.fn 22 []) [z16]) (fun z72 => chkO (okCells z71 3) (chkO (okCells z72 1) (nilO (cellP
    z71 2) (some (.tup [.agg [cellP z71 0, cellP z71 1, .nilS], cellP z72 0], e))))))) (bindO (pureO (.un .not (.c (cellP z69 0)))) (fun z73 => iteP z73 (bindO (selO x1 0 3 true) (fun
    z74 => bindO (callO B .cl (.fn 25 []) [z74]) (fun z75 => iteP z75 (bindO (pureO (.build [.bool false, .bool false, .nilS] [])) (fun z76 => chkO (okCells z76 3) (chkO (okCells (.int
    .i64 102) 1) (nilO (cellP z76 2) (some (.tup [.agg [cellP z76 0, cellP z76 1, .nilS], cellP (.int .i64 102) 0], e)))))) (bindO (selO x2 0 3 true) (fun z77 => bindO (callO B .cl
    (.fn 25 []) [z77]) (fun z78 => iteP z78 (bindO (pureO (.build [.bool false, .bool false, .nilS] [])) (fun z79 => chkO (okCells z79 3) (chkO (okCells (.int .i64 102) 1) (nilO (cellP
    z79 2) (some (.tup [.agg [cellP z79 0, cellP z79 1, .nilS], cellP (.int .i64 102) 0], e)))))) (bindO (selO x1 0 1 false) (fun z80 => iteP z80 (bindO (pureO (.build [.bool false,
    .bool false, .nilS] [(0, (1, .c (.bool true)))])) (fun z81 => chkO (okCells z81 3) (bindO (callO B .cl (.fn 26 []) [.agg [cellP z3 0, cellP z3 1, cellP z3 2, cellP z3 3, cellP z3
    4, cellP z3 5], z15]) (fun z82 => nilO (cellP z81 2) (bindO (rangeO B (onRound dep h (fun z83 => fun z84 => fun z85 => chkO (okArgs z84 2) (bindO (iteP (nth z83 8) (bindO (selO
    (nth z83 2) 1 1 false) (fun z86 => bindO (selO (nth z83 3) 1 1 false) (fun z87 => bindO (pureO (.bin .neq .bool false (.c z86) (.c z87))) (fun z88 => some z88)))) (some (.bool
    false))) (fun z89 => iteP z89 (bindO (selO (nth z83 1) 0 1 false) (fun z90 => bindO (callO B .cl (.fn 27 []) [z90, .int .i64 0, .int .i64 1]) (fun z91 => bindO (pureO (.extract 0
    (.c z91))) (fun z92 => bindO (pureO (.extract 1 (.c z91))) (fun z93 => bindO (pureO (.bin .neq .num true (.c z93) (.c (.int .i64 0)))) (fun z94 => iteP z94 (bindO (pureO (.build
    [.bool false, .bool false, .nilS] [])) (fun z95 => chkO (okCells z95 3) (chkO (okCells z93 1) (some (false, ([nth z83 0, nth z83 1, nth z83 2, nth z83 3, cellP z95 0, cellP z95 1,
    cellP z95 2, cellP z93 0, nth z83 8, nth z83 9, nth z83 10, nI (natP (nth z83 11)), .sl 1 (itemsP (nth z83 12)) false], (some .ret, z85))))))) (chkO (okSls 1 [z92]) (chkO (leN
    (addN 0 (lenL [z92])) (lenL [z92])) (chkO (andB (leN (natP (nth z83 11)) (lenL (itemsP (nth z83 12)))) (leN (addN (natP (nth z83 11)) (lenL (takeL (lenL [z92]) (dropL 0 [z92]))))
    2147483648)) (some (true, ([nth z83 0, nth z83 1, nth z83 2, nth z83 3, nth z83 4, nth z83 5, nth z83 6, nth z83 7, nth z83 8, nth z83 9, nth z83 10, nI (addN (natP (nth z83 11))
    (lenL (takeL (lenL [z92]) (dropL 0 [z92])))), .sl 1 (catL (takeL (natP (nth z83 11)) (itemsP (nth z83 12))) (takeL (lenL [z92]) (dropL 0 [z92]))) false], (none, z85)))))))))))))
    (bindO (selO (nth z83 1) 0 1 false) (fun z96 => bindO (callO B .cl (.fn 27 []) [z96, nth z84 0, nth z84 1]) (fun z97 => bindO (pureO (.extract 0 (.c z97))) (fun z98 => bindO (pureO
    (.extract 1 (.c z97))) (fun z99 => bindO (pureO (.bin .neq .num true (.c z99) (.c (.int .i64 0)))) (fun z100 => iteP z100 (bindO (pureO (.build [.bool false, .bool false, .nilS]
    [])) (fun z101 => chkO (okCells z101 3) (chkO (okCells z99 1) (some (false, ([nth z83 0, nth z83 1, nth z83 2, nth z83 3, cellP z101 0, cellP z101 1, cellP z101 2, cellP z99 0, nth
    z83 8, nth z83 9, nth z83 10, nI (natP (nth z83 11)), .sl 1 (itemsP (nth z83 12)) false], (some .ret, z85))))))) (chkO (okSls 1 [z98]) (chkO (leN (addN 0 (lenL [z98])) (lenL
    [z98])) (chkO (andB (leN (natP (nth z83 11)) (lenL (itemsP (nth z83 12)))) (leN (addN (natP (nth z83 11)) (lenL (takeL (lenL [z98]) (dropL 0 [z98])))) 2147483648)) (some (true,
    ([nth z83 0, nth z83 1, nth z83 2, nth z83 3, nth z83 4, nth z83 5, nth z83 6, nth z83 7, nth z83 8, nth z83 9, nth z83 10, nI (addN (natP (nth z83 11)) (lenL (takeL (lenL [z98])
    (dropL 0 [z98])))), .sl 1 (catL (takeL (natP (nth z83 11)) (itemsP (nth z83 12))) (takeL (lenL [z98]) (dropL 0 [z98]))) false], (none, z85))))))))))))))))) dep z82 ([z82, x0, x1,
    x2, .bool false, .bool false, .nilS, .int .i64 0, cellP z69 0, cellP z81 0, cellP z81 1, nI 0, .sl 1 [] false], (none, e))) (fun z102 => iteB (isNoneE z102.2.1) (chkO (okCells
    (.int .i64 0) 1) (chkO (eqN (natP (nth z102.1 11)) (lenL (itemsP (nth z102.1 12)))) (some (.tup [.agg [nth z102.1 9, nth z102.1 10, .sl 1 (itemsP (nth z102.1 12)) false], cellP
    (.int .i64 0) 0], z102.2.2)))) (iteB (isRetE z102.2.1) (nilO (nth z102.1 6) (some (.tup [.agg [nth z102.1 4, nth z102.1 5, .nilS], nth z102.1 7], z102.2.2))) none))))))) (bindO
    (selO x2 0 1 false) (fun z103 => bindO (pureO (.build [.bool false, .bool false, .nilS] [(0, (1, .c z103))])) (fun z104 => chkO (okCells z104 3) (bindO (callO B .cl (.fn 26 [])
    [.agg [cellP z3 0, cellP z3 1, cellP z3 2, cellP z3 3, cellP z3 4, cellP z3 5], z15]) (fun z105 => nilO (cellP z104 2) (bindO (rangeO B (onRound dep h (fun z106 => fun z107 => fun
    z108 => chkO (okArgs z107 2) (bindO (iteP (nth z106 8) (bindO (selO (nth z106 2) 1 1 false) (fun z109 => bindO (selO (nth z106 3) 1 1 false) (fun z110 => bindO (pureO (.bin .neq
    .bool false (.c z109) (.c z110))) (fun z111 => some z111)))) (some (.bool false))) (fun z112 => iteP z112 (bindO (selO (nth z106 1) 0 1 false) (fun z113 => bindO (callO B .cl (.fn
    27 []) [z113, .int .i64 0, .int .i64 1]) (fun z114 => bindO (pureO (.extract 0 (.c z114))) (fun z115 => bindO (pureO (.extract 1 (.c z114))) (fun z116 => bindO (pureO (.bin .neq
    .num true (.c z116) (.c (.int .i64 0)))) (fun z117 => iteP z117 (bindO (pureO (.build [.bool false, .bool false, .nilS] [])) (fun z118 => chkO (okCells z118 3) (chkO (okCells z116
    1) (some (false, ([nth z106 0, nth z106 1, nth z106 2, nth z106 3, cellP z118 0, cellP z118 1, cellP z118 2, cellP z116 0, nth z106 8, nth z106 9, nth z106 10, nI (natP (nth z106
    11)), .sl 1 (itemsP (nth z106 12)) false], (some .ret, z108))))))) (chkO (okSls 1 [z115]) (chkO (leN (addN 0 (lenL [z115])) (lenL [z115])) (chkO (andB (leN (natP (nth z106 11))
    (lenL (itemsP (nth z106 12)))) (leN (addN (natP (nth z106 11)) (lenL (takeL (lenL [z115]) (dropL 0 [z115])))) 2147483648)) (some (true, ([nth z106 0, nth z106 1, nth z106 2, nth
    z106 3, nth z106 4, nth z106 5, nth z106 6, nth z106 7, nth z106 8, nth z106 9, nth z106 10, nI (addN (natP (nth z106 11)) (lenL (takeL (lenL [z115]) (dropL 0 [z115])))), .sl 1
    (catL (takeL (natP (nth z106 11)) (itemsP (nth z106 12))) (takeL (lenL [z115]) (dropL 0 [z115]))) false], (none, z108))))))))))))) (bindO (selO (nth z106 1) 0 1 false) (fun z119 =>
    bindO (callO B .cl (.fn 27 []) [z119, nth z107 0, nth z107 1]) (fun z120 => bindO (pureO (.extract 0 (.c z120))) (fun z121 => bindO (pureO (.extract 1 (.c z120))) (fun z122 =>
    bindO (pureO (.bin .neq .num true (.c z122) (.c (.int .i64 0)))) (fun z123 => iteP z123 (bindO (pureO (.build [.bool false, .bool false, .nilS] [])) (fun z124 => chkO (okCells z124
    3) (chkO (okCells z122 1) (some (false, ([nth z106 0, nth z106 1, nth z106 2, nth z106 3, cellP z124 0, cellP z124 1, cellP z124 2, cellP z122 0, nth z106 8, nth z106 9, nth z106
    10, nI (natP (nth z106 11)), .sl 1 (itemsP (nth z106 12)) false], (some .ret, z108))))))) (chkO (okSls 1 [z121]) (chkO (leN (addN 0 (lenL [z121])) (lenL [z121])) (chkO (andB (leN
    (natP (nth z106 11)) (lenL (itemsP (nth z106 12)))) (leN (addN (natP (nth z106 11)) (lenL (takeL (lenL [z121]) (dropL 0 [z121])))) 2147483648)) (some (true, ([nth z106 0, nth z106
    1, nth z106 2, nth z106 3, nth z106 4, nth z106 5, nth z106 6, nth z106 7, nth z106 8, nth z106 9, nth z106 10, nI (addN (natP (nth z106 11)) (lenL (takeL (lenL [z121]) (dropL 0
    [z121])))), .sl 1 (catL (takeL (natP (nth z106 11)) (itemsP (nth z106 12))) (takeL (lenL [z121]) (dropL 0 [z121]))) false], (none, z108))))))))))))))))) dep z105 ([z105, x0, x1,
    x2, .bool false, .bool false, .nilS, .int .i64 0, cellP z69 0, cellP z104 0, cellP z104 1, nI 0, .sl 1 [] false], (none, e))) (fun z125 => iteB (isNoneE z125.2.1) (chkO (okCells
    (.int .i64 0) 1) (chkO (eqN (natP (nth z125.1 11)) (lenL (itemsP (nth z125.1 12)))) (some (.tup [.agg [nth z125.1 9, nth z125.1 10, .sl 1 (itemsP (nth z125.1 12)) false], cellP
    (.int .i64 0) 0], z125.2.2)))) (iteB (isRetE z125.2.1) (nilO (nth z125.1 6) (some (.tup [.agg [nth z125.1 4, nth z125.1 5, .nilS], nth z125.1 7], z125.2.2))) none))))))))))))))))
    (bindO (selO x1 0 1 false) (fun z126 => iteP z126 (bindO (pureO (.build [.bool false, .bool false, .nilS] [(0, (1, .c (.bool true)))])) (fun z127 => chkO (okCells z127 3) (bindO
    (callO B .cl (.fn 26 []) [.agg [cellP z3 0, cellP z3 1, cellP z3 2, cellP z3 3, cellP z3 4, cellP z3 5], z15]) (fun z128 => nilO (cellP z127 2) (bindO (rangeO B (onRound dep h (fun
    z129 => fun z130 => fun z131 => chkO (okArgs z130 2) (bindO (iteP (nth z129 8) (bindO (selO (nth z129 2) 1 1 false) (fun z132 => bindO (selO (nth z129 3) 1 1 false) (fun z133 =>
    bindO (pureO (.bin .neq .bool false (.c z132) (.c z133))) (fun z134 => some z134)))) (some (.bool false))) (fun z135 => iteP z135 (bindO (selO (nth z129 1) 0 1 false) (fun z136 =>
    bindO (callO B .cl (.fn 27 []) [z136, .int .i64 0, .int .i64 1]) (fun z137 => bindO (pureO (.extract 0 (.c z137))) (fun z138 => bindO (pureO (.extract 1 (.c z137))) (fun z139 =>
    bindO (pureO (.bin .neq .num true (.c z139) (.c (.int .i64 0)))) (fun z140 => iteP z140 (bindO (pureO (.build [.bool false, .bool false, .nilS] [])) (fun z141 => chkO (okCells z141
    3) (chkO (okCells z139 1) (some (false, ([nth z129 0, nth z129 1, nth z129 2, nth z129 3, cellP z141 0, cellP z141 1, cellP z141 2, cellP z139 0, nth z129 8, nth z129 9, nth z129
    10, nI (natP (nth z129 11)), .sl 1 (itemsP (nth z129 12)) false], (some .ret, z131))))))) (chkO (okSls 1 [z138]) (chkO (leN (addN 0 (lenL [z138])) (lenL [z138])) (chkO (andB (leN
    (natP (nth z129 11)) (lenL (itemsP (nth z129 12)))) (leN (addN (natP (nth z129 11)) (lenL (takeL (lenL [z138]) (dropL 0 [z138])))) 2147483648)) (some (true, ([nth z129 0, nth z129
    1, nth z129 2, nth z129 3, nth z129 4, nth z129 5, nth z129 6, nth z129 7, nth z129 8, nth z129 9, nth z129 10, nI (addN (natP (nth z129 11)) (lenL (takeL (lenL [z138]) (dropL 0
    [z138])))), .sl 1 (catL (takeL (natP (nth z129 11)) (itemsP (nth z129 12))) (takeL (lenL [z138]) (dropL 0 [z138]))) false], (none, z131))))))))))))) (bindO (selO (nth z129 1) 0 1
    false) (fun z142 => bindO (callO B .cl (.fn 27 []) [z142, nth z130 0, nth z130 1]) (fun z143 => bindO (pureO (.extract 0 (.c z143))) (fun z144 => bindO (pureO (.extract 1 (.c
    z143))) (fun z145 => bindO (pureO (.bin .neq .num true (.c z145) (.c (.int .i64 0)))) (fun z146 => iteP z146 (bindO (pureO (.build [.bool false, .bool false, .nilS] [])) (fun z147
    => chkO (okCells z147 3) (chkO (okCells z145 1) (some (false, ([nth z129 0, nth z129 1, nth z129 2, nth z129 3, cellP z147 0, cellP z147 1, cellP z147 2, cellP z145 0, nth z129 8,
    nth z129 9, nth z129 10, nI (natP (nth z129 11)), .sl 1 (itemsP (nth z129 12)) false], (some .ret, z131))))))) (chkO (okSls 1 [z144]) (chkO (leN (addN 0 (lenL [z144])) (lenL
    [z144])) (chkO (andB (leN (natP (nth z129 11)) (lenL (itemsP (nth z129 12)))) (leN (addN (natP (nth z129 11)) (lenL (takeL (lenL [z144]) (dropL 0 [z144])))) 2147483648)) (some
    (true, ([nth z129 0, nth z129 1, nth z129 2, nth z129 3, nth z129 4, nth z129 5, nth z129 6, nth z129 7, nth z129 8, nth z129 9, nth z129 10, nI (addN (natP (nth z129 11)) (lenL
    (takeL (lenL [z144]) (dropL 0 [z144])))), .sl 1 (catL (takeL (natP (nth z129 11)) (itemsP (nth z129 12))) (takeL (lenL [z144]) (dropL 0 [z144]))) false], (none,
    z131))))))))))))))))) dep z128 ([z128, x0, x1, x2, .bool false, .bool false, .nilS, .int .i64 0, cellP z69 0, cellP z127 0, cellP z127 1, nI 0, .sl 1 [] false], (none, e))) (fun
    z148 => iteB (isNoneE z148.2.1) (chkO (okCells (.int .i64 0) 1) (chkO (eqN (natP (nth z148.1 11)) (lenL (itemsP (nth z148.1 12)))) (some (.tup [.agg [nth z148.1 9, nth z148.1 10,
    .sl 1 (itemsP (nth z148.1 12)) false], cellP (.int .i64 0) 0], z148.2.2)))) (iteB (isRetE z148.2.1) (nilO (nth z148.1 6) (some (.tup [.agg [nth z148.1 4, nth z148.1 5, .nilS], nth
    z148.1 7], z148.2.2))) none))))))) (bindO (selO x2 0 1 false) (fun z149 => bindO (pureO (.build [.bool false, .bool false, .nilS] [(0, (1, .c z149))])) (fun z150 => chkO (okCells
    z150 3) (bindO (callO B .cl (.fn 26 []) [.agg [cellP z3 0, cellP z3 1, cellP z3 2, cellP z3 3, cellP z3 4, cellP z3 5], z15]) (fun z151 => nilO (cellP z150 2) (bindO (rangeO B
    (onRound dep h (fun z152 => fun z153 => fun z154 => chkO (okArgs z153 2) (bindO (iteP (nth z152 8) (bindO (selO (nth z152 2) 1 1 false) (fun z155 => bindO (selO (nth z152 3) 1 1
    false) (fun z156 => bindO (pureO (.bin .neq .bool false (.c z155) (.c z156))) (fun z157 => some z157)))) (some (.bool false))) (fun z158 => iteP z158 (bindO (selO (nth z152 1) 0 1
    false) (fun z159 => bindO (callO B .cl (.fn 27 []) [z159, .int .i64 0, .int .i64 1]) (fun z160 => bindO (pureO (.extract 0 (.c z160))) (fun z161 => bindO (pureO (.extract 1 (.c
    z160))) (fun z162 => bindO (pureO (.bin .neq .num true (.c z162) (.c (.int .i64 0)))) (fun z163 => iteP z163 (bindO (pureO (.build [.bool false, .bool false, .nilS] [])) (fun z164
    => chkO (okCells z164 3) (chkO (okCells z162 1) (some (false, ([nth z152 0, nth z152 1, nth z152 2, nth z152 3, cellP z164 0, cellP z164 1, cellP z164 2, cellP z162 0, nth z152 8,
    nth z152 9, nth z152 10, nI (natP (nth z152 11)), .sl 1 (itemsP (nth z152 12)) false], (some .ret, z154))))))) (chkO (okSls 1 [z161]) (chkO (leN (addN 0 (lenL [z161])) (lenL
    [z161])) (chkO (andB (leN (natP (nth z152 11)) (lenL (itemsP (nth z152 12)))) (leN (addN (natP (nth z152 11)) (lenL (takeL (lenL [z161]) (dropL 0 [z161])))) 2147483648)) (some
    (true, ([nth z152 0, nth z152 1, nth z152 2, nth z152 3, nth z152 4, nth z152 5, nth z152 6, nth z152 7, nth z152 8, nth z152 9, nth z152 10, nI (addN (natP (nth z152 11)) (lenL
    (takeL (lenL [z161]) (dropL 0 [z161])))), .sl 1 (catL (takeL (natP (nth z152 11)) (itemsP (nth z152 12))) (takeL (lenL [z161]) (dropL 0 [z161]))) false], (none, z154)))))))))))))
    (bindO (selO (nth z152 1) 0 1 false) (fun z165 => bindO (callO B .cl (.fn 27 []) [z165, nth z153 0, nth z153 1]) (fun z166 => bindO (pureO (.extract 0 (.c z166))) (fun z167 =>
    bindO (pureO (.extract 1 (.c z166))) (fun z168 => bindO (pureO (.bin .neq .num true (.c z168) (.c (.int .i64 0)))) (fun z169 => iteP z169 (bindO (pureO (.build [.bool false, .bool
    false, .nilS] [])) (fun z170 => chkO (okCells z170 3) (chkO (okCells z168 1) (some (false, ([nth z152 0, nth z152 1, nth z152 2, nth z152 3, cellP z170 0, cellP z170 1, cellP z170
    2, cellP z168 0, nth z152 8, nth z152 9, nth z152 10, nI (natP (nth z152 11)), .sl 1 (itemsP (nth z152 12)) false], (some .ret, z154))))))) (chkO (okSls 1 [z167]) (chkO (leN (addN
    0 (lenL [z167])) (lenL [z167])) (chkO (andB (leN (natP (nth z152 11)) (lenL (itemsP (nth z152 12)))) (leN (addN (natP (nth z152 11)) (lenL (takeL (lenL [z167]) (dropL 0 [z167]))))
    2147483648)) (some (true, ([nth z152 0, nth z152 1, nth z152 2, nth z152 3, nth z152 4, nth z152 5, nth z152 6, nth z152 7, nth z152 8, nth z152 9, nth z152 10, nI (addN (natP (nth
    z152 11)) (lenL (takeL (lenL [z167]) (dropL 0 [z167])))), .sl 1 (catL (takeL (natP (nth z152 11)) (itemsP (nth z152 12))) (takeL (lenL [z167]) (dropL 0 [z167]))) false], (none,
    z154))))))))))))))))) dep z151 ([z151, x0, x1, x2, .bool false, .bool false, .nilS, .int .i64 0, cellP z69 0, cellP z150 0, cellP z150 1, nI 0, .sl 1 [] false], (none, e))) (fun
    z171 => iteB (isNoneE z171.2.1) (chkO (okCells (.int .i64 0) 1) (chkO (eqN (natP (nth z171.1 11)) (lenL (itemsP (nth z171.1 12)))) (some (.tup [.agg [nth z171.1 9, nth z171.1 10,
    .sl 1 (itemsP (nth z171.1 12)) false], cellP (.int .i64 0) 0], z171.2.2)))) (iteB (isRetE z171.2.1) (nilO (nth z171.1 6) (some (.tup [.agg [nth z171.1 4, nth z171.1 5, .nilS], nth
    z171.1 7], z171.2.2))) none))))))))))))))))))))))))))))))))))))))) := by kernel_rfl
theorem run12 (B : KB) {E : Type} (h : Handler E) (dep : Nat) (e : E) (x0 : PV) :
    runK (cfg0 B (fun _ => .cl)) fn12 (.cl) h dep [.cv x0] e =
    chkO (valO x0) (bindO (selO x0 1 1 false) (fun z1 => iteP z1 (bindO (selO x0 2 1 false) (fun z2 => bindO (callO B .cl (.fn 30 []) [z2, .fn 28 []]) (fun z3 => iteP z3 (some (.bool
    false, e)) (bindO (selO x0 0 1 false) (fun z4 => iteP z4 (bindO (selO x0 2 1 false) (fun z5 => bindO (pureO (.len .slice (.c z5))) (fun z6 => bindO (pureO (.bin .leq .num true (.c
    z6) (.c (.int .i64 200)))) (fun z7 => some (z7, e))))) (bindO (selO x0 2 1 false) (fun z8 => bindO (pureO (.len .slice (.c z8))) (fun z9 => bindO (pureO (.bin .eql .num true (.c
    z9) (.c (.int .i64 1)))) (fun z10 => some (z10, e)))))))))) (bindO (selO x0 0 1 false) (fun z11 => iteP z11 (bindO (selO x0 2 1 false) (fun z12 => bindO (pureO (.len .slice (.c
    z12))) (fun z13 => bindO (pureO (.bin .leq .num true (.c z13) (.c (.int .i64 200)))) (fun z14 => some (z14, e))))) (bindO (selO x0 2 1 false) (fun z15 => bindO (pureO (.len .slice
    (.c z15))) (fun z16 => bindO (pureO (.bin .eql .num true (.c z16) (.c (.int .i64 1)))) (fun z17 => some (z17, e))))))))) := by kernel_rfl
theorem run14 (B : KB) {E : Type} (h : Handler E) (dep : Nat) (e : E) (x0 : PV) (x1 : PV) :
    runK (cfg0 B (fun _ => .cl)) fn14 (.tup [.agg [.cl, .cl, .opt 1], .cl]) h dep [.cv x0, .cv x1] e =
    chkO (valO x1) (bindO (selO x1 0 3 true) (fun z1 => chkO (okSls 3 [z1]) (bindO (lendO B .cl true 21 [slO 3 3 [z1] 0 (lenL [z1])]) (fun z2 => bindO (pureO (.bin .neq .iface true (.c
    z2) (.c .nilI))) (fun z3 => iteP z3 (bindO (pureO (.build [.bool false, .bool false, .nilS] [])) (fun z4 => bindO (callO B .cl (.fn 22 []) [z2]) (fun z5 => chkO (okCells z4 3)
    (nilO (cellP z4 2) (some (.tup [.agg [cellP z4 0, cellP z4 1, .nilS], z5], e)))))) (bindO (callO B .cl (.fn 32 []) [x0]) (fun z6 => bindO (pureO (.un .not (.c z6))) (fun z7 => iteP
    z7 (bindO (pureO (.build [.bool false, .bool false, .nilS] [])) (fun z8 => chkO (okCells z8 3) (nilO (cellP z8 2) (some (.tup [.agg [cellP z8 0, cellP z8 1, .nilS], .int .i64 102],
    e))))) (bindO (selO x1 0 3 true) (fun z9 => bindO (callO B .cl (.fn 25 []) [z9]) (fun z10 => iteP z10 (bindO (pureO (.build [.bool false, .bool false, .nilS] [])) (fun z11 => chkO
    (okCells z11 3) (nilO (cellP z11 2) (some (.tup [.agg [cellP z11 0, cellP z11 1, .nilS], .int .i64 102], e))))) (bindO (selO x1 0 1 false) (fun z12 => bindO (pureO (.build [.bool
    false, .bool false, .nilS] [(0, (1, .c z12))])) (fun z13 => chkO (okCells z13 3) (bindO (selO x1 2 1 false) (fun z14 => bindO (pureO (.len .slice (.c z14))) (fun z15 => nilO (cellP
    z13 2) (chkO (noUndef [x0, z14, z15, .int .i64 0]) (loopL (fun z16 => bindO (pureO (.bin .lss .num false (.c (nth z16.1 3)) (.c (nth z16.1 2)))) (fun z17 => iteP z17 (bindO (pureO
    (.idxAddr 1 (.c (nth z16.1 1)) (.c (nth z16.1 3)))) (fun z18 => bindO (pureO (.load 1 false (.c z18))) (fun z19 => bindO (callO B .cl (.fn 33 []) [nth z16.1 0, z19]) (fun z20 =>
    bindO (pureO (.extract 0 (.c z20))) (fun z21 => bindO (pureO (.extract 1 (.c z20))) (fun z22 => bindO (pureO (.bin .neq .num true (.c z22) (.c (.int .i64 0)))) (fun z23 => iteP z23
    (bindO (pureO (.build [.bool false, .bool false, .nilS] [])) (fun z24 => chkO (okCells z24 3) (bindO (nilO (cellP z24 2) (some (.tup [.agg [cellP z24 0, cellP z24 1, .nilS], z22],
    z16.2))) (fun z25 => some (.inr z25))))) (chkO (okSls 1 [z21]) (chkO (leN (addN 0 (lenL [z21])) (lenL [z21])) (chkO (andB (leN (natP (nth z16.1 9)) (lenL (itemsP (nth z16.1 10))))
    (leN (addN (natP (nth z16.1 9)) (lenL (takeL (lenL [z21]) (dropL 0 [z21])))) 2147483648)) (bindO (pureO (.bin .add .num true (.c (nth z16.1 3)) (.c (.int .i64 1)))) (fun z26 =>
    some (.inl ([nth z16.1 0, nth z16.1 1, nth z16.1 2, z26, nth z16.1 4, nth z16.1 5, nth z16.1 6, nth z16.1 7, nth z16.1 8, nI (addN (natP (nth z16.1 9)) (lenL (takeL (lenL [z21])
    (dropL 0 [z21])))), .sl 1 (catL (takeL (natP (nth z16.1 9)) (itemsP (nth z16.1 10))) (takeL (lenL [z21]) (dropL 0 [z21]))) false], z16.2)))))))))))))) (bindO (chkO (eqN (natP (nth
    z16.1 9)) (lenL (itemsP (nth z16.1 10)))) (some (.tup [.agg [nth z16.1 7, nth z16.1 8, .sl 1 (itemsP (nth z16.1 10)) false], .int .i64 0], z16.2))) (fun z27 => some (.inr z27)))))
    ([x0, z14, z15, .int .i64 0, .bool false, .bool false, .nilS, cellP z13 0, cellP z13 1, nI 0, .sl 1 [] false], e)))))))))))))))))))) := by kernel_rfl
theorem run18 (B : KB) {E : Type} (h : Handler E) (dep : Nat) (e : E) (x0 : PV) (x1 : PV) :
    runK (cfg0 B (fun _ => .cl)) fn18 (.cl) h dep [.cv x0, .cv x1] e =
    bindO (pureO (.len .slice (.c x0))) (fun z1 => bindO (pureO (.len .slice (.c x1))) (fun z2 => bindO (pureO (.bin .neq .num false (.c z1) (.c z2))) (fun z3 => iteP z3 (some (.bool
    false, e)) (chkO (noUndef [x0, x1, .int .i64 0]) (loopL (fun z4 => bindO (pureO (.len .slice (.c (nth z4.1 0)))) (fun z5 => bindO (pureO (.bin .lss .num false (.c (nth z4.1 2)) (.c
    z5))) (fun z6 => iteP z6 (bindO (pureO (.idxAddr 1 (.c (nth z4.1 0)) (.c (nth z4.1 2)))) (fun z7 => bindO (pureO (.load 1 false (.c z7))) (fun z8 => bindO (pureO (.idxAddr 1 (.c
    (nth z4.1 1)) (.c (nth z4.1 2)))) (fun z9 => bindO (pureO (.load 1 false (.c z9))) (fun z10 => bindO (pureO (.bin .neq .num false (.c z8) (.c z10))) (fun z11 => iteP z11 (bindO
    (some (.bool false, z4.2)) (fun z12 => some (.inr z12))) (bindO (pureO (.bin .add .num true (.c (nth z4.1 2)) (.c (.int .i64 1)))) (fun z13 => some (.inl ([nth z4.1 0, nth z4.1 1,
    z13], z4.2)))))))))) (bindO (some (.bool true, z4.2)) (fun z14 => some (.inr z14)))))) ([x0, x1, .int .i64 0], e)))))) := by kernel_rfl
theorem run21 (B : KB) {E : Type} (h : Handler E) (dep : Nat) (e : E) (x0 : PV) :
    runK (cfg0 B (fun _ => .cl)) fn21 (.cl) h dep [.cv x0] e =
    bindO (pureO (.len .slice (.c x0))) (fun z1 => chkO (noUndef [x0, z1, .int .i64 0]) (loopL (fun z2 => bindO (pureO (.bin .lss .num false (.c (nth z2.1 2)) (.c (nth z2.1 1)))) (fun
    z3 => iteP z3 (bindO (pureO (.idxAddr 3 (.c (nth z2.1 0)) (.c (nth z2.1 2)))) (fun z4 => bindO (pureO (.load 3 true (.c z4))) (fun z5 => chkO (okCells z5 3) (bindO (callO B .cl
    (.fn 12 []) [.agg [cellP z5 0, cellP z5 1, cellP z5 2]]) (fun z6 => bindO (pureO (.un .not (.c z6))) (fun z7 => iteP z7 (bindO (pureO (.build [.int .i64 0] [(0, (1, .c (.int .i64
    114)))])) (fun z8 => bindO (some (.iface 64 z8, z2.2)) (fun z9 => some (.inr z9)))) (bindO (pureO (.bin .add .num true (.c (nth z2.1 2)) (.c (.int .i64 1)))) (fun z10 => some (.inl
    ([nth z2.1 0, nth z2.1 1, z10], z2.2)))))))))) (bindO (some (.nilI, z2.2)) (fun z11 => some (.inr z11))))) ([x0, z1, .int .i64 0], e))) := by kernel_rfl
theorem run22 (B : KB) {E : Type} (h : Handler E) (dep : Nat) (e : E) (x0 : PV) :
    runK (cfg0 B (fun _ => .cl)) fn22 (.cl) h dep [.cv x0] e =
    chkO (eqN 1 1) (asP 64 x0 (fun z1 => chkO (okCells z1 1) (bindO (selO z1 0 1 false) (fun z2 => some (z2, e)))) (some (.int .i64 0, e))) := by kernel_rfl
theorem run23 (B : KB) {E : Type} (h : Handler E) (dep : Nat) (e : E) (x0 : PV) :
    runK (cfg0 B (fun _ => .cl)) fn23 (.cl) h dep [.cv x0] e =
    bindO (callO B .cl (.fn 44 []) []) (fun z1 => bindO (pureO (.lookup .str .nilF false (.c z1) (.c x0))) (fun z2 => bindO (pureO (.bin .neq .func true (.c z2) (.c .nilF))) (fun z3 =>
    some (z3, e)))) := by kernel_rfl
theorem run24 (B : KB) {E : Type} (h : Handler E) (dep : Nat) (e : E) (x0 : PV) :
    runK (cfg0 B (fun _ => .cl)) fn24 (.cl) h dep [.cv x0] e =
    chkO (valO x0) (bindO (bindO (selO x0 0 1 false) (fun z1 => iteP z1 (bindO (selO x0 3 1 false) (fun z2 => iteP z2 (bindO (selO x0 2 1 false) (fun z3 => bindO (pureO (.len .slice
    (.c z3))) (fun z4 => bindO (selO x0 5 1 false) (fun z5 => bindO (pureO (.len .slice (.c z5))) (fun z6 => bindO (pureO (.bin .neq .num false (.c z4) (.c z6))) (fun z7 => some
    z7)))))) (some (.bool false)))) (some (.bool false)))) (fun z8 => iteP z8 (bindO (pureO (.build [.int .i64 0] [(0, (1, .c (.int .i64 110)))])) (fun z9 => some (.tup [.int .i64 0,
    .iface 64 z9], e))) (bindO (selO x0 0 1 false) (fun z10 => iteP z10 (bindO (selO x0 2 1 false) (fun z11 => bindO (pureO (.len .slice (.c z11))) (fun z12 => some (.tup [z12, .nilI],
    e)))) (bindO (selO x0 5 1 false) (fun z13 => bindO (pureO (.len .slice (.c z13))) (fun z14 => some (.tup [z14, .nilI], e)))))))) := by kernel_rfl
theorem run25 (B : KB) {E : Type} (h : Handler E) (dep : Nat) (e : E) (x0 : PV) :
    runK (cfg0 B (fun _ => .cl)) fn25 (.cl) h dep [.cv x0] e =
    chkO (valO x0) (bindO (bindO (selO x0 1 1 false) (fun z1 => iteP z1 (bindO (selO x0 2 1 false) (fun z2 => bindO (pureO (.len .slice (.c z2))) (fun z3 => bindO (pureO (.bin .gtr
    .num true (.c z3) (.c (.int .i64 0)))) (fun z4 => some z4)))) (some (.bool false)))) (fun z5 => some (z5, e))) := by kernel_rfl
theorem run26 (B : KB) {E : Type} (h : Handler E) (dep : Nat) (e : E) (x0 : PV) (x1 : PV) :
    runK (cfg0 B (fun _ => .cl)) fn26 (.cl) h dep [.cv x0, .cv x1] e =
    chkO (valO x0) (chkO (valO x1) (chkO (okU (.fn 45 [ptrO (cellsP x1) 0, ptrO (cellsP x0) 0])) (some (.fn 45 [ptrO (cellsP x1) 0, ptrO (cellsP x0) 0], e)))) := by kernel_rfl
theorem run27 (B : KB) {E : Type} (h : Handler E) (dep : Nat) (e : E) (x0 : PV) (x1 : PV) (x2 : PV) :
    runK (cfg0 B (fun _ => .cl)) fn27 (.cl) h dep [.cv x0, .cv x1, .cv x2] e =
    bindO (callO B .cl (.fn 44 []) []) (fun z1 => bindO (pureO (.lookup .str .nilF true (.c z1) (.c x0))) (fun z2 => bindO (pureO (.extract 0 (.c z2))) (fun z3 => bindO (pureO
    (.extract 1 (.c z2))) (fun z4 => bindO (pureO (.un .not (.c z4))) (fun z5 => iteP z5 (bindO (pureO (.build [.str []] [(0, (1, .c x0))])) (fun z6 => bindO (callO B .cl (.fn 47 [])
    [.iface 73 z6]) (fun z7 => some (.tup [.int .i64 0, z7], e)))) (bindO (pureO (.build [.int .i64 0, .int .i64 0] [(0, (1, .c x1)), (1, (1, .c x2))])) (fun z8 => bindO (pureO (.build
    [.int .i64 0, .int .i64 0] [(0, (2, .c z8))])) (fun z9 => bindO (callO B .cl z3 [z9]) (fun z10 => bindO (pureO (.extract 0 (.c z10))) (fun z11 => bindO (pureO (.extract 1 (.c
    z10))) (fun z12 => bindO (callO B .cl (.fn 47 []) [z12]) (fun z13 => some (.tup [z11, z13], e))))))))))))) := by kernel_rfl
theorem run28 (B : KB) {E : Type} (h : Handler E) (dep : Nat) (e : E) (x0 : PV) :
    runK (cfg0 B (fun _ => .cl)) fn28 (.cl) h dep [.cv x0] e =
    bindO (callO B .cl (.fn 29 []) [x0]) (fun z1 => bindO (pureO (.un .not (.c z1))) (fun z2 => some (z2, e))) := by kernel_rfl
theorem run29 (B : KB) {E : Type} (h : Handler E) (dep : Nat) (e : E) (x0 : PV) :
    runK (cfg0 B (fun _ => .cl)) fn29 (.cl) h dep [.cv x0] e =
    bindO (bindO (pureO (.bin .geq .num true (.c x0) (.c (.int .i64 0)))) (fun z1 => iteP z1 (bindO (pureO (.bin .leq .num true (.c x0) (.c (.int .i64 1114111)))) (fun z2 => iteP z2
    (bindO (pureO (.bin .lss .num true (.c x0) (.c (.int .i64 55296)))) (fun z3 => iteP z3 (some (.bool true)) (bindO (pureO (.bin .gtr .num true (.c x0) (.c (.int .i64 57343)))) (fun
    z4 => some z4)))) (some (.bool false)))) (some (.bool false)))) (fun z5 => some (z5, e)) := by kernel_rfl
theorem run30 (B : KB) {E : Type} (h : Handler E) (dep : Nat) (e : E) (x0 : PV) (x1 : PV) :
    runK (cfg0 B (fun _ => .cl)) fn30 (.cl) h dep [.cv x0, .cv x1] e =
    bindO (callO B .cl (.fn 48 []) [x0, x1]) (fun z1 => bindO (pureO (.bin .geq .num true (.c z1) (.c (.int .i64 0)))) (fun z2 => some (z2, e))) := by kernel_rfl
theorem run32 (B : KB) {E : Type} (h : Handler E) (dep : Nat) (e : E) (x0 : PV) :
    runK (cfg0 B (fun _ => .cl)) fn32 (.cl) h dep [.cv x0] e =
    bindO (callO B .cl (.fn 49 []) []) (fun z1 => bindO (pureO (.lookup .str .nilF false (.c z1) (.c x0))) (fun z2 => bindO (pureO (.bin .neq .func true (.c z2) (.c .nilF))) (fun z3 =>
    some (z3, e)))) := by kernel_rfl
theorem run33 (B : KB) {E : Type} (h : Handler E) (dep : Nat) (e : E) (x0 : PV) (x1 : PV) :
    runK (cfg0 B (fun _ => .cl)) fn33 (.cl) h dep [.cv x0, .cv x1] e =
    bindO (callO B .cl (.fn 49 []) []) (fun z1 => bindO (pureO (.lookup .str .nilF true (.c z1) (.c x0))) (fun z2 => bindO (pureO (.extract 0 (.c z2))) (fun z3 => bindO (pureO
    (.extract 1 (.c z2))) (fun z4 => bindO (pureO (.un .not (.c z4))) (fun z5 => iteP z5 (bindO (pureO (.build [.str []] [(0, (1, .c x0))])) (fun z6 => bindO (callO B .cl (.fn 47 [])
    [.iface 73 z6]) (fun z7 => some (.tup [.int .i64 0, z7], e)))) (bindO (callO B .cl z3 [x1]) (fun z8 => bindO (pureO (.extract 0 (.c z8))) (fun z9 => bindO (pureO (.extract 1 (.c
    z8))) (fun z10 => bindO (callO B .cl (.fn 47 []) [z10]) (fun z11 => some (.tup [z9, z11], e))))))))))) := by kernel_rfl
theorem run45 (B : KB) {E : Type} (h : Handler E) (dep : Nat) (e : E) (x0 : Nat) (x1 : PV) (x2 : PV) :
    runK (cfg0 B (fun _ => .cl)) fn45 (.cl) h dep [.yld x0, .cv x1, .cv x2] e =
    bindO (pureO (.load 1 false (.c x1))) (fun z1 => chkO (noUndef [nI x0, x2, z1, .int .i64 0]) (loopL (fun z2 => bindO (pureO (.bin .lss .num false (.c (nth z2.1 3)) (.c (nth z2.1
    2)))) (fun z3 => iteP z3 (bindO (pureO (.fieldAddr 0 (.c (nth z2.1 1)))) (fun z4 => bindO (pureO (.load 3 true (.c z4))) (fun z5 => bindO (callO B .cl (.fn 46 []) [z5, nth z2.1 3])
    (fun z6 => bindO (pureO (.fieldAddr 3 (.c (nth z2.1 1)))) (fun z7 => bindO (pureO (.load 3 true (.c z7))) (fun z8 => bindO (callO B .cl (.fn 46 []) [z8, nth z2.1 3]) (fun z9 =>
    bindO (h (natP (nth z2.1 0)) [z6, z9] z2.2) (fun z10 => bindO (pureO (.un .not (.c (.bool z10.1)))) (fun z11 => iteP z11 (bindO (some (.tup [], z10.2)) (fun z12 => some (.inr
    z12))) (bindO (pureO (.bin .add .num true (.c (nth z2.1 3)) (.c (.int .i64 1)))) (fun z13 => some (.inl ([nI (natP (nth z2.1 0)), nth z2.1 1, nth z2.1 2, z13], z10.2)))))))))))))
    (bindO (some (.tup [], z2.2)) (fun z14 => some (.inr z14))))) ([nI x0, x2, z1, .int .i64 0], e))) := by kernel_rfl
theorem run46 (B : KB) {E : Type} (h : Handler E) (dep : Nat) (e : E) (x0 : PV) (x1 : PV) :
    runK (cfg0 B (fun _ => .cl)) fn46 (.cl) h dep [.cv x0, .cv x1] e =
    chkO (valO x0) (bindO (selO x0 0 1 false) (fun z1 => iteP z1 (bindO (selO x0 2 1 false) (fun z2 => bindO (pureO (.idxAddr 1 (.c z2) (.c x1))) (fun z3 => bindO (pureO (.load 1 false
    (.c z3))) (fun z4 => some (z4, e))))) (bindO (selO x0 2 1 false) (fun z5 => bindO (pureO (.idxAddr 1 (.c z5) (.c (.int .i64 0)))) (fun z6 => bindO (pureO (.load 1 false (.c z6)))
    (fun z7 => some (z7, e))))))) := by kernel_rfl
theorem run47 (B : KB) {E : Type} (h : Handler E) (dep : Nat) (e : E) (x0 : PV) :
    runK (cfg0 B (fun _ => .cl)) fn47 (.cl) h dep [.cv x0] e =
    bindO (pureO (.load 1 false (.c (.ptr [.glob 1 175] 0)))) (fun z1 => bindO (callO B .cl (.fn 81 []) [x0, z1]) (fun z2 => iteP z2 (some (.int .i64 100, e)) (bindO (pureO (.load 1
    false (.c (.ptr [.glob 2 175] 0)))) (fun z3 => bindO (callO B .cl (.fn 81 []) [x0, z3]) (fun z4 => iteP z4 (some (.int .i64 101, e)) (chkO (eqN 1 1) (asP 73 x0 (fun z5 => chkO
    (okCells z5 1) (some (.int .i64 102, e))) (some (.int .i64 0, e))))))))) := by kernel_rfl
theorem run48 (B : KB) {E : Type} (h : Handler E) (dep : Nat) (e : E) (x0 : PV) (x1 : PV) :
    runK (cfg0 B (fun _ => .cl)) fn48 (.cl) h dep [.cv x0, .cv x1] e =
    bindO (pureO (.len .slice (.c x0))) (fun z1 => chkO (noUndef [x0, x1, z1, .int .i64 0]) (loopL (fun z2 => bindO (pureO (.bin .lss .num false (.c (nth z2.1 3)) (.c (nth z2.1 2))))
    (fun z3 => iteP z3 (bindO (pureO (.idxAddr 1 (.c (nth z2.1 0)) (.c (nth z2.1 3)))) (fun z4 => bindO (pureO (.load 1 false (.c z4))) (fun z5 => bindO (callO B .cl (nth z2.1 1) [z5])
    (fun z6 => iteP z6 (bindO (some (nth z2.1 3, z2.2)) (fun z7 => some (.inr z7))) (bindO (pureO (.bin .add .num true (.c (nth z2.1 3)) (.c (.int .i64 1)))) (fun z8 => some (.inl
    ([nth z2.1 0, nth z2.1 1, nth z2.1 2, z8], z2.2)))))))) (bindO (some (.int .i64 (-1), z2.2)) (fun z9 => some (.inr z9))))) ([x0, x1, z1, .int .i64 0], e))) := by kernel_rfl
theorem run70 (B : KB) {E : Type} (h : Handler E) (dep : Nat) (e : E) (x0 : PV) :
    runK (cfg0 B (fun _ => .cl)) fn70 (.cl) h dep [.cv x0] e =
    chkO (valO x0) (bindO (selO x0 0 1 false) (fun z1 => bindO (selO x0 1 1 false) (fun z2 => bindO (pureO (.bin .add .num false (.c z1) (.c z2))) (fun z3 => bindO (pureO (.load 1
    false (.c (.ptr [.glob 1 175] 0)))) (fun z4 => bindO (selO x0 0 1 false) (fun z5 => bindO (pureO (.bin .lss .num true (.c z5) (.c (.int .i64 0)))) (fun z6 => bindO (selO x0 1 1
    false) (fun z7 => bindO (pureO (.bin .lss .num true (.c z7) (.c (.int .i64 0)))) (fun z8 => bindO (pureO (.bin .neq .bool false (.c z6) (.c z8))) (fun z9 => iteP z9 (chkO (okSls 1
    [.bool true]) (bindO (lendO B .cl false 88 [z3, z4, slO 1 1 [.bool true] 0 (lenL [.bool true])]) (fun z10 => bindO (pureO (.extract 0 (.c z10))) (fun z11 => bindO (pureO (.extract
    1 (.c z10))) (fun z12 => some (.tup [z11, z12], e)))))) (bindO (pureO (.bin .lss .num true (.c z3) (.c (.int .i64 0)))) (fun z13 => bindO (selO x0 0 1 false) (fun z14 => bindO
    (pureO (.bin .lss .num true (.c z14) (.c (.int .i64 0)))) (fun z15 => bindO (pureO (.bin .eql .bool false (.c z13) (.c z15))) (fun z16 => chkO (okSls 1 [z16]) (bindO (lendO B .cl
    false 88 [z3, z4, slO 1 1 [z16] 0 (lenL [z16])]) (fun z17 => bindO (pureO (.extract 0 (.c z17))) (fun z18 => bindO (pureO (.extract 1 (.c z17))) (fun z19 => some (.tup [z18, z19],
    e)))))))))))))))))))) := by kernel_rfl
theorem run71 (B : KB) {E : Type} (h : Handler E) (dep : Nat) (e : E) (x0 : PV) :
    runK (cfg0 B (fun _ => .cl)) fn71 (.cl) h dep [.cv x0] e =
    chkO (valO x0) (bindO (selO x0 0 1 false) (fun z1 => bindO (selO x0 1 1 false) (fun z2 => bindO (pureO (.bin .sub .num false (.c z1) (.c z2))) (fun z3 => bindO (pureO (.load 1
    false (.c (.ptr [.glob 1 175] 0)))) (fun z4 => bindO (selO x0 0 1 false) (fun z5 => bindO (pureO (.bin .lss .num true (.c z5) (.c (.int .i64 0)))) (fun z6 => bindO (selO x0 1 1
    false) (fun z7 => bindO (pureO (.bin .lss .num true (.c z7) (.c (.int .i64 0)))) (fun z8 => bindO (pureO (.bin .eql .bool false (.c z6) (.c z8))) (fun z9 => iteP z9 (chkO (okSls 1
    [.bool true]) (bindO (lendO B .cl false 88 [z3, z4, slO 1 1 [.bool true] 0 (lenL [.bool true])]) (fun z10 => bindO (pureO (.extract 0 (.c z10))) (fun z11 => bindO (pureO (.extract
    1 (.c z10))) (fun z12 => some (.tup [z11, z12], e)))))) (bindO (pureO (.bin .lss .num true (.c z3) (.c (.int .i64 0)))) (fun z13 => bindO (selO x0 0 1 false) (fun z14 => bindO
    (pureO (.bin .lss .num true (.c z14) (.c (.int .i64 0)))) (fun z15 => bindO (pureO (.bin .eql .bool false (.c z13) (.c z15))) (fun z16 => chkO (okSls 1 [z16]) (bindO (lendO B .cl
    false 88 [z3, z4, slO 1 1 [z16] 0 (lenL [z16])]) (fun z17 => bindO (pureO (.extract 0 (.c z17))) (fun z18 => bindO (pureO (.extract 1 (.c z17))) (fun z19 => some (.tup [z18, z19],
    e)))))))))))))))))))) := by kernel_rfl
theorem run72 (B : KB) {E : Type} (h : Handler E) (dep : Nat) (e : E) (x0 : PV) :
    runK (cfg0 B (fun _ => .cl)) fn72 (.cl) h dep [.cv x0] e =
    chkO (valO x0) (bindO (selO x0 0 1 false) (fun z1 => bindO (callO B .cl (.fn 111 []) [z1]) (fun z2 => bindO (selO x0 1 1 false) (fun z3 => bindO (callO B .cl (.fn 111 []) [z3])
    (fun z4 => bindO (callO B .cl (.fn 110 []) [z2, z4]) (fun z5 => bindO (pureO (.extract 0 (.c z5))) (fun z6 => bindO (pureO (.extract 1 (.c z5))) (fun z7 => bindO (selO x0 0 1
    false) (fun z8 => bindO (pureO (.bin .lss .num true (.c z8) (.c (.int .i64 0)))) (fun z9 => bindO (selO x0 1 1 false) (fun z10 => bindO (pureO (.bin .lss .num true (.c z10) (.c
    (.int .i64 0)))) (fun z11 => bindO (pureO (.bin .neq .bool false (.c z9) (.c z11))) (fun z12 => bindO (pureO (.conv .i64 (.c z7))) (fun z13 => iteP z12 (bindO (pureO (.un .neg (.c
    z13))) (fun z14 => bindO (pureO (.load 1 false (.c (.ptr [.glob 1 175] 0)))) (fun z15 => bindO (pureO (.bin .eql .num true (.c z6) (.c (.int .u64 0)))) (fun z16 => bindO (pureO
    (.bin .leq .num true (.c z7) (.c (.int .u64 9223372036854775807)))) (fun z17 => iteP z17 (chkO (okSls 1 [z16, .bool true]) (bindO (lendO B .cl false 88 [z14, z15, slO 1 1 [z16,
    .bool true] 0 (lenL [z16, .bool true])]) (fun z18 => bindO (pureO (.extract 0 (.c z18))) (fun z19 => bindO (pureO (.extract 1 (.c z18))) (fun z20 => some (.tup [z19, z20], e))))))
    (iteP z12 (bindO (pureO (.bin .eql .num true (.c z7) (.c (.int .u64 9223372036854775808)))) (fun z21 => chkO (okSls 1 [z16, z21]) (bindO (lendO B .cl false 88 [z14, z15, slO 1 1
    [z16, z21] 0 (lenL [z16, z21])]) (fun z22 => bindO (pureO (.extract 0 (.c z22))) (fun z23 => bindO (pureO (.extract 1 (.c z22))) (fun z24 => some (.tup [z23, z24], e))))))) (chkO
    (okSls 1 [z16, .bool false]) (bindO (lendO B .cl false 88 [z14, z15, slO 1 1 [z16, .bool false] 0 (lenL [z16, .bool false])]) (fun z25 => bindO (pureO (.extract 0 (.c z25))) (fun
    z26 => bindO (pureO (.extract 1 (.c z25))) (fun z27 => some (.tup [z26, z27], e)))))))))))) (bindO (pureO (.load 1 false (.c (.ptr [.glob 1 175] 0)))) (fun z28 => bindO (pureO
    (.bin .eql .num true (.c z6) (.c (.int .u64 0)))) (fun z29 => bindO (pureO (.bin .leq .num true (.c z7) (.c (.int .u64 9223372036854775807)))) (fun z30 => iteP z30 (chkO (okSls 1
    [z29, .bool true]) (bindO (lendO B .cl false 88 [z13, z28, slO 1 1 [z29, .bool true] 0 (lenL [z29, .bool true])]) (fun z31 => bindO (pureO (.extract 0 (.c z31))) (fun z32 => bindO
    (pureO (.extract 1 (.c z31))) (fun z33 => some (.tup [z32, z33], e)))))) (iteP z12 (bindO (pureO (.bin .eql .num true (.c z7) (.c (.int .u64 9223372036854775808)))) (fun z34 =>
    chkO (okSls 1 [z29, z34]) (bindO (lendO B .cl false 88 [z13, z28, slO 1 1 [z29, z34] 0 (lenL [z29, z34])]) (fun z35 => bindO (pureO (.extract 0 (.c z35))) (fun z36 => bindO (pureO
    (.extract 1 (.c z35))) (fun z37 => some (.tup [z36, z37], e))))))) (chkO (okSls 1 [z29, .bool false]) (bindO (lendO B .cl false 88 [z13, z28, slO 1 1 [z29, .bool false] 0 (lenL
    [z29, .bool false])]) (fun z38 => bindO (pureO (.extract 0 (.c z38))) (fun z39 => bindO (pureO (.extract 1 (.c z38))) (fun z40 => some (.tup [z39, z40], e))))))))))))))))))))))))) := by kernel_rfl
theorem run73 (B : KB) {E : Type} (h : Handler E) (dep : Nat) (e : E) (x0 : PV) :
    runK (cfg0 B (fun _ => .cl)) fn73 (.cl) h dep [.cv x0] e =
    chkO (valO x0) (bindO (selO x0 1 1 false) (fun z1 => bindO (pureO (.bin .eql .num true (.c z1) (.c (.int .i64 0)))) (fun z2 => iteP z2 (bindO (pureO (.load 1 false (.c (.ptr [.glob
    2 175] 0)))) (fun z3 => bindO (selO x0 0 1 false) (fun z4 => bindO (pureO (.bin .eql .num true (.c z4) (.c (.int .i64 0)))) (fun z5 => chkO (okSls 1 [z5]) (bindO (lendO B .cl false
    88 [.int .i64 1, z3, slO 1 1 [z5] 0 (lenL [z5])]) (fun z6 => bindO (pureO (.extract 0 (.c z6))) (fun z7 => bindO (pureO (.extract 1 (.c z6))) (fun z8 => some (.tup [z7, z8],
    e))))))))) (bindO (selO x0 1 1 false) (fun z9 => bindO (pureO (.bin .eql .num true (.c z9) (.c (.int .i64 (-1))))) (fun z10 => iteP z10 (bindO (selO x0 0 1 false) (fun z11 => bindO
    (pureO (.un .neg (.c z11))) (fun z12 => bindO (pureO (.load 1 false (.c (.ptr [.glob 1 175] 0)))) (fun z13 => bindO (selO x0 0 1 false) (fun z14 => bindO (pureO (.bin .neq .num
    true (.c z14) (.c (.int .i64 (-9223372036854775808))))) (fun z15 => chkO (okSls 1 [z15]) (bindO (lendO B .cl false 88 [z12, z13, slO 1 1 [z15] 0 (lenL [z15])]) (fun z16 => bindO
    (pureO (.extract 0 (.c z16))) (fun z17 => bindO (pureO (.extract 1 (.c z16))) (fun z18 => some (.tup [z17, z18], e))))))))))) (bindO (selO x0 0 1 false) (fun z19 => bindO (selO x0
    1 1 false) (fun z20 => bindO (pureO (.bin .quo .num false (.c z19) (.c z20))) (fun z21 => bindO (pureO (.load 1 false (.c (.ptr [.glob 2 175] 0)))) (fun z22 => bindO (selO x0 0 1
    false) (fun z23 => bindO (selO x0 1 1 false) (fun z24 => bindO (pureO (.bin .rem .num false (.c z23) (.c z24))) (fun z25 => bindO (pureO (.bin .eql .num true (.c z25) (.c (.int
    .i64 0)))) (fun z26 => chkO (okSls 1 [z26]) (bindO (lendO B .cl false 88 [z21, z22, slO 1 1 [z26] 0 (lenL [z26])]) (fun z27 => bindO (pureO (.extract 0 (.c z27))) (fun z28 => bindO
    (pureO (.extract 1 (.c z27))) (fun z29 => some (.tup [z28, z29], e)))))))))))))))))))) := by kernel_rfl
theorem run74 (B : KB) {E : Type} (h : Handler E) (dep : Nat) (e : E) (x0 : PV) :
    runK (cfg0 B (fun _ => .cl)) fn74 (.cl) h dep [.cv x0] e =
    chkO (valO x0) (bindO (selO x0 0 1 false) (fun z1 => bindO (pureO (.bin .eql .num true (.c z1) (.c (.int .i64 0)))) (fun z2 => iteP z2 (bindO (selO x0 1 1 false) (fun z3 => some
    (.tup [z3, .nilI], e))) (bindO (selO x0 0 1 false) (fun z4 => bindO (pureO (.bin .eql .num true (.c z4) (.c (.int .i64 (-1))))) (fun z5 => iteP z5 (some (.tup [.int .i64 0, .nilI],
    e)) (bindO (selO x0 1 1 false) (fun z6 => bindO (selO x0 0 1 false) (fun z7 => bindO (pureO (.bin .rem .num false (.c z6) (.c z7))) (fun z8 => chkO (noUndef [z8, .int .i64 0])
    (loopL (fun z9 => bindO (pureO (.bin .lss .num true (.c (nth z9.1 1)) (.c (.int .i64 1)))) (fun z10 => iteP z10 (bindO (bindO (pureO (.bin .eql .num true (.c (nth z9.1 0)) (.c
    (.int .i64 0)))) (fun z11 => iteP z11 (some (.bool true)) (bindO (pureO (.bin .lss .num true (.c (nth z9.1 0)) (.c (.int .i64 0)))) (fun z12 => bindO (selO (nth z9.1 2) 0 1 false)
    (fun z13 => bindO (pureO (.bin .lss .num true (.c z13) (.c (.int .i64 0)))) (fun z14 => bindO (pureO (.bin .eql .bool false (.c z12) (.c z14))) (fun z15 => some z15))))))) (fun z16
    => iteP z16 (bindO (some (.tup [nth z9.1 0, .nilI], z9.2)) (fun z17 => some (.inr z17))) (bindO (selO (nth z9.1 2) 0 1 false) (fun z18 => bindO (pureO (.bin .add .num false (.c
    (nth z9.1 0)) (.c z18))) (fun z19 => bindO (pureO (.bin .add .num true (.c (nth z9.1 1)) (.c (.int .i64 1)))) (fun z20 => some (.inl ([z19, z20, nth z9.1 2], z9.2)))))))) (bindO
    (some (.tup [nth z9.1 0, .nilI], z9.2)) (fun z21 => some (.inr z21))))) ([z8, .int .i64 0, x0], e)))))))))))) := by kernel_rfl
theorem run75 (B : KB) {E : Type} (h : Handler E) (dep : Nat) (e : E) (x0 : PV) :
    runK (cfg0 B (fun _ => .cl)) fn75 (.cl) h dep [.cv x0] e =
    chkO (valO x0) (bindO (selO x0 0 1 false) (fun z1 => bindO (selO x0 1 1 false) (fun z2 => bindO (pureO (.minmax true [.c z1, .c z2])) (fun z3 => some (.tup [z3, .nilI], e))))) := by kernel_rfl
theorem run76 (B : KB) {E : Type} (h : Handler E) (dep : Nat) (e : E) (x0 : PV) :
    runK (cfg0 B (fun _ => .cl)) fn76 (.cl) h dep [.cv x0] e =
    chkO (valO x0) (bindO (selO x0 0 1 false) (fun z1 => bindO (selO x0 1 1 false) (fun z2 => bindO (pureO (.minmax false [.c z1, .c z2])) (fun z3 => some (.tup [z3, .nilI], e))))) := by kernel_rfl
theorem run77 (B : KB) {E : Type} (h : Handler E) (dep : Nat) (e : E) (x0 : PV) (x1 : PV) :
    runK (cfg0 B (fun _ => .cl)) fn77 (.cl) h dep [.cv x0, .cv x1] e =
    chkO (valO x0) (bindO (selO x0 0 2 true) (fun z1 => bindO (pureO (.load 1 false (.c x1))) (fun z2 => bindO (callO B .cl (.fn 78 []) [z1, z2]) (fun z3 => bindO (pureO (.extract 0
    (.c z3))) (fun z4 => bindO (pureO (.extract 1 (.c z3))) (fun z5 => some (.tup [z4, z5], e))))))) := by kernel_rfl
theorem run78 (B : KB) {E : Type} (h : Handler E) (dep : Nat) (e : E) (x0 : PV) (x1 : PV) :
    runK (cfg0 B (fun _ => .cl)) fn78 (.cl) h dep [.cv x0, .cv x1] e =
    chkO (valO x0) (bindO (pureO (.bin .eql .str true (.c x1) (.c (.str [226, 137, 160])))) (fun z1 => iteP z1 (bindO (selO x0 0 1 false) (fun z2 => bindO (selO x0 1 1 false) (fun z3
    => bindO (pureO (.bin .neq .num false (.c z2) (.c z3))) (fun z4 => bindO (callO B .cl (.fn 85 []) [z4]) (fun z5 => some (.tup [z5, .nilI], e)))))) (bindO (pureO (.bin .eql .str
    true (.c x1) (.c (.str [226, 137, 164])))) (fun z6 => iteP z6 (bindO (selO x0 0 1 false) (fun z7 => bindO (selO x0 1 1 false) (fun z8 => bindO (pureO (.bin .eql .num false (.c z7)
    (.c z8))) (fun z9 => bindO (callO B .cl (.fn 85 []) [z9]) (fun z10 => bindO (selO x0 0 1 false) (fun z11 => bindO (selO x0 1 1 false) (fun z12 => bindO (pureO (.bin .lss .num false
    (.c z11) (.c z12))) (fun z13 => bindO (callO B .cl (.fn 85 []) [z13]) (fun z14 => bindO (pureO (.bin .or .num false (.c z10) (.c z14))) (fun z15 => some (.tup [z15, .nilI],
    e))))))))))) (bindO (pureO (.bin .eql .str true (.c x1) (.c (.str [60])))) (fun z16 => iteP z16 (bindO (selO x0 0 1 false) (fun z17 => bindO (selO x0 1 1 false) (fun z18 => bindO
    (pureO (.bin .lss .num false (.c z17) (.c z18))) (fun z19 => bindO (callO B .cl (.fn 85 []) [z19]) (fun z20 => bindO (pureO (.bin .or .num false (.c (.int .i64 0)) (.c z20))) (fun
    z21 => some (.tup [z21, .nilI], e))))))) (bindO (pureO (.bin .eql .str true (.c x1) (.c (.str [61])))) (fun z22 => iteP z22 (iteP z22 (bindO (selO x0 0 1 false) (fun z23 => bindO
    (selO x0 1 1 false) (fun z24 => bindO (pureO (.bin .eql .num false (.c z23) (.c z24))) (fun z25 => bindO (callO B .cl (.fn 85 []) [z25]) (fun z26 => bindO (pureO (.bin .eql .str
    true (.c x1) (.c (.str [61])))) (fun z27 => iteP z27 (some (.tup [z26, .nilI], e)) (bindO (selO x0 0 1 false) (fun z28 => bindO (selO x0 1 1 false) (fun z29 => bindO (pureO (.bin
    .gtr .num false (.c z28) (.c z29))) (fun z30 => bindO (callO B .cl (.fn 85 []) [z30]) (fun z31 => bindO (pureO (.bin .or .num false (.c z26) (.c z31))) (fun z32 => some (.tup [z32,
    .nilI], e))))))))))))) (bindO (pureO (.bin .eql .str true (.c x1) (.c (.str [62])))) (fun z33 => iteP z33 (bindO (selO x0 0 1 false) (fun z34 => bindO (selO x0 1 1 false) (fun z35
    => bindO (pureO (.bin .gtr .num false (.c z34) (.c z35))) (fun z36 => bindO (callO B .cl (.fn 85 []) [z36]) (fun z37 => bindO (pureO (.bin .or .num false (.c (.int .i64 0)) (.c
    z37))) (fun z38 => some (.tup [z38, .nilI], e))))))) (some (.tup [.int .i64 0, .nilI], e))))) (bindO (pureO (.bin .eql .str true (.c x1) (.c (.str [226, 137, 165])))) (fun z39 =>
    iteP z39 (bindO (selO x0 0 1 false) (fun z40 => bindO (selO x0 1 1 false) (fun z41 => bindO (pureO (.bin .eql .num false (.c z40) (.c z41))) (fun z42 => bindO (callO B .cl (.fn 85
    []) [z42]) (fun z43 => bindO (pureO (.bin .eql .str true (.c x1) (.c (.str [61])))) (fun z44 => iteP z44 (some (.tup [z43, .nilI], e)) (bindO (selO x0 0 1 false) (fun z45 => bindO
    (selO x0 1 1 false) (fun z46 => bindO (pureO (.bin .gtr .num false (.c z45) (.c z46))) (fun z47 => bindO (callO B .cl (.fn 85 []) [z47]) (fun z48 => bindO (pureO (.bin .or .num
    false (.c z43) (.c z48))) (fun z49 => some (.tup [z49, .nilI], e))))))))))))) (bindO (pureO (.bin .eql .str true (.c x1) (.c (.str [62])))) (fun z50 => iteP z50 (bindO (selO x0 0 1
    false) (fun z51 => bindO (selO x0 1 1 false) (fun z52 => bindO (pureO (.bin .gtr .num false (.c z51) (.c z52))) (fun z53 => bindO (callO B .cl (.fn 85 []) [z53]) (fun z54 => bindO
    (pureO (.bin .or .num false (.c (.int .i64 0)) (.c z54))) (fun z55 => some (.tup [z55, .nilI], e))))))) (some (.tup [.int .i64 0, .nilI], e)))))))))))))) := by kernel_rfl
theorem run79 (B : KB) {E : Type} (h : Handler E) (dep : Nat) (e : E) (x0 : PV) (x1 : PV) :
    runK (cfg0 B (fun _ => .cl)) fn79 (.cl) h dep [.cv x0, .cv x1] e =
    chkO (valO x0) (bindO (selO x0 0 2 true) (fun z1 => bindO (pureO (.load 1 false (.c x1))) (fun z2 => bindO (callO B .cl (.fn 80 []) [z1, z2]) (fun z3 => bindO (pureO (.extract 0
    (.c z3))) (fun z4 => bindO (pureO (.extract 1 (.c z3))) (fun z5 => some (.tup [z4, z5], e))))))) := by kernel_rfl
theorem run80 (B : KB) {E : Type} (h : Handler E) (dep : Nat) (e : E) (x0 : PV) (x1 : PV) :
    runK (cfg0 B (fun _ => .cl)) fn80 (.cl) h dep [.cv x0, .cv x1] e =
    chkO (valO x0) (bindO (selO x0 0 1 false) (fun z1 => bindO (selO x0 1 1 false) (fun z2 => bindO (pureO (.bin .and .num false (.c z1) (.c z2))) (fun z3 => bindO (pureO (.bin .eql
    .str true (.c x1) (.c (.str [226, 136, 168])))) (fun z4 => iteP z4 (bindO (selO x0 0 1 false) (fun z5 => bindO (selO x0 1 1 false) (fun z6 => bindO (pureO (.bin .or .num false (.c
    z5) (.c z6))) (fun z7 => bindO (pureO (.build [.str []] [(0, (1, .c x1))])) (fun z8 => bindO (selO x0 0 1 false) (fun z9 => bindO (pureO (.bin .shr .num true (.c z9) (.c (.int .u64
    1)))) (fun z10 => bindO (pureO (.bin .eql .num true (.c z10) (.c (.int .i64 0)))) (fun z11 => bindO (selO x0 1 1 false) (fun z12 => bindO (pureO (.bin .shr .num true (.c z12) (.c
    (.int .u64 1)))) (fun z13 => bindO (pureO (.bin .eql .num true (.c z13) (.c (.int .i64 0)))) (fun z14 => chkO (okSls 1 [z11, z14]) (bindO (lendO B .cl false 88 [z7, .iface 73 z8,
    slO 1 1 [z11, z14] 0 (lenL [z11, z14])]) (fun z15 => bindO (pureO (.extract 0 (.c z15))) (fun z16 => bindO (pureO (.extract 1 (.c z15))) (fun z17 => some (.tup [z16, z17],
    e)))))))))))))))) (bindO (pureO (.build [.str []] [(0, (1, .c x1))])) (fun z18 => bindO (selO x0 0 1 false) (fun z19 => bindO (pureO (.bin .shr .num true (.c z19) (.c (.int .u64
    1)))) (fun z20 => bindO (pureO (.bin .eql .num true (.c z20) (.c (.int .i64 0)))) (fun z21 => bindO (selO x0 1 1 false) (fun z22 => bindO (pureO (.bin .shr .num true (.c z22) (.c
    (.int .u64 1)))) (fun z23 => bindO (pureO (.bin .eql .num true (.c z23) (.c (.int .i64 0)))) (fun z24 => chkO (okSls 1 [z21, z24]) (bindO (lendO B .cl false 88 [z3, .iface 73 z18,
    slO 1 1 [z21, z24] 0 (lenL [z21, z24])]) (fun z25 => bindO (pureO (.extract 0 (.c z25))) (fun z26 => bindO (pureO (.extract 1 (.c z25))) (fun z27 => some (.tup [z26, z27],
    e)))))))))))))))))) := by kernel_rfl
theorem run82 (B : KB) {E : Type} (h : Handler E) (dep : Nat) (e : E) (x0 : PV) :
    runK (cfg0 B (fun _ => .cl)) fn82 (.cl) h dep [.cv x0] e =
    some (.tup [x0, .nilI], e) := by kernel_rfl
theorem run83 (B : KB) {E : Type} (h : Handler E) (dep : Nat) (e : E) (x0 : PV) :
    runK (cfg0 B (fun _ => .cl)) fn83 (.cl) h dep [.cv x0] e =
    bindO (pureO (.build [.int .i64 0, .int .i64 0] [(0, (1, .c (.int .i64 0))), (1, (1, .c x0))])) (fun z1 => bindO (pureO (.build [.int .i64 0, .int .i64 0] [(0, (2, .c z1))])) (fun
    z2 => bindO (callO B .cl (.fn 71 []) [z2]) (fun z3 => bindO (pureO (.extract 0 (.c z3))) (fun z4 => bindO (pureO (.extract 1 (.c z3))) (fun z5 => some (.tup [z4, z5], e)))))) := by kernel_rfl
theorem run84 (B : KB) {E : Type} (h : Handler E) (dep : Nat) (e : E) (x0 : PV) :
    runK (cfg0 B (fun _ => .cl)) fn84 (.cl) h dep [.cv x0] e =
    bindO (pureO (.bin .gtr .num true (.c x0) (.c (.int .i64 0)))) (fun z1 => bindO (callO B .cl (.fn 85 []) [z1]) (fun z2 => bindO (pureO (.bin .lss .num true (.c x0) (.c (.int .i64
    0)))) (fun z3 => bindO (callO B .cl (.fn 85 []) [z3]) (fun z4 => bindO (pureO (.bin .sub .num false (.c z2) (.c z4))) (fun z5 => some (.tup [z5, .nilI], e)))))) := by kernel_rfl
theorem run85 (B : KB) {E : Type} (h : Handler E) (dep : Nat) (e : E) (x0 : PV) :
    runK (cfg0 B (fun _ => .cl)) fn85 (.cl) h dep [.cv x0] e =
    iteP x0 (some (.int .i64 1, e)) (some (.int .i64 0, e)) := by kernel_rfl
theorem run86 (B : KB) {E : Type} (h : Handler E) (dep : Nat) (e : E) (x0 : PV) :
    runK (cfg0 B (fun _ => .cl)) fn86 (.cl) h dep [.cv x0] e =
    bindO (pureO (.build [.int .i64 0, .int .i64 0] [(0, (1, .c (.int .i64 1))), (1, (1, .c x0))])) (fun z1 => bindO (pureO (.build [.int .i64 0, .int .i64 0] [(0, (2, .c z1))])) (fun
    z2 => bindO (callO B .cl (.fn 73 []) [z2]) (fun z3 => bindO (pureO (.extract 0 (.c z3))) (fun z4 => bindO (pureO (.extract 1 (.c z3))) (fun z5 => some (.tup [z4, z5], e)))))) := by kernel_rfl
theorem run87 (B : KB) {E : Type} (h : Handler E) (dep : Nat) (e : E) (x0 : PV) :
    runK (cfg0 B (fun _ => .cl)) fn87 (.cl) h dep [.cv x0] e =
    bindO (pureO (.bin .sub .num true (.c (.int .i64 1)) (.c x0))) (fun z1 => bindO (pureO (.build [.str []] [(0, (1, .c (.str [126])))])) (fun z2 => bindO (pureO (.bin .eql .num true
    (.c x0) (.c (.int .i64 0)))) (fun z3 => iteP z3 (chkO (okSls 1 [.bool true]) (bindO (lendO B .cl false 88 [z1, .iface 73 z2, slO 1 1 [.bool true] 0 (lenL [.bool true])]) (fun z4 =>
    bindO (pureO (.extract 0 (.c z4))) (fun z5 => bindO (pureO (.extract 1 (.c z4))) (fun z6 => some (.tup [z5, z6], e)))))) (bindO (pureO (.bin .eql .num true (.c x0) (.c (.int .i64
    1)))) (fun z7 => chkO (okSls 1 [z7]) (bindO (lendO B .cl false 88 [z1, .iface 73 z2, slO 1 1 [z7] 0 (lenL [z7])]) (fun z8 => bindO (pureO (.extract 0 (.c z8))) (fun z9 => bindO
    (pureO (.extract 1 (.c z8))) (fun z10 => some (.tup [z9, z10], e)))))))))) := by kernel_rfl
theorem run88 (B : KB) {E : Type} (h : Handler E) (dep : Nat) (e : E) (x0 : PV) (x1 : PV) (x2 : PV) :
    runK (cfg0 B (fun _ => .cl)) fn88 (.cl) h dep [.cv x0, .cv x1, .cv x2] e =
    bindO (pureO (.len .slice (.c x2))) (fun z1 => chkO (noUndef [x0, x1, x2, z1, .int .i64 0]) (loopL (fun z2 => bindO (pureO (.bin .lss .num false (.c (nth z2.1 4)) (.c (nth z2.1
    3)))) (fun z3 => iteP z3 (bindO (pureO (.idxAddr 1 (.c (nth z2.1 2)) (.c (nth z2.1 4)))) (fun z4 => bindO (pureO (.load 1 false (.c z4))) (fun z5 => bindO (pureO (.un .not (.c
    z5))) (fun z6 => iteP z6 (bindO (some (.tup [.int .i64 0, nth z2.1 1], z2.2)) (fun z7 => some (.inr z7))) (bindO (pureO (.bin .add .num true (.c (nth z2.1 4)) (.c (.int .i64 1))))
    (fun z8 => some (.inl ([nth z2.1 0, nth z2.1 1, nth z2.1 2, nth z2.1 3, z8], z2.2)))))))) (bindO (some (.tup [nth z2.1 0, .nilI], z2.2)) (fun z9 => some (.inr z9))))) ([x0, x1, x2,
    z1, .int .i64 0], e))) := by kernel_rfl
theorem run89 (B : KB) {E : Type} (h : Handler E) (dep : Nat) (e : E) (x0 : PV) (x1 : PV) :
    runK (cfg0 B (fun _ => .cl)) fn89 (.cl) h dep [.cv x0, .cv x1] e =
    bindO (pureO (.bin .lss .num true (.c x0) (.c (.int .i64 0)))) (fun z1 => iteP z1 (bindO (pureO (.load 1 false (.c x1))) (fun z2 => bindO (callO B .cl z2 [x0]) (fun z3 => bindO
    (pureO (.extract 0 (.c z3))) (fun z4 => bindO (pureO (.extract 1 (.c z3))) (fun z5 => some (.tup [z4, z5], e)))))) (some (.tup [x0, .nilI], e))) := by kernel_rfl
theorem run110 (B : KB) {E : Type} (h : Handler E) (dep : Nat) (e : E) (x0 : PV) (x1 : PV) :
    runK (cfg0 B (fun _ => .cl)) fn110 (.cl) h dep [.cv x0, .cv x1] e =
    bindO (pureO (.bin .and .num true (.c x0) (.c (.int .u64 4294967295)))) (fun z1 => bindO (pureO (.bin .shr .num true (.c x0) (.c (.int .u64 32)))) (fun z2 => bindO (pureO (.bin
    .and .num true (.c x1) (.c (.int .u64 4294967295)))) (fun z3 => bindO (pureO (.bin .shr .num true (.c x1) (.c (.int .u64 32)))) (fun z4 => bindO (pureO (.bin .mul .num false (.c
    z1) (.c z3))) (fun z5 => bindO (pureO (.bin .mul .num false (.c z2) (.c z3))) (fun z6 => bindO (pureO (.bin .shr .num true (.c z5) (.c (.int .u64 32)))) (fun z7 => bindO (pureO
    (.bin .add .num false (.c z6) (.c z7))) (fun z8 => bindO (pureO (.bin .and .num true (.c z8) (.c (.int .u64 4294967295)))) (fun z9 => bindO (pureO (.bin .shr .num true (.c z8) (.c
    (.int .u64 32)))) (fun z10 => bindO (pureO (.bin .mul .num false (.c z1) (.c z4))) (fun z11 => bindO (pureO (.bin .add .num false (.c z9) (.c z11))) (fun z12 => bindO (pureO (.bin
    .mul .num false (.c z2) (.c z4))) (fun z13 => bindO (pureO (.bin .add .num false (.c z13) (.c z10))) (fun z14 => bindO (pureO (.bin .shr .num true (.c z12) (.c (.int .u64 32))))
    (fun z15 => bindO (pureO (.bin .add .num false (.c z14) (.c z15))) (fun z16 => bindO (pureO (.bin .mul .num false (.c x0) (.c x1))) (fun z17 => some (.tup [z16, z17],
    e)))))))))))))))))) := by kernel_rfl
theorem run111 (B : KB) {E : Type} (h : Handler E) (dep : Nat) (e : E) (x0 : PV) :
    runK (cfg0 B (fun _ => .cl)) fn111 (.cl) h dep [.cv x0] e =
    bindO (pureO (.bin .lss .num true (.c x0) (.c (.int .i64 0)))) (fun z1 => iteP z1 (bindO (pureO (.conv .u64 (.c x0))) (fun z2 => bindO (pureO (.un .neg (.c z2))) (fun z3 => some
    (z3, e)))) (bindO (pureO (.conv .u64 (.c x0))) (fun z4 => some (z4, e)))) := by kernel_rfl
end Go.Ab


namespace Go.Ab.Arrays
open Go Go.Ab
def asT0 (p : Nat) : Nat := if p = 66 then 64 else if p = 117 then 73 else 0
def spAs (σ : Nm → Option Ob) : List PV → Option Out
  | [.nilI, .iface p (.ref _ o)] => if (p = 66 ∨ p = 117) ∧ o = 0 then some { v := .bool false } else none
  | [.iface t x, .iface p (.ref nm o)] => match σ nm with
    | some (.cells ty cs) => if (p = 66 ∨ p = 117) ∧ o = 0 ∧ t = asT0 p ∧ cs.length = 1 ∧ okCells x 1 = true then some { v := .bool true, upd := some (nm, .cells ty x.cells) } else none
    | _ => none
  | _ => none
def spIs : List PV → Option Out
  | [.nilI, .glob g t] => if (g = 1 ∨ g = 2) ∧ t = 175 then some { v := .bool false } else none
  | [.glob g t, .glob g' t'] => if (g = 1 ∨ g = 2) ∧ (g' = 1 ∨ g' = 2) ∧ t = 175 ∧ t' = 175 then some { v := .bool (g == g') } else none
  | [.iface s x, .glob g t] => if (g = 1 ∨ g = 2) ∧ t = 175 ∧ s = 73 ∧ okV x = true then some { v := .bool false } else none
  | _ => none
def countB (c : UInt8) : List UInt8 → Nat
  | [] => 0
  | x :: xs => (if x = c then 1 else 0) + countB c xs
def spCount : List PV → Option Out
  | [.str s, .str [c]] => some { v := .int .i64 (countB c s : Nat) }
  | _ => none
def spIdx : List PV → Option Out
  | [.str s, .int .u8 c] => if 0 ≤ c ∧ c < 256 then some { v := .int .i64 (Lib.indexByte s (UInt8.ofNat c.toNat)) } else none
  | _ => none
def digs : Nat → Nat → List UInt8
  | 0, _ => []
  | k + 1, u => if u < 10 then [UInt8.ofNat (48 + u)] else digs k (u / 10) ++ [UInt8.ofNat (48 + u % 10)]
def itoaF (n : Int) : List UInt8 := if n < 0 then 45 :: digs 20 n.natAbs else digs 20 n.toNat
def spFmt : List PV → Option Out
  | [.int .i64 n, .int .i64 10] => if -9223372036854775808 ≤ n ∧ n ≤ 9223372036854775807 then some { v := .str (itoaF n) } else none
  | _ => none
def spRepl : List PV → Option Out
  | [.str s, .str old, .str new, .int .i64 n] => if s.length ≤ 65536 ∧ new.length ≤ 65536 ∧ 1 ≤ old.length then some { v := .str (Lib.replace s old new n) } else none
  | _ => none
def spCheck (σ : Nm → Option Ob) : List PV → Option Out
  | [.ref n 0] => match σ n with
    | some (.cells 99 [.nilP, x]) => some { v := .tup [], upd := some (n, .cells 99 [.ref n 0, x]) }
    | some (.cells 99 [.ref n' 0, _]) => if n' = n then some { v := .tup [] } else none
    | _ => none
  | _ => none
def spStr (σ : Nm → Option Ob) : List PV → Option Out
  | [.ref n 0] => match σ n with
    | some (.cells 99 [_, .nilS]) => some { v := .str [] }
    | some (.cells 99 [_, .arr n' 1 0 k]) => match σ n' with
      | some (.arr 1 5 xs) => match bytesOf (xs.take k) with
        | some s => if n' ≠ n ∧ 0 < k ∧ k ≤ xs.length ∧ k ≤ mostLen then some { v := .str s, upd := some (n', dead), kill := some n' } else none
        | none => none
      | _ => none
    | _ => none
  | _ => none
def sp0 (g : FuncId) (σ : Nm → Option Ob) (vs : List PV) : Option Out :=
  if g = 43 then spAs σ vs
  else if g = 81 then spIs vs
  else if g = 62 then spCount vs
  else if g = 135 then spIdx vs
  else if g = 99 then spRepl vs
  else if g = 100 then spFmt vs
  else if g = 106 then spCheck σ vs
  else if g = 65 then spStr σ vs
  else none
noncomputable def B0 : KB := { sp := sp0, L := limCall sp0 tab0, I := limIo sp0 tab0, isIo := ioFlag tab0, leans := leanFlag tab0 }
end Go.Ab.Arrays


namespace Go.Ab.Arrays
open Go Go.Ab
def NotSp (g : FuncId) : Prop := g ≠ 43 ∧ g ≠ 81 ∧ g ≠ 62 ∧ g ≠ 135 ∧ g ≠ 99 ∧ g ≠ 100 ∧ g ≠ 106 ∧ g ≠ 65
instance (g : FuncId) : Decidable (NotSp g) := by unfold NotSp; infer_instance
theorem sp_none {g : FuncId} (h : NotSp g) (σ : Nm → Option Ob) (vs : List PV) : sp0 g σ vs = none := by
  unfold sp0
  rw [if_neg h.1, if_neg h.2.1, if_neg h.2.2.1, if_neg h.2.2.2.1, if_neg h.2.2.2.2.1, if_neg h.2.2.2.2.2.1, if_neg h.2.2.2.2.2.2.1, if_neg h.2.2.2.2.2.2.2]
theorem no_ref {n : Nm} {o : Nat} {vs : List PV} (hv : okVL vs = true) (hm : .ref n o ∈ vs) : False := by
  have := okVL_iff.1 hv _ hm
  simp [okV] at this
theorem io_flag : ∀ g, (iof0 g).isSome = ioFlag tab0 g := by
  intro g
  unfold iof0 ioFlag
  split
  · rfl
  · rename_i h1
    split
    · rename_i fn ht
      unfold tab0 at ht
      split at ht
      all_goals first | (exact (h1 rfl).elim) | (cases ht; done) | (cases ht; rfl)
    · rfl
theorem cfg_ok (d : Nat → RSh) : CfgOK (cfg0 B0 d) tab0 where
  L := rfl
  I := rfl
  isIo := rfl
  leans := rfl
  ioF g := io_flag g
  ioP g P h := by
    simp only [cfg0, iof0] at h
    split at h
    · cases h; exact ⟨fn64, rfl, by decide, by decide, by decide⟩
    · cases h
  spF g h σ vs := by
    simp only [cfg0, Bool.or_eq_false_iff, beq_eq_false_iff_ne] at h
    obtain ⟨⟨⟨⟨⟨⟨⟨h1, h2⟩, h3⟩, h4⟩, h5⟩, h6⟩, h7⟩, h8⟩ := h
    exact sp_none ⟨h1, h2, h3, h5, h4, h8, h6, h7⟩ σ vs
  loc g σ vs hv := by
    show sp0 g σ vs = sp0 g (fun _ => none) vs
    unfold sp0
    split
    · unfold spAs
      split
      · rfl
      · exact absurd (okVL_iff.1 hv _ (List.mem_cons_of_mem _ List.mem_cons_self)) (by simp [okV])
      · rfl
    iterate 5
      split
      · rfl
    split
    · unfold spCheck
      split
      · exact (no_ref hv List.mem_cons_self).elim
      · rfl
    split
    · unfold spStr
      split
      · exact (no_ref hv List.mem_cons_self).elim
      · rfl
    rfl
  asOk g p t n h σ nm ty cs h1 h2 := by
    simp only [cfg0] at h
    split at h
    · rename_i hc
      obtain ⟨rfl, rfl⟩ := hc
      cases h
      refine ⟨rfl, fun x hx => ?_⟩
      show sp0 43 σ [.iface 64 x, .iface 66 (.ref nm 0)] = some { v := .bool true, upd := some (nm, .cells ty x.cells) }
      unfold sp0 spAs asT0
      simp only [if_true, h1, h2, hx, and_self, true_or]
    · split at h
      · rename_i hc
        obtain ⟨rfl, rfl⟩ := hc
        cases h
        refine ⟨rfl, fun x hx => ?_⟩
        show sp0 43 σ [.iface 73 x, .iface 117 (.ref nm 0)] = some { v := .bool true, upd := some (nm, .cells ty x.cells) }
        unfold sp0 spAs asT0
        simp [h1, h2, hx]
      · cases h
theorem call {d : Nat → RSh} {g : FuncId} {fn : RFn} {sh : RSh} {args : List PV} {u : PV} (ht : tab0 g = some fn) (hg : NotSp g) (ha : okVL args = true) (hl : Nat.ble args.length fn.nt = true)
    (hr : runK (cfg0 B0 d) fn sh noHandler 0 (args.map KV.cv) () = some (u, ())) (hio : fn.io = false := by rfl) : callO B0 sh (.fn g []) args = some u := by
  refine call_of_run (cfg_ok d) ht (cap := []) (by simpa using ha) (by simpa using Nat.le_of_ble_eq_true hl) (sp_none hg (fun _ => none) _) ?_ hio
  simpa using hr
theorem call_eval {g : FuncId} {n : Nat} {args : List PV} {u : PV} (hg : NotSp g) (h : evalFn sp0 tab0 n Unit noHandler 0 g args () = some (u, [], ())) (hu : okV u = true) (hio : ioFlag tab0 g = false) : callO B0 .cl (.fn g []) args = some u := by
  obtain ⟨e2, _, h2⟩ := evalFn_par n Unit Unit (fun _ _ => True) noHandler (fun _ => noHandler) (fun _ _ _ _ _ _ _ h => by cases h) 0 g args () () trivial _ _ _ h
  have hL : B0.L Unit noHandler 0 g args () = some (u, [], ()) := lim_of h2
  have hI : B0.isIo g = false := hio
  have hs : B0.sp g (fun _ => none) args = none := sp_none hg _ _
  unfold callO
  simp [spO, hs, hI, hL, convO, convR, hu, chkO]
end Go.Ab.Arrays


namespace Go.Proofs.AbAS
open Go.RowKit Go.Proofs
theorem lies_b : liesAt Tryz.prog Tryz.prog.depth 99 (2 / Tryz.prog.cellsOf 99) 0 99 1 = true := by kernel_rfl
theorem info_b' : (Tryz.prog.info? 99).map (·.size) = some 2 := by kernel_rfl
theorem info_b : ∃ j, Tryz.prog.info? 99 = some j ∧ j.size = 2 := Option.map_eq_some_iff.1 info_b'
theorem cells5 : Tryz.prog.cellsOf 5 = 1 := by kernel_rfl
set_option maxHeartbeats 1000000 in
set_option maxRecDepth 100000 in
theorem check_used (b : Nat) (w : World) (h0 : w.cell? ⟨b, 0, none⟩ = some (.pointer (some ⟨b, 0, none⟩))) :
    Calls Tryz.prog 106 #[.pointer (some ⟨b, 0, none⟩)] w fun e w' => e = .returned (.tuple #[]) ∧ w' = w := by
  obtain ⟨j, hj, _⟩ := info_b
  go_enter Tryz.func106, Tryz.ntmps106
  go_wp2
  rw [Lib.run_neq_ptr_same w _ Tryz.underlying96 hj]
  go_wp2
  go_end0
  exact ⟨rfl, rfl⟩
set_option maxHeartbeats 1000000 in
set_option maxRecDepth 100000 in
theorem check_fresh (b : Nat) (w : World) (h0 : w.cell? ⟨b, 0, none⟩ = some (.pointer none)) (hsh : w.shape? b = some (99, 2)) (hfz : w.frozen? ⟨b, 0, none⟩ = false) :
    Calls Tryz.prog 106 #[.pointer (some ⟨b, 0, none⟩)] w fun e w' => e = .returned (.tuple #[]) ∧ w' = w.setCell ⟨b, 0, none⟩ (.pointer (some ⟨b, 0, none⟩)) := by
  obtain ⟨j, hj, hjs⟩ := info_b
  go_enter Tryz.func106, Tryz.ntmps106
  go_wp2
  rw [Lib.run_to_unsafe w ⟨b, 0, none⟩ Tryz.underlying96 Tryz.underlying102 hj (by rw [hjs]; decide) hsh (Nat.zero_lt_succ 1)]
  simp only [Result.andThen]
  rw [Oper.upon_value]
  go_wp2
  rw [run_callFunc_extern Tryz.func123 (by kernel_rfl) (by kernel_rfl) (by kernel_rfl) (e := Extern.AbiNoEscape.same) (by kernel_rfl)]
  rw [Lib.run_noEscape]
  simp only [Result.andThen]
  rw [Oper.upon_value]
  go_wp2
  rw [Lib.run_from_unsafe w ⟨b, 0, none⟩ Tryz.underlying102 Tryz.underlying96 hj hsh lies_b]
  simp only [Result.andThen]
  rw [Oper.upon_value]
  go_wp2
  go_end0
  exact ⟨rfl, rfl⟩
set_option maxHeartbeats 1000000 in
set_option maxRecDepth 100000 in
theorem count_one (s : ByteArray) (c : UInt8) (w : World) :
    Calls Tryz.prog 62 #[.string s, .string ⟨#[c]⟩] w fun e w' => e = .returned (.int .i64 (Lib.countByte s.data.toList c)) ∧ w' = w := by
  go_enter Tryz.func62, Tryz.ntmps62
  go_wp2
  rw [run_callFunc_extern Tryz.func104 (by kernel_rfl) (by kernel_rfl) (by kernel_rfl) (e := Extern.BytealgCount.count) (by kernel_rfl), Lib.run_countString]
  simp only [Result.andThen]
  rw [Oper.upon_value]
  go_wp2
  go_ret
  exact ⟨rfl, rfl⟩
set_option maxHeartbeats 1000000 in
set_option maxRecDepth 100000 in
theorem string_some (b g cap : Nat) (p : Value) (cur : Array Value) (l : List UInt8) (w : World) (hbk : w.heap[b]? = some (.cells #[p, .slice (some ⟨g, 0, none⟩) l.length cap] 99 (0, 0)))
    (hg : w.heap[g]? = some (.cells cur 5 (0, 0))) (h0 : l ≠ []) (hcap : l.length ≤ cap) (hcs : l.length ≤ cur.size) (h63 : l.length ≤ 9223372036854775807) (hl : ∀ (j : Nat) (x : UInt8), l[j]? = some x → cur[j]? = some (Value.int .u8 (x.toNat : Int))) :
    Calls Tryz.prog 65 #[.pointer (some ⟨b, 0, none⟩)] w fun e w' => e = .returned (.string ⟨l.toArray⟩) ∧ w' = w.drew.freeze ⟨g, 0, none⟩ l.length := by
  have hl0 : l.length ≠ 0 := by simpa using h0
  have c1 : w.drew.cell? ⟨b, 1, none⟩ = some (.slice (some ⟨g, 0, none⟩) l.length cap) := by
    have : w.drew.heap[b]? = some (.cells #[p, .slice (some ⟨g, 0, none⟩) l.length cap] 99 (0, 0)) := hbk
    rw [Lib.cell_of_heap this]; rfl
  have hSD : (Builtin.unsafeSliceData_ #[97] 128 #[.slice (some ⟨g, 0, none⟩) l.length cap]).run Tryz.prog w.drew = .ok (.pointer (some ⟨g, 0, none⟩)) w.drew :=
    Lib.run_unsafeSliceData_row _ _ _ _ _ _ (by omega)
  have hUS : (Builtin.unsafeString_ #[128, 3] 9 #[.pointer (some ⟨g, 0, none⟩), .int .i64 l.length]).run Tryz.prog w.drew = .ok (.string ⟨l.toArray⟩) (w.drew.freeze ⟨g, 0, none⟩ l.length) := by
    refine Lib.run_unsafeString_row w.drew 128 3 9 5 Tryz.underlying128 cells5 g cur.size (by have hg' : w.drew.heap[g]? = some (.cells cur 5 (0, 0)) := hg; simp [World.shape?, hg']) l h0 hcs h63 ?_
    intro j x hx
    have hg' : w.drew.heap[g]? = some (.cells cur 5 (0, 0)) := hg
    have e : ((⟨g, 0, none⟩ : Addr).add j) = ⟨g, j, none⟩ := by cases j <;> simp [Addr.add]
    rw [e, Lib.cell_of_heap hg']
    exact hl j x hx
  have mixed : Tryz.prog.follows .mixedOrders = true := by kernel_rfl
  go_enter Tryz.func65, Tryz.ntmps65
  go_wp2
  go_region_o
  all_goals (go_wp2; go_ret; exact ⟨rfl, rfl⟩)
set_option maxHeartbeats 1000000 in
set_option maxRecDepth 100000 in
theorem string_nil (b : Nat) (p : Value) (w : World) (hbk : w.heap[b]? = some (.cells #[p, .slice none 0 0] 99 (0, 0))) :
    Calls Tryz.prog 65 #[.pointer (some ⟨b, 0, none⟩)] w fun e w' => e = .returned (.string ⟨#[]⟩) ∧ w' = w.drew := by
  have hUS : ∀ W q, (Builtin.unsafeString_ #[128, 3] 9 #[.pointer q, .int .i64 0]).run Tryz.prog W = .ok (.string .empty) W := fun W q => Lib.run_unsafeString_none W _ _ _ q
  have c1 : w.drew.cell? ⟨b, 1, none⟩ = some (.slice none 0 0) := by
    have : w.drew.heap[b]? = some (.cells #[p, .slice none 0 0] 99 (0, 0)) := hbk
    rw [Lib.cell_of_heap this]; rfl
  have hSD : (Builtin.unsafeSliceData_ #[97] 128 #[.slice none 0 0]).run Tryz.prog w.drew = .ok (.pointer none) w.drew := rfl
  have mixed : Tryz.prog.follows .mixedOrders = true := by kernel_rfl
  go_enter Tryz.func65, Tryz.ntmps65
  go_wp2
  go_region_o
  all_goals (go_wp2; go_ret; exact ⟨rfl, rfl⟩)
end Go.Proofs.AbAS


namespace Go.Proofs
open Go.Shelf Go.RowKit Go.Sort Go.Lib
def Tryz.lays154_ren : Go.Shelf.Ren := ⟨fun | 154 => 99 | 138 => 62 | 165 => 119 | 143 => 105 | 166 => 64 | 197 => 120 | 169 => 65 | 195 => 103 | 218 => 104 | 240 => 106 | 241 => 129 | 219 => 122 | 260 => 130 | 276 => 123 | 277 => 140 | 217 => 135 | 225 => 136 | 224 => 137 | 267 => 138 | 266 => 146 | 314 => 147 | n => n, fun | 9 => 9 | 3 => 3 | 4 => 4 | 72 => 99 | 0 => 0 | 76 => 46 | 105 => 158 | 21 => 21 | 5 => 5 | 70 => 96 | 20 => 20 | 37 => 97 | 75 => 42 | 127 => 128 | 164 => 102 | 46 => 147 | 119 => 179 | 139 => 182 | 138 => 181 | 146 => 189 | 51 => 185 | 80 => 101 | n => n, fun | 1 => 3 | 3 => 6 | 4 => 7 | n => n⟩
theorem Tryz.lays154 : Go.Proofs.Lays.n154 Tryz.prog Tryz.lays154_ren := {
  mixed := by kernel_rfl
  f138 := Tryz.func62.trans (congrArg some (by kernel_rfl))
  f143 := Tryz.func105.trans (congrArg some (by kernel_rfl))
  f154 := Tryz.func99.trans (congrArg some (by kernel_rfl))
  f165 := Tryz.func119.trans (congrArg some (by kernel_rfl))
  f166 := Tryz.func64.trans (congrArg some (by kernel_rfl))
  f169 := Tryz.func65.trans (congrArg some (by kernel_rfl))
  f195 := Tryz.func103.trans (congrArg some (by kernel_rfl))
  f197 := Tryz.func120.trans (congrArg some (by kernel_rfl))
  f217 := Tryz.func135.trans (congrArg some (by kernel_rfl))
  f218 := Tryz.func104.trans (congrArg some (by kernel_rfl))
  f219 := Tryz.func122.trans (congrArg some (by kernel_rfl))
  f224 := Tryz.func137.trans (congrArg some (by kernel_rfl))
  f225 := Tryz.func136.trans (congrArg some (by kernel_rfl))
  f240 := Tryz.func106.trans (congrArg some (by kernel_rfl))
  f241 := Tryz.func129.trans (congrArg some (by kernel_rfl))
  f260 := Tryz.func130.trans (congrArg some (by kernel_rfl))
  f266 := Tryz.func146.trans (congrArg some (by kernel_rfl))
  f267 := Tryz.func138.trans (congrArg some (by kernel_rfl))
  f276 := Tryz.func123.trans (congrArg some (by kernel_rfl))
  f277 := Tryz.func140.trans (congrArg some (by kernel_rfl))
  f314 := Tryz.func147.trans (congrArg some (by kernel_rfl))
  t0 := Tryz.underlying0
  a0 := Tryz.isAgg0
  z0 := Tryz.sizeOf0
  v0 := Tryz.zeroValue0
  t3 := Tryz.underlying3
  a3 := Tryz.isAgg3
  z3 := Tryz.sizeOf3
  v3 := Tryz.zeroValue3
  t4 := Tryz.underlying4
  a4 := Tryz.isAgg4
  z4 := Tryz.sizeOf4
  v4 := Tryz.zeroValue4
  t5 := Tryz.underlying5
  a5 := Tryz.isAgg5
  z5 := Tryz.sizeOf5
  v5 := Tryz.zeroValue5
  t9 := Tryz.underlying9
  a9 := Tryz.isAgg9
  z9 := Tryz.sizeOf9
  v9 := Tryz.zeroValue9
  t20 := Tryz.underlying20
  a20 := Tryz.isAgg20
  z20 := Tryz.sizeOf20
  v20 := Tryz.zeroValue20
  t21 := Tryz.underlying21
  a21 := Tryz.isAgg21
  z21 := Tryz.sizeOf21
  v21 := Tryz.zeroValue21
  t37 := Tryz.underlying97
  a37 := Tryz.isAgg97
  z37 := Tryz.sizeOf97
  v37 := Tryz.zeroValue97
  t46 := Tryz.underlying147
  a46 := Tryz.isAgg147
  z46 := Tryz.sizeOf147
  v46 := Tryz.zeroValue147
  t51 := Tryz.underlying185
  a51 := Tryz.isAgg185
  z51 := Tryz.sizeOf185
  v51 := Tryz.zeroValue185
  t70 := Tryz.underlying96
  a70 := Tryz.isAgg96
  z70 := Tryz.sizeOf96
  v70 := Tryz.zeroValue96
  t72 := Tryz.underlying99
  a72 := Tryz.isAgg99
  z72 := Tryz.sizeOf99
  v72 := Tryz.zeroValue99
  t75 := Tryz.underlying42
  a75 := Tryz.isAgg42
  z75 := Tryz.sizeOf42
  v75 := Tryz.zeroValue42
  t76 := Tryz.underlying46
  a76 := Tryz.isAgg46
  z76 := Tryz.sizeOf46
  v76 := Tryz.zeroValue46
  t105 := Tryz.underlying158
  a105 := Tryz.isAgg158
  z105 := Tryz.sizeOf158
  v105 := Tryz.zeroValue158
  t119 := Tryz.underlying179
  a119 := Tryz.isAgg179
  z119 := Tryz.sizeOf179
  t127 := Tryz.underlying128
  a127 := Tryz.isAgg128
  z127 := Tryz.sizeOf128
  v127 := Tryz.zeroValue128
  t138 := Tryz.underlying181
  a138 := Tryz.isAgg181
  z138 := Tryz.sizeOf181
  v138 := Tryz.zeroValue181
  t139 := Tryz.underlying182
  a139 := Tryz.isAgg182
  z139 := Tryz.sizeOf182
  v139 := Tryz.zeroValue182
  t146 := Tryz.underlying189
  a146 := Tryz.isAgg189
  z146 := Tryz.sizeOf189
  v146 := Tryz.zeroValue189
  t164 := Tryz.underlying102
  a164 := Tryz.isAgg102
  z164 := Tryz.sizeOf102
  v164 := Tryz.zeroValue102
  g1 := by kernel_rfl
  g3 := by kernel_rfl
  g4 := by kernel_rfl }
def Tryz.lays173_ren : Go.Shelf.Ren := ⟨fun | 173 => 100 | 246 => 121 | 283 => 131 | 284 => 132 | 285 => 133 | 286 => 134 | 129 => 142 | 317 => 141 | 318 => 143 | 319 => 144 | 320 => 145 | 337 => 148 | 338 => 149 | n => n, fun | 2 => 2 | 3 => 3 | 9 => 9 | 4 => 4 | 171 => 169 | 0 => 0 | 53 => 143 | 37 => 97 | 5 => 5 | 173 => 172 | 212 => 184 | 51 => 185 | 20 => 20 | 213 => 186 | 46 => 147 | 232 => 192 | 233 => 193 | n => n, fun | 17 => 8 | 18 => 9 | 19 => 10 | n => n⟩
theorem Tryz.lays173 : Go.Proofs.LaysM.n173 Tryz.prog Tryz.lays173_ren := {
  mixed := by kernel_rfl
  f129 := Tryz.func142.trans (congrArg some (by kernel_rfl))
  f173 := Tryz.func100.trans (congrArg some (by kernel_rfl))
  f246 := Tryz.func121.trans (congrArg some (by kernel_rfl))
  f283 := Tryz.func131.trans (congrArg some (by kernel_rfl))
  f284 := Tryz.func132.trans (congrArg some (by kernel_rfl))
  f285 := Tryz.func133.trans (congrArg some (by kernel_rfl))
  f286 := Tryz.func134.trans (congrArg some (by kernel_rfl))
  f317 := Tryz.func141.trans (congrArg some (by kernel_rfl))
  f318 := Tryz.func143.trans (congrArg some (by kernel_rfl))
  f319 := Tryz.func144.trans (congrArg some (by kernel_rfl))
  f320 := Tryz.func145.trans (congrArg some (by kernel_rfl))
  f337 := Tryz.func148.trans (congrArg some (by kernel_rfl))
  f338 := Tryz.func149.trans (congrArg some (by kernel_rfl))
  t0 := Tryz.underlying0
  a0 := Tryz.isAgg0
  z0 := Tryz.sizeOf0
  v0 := Tryz.zeroValue0
  t2 := Tryz.underlying2
  a2 := Tryz.isAgg2
  z2 := Tryz.sizeOf2
  v2 := Tryz.zeroValue2
  t3 := Tryz.underlying3
  a3 := Tryz.isAgg3
  z3 := Tryz.sizeOf3
  v3 := Tryz.zeroValue3
  t4 := Tryz.underlying4
  a4 := Tryz.isAgg4
  z4 := Tryz.sizeOf4
  v4 := Tryz.zeroValue4
  t5 := Tryz.underlying5
  a5 := Tryz.isAgg5
  z5 := Tryz.sizeOf5
  v5 := Tryz.zeroValue5
  t9 := Tryz.underlying9
  a9 := Tryz.isAgg9
  z9 := Tryz.sizeOf9
  v9 := Tryz.zeroValue9
  t20 := Tryz.underlying20
  a20 := Tryz.isAgg20
  z20 := Tryz.sizeOf20
  v20 := Tryz.zeroValue20
  t37 := Tryz.underlying97
  a37 := Tryz.isAgg97
  z37 := Tryz.sizeOf97
  v37 := Tryz.zeroValue97
  t46 := Tryz.underlying147
  a46 := Tryz.isAgg147
  z46 := Tryz.sizeOf147
  v46 := Tryz.zeroValue147
  t51 := Tryz.underlying185
  a51 := Tryz.isAgg185
  z51 := Tryz.sizeOf185
  v51 := Tryz.zeroValue185
  t53 := Tryz.underlying143
  a53 := Tryz.isAgg143
  z53 := Tryz.sizeOf143
  v53 := Tryz.zeroValue143
  t171 := Tryz.underlying169
  a171 := Tryz.isAgg169
  z171 := Tryz.sizeOf169
  v171 := Tryz.zeroValue169
  t173 := Tryz.underlying172
  a173 := Tryz.isAgg172
  z173 := Tryz.sizeOf172
  v173 := Tryz.zeroValue172
  t212 := Tryz.underlying184
  a212 := Tryz.isAgg184
  z212 := Tryz.sizeOf184
  v212 := Tryz.zeroValue184
  t213 := Tryz.underlying186
  a213 := Tryz.isAgg186
  z213 := Tryz.sizeOf186
  t232 := Tryz.underlying192
  a232 := Tryz.isAgg192
  z232 := Tryz.sizeOf192
  v232 := Tryz.zeroValue192
  t233 := Tryz.underlying193
  a233 := Tryz.isAgg193
  z233 := Tryz.sizeOf193
  v233 := Tryz.zeroValue193
  g17 := by kernel_rfl
  g18 := by kernel_rfl
  g19 := by kernel_rfl
  i0 := by kernel_rfl
  i2 := by kernel_rfl
  i3 := by kernel_rfl
  i4 := by kernel_rfl
  i5 := by kernel_rfl
  i9 := by kernel_rfl
  i20 := by kernel_rfl
  i37 := by kernel_rfl
  i46 := by kernel_rfl
  i51 := by kernel_rfl
  i53 := by kernel_rfl
  i171 := by kernel_rfl
  i173 := by kernel_rfl
  i212 := by kernel_rfl
  i232 := by kernel_rfl
  i233 := by kernel_rfl
  m17 := by kernel_rfl
  m18 := by kernel_rfl
  m19 := by kernel_rfl }
theorem Tryz.extra : Builder.Extra Tryz.prog Tryz.lays154_ren where
  sizeBuilder := by kernel_rfl
  liesBuilder := by kernel_rfl
  t5 := Tryz.lays154.t5
  a5 := Tryz.lays154.a5
  z5 := Tryz.lays154.z5
  v5 := Tryz.lays154.v5
  infoByte := by kernel_rfl
  cellsByte := by kernel_rfl
  sizeByte := by kernel_rfl
  neB5 := by decide
namespace AbSh
theorem repl_run (s old new : ByteArray) (n m : Int) (w : World) (hs : s.size < 4294967281) (hm : w.cell? ⟨3, 0, none⟩ = some (.int .i64 m)) (h1 : 1 ≤ old.size) (hlen : s.size + Lib.countB s old * new.size ≤ 140737488355328) :
    Calls Tryz.prog 99 #[.string s, .string old, .string new, .int .i64 n] w fun e w' => e = .returned (.string ⟨(Lib.replace s.data.toList old.data.toList new.data.toList n).toArray⟩) ∧ Below w.heap.size w w' :=
  Any.strings_Replace Tryz.lays154 Tryz.extra s old new n m w hs hm h1 hlen
theorem fmt_run (n : Int) (h0 : -9223372036854775808 ≤ n) (h1 : n ≤ 9223372036854775807) (w : World) (ht : Lib.TabIs Tryz.prog w "internal/strconv.uint64pow10" .u64 Lib.pow10Tab) :
    Calls Tryz.prog 100 #[.int .i64 n, .int .i64 10] w fun e w' => e = .returned (.string ⟨(Lib.itoa n).toArray⟩) ∧ ∃ k os, w' = grow (w.drewN k) os :=
  Any.strconv_FormatInt_10 Tryz.lays173 n h0 h1 w ht
set_option maxHeartbeats 1000000 in
set_option maxRecDepth 100000 in
theorem index_run (s : ByteArray) (c : Int) (w : World) :
    Calls Tryz.prog 135 #[.string s, .int .u8 c] w fun e w' => e = .returned (.int .i64 (Lib.indexByte s.data.toList c.toNat.toUInt8)) ∧ w' = w := by
  go_enter Tryz.func135, Tryz.ntmps135
  go_wp2
  rw [run_callFunc_extern Tryz.func146 (by kernel_rfl) (by kernel_rfl) (by kernel_rfl) (e := Extern.BytealgIndexByte.indexByte) (by kernel_rfl), Lib.run_indexByteString]
  simp only [Result.andThen]
  rw [Oper.upon_value]
  go_wp2
  go_ret
  exact ⟨rfl, rfl⟩
end AbSh
end Go.Proofs


namespace Go.Proofs.AbIsA
open Go.RowKit Go.Extern.Stop Go.Stop Go.Extern Go.Proofs
theorem isTypeOf (v : Value) (w : World) : (Extern.ReflectliteType.typeOf #[.iface 175 v]).run Tryz.prog w = .ok (.iface 130 (.agg #[.pointer (some ⟨11, 175, none⟩)])) w := by kernel_rfl
theorem isComparable (w : World) : ((Extern.ReflectliteType.method fun t => do Extern.Rtype.noPackHeld "Comparable" t; (fun a => Value.bool a.comparable) <$> typeInfo t) #[.agg #[.pointer (some ⟨11, 175, none⟩)]]).run Tryz.prog w = .ok (.bool true) w := by kernel_rfl
theorem isMethodComparable (v : Value) (w : World) : (Go.method 321 130 v "Comparable").run Tryz.prog w = .ok (175, v) w := by kernel_rfl
theorem isComp : (Tryz.prog.info? 175).map (·.comparable) = some true := by kernel_rfl
theorem isSize : (Tryz.prog.info? 177).map (·.size) = some 1 := by kernel_rfl
theorem noIs175 (v : Value) (xT : TypeId) (w : World) : (Instr.typeAssert (.iface 175 v) xT 161 true).run Tryz.prog w = .ok (.tuple #[.nilIface, .bool false]) w := run_typeAssert_lacksB Tryz.underlying161 (by kernel_rfl) (by kernel_rfl) v xT w
theorem noUn175 (v : Value) (xT : TypeId) (w : World) : (Instr.typeAssert (.iface 175 v) xT 138 true).run Tryz.prog w = .ok (.tuple #[.nilIface, .bool false]) w := run_typeAssert_lacksB Tryz.underlying138 (by kernel_rfl) (by kernel_rfl) v xT w
theorem noUs175 (v : Value) (xT : TypeId) (w : World) : (Instr.typeAssert (.iface 175 v) xT 140 true).run Tryz.prog w = .ok (.tuple #[.nilIface, .bool false]) w := run_typeAssert_lacksB Tryz.underlying140 (by kernel_rfl) (by kernel_rfl) v xT w
theorem noIs73 (v : Value) (xT : TypeId) (w : World) : (Instr.typeAssert (.iface 73 v) xT 161 true).run Tryz.prog w = .ok (.tuple #[.nilIface, .bool false]) w := run_typeAssert_lacksB Tryz.underlying161 (by kernel_rfl) (by kernel_rfl) v xT w
theorem noUn73 (v : Value) (xT : TypeId) (w : World) : (Instr.typeAssert (.iface 73 v) xT 138 true).run Tryz.prog w = .ok (.tuple #[.nilIface, .bool false]) w := run_typeAssert_lacksB Tryz.underlying138 (by kernel_rfl) (by kernel_rfl) v xT w
theorem noUs73 (v : Value) (xT : TypeId) (w : World) : (Instr.typeAssert (.iface 73 v) xT 140 true).run Tryz.prog w = .ok (.tuple #[.nilIface, .bool false]) w := run_typeAssert_lacksB Tryz.underlying140 (by kernel_rfl) (by kernel_rfl) v xT w
set_option maxHeartbeats 1000000 in
set_option maxRecDepth 100000 in
theorem is_same (a : Addr) (w : World) :
    Calls Tryz.prog 81 #[.iface 175 (.pointer (some a)), .iface 175 (.pointer (some a))] w fun e w' => e = .returned (.bool true) ∧ w' = w := by
  obtain ⟨i, hi, hcmp⟩ := Option.map_eq_some_iff.1 isComp
  obtain ⟨j, hj, hjs⟩ := Option.map_eq_some_iff.1 isSize
  have h8 := @run_callFunc_extern Tryz.prog 107 _ Extern.ReflectliteType.typeOf Tryz.func107 (by kernel_rfl) (by kernel_rfl) (by kernel_rfl) (by kernel_rfl)
  have h32 := @run_callFunc_extern Tryz.prog 175 _ (Extern.ReflectliteType.method fun t => do Extern.Rtype.noPackHeld "Comparable" t; pure (.bool (← typeInfo t).comparable)) Tryz.func175 (by kernel_rfl) (by kernel_rfl) (by kernel_rfl) (by kernel_rfl)
  have tT := isTypeOf
  have cT := isComparable
  have mR := isMethodComparable
  have heq := run_eql_iface_ptr_same (P := Tryz.prog) w a Tryz.underlying42 Tryz.underlying175 hi hcmp hj
  go_enter Tryz.func81, Tryz.ntmps81
  go_wp2
  refine wp_loop_rounds 1 ?_
  rw [rounds_succ]
  go_wp2
  go_ret
  exact ⟨rfl, rfl⟩
set_option maxHeartbeats 1000000 in
set_option maxRecDepth 100000 in
theorem is_nil (b : Addr) (w : World) :
    Calls Tryz.prog 81 #[.nilIface, .iface 175 (.pointer (some b))] w fun e w' => e = .returned (.bool false) ∧ w' = w := by
  have hn := run_eql_iface_nil_left (P := Tryz.prog) w 175 (.pointer (some b)) Tryz.underlying42
  go_enter Tryz.func81, Tryz.ntmps81
  go_wp2
  go_ret
  exact ⟨rfl, rfl⟩
set_option maxHeartbeats 1000000 in
set_option maxRecDepth 100000 in
theorem is_other (a b : Addr) (ca cb : Array Value) (ta tb : TypeId) (w : World) (hne : a ≠ b) (ha : w.heap[a.block]? = some (.cells ca ta (0, 0))) (hb : w.heap[b.block]? = some (.cells cb tb (0, 0))) :
    Calls Tryz.prog 81 #[.iface 175 (.pointer (some a)), .iface 175 (.pointer (some b))] w fun e w' => e = .returned (.bool false) ∧ w' = w := by
  obtain ⟨i, hi, hcmp⟩ := Option.map_eq_some_iff.1 isComp
  obtain ⟨j, hj, hjs⟩ := Option.map_eq_some_iff.1 isSize
  have h8 := @run_callFunc_extern Tryz.prog 107 _ Extern.ReflectliteType.typeOf Tryz.func107 (by kernel_rfl) (by kernel_rfl) (by kernel_rfl) (by kernel_rfl)
  have h32 := @run_callFunc_extern Tryz.prog 175 _ (Extern.ReflectliteType.method fun t => do Extern.Rtype.noPackHeld "Comparable" t; pure (.bool (← typeInfo t).comparable)) Tryz.func175 (by kernel_rfl) (by kernel_rfl) (by kernel_rfl) (by kernel_rfl)
  have tT := isTypeOf
  have cT := isComparable
  have mR := isMethodComparable
  have nE := noIs175
  have uE := noUn175
  have vE := noUs175
  have heq := run_eql_iface_ptr_other (P := Tryz.prog) w Tryz.underlying42 Tryz.underlying175 hi hcmp hj (by rw [hjs]; decide) hne ha hb
  go_enter Tryz.func81, Tryz.ntmps81
  go_wp2
  refine wp_loop_rounds 1 ?_
  rw [rounds_succ]
  go_wp2
  go_ret
  exact ⟨rfl, rfl⟩
set_option maxHeartbeats 1000000 in
set_option maxRecDepth 100000 in
theorem is_type73 (v : Value) (b : Addr) (w : World) :
    Calls Tryz.prog 81 #[.iface 73 v, .iface 175 (.pointer (some b))] w fun e w' => e = .returned (.bool false) ∧ w' = w := by
  have h8 := @run_callFunc_extern Tryz.prog 107 _ Extern.ReflectliteType.typeOf Tryz.func107 (by kernel_rfl) (by kernel_rfl) (by kernel_rfl) (by kernel_rfl)
  have h32 := @run_callFunc_extern Tryz.prog 175 _ (Extern.ReflectliteType.method fun t => do Extern.Rtype.noPackHeld "Comparable" t; pure (.bool (← typeInfo t).comparable)) Tryz.func175 (by kernel_rfl) (by kernel_rfl) (by kernel_rfl) (by kernel_rfl)
  have tT := isTypeOf
  have cT := isComparable
  have mR := isMethodComparable
  have nE := noIs73
  have uE := noUn73
  have vE := noUs73
  have hty := run_eql_iface_types (P := Tryz.prog) 73 175 v (.pointer (some b)) Tryz.underlying42 (by decide) w
  go_enter Tryz.func81, Tryz.ntmps81
  go_wp2
  refine wp_loop_rounds 1 ?_
  rw [rounds_succ]
  go_wp2
  go_ret
  exact ⟨rfl, rfl⟩
end Go.Proofs.AbIsA


namespace Go.Proofs.AbAsA
open Go.RowKit Go.Extern.Stop Go.Stop Go.Extern
theorem as_nil (t : Value) (w : World) :
    Calls Tryz.prog 43 #[.nilIface, t] w fun e w' => e = .returned (.bool false) ∧ w' = w := by
  go_enter Tryz.func43, Tryz.ntmps43
  go_wp2
  go_ret
  exact ⟨rfl, rfl⟩
theorem Tryz.valueOf27 (t : Addr) (w : World) : (ReflectliteValue.unpack (.iface 66 (.pointer (some t)))).run Tryz.prog w
    = .ok (.agg #[.pointer (some ⟨11, 66, none⟩), .pointer (some ⟨w.heap.size, 0, none⟩), .int .u64 150]) (w.alloc (.cells #[.pointer (some t)] 66)) := by kernel_rfl
theorem Tryz.type27 (a : Addr) (w : World) : (ReflectliteValue.methodAny (ReflectliteValue.valueError "reflectlite.Value.Type" 0) (fun t _ _ _ => ReflectliteType.toType t) #[.agg #[.pointer (some ⟨11, 66, none⟩), .pointer (some a), .int .u64 150]]).run Tryz.prog w
    = .ok (.iface 130 (.agg #[.pointer (some ⟨11, 66, none⟩)])) w := by kernel_rfl
theorem Tryz.methodKind (h : Value) (w : World) : (Go.method 321 130 (.agg #[h]) "Kind").run Tryz.prog w = .ok (164, h) w := by kernel_rfl
theorem Tryz.kind27 (w : World) : ((ReflectliteType.abiMethod fun t => Functor.map (fun a : Nat => Value.int IntKind.u8 (a : Int)) (Rtype.kind t)) #[.pointer (some ⟨11, 66, none⟩)]).run Tryz.prog w = .ok (.int .u8 22) w := by kernel_rfl
theorem Tryz.kind25 (w : World) : ((ReflectliteType.abiMethod fun t => Functor.map (fun a : Nat => Value.int IntKind.u8 (a : Int)) (Rtype.kind t)) #[.pointer (some ⟨11, 64, none⟩)]).run Tryz.prog w = .ok (.int .u8 25) w := by kernel_rfl
theorem rlm (z : Sem Value) (f : TypeId → Addr → Nat → Nat → Sem Value) (v : Value) :
    ReflectliteValue.method z f #[v] = (do match ← ReflectliteValue.parts v with | none => z | some (t, a, fl) => f t a fl (fl % 32)) := rfl
theorem Tryz.parts27 (a : Addr) (w : World) : (ReflectliteValue.parts (.agg #[.pointer (some ⟨11, 66, none⟩), .pointer (some a), .int .u64 150])).run Tryz.prog w = .ok (some (66, a, 150)) w := by kernel_rfl
theorem Tryz.isNil27 (a p : Addr) (W : World) (ha : W.cell? a = some (.pointer (some p))) :
    (ReflectliteValue.method (ReflectliteValue.valueError "reflectlite.Value.IsNil" 0) ReflectliteValue.isNil #[.agg #[.pointer (some ⟨11, 66, none⟩), .pointer (some a), .int .u64 150]]).run Tryz.prog W = .ok (.bool false) W := by
  rw [rlm]
  simp only [Sem.run_bind, Tryz.parts27, Result.andThen]
  simp [ReflectliteValue.isNil, loadVar, isAgg, underlying, Tryz.underlying66, ha, Result.andThen]
theorem Tryz.methodElem (h : Value) (w : World) : (Go.method 321 130 (.agg #[h]) "Elem").run Tryz.prog w = .ok (176, .agg #[h]) w := by kernel_rfl
theorem Tryz.methodImplements (h : Value) (w : World) : (Go.method 321 130 (.agg #[h]) "Implements").run Tryz.prog w = .ok (177, .agg #[h]) w := by kernel_rfl
theorem Tryz.methodAssignableTo (h : Value) (w : World) : (Go.method 321 130 (.agg #[h]) "AssignableTo").run Tryz.prog w = .ok (174, .agg #[h]) w := by kernel_rfl
theorem Tryz.elem27 (w : World) : (ReflectliteType.method ReflectliteType.elem #[.agg #[.pointer (some ⟨11, 66, none⟩)]]).run Tryz.prog w = .ok (.iface 130 (.agg #[.pointer (some ⟨11, 64, none⟩)])) w := by kernel_rfl
theorem Tryz.implements25 (w : World) : (ReflectliteType.relation "Implements" ReflectliteType.implements_ #[.agg #[.pointer (some ⟨11, 64, none⟩)], .iface 130 (.agg #[.pointer (some ⟨11, 42, none⟩)])]).run Tryz.prog w = .ok (.bool true) w := by kernel_rfl
theorem Tryz.typeOf25 (v : Value) (w : World) : (ReflectliteType.typeOf #[.iface 64 v]).run Tryz.prog w = .ok (.iface 130 (.agg #[.pointer (some ⟨11, 64, none⟩)])) w := by kernel_rfl
theorem Tryz.assignable25 (w : World) : (ReflectliteType.relation "AssignableTo" ReflectliteType.assignableTo #[.agg #[.pointer (some ⟨11, 64, none⟩)], .iface 130 (.agg #[.pointer (some ⟨11, 64, none⟩)])]).run Tryz.prog w = .ok (.bool true) w := by kernel_rfl
theorem Tryz.elemOf27 (w : World) : (Rtype.elem? 66).run Tryz.prog w = .ok (some 64) w := by kernel_rfl
theorem Tryz.mk25 (p : Addr) (w : World) : (ReflectliteValue.mk 64 p ReflectliteValue.flagAddr).run Tryz.prog w = .ok (.agg #[.pointer (some ⟨11, 64, none⟩), .pointer (some p), .int .u64 409]) w := by kernel_rfl
theorem Tryz.elemV27 (a p : Addr) (W : World) (ha : W.cell? a = some (.pointer (some p))) :
    (ReflectliteValue.method (ReflectliteValue.valueError "reflectlite.Value.Elem" 0) ReflectliteValue.elem #[.agg #[.pointer (some ⟨11, 66, none⟩), .pointer (some a), .int .u64 150]]).run Tryz.prog W
      = .ok (.agg #[.pointer (some ⟨11, 64, none⟩), .pointer (some p), .int .u64 409]) W := by
  rw [rlm]
  simp only [Sem.run_bind, Tryz.parts27, Result.andThen]
  simp [ReflectliteValue.elem, loadVar, isAgg, underlying, Tryz.underlying66, ha, Result.andThen, Tryz.elemOf27, Tryz.mk25]
theorem rls (v x : Value) : ReflectliteValue.set #[v, x] = (do
    let (some (dst, a, fl), some (src, b, _)) := (← ReflectliteValue.parts v, ← ReflectliteValue.parts x)
      | unsupported (.noEntry "extern/(internal/reflectlite.Value).Set.zeroValue")
    if fl / ReflectliteValue.flagAddr % 2 == 0 then unsupported (.noEntry "extern/(internal/reflectlite.Value).Set.unaddressable")
    let val ← loadVar src b
    if ← Rtype.directlyAssignable dst src then storeVar dst a val
    else if ← Rtype.implements dst src then
      if (← Rtype.kind src) == 20 then
        match val with
        | .nilIface => unsupported (.noEntry "extern/reflectlite: a nil value of one interface type handed on as a value of another")
        | _ => storeVar dst a val
      else storeVar dst a (.iface src val)
    else panicString ("reflectlite.Set: value of type " ++ (← Rtype.spelt src) ++ " is not assignable to type " ++ (← Rtype.spelt dst))
    pure (.tuple #[])) := rfl
theorem Tryz.parts25a (a : Addr) (w : World) : (ReflectliteValue.parts (.agg #[.pointer (some ⟨11, 64, none⟩), .pointer (some a), .int .u64 409])).run Tryz.prog w = .ok (some (64, a, 409)) w := by kernel_rfl
theorem Tryz.parts25 (a : Addr) (w : World) : (ReflectliteValue.parts (.agg #[.pointer (some ⟨11, 64, none⟩), .pointer (some a), .int .u64 153])).run Tryz.prog w = .ok (some (64, a, 153)) w := by kernel_rfl
theorem Tryz.direct25 (w : World) : (Rtype.directlyAssignable 64 64).run Tryz.prog w = .ok true w := by kernel_rfl
theorem Tryz.set25 (ta b : Addr) (e old : Value) (h1 : e.oneCell' = true) (W : World) (hb : W.cell? b = some e) (ht : W.cell? ta = some old) (hf : W.frozen? ta = false) :
    (ReflectliteValue.set #[.agg #[.pointer (some ⟨11, 64, none⟩), .pointer (some ta), .int .u64 409], .agg #[.pointer (some ⟨11, 64, none⟩), .pointer (some b), .int .u64 153]]).run Tryz.prog W
      = .ok (.tuple #[]) (W.setCell ta e) := by
  rw [rls]
  simp only [Sem.run_bind, Tryz.parts25a, Tryz.parts25, Result.andThen]
  simp [ReflectliteValue.flagAddr, loadVar, Tryz.isAgg64, loadCells, loadCellsFrom, hb, Result.andThen, Tryz.direct25, storeVar, Value.cells, storeCells, Addr.add]
  rw [run_store Tryz.prog W ta _ _ h1]
  simp [ht, hf]
theorem valueOf51g (v : Value) (w : World) : (ReflectliteValue.unpack (.iface 64 v)).run Tryz.prog w
    = .ok (.agg #[.pointer (some ⟨11, 64, none⟩), .pointer (some ⟨w.heap.size, 0, none⟩), .int .u64 153]) (w.alloc (.cells v.cells 64)) := by kernel_rfl
theorem valueOf51 (v n : Value) (hv : v.cells = #[n]) (w : World) : (ReflectliteValue.unpack (.iface 64 v)).run Tryz.prog w
    = .ok (.agg #[.pointer (some ⟨11, 64, none⟩), .pointer (some ⟨w.heap.size, 0, none⟩), .int .u64 153]) (w.alloc (.cells #[n] 64)) := by rw [valueOf51g, hv]
set_option maxHeartbeats 8000000 in
set_option maxRecDepth 100000 in
theorem as_hit (v n : Value) (hv : v.cells = #[n]) (h1 : n.oneCell' = true) (t : Addr) (old : Value) (w : World) (hg : w.cell? ⟨0, 0, none⟩ = some (.iface 130 (.agg #[.pointer (some ⟨11, 42, none⟩)]))) (ht0 : w.cell? t = some old) (hf0 : w.frozen? t = false) :
    Calls Tryz.prog 43 #[.iface 64 v, .iface 66 (.pointer (some t))] w fun ev w' => ev = .returned (.bool true) ∧ w' = ((((w.alloc (.cells #[.pointer (some t)] 66)).alloc (.cells #[.pointer (some ⟨11, 66, none⟩), .pointer (some ⟨w.heap.size, 0, none⟩), .int .u64 150] 105)).alloc (.cells #[.pointer (some ⟨11, 66, none⟩), .pointer (some ⟨w.heap.size, 0, none⟩), .int .u64 150] 105)).alloc (.cells #[n] 64)).setCell t n := by
  have h6 := @run_callFunc_extern Tryz.prog 66 _ (fun args => ReflectliteValue.unpack (args.getD 0 (.tuple #[]))) Tryz.func66 (by kernel_rfl) (by kernel_rfl) (by kernel_rfl) (by kernel_rfl)
  have h7 := @run_callFunc_extern Tryz.prog 67 _ (ReflectliteValue.methodAny (ReflectliteValue.valueError "reflectlite.Value.Type" 0) (fun t _ _ _ => ReflectliteType.toType t)) Tryz.func67 (by kernel_rfl) (by kernel_rfl) (by kernel_rfl) (by kernel_rfl)
  have h8 := @run_callFunc_extern Tryz.prog 68 _ (ReflectliteValue.method (ReflectliteValue.valueError "reflectlite.Value.IsNil" 0) ReflectliteValue.isNil) Tryz.func68 (by kernel_rfl) (by kernel_rfl) (by kernel_rfl) (by kernel_rfl)
  have h27 := @run_callFunc_extern Tryz.prog 164 _ (ReflectliteType.abiMethod fun t => do pure (.int .u8 (← Rtype.kind t))) Tryz.func164 (by kernel_rfl) (by kernel_rfl) (by kernel_rfl) (by kernel_rfl)
  have h37 := @run_callFunc_extern Tryz.prog 176 _ (ReflectliteType.method ReflectliteType.elem) Tryz.func176 (by kernel_rfl) (by kernel_rfl) (by kernel_rfl) (by kernel_rfl)
  have h38 := @run_callFunc_extern Tryz.prog 177 _ (ReflectliteType.relation "Implements" ReflectliteType.implements_) Tryz.func177 (by kernel_rfl) (by kernel_rfl) (by kernel_rfl) (by kernel_rfl)
  have h10 := @run_callFunc_extern Tryz.prog 107 _ ReflectliteType.typeOf Tryz.func107 (by kernel_rfl) (by kernel_rfl) (by kernel_rfl) (by kernel_rfl)
  have h35 := @run_callFunc_extern Tryz.prog 174 _ (ReflectliteType.relation "AssignableTo" ReflectliteType.assignableTo) Tryz.func174 (by kernel_rfl) (by kernel_rfl) (by kernel_rfl) (by kernel_rfl)
  have h11 := @run_callFunc_extern Tryz.prog 108 _ (ReflectliteValue.method (ReflectliteValue.valueError "reflectlite.Value.Elem" 0) ReflectliteValue.elem) Tryz.func108 (by kernel_rfl) (by kernel_rfl) (by kernel_rfl) (by kernel_rfl)
  have h12 := @run_callFunc_extern Tryz.prog 109 _ ReflectliteValue.set Tryz.func109 (by kernel_rfl) (by kernel_rfl) (by kernel_rfl) (by kernel_rfl)
  have tO := Tryz.typeOf25
  have mA := Tryz.methodAssignableTo
  have a25 := Tryz.assignable25
  have v25 := valueOf51 v n hv
  have f6 := Tryz.valueOf27
  have f7 := Tryz.type27
  have mK := Tryz.methodKind
  have mE := Tryz.methodElem
  have mI := Tryz.methodImplements
  have k27 := Tryz.kind27
  have k25 := Tryz.kind25
  have e27 := Tryz.elem27
  have i25 := Tryz.implements25
  have n8 := Tryz.isNil27 ⟨w.heap.size, 0, none⟩ t ((w.alloc (.cells #[.pointer (some t)] 66)).alloc (.cells #[.pointer (some ⟨11, 66, none⟩), .pointer (some ⟨w.heap.size, 0, none⟩), .int .u64 150] 105)) (by simp)
  have hlt : 0 < w.heap.size := by
    rcases Nat.eq_zero_or_pos w.heap.size with h0 | h
    · simp [World.cell?, h0] at hg
    · exact h
  have hg2 : ((w.alloc (.cells #[.pointer (some t)] 66)).alloc (.cells #[.pointer (some ⟨11, 66, none⟩), .pointer (some ⟨w.heap.size, 0, none⟩), .int .u64 150] 105)).cell? ⟨0, 0, none⟩ = some (.iface 130 (.agg #[.pointer (some ⟨11, 42, none⟩)])) := by
    rw [World.cell?_alloc_lt _ _ ⟨0, 0, none⟩ (by simp), World.cell?_alloc_lt _ _ ⟨0, 0, none⟩ hlt]; exact hg
  have htl : t.block < w.heap.size := by
    rcases Nat.lt_or_ge t.block w.heap.size with h | h
    · exact h
    · simp [World.cell?, Array.getElem?_eq_none h] at ht0
  have el := Tryz.elemV27 ⟨w.heap.size, 0, none⟩ t (((w.alloc (.cells #[.pointer (some t)] 66)).alloc (.cells #[.pointer (some ⟨11, 66, none⟩), .pointer (some ⟨w.heap.size, 0, none⟩), .int .u64 150] 105)).alloc (.cells #[.pointer (some ⟨11, 66, none⟩), .pointer (some ⟨w.heap.size, 0, none⟩), .int .u64 150] 105)) (by rw [World.cell?_alloc_lt _ _ ⟨w.heap.size, 0, none⟩ (by simp; omega)]; simp)
  have st := Tryz.set25 t ⟨w.heap.size + 1 + 1 + 1, 0, none⟩ n old h1 ((((w.alloc (.cells #[.pointer (some t)] 66)).alloc (.cells #[.pointer (some ⟨11, 66, none⟩), .pointer (some ⟨w.heap.size, 0, none⟩), .int .u64 150] 105)).alloc (.cells #[.pointer (some ⟨11, 66, none⟩), .pointer (some ⟨w.heap.size, 0, none⟩), .int .u64 150] 105)).alloc (.cells #[n] 64))
    (by rw [World.cell?_alloc_at _ _ _ _ (by simp)]; rfl)
    (by rw [World.cell?_alloc_lt _ _ t (by simp; omega), World.cell?_alloc_lt _ _ t (by simp; omega), World.cell?_alloc_lt _ _ t (by simp; omega), World.cell?_alloc_lt _ _ t htl]; exact ht0)
    (by rw [World.frozen?_alloc_old _ _ t (by simp; omega), World.frozen?_alloc_old _ _ t (by simp; omega), World.frozen?_alloc_old _ _ t (by simp; omega), World.frozen?_alloc_old _ _ t (Nat.ne_of_lt htl)]; exact hf0)
  go_enter Tryz.func43, Tryz.ntmps43
  go_wp2
  refine wp_loop_rounds 1 ?_
  rw [rounds_succ]
  go_wp2
  go_ret
  exact ⟨rfl, rfl⟩
end Go.Proofs.AbAsA


namespace Go.Proofs.AbAsD
open Go.RowKit Go.Extern.Stop Go.Stop Go.Extern
theorem as_nil (t : Value) (w : World) :
    Calls Tryz.prog 43 #[.nilIface, t] w fun e w' => e = .returned (.bool false) ∧ w' = w := by
  go_enter Tryz.func43, Tryz.ntmps43
  go_wp2
  go_ret
  exact ⟨rfl, rfl⟩
theorem Tryz.valueOf27 (t : Addr) (w : World) : (ReflectliteValue.unpack (.iface 117 (.pointer (some t)))).run Tryz.prog w
    = .ok (.agg #[.pointer (some ⟨11, 117, none⟩), .pointer (some ⟨w.heap.size, 0, none⟩), .int .u64 150]) (w.alloc (.cells #[.pointer (some t)] 117)) := by kernel_rfl
theorem Tryz.type27 (a : Addr) (w : World) : (ReflectliteValue.methodAny (ReflectliteValue.valueError "reflectlite.Value.Type" 0) (fun t _ _ _ => ReflectliteType.toType t) #[.agg #[.pointer (some ⟨11, 117, none⟩), .pointer (some a), .int .u64 150]]).run Tryz.prog w
    = .ok (.iface 130 (.agg #[.pointer (some ⟨11, 117, none⟩)])) w := by kernel_rfl
theorem Tryz.methodKind (h : Value) (w : World) : (Go.method 321 130 (.agg #[h]) "Kind").run Tryz.prog w = .ok (164, h) w := by kernel_rfl
theorem Tryz.kind27 (w : World) : ((ReflectliteType.abiMethod fun t => Functor.map (fun a : Nat => Value.int IntKind.u8 (a : Int)) (Rtype.kind t)) #[.pointer (some ⟨11, 117, none⟩)]).run Tryz.prog w = .ok (.int .u8 22) w := by kernel_rfl
theorem Tryz.kind25 (w : World) : ((ReflectliteType.abiMethod fun t => Functor.map (fun a : Nat => Value.int IntKind.u8 (a : Int)) (Rtype.kind t)) #[.pointer (some ⟨11, 73, none⟩)]).run Tryz.prog w = .ok (.int .u8 25) w := by kernel_rfl
theorem rlm (z : Sem Value) (f : TypeId → Addr → Nat → Nat → Sem Value) (v : Value) :
    ReflectliteValue.method z f #[v] = (do match ← ReflectliteValue.parts v with | none => z | some (t, a, fl) => f t a fl (fl % 32)) := rfl
theorem Tryz.parts27 (a : Addr) (w : World) : (ReflectliteValue.parts (.agg #[.pointer (some ⟨11, 117, none⟩), .pointer (some a), .int .u64 150])).run Tryz.prog w = .ok (some (117, a, 150)) w := by kernel_rfl
theorem Tryz.isNil27 (a p : Addr) (W : World) (ha : W.cell? a = some (.pointer (some p))) :
    (ReflectliteValue.method (ReflectliteValue.valueError "reflectlite.Value.IsNil" 0) ReflectliteValue.isNil #[.agg #[.pointer (some ⟨11, 117, none⟩), .pointer (some a), .int .u64 150]]).run Tryz.prog W = .ok (.bool false) W := by
  rw [rlm]
  simp only [Sem.run_bind, Tryz.parts27, Result.andThen]
  simp [ReflectliteValue.isNil, loadVar, isAgg, underlying, Tryz.underlying117, ha, Result.andThen]
theorem Tryz.methodElem (h : Value) (w : World) : (Go.method 321 130 (.agg #[h]) "Elem").run Tryz.prog w = .ok (176, .agg #[h]) w := by kernel_rfl
theorem Tryz.methodImplements (h : Value) (w : World) : (Go.method 321 130 (.agg #[h]) "Implements").run Tryz.prog w = .ok (177, .agg #[h]) w := by kernel_rfl
theorem Tryz.methodAssignableTo (h : Value) (w : World) : (Go.method 321 130 (.agg #[h]) "AssignableTo").run Tryz.prog w = .ok (174, .agg #[h]) w := by kernel_rfl
theorem Tryz.elem27 (w : World) : (ReflectliteType.method ReflectliteType.elem #[.agg #[.pointer (some ⟨11, 117, none⟩)]]).run Tryz.prog w = .ok (.iface 130 (.agg #[.pointer (some ⟨11, 73, none⟩)])) w := by kernel_rfl
theorem Tryz.implements25 (w : World) : (ReflectliteType.relation "Implements" ReflectliteType.implements_ #[.agg #[.pointer (some ⟨11, 73, none⟩)], .iface 130 (.agg #[.pointer (some ⟨11, 42, none⟩)])]).run Tryz.prog w = .ok (.bool true) w := by kernel_rfl
theorem Tryz.typeOf25 (v : Value) (w : World) : (ReflectliteType.typeOf #[.iface 73 v]).run Tryz.prog w = .ok (.iface 130 (.agg #[.pointer (some ⟨11, 73, none⟩)])) w := by kernel_rfl
theorem Tryz.assignable25 (w : World) : (ReflectliteType.relation "AssignableTo" ReflectliteType.assignableTo #[.agg #[.pointer (some ⟨11, 73, none⟩)], .iface 130 (.agg #[.pointer (some ⟨11, 73, none⟩)])]).run Tryz.prog w = .ok (.bool true) w := by kernel_rfl
theorem Tryz.elemOf27 (w : World) : (Rtype.elem? 117).run Tryz.prog w = .ok (some 73) w := by kernel_rfl
theorem Tryz.mk25 (p : Addr) (w : World) : (ReflectliteValue.mk 73 p ReflectliteValue.flagAddr).run Tryz.prog w = .ok (.agg #[.pointer (some ⟨11, 73, none⟩), .pointer (some p), .int .u64 409]) w := by kernel_rfl
theorem Tryz.elemV27 (a p : Addr) (W : World) (ha : W.cell? a = some (.pointer (some p))) :
    (ReflectliteValue.method (ReflectliteValue.valueError "reflectlite.Value.Elem" 0) ReflectliteValue.elem #[.agg #[.pointer (some ⟨11, 117, none⟩), .pointer (some a), .int .u64 150]]).run Tryz.prog W
      = .ok (.agg #[.pointer (some ⟨11, 73, none⟩), .pointer (some p), .int .u64 409]) W := by
  rw [rlm]
  simp only [Sem.run_bind, Tryz.parts27, Result.andThen]
  simp [ReflectliteValue.elem, loadVar, isAgg, underlying, Tryz.underlying117, ha, Result.andThen, Tryz.elemOf27, Tryz.mk25]
theorem rls (v x : Value) : ReflectliteValue.set #[v, x] = (do
    let (some (dst, a, fl), some (src, b, _)) := (← ReflectliteValue.parts v, ← ReflectliteValue.parts x)
      | unsupported (.noEntry "extern/(internal/reflectlite.Value).Set.zeroValue")
    if fl / ReflectliteValue.flagAddr % 2 == 0 then unsupported (.noEntry "extern/(internal/reflectlite.Value).Set.unaddressable")
    let val ← loadVar src b
    if ← Rtype.directlyAssignable dst src then storeVar dst a val
    else if ← Rtype.implements dst src then
      if (← Rtype.kind src) == 20 then
        match val with
        | .nilIface => unsupported (.noEntry "extern/reflectlite: a nil value of one interface type handed on as a value of another")
        | _ => storeVar dst a val
      else storeVar dst a (.iface src val)
    else panicString ("reflectlite.Set: value of type " ++ (← Rtype.spelt src) ++ " is not assignable to type " ++ (← Rtype.spelt dst))
    pure (.tuple #[])) := rfl
theorem Tryz.parts25a (a : Addr) (w : World) : (ReflectliteValue.parts (.agg #[.pointer (some ⟨11, 73, none⟩), .pointer (some a), .int .u64 409])).run Tryz.prog w = .ok (some (73, a, 409)) w := by kernel_rfl
theorem Tryz.parts25 (a : Addr) (w : World) : (ReflectliteValue.parts (.agg #[.pointer (some ⟨11, 73, none⟩), .pointer (some a), .int .u64 153])).run Tryz.prog w = .ok (some (73, a, 153)) w := by kernel_rfl
theorem Tryz.direct25 (w : World) : (Rtype.directlyAssignable 73 73).run Tryz.prog w = .ok true w := by kernel_rfl
theorem Tryz.set25 (ta b : Addr) (e old : Value) (h1 : e.oneCell' = true) (W : World) (hb : W.cell? b = some e) (ht : W.cell? ta = some old) (hf : W.frozen? ta = false) :
    (ReflectliteValue.set #[.agg #[.pointer (some ⟨11, 73, none⟩), .pointer (some ta), .int .u64 409], .agg #[.pointer (some ⟨11, 73, none⟩), .pointer (some b), .int .u64 153]]).run Tryz.prog W
      = .ok (.tuple #[]) (W.setCell ta e) := by
  rw [rls]
  simp only [Sem.run_bind, Tryz.parts25a, Tryz.parts25, Result.andThen]
  simp [ReflectliteValue.flagAddr, loadVar, Tryz.isAgg73, loadCells, loadCellsFrom, hb, Result.andThen, Tryz.direct25, storeVar, Value.cells, storeCells, Addr.add]
  rw [run_store Tryz.prog W ta _ _ h1]
  simp [ht, hf]
theorem valueOf51g (v : Value) (w : World) : (ReflectliteValue.unpack (.iface 73 v)).run Tryz.prog w
    = .ok (.agg #[.pointer (some ⟨11, 73, none⟩), .pointer (some ⟨w.heap.size, 0, none⟩), .int .u64 153]) (w.alloc (.cells v.cells 73)) := by kernel_rfl
theorem valueOf51 (v n : Value) (hv : v.cells = #[n]) (w : World) : (ReflectliteValue.unpack (.iface 73 v)).run Tryz.prog w
    = .ok (.agg #[.pointer (some ⟨11, 73, none⟩), .pointer (some ⟨w.heap.size, 0, none⟩), .int .u64 153]) (w.alloc (.cells #[n] 73)) := by rw [valueOf51g, hv]
set_option maxHeartbeats 8000000 in
set_option maxRecDepth 100000 in
theorem as_hit (v n : Value) (hv : v.cells = #[n]) (h1 : n.oneCell' = true) (t : Addr) (old : Value) (w : World) (hg : w.cell? ⟨0, 0, none⟩ = some (.iface 130 (.agg #[.pointer (some ⟨11, 42, none⟩)]))) (ht0 : w.cell? t = some old) (hf0 : w.frozen? t = false) :
    Calls Tryz.prog 43 #[.iface 73 v, .iface 117 (.pointer (some t))] w fun ev w' => ev = .returned (.bool true) ∧ w' = ((((w.alloc (.cells #[.pointer (some t)] 117)).alloc (.cells #[.pointer (some ⟨11, 117, none⟩), .pointer (some ⟨w.heap.size, 0, none⟩), .int .u64 150] 105)).alloc (.cells #[.pointer (some ⟨11, 117, none⟩), .pointer (some ⟨w.heap.size, 0, none⟩), .int .u64 150] 105)).alloc (.cells #[n] 73)).setCell t n := by
  have h6 := @run_callFunc_extern Tryz.prog 66 _ (fun args => ReflectliteValue.unpack (args.getD 0 (.tuple #[]))) Tryz.func66 (by kernel_rfl) (by kernel_rfl) (by kernel_rfl) (by kernel_rfl)
  have h7 := @run_callFunc_extern Tryz.prog 67 _ (ReflectliteValue.methodAny (ReflectliteValue.valueError "reflectlite.Value.Type" 0) (fun t _ _ _ => ReflectliteType.toType t)) Tryz.func67 (by kernel_rfl) (by kernel_rfl) (by kernel_rfl) (by kernel_rfl)
  have h8 := @run_callFunc_extern Tryz.prog 68 _ (ReflectliteValue.method (ReflectliteValue.valueError "reflectlite.Value.IsNil" 0) ReflectliteValue.isNil) Tryz.func68 (by kernel_rfl) (by kernel_rfl) (by kernel_rfl) (by kernel_rfl)
  have h27 := @run_callFunc_extern Tryz.prog 164 _ (ReflectliteType.abiMethod fun t => do pure (.int .u8 (← Rtype.kind t))) Tryz.func164 (by kernel_rfl) (by kernel_rfl) (by kernel_rfl) (by kernel_rfl)
  have h37 := @run_callFunc_extern Tryz.prog 176 _ (ReflectliteType.method ReflectliteType.elem) Tryz.func176 (by kernel_rfl) (by kernel_rfl) (by kernel_rfl) (by kernel_rfl)
  have h38 := @run_callFunc_extern Tryz.prog 177 _ (ReflectliteType.relation "Implements" ReflectliteType.implements_) Tryz.func177 (by kernel_rfl) (by kernel_rfl) (by kernel_rfl) (by kernel_rfl)
  have h10 := @run_callFunc_extern Tryz.prog 107 _ ReflectliteType.typeOf Tryz.func107 (by kernel_rfl) (by kernel_rfl) (by kernel_rfl) (by kernel_rfl)
  have h35 := @run_callFunc_extern Tryz.prog 174 _ (ReflectliteType.relation "AssignableTo" ReflectliteType.assignableTo) Tryz.func174 (by kernel_rfl) (by kernel_rfl) (by kernel_rfl) (by kernel_rfl)
  have h11 := @run_callFunc_extern Tryz.prog 108 _ (ReflectliteValue.method (ReflectliteValue.valueError "reflectlite.Value.Elem" 0) ReflectliteValue.elem) Tryz.func108 (by kernel_rfl) (by kernel_rfl) (by kernel_rfl) (by kernel_rfl)
  have h12 := @run_callFunc_extern Tryz.prog 109 _ ReflectliteValue.set Tryz.func109 (by kernel_rfl) (by kernel_rfl) (by kernel_rfl) (by kernel_rfl)
  have tO := Tryz.typeOf25
  have mA := Tryz.methodAssignableTo
  have a25 := Tryz.assignable25
  have v25 := valueOf51 v n hv
  have f6 := Tryz.valueOf27
  have f7 := Tryz.type27
  have mK := Tryz.methodKind
  have mE := Tryz.methodElem
  have mI := Tryz.methodImplements
  have k27 := Tryz.kind27
  have k25 := Tryz.kind25
  have e27 := Tryz.elem27
  have i25 := Tryz.implements25
  have n8 := Tryz.isNil27 ⟨w.heap.size, 0, none⟩ t ((w.alloc (.cells #[.pointer (some t)] 117)).alloc (.cells #[.pointer (some ⟨11, 117, none⟩), .pointer (some ⟨w.heap.size, 0, none⟩), .int .u64 150] 105)) (by simp)
  have hlt : 0 < w.heap.size := by
    rcases Nat.eq_zero_or_pos w.heap.size with h0 | h
    · simp [World.cell?, h0] at hg
    · exact h
  have hg2 : ((w.alloc (.cells #[.pointer (some t)] 117)).alloc (.cells #[.pointer (some ⟨11, 117, none⟩), .pointer (some ⟨w.heap.size, 0, none⟩), .int .u64 150] 105)).cell? ⟨0, 0, none⟩ = some (.iface 130 (.agg #[.pointer (some ⟨11, 42, none⟩)])) := by
    rw [World.cell?_alloc_lt _ _ ⟨0, 0, none⟩ (by simp), World.cell?_alloc_lt _ _ ⟨0, 0, none⟩ hlt]; exact hg
  have htl : t.block < w.heap.size := by
    rcases Nat.lt_or_ge t.block w.heap.size with h | h
    · exact h
    · simp [World.cell?, Array.getElem?_eq_none h] at ht0
  have el := Tryz.elemV27 ⟨w.heap.size, 0, none⟩ t (((w.alloc (.cells #[.pointer (some t)] 117)).alloc (.cells #[.pointer (some ⟨11, 117, none⟩), .pointer (some ⟨w.heap.size, 0, none⟩), .int .u64 150] 105)).alloc (.cells #[.pointer (some ⟨11, 117, none⟩), .pointer (some ⟨w.heap.size, 0, none⟩), .int .u64 150] 105)) (by rw [World.cell?_alloc_lt _ _ ⟨w.heap.size, 0, none⟩ (by simp; omega)]; simp)
  have st := Tryz.set25 t ⟨w.heap.size + 1 + 1 + 1, 0, none⟩ n old h1 ((((w.alloc (.cells #[.pointer (some t)] 117)).alloc (.cells #[.pointer (some ⟨11, 117, none⟩), .pointer (some ⟨w.heap.size, 0, none⟩), .int .u64 150] 105)).alloc (.cells #[.pointer (some ⟨11, 117, none⟩), .pointer (some ⟨w.heap.size, 0, none⟩), .int .u64 150] 105)).alloc (.cells #[n] 73))
    (by rw [World.cell?_alloc_at _ _ _ _ (by simp)]; rfl)
    (by rw [World.cell?_alloc_lt _ _ t (by simp; omega), World.cell?_alloc_lt _ _ t (by simp; omega), World.cell?_alloc_lt _ _ t (by simp; omega), World.cell?_alloc_lt _ _ t htl]; exact ht0)
    (by rw [World.frozen?_alloc_old _ _ t (by simp; omega), World.frozen?_alloc_old _ _ t (by simp; omega), World.frozen?_alloc_old _ _ t (by simp; omega), World.frozen?_alloc_old _ _ t (Nat.ne_of_lt htl)]; exact hf0)
  go_enter Tryz.func43, Tryz.ntmps43
  go_wp2
  refine wp_loop_rounds 1 ?_
  rw [rounds_succ]
  go_wp2
  go_ret
  exact ⟨rfl, rfl⟩
end Go.Proofs.AbAsD


namespace Go.Ab
section sp
variable {cx : Cx} {E : Type} {w0 : World} {I0 F0 O0 : Nat → Prop} {Hd : Nat → Option Obj} {R : RelE E} {e : E} {ds : List Deferred} {I F : Nat → Prop} {lp : Nat → Option Nat} {L : Loc} {tmv suf : List Value} {st : St} {w w' : World} {dst : Option Nat}
theorem sp_pure (hs : SR lp I L st tmv suf w) (hf : Fr cx w0 I0 F0 O0 Hd R e ds I F L w) (h : LawEnd w w') {u : PV} {v : Value} (hv : RepV w' I lp (some L) u v) :
    ∃ I' L', SR lp I' L' (apply st dst { v := u }) (putV tmv dst v) suf w' ∧ Fr cx w0 I0 F0 O0 Hd R e ds I' F L' w' := by
  have hx : Ext I F w I F w' := ⟨h.os, h.tape, h.output, h.size, fun b hb _ => h.same b hb, fun _ h => h, fun _ h => .inl h, fun _ h => .inl h⟩
  have hi : IF I F w' := ⟨fun b hb => Nat.lt_of_lt_of_le (hf.sep.iB b hb) h.size, fun b hb => ⟨Nat.lt_of_lt_of_le (hf.sep.fB b hb).1 h.size, (hf.sep.fB b hb).2⟩⟩
  have hw : cx.Wd I w' := cx.stab I I w w' hf.wd (fun _ h => h) (fun b hb => h.same b (hf.sep.iB b hb)) h.size
  have hr : R.rel e I F w' := R.stab e I I F w w' hf.re (fun _ h => h) (fun b hb => h.same b (hb.elim (hf.sep.iB b) fun h => (hf.sep.fB b h).1)) h.size
  refine ⟨I, L, ?_, hf.called hx hi hw hr⟩
  have h2 := hs.called hf hx
  cases dst with
  | none => exact h2
  | some d => exact h2.put d hv
theorem lawEnd_refl (w : World) : LawEnd w w := ⟨rfl, rfl, rfl, Nat.le_refl _, fun _ _ => rfl⟩
theorem sp_turn (hs : SR lp I L st tmv suf w) (hf : Fr cx w0 I0 F0 O0 Hd R e ds I F L w) {nm : Nm} {b C : Nat} (hL : L nm = some (some (b, C)))
    (h1 : w'.os = w.os) (h2 : w'.tape = w.tape) (h3 : w'.output = w.output) (h4 : w.heap.size ≤ w'.heap.size) (hk : ∀ k, k < w.heap.size → k ≠ b → w'.heap[k]? = w.heap[k]?)
    {ob : Ob} (hob : ObRep w' I lp L b C ob) {u : PV} {v : Value} (hv : RepV w' I lp (some L) u v) :
    ∃ I' L', SR lp I' L' (apply st dst { v := u, upd := some (nm, ob) }) (putV tmv dst v) suf w' ∧ Fr cx w0 I0 F0 O0 Hd R e ds I' F L' w' := by
  have hI : ∀ k, I k → w'.heap[k]? = w.heap[k]? := fun k hi => hk k (hf.sep.iB k hi) fun e => (hf.lB nm b C hL).2.2.1 (e ▸ hi)
  have hfr : Fr cx w0 I0 F0 O0 Hd R e ds I F L w' := hf.own h1 h2 h3 h4
    (fun k hb hno => hk k hb fun e => hno nm C (e ▸ hL)) (fun _ h => h) (fun _ h => .inl h)
    (fun nm' b' C' h => ⟨Nat.lt_of_lt_of_le (hf.lB nm' b' C' h).2.1 h4, (hf.lB nm' b' C' h).2.2.1, .inr ⟨nm', C', h⟩⟩) hf.inj
  have hsr : SR lp I L { st with objs := putOb st.objs nm ob } tmv suf w' := hs.upd hL hI
    (fun m b' C' hm h => hk b' (hf.lB m b' C' h).2.1 fun e => hm (hf.inj m nm b' C' C h (e ▸ hL))) hob
  refine ⟨I, L, ?_, hfr⟩
  cases dst with
  | none => exact hsr
  | some d => exact hsr.put d hv
theorem sp_gone (hs : SR lp I L st tmv suf w) (hf : Fr cx w0 I0 F0 O0 Hd R e ds I F L w) {nm : Nm} {p : Option (Nat × Nat)} (hL : L nm = some p)
    (h1 : w'.os = w.os) (h2 : w'.tape = w.tape) (h3 : w'.output = w.output) (h4 : w.heap.size ≤ w'.heap.size) (hk : ∀ b', b' < w.heap.size → (∀ C, p ≠ some (b', C)) → w'.heap[b']? = w.heap[b']?)
    {u : PV} {v : Value} (hv : ∀ L' : Loc, RepV w' I lp (some L') u v) :
    ∃ I' L', SR lp I' L' (apply st dst { v := u, upd := some (nm, dead), kill := some nm }) (putV tmv dst v) suf w' ∧ Fr cx w0 I0 F0 O0 Hd R e ds I' F L' w' := by
  have hI : ∀ b', I b' → w'.heap[b']? = w.heap[b']? := fun b' hb' => hk b' (hf.sep.iB b' hb') fun C e => (hf.lB nm b' C (by rw [hL, e])).2.2.1 hb'
  have hu := hs.regrow (w' := w') (k := 0) (kt := 0) (xs := []) (p' := none) hL hI
    (fun m b' C' hm hn => hk b' (hf.lB m b' C' hn).2.1 fun C e => hm (hf.inj m nm b' C' C hn (by rw [hL, e]))) ⟨0, 0, rfl⟩
  refine ⟨I, (fun m => if m = nm then some none else L m), ?_, ?_⟩
  · cases dst with
    | none => exact hu
    | some d => exact hu.put d (hv _)
  · refine hf.own h1 h2 h3 h4 (fun b' hb' hn => hk b' hb' fun C e => hn nm C (by rw [hL, e])) (fun _ h => h) (fun _ h => .inl h) ?_ ?_
    · intro m b' C' hn
      by_cases hm : m = nm
      · simp [hm] at hn
      · simp only [hm, if_false] at hn
        exact ⟨by have := (hf.lB m b' C' hn).2.1; omega, (hf.lB m b' C' hn).2.2.1, .inr ⟨m, C', hn⟩⟩
    · intro m m' b' C1 C2 hn hn'
      by_cases hm : m = nm
      · simp [hm] at hn
      · by_cases hm' : m' = nm
        · simp [hm'] at hn'
        · simp only [hm, hm', if_false] at hn hn'
          exact hf.inj m m' b' C1 C2 hn hn'
end sp
theorem repL1 {w : World} {I : Nat → Prop} {lp : Nat → Option Nat} {L : Option Loc} {a : PV} {us : List Value} (h : RepL w I lp L [a] us) : ∃ u, us = [u] ∧ RepV w I lp L a u := by
  obtain ⟨u, r, h1, rfl, h2⟩ : ∃ u r, RepV w I lp L a u ∧ us = u :: r ∧ RepL w I lp L [] r := by
    cases h; exact ⟨_, _, by assumption, rfl, by assumption⟩
  cases h2
  exact ⟨u, rfl, h1⟩
theorem repL2 {w : World} {I : Nat → Prop} {lp : Nat → Option Nat} {L : Option Loc} {a b : PV} {us : List Value} (h : RepL w I lp L [a, b] us) : ∃ u v, us = [u, v] ∧ RepV w I lp L a u ∧ RepV w I lp L b v := by
  obtain ⟨u, r, h1, rfl, h2⟩ : ∃ u r, RepV w I lp L a u ∧ us = u :: r ∧ RepL w I lp L [b] r := by
    cases h; exact ⟨_, _, by assumption, rfl, by assumption⟩
  obtain ⟨v, rfl, h3⟩ := repL1 h2
  exact ⟨u, v, rfl, h1, h3⟩
theorem setCell_same {W : World} {b o : Nat} {c : Array Value} {n : Value} {E' : TypeId} {fr : Nat × Nat} (h : W.heap[b]? = some (.cells c E' fr)) : (W.setCell ⟨b, o, none⟩ n).heap[b]? = some (.cells (c.setIfInBounds o n) E' fr) := by
  simp [World.setCell, Array.getElem?_modify, h]
theorem size_setCell (W : World) (a : Addr) (n : Value) : (W.setCell a n).heap.size = W.heap.size := by simp [World.setCell]
theorem cell_of_heap {w w' : World} {b : Nat} (h : w'.heap[b]? = w.heap[b]?) (o : Nat) : w'.cell? ⟨b, o, none⟩ = w.cell? ⟨b, o, none⟩ := by
  simp only [World.cell?, h]
theorem arr_one {c : Array Value} (h : c.size = 1) : ∃ n, c = #[n] := by
  refine ⟨c[0], ?_⟩
  apply Array.ext
  · simp [h]
  · intro i h1 h2
    have : i = 0 := by omega
    subst this; rfl
end Go.Ab


namespace Go.Ab.Arrays
open Go Go.Ab Go.Proofs
structure Vars (I : Nat → Prop) (w : World) : Prop where
  et : w.cell? ⟨0, 0, none⟩ = some (.iface 130 (.agg #[.pointer (some ⟨11, 42, none⟩)]))
  er : ∃ (a b : Addr) (ca cb : Array Value) (ta tb E1 E2 : TypeId) (f1 f2 : Nat × Nat), w.heap[1]? = some (.cells #[.iface 175 (.pointer (some a))] E1 f1) ∧ w.heap[2]? = some (.cells #[.iface 175 (.pointer (some b))] E2 f2) ∧ a ≠ b ∧ I a.block ∧ I b.block ∧
    w.heap[a.block]? = some (.cells ca ta (0, 0)) ∧ w.heap[b.block]? = some (.cells cb tb (0, 0))
  ml : ∃ m, w.cell? ⟨3, 0, none⟩ = some (.int .i64 m)
  pw : ∃ E fr, w.heap[8]? = some (.cells (Lib.pow10Tab.map fun z => Value.int .u64 z).toArray E fr)
noncomputable def cx0 : Cx where
  P := Tryz.prog
  mixed := by kernel_rfl
  G := globs0
  Wd I w := (I 0 ∧ I 1 ∧ I 2 ∧ I 3 ∧ I 8) ∧ Vars I w
  stab I I' w w' h h1 h2 _ := by
    obtain ⟨⟨i0, i1, i2, i3, i8⟩, et, ⟨a, b, ca, cb, ta, tb, E1, E2, f1, f2, e1, e2, e3, e4, e5, e6, e7⟩, ml, ⟨E, fr, pw⟩⟩ := h
    refine ⟨⟨h1 0 i0, h1 1 i1, h1 2 i2, h1 3 i3, h1 8 i8⟩, ?_, ⟨a, b, ca, cb, ta, tb, E1, E2, f1, f2, ?_, ?_, e3, h1 _ e4, h1 _ e5, ?_, ?_⟩, ?_, ⟨E, fr, ?_⟩⟩
    · rw [cell_of_heap (h2 0 i0)]; exact et
    · rw [h2 1 i1]; exact e1
    · rw [h2 2 i2]; exact e2
    · rw [h2 _ e4]; exact e6
    · rw [h2 _ e5]; exact e7
    · rw [cell_of_heap (h2 3 i3)]; exact ml
    · rw [h2 8 i8]; exact pw
  gl I w g cs h hg lp L := by
    obtain ⟨⟨i0, i1, i2, i3, i8⟩, et, ⟨a, b, ca, cb, ta, tb, E1, E2, f1, f2, e1, e2, e3, e4, e5, e6, e7⟩, ml, pw⟩ := h
    unfold globs0 at hg
    split at hg
    · rename_i hgg
      subst hgg
      cases hg
      exact RepV.ptr (off := 0) (o := 0) [.glob 1 175] 1 _ _ _ i1 e1 (by simp) (by simp) (by simp [One]; rfl) (by simp; exact .cons _ _ _ _ (.glob 1 175 _ _ _ _ i1 e1 rfl) .nil)
    · split at hg
      · rename_i _ hgg
        subst hgg
        cases hg
        exact RepV.ptr (off := 0) (o := 0) [.glob 2 175] 2 _ _ _ i2 e2 (by simp) (by simp) (by simp [One]; rfl) (by simp; exact .cons _ _ _ _ (.glob 2 175 _ _ _ _ i2 e2 rfl) .nil)
      · cases hg
theorem inv_glob' {w : World} {I : Nat → Prop} {lp : Nat → Option Nat} {L : Option Loc} {g : Nat} {t : TypeId} {v : Value} (h : RepV w I lp L (.glob g t) v) : ∃ x c E fr, v = .iface t x ∧ w.heap[g]? = some (.cells c E fr) ∧ c[0]? = some (.iface t x) := by
  cases h with
  | glob g t x c E fr hI hb hv => exact ⟨x, c, E, fr, rfl, hb, hv⟩
theorem lawEnd_below {w w' : World} (h : Go.RowKit.Below w.heap.size w w') : LawEnd w w' := ⟨h.os, h.tape, h.output, h.size, h.block⟩
theorem digs_eq : ∀ (k u : Nat), u < 10 ^ k → 0 < k → digs k u = Lib.decDigits u
  | 0, _, _, h => absurd h (Nat.lt_irrefl _)
  | k + 1, u, h, _ => by
    unfold digs
    rw [Lib.decDigits]
    by_cases hu : u < 10
    · rw [if_pos hu, dif_pos hu]
    · rw [if_neg hu, dif_neg hu]
      have h1 : 0 < k := by
        rcases Nat.eq_zero_or_pos k with rfl | hk
        · exact absurd (by simpa using h) hu
        · exact hk
      have h2 : u / 10 < 10 ^ k := by
        refine Nat.div_lt_of_lt_mul ?_
        rw [Nat.pow_succ, Nat.mul_comm] at h
        exact h
      rw [digs_eq k (u / 10) h2 h1]
theorem itoa_eq (n : Int) (h0 : -9223372036854775808 ≤ n) (h1 : n ≤ 9223372036854775807) : itoaF n = Lib.itoa n := by
  unfold itoaF Lib.itoa
  have hp : (18446744073709551616 : Nat) ≤ 10 ^ 20 := by decide
  rw [digs_eq 20 n.natAbs (by omega) (by decide), digs_eq 20 n.toNat (by omega) (by decide)]
theorem enters43 : Enters cx0.P 43 := ⟨_, Tryz.func43, by rfl, by rfl⟩
theorem enters81 : Enters cx0.P 81 := ⟨_, Tryz.func81, by rfl, by rfl⟩
theorem enters62 : Enters cx0.P 62 := ⟨_, Tryz.func62, by rfl, by rfl⟩
theorem enters135 : Enters cx0.P 135 := ⟨_, Tryz.func135, by rfl, by rfl⟩
theorem enters99 : Enters cx0.P 99 := ⟨_, Tryz.func99, by rfl, by rfl⟩
theorem enters100 : Enters cx0.P 100 := ⟨_, Tryz.func100, by rfl, by rfl⟩
theorem enters106 : Enters cx0.P 106 := ⟨_, Tryz.func106, by rfl, by rfl⟩
theorem enters65 : Enters cx0.P 65 := ⟨_, Tryz.func65, by rfl, by rfl⟩
theorem count_eq (c : UInt8) : ∀ s : List UInt8, countB c s = Lib.countByte s c
  | [] => rfl
  | x :: xs => by
    unfold countB
    rw [count_eq c xs]
    unfold Lib.countByte
    rw [List.count_cons]
    by_cases h : x = c
    · simp [h, Nat.add_comm]
    · simp [h]
theorem repL_bytes {w : World} {I : Nat → Prop} {lp : Nat → Option Nat} {L : Option Loc} : ∀ (xs : List PV) (vs : List Value) (s : List UInt8), RepL w I lp L xs vs → bytesOf xs = some s → ∀ (j : Nat) (x : UInt8), s[j]? = some x → vs[j]? = some (.int .u8 (x.toNat : Int))
  | [], _, s, _, h, j, x, hj => by cases h; simp at hj
  | p :: xs, _, s, h, hb, j, x, hj => by
    cases h with
    | cons _ v _ vs hv hs =>
      simp only [bytesOf] at hb
      split at hb
      · rename_i b bs h1 h2
        cases hb
        have hp : v = .int .u8 (b.toNat : Int) := by
          unfold byteOf at h1
          split at h1
          · rename_i n
            split at h1
            · rename_i hn
              cases h1
              rw [inv_int hv]
              congr 1
              simp
              omega
            · cases h1
          · cases h1
        cases j with
        | zero => simp at hj; subst hj; simp [hp]
        | succ j => simp at hj ⊢; exact repL_bytes xs vs bs hs h2 j x hj
      · cases hb
theorem bytesOf_len : ∀ (xs : List PV) (s : List UInt8), bytesOf xs = some s → s.length = xs.length
  | [], s, h => by cases h; rfl
  | p :: xs, s, h => by
    simp only [bytesOf] at h
    split at h
    · rename_i b bs h1 h2
      cases h
      simp [bytesOf_len xs bs h2]
    · cases h
theorem cells_flat : ∀ (xs : List PV) (s : List UInt8), bytesOf xs = some s → cellsL xs = xs
  | [], _, _ => rfl
  | p :: xs, s, h => by
    simp only [bytesOf] at h
    split at h
    · rename_i b bs h1 h2
      have hp : p.cells = [p] := by
        unfold byteOf at h1
        split at h1
        · rfl
        · cases h1
      simp [cellsL, hp, cells_flat xs bs h2]
    · cases h
theorem arr_two {c : Array Value} {a b : Value} (h : c.toList = [a, b]) : c = #[a, b] := by
  apply Array.toList_inj.1
  simpa using h
theorem freeze_other {W : World} {a : Addr} {n k : Nat} (h : k ≠ a.block) : (W.freeze a n).heap[k]? = W.heap[k]? := by
  unfold World.freeze
  split
  · rfl
  · simp [Array.getElem?_modify, Ne.symm h]
theorem repL4 {w : World} {I : Nat → Prop} {lp : Nat → Option Nat} {L : Option Loc} {a b c d : PV} {us : List Value} (h : RepL w I lp L [a, b, c, d] us) : ∃ u v x y, us = [u, v, x, y] ∧ RepV w I lp L a u ∧ RepV w I lp L b v ∧ RepV w I lp L c x ∧ RepV w I lp L d y := by
  obtain ⟨u, r, h1, rfl, h2⟩ : ∃ u r, RepV w I lp L a u ∧ us = u :: r ∧ RepL w I lp L [b, c, d] r := by
    cases h; exact ⟨_, _, by assumption, rfl, by assumption⟩
  obtain ⟨v, r, h3, rfl, h4⟩ : ∃ u q, RepV w I lp L b u ∧ r = u :: q ∧ RepL w I lp L [c, d] q := by
    cases h2; exact ⟨_, _, by assumption, rfl, by assumption⟩
  obtain ⟨x, y, rfl, h5, h6⟩ := repL2 h4
  exact ⟨u, v, x, y, rfl, h1, h3, h5, h6⟩
theorem sp_ok : SpOK cx0 sp0 := by
  intro g st vs out h
  unfold sp0 at h
  split at h
  ·
    rename_i hg
    subst hg
    unfold spAs at h
    split at h
    · split at h
      · rename_i hp
        obtain ⟨hp, rfl⟩ := hp
        cases h
        refine ⟨enters43, ?_⟩
        intro E w0 I0 F0 O0 Hd R e ds I F lp L tmv suf us w dst hs hf hu hd
        obtain ⟨u, v, rfl, h1, h2⟩ := repL2 hu
        rw [inv_nilI h1]
        refine callsIn_wide.2 ((Go.Proofs.AbAsA.as_nil v w).mono ?_)
        rintro ev w' ⟨rfl, rfl⟩
        exact sp_pure hs hf (lawEnd_refl _) (.bool false)
      · cases h
    · split at h
      · rename_i t x p nm o _ ty cs hlk
        split at h
        · rename_i hp
          obtain ⟨hpp, rfl, ht, hc1, hx1⟩ := hp
          cases h
          refine ⟨enters43, ?_⟩
          intro E w0 I0 F0 O0 Hd R e ds I F lp L tmv suf us w dst hs hf hu hd
          obtain ⟨u, v, rfl, h1, h2⟩ := repL2 hu
          obtain ⟨u', rfl, hx⟩ := inv_iface h1
          obtain ⟨v', rfl, hr⟩ := inv_iface h2
          obtain ⟨b, C, hL, rfl⟩ := inv_ref hr
          obtain ⟨q, hq, hob⟩ := hs.ob nm _ hlk
          rw [hL] at hq; cases hq
          obtain ⟨c, E', hb, hC, hone, hcs⟩ := hob
          unfold okCells at hx1
          simp only [Bool.and_eq_true, beq_iff_eq] at hx1
          obtain ⟨hu1, hu2⟩ := hx.cells hx1.1
          have len1 : u'.cells.size = 1 := by
            have := hu2.length
            simpa [hx1.2] using this.symm
          have lenc : c.size = 1 := by
            have := hcs.length
            simpa [hc1] using this.symm
          obtain ⟨n, hn⟩ : ∃ n, u'.cells = #[n] := arr_one len1
          obtain ⟨old, rfl⟩ : ∃ n, c = #[n] := arr_one lenc
          have hn1 : n.oneCell' = true := hu1 n (by simp [hn])
          have hbl : b < w.heap.size := (hf.lB nm b C hL).2.1
          have fin : ∀ w' : World, (∃ (o1 o2 o3 o4 : Obj), w' = ((((w.alloc o1).alloc o2).alloc o3).alloc o4).setCell ⟨b, 0, none⟩ n) → w'.os = w.os ∧ w'.tape = w.tape ∧ w'.output = w.output →
              ∃ I' L', SR lp I' L' (apply st dst { v := .bool true, upd := some (nm, .cells ty x.cells) }) (putV tmv dst (.bool true)) suf w' ∧ Fr cx0 w0 I0 F0 O0 Hd R e ds I' F L' w' := by
            rintro w' ⟨o1, o2, o3, o4, hw'⟩ ⟨k1, k2, k3⟩
            have hother : ∀ k, k < w.heap.size → k ≠ b → w'.heap[k]? = w.heap[k]? := fun k hk hkb => by
              subst hw'
              rw [Go.RowKit.Below.heap_setCell _ _ _ _ hkb, heap_alloc_lt _ _ (by simp; omega), heap_alloc_lt _ _ (by simp; omega), heap_alloc_lt _ _ (by simp; omega), heap_alloc_lt _ _ hk]
            have hself : w'.heap[b]? = some (.cells #[n] E' (0, 0)) := by
              subst hw'
              suffices key : ((((w.alloc o1).alloc o2).alloc o3).alloc o4).heap[b]? = some (.cells #[old] E' (0, 0)) by
                have := setCell_same (o := 0) (n := n) key
                simpa using this
              rw [heap_alloc_lt _ _ (by simp; omega), heap_alloc_lt _ _ (by simp; omega), heap_alloc_lt _ _ (by simp; omega), heap_alloc_lt _ _ hbl]
              exact hb
            have hI : ∀ k, I k → w'.heap[k]? = w.heap[k]? := fun k hk => hother k (hf.sep.iB k hk) fun e => (hf.lB nm b C hL).2.2.1 (e ▸ hk)
            refine sp_turn hs hf hL k1 k2 k3 (by subst hw'; rw [size_setCell]; simp; omega) hother ?_ (.bool true)
            exact ⟨#[n], E', hself, hC, ⟨fun v hv => by simp at hv; subst hv; exact hn1, hone.2⟩, RepL.mono (fun _ h => h) hI (fun _ _ h => h) (by rw [hn] at hu2; exact hu2)⟩
          rcases hpp with rfl | rfl
          · obtain rfl : t = 64 := ht
            refine callsIn_wide.2 ((Go.Proofs.AbAsA.as_hit u' n hn hn1 ⟨b, 0, none⟩ old w hf.wd.2.et (by simp [World.cell?, hb]) (by simp [World.frozen?, hb])).mono ?_)
            rintro ev w' ⟨rfl, hw'⟩
            exact fin w' ⟨_, _, _, _, hw'⟩ (by subst hw'; exact ⟨rfl, rfl, rfl⟩)
          · obtain rfl : t = 73 := ht
            refine callsIn_wide.2 ((Go.Proofs.AbAsD.as_hit u' n hn hn1 ⟨b, 0, none⟩ old w hf.wd.2.et (by simp [World.cell?, hb]) (by simp [World.frozen?, hb])).mono ?_)
            rintro ev w' ⟨rfl, hw'⟩
            exact fin w' ⟨_, _, _, _, hw'⟩ (by subst hw'; exact ⟨rfl, rfl, rfl⟩)
        · cases h
      · cases h
    · cases h
  split at h
  ·
    rename_i hg
    subst hg
    unfold spIs at h
    split at h
    · rename_i g t
      split at h
      · rename_i hp
        obtain ⟨hgg, rfl⟩ := hp
        cases h
        refine ⟨enters81, ?_⟩
        intro E w0 I0 F0 O0 Hd R e ds I F lp L tmv suf us w dst hs hf hu hd
        obtain ⟨u, v, rfl, h1, h2⟩ := repL2 hu
        rw [inv_nilI h1]
        obtain ⟨a, b, ca, cb, ta, tb, E1, E2, f1, f2, e1, e2, e3, e4, e5, e6, e7⟩ := hf.wd.2.er
        obtain ⟨x, c, E', fr, rfl, q1, q2⟩ := inv_glob' h2
        have hx : ∃ a, x = .pointer (some a) := by
          rcases hgg with rfl | rfl
          · rw [e1] at q1; cases q1; cases q2; exact ⟨_, rfl⟩
          · rw [e2] at q1; cases q1; cases q2; exact ⟨_, rfl⟩
        obtain ⟨a', rfl⟩ := hx
        refine callsIn_wide.2 ((Go.Proofs.AbIsA.is_nil a' w).mono ?_)
        rintro ev w' ⟨rfl, rfl⟩
        exact sp_pure hs hf (lawEnd_refl _) (.bool false)
      · cases h
    · rename_i g t g' t'
      split at h
      · rename_i hp
        obtain ⟨hg1, hg2, rfl, rfl⟩ := hp
        cases h
        refine ⟨enters81, ?_⟩
        intro E w0 I0 F0 O0 Hd R e ds I F lp L tmv suf us w dst hs hf hu hd
        obtain ⟨u, v, rfl, h1, h2⟩ := repL2 hu
        obtain ⟨a, b, ca, cb, ta, tb, E1, E2, f1, f2, e1, e2, e3, e4, e5, e6, e7⟩ := hf.wd.2.er
        obtain ⟨x, c, E', fr, rfl, q1, q2⟩ := inv_glob' h1
        obtain ⟨y, c', E'', fr', rfl, q1', q2'⟩ := inv_glob' h2
        rcases hg1 with rfl | rfl <;> rcases hg2 with rfl | rfl
        · rw [e1] at q1 q1'; cases q1; cases q1'; cases q2; cases q2'
          refine callsIn_wide.2 ((Go.Proofs.AbIsA.is_same a w).mono ?_)
          rintro ev w' ⟨rfl, rfl⟩
          exact sp_pure hs hf (lawEnd_refl _) (.bool true)
        · rw [e1] at q1; rw [e2] at q1'; cases q1; cases q1'; cases q2; cases q2'
          refine callsIn_wide.2 ((Go.Proofs.AbIsA.is_other a b ca cb ta tb w e3 e6 e7).mono ?_)
          rintro ev w' ⟨rfl, rfl⟩
          exact sp_pure hs hf (lawEnd_refl _) (.bool false)
        · rw [e2] at q1; rw [e1] at q1'; cases q1; cases q1'; cases q2; cases q2'
          refine callsIn_wide.2 ((Go.Proofs.AbIsA.is_other b a cb ca tb ta w e3.symm e7 e6).mono ?_)
          rintro ev w' ⟨rfl, rfl⟩
          exact sp_pure hs hf (lawEnd_refl _) (.bool false)
        · rw [e2] at q1 q1'; cases q1; cases q1'; cases q2; cases q2'
          refine callsIn_wide.2 ((Go.Proofs.AbIsA.is_same b w).mono ?_)
          rintro ev w' ⟨rfl, rfl⟩
          exact sp_pure hs hf (lawEnd_refl _) (.bool true)
      · cases h
    · rename_i ss x g t
      split at h
      · rename_i hp
        obtain ⟨hgg, rfl, rfl, hx⟩ := hp
        cases h
        refine ⟨enters81, ?_⟩
        intro E w0 I0 F0 O0 Hd R e ds I F lp L tmv suf us w dst hs hf hu hd
        obtain ⟨u, v, rfl, h1, h2⟩ := repL2 hu
        obtain ⟨u', rfl, hx'⟩ := inv_iface h1
        obtain ⟨a, b, ca, cb, ta, tb, E1, E2, f1, f2, e1, e2, e3, e4, e5, e6, e7⟩ := hf.wd.2.er
        obtain ⟨x, c, E', fr, rfl, q1, q2⟩ := inv_glob' h2
        have hx : ∃ a, x = .pointer (some a) := by
          rcases hgg with rfl | rfl
          · rw [e1] at q1; cases q1; cases q2; exact ⟨_, rfl⟩
          · rw [e2] at q1; cases q1; cases q2; exact ⟨_, rfl⟩
        obtain ⟨a', rfl⟩ := hx
        refine callsIn_wide.2 ((Go.Proofs.AbIsA.is_type73 u' a' w).mono ?_)
        rintro ev w' ⟨rfl, rfl⟩
        exact sp_pure hs hf (lawEnd_refl _) (.bool false)
      · cases h
    · cases h
  split at h
  ·
    rename_i hg
    subst hg
    unfold spCount at h
    split at h
    · cases h
      refine ⟨enters62, ?_⟩
      intro E w0 I0 F0 O0 Hd R e ds I F lp L tmv suf us w dst hs hf hu hd
      obtain ⟨u, v, rfl, h1, h2⟩ := repL2 hu
      rw [inv_str h1, inv_str h2]
      refine callsIn_wide.2 ((Go.Proofs.AbAS.count_one _ _ w).mono ?_)
      rintro ev w' ⟨rfl, rfl⟩
      refine sp_pure hs hf (lawEnd_refl _) ?_
      rw [count_eq]
      exact .int _ _
    · cases h
  split at h
  ·
    rename_i hg
    subst hg
    unfold spIdx at h
    split at h
    · split at h
      · rename_i s c hc
        cases h
        refine ⟨enters135, ?_⟩
        intro E w0 I0 F0 O0 Hd R e ds I F lp L tmv suf us w dst hs hf hu hd
        obtain ⟨u, v, rfl, h1, h2⟩ := repL2 hu
        rw [inv_str h1, inv_int h2]
        refine callsIn_wide.2 ((Go.Proofs.AbSh.index_run _ _ w).mono ?_)
        rintro ev w' ⟨rfl, rfl⟩
        exact sp_pure hs hf (lawEnd_refl _) (.int _ _)
      · cases h
    · cases h
  split at h
  ·
    rename_i hg
    subst hg
    unfold spRepl at h
    split at h
    · rename_i s old new n
      split at h
      · rename_i hc
        obtain ⟨l1, l2, l3⟩ := hc
        cases h
        refine ⟨enters99, ?_⟩
        intro E w0 I0 F0 O0 Hd R e ds I F lp L tmv suf us w dst hs hf hu hd
        obtain ⟨u1, u2, u3, u4, rfl, h1, h2, h3, h4⟩ := repL4 hu
        rw [inv_str h1, inv_str h2, inv_str h3, inv_int h4]
        obtain ⟨m, hm⟩ := hf.wd.2.ml
        have hcl := Lib.count_le s old
        refine callsIn_wide.2 ((Go.Proofs.AbSh.repl_run ⟨s.toArray⟩ ⟨old.toArray⟩ ⟨new.toArray⟩ n m w (by show s.toArray.size < _; simp; omega) hm (by show 1 ≤ old.toArray.size; simp; omega) (by
          show s.toArray.size + Lib.count s.toArray.toList old.toArray.toList * new.toArray.size ≤ _
          simp only [List.size_toArray]
          have : Lib.count s old * new.length ≤ 65537 * 65536 := Nat.mul_le_mul (by omega) l2
          omega)).mono ?_)
        rintro ev w' ⟨rfl, hw⟩
        exact sp_pure hs hf (lawEnd_below hw) (.str _)
      · cases h
    · cases h
  split at h
  ·
    rename_i hg
    subst hg
    unfold spFmt at h
    split at h
    · rename_i n
      split at h
      · rename_i hc
        cases h
        refine ⟨enters100, ?_⟩
        intro E w0 I0 F0 O0 Hd R e ds I F lp L tmv suf us w dst hs hf hu hd
        obtain ⟨u, v, rfl, h1, h2⟩ := repL2 hu
        rw [inv_int h1, inv_int h2]
        obtain ⟨E', fr, hp⟩ := hf.wd.2.pw
        have ht : Lib.TabIs Tryz.prog w "internal/strconv.uint64pow10" .u64 Lib.pow10Tab := by
          unfold Lib.TabIs World.var?
          rw [show Tryz.prog.globalNamed "internal/strconv.uint64pow10" = some 8 by kernel_rfl]
          simp only [Option.bind_some, hp]
        refine callsIn_wide.2 ((Go.Proofs.AbSh.fmt_run n hc.1 hc.2 w ht).mono ?_)
        rintro ev w' ⟨rfl, k, os, rfl⟩
        rw [itoa_eq n hc.1 hc.2]
        exact sp_pure hs hf (lawEnd_below (Lib.below_grow _ w (Nat.le_refl _) k os)) (.str _)
      · cases h
    · cases h
  split at h
  ·
    rename_i hg
    subst hg
    unfold spCheck at h
    split at h
    · rename_i n
      split at h
      · rename_i x hlk
        cases h
        refine ⟨enters106, ?_⟩
        intro E w0 I0 F0 O0 Hd R e ds I F lp L tmv suf us w dst hs hf hu hd
        obtain ⟨u, rfl, hr⟩ := repL1 hu
        obtain ⟨b, C, hL, rfl⟩ := inv_ref hr
        obtain ⟨q, hq, hob⟩ := hs.ob n _ hlk
        rw [hL] at hq; cases hq
        obtain ⟨c, E', hb, hC, hone, hcs⟩ := hob
        obtain ⟨v0, v1, hc, r0, r1⟩ := repL2 hcs
        have hc := arr_two hc
        subst hc
        obtain rfl : E' = 99 := hone.2.resolve_left (by decide)
        rw [inv_nilP r0] at hb
        refine callsIn_wide.2 ((Go.Proofs.AbAS.check_fresh b w (by simp [World.cell?, hb]) (by simp [World.shape?, hb]) (by simp [World.frozen?, hb])).mono ?_)
        rintro ev w' ⟨rfl, rfl⟩
        have hself := setCell_same (o := 0) (n := .pointer (some ⟨b, 0, none⟩)) hb
        have hI : ∀ k, I k → (w.setCell ⟨b, 0, none⟩ (.pointer (some ⟨b, 0, none⟩))).heap[k]? = w.heap[k]? := fun k hk => Go.RowKit.Below.heap_setCell _ _ _ _ fun (e : k = b) => (hf.lB n b C hL).2.2.1 (e ▸ hk)
        refine sp_turn (w' := w.setCell ⟨b, 0, none⟩ (.pointer (some ⟨b, 0, none⟩))) hs hf hL rfl rfl rfl (by rw [size_setCell]; exact Nat.le_refl _) (fun k _ hk => Go.RowKit.Below.heap_setCell _ _ _ _ hk) ?_ (.tup [] #[] .nil)
        refine ⟨_, 99, hself, by simpa using hC, ⟨?_, .inr rfl⟩, ?_⟩
        · intro v hv
          simp at hv
          rcases hv with rfl | rfl
          · rfl
          · exact hone.1 _ (by simp)
        · simp
          exact .cons _ _ _ _ (.ref n 0 b C hL) (.cons _ _ _ _ (RepV.mono (fun _ h => h) hI (fun _ _ h => h) r1) .nil)
      · rename_i n' x hlk
        split at h
        · rename_i hn
          subst hn
          cases h
          refine ⟨enters106, ?_⟩
          intro E w0 I0 F0 O0 Hd R e ds I F lp L tmv suf us w dst hs hf hu hd
          obtain ⟨u, rfl, hr⟩ := repL1 hu
          obtain ⟨b, C, hL, rfl⟩ := inv_ref hr
          obtain ⟨q, hq, hob⟩ := hs.ob _ _ hlk
          rw [hL] at hq; cases hq
          obtain ⟨c, E', hb, hC, hone, hcs⟩ := hob
          obtain ⟨v0, v1, hc, r0, r1⟩ := repL2 hcs
          have hc := arr_two hc
          subst hc
          obtain ⟨b', C', hL', rfl⟩ := inv_ref r0
          rw [hL] at hL'; cases hL'
          refine callsIn_wide.2 ((Go.Proofs.AbAS.check_used b w (by simp [World.cell?, hb])).mono ?_)
          rintro ev w' ⟨rfl, rfl⟩
          exact sp_pure hs hf (lawEnd_refl _) (.tup [] #[] .nil)
        · cases h
      · cases h
    · cases h
  split at h
  ·
    rename_i hg
    subst hg
    unfold spStr at h
    split at h
    · rename_i n
      split at h
      · rename_i x hlk
        cases h
        refine ⟨enters65, ?_⟩
        intro E w0 I0 F0 O0 Hd R e ds I F lp L tmv suf us w dst hs hf hu hd
        obtain ⟨u, rfl, hr⟩ := repL1 hu
        obtain ⟨b, C, hL, rfl⟩ := inv_ref hr
        obtain ⟨q, hq, hob⟩ := hs.ob _ _ hlk
        rw [hL] at hq; cases hq
        obtain ⟨c, E', hb, hC, hone, hcs⟩ := hob
        obtain ⟨v0, v1, hc, r0, r1⟩ := repL2 hcs
        have hc := arr_two hc
        subst hc
        obtain rfl : E' = 99 := hone.2.resolve_left (by decide)
        rw [inv_nilS r1] at hb
        refine callsIn_wide.2 ((Go.Proofs.AbAS.string_nil b v0 w hb).mono ?_)
        rintro ev w' ⟨rfl, rfl⟩
        exact sp_pure (w' := w.drew) hs hf ⟨rfl, rfl, rfl, Nat.le_refl _, fun _ _ => rfl⟩ (.str [])
      · rename_i x n' k hlk
        split at h
        · rename_i xs hlk'
          split at h
          · rename_i s hs'
            split at h
            · rename_i hc0
              obtain ⟨hnn, hk0, hkl, hkm⟩ := hc0
              cases h
              refine ⟨enters65, ?_⟩
              intro E w0 I0 F0 O0 Hd R e ds I F lp L tmv suf us w dst hs hf hu hd
              obtain ⟨u, rfl, hr⟩ := repL1 hu
              obtain ⟨b, C, hL, rfl⟩ := inv_ref hr
              obtain ⟨q, hq, hob⟩ := hs.ob _ _ hlk
              rw [hL] at hq; cases hq
              obtain ⟨c, E', hb, hC, hone, hcs⟩ := hob
              obtain ⟨v0, v1, hc, r0, r1⟩ := repL2 hcs
              have hc := arr_two hc
              subst hc
              obtain rfl : E' = 99 := hone.2.resolve_left (by decide)
              obtain ⟨q', hq', hob'⟩ := hs.ob _ _ hlk'
              rcases inv_arr r1 with ⟨g, C', cap, hL', rfl, hC', hn⟩ | ⟨_, _, _, h0⟩
              · rw [hL'] at hq'; cases hq'
                obtain ⟨cur, E2, hg, hCg, hle, hkx, hone2, hrep⟩ := hob'
                obtain rfl : E2 = 5 := hle.2.resolve_left (by decide)
                have hlen := bytesOf_len _ _ hs'
                rw [List.length_take, Nat.min_eq_left hkl] at hlen
                have hrk : RepL w I lp none (xs.take k) (cur.toList.take k) := by
                  have h1 := hrep.take k
                  rw [show k = k * 1 by omega, ← cellsL_take hkx, cells_flat _ _ hs', List.take_take, Nat.min_eq_left (by omega)] at h1
                  simpa using h1
                have hbytes := repL_bytes _ _ _ hrk hs'
                have hcur : k ≤ cur.size := by have := hle.1; omega
                subst hlen
                refine callsIn_wide.2 ((Go.Proofs.AbAS.string_some b g cap v0 cur s w (by simpa using hb) hg (by intro e; subst e; simp at hk0) hn hcur ?_ ?_).mono ?_)
                · unfold mostLen at hkm; omega
                · intro j x hx
                  have hj : j < s.length := (List.getElem?_eq_some_iff.1 hx).1
                  have h1 := hbytes j x hx
                  rw [List.getElem?_take_of_lt hj] at h1
                  simpa using h1
                · rintro ev w' ⟨rfl, rfl⟩
                  have hfz : ∀ (W : World) (a : Addr) (n : Nat), (W.freeze a n).os = W.os ∧ (W.freeze a n).tape = W.tape ∧ (W.freeze a n).output = W.output ∧ (W.freeze a n).heap.size = W.heap.size := fun W a n => by
                    unfold World.freeze
                    split <;> simp
                  obtain ⟨f1, f2, f3, f4⟩ := hfz w.drew ⟨g, 0, none⟩ s.length
                  refine sp_gone (w' := w.drew.freeze ⟨g, 0, none⟩ s.length) hs hf hL' f1 f2 f3 (Nat.le_of_eq f4.symm) (fun k' hk' hne => ?_) (fun L' => .str s)
                  rw [freeze_other (fun e => hne C' (by rw [e]))]
                  rfl
              · omega
            · cases h
          · cases h
        · cases h
      · cases h
    · cases h
  · cases h
end Go.Ab.Arrays

