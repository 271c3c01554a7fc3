/-
  Part 5 of a proof: a machine of our own for the given program, its laws, and what it says of the program. Nothing here is a claim by itself.
-/
import Derived.Test.YtfeimbgcjimjdaaGreatDoorK04
import Derived.Test.YtfeimbgcjimjdaaGreatDoorK03
import Derived.Test.YtfeimbgcjimjdaaGreatDoorProg
import Derived.Test.YtfeimbgcjimjdaaGreatDoorK01
import Derived.KernelRfl
set_option linter.all false

namespace Go.Ab
variable {cfg : KCfg} {tab : FuncId → Option RFn} {ks : KSt}
theorem kresV_ok {R : Type} {r : R} (h : ks.Ok) {x : RRes} {K : KV → Option R} (hr : kresV ks x K = some r) : ∃ v, K v = some r ∧ v.ok ∧ resV ks.st x = some v.pv := by
  have hget : ∀ t, ks.st.tmps.getD t .undef = (spGet ks.tmps t).pv := fun t => dense_getD h.tm t
  have lk := st_look h
  cases x with
  | tmp t => exact ⟨_, hr, h.tm.get_ok t, by simp only [resV, hget]⟩
  | cell t n ag =>
    simp only [kresV] at hr
    split at hr
    · rename_i nm o hv
      split at hr
      · rename_i cs hl
        have hcs : okKL cs := klook_ok h.ob hl
        split at hr
        · rename_i hag
          split at hr
          · rename_i hle
            refine ⟨_, hr, okKL_take (okKL_drop hcs _) _, ?_⟩
            simp only [resV, hget, hv, KV.pv, lk, hl, Option.map_some, KOb.ob, sel, hag, if_true, chk, pvL_length, hle, decide_true, pvL_take, pvL_drop]
          · cases hr
        · rename_i hag
          split at hr
          · rename_i c hc
            refine ⟨_, hr, okKL_mem.1 hcs c (List.mem_of_getElem? hc), ?_⟩
            simp only [resV, hget, hv, KV.pv, lk, hl, Option.map_some, KOb.ob, sel, hag, pvL_get?, hc]
            rfl
          · cases hr
      · rename_i w hl
        obtain ⟨z, hz, hr⟩ := bindO_some hr
        have hw : okV w = true := klook_ok h.ob hl
        unfold selO at hz
        refine ⟨_, hr, okV_sel (okV_cells hw) hz, ?_⟩
        simp only [resV, hget, hv, KV.pv, lk, hl, Option.map_some, KOb.ob, cellsP, hz]
      · cases hr
    · cases hr
theorem kresVs_ok {R : Type} {r : R} (h : ks.Ok) : ∀ (l : List RRes) {K : List KV → Option R}, kresVs ks l K = some r → ∃ vs, K vs = some r ∧ okKL vs ∧ resVs ks.st l = some (pvL vs) := by
  intro l
  induction l with
  | nil => intro K hr; exact ⟨[], hr, trivial, rfl⟩
  | cons x l ih =>
    intro K hr
    simp only [kresVs] at hr
    obtain ⟨v, hr, hv, h1⟩ := kresV_ok h hr
    obtain ⟨vs, hr, hvs, h2⟩ := ih hr
    exact ⟨v :: vs, hr, ⟨hv, hvs⟩, by simp only [resVs, h1, h2, pvL]⟩
theorem koneOf_ok {vs : List KV} (h : okKL vs) : (koneOf vs).ok ∧ (koneOf vs).pv = oneOf (pvL vs) := by
  match vs, h with
  | [], h => exact ⟨trivial, rfl⟩
  | [v], h => exact ⟨h.1, rfl⟩
  | v :: w :: vs, h => exact ⟨h, rfl⟩
theorem isZero_iff {o : Nat} : isZero o = true ↔ o = 0 := by cases o <;> simp [isZero]
def top1 : PV → List Nm
  | .arr nm _ 0 _ => [nm]
  | _ => []
def top2 : PV → List Nm
  | .arr nm _ 0 _ => [nm]
  | .agg cs => cs.flatMap top1
  | _ => []
def ktop1 : KV → List Nm
  | .arr nm _ o _ => if isZero o then [nm] else []
  | .wit nm => [nm]
  | _ => []
def ktop2 : KV → List Nm
  | .arr nm _ o _ => if isZero o then [nm] else []
  | .wit nm => [nm]
  | .agg cs => cs.flatMap ktop1
  | _ => []
theorem ktop1_ok {x : KV} (h : x.ok) : ktop1 x = top1 x.pv := by
  cases x with
  | arr nm k o n => cases o <;> rfl
  | cv v =>
    have hv : okV v = true := h
    cases v <;> first | rfl | simp [okV] at hv
  | _ => rfl
theorem top1_none {cs : List PV} (h : okVL cs = true) : cs.flatMap top1 = [] := by
  rw [List.flatMap_eq_nil_iff]
  intro x hx
  have := okVL_iff.1 h x hx
  cases x <;> first | rfl | simp [okV] at this
theorem flatMap_top1 {cs : List KV} (h : okKL cs) : cs.flatMap ktop1 = (pvL cs).flatMap top1 := by
  rw [pvL_map, List.flatMap_map]
  induction cs with
  | nil => rfl
  | cons x xs ih => simp only [List.flatMap_cons]; rw [ktop1_ok h.1, ih h.2]
theorem ktop2_ok {x : KV} (h : x.ok) : ktop2 x = top2 x.pv := by
  cases x with
  | arr nm k o n => cases o <;> rfl
  | agg cs => exact flatMap_top1 h
  | cv v =>
    have hv : okV v = true := h
    cases v with
    | agg cs => simp only [okV] at hv; exact (top1_none hv).symm
    | _ => first | rfl | simp [okV] at hv
  | _ => rfl
theorem tops_eq (v : PV) : tops v = match v with | .tup xs => xs.flatMap top2 | v => top2 v := by
  have e1 : (fun (x : PV) => match x with | .arr nm _ 0 _ => [nm] | _ => []) = top1 := by
    funext x; cases x <;> first | rfl | (rename_i nm k o n; cases o <;> rfl)
  cases v with
  | arr nm k o n => cases o <;> rfl
  | agg cs => simp only [tops, top2]; rfl
  | tup xs =>
    simp only [tops]
    congr 1
  | _ => rfl
theorem ktops_eq (v : KV) : ktops v = match v with | .tup xs => xs.flatMap ktop2 | v => ktop2 v := by
  cases v <;> first | rfl | (simp only [ktops]; congr 1)
theorem ktops_ok {v : KV} (h : v.ok) : ktops v = tops v.pv := by
  rw [ktops_eq, tops_eq]
  cases v with
  | tup xs =>
    have hx : okKL xs := h
    simp only [KV.pv]
    rw [pvL_map, List.flatMap_map]
    clear h
    induction xs with
    | nil => rfl
    | cons x xs ih => simp only [List.flatMap_cons]; rw [ktop2_ok hx.1, ih hx.2]
  | cv u =>
    have hu : okV u = true := h
    simp only [KV.pv, ktop2]
    cases u with
    | tup xs =>
      simp only [okV] at hu
      symm
      rw [List.flatMap_eq_nil_iff]
      intro x hx
      have hx' := okVL_iff.1 hu x hx
      have := ktop2_ok (x := .cv x) hx'
      simpa [ktop2, KV.pv] using this.symm
    | agg cs => simp only [okV] at hu; exact (top1_none hu).symm
    | _ => first | rfl | simp [okV] at hu
  | _ => exact ktop2_ok h
theorem nodupN_iff : ∀ {l : List Nm}, nodupN l = true ↔ l.Nodup
  | [] => by simp [nodupN]
  | x :: xs => by simp [nodupN, nodupN_iff (l := xs)]
theorem mapM_look {σ : Nm → Option Ob} : ∀ {S : List Nm}, (∀ nm ∈ S, ∃ ob, σ nm = some ob ∧ isArr ob = true) → ∃ obs, S.mapM σ = some obs ∧ obs.all isArr = true ∧ obs.length = S.length ∧ ∀ (i : Nat) nm, S[i]? = some nm → obs[i]? = σ nm := by
  intro S
  induction S with
  | nil => intro _; exact ⟨[], rfl, rfl, rfl, by simp⟩
  | cons nm S ih =>
    intro h
    obtain ⟨ob, h1, h2⟩ := h nm (by simp)
    obtain ⟨obs, h3, h4, h5, h6⟩ := ih fun m hm => h m (by simp [hm])
    refine ⟨ob :: obs, by simp [List.mapM_cons, h1, h3], by simp [h2, h4], by simp [h5], ?_⟩
    intro i m hi
    cases i with
    | zero => simp at hi; subst hi; simp [h1]
    | succ i => simp at hi ⊢; exact h6 i m hi
theorem idxOf_mid {pre mid post : List Nm} {nm : Nm} (hnd : (pre ++ nm :: mid ++ post).Nodup) : (pre ++ nm :: mid ++ post).idxOf nm = pre.length := by
  have hn : nm ∉ pre := fun hm => by
    rw [List.append_assoc, List.nodup_append] at hnd
    exact hnd.2.2 nm hm nm (by simp) rfl
  rw [List.append_assoc, List.idxOf_append, if_neg hn]
  simp
section hand
variable {σ : Nm → Option KOb} (hσ : ∀ nm o, σ nm = some o → o.ok) {S : List Nm} (hnd : S.Nodup) {obs : List Ob} (hobs : ∀ (i : Nat) nm, S[i]? = some nm → obs[i]? = (σ nm).map fun o => o.ob.bare)
include hσ hnd hobs
def subH (σ : Nm → Option KOb) (S : List Nm) : Nm → Option (Option Ob) := fun nm => if S.contains nm = true then none else closed (fun nm => (σ nm).map KOb.ob) nm
omit hnd hobs in
theorem close_subH {x : KV} (hx : x.ok) (hn : (x.names.all fun nm => !S.contains nm) = true) : x.pv.sub (subH σ S) = x.close (kclosed σ deepest) := by
  rw [KV.close_pv _ hx]
  refine PV.sub_congr _ fun nm hm => ?_
  rw [KV.pv_names hx] at hm
  have := List.all_eq_true.1 hn nm hm
  unfold subH subCl closed
  simp only [Bool.not_eq_true'] at this
  rw [this, kclosed_eq hσ, Option.map_map]
  rfl
omit hσ hnd hobs in
theorem sub_cl {x : KV} {u : PV} (hx : x.ok) (h : x.cl = some u) (f : Nm → Option (Option Ob)) (g : Nm → Nm) : (x.pv.sub f).ren g = u := by
  have hu := KV.cl_ok hx h
  rw [KV.cl_pv h, sub_none (okV_iff hu).1, ren_none (okV_iff hu).1]
mutual
theorem khand_ok {R : Type} {r : R} : ∀ (sh : RSh) (x : KV), x.ok → ∀ {K : PV → Option R}, khand σ S sh x K = some r → ∀ (pre post : List Nm), S = pre ++ ownN sh x ++ post →
    ∃ u, K u = some r ∧ convR obs sh pre.length ((x.pv.sub (subH σ S)).ren (toIdx S)) = some (u, pre.length + (ownN sh x).length)
  | .cl, x, hx, K, hr, pre, post, _ => by
    have hclose : (if x.names.all fun nm => !S.contains nm then chkO (okU (x.close (kclosed σ deepest))) (K (x.close (kclosed σ deepest))) else none) = some r →
        ∃ u, K u = some r ∧ convR obs .cl pre.length ((x.pv.sub (subH σ S)).ren (toIdx S)) = some (u, pre.length + (ownN .cl x).length) := by
      intro hr
      split at hr
      · rename_i hn
        obtain ⟨h1, hr⟩ := chkO_some hr
        unfold okU at h1
        refine ⟨_, hr, ?_⟩
        rw [close_subH hσ hx hn, ren_none (okV_iff h1).1]
        simp [convR, h1, chkO, ownN]
      · cases hr
    simp only [khand] at hr
    cases hu : x.cl with
    | some u =>
      rw [hu] at hr
      refine ⟨u, hr, ?_⟩
      rw [sub_cl hx hu]
      simp [convR, KV.cl_ok hx hu, chkO, ownN]
    | none =>
      rw [hu] at hr
      cases x with
      | tup xs =>
        simp only at hr
        cases hus : clL xs with
        | some us =>
          rw [hus] at hr
          have hok := clL_ok (xs := xs) hx hus
          have htup : okV (.tup us) = true := by simpa [okV] using hok
          refine ⟨.tup us, hr, ?_⟩
          have : (KV.tup xs).pv = .tup us := by simp [KV.pv, clL_pv hus]
          rw [this, sub_none (okV_iff htup).1, ren_none (okV_iff htup).1]
          simp [convR, htup, chkO, ownN]
        | none => rw [hus] at hr; exact hclose hr
      | _ => exact hclose hr
  | .own k, x, hx, K, hr, pre, post, hS => by
    simp only [khand] at hr
    split at hr
    · rename_i nm k' o n
      split at hr
      · rename_i k'' kt xs hl
        split at hr
        · rename_i hc
          obtain ⟨rfl, rfl, ho⟩ := hc
          rw [isZero_iff] at ho
          subst ho
          obtain ⟨h1, hr⟩ := chkO_some hr
          rw [eqN_iff] at h1
          unfold lenL at h1
          simp only [ownN] at hS
          refine ⟨_, hr, ?_⟩
          have hmem : S.contains nm = true := by rw [List.contains_iff_mem, hS]; simp
          have hi : S[pre.length]? = some nm := by rw [hS]; simp
          have hidx : S.idxOf nm = pre.length := by
            have e : S = pre ++ nm :: [] ++ post := by rw [hS]
            rw [e]; exact idxOf_mid (e ▸ hnd)
          have hob : obs[pre.length]? = some (.arr k 0 xs) := by rw [hobs _ _ hi, hl]; rfl
          have hxok : okVL xs = true := hσ _ _ hl
          have hsub : (PV.arr nm k 0 n).sub (subH σ S) = .arr nm k 0 n := by
            simp only [PV.sub, subH, hmem, if_true]
          simp only [KV.pv]
          rw [hsub]
          simp [PV.ren, toIdx, hidx, convR, hob, chkO, h1, hxok, ownN]
        · cases hr
      · cases hr
    · cases hr
  | .tup l, x, hx, K, hr, pre, post, hS => by
    simp only [khand] at hr
    split at hr
    · rename_i xs
      simp only [ownN] at hS
      obtain ⟨us, h1, h2⟩ := khandL_ok l xs hx hr pre post hS
      refine ⟨_, h1, ?_⟩
      simp only [KV.pv, PV.sub, PV.ren, convR, h2, ownN]
      rfl
    · cases hr
  | .agg l, x, hx, K, hr, pre, post, hS => by
    simp only [khand] at hr
    split at hr
    · rename_i xs
      simp only [ownN] at hS
      obtain ⟨us, h1, h2⟩ := khandL_ok l xs hx hr pre post hS
      refine ⟨_, h1, ?_⟩
      simp only [KV.pv, PV.sub, PV.ren, convR, h2, ownN]
      rfl
    · cases hr
theorem khandL_ok {R : Type} {r : R} : ∀ (l : List RSh) (xs : List KV), okKL xs → ∀ {K : List PV → Option R}, khandL σ S l xs K = some r → ∀ (pre post : List Nm), S = pre ++ ownNL l xs ++ post →
    ∃ us, K us = some r ∧ convRL obs l pre.length (renL (toIdx S) (subL (subH σ S) (pvL xs))) = some (us, pre.length + (ownNL l xs).length)
  | [], [], _, K, hr, pre, post, _ => ⟨[], hr, by simp [pvL, subL, renL, convRL, ownNL]⟩
  | [], _ :: _, _, K, hr, _, _, _ => by simp [khandL] at hr
  | _ :: _, [], _, K, hr, _, _, _ => by simp [khandL] at hr
  | s :: l, x :: xs, hx, K, hr, pre, post, hS => by
    simp only [khandL] at hr
    simp only [ownNL] at hS
    obtain ⟨u, hr, h1⟩ := khand_ok s x hx.1 hr pre (ownNL l xs ++ post) (by rw [hS]; simp [List.append_assoc])
    obtain ⟨us, hr, h2⟩ := khandL_ok l xs hx.2 hr (pre ++ ownN s x) post (by rw [hS]; simp [List.append_assoc])
    refine ⟨u :: us, hr, ?_⟩
    simp only [pvL, subL, renL, convRL, h1]
    rw [List.length_append] at h2
    rw [h2]
    simp [ownNL, Nat.add_assoc]
end
end hand
theorem own_arr {σ : Nm → Option KOb} {S : List Nm} {R : Type} {r : R} : ∀ (sh : RSh) (x : KV) {K : PV → Option R}, khand σ S sh x K = some r → (∀ nm ∈ ownN sh x, ∃ k kt xs, σ nm = some (.arr k kt xs)) ∧ ∃ u, K u = some r := by
  intro sh
  refine RSh.rec (motive_1 := fun sh => ∀ (x : KV) {K : PV → Option R}, khand σ S sh x K = some r → (∀ nm ∈ ownN sh x, ∃ k kt xs, σ nm = some (.arr k kt xs)) ∧ ∃ u, K u = some r)
    (motive_2 := fun l => ∀ (xs : List KV) {K : List PV → Option R}, khandL σ S l xs K = some r → (∀ nm ∈ ownNL l xs, ∃ k kt ys, σ nm = some (.arr k kt ys)) ∧ ∃ us, K us = some r) ?_ ?_ ?_ ?_ ?_ ?_ sh
  · intro x K hr
    refine ⟨by simp [ownN], ?_⟩
    simp only [khand] at hr
    split at hr
    · exact ⟨_, hr⟩
    · split at hr
      · split at hr
        · exact ⟨_, hr⟩
        · split at hr
          · exact ⟨_, (chkO_some hr).2⟩
          · cases hr
      · split at hr
        · exact ⟨_, (chkO_some hr).2⟩
        · cases hr
  · intro k x K hr
    simp only [khand] at hr
    split at hr
    · rename_i nm k' o n
      split at hr
      · rename_i k'' kt xs hl
        split at hr
        · exact ⟨by simp [ownN, hl], _, (chkO_some hr).2⟩
        · cases hr
      · cases hr
    · cases hr
  · intro l ih x K hr
    simp only [khand] at hr
    split at hr
    · rename_i xs
      obtain ⟨h1, us, h2⟩ := ih xs hr
      exact ⟨by simpa [ownN] using h1, _, h2⟩
    · cases hr
  · intro l ih x K hr
    simp only [khand] at hr
    split at hr
    · rename_i xs
      obtain ⟨h1, us, h2⟩ := ih xs hr
      exact ⟨by simpa [ownN] using h1, _, h2⟩
    · cases hr
  · intro xs K hr
    cases xs with
    | nil => exact ⟨by simp [ownNL], _, hr⟩
    | cons x xs => simp [khandL] at hr
  · intro s l ihs ihl xs K hr
    cases xs with
    | nil => simp [khandL] at hr
    | cons x xs =>
      simp only [khandL] at hr
      obtain ⟨h1, u, hr⟩ := ihs x hr
      obtain ⟨h2, us, hr⟩ := ihl xs hr
      refine ⟨?_, _, hr⟩
      intro nm hm
      simp only [ownNL, List.mem_append] at hm
      exact hm.elim (h1 nm) (h2 nm)
theorem ktopsOf_ok (shut : Bool) {v : KV} (h : v.ok) : ktopsOf shut v = topsOf shut v.pv := by
  cases shut with
  | true => rfl
  | false => exact ktops_ok h
theorem khandOver_ok {R : Type} {r : R} (h : ks.Ok) {shut : Bool} {sh : RSh} {v : KV} (hv : v.ok) {K : PV → Option R} (hr : khandOver ks shut sh v K = some r) : ∃ u rv obs, K u = some r ∧ handOver shut ks.st v.pv = some (rv, obs) ∧ convO sh rv obs = some u := by
  unfold khandOver at hr
  simp only at hr
  split at hr
  case isFalse => cases hr
  rename_i hc
  obtain ⟨hS, hnd, hdis, hsh⟩ := hc
  have hσ := klook_okF h
  obtain ⟨harr, _⟩ := own_arr sh v hr
  rw [← hS] at harr
  have hlk := st_lookF h
  obtain ⟨obs, hm, hall, hlen, hget⟩ := mapM_look (σ := look ks.st.objs) (S := ktopsOf shut v) fun nm hm => by
    obtain ⟨k, kt, xs, he⟩ := harr nm hm
    exact ⟨.arr k kt xs, by rw [st_look h, he]; rfl, rfl⟩
  have hnd' := nodupN_iff.1 hnd
  obtain ⟨u, hu, hconv⟩ := khand_ok hσ hnd' (obs := obs.map Ob.bare) (fun i nm hi => by rw [List.getElem?_map, hget i nm hi, st_look h, Option.map_map]; rfl) sh v hv hr [] [] (by rw [← hS]; simp)
  refine ⟨u, (v.pv.sub (subH (klook ks.objs) (ktopsOf shut v))).ren (toIdx (ktopsOf shut v)), obs.map Ob.bare, hu, ?_, ?_⟩
  · have e : (fun nm => if (topsOf shut v.pv).contains nm = true then none else closed (look ks.st.objs) nm) = subH (klook ks.objs) (ktopsOf shut v) := by
      funext nm
      unfold subH
      rw [ktopsOf_ok shut hv, hlk]
    rw [kreach_eq hσ, ← hlk] at hdis hsh
    rw [kshut_eq hσ, ← hlk] at hsh
    rw [ktopsOf_ok shut hv, ← KV.pv_names hv] at hdis hsh
    rw [ktopsOf_ok shut hv] at hnd hm
    unfold handOver
    simp only [hnd, hdis, Bool.and_self, if_true, hm, hsh, hall, chk, e, ktopsOf_ok shut hv]
  · unfold convO
    simp only [List.length_nil, Nat.zero_add] at hconv
    rw [hconv]
    simp [chkO, hlen, hS]
theorem init_ok {nt : Nat} {args : List KV} (ha : okKL args) (hu : ∀ x ∈ args, isUnK x = false) (hl : args.length ≤ nt) : ({ nt, tmps := args.zipIdx.map fun p => (p.2, p.1), objs := [], keep := [] } : KSt).Ok ∧
    ({ nt, tmps := args.zipIdx.map fun p => (p.2, p.1), objs := [], keep := [] } : KSt).st = { tmps := pvL args ++ List.replicate (nt - (pvL args).length) .undef, objs := List.replicate nt [], keep := [] } := by
  have hmem : ∀ p ∈ args.zipIdx.map (fun p => (p.2, p.1)), args[p.1]? = some p.2 := by
    intro p hp
    obtain ⟨⟨x, i⟩, hq, rfl⟩ := List.mem_map.1 hp
    rw [List.mem_zipIdx_iff_getElem?] at hq
    exact hq
  have hw : SpWf nt (args.zipIdx.map fun p => (p.2, p.1)) := by
    refine ⟨?_, ?_, ?_, ?_⟩
    · rw [List.map_map]
      have : ((fun p : Nat × KV => p.1) ∘ fun p : KV × Nat => (p.2, p.1)) = Prod.snd := rfl
      rw [this, List.zipIdx_map_snd]
      exact List.pairwise_lt_range'
    · intro p hp
      have := (List.getElem?_eq_some_iff.1 (hmem p hp)).1
      omega
    · intro p hp; exact okKL_mem.1 ha _ (List.mem_of_getElem? (hmem p hp))
    · intro p hp; exact hu _ (List.mem_of_getElem? (hmem p hp))
  refine ⟨⟨hw, .nil nt, by simp⟩, ?_⟩
  unfold KSt.st
  simp only [List.flatMap_nil]
  congr 1
  · refine dense_ext (by simp [pvL_length]; omega) fun i hi => ?_
    by_cases hia : i < args.length
    · rw [List.getElem?_append_left (by rw [pvL_length]; exact hia), pvL_get?, List.getElem?_eq_getElem hia]
      have hp : (i, args[i]) ∈ args.zipIdx.map (fun p => (p.2, p.1)) := by
        refine List.mem_map.2 ⟨(args[i], i), ?_, rfl⟩
        rw [List.mem_zipIdx_iff_getElem?]
        simp [hia]
      rw [show spGet (args.zipIdx.map fun p => (p.2, p.1)) i = args[i] from hw.get_mem hp]
      rfl
    · rw [List.getElem?_append_right (by rw [pvL_length]; omega), List.getElem?_replicate, if_pos (by rw [pvL_length]; omega)]
      rw [show spGet (args.zipIdx.map fun p => (p.2, p.1)) i = .un from spGet_not fun p hp => by
        have := (List.getElem?_eq_some_iff.1 (hmem p hp)).1
        omega]
      rfl
  · refine denseO_ext (by simp) fun i hi => ?_
    rw [List.getElem?_replicate, if_pos hi]
    rfl
theorem runK_ok (hc : CfgOK cfg tab) {g : FuncId} {fn : RFn} (ht : tab g = some fn) {E : Type} {h : Handler E} {hn : Nat → Handler E} (hh : HOk h hn) {dep : Nat} {sh : RSh} {args : List KV} {e e' : E} {u : PV}
    (ha : okKL args) (hu : ∀ x ∈ args, isUnK x = false) (hl : args.length ≤ fn.nt) (hr : runK cfg fn sh h dep args e = some (u, e')) :
    ∃ r obs, convO sh r obs = some u ∧ Evl fun n => evalFn cfg.b.sp tab n E (hn n) dep g (pvL args) e = some (r, obs, e') := by
  unfold runK at hr
  rw [force_eq] at hr
  obtain ⟨i1, i2⟩ := init_ok ha hu hl
  have hh' : HOk h fun n => hn (n + 1) := fun l args e r hq => by
    obtain ⟨a, hb⟩ := hh l args e r hq
    exact ⟨a, fun n hn' => hb (n + 1) (by omega)⟩
  obtain ⟨x, k1, e1, hr, hk1, hev⟩ := evalK_ok hc fn.code hh' dep i1 hr
  rw [i2] at hev
  have fin : (kresVs k1 fn.res fun vs => khandOver k1 fn.shut sh (koneOf vs) fun v => some (v, e1)) = some (u, e') → (∀ id, x ≠ .exit id) → ∃ r obs, convO sh r obs = some u ∧ Evl fun n => evalFn cfg.b.sp tab n E (hn n) dep g (pvL args) e = some (r, obs, e') := by
    intro hr hx
    obtain ⟨vs, hr, hvs, h1⟩ := kresVs_ok hk1 fn.res hr
    obtain ⟨o1, o2⟩ := koneOf_ok hvs
    obtain ⟨u', rv, obs, hr, h2, h3⟩ := khandOver_ok hk1 o1 hr
    cases hr
    refine ⟨rv, obs, h3, hev.shift.mono ?_⟩
    rintro k ⟨j, rfl, hj⟩
    show callOf (evalM cfg.b.sp tab j) j tab E (hn (j + 1)) dep g (pvL args) e = _
    simp only [callOf, ht]
    simp only [machN] at hj
    rw [hj]
    cases x with
    | exit id => exact absurd rfl (hx id)
    | normal => simp only [h1]; rw [← o2, h2]
    | ret => simp only [h1]; rw [← o2, h2]
  cases x with
  | exit id => cases hr
  | normal => exact fin hr (by simp)
  | ret => exact fin hr (by simp)
end Go.Ab


namespace Go.Ab
section
variable {cfg : KCfg} {tab : FuncId → Option RFn}
theorem cvL_pv : ∀ (vs : List PV), pvL (vs.map KV.cv) = vs
  | [] => rfl
  | v :: vs => by simp [pvL, KV.pv, cvL_pv vs]
theorem cvL_ok {vs : List PV} (h : okVL vs = true) : okKL (vs.map KV.cv) := okKL_mem.2 fun x hx => by
  obtain ⟨v, hv, rfl⟩ := List.mem_map.1 hx
  exact okVL_iff.1 h v hv
theorem cvL_un {vs : List PV} : ∀ x ∈ vs.map KV.cv, isUnK x = false := fun x hx => by
  obtain ⟨v, _, rfl⟩ := List.mem_map.1 hx
  rfl
theorem noH : HOk noHandler (fun _ => noHandler) := fun _ _ _ _ h => by cases h
theorem call_of_run (hc : CfgOK cfg tab) {g : FuncId} {fn : RFn} (ht : tab g = some fn) {sh : RSh} {cap args : List PV} {u : PV} (ha : okVL (args ++ cap) = true) (hl : (args ++ cap).length ≤ fn.nt)
    (hsp : cfg.b.sp g (fun _ => none) (args ++ cap) = none) (hr : runK cfg fn sh noHandler 0 ((args ++ cap).map KV.cv) () = some (u, ())) (hio : fn.io = false := by rfl) : callO cfg.b sh (.fn g cap) args = some u := by
  obtain ⟨r, obs, h1, h2⟩ := runK_ok hc ht (hn := fun _ => noHandler) noH (cvL_ok ha) cvL_un (by simpa using hl) hr
  rw [cvL_pv] at h2
  have hL : cfg.b.L Unit noHandler 0 g (args ++ cap) () = some (r, obs, ()) := by rw [hc.L]; exact lim_of h2
  have hfl : cfg.b.isIo g = false := by rw [hc.isIo]; unfold ioFlag; rw [ht]; exact hio
  unfold callO
  simp only [spO, hsp, hL, hfl, Bool.false_eq_true, if_false]
  exact h1
theorem call_of_sp (hc : CfgOK cfg tab) {g : FuncId} {cap args : List PV} {u : PV} (hsp : cfg.b.sp g (fun _ => none) (args ++ cap) = some { v := u }) (hu : okV u = true) : callO cfg.b .cl (.fn g cap) args = some u := by
  unfold callO
  simp [spO, hsp, hu, chkO, convO, convR]
theorem range_of_run (hc : CfgOK cfg tab) {g : FuncId} {fn : RFn} (ht : tab g = some fn) {E : Type} {h : Handler E} {dep : Nat} {cap : List PV} {u : PV} {e e' : E} (ha : okVL cap = true) (hl : cap.length + 1 ≤ fn.nt)
    (hr : runK cfg fn .cl h (dep + 1) (.yld dep :: cap.map KV.cv) e = some (u, e')) : rangeO cfg.b h dep (.fn g cap) e = some e' := by
  obtain ⟨r, obs, h1, h2⟩ := runK_ok hc ht (hn := fun _ => h) (fun l args e r hq => .of fun _ => hq) (dep := dep + 1) (args := .yld dep :: cap.map KV.cv) ⟨trivial, cvL_ok ha⟩ (fun x hx => by
    rcases List.mem_cons.1 hx with rfl | hx
    · rfl
    · exact cvL_un x hx) (by simpa using hl) hr
  have e1 : pvL (.yld dep :: cap.map KV.cv) = .yld dep :: cap := by simp [pvL, KV.pv, cvL_pv]
  rw [e1] at h2
  have hL : cfg.b.L E h (dep + 1) g (.yld dep :: cap) e = some (r, obs, e') := by rw [hc.L]; exact lim_of h2
  unfold rangeO
  simp only [hL]
theorem conv_cl {r u : PV} {obs : List Ob} (h : convO .cl r obs = some u) : r = u ∧ obs = [] ∧ okV u = true := by
  unfold convO at h
  simp only [convR] at h
  split at h
  · rename_i r' j hr
    obtain ⟨h1, h2⟩ := chkO_some hr
    cases h2
    obtain ⟨h3, h4⟩ := chkO_some h
    cases h4
    simp only [beq_iff_eq] at h3
    exact ⟨rfl, List.length_eq_zero_iff.1 h3.symm, h1⟩
  · cases h
theorem lend_of_run (hc : CfgOK cfg tab) {g : FuncId} {fn : RFn} (ht : tab g = some fn) {fr : Bool} {args : List PV} {u : PV} (ha : okVL args = true) (hl : args.length ≤ fn.nt)
    (hr : runK cfg fn .cl noHandler 0 (args.map KV.cv) () = some (u, ())) (hfr : (u.free && !leanFlag tab g) = fr) : lendO cfg.b .cl fr g args = some u := by
  obtain ⟨r, obs, h1, h2⟩ := runK_ok hc ht (hn := fun _ => noHandler) noH (cvL_ok ha) cvL_un (by simpa using hl) hr
  rw [cvL_pv] at h2
  obtain ⟨e1, e2, _⟩ := conv_cl h1
  subst e1; subst e2
  have hL : cfg.b.L Unit noHandler 0 g args () = some (r, [], ()) := by rw [hc.L]; exact lim_of h2
  unfold lendO
  rw [(okVL_names ha).2]
  simp only [Bool.false_eq_true, if_false, hL, List.all_nil, Bool.and_true, hc.leans, hfr, beq_self_eq_true, chkO]
  exact h1
theorem law_of_run (hc : CfgOK cfg tab) {g : FuncId} {fn : RFn} (ht : tab g = some fn) {args : List PV} {b : Bool} (ha : okVL args = true) (hl : args.length ≤ fn.nt)
    (hr : runK cfg fn .cl noHandler 0 (args.map KV.cv) () = some (.bool b, ())) : ∃ n, evalFn cfg.b.sp tab n Unit noHandler 0 g args () = some (.bool b, [], ()) := by
  obtain ⟨r, obs, h1, m, hm⟩ := runK_ok hc ht (hn := fun _ => noHandler) noH (cvL_ok ha) cvL_un (by simpa using hl) hr
  rw [cvL_pv] at hm
  obtain ⟨e1, e2, _⟩ := conv_cl h1
  subst e1; subst e2
  exact ⟨m, hm m (Nat.le_refl _)⟩
end
def yieldAll {E : Type} (h : Handler E) (d : Nat) : List (List PV) → E → Option E
  | [], e => some e
  | a :: l, e => match h d a e with
    | some (true, e) => yieldAll h d l e
    | some (false, e) => some e
    | none => none
@[simp] theorem bindO_val {α β : Type} (a : α) (f : α → Option β) : bindO (some a) f = f a := rfl
@[simp] theorem bindO_none' {α β : Type} (f : α → Option β) : bindO none f = none := rfl
@[simp] theorem chkO_true {β : Type} (a : Option β) : chkO true a = a := rfl
@[simp] theorem chkO_false {β : Type} (a : Option β) : chkO false a = none := rfl
@[simp] theorem iteP_bool {β : Type} (b : Bool) (x y : Option β) : iteP (.bool b) x y = if b = true then x else y := by cases b <;> rfl
@[simp] theorem iteB_bool {β : Type} (b : Bool) (x y : Option β) : iteB b x y = if b = true then x else y := by cases b <;> rfl
theorem iteP_true {β : Type} (x y : Option β) : iteP (.bool true) x y = x := rfl
theorem iteP_false {β : Type} (x y : Option β) : iteP (.bool false) x y = y := rfl
section pure
variable {c : TC} {cst : Bool} {k : IntKind}
@[simp] theorem pure_add (a b : Int) : pureO (.bin .add c cst (.c (.int k a)) (.c (.int k b))) = some (.int k (k.wrap (a + b))) := by simp [pureO, exec, RX.ev, binPV, chk, binInt]
@[simp] theorem pure_sub (a b : Int) : pureO (.bin .sub c cst (.c (.int k a)) (.c (.int k b))) = some (.int k (k.wrap (a - b))) := by simp [pureO, exec, RX.ev, binPV, chk, binInt]
@[simp] theorem pure_mul (a b : Int) : pureO (.bin .mul c cst (.c (.int k a)) (.c (.int k b))) = some (.int k (k.wrap (a * b))) := by simp [pureO, exec, RX.ev, binPV, chk, binInt]
theorem pure_quo (a b : Int) (hb : b ≠ 0) : pureO (.bin .quo c cst (.c (.int k a)) (.c (.int k b))) = some (.int k (k.wrap (a.tdiv b))) := by simp [pureO, exec, RX.ev, binPV, chk, binInt, hb]
theorem pure_rem (a b : Int) (hb : b ≠ 0) : pureO (.bin .rem c cst (.c (.int k a)) (.c (.int k b))) = some (.int k (a.tmod b)) := by simp [pureO, exec, RX.ev, binPV, chk, binInt, hb]
@[simp] theorem pure_eql (a b : Int) : pureO (.bin .eql c cst (.c (.int k a)) (.c (.int k b))) = some (.bool (a == b)) := by simp [pureO, exec, RX.ev, binPV, chk, binInt, cmpInt]
@[simp] theorem pure_neq (a b : Int) : pureO (.bin .neq c cst (.c (.int k a)) (.c (.int k b))) = some (.bool (a != b)) := by simp [pureO, exec, RX.ev, binPV, chk, binInt, cmpInt]
@[simp] theorem pure_lss (a b : Int) : pureO (.bin .lss c cst (.c (.int k a)) (.c (.int k b))) = some (.bool (decide (a < b))) := by simp [pureO, exec, RX.ev, binPV, chk, binInt, cmpInt]
@[simp] theorem pure_leq (a b : Int) : pureO (.bin .leq c cst (.c (.int k a)) (.c (.int k b))) = some (.bool (decide (a ≤ b))) := by simp [pureO, exec, RX.ev, binPV, chk, binInt, cmpInt]
@[simp] theorem pure_gtr (a b : Int) : pureO (.bin .gtr c cst (.c (.int k a)) (.c (.int k b))) = some (.bool (decide (b < a))) := by simp [pureO, exec, RX.ev, binPV, chk, binInt, cmpInt]
@[simp] theorem pure_geq (a b : Int) : pureO (.bin .geq c cst (.c (.int k a)) (.c (.int k b))) = some (.bool (decide (b ≤ a))) := by simp [pureO, exec, RX.ev, binPV, chk, binInt, cmpInt]
@[simp] theorem pure_eqs (a b : List UInt8) : pureO (.bin .eql c cst (.c (.str a)) (.c (.str b))) = some (.bool (a == b)) := by simp [pureO, exec, RX.ev, binPV, binStr]
@[simp] theorem pure_nes (a b : List UInt8) : pureO (.bin .neq c cst (.c (.str a)) (.c (.str b))) = some (.bool (!(a == b))) := by simp [pureO, exec, RX.ev, binPV, binStr]
@[simp] theorem pure_eqb (a b : Bool) : pureO (.bin .eql .bool cst (.c (.bool a)) (.c (.bool b))) = some (.bool (a == b)) := by simp [pureO, exec, RX.ev, binPV, eqNil]
@[simp] theorem pure_neb (a b : Bool) : pureO (.bin .neq .bool cst (.c (.bool a)) (.c (.bool b))) = some (.bool (!(a == b))) := by simp [pureO, exec, RX.ev, binPV, eqNil]
@[simp] theorem pure_not (b : Bool) : pureO (.un .not (.c (.bool b))) = some (.bool (!b)) := rfl
@[simp] theorem pure_neg (n : Int) : pureO (.un .neg (.c (.int k n))) = some (.int k (k.wrap (0 - n))) := rfl
@[simp] theorem pure_conv {k' : IntKind} (n : Int) : pureO (.conv k (.c (.int k' n))) = some (.int k (k.wrap n)) := rfl
@[simp] theorem pure_lens (s : List UInt8) : pureO (.len .str (.c (.str s))) = some (.int .i64 (s.length : Int)) := rfl
@[simp] theorem pure_lenl {j : Nat} (xs : List PV) (f : Bool) : pureO (.len .slice (.c (.sl j xs f))) = some (.int .i64 (xs.length : Int)) := rfl
@[simp] theorem pure_lenn : pureO (.len .slice (.c .nilS)) = some (.int .i64 0) := rfl
@[simp] theorem pure_tup (j : Nat) (xs : List PV) : pureO (.extract j (.c (.tup xs))) = xs[j]? := by
  simp only [pureO, exec, RX.ev]; cases xs[j]? <;> rfl
@[simp] theorem pure_load {n o : Nat} {ag : Bool} (cs : List PV) : pureO (.load n ag (.c (.ptr cs o))) = sel cs o n ag := by
  simp only [pureO, exec, RX.ev]; cases sel cs o n ag <;> rfl
@[simp] theorem pure_field {n o : Nat} {ag : Bool} (cs : List PV) : pureO (.field o n ag (.c (.agg cs))) = sel cs o n ag := by
  simp only [pureO, exec, RX.ev]; cases sel cs o n ag <;> rfl
@[simp] theorem pure_nilck (cs : List PV) (o : Nat) : pureO (.nilck (.c (.ptr cs o))) = some (.ptr cs o) := rfl
@[simp] theorem pure_nilckf (f : Nat) (cs : List PV) : pureO (.nilck (.c (.fn f cs))) = some (.fn f cs) := rfl
@[simp] theorem pure_faddr {off o : Nat} (cs : List PV) : pureO (.fieldAddr off (.c (.ptr cs o))) = if o + off < cs.length then some (.ptr cs (o + off)) else none := by
  by_cases hq : o + off < cs.length <;> simp [pureO, exec, RX.ev, chk, hq]
theorem pure_lidx {xs : List PV} {j n : Nat} {f : Bool} {v : PV} (hn : 0 < n) (h : xs[j]? = some v) : pureO (.idxAddr n (.c (.sl n xs f)) (.c (.int k (j : Int)))) = some (.ptr v.cells 0) := by
  simp [pureO, exec, RX.ev, natOf, h, chk, hn]
theorem pure_ssl2 {s : List UInt8} {h : Nat} (hh : h ≤ s.length) : pureO (.strSlice (.c (.str s)) none (some (.c (.int k (h : Int))))) = some (.str (s.take h)) := by
  simp [pureO, exec, RX.ev, evO, bound, natOf, chk, hh]
end pure
@[simp] theorem sel_one (v : PV) : sel [v] 0 1 false = some v := rfl
@[simp] theorem cells_int (k : IntKind) (n : Int) : (PV.int k n).cells = [.int k n] := rfl
@[simp] theorem cells_str (s : List UInt8) : (PV.str s).cells = [.str s] := rfl
@[simp] theorem cells_bool (b : Bool) : (PV.bool b).cells = [.bool b] := rfl
@[simp] theorem cells_agg' (cs : List PV) : (PV.agg cs).cells = cs := rfl
@[simp] theorem addN_eq (a b : Nat) : addN a b = a + b := rfl
@[simp] theorem subN_eq (a b : Nat) : subN a b = a - b := rfl
@[simp] theorem minN_eq (a b : Nat) : minN a b = min a b := rfl
@[simp] theorem lenL_eq (l : List PV) : lenL l = l.length := rfl
@[simp] theorem takeL_eq (n : Nat) (l : List PV) : takeL n l = l.take n := rfl
@[simp] theorem dropL_eq (n : Nat) (l : List PV) : dropL n l = l.drop n := rfl
@[simp] theorem catL_eq (l m : List PV) : catL l m = l ++ m := rfl
@[simp] theorem replL_eq (n : Nat) (v : PV) : replL n v = List.replicate n v := rfl
@[simp] theorem itemsP_sl (k : Nat) (xs : List PV) (f : Bool) : itemsP (.sl k xs f) = xs := rfl
@[simp] theorem natP_int (k : IntKind) (n : Int) : natP (.int k n) = n.toNat := rfl
@[simp] theorem nI_eq (n : Nat) : nI n = .int .i64 (n : Int) := rfl
@[simp] theorem andB_eq (a b : Bool) : andB a b = (a && b) := rfl
@[simp] theorem leN_eq (a b : Nat) : leN a b = decide (a ≤ b) := by
  rw [Bool.eq_iff_iff, leN_iff, decide_eq_true_iff]
@[simp] theorem ltN_eq (a b : Nat) : ltN a b = decide (a < b) := by
  rw [Bool.eq_iff_iff, ltN_iff, decide_eq_true_iff]
@[simp] theorem eqN_eq (a b : Nat) : eqN a b = decide (a = b) := by
  rw [Bool.eq_iff_iff, eqN_iff, decide_eq_true_iff]
@[simp] theorem nth_0 (x : PV) (l : List PV) : nth (x :: l) 0 = x := rfl
@[simp] theorem nth_1 (a x : PV) (l : List PV) : nth (a :: x :: l) 1 = x := rfl
@[simp] theorem nth_2 (a b x : PV) (l : List PV) : nth (a :: b :: x :: l) 2 = x := rfl
@[simp] theorem nth_3 (a b c x : PV) (l : List PV) : nth (a :: b :: c :: x :: l) 3 = x := rfl
@[simp] theorem nth_4 (a b c d x : PV) (l : List PV) : nth (a :: b :: c :: d :: x :: l) 4 = x := rfl
@[simp] theorem nth_5 (a b c d e x : PV) (l : List PV) : nth (a :: b :: c :: d :: e :: x :: l) 5 = x := rfl
@[simp] theorem nth_6 (a b c d e f x : PV) (l : List PV) : nth (a :: b :: c :: d :: e :: f :: x :: l) 6 = x := rfl
@[simp] theorem nth_7 (a b c d e f g x : PV) (l : List PV) : nth (a :: b :: c :: d :: e :: f :: g :: x :: l) 7 = x := rfl
@[simp] theorem nth_8 (a b c d e f g h x : PV) (l : List PV) : nth (a :: b :: c :: d :: e :: f :: g :: h :: x :: l) 8 = x := rfl
@[simp] theorem selO_eq (v : PV) (o n : Nat) (ag : Bool) : selO v o n ag = sel v.cells o n ag := rfl
@[simp] theorem natO_int (k : IntKind) (n : Nat) : natO (.int k (n : Int)) = some n := by simp [natO, natOf]
end Go.Ab


namespace Go.Ab
section
variable {ks : KSt}
end
end Go.Ab


namespace Go.Ab
open Go
def globs0 : Globs := fun g => if g = 1 then some [.glob 1 175] else if g = 2 then some [.glob 2 175] else none
noncomputable def mkF (io shut leans : Bool) (nt : Nat) (f : FuncId) : RFn := { nt, code := ((compF Go.Proofs.Tryz.prog globs0 (deadOf Go.Proofs.Tryz.prog f) f).getD default).code, res := ((compF Go.Proofs.Tryz.prog globs0 (deadOf Go.Proofs.Tryz.prog f) f).getD default).res, io, shut, leans }
theorem mkF_comp {io shut leans : Bool} {nt : Nat} {f : FuncId} (h : (compF Go.Proofs.Tryz.prog globs0 (deadOf Go.Proofs.Tryz.prog f) f).map (·.nt) = some nt) : compF Go.Proofs.Tryz.prog globs0 (deadOf Go.Proofs.Tryz.prog f) f = some { mkF io shut leans nt f with io := false, shut := false, leans := false } := by
  obtain ⟨fn, h1, rfl⟩ := Option.map_eq_some_iff.1 h
  unfold mkF
  rw [h1]
  have h2 := h1
  unfold compF at h2
  split at h2
  · split at h2
    · split at h2
      · cases h2
      · cases h2; rfl
    · cases h2
  · cases h2
noncomputable def fn8 : RFn := mkF false true false 65 8
noncomputable def fn3 : RFn := mkF false true false 109 3
noncomputable def fn4 : RFn := mkF false true false 91 4
noncomputable def fn5 : RFn := mkF false true false 72 5
noncomputable def fn6 : RFn := mkF false true false 118 6
noncomputable def fn7 : RFn := mkF false true false 93 7
noncomputable def fn9 : RFn := mkF false true false 15 9
noncomputable def fn10 : RFn := mkF false true true 101 10
noncomputable def fn11 : RFn := mkF false true false 8 11
noncomputable def fn12 : RFn := mkF false true false 24 12
noncomputable def fn13 : RFn := mkF false true false 24 13
noncomputable def fn14 : RFn := mkF false true false 56 14
noncomputable def fn15 : RFn := mkF false true false 59 15
noncomputable def fn16 : RFn := mkF false true false 116 16
noncomputable def fn17 : RFn := mkF false true false 24 17
noncomputable def fn18 : RFn := mkF false true false 26 18
noncomputable def fn21 : RFn := mkF false true false 17 21
noncomputable def fn22 : RFn := mkF false true false 9 22
noncomputable def fn23 : RFn := mkF false true false 7 23
noncomputable def fn24 : RFn := mkF false true false 38 24
noncomputable def fn25 : RFn := mkF false true false 11 25
noncomputable def fn26 : RFn := mkF false true false 6 26
noncomputable def fn27 : RFn := mkF false true false 36 27
noncomputable def fn28 : RFn := mkF false true false 6 28
noncomputable def fn29 : RFn := mkF false true false 17 29
noncomputable def fn30 : RFn := mkF false true false 9 30
noncomputable def fn31 : RFn := mkF false true false 26 31
noncomputable def fn32 : RFn := mkF false true false 7 32
noncomputable def fn33 : RFn := mkF false true false 31 33
noncomputable def fn34 : RFn := mkF false true false 41 34
noncomputable def fn35 : RFn := mkF false true false 6 35
noncomputable def fn36 : RFn := mkF false true false 57 36
noncomputable def fn37 : RFn := mkF false true false 6 37
noncomputable def fn38 : RFn := mkF false true false 22 38
noncomputable def fn39 : RFn := mkF false true false 17 39
noncomputable def fn44 : RFn := mkF false true false 29 44
noncomputable def fn45 : RFn := mkF false true false 21 45
noncomputable def fn46 : RFn := mkF false true false 16 46
noncomputable def fn47 : RFn := mkF false true false 16 47
noncomputable def fn48 : RFn := mkF false true false 19 48
noncomputable def fn49 : RFn := mkF false true false 10 49
noncomputable def fn50 : RFn := mkF false true false 17 50
noncomputable def fn51 : RFn := mkF false true false 18 51
noncomputable def fn52 : RFn := mkF false true false 33 52
noncomputable def fn53 : RFn := mkF false true false 4 53
noncomputable def fn54 : RFn := mkF false true false 28 54
noncomputable def fn55 : RFn := mkF false true false 87 55
noncomputable def fn70 : RFn := mkF false true false 36 70
noncomputable def fn71 : RFn := mkF false true false 36 71
noncomputable def fn72 : RFn := mkF false true false 51 72
noncomputable def fn73 : RFn := mkF false true false 56 73
noncomputable def fn74 : RFn := mkF false true false 43 74
noncomputable def fn75 : RFn := mkF false true false 11 75
noncomputable def fn76 : RFn := mkF false true false 11 76
noncomputable def fn77 : RFn := mkF false true false 10 77
noncomputable def fn78 : RFn := mkF false true false 66 78
noncomputable def fn79 : RFn := mkF false true false 10 79
noncomputable def fn80 : RFn := mkF false true false 41 80
noncomputable def fn82 : RFn := mkF false true false 5 82
noncomputable def fn83 : RFn := mkF false true false 10 83
noncomputable def fn84 : RFn := mkF false true false 11 84
noncomputable def fn85 : RFn := mkF false true false 4 85
noncomputable def fn86 : RFn := mkF false true false 10 86
noncomputable def fn87 : RFn := mkF false true false 18 87
noncomputable def fn88 : RFn := mkF false true true 21 88
noncomputable def fn89 : RFn := mkF false true false 13 89
noncomputable def fn90 : RFn := mkF false true false 1 90
noncomputable def fn91 : RFn := mkF false true false 33 91
noncomputable def fn92 : RFn := mkF false true false 38 92
noncomputable def fn93 : RFn := mkF false true false 27 93
noncomputable def fn94 : RFn := mkF false true false 42 94
noncomputable def fn110 : RFn := mkF false true false 51 110
noncomputable def fn111 : RFn := mkF false true false 10 111
noncomputable def fn19 : RFn := mkF false true false 49 19
noncomputable def fn20 : RFn := mkF false false false 29 20
noncomputable def fn40 : RFn := mkF false false false 52 40
noncomputable def fn41 : RFn := mkF false false false 45 41
noncomputable def fn42 : RFn := mkF false false false 34 42
noncomputable def fn56 : RFn := mkF false false false 8 56
noncomputable def fn57 : RFn := mkF false false false 11 57
noncomputable def fn58 : RFn := mkF false false false 25 58
noncomputable def fn59 : RFn := mkF false false false 6 59
noncomputable def fn60 : RFn := mkF false false false 8 60
noncomputable def fn61 : RFn := mkF false false false 8 61
noncomputable def fn63 : RFn := mkF false false false 11 63
noncomputable def fn64 : RFn := mkF true false false 19 64
noncomputable def fn95 : RFn := mkF false false false 66 95
noncomputable def fn96 : RFn := mkF false false false 15 96
noncomputable def fn97 : RFn := mkF false false false 73 97
noncomputable def fn101 : RFn := mkF false false false 18 101
noncomputable def fn102 : RFn := mkF false false false 21 102
noncomputable def fn105 : RFn := mkF false false false 8 105
noncomputable def fn114 : RFn := mkF false false false 172 114
noncomputable def fn122 : RFn := mkF false false false 143 122
noncomputable def fn124 : RFn := mkF false false false 5 124
noncomputable def fn125 : RFn := mkF false false false 94 125
noncomputable def tab0 : FuncId → Option RFn
  | 8 => some fn8
  | 3 => some fn3
  | 4 => some fn4
  | 5 => some fn5
  | 6 => some fn6
  | 7 => some fn7
  | 9 => some fn9
  | 10 => some fn10
  | 11 => some fn11
  | 12 => some fn12
  | 13 => some fn13
  | 14 => some fn14
  | 15 => some fn15
  | 16 => some fn16
  | 17 => some fn17
  | 18 => some fn18
  | 21 => some fn21
  | 22 => some fn22
  | 23 => some fn23
  | 24 => some fn24
  | 25 => some fn25
  | 26 => some fn26
  | 27 => some fn27
  | 28 => some fn28
  | 29 => some fn29
  | 30 => some fn30
  | 31 => some fn31
  | 32 => some fn32
  | 33 => some fn33
  | 34 => some fn34
  | 35 => some fn35
  | 36 => some fn36
  | 37 => some fn37
  | 38 => some fn38
  | 39 => some fn39
  | 44 => some fn44
  | 45 => some fn45
  | 46 => some fn46
  | 47 => some fn47
  | 48 => some fn48
  | 49 => some fn49
  | 50 => some fn50
  | 51 => some fn51
  | 52 => some fn52
  | 53 => some fn53
  | 54 => some fn54
  | 55 => some fn55
  | 70 => some fn70
  | 71 => some fn71
  | 72 => some fn72
  | 73 => some fn73
  | 74 => some fn74
  | 75 => some fn75
  | 76 => some fn76
  | 77 => some fn77
  | 78 => some fn78
  | 79 => some fn79
  | 80 => some fn80
  | 82 => some fn82
  | 83 => some fn83
  | 84 => some fn84
  | 85 => some fn85
  | 86 => some fn86
  | 87 => some fn87
  | 88 => some fn88
  | 89 => some fn89
  | 90 => some fn90
  | 91 => some fn91
  | 92 => some fn92
  | 93 => some fn93
  | 94 => some fn94
  | 110 => some fn110
  | 111 => some fn111
  | 19 => some fn19
  | 20 => some fn20
  | 40 => some fn40
  | 41 => some fn41
  | 42 => some fn42
  | 56 => some fn56
  | 57 => some fn57
  | 58 => some fn58
  | 59 => some fn59
  | 60 => some fn60
  | 61 => some fn61
  | 63 => some fn63
  | 64 => some fn64
  | 95 => some fn95
  | 96 => some fn96
  | 97 => some fn97
  | 101 => some fn101
  | 102 => some fn102
  | 105 => some fn105
  | 114 => some fn114
  | 122 => some fn122
  | 124 => some fn124
  | 125 => some fn125
  | _ => none
end Go.Ab


set_option maxRecDepth 100000
namespace Go.Ab
open Go
def rsh0 : FuncId → RSh × Bool
  | 10 => (.cl, false)
  | 88 => (.cl, false)
  | _ => (.cl, true)
def sh64 : IoSh := { args := [], ins := [], res := .un, outs := [], news := [], gone := [] }
def iof0 : FuncId → Option IoSh
  | 64 => some sh64
  | _ => none
def cfg0 (b : KB) (dsh : Nat → RSh) : KCfg := { b, rsh := rsh0, spF := fun f => f == 43 || f == 81 || f == 62 || f == 99 || f == 135 || f == 106 || f == 65 || f == 100, asT := fun f p => if f = 43 ∧ p = 66 then some (64, 1) else if f = 43 ∧ p = 117 then some (73, 1) else none, dsh, ioF := iof0 }
theorem run8 (B : KB) {E : Type} (h : Handler E) (dep : Nat) (e : E)  :
    runK (cfg0 B (fun _ => .cl)) fn8 (.cl) h dep [] e =
    bindO (callO B .cl (.fn 19 []) [.int .i64 1, .str [49, 32, 50, 32, 51]]) (fun z1 => bindO (pureO (.extract 0 (.c z1))) (fun z2 => bindO (pureO (.extract 1 (.c z1))) (fun z3 => chkO
    (okCells z2 3) (chkO (okSls 1 [.int .i64 10]) (bindO (lendO B .cl false 10 [.str [43], .agg [cellP z2 0, cellP z2 1, cellP z2 2], .agg [.bool false, .bool false, slO 1 1 [.int .i64
    10] 0 (lenL [.int .i64 10])]]) (fun z4 => bindO (pureO (.extract 0 (.c z4))) (fun z5 => bindO (pureO (.extract 1 (.c z4))) (fun z6 => chkO (okCells z5 3) (chkO (okSls 1 [.int .i64
    1, .int .i64 2]) (bindO (lendO B .cl false 10 [.str [43], .agg [cellP z2 0, cellP z2 1, cellP z2 2], .agg [.bool true, .bool false, slO 1 1 [.int .i64 1, .int .i64 2] 0 (lenL [.int
    .i64 1, .int .i64 2])]]) (fun z7 => bindO (pureO (.extract 0 (.c z7))) (fun z8 => bindO (pureO (.extract 1 (.c z7))) (fun z9 => chkO (okCells z8 3) (bindO (callO B .cl (.fn 19 [])
    [.int .i64 2, .str [39, 97, 39, 39, 39]]) (fun z10 => bindO (pureO (.extract 0 (.c z10))) (fun z11 => bindO (pureO (.extract 1 (.c z10))) (fun z12 => chkO (okCells z11 3) (bindO
    (pureO (.bin .eql .num true (.c z3) (.c (.int .i64 0)))) (fun z13 => iteP z13 (bindO (pureO (.bin .eql .num true (.c z6) (.c (.int .i64 0)))) (fun z14 => iteP z14 (bindO (pureO
    (.bin .eql .num true (.c z9) (.c (.int .i64 110)))) (fun z15 => iteP z15 (bindO (pureO (.bin .eql .num true (.c z12) (.c (.int .i64 0)))) (fun z16 => iteP z16 (bindO (callO B .cl
    (.fn 20 []) [.agg [cellP z5 0, cellP z5 1, cellP z5 2]]) (fun z17 => bindO (pureO (.bin .eql .str true (.c z17) (.c (.str [49, 49, 32, 49, 50, 32, 49, 51])))) (fun z18 => iteP z18
    (bindO (callO B .cl (.fn 20 []) [.agg [cellP z11 0, cellP z11 1, cellP z11 2]]) (fun z19 => bindO (pureO (.bin .eql .str true (.c z19) (.c (.str [39, 97, 39, 39, 39])))) (fun z20
    => iteP z20 (bindO (callO B .cl (.fn 12 []) [.agg [cellP z11 0, cellP z11 1, cellP z11 2]]) (fun z21 => iteP z21 (chkO (okSls 1 [.int .i64 (-5)]) (bindO (lendO B .cl true 20 [.agg
    [.bool false, .bool false, slO 1 1 [.int .i64 (-5)] 0 (lenL [.int .i64 (-5)])]]) (fun z22 => bindO (pureO (.bin .eql .str true (.c z22) (.c (.str [194, 175, 53])))) (fun z23 =>
    some (z23, e))))) (some (.bool false, e)))) (some (.bool false, e))))) (some (.bool false, e))))) (some (.bool false, e)))) (some (.bool false, e)))) (some (.bool false, e))))
    (some (.bool false, e))))))))))))))))))))) := by kernel_rfl
theorem run5 (B : KB) {E : Type} (h : Handler E) (dep : Nat) (e : E) (x0 : PV) (x1 : PV) (x2 : PV) :
    runK (cfg0 B (fun _ => .cl)) fn5 (.cl) h dep [.cv x0, .cv x1, .cv x2] e =
    chkO (valO x1) (chkO (valO x2) (bindO (callO B .cl (.fn 8 []) []) (fun z1 => bindO (selO x1 0 3 true) (fun z2 => bindO (callO B .cl (.fn 9 []) [z2]) (fun z3 => chkO (okSto z3 x1 0
    3) (bindO (selO x2 0 3 true) (fun z4 => bindO (callO B .cl (.fn 9 []) [z4]) (fun z5 => chkO (okSto z5 x2 0 3) (bindO (callO B .cl (.fn 11 []) [x0]) (fun z6 => bindO (selO (stoP z5
    x2 0) 0 3 true) (fun z7 => bindO (callO B .cl (.fn 14 []) [z6, z7]) (fun z8 => bindO (pureO (.extract 0 (.c z8))) (fun z9 => bindO (pureO (.extract 1 (.c z8))) (fun z10 => chkO
    (okCells z9 3) (bindO (callO B .cl (.fn 11 []) [x0]) (fun z11 => bindO (selO (stoP z5 x2 0) 0 3 true) (fun z12 => bindO (callO B .cl (.fn 15 []) [z11, z12]) (fun z13 => bindO
    (pureO (.extract 0 (.c z13))) (fun z14 => bindO (pureO (.extract 1 (.c z13))) (fun z15 => chkO (okCells z14 3) (bindO (callO B .cl (.fn 11 []) [x0]) (fun z16 => bindO (selO (stoP
    z3 x1 0) 0 3 true) (fun z17 => bindO (selO (stoP z5 x2 0) 0 3 true) (fun z18 => bindO (callO B .cl (.fn 10 []) [z16, z17, z18]) (fun z19 => bindO (pureO (.extract 0 (.c z19))) (fun
    z20 => bindO (pureO (.extract 1 (.c z19))) (fun z21 => chkO (okCells z20 3) (bindO (callO B .cl (.fn 11 []) [x0]) (fun z22 => bindO (selO (stoP z3 x1 0) 0 3 true) (fun z23 => bindO
    (selO (stoP z5 x2 0) 0 3 true) (fun z24 => bindO (callO B .cl (.fn 16 []) [z22, z23, z24]) (fun z25 => bindO (pureO (.extract 0 (.c z25))) (fun z26 => bindO (pureO (.extract 1 (.c
    z25))) (fun z27 => chkO (okCells z26 3) (iteP z1 (bindO (callO B .cl (.fn 17 []) [.agg [cellP z9 0, cellP z9 1, cellP z9 2], .agg [cellP z14 0, cellP z14 1, cellP z14 2]]) (fun z28
    => iteP z28 (bindO (pureO (.bin .eql .num false (.c z10) (.c z15))) (fun z29 => iteP z29 (bindO (callO B .cl (.fn 17 []) [.agg [cellP z20 0, cellP z20 1, cellP z20 2], .agg [cellP
    z26 0, cellP z26 1, cellP z26 2]]) (fun z30 => iteP z30 (bindO (pureO (.bin .eql .num false (.c z21) (.c z27))) (fun z31 => some (z31, e))) (some (.bool false, e)))) (some (.bool
    false, e)))) (some (.bool false, e)))) (some (.bool false, e))))))))))))))))))))))))))))))))))))) := by kernel_rfl
theorem run9 (B : KB) {E : Type} (h : Handler E) (dep : Nat) (e : E) (x0 : PV) :
    runK (cfg0 B (fun _ => .cl)) fn9 (.cl) h dep [.cv x0] e =
    chkO (valO x0) (bindO (selO x0 0 1 false) (fun z1 => bindO (selO x0 1 1 false) (fun z2 => bindO (selO x0 2 1 false) (fun z3 => bindO (selO x0 2 1 false) (fun z4 => bindO (pureO
    (.len .slice (.c z4))) (fun z5 => bindO (pureO (.minmax false [.c z5, .c (.int .i64 202)])) (fun z6 => bindO (pureO (.slice 1 (.c z3) none (some (.c z6)) none)) (fun z7 => bindO
    (pureO (.build [.bool false, .bool false, .nilS] [(0, (1, .c z1)), (1, (1, .c z2)), (2, (1, .c z7))])) (fun z8 => chkO (okCells z8 3) (some (.agg [cellP z8 0, cellP z8 1, cellP z8
    2], e))))))))))) := by kernel_rfl
theorem run10 (B : KB) {E : Type} (h : Handler E) (dep : Nat) (e : E) (x0 : PV) (x1 : PV) (x2 : PV) :
    runK (cfg0 B (fun _ => .cl)) fn10 (.cl) h dep [.cv x0, .cv x1, .cv x2] e =
    chkO (valO x0) (chkO (valO x1) (chkO (valO x2) (bindO (selO x1 0 3 true) (fun z1 => bindO (selO x2 0 3 true) (fun z2 => bindO (pureO (.build [.bool false, .bool false, .nilS, .bool
    false, .bool false, .nilS] [(0, (3, .c z1)), (3, (3, .c z2))])) (fun z3 => chkO (okCells z3 6) (bindO (selO x1 0 3 true) (fun z4 => bindO (selO x2 0 3 true) (fun z5 => chkO (okSls
    3 [z4, z5]) (bindO (lendO B .cl true 21 [slO 3 3 [z4, z5] 0 (lenL [z4, z5])]) (fun z6 => bindO (pureO (.bin .neq .iface true (.c z6) (.c .nilI))) (fun z7 => iteP z7 (bindO (pureO
    (.build [.bool false, .bool false, .nilS] [])) (fun z8 => bindO (callO B .cl (.fn 22 []) [z6]) (fun z9 => chkO (okCells z8 3) (chkO (okCells z9 1) (some (.tup [.agg [cellP z8 0,
    cellP z8 1, cellP z8 2], cellP z9 0], e)))))) (bindO (selO x0 0 1 false) (fun z10 => bindO (callO B .cl (.fn 23 []) [z10]) (fun z11 => bindO (pureO (.un .not (.c z11))) (fun z12 =>
    iteP z12 (bindO (pureO (.build [.bool false, .bool false, .nilS] [])) (fun z13 => chkO (okCells z13 3) (chkO (okCells (.int .i64 102) 1) (some (.tup [.agg [cellP z13 0, cellP z13
    1, cellP z13 2], cellP (.int .i64 102) 0], e))))) (bindO (callO B .cl (.fn 24 []) [.agg [cellP z3 0, cellP z3 1, cellP z3 2, cellP z3 3, cellP z3 4, cellP z3 5]]) (fun z14 => bindO
    (pureO (.extract 0 (.c z14))) (fun z15 => bindO (pureO (.extract 1 (.c z14))) (fun z16 => bindO (selO x0 0 1 false) (fun z17 => bindO (pureO (.bin .eql .str true (.c z17) (.c (.str
    [61])))) (fun z18 => iteP z18 (bindO (pureO (.bin .neq .iface true (.c z16) (.c .nilI))) (fun z19 => iteP z19 (bindO (pureO (.build [.bool false, .bool false, .nilS] [])) (fun z20
    => bindO (callO B .cl (.fn 22 []) [z16]) (fun z21 => chkO (okCells z20 3) (chkO (okCells z21 1) (some (.tup [.agg [cellP z20 0, cellP z20 1, cellP z20 2], cellP z21 0], e))))))
    (bindO (selO x1 0 1 false) (fun z22 => iteP z22 (bindO (pureO (.build [.bool false, .bool false, .nilS] [(0, (1, .c (.bool true)))])) (fun z23 => chkO (okCells z23 3) (bindO (callO
    B .cl (.fn 26 []) [.agg [cellP z3 0, cellP z3 1, cellP z3 2, cellP z3 3, cellP z3 4, cellP z3 5], z15]) (fun z24 => nilO (cellP z23 2) (bindO (rangeO B (onRound dep h (fun z25 =>
    fun z26 => fun z27 => chkO (okArgs z26 2) (bindO (iteP (nth z25 8) (bindO (selO (nth z25 2) 1 1 false) (fun z28 => bindO (selO (nth z25 3) 1 1 false) (fun z29 => bindO (pureO (.bin
    .neq .bool false (.c z28) (.c z29))) (fun z30 => some z30)))) (some (.bool false))) (fun z31 => iteP z31 (bindO (selO (nth z25 1) 0 1 false) (fun z32 => bindO (callO B .cl (.fn 27
    []) [z32, .int .i64 0, .int .i64 1]) (fun z33 => bindO (pureO (.extract 0 (.c z33))) (fun z34 => bindO (pureO (.extract 1 (.c z33))) (fun z35 => bindO (pureO (.bin .neq .num true
    (.c z35) (.c (.int .i64 0)))) (fun z36 => iteP z36 (bindO (pureO (.build [.bool false, .bool false, .nilS] [])) (fun z37 => chkO (okCells z37 3) (chkO (okCells z35 1) (some (false,
    ([nth z25 0, nth z25 1, nth z25 2, nth z25 3, cellP z37 0, cellP z37 1, cellP z37 2, cellP z35 0, nth z25 8, nth z25 9, nth z25 10, nI (natP (nth z25 11)), .sl 1 (itemsP (nth z25
    12)) false], (some .ret, z27))))))) (chkO (okSls 1 [z34]) (chkO (leN (addN 0 (lenL [z34])) (lenL [z34])) (chkO (andB (leN (natP (nth z25 11)) (lenL (itemsP (nth z25 12)))) (leN
    (addN (natP (nth z25 11)) (lenL (takeL (lenL [z34]) (dropL 0 [z34])))) 2147483648)) (some (true, ([nth z25 0, nth z25 1, nth z25 2, nth z25 3, nth z25 4, nth z25 5, nth z25 6, nth
    z25 7, nth z25 8, nth z25 9, nth z25 10, nI (addN (natP (nth z25 11)) (lenL (takeL (lenL [z34]) (dropL 0 [z34])))), .sl 1 (catL (takeL (natP (nth z25 11)) (itemsP (nth z25 12)))
    (takeL (lenL [z34]) (dropL 0 [z34]))) false], (none, z27))))))))))))) (bindO (selO (nth z25 1) 0 1 false) (fun z38 => bindO (callO B .cl (.fn 27 []) [z38, nth z26 0, nth z26 1])
    (fun z39 => bindO (pureO (.extract 0 (.c z39))) (fun z40 => bindO (pureO (.extract 1 (.c z39))) (fun z41 => bindO (pureO (.bin .neq .num true (.c z41) (.c (.int .i64 0)))) (fun z42
    => iteP z42 (bindO (pureO (.build [.bool false, .bool false, .nilS] [])) (fun z43 => chkO (okCells z43 3) (chkO (okCells z41 1) (some (false, ([nth z25 0, nth z25 1, nth z25 2, nth
    z25 3, cellP z43 0, cellP z43 1, cellP z43 2, cellP z41 0, nth z25 8, nth z25 9, nth z25 10, nI (natP (nth z25 11)), .sl 1 (itemsP (nth z25 12)) false], (some .ret, z27)))))))
    (chkO (okSls 1 [z40]) (chkO (leN (addN 0 (lenL [z40])) (lenL [z40])) (chkO (andB (leN (natP (nth z25 11)) (lenL (itemsP (nth z25 12)))) (leN (addN (natP (nth z25 11)) (lenL (takeL
    (lenL [z40]) (dropL 0 [z40])))) 2147483648)) (some (true, ([nth z25 0, nth z25 1, nth z25 2, nth z25 3, nth z25 4, nth z25 5, nth z25 6, nth z25 7, nth z25 8, nth z25 9, nth z25
    10, nI (addN (natP (nth z25 11)) (lenL (takeL (lenL [z40]) (dropL 0 [z40])))), .sl 1 (catL (takeL (natP (nth z25 11)) (itemsP (nth z25 12))) (takeL (lenL [z40]) (dropL 0 [z40])))
    false], (none, z27))))))))))))))))) dep z24 ([z24, x0, x1, x2, .bool false, .bool false, .nilS, .int .i64 0, .bool true, cellP z23 0, cellP z23 1, nI 0, .sl 1 [] false], (none,
    e))) (fun z44 => iteB (isNoneE z44.2.1) (chkO (okCells (.int .i64 0) 1) (chkO (okU (.tup [.agg [nth z44.1 9, nth z44.1 10, slO 1 1 (itemsP (nth z44.1 12)) 0 (natP (nth z44.1 11))],
    cellP (.int .i64 0) 0])) (some (.tup [.agg [nth z44.1 9, nth z44.1 10, slO 1 1 (itemsP (nth z44.1 12)) 0 (natP (nth z44.1 11))], cellP (.int .i64 0) 0], z44.2.2)))) (iteB (isRetE
    z44.2.1) (some (.tup [.agg [nth z44.1 4, nth z44.1 5, nth z44.1 6], nth z44.1 7], z44.2.2)) none))))))) (bindO (selO x2 0 1 false) (fun z45 => bindO (pureO (.build [.bool false,
    .bool false, .nilS] [(0, (1, .c z45))])) (fun z46 => chkO (okCells z46 3) (bindO (callO B .cl (.fn 26 []) [.agg [cellP z3 0, cellP z3 1, cellP z3 2, cellP z3 3, cellP z3 4, cellP
    z3 5], z15]) (fun z47 => nilO (cellP z46 2) (bindO (rangeO B (onRound dep h (fun z48 => fun z49 => fun z50 => chkO (okArgs z49 2) (bindO (iteP (nth z48 8) (bindO (selO (nth z48 2)
    1 1 false) (fun z51 => bindO (selO (nth z48 3) 1 1 false) (fun z52 => bindO (pureO (.bin .neq .bool false (.c z51) (.c z52))) (fun z53 => some z53)))) (some (.bool false))) (fun
    z54 => iteP z54 (bindO (selO (nth z48 1) 0 1 false) (fun z55 => bindO (callO B .cl (.fn 27 []) [z55, .int .i64 0, .int .i64 1]) (fun z56 => bindO (pureO (.extract 0 (.c z56))) (fun
    z57 => bindO (pureO (.extract 1 (.c z56))) (fun z58 => bindO (pureO (.bin .neq .num true (.c z58) (.c (.int .i64 0)))) (fun z59 => iteP z59 (bindO (pureO (.build [.bool false,
    .bool false, .nilS] [])) (fun z60 => chkO (okCells z60 3) (chkO (okCells z58 1) (some (false, ([nth z48 0, nth z48 1, nth z48 2, nth z48 3, cellP z60 0, cellP z60 1, cellP z60 2,
    cellP z58 0, nth z48 8, nth z48 9, nth z48 10, nI (natP (nth z48 11)), .sl 1 (itemsP (nth z48 12)) false], (some .ret, z50))))))) (chkO (okSls 1 [z57]) (chkO (leN (addN 0 (lenL
    [z57])) (lenL [z57])) (chkO (andB (leN (natP (nth z48 11)) (lenL (itemsP (nth z48 12)))) (leN (addN (natP (nth z48 11)) (lenL (takeL (lenL [z57]) (dropL 0 [z57])))) 2147483648))
    (some (true, ([nth z48 0, nth z48 1, nth z48 2, nth z48 3, nth z48 4, nth z48 5, nth z48 6, nth z48 7, nth z48 8, nth z48 9, nth z48 10, nI (addN (natP (nth z48 11)) (lenL (takeL
    (lenL [z57]) (dropL 0 [z57])))), .sl 1 (catL (takeL (natP (nth z48 11)) (itemsP (nth z48 12))) (takeL (lenL [z57]) (dropL 0 [z57]))) false], (none, z50))))))))))))) (bindO (selO
    (nth z48 1) 0 1 false) (fun z61 => bindO (callO B .cl (.fn 27 []) [z61, nth z49 0, nth z49 1]) (fun z62 => bindO (pureO (.extract 0 (.c z62))) (fun z63 => bindO (pureO (.extract 1
    (.c z62))) (fun z64 => bindO (pureO (.bin .neq .num true (.c z64) (.c (.int .i64 0)))) (fun z65 => iteP z65 (bindO (pureO (.build [.bool false, .bool false, .nilS] [])) (fun z66 =>
    chkO (okCells z66 3) (chkO (okCells z64 1) (some (false, ([nth z48 0, nth z48 1, nth z48 2, nth z48 3, cellP z66 0, cellP z66 1, cellP z66 2, cellP z64 0, nth z48 8, nth z48 9, nth
    z48 10, nI (natP (nth z48 11)), .sl 1 (itemsP (nth z48 12)) false], (some .ret, z50))))))) (chkO (okSls 1 [z63]) (chkO (leN (addN 0 (lenL [z63])) (lenL [z63])) (chkO (andB (leN
    (natP (nth z48 11)) (lenL (itemsP (nth z48 12)))) (leN (addN (natP (nth z48 11)) (lenL (takeL (lenL [z63]) (dropL 0 [z63])))) 2147483648)) (some (true, ([nth z48 0, nth z48 1, nth
    z48 2, nth z48 3, nth z48 4, nth z48 5, nth z48 6, nth z48 7, nth z48 8, nth z48 9, nth z48 10, nI (addN (natP (nth z48 11)) (lenL (takeL (lenL [z63]) (dropL 0 [z63])))), .sl 1
    (catL (takeL (natP (nth z48 11)) (itemsP (nth z48 12))) (takeL (lenL [z63]) (dropL 0 [z63]))) false], (none, z50))))))))))))))))) dep z47 ([z47, x0, x1, x2, .bool false, .bool
    false, .nilS, .int .i64 0, .bool true, cellP z46 0, cellP z46 1, nI 0, .sl 1 [] false], (none, e))) (fun z67 => iteB (isNoneE z67.2.1) (chkO (okCells (.int .i64 0) 1) (chkO (okU
    (.tup [.agg [nth z67.1 9, nth z67.1 10, slO 1 1 (itemsP (nth z67.1 12)) 0 (natP (nth z67.1 11))], cellP (.int .i64 0) 0])) (some (.tup [.agg [nth z67.1 9, nth z67.1 10, slO 1 1
    (itemsP (nth z67.1 12)) 0 (natP (nth z67.1 11))], cellP (.int .i64 0) 0], z67.2.2)))) (iteB (isRetE z67.2.1) (some (.tup [.agg [nth z67.1 4, nth z67.1 5, nth z67.1 6], nth z67.1
    7], z67.2.2)) none)))))))))))) (bindO (selO x0 0 1 false) (fun z68 => bindO (pureO (.bin .eql .str true (.c z68) (.c (.str [226, 137, 160])))) (fun z69 => chkO (okCells z69 1)
    (bindO (pureO (.bin .neq .iface true (.c z16) (.c .nilI))) (fun z70 => iteP z70 (bindO (pureO (.build [.bool false, .bool false, .nilS] [])) (fun z71 => bindO (callO B .cl (.fn 22
    []) [z16]) (fun z72 => chkO (okCells z71 3) (chkO (okCells z72 1) (some (.tup [.agg [cellP z71 0, cellP z71 1, cellP z71 2], cellP z72 0], e)))))) (bindO (pureO (.un .not (.c
    (cellP z69 0)))) (fun z73 => iteP z73 (bindO (selO x1 0 3 true) (fun z74 => bindO (callO B .cl (.fn 25 []) [z74]) (fun z75 => iteP z75 (bindO (pureO (.build [.bool false, .bool
    false, .nilS] [])) (fun z76 => chkO (okCells z76 3) (chkO (okCells (.int .i64 102) 1) (some (.tup [.agg [cellP z76 0, cellP z76 1, cellP z76 2], cellP (.int .i64 102) 0], e)))))
    (bindO (selO x2 0 3 true) (fun z77 => bindO (callO B .cl (.fn 25 []) [z77]) (fun z78 => iteP z78 (bindO (pureO (.build [.bool false, .bool false, .nilS] [])) (fun z79 => chkO
    (okCells z79 3) (chkO (okCells (.int .i64 102) 1) (some (.tup [.agg [cellP z79 0, cellP z79 1, cellP z79 2], cellP (.int .i64 102) 0], e))))) (bindO (selO x1 0 1 false) (fun z80 =>
    iteP z80 (bindO (pureO (.build [.bool false, .bool false, .nilS] [(0, (1, .c (.bool true)))])) (fun z81 => chkO (okCells z81 3) (bindO (callO B .cl (.fn 26 []) [.agg [cellP z3 0,
    cellP z3 1, cellP z3 2, cellP z3 3, cellP z3 4, cellP z3 5], z15]) (fun z82 => nilO (cellP z81 2) (bindO (rangeO B (onRound dep h (fun z83 => fun z84 => fun z85 => chkO (okArgs z84
    2) (bindO (iteP (nth z83 8) (bindO (selO (nth z83 2) 1 1 false) (fun z86 => bindO (selO (nth z83 3) 1 1 false) (fun z87 => bindO (pureO (.bin .neq .bool false (.c z86) (.c z87)))
    (fun z88 => some z88)))) (some (.bool false))) (fun z89 => iteP z89 (bindO (selO (nth z83 1) 0 1 false) (fun z90 => bindO (callO B .cl (.fn 27 []) [z90, .int .i64 0, .int .i64 1])
    (fun z91 => bindO (pureO (.extract 0 (.c z91))) (fun z92 => bindO (pureO (.extract 1 (.c z91))) (fun z93 => bindO (pureO (.bin .neq .num true (.c z93) (.c (.int .i64 0)))) (fun z94
    => iteP z94 (bindO (pureO (.build [.bool false, .bool false, .nilS] [])) (fun z95 => chkO (okCells z95 3) (chkO (okCells z93 1) (some (false, ([nth z83 0, nth z83 1, nth z83 2, nth
    z83 3, cellP z95 0, cellP z95 1, cellP z95 2, cellP z93 0, nth z83 8, nth z83 9, nth z83 10, nI (natP (nth z83 11)), .sl 1 (itemsP (nth z83 12)) false], (some .ret, z85)))))))
    (chkO (okSls 1 [z92]) (chkO (leN (addN 0 (lenL [z92])) (lenL [z92])) (chkO (andB (leN (natP (nth z83 11)) (lenL (itemsP (nth z83 12)))) (leN (addN (natP (nth z83 11)) (lenL (takeL
    (lenL [z92]) (dropL 0 [z92])))) 2147483648)) (some (true, ([nth z83 0, nth z83 1, nth z83 2, nth z83 3, nth z83 4, nth z83 5, nth z83 6, nth z83 7, nth z83 8, nth z83 9, nth z83
    10, nI (addN (natP (nth z83 11)) (lenL (takeL (lenL [z92]) (dropL 0 [z92])))), .sl 1 (catL (takeL (natP (nth z83 11)) (itemsP (nth z83 12))) (takeL (lenL [z92]) (dropL 0 [z92])))
    false], (none, z85))))))))))))) (bindO (selO (nth z83 1) 0 1 false) (fun z96 => bindO (callO B .cl (.fn 27 []) [z96, nth z84 0, nth z84 1]) (fun z97 => bindO (pureO (.extract 0 (.c
    z97))) (fun z98 => bindO (pureO (.extract 1 (.c z97))) (fun z99 => bindO (pureO (.bin .neq .num true (.c z99) (.c (.int .i64 0)))) (fun z100 => iteP z100 (bindO (pureO (.build
    [.bool false, .bool false, .nilS] [])) (fun z101 => chkO (okCells z101 3) (chkO (okCells z99 1) (some (false, ([nth z83 0, nth z83 1, nth z83 2, nth z83 3, cellP z101 0, cellP z101
    1, cellP z101 2, cellP z99 0, nth z83 8, nth z83 9, nth z83 10, nI (natP (nth z83 11)), .sl 1 (itemsP (nth z83 12)) false], (some .ret, z85))))))) (chkO (okSls 1 [z98]) (chkO (leN
    (addN 0 (lenL [z98])) (lenL [z98])) (chkO (andB (leN (natP (nth z83 11)) (lenL (itemsP (nth z83 12)))) (leN (addN (natP (nth z83 11)) (lenL (takeL (lenL [z98]) (dropL 0 [z98]))))
    2147483648)) (some (true, ([nth z83 0, nth z83 1, nth z83 2, nth z83 3, nth z83 4, nth z83 5, nth z83 6, nth z83 7, nth z83 8, nth z83 9, nth z83 10, nI (addN (natP (nth z83 11))
    (lenL (takeL (lenL [z98]) (dropL 0 [z98])))), .sl 1 (catL (takeL (natP (nth z83 11)) (itemsP (nth z83 12))) (takeL (lenL [z98]) (dropL 0 [z98]))) false], (none,
    z85))))))))))))))))) dep z82 ([z82, x0, x1, x2, .bool false, .bool false, .nilS, .int .i64 0, cellP z69 0, cellP z81 0, cellP z81 1, nI 0, .sl 1 [] false], (none, e))) (fun z102 =>
    iteB (isNoneE z102.2.1) (chkO (okCells (.int .i64 0) 1) (chkO (okU (.tup [.agg [nth z102.1 9, nth z102.1 10, slO 1 1 (itemsP (nth z102.1 12)) 0 (natP (nth z102.1 11))], cellP (.int
    .i64 0) 0])) (some (.tup [.agg [nth z102.1 9, nth z102.1 10, slO 1 1 (itemsP (nth z102.1 12)) 0 (natP (nth z102.1 11))], cellP (.int .i64 0) 0], z102.2.2)))) (iteB (isRetE
    z102.2.1) (some (.tup [.agg [nth z102.1 4, nth z102.1 5, nth z102.1 6], nth z102.1 7], z102.2.2)) none))))))) (bindO (selO x2 0 1 false) (fun z103 => bindO (pureO (.build [.bool
    false, .bool false, .nilS] [(0, (1, .c z103))])) (fun z104 => chkO (okCells z104 3) (bindO (callO B .cl (.fn 26 []) [.agg [cellP z3 0, cellP z3 1, cellP z3 2, cellP z3 3, cellP z3
    4, cellP z3 5], z15]) (fun z105 => nilO (cellP z104 2) (bindO (rangeO B (onRound dep h (fun z106 => fun z107 => fun z108 => chkO (okArgs z107 2) (bindO (iteP (nth z106 8) (bindO
    (selO (nth z106 2) 1 1 false) (fun z109 => bindO (selO (nth z106 3) 1 1 false) (fun z110 => bindO (pureO (.bin .neq .bool false (.c z109) (.c z110))) (fun z111 => some z111))))
    (some (.bool false))) (fun z112 => iteP z112 (bindO (selO (nth z106 1) 0 1 false) (fun z113 => bindO (callO B .cl (.fn 27 []) [z113, .int .i64 0, .int .i64 1]) (fun z114 => bindO
    (pureO (.extract 0 (.c z114))) (fun z115 => bindO (pureO (.extract 1 (.c z114))) (fun z116 => bindO (pureO (.bin .neq .num true (.c z116) (.c (.int .i64 0)))) (fun z117 => iteP
    z117 (bindO (pureO (.build [.bool false, .bool false, .nilS] [])) (fun z118 => chkO (okCells z118 3) (chkO (okCells z116 1) (some (false, ([nth z106 0, nth z106 1, nth z106 2, nth
    z106 3, cellP z118 0, cellP z118 1, cellP z118 2, cellP z116 0, nth z106 8, nth z106 9, nth z106 10, nI (natP (nth z106 11)), .sl 1 (itemsP (nth z106 12)) false], (some .ret,
    z108))))))) (chkO (okSls 1 [z115]) (chkO (leN (addN 0 (lenL [z115])) (lenL [z115])) (chkO (andB (leN (natP (nth z106 11)) (lenL (itemsP (nth z106 12)))) (leN (addN (natP (nth z106
    11)) (lenL (takeL (lenL [z115]) (dropL 0 [z115])))) 2147483648)) (some (true, ([nth z106 0, nth z106 1, nth z106 2, nth z106 3, nth z106 4, nth z106 5, nth z106 6, nth z106 7, nth
    z106 8, nth z106 9, nth z106 10, nI (addN (natP (nth z106 11)) (lenL (takeL (lenL [z115]) (dropL 0 [z115])))), .sl 1 (catL (takeL (natP (nth z106 11)) (itemsP (nth z106 12)))
    (takeL (lenL [z115]) (dropL 0 [z115]))) false], (none, z108))))))))))))) (bindO (selO (nth z106 1) 0 1 false) (fun z119 => bindO (callO B .cl (.fn 27 []) [z119, nth z107 0, nth
    z107 1]) (fun z120 => bindO (pureO (.extract 0 (.c z120))) (fun z121 => bindO (pureO (.extract 1 (.c z120))) (fun z122 => bindO (pureO (.bin .neq .num true (.c z122) (.c (.int .i64
    0)))) (fun z123 => iteP z123 (bindO (pureO (.build [.bool false, .bool false, .nilS] [])) (fun z124 => chkO (okCells z124 3) (chkO (okCells z122 1) (some (false, ([nth z106 0, nth
    z106 1, nth z106 2, nth z106 3, cellP z124 0, cellP z124 1, cellP z124 2, cellP z122 0, nth z106 8, nth z106 9, nth z106 10, nI (natP (nth z106 11)), .sl 1 (itemsP (nth z106 12))
    false], (some .ret, z108))))))) (chkO (okSls 1 [z121]) (chkO (leN (addN 0 (lenL [z121])) (lenL [z121])) (chkO (andB (leN (natP (nth z106 11)) (lenL (itemsP (nth z106 12)))) (leN
    (addN (natP (nth z106 11)) (lenL (takeL (lenL [z121]) (dropL 0 [z121])))) 2147483648)) (some (true, ([nth z106 0, nth z106 1, nth z106 2, nth z106 3, nth z106 4, nth z106 5, nth
    z106 6, nth z106 7, nth z106 8, nth z106 9, nth z106 10, nI (addN (natP (nth z106 11)) (lenL (takeL (lenL [z121]) (dropL 0 [z121])))), .sl 1 (catL (takeL (natP (nth z106 11))
    (itemsP (nth z106 12))) (takeL (lenL [z121]) (dropL 0 [z121]))) false], (none, z108))))))))))))))))) dep z105 ([z105, x0, x1, x2, .bool false, .bool false, .nilS, .int .i64 0,
    cellP z69 0, cellP z104 0, cellP z104 1, nI 0, .sl 1 [] false], (none, e))) (fun z125 => iteB (isNoneE z125.2.1) (chkO (okCells (.int .i64 0) 1) (chkO (okU (.tup [.agg [nth z125.1
    9, nth z125.1 10, slO 1 1 (itemsP (nth z125.1 12)) 0 (natP (nth z125.1 11))], cellP (.int .i64 0) 0])) (some (.tup [.agg [nth z125.1 9, nth z125.1 10, slO 1 1 (itemsP (nth z125.1
    12)) 0 (natP (nth z125.1 11))], cellP (.int .i64 0) 0], z125.2.2)))) (iteB (isRetE z125.2.1) (some (.tup [.agg [nth z125.1 4, nth z125.1 5, nth z125.1 6], nth z125.1 7], z125.2.2))
    none)))))))))))))))) (bindO (selO x1 0 1 false) (fun z126 => iteP z126 (bindO (pureO (.build [.bool false, .bool false, .nilS] [(0, (1, .c (.bool true)))])) (fun z127 => chkO
    (okCells z127 3) (bindO (callO B .cl (.fn 26 []) [.agg [cellP z3 0, cellP z3 1, cellP z3 2, cellP z3 3, cellP z3 4, cellP z3 5], z15]) (fun z128 => nilO (cellP z127 2) (bindO
    (rangeO B (onRound dep h (fun z129 => fun z130 => fun z131 => chkO (okArgs z130 2) (bindO (iteP (nth z129 8) (bindO (selO (nth z129 2) 1 1 false) (fun z132 => bindO (selO (nth z129
    3) 1 1 false) (fun z133 => bindO (pureO (.bin .neq .bool false (.c z132) (.c z133))) (fun z134 => some z134)))) (some (.bool false))) (fun z135 => iteP z135 (bindO (selO (nth z129
    1) 0 1 false) (fun z136 => bindO (callO B .cl (.fn 27 []) [z136, .int .i64 0, .int .i64 1]) (fun z137 => bindO (pureO (.extract 0 (.c z137))) (fun z138 => bindO (pureO (.extract 1
    (.c z137))) (fun z139 => bindO (pureO (.bin .neq .num true (.c z139) (.c (.int .i64 0)))) (fun z140 => iteP z140 (bindO (pureO (.build [.bool false, .bool false, .nilS] [])) (fun
    z141 => chkO (okCells z141 3) (chkO (okCells z139 1) (some (false, ([nth z129 0, nth z129 1, nth z129 2, nth z129 3, cellP z141 0, cellP z141 1, cellP z141 2, cellP z139 0, nth
    z129 8, nth z129 9, nth z129 10, nI (natP (nth z129 11)), .sl 1 (itemsP (nth z129 12)) false], (some .ret, z131))))))) (chkO (okSls 1 [z138]) (chkO (leN (addN 0 (lenL [z138]))
    (lenL [z138])) (chkO (andB (leN (natP (nth z129 11)) (lenL (itemsP (nth z129 12)))) (leN (addN (natP (nth z129 11)) (lenL (takeL (lenL [z138]) (dropL 0 [z138])))) 2147483648))
    (some (true, ([nth z129 0, nth z129 1, nth z129 2, nth z129 3, nth z129 4, nth z129 5, nth z129 6, nth z129 7, nth z129 8, nth z129 9, nth z129 10, nI (addN (natP (nth z129 11))
    (lenL (takeL (lenL [z138]) (dropL 0 [z138])))), .sl 1 (catL (takeL (natP (nth z129 11)) (itemsP (nth z129 12))) (takeL (lenL [z138]) (dropL 0 [z138]))) false], (none,
    z131))))))))))))) (bindO (selO (nth z129 1) 0 1 false) (fun z142 => bindO (callO B .cl (.fn 27 []) [z142, nth z130 0, nth z130 1]) (fun z143 => bindO (pureO (.extract 0 (.c z143)))
    (fun z144 => bindO (pureO (.extract 1 (.c z143))) (fun z145 => bindO (pureO (.bin .neq .num true (.c z145) (.c (.int .i64 0)))) (fun z146 => iteP z146 (bindO (pureO (.build [.bool
    false, .bool false, .nilS] [])) (fun z147 => chkO (okCells z147 3) (chkO (okCells z145 1) (some (false, ([nth z129 0, nth z129 1, nth z129 2, nth z129 3, cellP z147 0, cellP z147
    1, cellP z147 2, cellP z145 0, nth z129 8, nth z129 9, nth z129 10, nI (natP (nth z129 11)), .sl 1 (itemsP (nth z129 12)) false], (some .ret, z131))))))) (chkO (okSls 1 [z144])
    (chkO (leN (addN 0 (lenL [z144])) (lenL [z144])) (chkO (andB (leN (natP (nth z129 11)) (lenL (itemsP (nth z129 12)))) (leN (addN (natP (nth z129 11)) (lenL (takeL (lenL [z144])
    (dropL 0 [z144])))) 2147483648)) (some (true, ([nth z129 0, nth z129 1, nth z129 2, nth z129 3, nth z129 4, nth z129 5, nth z129 6, nth z129 7, nth z129 8, nth z129 9, nth z129 10,
    nI (addN (natP (nth z129 11)) (lenL (takeL (lenL [z144]) (dropL 0 [z144])))), .sl 1 (catL (takeL (natP (nth z129 11)) (itemsP (nth z129 12))) (takeL (lenL [z144]) (dropL 0
    [z144]))) false], (none, z131))))))))))))))))) dep z128 ([z128, x0, x1, x2, .bool false, .bool false, .nilS, .int .i64 0, cellP z69 0, cellP z127 0, cellP z127 1, nI 0, .sl 1 []
    false], (none, e))) (fun z148 => iteB (isNoneE z148.2.1) (chkO (okCells (.int .i64 0) 1) (chkO (okU (.tup [.agg [nth z148.1 9, nth z148.1 10, slO 1 1 (itemsP (nth z148.1 12)) 0
    (natP (nth z148.1 11))], cellP (.int .i64 0) 0])) (some (.tup [.agg [nth z148.1 9, nth z148.1 10, slO 1 1 (itemsP (nth z148.1 12)) 0 (natP (nth z148.1 11))], cellP (.int .i64 0)
    0], z148.2.2)))) (iteB (isRetE z148.2.1) (some (.tup [.agg [nth z148.1 4, nth z148.1 5, nth z148.1 6], nth z148.1 7], z148.2.2)) none))))))) (bindO (selO x2 0 1 false) (fun z149 =>
    bindO (pureO (.build [.bool false, .bool false, .nilS] [(0, (1, .c z149))])) (fun z150 => chkO (okCells z150 3) (bindO (callO B .cl (.fn 26 []) [.agg [cellP z3 0, cellP z3 1, cellP
    z3 2, cellP z3 3, cellP z3 4, cellP z3 5], z15]) (fun z151 => nilO (cellP z150 2) (bindO (rangeO B (onRound dep h (fun z152 => fun z153 => fun z154 => chkO (okArgs z153 2) (bindO
    (iteP (nth z152 8) (bindO (selO (nth z152 2) 1 1 false) (fun z155 => bindO (selO (nth z152 3) 1 1 false) (fun z156 => bindO (pureO (.bin .neq .bool false (.c z155) (.c z156))) (fun
    z157 => some z157)))) (some (.bool false))) (fun z158 => iteP z158 (bindO (selO (nth z152 1) 0 1 false) (fun z159 => bindO (callO B .cl (.fn 27 []) [z159, .int .i64 0, .int .i64
    1]) (fun z160 => bindO (pureO (.extract 0 (.c z160))) (fun z161 => bindO (pureO (.extract 1 (.c z160))) (fun z162 => bindO (pureO (.bin .neq .num true (.c z162) (.c (.int .i64
    0)))) (fun z163 => iteP z163 (bindO (pureO (.build [.bool false, .bool false, .nilS] [])) (fun z164 => chkO (okCells z164 3) (chkO (okCells z162 1) (some (false, ([nth z152 0, nth
    z152 1, nth z152 2, nth z152 3, cellP z164 0, cellP z164 1, cellP z164 2, cellP z162 0, nth z152 8, nth z152 9, nth z152 10, nI (natP (nth z152 11)), .sl 1 (itemsP (nth z152 12))
    false], (some .ret, z154))))))) (chkO (okSls 1 [z161]) (chkO (leN (addN 0 (lenL [z161])) (lenL [z161])) (chkO (andB (leN (natP (nth z152 11)) (lenL (itemsP (nth z152 12)))) (leN
    (addN (natP (nth z152 11)) (lenL (takeL (lenL [z161]) (dropL 0 [z161])))) 2147483648)) (some (true, ([nth z152 0, nth z152 1, nth z152 2, nth z152 3, nth z152 4, nth z152 5, nth
    z152 6, nth z152 7, nth z152 8, nth z152 9, nth z152 10, nI (addN (natP (nth z152 11)) (lenL (takeL (lenL [z161]) (dropL 0 [z161])))), .sl 1 (catL (takeL (natP (nth z152 11))
    (itemsP (nth z152 12))) (takeL (lenL [z161]) (dropL 0 [z161]))) false], (none, z154))))))))))))) (bindO (selO (nth z152 1) 0 1 false) (fun z165 => bindO (callO B .cl (.fn 27 [])
    [z165, nth z153 0, nth z153 1]) (fun z166 => bindO (pureO (.extract 0 (.c z166))) (fun z167 => bindO (pureO (.extract 1 (.c z166))) (fun z168 => bindO (pureO (.bin .neq .num true
    (.c z168) (.c (.int .i64 0)))) (fun z169 => iteP z169 (bindO (pureO (.build [.bool false, .bool false, .nilS] [])) (fun z170 => chkO (okCells z170 3) (chkO (okCells z168 1) (some
    (false, ([nth z152 0, nth z152 1, nth z152 2, nth z152 3, cellP z170 0, cellP z170 1, cellP z170 2, cellP z168 0, nth z152 8, nth z152 9, nth z152 10, nI (natP (nth z152 11)), .sl
    1 (itemsP (nth z152 12)) false], (some .ret, z154))))))) (chkO (okSls 1 [z167]) (chkO (leN (addN 0 (lenL [z167])) (lenL [z167])) (chkO (andB (leN (natP (nth z152 11)) (lenL (itemsP
    (nth z152 12)))) (leN (addN (natP (nth z152 11)) (lenL (takeL (lenL [z167]) (dropL 0 [z167])))) 2147483648)) (some (true, ([nth z152 0, nth z152 1, nth z152 2, nth z152 3, nth z152
    4, nth z152 5, nth z152 6, nth z152 7, nth z152 8, nth z152 9, nth z152 10, nI (addN (natP (nth z152 11)) (lenL (takeL (lenL [z167]) (dropL 0 [z167])))), .sl 1 (catL (takeL (natP
    (nth z152 11)) (itemsP (nth z152 12))) (takeL (lenL [z167]) (dropL 0 [z167]))) false], (none, z154))))))))))))))))) dep z151 ([z151, x0, x1, x2, .bool false, .bool false, .nilS,
    .int .i64 0, cellP z69 0, cellP z150 0, cellP z150 1, nI 0, .sl 1 [] false], (none, e))) (fun z171 => iteB (isNoneE z171.2.1) (chkO (okCells (.int .i64 0) 1) (chkO (okU (.tup [.agg
    [nth z171.1 9, nth z171.1 10, slO 1 1 (itemsP (nth z171.1 12)) 0 (natP (nth z171.1 11))], cellP (.int .i64 0) 0])) (some (.tup [.agg [nth z171.1 9, nth z171.1 10, slO 1 1 (itemsP
    (nth z171.1 12)) 0 (natP (nth z171.1 11))], cellP (.int .i64 0) 0], z171.2.2)))) (iteB (isRetE z171.2.1) (some (.tup [.agg [nth z171.1 4, nth z171.1 5, nth z171.1 6], nth z171.1
    7], z171.2.2)) none))))))))))))))))))))))))))))))))))))))) := by kernel_rfl
theorem run11 (B : KB) {E : Type} (h : Handler E) (dep : Nat) (e : E) (x0 : PV) :
    runK (cfg0 B (fun _ => .cl)) fn11 (.cl) h dep [.cv x0] e =
    bindO (pureO (.len .str (.c x0))) (fun z1 => bindO (pureO (.minmax false [.c z1, .c (.int .i64 20)])) (fun z2 => bindO (pureO (.strSlice (.c x0) none (some (.c z2)))) (fun z3 =>
    some (z3, e)))) := by kernel_rfl
theorem run12 (B : KB) {E : Type} (h : Handler E) (dep : Nat) (e : E) (x0 : PV) :
    runK (cfg0 B (fun _ => .cl)) fn12 (.cl) h dep [.cv x0] e =
    chkO (valO x0) (bindO (selO x0 1 1 false) (fun z1 => iteP z1 (bindO (selO x0 2 1 false) (fun z2 => bindO (callO B .cl (.fn 30 []) [z2, .fn 28 []]) (fun z3 => iteP z3 (some (.bool
    false, e)) (bindO (selO x0 0 1 false) (fun z4 => iteP z4 (bindO (selO x0 2 1 false) (fun z5 => bindO (pureO (.len .slice (.c z5))) (fun z6 => bindO (pureO (.bin .leq .num true (.c
    z6) (.c (.int .i64 200)))) (fun z7 => some (z7, e))))) (bindO (selO x0 2 1 false) (fun z8 => bindO (pureO (.len .slice (.c z8))) (fun z9 => bindO (pureO (.bin .eql .num true (.c
    z9) (.c (.int .i64 1)))) (fun z10 => some (z10, e)))))))))) (bindO (selO x0 0 1 false) (fun z11 => iteP z11 (bindO (selO x0 2 1 false) (fun z12 => bindO (pureO (.len .slice (.c
    z12))) (fun z13 => bindO (pureO (.bin .leq .num true (.c z13) (.c (.int .i64 200)))) (fun z14 => some (z14, e))))) (bindO (selO x0 2 1 false) (fun z15 => bindO (pureO (.len .slice
    (.c z15))) (fun z16 => bindO (pureO (.bin .eql .num true (.c z16) (.c (.int .i64 1)))) (fun z17 => some (z17, e))))))))) := by kernel_rfl
theorem run14 (B : KB) {E : Type} (h : Handler E) (dep : Nat) (e : E) (x0 : PV) (x1 : PV) :
    runK (cfg0 B (fun _ => .cl)) fn14 (.cl) h dep [.cv x0, .cv x1] e =
    chkO (valO x1) (bindO (selO x1 0 3 true) (fun z1 => chkO (okSls 3 [z1]) (bindO (lendO B .cl true 21 [slO 3 3 [z1] 0 (lenL [z1])]) (fun z2 => bindO (pureO (.bin .neq .iface true (.c
    z2) (.c .nilI))) (fun z3 => iteP z3 (bindO (pureO (.build [.bool false, .bool false, .nilS] [])) (fun z4 => bindO (callO B .cl (.fn 22 []) [z2]) (fun z5 => chkO (okCells z4 3)
    (some (.tup [.agg [cellP z4 0, cellP z4 1, cellP z4 2], z5], e))))) (bindO (callO B .cl (.fn 32 []) [x0]) (fun z6 => bindO (pureO (.un .not (.c z6))) (fun z7 => iteP z7 (bindO
    (pureO (.build [.bool false, .bool false, .nilS] [])) (fun z8 => chkO (okCells z8 3) (some (.tup [.agg [cellP z8 0, cellP z8 1, cellP z8 2], .int .i64 102], e)))) (bindO (selO x1 0
    3 true) (fun z9 => bindO (callO B .cl (.fn 25 []) [z9]) (fun z10 => iteP z10 (bindO (pureO (.build [.bool false, .bool false, .nilS] [])) (fun z11 => chkO (okCells z11 3) (some
    (.tup [.agg [cellP z11 0, cellP z11 1, cellP z11 2], .int .i64 102], e)))) (bindO (selO x1 0 1 false) (fun z12 => bindO (pureO (.build [.bool false, .bool false, .nilS] [(0, (1, .c
    z12))])) (fun z13 => chkO (okCells z13 3) (bindO (selO x1 2 1 false) (fun z14 => bindO (pureO (.len .slice (.c z14))) (fun z15 => nilO (cellP z13 2) (chkO (noUndef [x0, z14, z15,
    .int .i64 0]) (loopL (fun z16 => bindO (pureO (.bin .lss .num false (.c (nth z16.1 3)) (.c (nth z16.1 2)))) (fun z17 => iteP z17 (bindO (pureO (.idxAddr 1 (.c (nth z16.1 1)) (.c
    (nth z16.1 3)))) (fun z18 => bindO (pureO (.load 1 false (.c z18))) (fun z19 => bindO (callO B .cl (.fn 33 []) [nth z16.1 0, z19]) (fun z20 => bindO (pureO (.extract 0 (.c z20)))
    (fun z21 => bindO (pureO (.extract 1 (.c z20))) (fun z22 => bindO (pureO (.bin .neq .num true (.c z22) (.c (.int .i64 0)))) (fun z23 => iteP z23 (bindO (pureO (.build [.bool false,
    .bool false, .nilS] [])) (fun z24 => chkO (okCells z24 3) (bindO (some (.tup [.agg [cellP z24 0, cellP z24 1, cellP z24 2], z22], z16.2)) (fun z25 => some (.inr z25))))) (chkO
    (okSls 1 [z21]) (chkO (leN (addN 0 (lenL [z21])) (lenL [z21])) (chkO (andB (leN (natP (nth z16.1 9)) (lenL (itemsP (nth z16.1 10)))) (leN (addN (natP (nth z16.1 9)) (lenL (takeL
    (lenL [z21]) (dropL 0 [z21])))) 2147483648)) (bindO (pureO (.bin .add .num true (.c (nth z16.1 3)) (.c (.int .i64 1)))) (fun z26 => some (.inl ([nth z16.1 0, nth z16.1 1, nth z16.1
    2, z26, nth z16.1 4, nth z16.1 5, nth z16.1 6, nth z16.1 7, nth z16.1 8, nI (addN (natP (nth z16.1 9)) (lenL (takeL (lenL [z21]) (dropL 0 [z21])))), .sl 1 (catL (takeL (natP (nth
    z16.1 9)) (itemsP (nth z16.1 10))) (takeL (lenL [z21]) (dropL 0 [z21]))) false], z16.2)))))))))))))) (bindO (chkO (okU (.tup [.agg [nth z16.1 7, nth z16.1 8, slO 1 1 (itemsP (nth
    z16.1 10)) 0 (natP (nth z16.1 9))], .int .i64 0])) (some (.tup [.agg [nth z16.1 7, nth z16.1 8, slO 1 1 (itemsP (nth z16.1 10)) 0 (natP (nth z16.1 9))], .int .i64 0], z16.2))) (fun
    z27 => some (.inr z27))))) ([x0, z14, z15, .int .i64 0, .bool false, .bool false, .nilS, cellP z13 0, cellP z13 1, nI 0, .sl 1 [] false], e)))))))))))))))))))) := by kernel_rfl
theorem run15 (B : KB) {E : Type} (h : Handler E) (dep : Nat) (e : E) (x0 : PV) (x1 : PV) :
    runK (cfg0 B (fun _ => .cl)) fn15 (.cl) h dep [.cv x0, .cv x1] e =
    chkO (valO x1) (bindO (selO x1 0 3 true) (fun z1 => bindO (callO B .cl (.fn 34 []) [z1]) (fun z2 => bindO (pureO (.un .not (.c z2))) (fun z3 => iteP z3 (bindO (pureO (.build [.bool
    false, .bool false, .nilS] [])) (fun z4 => chkO (okCells z4 3) (some (.tup [.agg [cellP z4 0, cellP z4 1, cellP z4 2], .int .i64 114], e)))) (bindO (callO B .cl (.fn 35 []) [x0])
    (fun z5 => bindO (pureO (.un .not (.c z5))) (fun z6 => iteP z6 (bindO (pureO (.build [.bool false, .bool false, .nilS] [])) (fun z7 => chkO (okCells z7 3) (some (.tup [.agg [cellP
    z7 0, cellP z7 1, cellP z7 2], .int .i64 102], e)))) (bindO (selO x1 1 1 false) (fun z8 => iteP z8 (bindO (selO x1 2 1 false) (fun z9 => bindO (pureO (.len .slice (.c z9))) (fun
    z10 => bindO (pureO (.bin .gtr .num true (.c z10) (.c (.int .i64 0)))) (fun z11 => iteP z11 (bindO (pureO (.build [.bool false, .bool false, .nilS] [])) (fun z12 => chkO (okCells
    z12 3) (some (.tup [.agg [cellP z12 0, cellP z12 1, cellP z12 2], .int .i64 102], e)))) (bindO (selO x1 0 1 false) (fun z13 => bindO (pureO (.build [.bool false, .bool false,
    .nilS] [(0, (1, .c z13))])) (fun z14 => chkO (okCells z14 3) (nilO (cellP z14 2) (chkO (noUndef [x0, .int .i64 0]) (loopL (fun z15 => bindO (selO (nth z15.1 2) 2 1 false) (fun z16
    => bindO (pureO (.len .slice (.c z16))) (fun z17 => bindO (pureO (.bin .lss .num false (.c (nth z15.1 1)) (.c z17))) (fun z18 => iteP z18 (bindO (selO (nth z15.1 2) 2 1 false) (fun
    z19 => bindO (pureO (.idxAddr 1 (.c z19) (.c (nth z15.1 1)))) (fun z20 => bindO (pureO (.load 1 false (.c z20))) (fun z21 => bindO (callO B .cl (.fn 36 []) [nth z15.1 0, z21]) (fun
    z22 => bindO (pureO (.extract 0 (.c z22))) (fun z23 => bindO (pureO (.extract 1 (.c z22))) (fun z24 => bindO (pureO (.bin .neq .num true (.c z24) (.c (.int .i64 0)))) (fun z25 =>
    iteP z25 (bindO (pureO (.build [.bool false, .bool false, .nilS] [])) (fun z26 => chkO (okCells z26 3) (bindO (some (.tup [.agg [cellP z26 0, cellP z26 1, cellP z26 2], z24],
    z15.2)) (fun z27 => some (.inr z27))))) (chkO (okSls 1 [z23]) (chkO (leN (addN 0 (lenL [z23])) (lenL [z23])) (chkO (andB (leN (natP (nth z15.1 8)) (lenL (itemsP (nth z15.1 9))))
    (leN (addN (natP (nth z15.1 8)) (lenL (takeL (lenL [z23]) (dropL 0 [z23])))) 2147483648)) (bindO (pureO (.bin .add .num true (.c (nth z15.1 1)) (.c (.int .i64 1)))) (fun z28 =>
    some (.inl ([nth z15.1 0, z28, nth z15.1 2, nth z15.1 3, nth z15.1 4, nth z15.1 5, nth z15.1 6, nth z15.1 7, nI (addN (natP (nth z15.1 8)) (lenL (takeL (lenL [z23]) (dropL 0
    [z23])))), .sl 1 (catL (takeL (natP (nth z15.1 8)) (itemsP (nth z15.1 9))) (takeL (lenL [z23]) (dropL 0 [z23]))) false], z15.2))))))))))))))) (bindO (chkO (okU (.tup [.agg [nth
    z15.1 6, nth z15.1 7, slO 1 1 (itemsP (nth z15.1 9)) 0 (natP (nth z15.1 8))], .int .i64 0])) (some (.tup [.agg [nth z15.1 6, nth z15.1 7, slO 1 1 (itemsP (nth z15.1 9)) 0 (natP
    (nth z15.1 8))], .int .i64 0], z15.2))) (fun z29 => some (.inr z29))))))) ([x0, .int .i64 0, x1, .bool false, .bool false, .nilS, cellP z14 0, cellP z14 1, nI 0, .sl 1 [] false],
    e))))))))))) (bindO (selO x1 0 1 false) (fun z30 => bindO (pureO (.build [.bool false, .bool false, .nilS] [(0, (1, .c z30))])) (fun z31 => chkO (okCells z31 3) (nilO (cellP z31 2)
    (chkO (noUndef [x0, .int .i64 0]) (loopL (fun z32 => bindO (selO (nth z32.1 2) 2 1 false) (fun z33 => bindO (pureO (.len .slice (.c z33))) (fun z34 => bindO (pureO (.bin .lss .num
    false (.c (nth z32.1 1)) (.c z34))) (fun z35 => iteP z35 (bindO (selO (nth z32.1 2) 2 1 false) (fun z36 => bindO (pureO (.idxAddr 1 (.c z36) (.c (nth z32.1 1)))) (fun z37 => bindO
    (pureO (.load 1 false (.c z37))) (fun z38 => bindO (callO B .cl (.fn 36 []) [nth z32.1 0, z38]) (fun z39 => bindO (pureO (.extract 0 (.c z39))) (fun z40 => bindO (pureO (.extract 1
    (.c z39))) (fun z41 => bindO (pureO (.bin .neq .num true (.c z41) (.c (.int .i64 0)))) (fun z42 => iteP z42 (bindO (pureO (.build [.bool false, .bool false, .nilS] [])) (fun z43 =>
    chkO (okCells z43 3) (bindO (some (.tup [.agg [cellP z43 0, cellP z43 1, cellP z43 2], z41], z32.2)) (fun z44 => some (.inr z44))))) (chkO (okSls 1 [z40]) (chkO (leN (addN 0 (lenL
    [z40])) (lenL [z40])) (chkO (andB (leN (natP (nth z32.1 8)) (lenL (itemsP (nth z32.1 9)))) (leN (addN (natP (nth z32.1 8)) (lenL (takeL (lenL [z40]) (dropL 0 [z40])))) 2147483648))
    (bindO (pureO (.bin .add .num true (.c (nth z32.1 1)) (.c (.int .i64 1)))) (fun z45 => some (.inl ([nth z32.1 0, z45, nth z32.1 2, nth z32.1 3, nth z32.1 4, nth z32.1 5, nth z32.1
    6, nth z32.1 7, nI (addN (natP (nth z32.1 8)) (lenL (takeL (lenL [z40]) (dropL 0 [z40])))), .sl 1 (catL (takeL (natP (nth z32.1 8)) (itemsP (nth z32.1 9))) (takeL (lenL [z40])
    (dropL 0 [z40]))) false], z32.2))))))))))))))) (bindO (chkO (okU (.tup [.agg [nth z32.1 6, nth z32.1 7, slO 1 1 (itemsP (nth z32.1 9)) 0 (natP (nth z32.1 8))], .int .i64 0])) (some
    (.tup [.agg [nth z32.1 6, nth z32.1 7, slO 1 1 (itemsP (nth z32.1 9)) 0 (natP (nth z32.1 8))], .int .i64 0], z32.2))) (fun z46 => some (.inr z46))))))) ([x0, .int .i64 0, x1, .bool
    false, .bool false, .nilS, cellP z31 0, cellP z31 1, nI 0, .sl 1 [] false], e)))))))))))))))) := by kernel_rfl
theorem run16 (B : KB) {E : Type} (h : Handler E) (dep : Nat) (e : E) (x0 : PV) (x1 : PV) (x2 : PV) :
    runK (cfg0 B (fun _ => .cl)) fn16 (.cl) h dep [.cv x0, .cv x1, .cv x2] e =
    chkO (valO x1) (chkO (valO x2) (bindO (selO x1 0 3 true) (fun z1 => bindO (callO B .cl (.fn 34 []) [z1]) (fun z2 => bindO (pureO (.un .not (.c z2))) (fun z3 => iteP z3 (bindO
    (pureO (.build [.bool false, .bool false, .nilS] [])) (fun z4 => chkO (okCells z4 3) (some (.tup [.agg [cellP z4 0, cellP z4 1, cellP z4 2], .int .i64 114], e)))) (bindO (selO x2 0
    3 true) (fun z5 => bindO (callO B .cl (.fn 34 []) [z5]) (fun z6 => bindO (pureO (.un .not (.c z6))) (fun z7 => iteP z7 (bindO (pureO (.build [.bool false, .bool false, .nilS] []))
    (fun z8 => chkO (okCells z8 3) (some (.tup [.agg [cellP z8 0, cellP z8 1, cellP z8 2], .int .i64 114], e)))) (bindO (callO B .cl (.fn 37 []) [x0]) (fun z9 => bindO (pureO (.un .not
    (.c z9))) (fun z10 => iteP z10 (bindO (pureO (.build [.bool false, .bool false, .nilS] [])) (fun z11 => chkO (okCells z11 3) (some (.tup [.agg [cellP z11 0, cellP z11 1, cellP z11
    2], .int .i64 102], e)))) (bindO (bindO (selO x1 0 1 false) (fun z12 => iteP z12 (bindO (selO x2 0 1 false) (fun z13 => iteP z13 (bindO (selO x1 2 1 false) (fun z14 => bindO (pureO
    (.len .slice (.c z14))) (fun z15 => bindO (selO x2 2 1 false) (fun z16 => bindO (pureO (.len .slice (.c z16))) (fun z17 => bindO (pureO (.bin .neq .num false (.c z15) (.c z17)))
    (fun z18 => some z18)))))) (some (.bool false)))) (some (.bool false)))) (fun z19 => iteP z19 (bindO (pureO (.build [.bool false, .bool false, .nilS] [])) (fun z20 => chkO (okCells
    z20 3) (some (.tup [.agg [cellP z20 0, cellP z20 1, cellP z20 2], .int .i64 110], e)))) (bindO (bindO (pureO (.bin .neq .str true (.c x0) (.c (.str [61])))) (fun z21 => iteP z21
    (bindO (pureO (.bin .neq .str true (.c x0) (.c (.str [226, 137, 160])))) (fun z22 => iteP z22 (bindO (selO x1 1 1 false) (fun z23 => iteP z23 (bindO (selO x1 2 1 false) (fun z24 =>
    bindO (pureO (.len .slice (.c z24))) (fun z25 => bindO (pureO (.bin .gtr .num true (.c z25) (.c (.int .i64 0)))) (fun z26 => iteP z26 (some (.bool true)) (bindO (selO x2 1 1 false)
    (fun z27 => iteP z27 (bindO (selO x2 2 1 false) (fun z28 => bindO (pureO (.len .slice (.c z28))) (fun z29 => bindO (pureO (.bin .gtr .num true (.c z29) (.c (.int .i64 0)))) (fun
    z30 => some z30)))) (some (.bool false)))))))) (bindO (selO x2 1 1 false) (fun z31 => iteP z31 (bindO (selO x2 2 1 false) (fun z32 => bindO (pureO (.len .slice (.c z32))) (fun z33
    => bindO (pureO (.bin .gtr .num true (.c z33) (.c (.int .i64 0)))) (fun z34 => some z34)))) (some (.bool false)))))) (some (.bool false)))) (some (.bool false)))) (fun z35 => iteP
    z35 (bindO (pureO (.build [.bool false, .bool false, .nilS] [])) (fun z36 => chkO (okCells z36 3) (some (.tup [.agg [cellP z36 0, cellP z36 1, cellP z36 2], .int .i64 102], e))))
    (bindO (selO x1 0 1 false) (fun z37 => iteP z37 (bindO (pureO (.build [.bool false, .bool false, .nilS] [(0, (1, .c (.bool true)))])) (fun z38 => chkO (okCells z38 3) (bindO (selO
    x2 2 1 false) (fun z39 => bindO (pureO (.len .slice (.c z39))) (fun z40 => bindO (selO x1 0 1 false) (fun z41 => iteP z41 (bindO (selO x1 2 1 false) (fun z42 => bindO (pureO (.len
    .slice (.c z42))) (fun z43 => nilO (cellP z38 2) (chkO (noUndef [x0, z43, .int .i64 0]) (loopL (fun z44 => bindO (pureO (.bin .lss .num false (.c (nth z44.1 2)) (.c (nth z44.1
    1)))) (fun z45 => iteP z45 (bindO (selO (nth z44.1 3) 0 3 true) (fun z46 => bindO (callO B .cl (.fn 39 []) [z46, nth z44.1 2]) (fun z47 => bindO (selO (nth z44.1 4) 0 3 true) (fun
    z48 => bindO (callO B .cl (.fn 39 []) [z48, nth z44.1 2]) (fun z49 => bindO (selO (nth z44.1 3) 1 1 false) (fun z50 => bindO (selO (nth z44.1 4) 1 1 false) (fun z51 => bindO (pureO
    (.bin .eql .bool false (.c z50) (.c z51))) (fun z52 => bindO (callO B .cl (.fn 38 []) [nth z44.1 0, z47, z49, z52]) (fun z53 => bindO (pureO (.extract 0 (.c z53))) (fun z54 =>
    bindO (pureO (.extract 1 (.c z53))) (fun z55 => bindO (pureO (.bin .neq .num true (.c z55) (.c (.int .i64 0)))) (fun z56 => iteP z56 (bindO (pureO (.build [.bool false, .bool
    false, .nilS] [])) (fun z57 => chkO (okCells z57 3) (bindO (some (.tup [.agg [cellP z57 0, cellP z57 1, cellP z57 2], z55], z44.2)) (fun z58 => some (.inr z58))))) (chkO (okSls 1
    [z54]) (chkO (leN (addN 0 (lenL [z54])) (lenL [z54])) (chkO (andB (leN (natP (nth z44.1 10)) (lenL (itemsP (nth z44.1 11)))) (leN (addN (natP (nth z44.1 10)) (lenL (takeL (lenL
    [z54]) (dropL 0 [z54])))) 2147483648)) (bindO (pureO (.bin .add .num true (.c (nth z44.1 2)) (.c (.int .i64 1)))) (fun z59 => some (.inl ([nth z44.1 0, nth z44.1 1, z59, nth z44.1
    3, nth z44.1 4, nth z44.1 5, nth z44.1 6, nth z44.1 7, nth z44.1 8, nth z44.1 9, nI (addN (natP (nth z44.1 10)) (lenL (takeL (lenL [z54]) (dropL 0 [z54])))), .sl 1 (catL (takeL
    (natP (nth z44.1 10)) (itemsP (nth z44.1 11))) (takeL (lenL [z54]) (dropL 0 [z54]))) false], z44.2))))))))))))))))))) (bindO (chkO (okU (.tup [.agg [nth z44.1 8, nth z44.1 9, slO 1
    1 (itemsP (nth z44.1 11)) 0 (natP (nth z44.1 10))], .int .i64 0])) (some (.tup [.agg [nth z44.1 8, nth z44.1 9, slO 1 1 (itemsP (nth z44.1 11)) 0 (natP (nth z44.1 10))], .int .i64
    0], z44.2))) (fun z60 => some (.inr z60))))) ([x0, z43, .int .i64 0, x1, x2, .bool false, .bool false, .nilS, cellP z38 0, cellP z38 1, nI 0, .sl 1 [] false], e)))))) (nilO (cellP
    z38 2) (chkO (noUndef [x0, z40, .int .i64 0]) (loopL (fun z61 => bindO (pureO (.bin .lss .num false (.c (nth z61.1 2)) (.c (nth z61.1 1)))) (fun z62 => iteP z62 (bindO (selO (nth
    z61.1 3) 0 3 true) (fun z63 => bindO (callO B .cl (.fn 39 []) [z63, nth z61.1 2]) (fun z64 => bindO (selO (nth z61.1 4) 0 3 true) (fun z65 => bindO (callO B .cl (.fn 39 []) [z65,
    nth z61.1 2]) (fun z66 => bindO (selO (nth z61.1 3) 1 1 false) (fun z67 => bindO (selO (nth z61.1 4) 1 1 false) (fun z68 => bindO (pureO (.bin .eql .bool false (.c z67) (.c z68)))
    (fun z69 => bindO (callO B .cl (.fn 38 []) [nth z61.1 0, z64, z66, z69]) (fun z70 => bindO (pureO (.extract 0 (.c z70))) (fun z71 => bindO (pureO (.extract 1 (.c z70))) (fun z72 =>
    bindO (pureO (.bin .neq .num true (.c z72) (.c (.int .i64 0)))) (fun z73 => iteP z73 (bindO (pureO (.build [.bool false, .bool false, .nilS] [])) (fun z74 => chkO (okCells z74 3)
    (bindO (some (.tup [.agg [cellP z74 0, cellP z74 1, cellP z74 2], z72], z61.2)) (fun z75 => some (.inr z75))))) (chkO (okSls 1 [z71]) (chkO (leN (addN 0 (lenL [z71])) (lenL [z71]))
    (chkO (andB (leN (natP (nth z61.1 10)) (lenL (itemsP (nth z61.1 11)))) (leN (addN (natP (nth z61.1 10)) (lenL (takeL (lenL [z71]) (dropL 0 [z71])))) 2147483648)) (bindO (pureO
    (.bin .add .num true (.c (nth z61.1 2)) (.c (.int .i64 1)))) (fun z76 => some (.inl ([nth z61.1 0, nth z61.1 1, z76, nth z61.1 3, nth z61.1 4, nth z61.1 5, nth z61.1 6, nth z61.1
    7, nth z61.1 8, nth z61.1 9, nI (addN (natP (nth z61.1 10)) (lenL (takeL (lenL [z71]) (dropL 0 [z71])))), .sl 1 (catL (takeL (natP (nth z61.1 10)) (itemsP (nth z61.1 11))) (takeL
    (lenL [z71]) (dropL 0 [z71]))) false], z61.2))))))))))))))))))) (bindO (chkO (okU (.tup [.agg [nth z61.1 8, nth z61.1 9, slO 1 1 (itemsP (nth z61.1 11)) 0 (natP (nth z61.1 10))],
    .int .i64 0])) (some (.tup [.agg [nth z61.1 8, nth z61.1 9, slO 1 1 (itemsP (nth z61.1 11)) 0 (natP (nth z61.1 10))], .int .i64 0], z61.2))) (fun z77 => some (.inr z77))))) ([x0,
    z40, .int .i64 0, x1, x2, .bool false, .bool false, .nilS, cellP z38 0, cellP z38 1, nI 0, .sl 1 [] false], e)))))))))) (bindO (selO x2 0 1 false) (fun z78 => bindO (pureO (.build
    [.bool false, .bool false, .nilS] [(0, (1, .c z78))])) (fun z79 => chkO (okCells z79 3) (bindO (selO x2 2 1 false) (fun z80 => bindO (pureO (.len .slice (.c z80))) (fun z81 =>
    bindO (selO x1 0 1 false) (fun z82 => iteP z82 (bindO (selO x1 2 1 false) (fun z83 => bindO (pureO (.len .slice (.c z83))) (fun z84 => nilO (cellP z79 2) (chkO (noUndef [x0, z84,
    .int .i64 0]) (loopL (fun z85 => bindO (pureO (.bin .lss .num false (.c (nth z85.1 2)) (.c (nth z85.1 1)))) (fun z86 => iteP z86 (bindO (selO (nth z85.1 3) 0 3 true) (fun z87 =>
    bindO (callO B .cl (.fn 39 []) [z87, nth z85.1 2]) (fun z88 => bindO (selO (nth z85.1 4) 0 3 true) (fun z89 => bindO (callO B .cl (.fn 39 []) [z89, nth z85.1 2]) (fun z90 => bindO
    (selO (nth z85.1 3) 1 1 false) (fun z91 => bindO (selO (nth z85.1 4) 1 1 false) (fun z92 => bindO (pureO (.bin .eql .bool false (.c z91) (.c z92))) (fun z93 => bindO (callO B .cl
    (.fn 38 []) [nth z85.1 0, z88, z90, z93]) (fun z94 => bindO (pureO (.extract 0 (.c z94))) (fun z95 => bindO (pureO (.extract 1 (.c z94))) (fun z96 => bindO (pureO (.bin .neq .num
    true (.c z96) (.c (.int .i64 0)))) (fun z97 => iteP z97 (bindO (pureO (.build [.bool false, .bool false, .nilS] [])) (fun z98 => chkO (okCells z98 3) (bindO (some (.tup [.agg
    [cellP z98 0, cellP z98 1, cellP z98 2], z96], z85.2)) (fun z99 => some (.inr z99))))) (chkO (okSls 1 [z95]) (chkO (leN (addN 0 (lenL [z95])) (lenL [z95])) (chkO (andB (leN (natP
    (nth z85.1 10)) (lenL (itemsP (nth z85.1 11)))) (leN (addN (natP (nth z85.1 10)) (lenL (takeL (lenL [z95]) (dropL 0 [z95])))) 2147483648)) (bindO (pureO (.bin .add .num true (.c
    (nth z85.1 2)) (.c (.int .i64 1)))) (fun z100 => some (.inl ([nth z85.1 0, nth z85.1 1, z100, nth z85.1 3, nth z85.1 4, nth z85.1 5, nth z85.1 6, nth z85.1 7, nth z85.1 8, nth
    z85.1 9, nI (addN (natP (nth z85.1 10)) (lenL (takeL (lenL [z95]) (dropL 0 [z95])))), .sl 1 (catL (takeL (natP (nth z85.1 10)) (itemsP (nth z85.1 11))) (takeL (lenL [z95]) (dropL 0
    [z95]))) false], z85.2))))))))))))))))))) (bindO (chkO (okU (.tup [.agg [nth z85.1 8, nth z85.1 9, slO 1 1 (itemsP (nth z85.1 11)) 0 (natP (nth z85.1 10))], .int .i64 0])) (some
    (.tup [.agg [nth z85.1 8, nth z85.1 9, slO 1 1 (itemsP (nth z85.1 11)) 0 (natP (nth z85.1 10))], .int .i64 0], z85.2))) (fun z101 => some (.inr z101))))) ([x0, z84, .int .i64 0,
    x1, x2, .bool false, .bool false, .nilS, cellP z79 0, cellP z79 1, nI 0, .sl 1 [] false], e)))))) (nilO (cellP z79 2) (chkO (noUndef [x0, z81, .int .i64 0]) (loopL (fun z102 =>
    bindO (pureO (.bin .lss .num false (.c (nth z102.1 2)) (.c (nth z102.1 1)))) (fun z103 => iteP z103 (bindO (selO (nth z102.1 3) 0 3 true) (fun z104 => bindO (callO B .cl (.fn 39
    []) [z104, nth z102.1 2]) (fun z105 => bindO (selO (nth z102.1 4) 0 3 true) (fun z106 => bindO (callO B .cl (.fn 39 []) [z106, nth z102.1 2]) (fun z107 => bindO (selO (nth z102.1
    3) 1 1 false) (fun z108 => bindO (selO (nth z102.1 4) 1 1 false) (fun z109 => bindO (pureO (.bin .eql .bool false (.c z108) (.c z109))) (fun z110 => bindO (callO B .cl (.fn 38 [])
    [nth z102.1 0, z105, z107, z110]) (fun z111 => bindO (pureO (.extract 0 (.c z111))) (fun z112 => bindO (pureO (.extract 1 (.c z111))) (fun z113 => bindO (pureO (.bin .neq .num true
    (.c z113) (.c (.int .i64 0)))) (fun z114 => iteP z114 (bindO (pureO (.build [.bool false, .bool false, .nilS] [])) (fun z115 => chkO (okCells z115 3) (bindO (some (.tup [.agg
    [cellP z115 0, cellP z115 1, cellP z115 2], z113], z102.2)) (fun z116 => some (.inr z116))))) (chkO (okSls 1 [z112]) (chkO (leN (addN 0 (lenL [z112])) (lenL [z112])) (chkO (andB
    (leN (natP (nth z102.1 10)) (lenL (itemsP (nth z102.1 11)))) (leN (addN (natP (nth z102.1 10)) (lenL (takeL (lenL [z112]) (dropL 0 [z112])))) 2147483648)) (bindO (pureO (.bin .add
    .num true (.c (nth z102.1 2)) (.c (.int .i64 1)))) (fun z117 => some (.inl ([nth z102.1 0, nth z102.1 1, z117, nth z102.1 3, nth z102.1 4, nth z102.1 5, nth z102.1 6, nth z102.1 7,
    nth z102.1 8, nth z102.1 9, nI (addN (natP (nth z102.1 10)) (lenL (takeL (lenL [z112]) (dropL 0 [z112])))), .sl 1 (catL (takeL (natP (nth z102.1 10)) (itemsP (nth z102.1 11)))
    (takeL (lenL [z112]) (dropL 0 [z112]))) false], z102.2))))))))))))))))))) (bindO (chkO (okU (.tup [.agg [nth z102.1 8, nth z102.1 9, slO 1 1 (itemsP (nth z102.1 11)) 0 (natP (nth
    z102.1 10))], .int .i64 0])) (some (.tup [.agg [nth z102.1 8, nth z102.1 9, slO 1 1 (itemsP (nth z102.1 11)) 0 (natP (nth z102.1 10))], .int .i64 0], z102.2))) (fun z118 => some
    (.inr z118))))) ([x0, z81, .int .i64 0, x1, x2, .bool false, .bool false, .nilS, cellP z79 0, cellP z79 1, nI 0, .sl 1 [] false], e))))))))))))))))))))))))))))) := by kernel_rfl
theorem run17 (B : KB) {E : Type} (h : Handler E) (dep : Nat) (e : E) (x0 : PV) (x1 : PV) :
    runK (cfg0 B (fun _ => .cl)) fn17 (.cl) h dep [.cv x0, .cv x1] e =
    chkO (valO x0) (chkO (valO x1) (bindO (selO x0 0 1 false) (fun z1 => bindO (selO x1 0 1 false) (fun z2 => bindO (pureO (.bin .eql .bool false (.c z1) (.c z2))) (fun z3 => iteP z3
    (bindO (selO x0 1 1 false) (fun z4 => bindO (selO x1 1 1 false) (fun z5 => bindO (pureO (.bin .eql .bool false (.c z4) (.c z5))) (fun z6 => iteP z6 (bindO (selO x0 2 1 false) (fun
    z7 => bindO (selO x1 2 1 false) (fun z8 => bindO (callO B .cl (.fn 18 []) [z7, z8]) (fun z9 => some (z9, e))))) (some (.bool false, e)))))) (some (.bool false, e))))))) := by kernel_rfl
theorem run18 (B : KB) {E : Type} (h : Handler E) (dep : Nat) (e : E) (x0 : PV) (x1 : PV) :
    runK (cfg0 B (fun _ => .cl)) fn18 (.cl) h dep [.cv x0, .cv x1] e =
    bindO (pureO (.len .slice (.c x0))) (fun z1 => bindO (pureO (.len .slice (.c x1))) (fun z2 => bindO (pureO (.bin .neq .num false (.c z1) (.c z2))) (fun z3 => iteP z3 (some (.bool
    false, e)) (chkO (noUndef [x0, x1, .int .i64 0]) (loopL (fun z4 => bindO (pureO (.len .slice (.c (nth z4.1 0)))) (fun z5 => bindO (pureO (.bin .lss .num false (.c (nth z4.1 2)) (.c
    z5))) (fun z6 => iteP z6 (bindO (pureO (.idxAddr 1 (.c (nth z4.1 0)) (.c (nth z4.1 2)))) (fun z7 => bindO (pureO (.load 1 false (.c z7))) (fun z8 => bindO (pureO (.idxAddr 1 (.c
    (nth z4.1 1)) (.c (nth z4.1 2)))) (fun z9 => bindO (pureO (.load 1 false (.c z9))) (fun z10 => bindO (pureO (.bin .neq .num false (.c z8) (.c z10))) (fun z11 => iteP z11 (bindO
    (some (.bool false, z4.2)) (fun z12 => some (.inr z12))) (bindO (pureO (.bin .add .num true (.c (nth z4.1 2)) (.c (.int .i64 1)))) (fun z13 => some (.inl ([nth z4.1 0, nth z4.1 1,
    z13], z4.2)))))))))) (bindO (some (.bool true, z4.2)) (fun z14 => some (.inr z14)))))) ([x0, x1, .int .i64 0], e)))))) := by kernel_rfl
theorem run21 (B : KB) {E : Type} (h : Handler E) (dep : Nat) (e : E) (x0 : PV) :
    runK (cfg0 B (fun _ => .cl)) fn21 (.cl) h dep [.cv x0] e =
    bindO (pureO (.len .slice (.c x0))) (fun z1 => chkO (noUndef [x0, z1, .int .i64 0]) (loopL (fun z2 => bindO (pureO (.bin .lss .num false (.c (nth z2.1 2)) (.c (nth z2.1 1)))) (fun
    z3 => iteP z3 (bindO (pureO (.idxAddr 3 (.c (nth z2.1 0)) (.c (nth z2.1 2)))) (fun z4 => bindO (pureO (.load 3 true (.c z4))) (fun z5 => chkO (okCells z5 3) (bindO (callO B .cl
    (.fn 12 []) [.agg [cellP z5 0, cellP z5 1, cellP z5 2]]) (fun z6 => bindO (pureO (.un .not (.c z6))) (fun z7 => iteP z7 (bindO (pureO (.build [.int .i64 0] [(0, (1, .c (.int .i64
    114)))])) (fun z8 => bindO (some (.iface 64 z8, z2.2)) (fun z9 => some (.inr z9)))) (bindO (pureO (.bin .add .num true (.c (nth z2.1 2)) (.c (.int .i64 1)))) (fun z10 => some (.inl
    ([nth z2.1 0, nth z2.1 1, z10], z2.2)))))))))) (bindO (some (.nilI, z2.2)) (fun z11 => some (.inr z11))))) ([x0, z1, .int .i64 0], e))) := by kernel_rfl
theorem run22 (B : KB) {E : Type} (h : Handler E) (dep : Nat) (e : E) (x0 : PV) :
    runK (cfg0 B (fun _ => .cl)) fn22 (.cl) h dep [.cv x0] e =
    chkO (eqN 1 1) (asP 64 x0 (fun z1 => chkO (okCells z1 1) (bindO (selO z1 0 1 false) (fun z2 => some (z2, e)))) (some (.int .i64 0, e))) := by kernel_rfl
theorem run23 (B : KB) {E : Type} (h : Handler E) (dep : Nat) (e : E) (x0 : PV) :
    runK (cfg0 B (fun _ => .cl)) fn23 (.cl) h dep [.cv x0] e =
    bindO (callO B .cl (.fn 44 []) []) (fun z1 => bindO (pureO (.lookup .str .nilF false (.c z1) (.c x0))) (fun z2 => bindO (pureO (.bin .neq .func true (.c z2) (.c .nilF))) (fun z3 =>
    some (z3, e)))) := by kernel_rfl
theorem run24 (B : KB) {E : Type} (h : Handler E) (dep : Nat) (e : E) (x0 : PV) :
    runK (cfg0 B (fun _ => .cl)) fn24 (.cl) h dep [.cv x0] e =
    chkO (valO x0) (bindO (bindO (selO x0 0 1 false) (fun z1 => iteP z1 (bindO (selO x0 3 1 false) (fun z2 => iteP z2 (bindO (selO x0 2 1 false) (fun z3 => bindO (pureO (.len .slice
    (.c z3))) (fun z4 => bindO (selO x0 5 1 false) (fun z5 => bindO (pureO (.len .slice (.c z5))) (fun z6 => bindO (pureO (.bin .neq .num false (.c z4) (.c z6))) (fun z7 => some
    z7)))))) (some (.bool false)))) (some (.bool false)))) (fun z8 => iteP z8 (bindO (pureO (.build [.int .i64 0] [(0, (1, .c (.int .i64 110)))])) (fun z9 => some (.tup [.int .i64 0,
    .iface 64 z9], e))) (bindO (selO x0 0 1 false) (fun z10 => iteP z10 (bindO (selO x0 2 1 false) (fun z11 => bindO (pureO (.len .slice (.c z11))) (fun z12 => some (.tup [z12, .nilI],
    e)))) (bindO (selO x0 5 1 false) (fun z13 => bindO (pureO (.len .slice (.c z13))) (fun z14 => some (.tup [z14, .nilI], e)))))))) := by kernel_rfl
theorem run25 (B : KB) {E : Type} (h : Handler E) (dep : Nat) (e : E) (x0 : PV) :
    runK (cfg0 B (fun _ => .cl)) fn25 (.cl) h dep [.cv x0] e =
    chkO (valO x0) (bindO (bindO (selO x0 1 1 false) (fun z1 => iteP z1 (bindO (selO x0 2 1 false) (fun z2 => bindO (pureO (.len .slice (.c z2))) (fun z3 => bindO (pureO (.bin .gtr
    .num true (.c z3) (.c (.int .i64 0)))) (fun z4 => some z4)))) (some (.bool false)))) (fun z5 => some (z5, e))) := by kernel_rfl
theorem run26 (B : KB) {E : Type} (h : Handler E) (dep : Nat) (e : E) (x0 : PV) (x1 : PV) :
    runK (cfg0 B (fun _ => .cl)) fn26 (.cl) h dep [.cv x0, .cv x1] e =
    chkO (valO x0) (chkO (valO x1) (chkO (okU (.fn 45 [ptrO (cellsP x1) 0, ptrO (cellsP x0) 0])) (some (.fn 45 [ptrO (cellsP x1) 0, ptrO (cellsP x0) 0], e)))) := by kernel_rfl
theorem run27 (B : KB) {E : Type} (h : Handler E) (dep : Nat) (e : E) (x0 : PV) (x1 : PV) (x2 : PV) :
    runK (cfg0 B (fun _ => .cl)) fn27 (.cl) h dep [.cv x0, .cv x1, .cv x2] e =
    bindO (callO B .cl (.fn 44 []) []) (fun z1 => bindO (pureO (.lookup .str .nilF true (.c z1) (.c x0))) (fun z2 => bindO (pureO (.extract 0 (.c z2))) (fun z3 => bindO (pureO
    (.extract 1 (.c z2))) (fun z4 => bindO (pureO (.un .not (.c z4))) (fun z5 => iteP z5 (bindO (pureO (.build [.str []] [(0, (1, .c x0))])) (fun z6 => bindO (callO B .cl (.fn 47 [])
    [.iface 73 z6]) (fun z7 => some (.tup [.int .i64 0, z7], e)))) (bindO (pureO (.build [.int .i64 0, .int .i64 0] [(0, (1, .c x1)), (1, (1, .c x2))])) (fun z8 => bindO (pureO (.build
    [.int .i64 0, .int .i64 0] [(0, (2, .c z8))])) (fun z9 => bindO (callO B .cl z3 [z9]) (fun z10 => bindO (pureO (.extract 0 (.c z10))) (fun z11 => bindO (pureO (.extract 1 (.c
    z10))) (fun z12 => bindO (callO B .cl (.fn 47 []) [z12]) (fun z13 => some (.tup [z11, z13], e))))))))))))) := by kernel_rfl
theorem run28 (B : KB) {E : Type} (h : Handler E) (dep : Nat) (e : E) (x0 : PV) :
    runK (cfg0 B (fun _ => .cl)) fn28 (.cl) h dep [.cv x0] e =
    bindO (callO B .cl (.fn 29 []) [x0]) (fun z1 => bindO (pureO (.un .not (.c z1))) (fun z2 => some (z2, e))) := by kernel_rfl
theorem run29 (B : KB) {E : Type} (h : Handler E) (dep : Nat) (e : E) (x0 : PV) :
    runK (cfg0 B (fun _ => .cl)) fn29 (.cl) h dep [.cv x0] e =
    bindO (bindO (pureO (.bin .geq .num true (.c x0) (.c (.int .i64 0)))) (fun z1 => iteP z1 (bindO (pureO (.bin .leq .num true (.c x0) (.c (.int .i64 1114111)))) (fun z2 => iteP z2
    (bindO (pureO (.bin .lss .num true (.c x0) (.c (.int .i64 55296)))) (fun z3 => iteP z3 (some (.bool true)) (bindO (pureO (.bin .gtr .num true (.c x0) (.c (.int .i64 57343)))) (fun
    z4 => some z4)))) (some (.bool false)))) (some (.bool false)))) (fun z5 => some (z5, e)) := by kernel_rfl
theorem run30 (B : KB) {E : Type} (h : Handler E) (dep : Nat) (e : E) (x0 : PV) (x1 : PV) :
    runK (cfg0 B (fun _ => .cl)) fn30 (.cl) h dep [.cv x0, .cv x1] e =
    bindO (callO B .cl (.fn 48 []) [x0, x1]) (fun z1 => bindO (pureO (.bin .geq .num true (.c z1) (.c (.int .i64 0)))) (fun z2 => some (z2, e))) := by kernel_rfl
theorem run32 (B : KB) {E : Type} (h : Handler E) (dep : Nat) (e : E) (x0 : PV) :
    runK (cfg0 B (fun _ => .cl)) fn32 (.cl) h dep [.cv x0] e =
    bindO (callO B .cl (.fn 49 []) []) (fun z1 => bindO (pureO (.lookup .str .nilF false (.c z1) (.c x0))) (fun z2 => bindO (pureO (.bin .neq .func true (.c z2) (.c .nilF))) (fun z3 =>
    some (z3, e)))) := by kernel_rfl
theorem run33 (B : KB) {E : Type} (h : Handler E) (dep : Nat) (e : E) (x0 : PV) (x1 : PV) :
    runK (cfg0 B (fun _ => .cl)) fn33 (.cl) h dep [.cv x0, .cv x1] e =
    bindO (callO B .cl (.fn 49 []) []) (fun z1 => bindO (pureO (.lookup .str .nilF true (.c z1) (.c x0))) (fun z2 => bindO (pureO (.extract 0 (.c z2))) (fun z3 => bindO (pureO
    (.extract 1 (.c z2))) (fun z4 => bindO (pureO (.un .not (.c z4))) (fun z5 => iteP z5 (bindO (pureO (.build [.str []] [(0, (1, .c x0))])) (fun z6 => bindO (callO B .cl (.fn 47 [])
    [.iface 73 z6]) (fun z7 => some (.tup [.int .i64 0, z7], e)))) (bindO (callO B .cl z3 [x1]) (fun z8 => bindO (pureO (.extract 0 (.c z8))) (fun z9 => bindO (pureO (.extract 1 (.c
    z8))) (fun z10 => bindO (callO B .cl (.fn 47 []) [z10]) (fun z11 => some (.tup [z9, z11], e))))))))))) := by kernel_rfl
theorem run34 (B : KB) {E : Type} (h : Handler E) (dep : Nat) (e : E) (x0 : PV) :
    runK (cfg0 B (fun _ => .cl)) fn34 (.cl) h dep [.cv x0] e =
    chkO (valO x0) (chkO (noUndef [.int .i64 0]) (loopL (fun z1 => bindO (bindO (selO (nth z1.1 1) 2 1 false) (fun z2 => bindO (pureO (.len .slice (.c z2))) (fun z3 => bindO (pureO
    (.bin .lss .num false (.c (nth z1.1 0)) (.c z3))) (fun z4 => iteP z4 (bindO (selO (nth z1.1 1) 1 1 false) (fun z5 => some z5)) (some (.bool false)))))) (fun z6 => iteP z6 (bindO
    (selO (nth z1.1 1) 2 1 false) (fun z7 => bindO (pureO (.idxAddr 1 (.c z7) (.c (nth z1.1 0)))) (fun z8 => bindO (pureO (.load 1 false (.c z8))) (fun z9 => bindO (callO B .cl (.fn 50
    []) [z9]) (fun z10 => bindO (pureO (.un .not (.c z10))) (fun z11 => iteP z11 (bindO (some (.bool false, z1.2)) (fun z12 => some (.inr z12))) (bindO (pureO (.bin .add .num true (.c
    (nth z1.1 0)) (.c (.int .i64 1)))) (fun z13 => some (.inl ([z13, nth z1.1 1], z1.2)))))))))) (bindO (bindO (bindO (selO (nth z1.1 1) 0 1 false) (fun z14 => iteP z14 (bindO (selO
    (nth z1.1 1) 2 1 false) (fun z15 => bindO (pureO (.len .slice (.c z15))) (fun z16 => bindO (pureO (.bin .leq .num true (.c z16) (.c (.int .i64 200)))) (fun z17 => iteP z17 (some
    (.bool true)) (bindO (selO (nth z1.1 1) 0 1 false) (fun z18 => bindO (pureO (.un .not (.c z18))) (fun z19 => iteP z19 (bindO (selO (nth z1.1 1) 2 1 false) (fun z20 => bindO (pureO
    (.len .slice (.c z20))) (fun z21 => bindO (pureO (.bin .eql .num true (.c z21) (.c (.int .i64 1)))) (fun z22 => some z22)))) (some (.bool false))))))))) (bindO (selO (nth z1.1 1) 0
    1 false) (fun z23 => bindO (pureO (.un .not (.c z23))) (fun z24 => iteP z24 (bindO (selO (nth z1.1 1) 2 1 false) (fun z25 => bindO (pureO (.len .slice (.c z25))) (fun z26 => bindO
    (pureO (.bin .eql .num true (.c z26) (.c (.int .i64 1)))) (fun z27 => some z27)))) (some (.bool false))))))) (fun z28 => some (z28, z1.2))) (fun z29 => some (.inr z29))))) ([.int
    .i64 0, x0], e))) := by kernel_rfl
theorem run35 (B : KB) {E : Type} (h : Handler E) (dep : Nat) (e : E) (x0 : PV) :
    runK (cfg0 B (fun _ => .cl)) fn35 (.cl) h dep [.cv x0] e =
    chkO (okSls 1 [.str [43], .str [45], .str [195, 151], .str [195, 183], .str [226, 140, 136], .str [226, 140, 138], .str [124], .str [126]]) (bindO (lendO B .cl true 51 [slO 1 1
    [.str [43], .str [45], .str [195, 151], .str [195, 183], .str [226, 140, 136], .str [226, 140, 138], .str [124], .str [126]] 0 (lenL [.str [43], .str [45], .str [195, 151], .str
    [195, 183], .str [226, 140, 136], .str [226, 140, 138], .str [124], .str [126]]), x0]) (fun z1 => some (z1, e))) := by kernel_rfl
theorem run36 (B : KB) {E : Type} (h : Handler E) (dep : Nat) (e : E) (x0 : PV) (x1 : PV) :
    runK (cfg0 B (fun _ => .cl)) fn36 (.cl) h dep [.cv x0, .cv x1] e =
    bindO (callO B .cl (.fn 35 []) [x0]) (fun z1 => bindO (pureO (.un .not (.c z1))) (fun z2 => iteP z2 (some (.tup [.int .i64 0, .int .i64 102], e)) (bindO (pureO (.bin .eql .str true
    (.c x0) (.c (.str [126])))) (fun z3 => iteP z3 (bindO (pureO (.bin .neq .num true (.c x1) (.c (.int .i64 0)))) (fun z4 => iteP z4 (bindO (pureO (.bin .neq .num true (.c x1) (.c
    (.int .i64 1)))) (fun z5 => iteP z5 (some (.tup [.int .i64 0, .int .i64 102], e)) (bindO (pureO (.bin .eql .str true (.c x0) (.c (.str [45])))) (fun z6 => iteP z6 (bindO (callO B
    .cl (.fn 52 []) [.int .i64 0, x1]) (fun z7 => bindO (pureO (.extract 0 (.c z7))) (fun z8 => bindO (pureO (.extract 1 (.c z7))) (fun z9 => some (.tup [z8, z9], e))))) (bindO (pureO
    (.bin .eql .str true (.c x0) (.c (.str [195, 151])))) (fun z10 => iteP z10 (bindO (pureO (.bin .gtr .num true (.c x1) (.c (.int .i64 0)))) (fun z11 => bindO (callO B .cl (.fn 53
    []) [z11]) (fun z12 => bindO (pureO (.bin .lss .num true (.c x1) (.c (.int .i64 0)))) (fun z13 => bindO (callO B .cl (.fn 53 []) [z13]) (fun z14 => bindO (pureO (.bin .sub .num
    false (.c z12) (.c z14))) (fun z15 => some (.tup [z15, .int .i64 0], e))))))) (bindO (pureO (.bin .eql .str true (.c x0) (.c (.str [195, 183])))) (fun z16 => iteP z16 (bindO (callO
    B .cl (.fn 54 []) [.int .i64 1, x1]) (fun z17 => bindO (pureO (.extract 0 (.c z17))) (fun z18 => bindO (pureO (.extract 1 (.c z17))) (fun z19 => some (.tup [z18, z19], e)))))
    (bindO (pureO (.bin .eql .str true (.c x0) (.c (.str [124])))) (fun z20 => iteP z20 (bindO (pureO (.bin .lss .num true (.c x1) (.c (.int .i64 0)))) (fun z21 => iteP z21 (bindO
    (callO B .cl (.fn 52 []) [.int .i64 0, x1]) (fun z22 => bindO (pureO (.extract 0 (.c z22))) (fun z23 => bindO (pureO (.extract 1 (.c z22))) (fun z24 => some (.tup [z23, z24],
    e))))) (some (.tup [x1, .int .i64 0], e)))) (bindO (pureO (.bin .eql .str true (.c x0) (.c (.str [126])))) (fun z25 => iteP z25 (bindO (pureO (.bin .sub .num true (.c (.int .i64
    1)) (.c x1))) (fun z26 => some (.tup [z26, .int .i64 0], e))) (some (.tup [x1, .int .i64 0], e)))))))))))))) (bindO (pureO (.bin .eql .str true (.c x0) (.c (.str [45])))) (fun z27
    => iteP z27 (bindO (callO B .cl (.fn 52 []) [.int .i64 0, x1]) (fun z28 => bindO (pureO (.extract 0 (.c z28))) (fun z29 => bindO (pureO (.extract 1 (.c z28))) (fun z30 => some
    (.tup [z29, z30], e))))) (bindO (pureO (.bin .eql .str true (.c x0) (.c (.str [195, 151])))) (fun z31 => iteP z31 (bindO (pureO (.bin .gtr .num true (.c x1) (.c (.int .i64 0))))
    (fun z32 => bindO (callO B .cl (.fn 53 []) [z32]) (fun z33 => bindO (pureO (.bin .lss .num true (.c x1) (.c (.int .i64 0)))) (fun z34 => bindO (callO B .cl (.fn 53 []) [z34]) (fun
    z35 => bindO (pureO (.bin .sub .num false (.c z33) (.c z35))) (fun z36 => some (.tup [z36, .int .i64 0], e))))))) (bindO (pureO (.bin .eql .str true (.c x0) (.c (.str [195,
    183])))) (fun z37 => iteP z37 (bindO (callO B .cl (.fn 54 []) [.int .i64 1, x1]) (fun z38 => bindO (pureO (.extract 0 (.c z38))) (fun z39 => bindO (pureO (.extract 1 (.c z38)))
    (fun z40 => some (.tup [z39, z40], e))))) (bindO (pureO (.bin .eql .str true (.c x0) (.c (.str [124])))) (fun z41 => iteP z41 (bindO (pureO (.bin .lss .num true (.c x1) (.c (.int
    .i64 0)))) (fun z42 => iteP z42 (bindO (callO B .cl (.fn 52 []) [.int .i64 0, x1]) (fun z43 => bindO (pureO (.extract 0 (.c z43))) (fun z44 => bindO (pureO (.extract 1 (.c z43)))
    (fun z45 => some (.tup [z44, z45], e))))) (some (.tup [x1, .int .i64 0], e)))) (bindO (pureO (.bin .eql .str true (.c x0) (.c (.str [126])))) (fun z46 => iteP z46 (bindO (pureO
    (.bin .sub .num true (.c (.int .i64 1)) (.c x1))) (fun z47 => some (.tup [z47, .int .i64 0], e))) (some (.tup [x1, .int .i64 0], e)))))))))))))) (bindO (pureO (.bin .eql .str true
    (.c x0) (.c (.str [45])))) (fun z48 => iteP z48 (bindO (callO B .cl (.fn 52 []) [.int .i64 0, x1]) (fun z49 => bindO (pureO (.extract 0 (.c z49))) (fun z50 => bindO (pureO
    (.extract 1 (.c z49))) (fun z51 => some (.tup [z50, z51], e))))) (bindO (pureO (.bin .eql .str true (.c x0) (.c (.str [195, 151])))) (fun z52 => iteP z52 (bindO (pureO (.bin .gtr
    .num true (.c x1) (.c (.int .i64 0)))) (fun z53 => bindO (callO B .cl (.fn 53 []) [z53]) (fun z54 => bindO (pureO (.bin .lss .num true (.c x1) (.c (.int .i64 0)))) (fun z55 =>
    bindO (callO B .cl (.fn 53 []) [z55]) (fun z56 => bindO (pureO (.bin .sub .num false (.c z54) (.c z56))) (fun z57 => some (.tup [z57, .int .i64 0], e))))))) (bindO (pureO (.bin
    .eql .str true (.c x0) (.c (.str [195, 183])))) (fun z58 => iteP z58 (bindO (callO B .cl (.fn 54 []) [.int .i64 1, x1]) (fun z59 => bindO (pureO (.extract 0 (.c z59))) (fun z60 =>
    bindO (pureO (.extract 1 (.c z59))) (fun z61 => some (.tup [z60, z61], e))))) (bindO (pureO (.bin .eql .str true (.c x0) (.c (.str [124])))) (fun z62 => iteP z62 (bindO (pureO
    (.bin .lss .num true (.c x1) (.c (.int .i64 0)))) (fun z63 => iteP z63 (bindO (callO B .cl (.fn 52 []) [.int .i64 0, x1]) (fun z64 => bindO (pureO (.extract 0 (.c z64))) (fun z65
    => bindO (pureO (.extract 1 (.c z64))) (fun z66 => some (.tup [z65, z66], e))))) (some (.tup [x1, .int .i64 0], e)))) (bindO (pureO (.bin .eql .str true (.c x0) (.c (.str [126]))))
    (fun z67 => iteP z67 (bindO (pureO (.bin .sub .num true (.c (.int .i64 1)) (.c x1))) (fun z68 => some (.tup [z68, .int .i64 0], e))) (some (.tup [x1, .int .i64 0],
    e)))))))))))))))) := by kernel_rfl
theorem run37 (B : KB) {E : Type} (h : Handler E) (dep : Nat) (e : E) (x0 : PV) :
    runK (cfg0 B (fun _ => .cl)) fn37 (.cl) h dep [.cv x0] e =
    chkO (okSls 1 [.str [43], .str [45], .str [195, 151], .str [195, 183], .str [226, 140, 136], .str [226, 140, 138], .str [124], .str [61], .str [226, 137, 160], .str [60], .str
    [62], .str [226, 137, 164], .str [226, 137, 165], .str [226, 136, 167], .str [226, 136, 168]]) (bindO (lendO B .cl true 51 [slO 1 1 [.str [43], .str [45], .str [195, 151], .str
    [195, 183], .str [226, 140, 136], .str [226, 140, 138], .str [124], .str [61], .str [226, 137, 160], .str [60], .str [62], .str [226, 137, 164], .str [226, 137, 165], .str [226,
    136, 167], .str [226, 136, 168]] 0 (lenL [.str [43], .str [45], .str [195, 151], .str [195, 183], .str [226, 140, 136], .str [226, 140, 138], .str [124], .str [61], .str [226, 137,
    160], .str [60], .str [62], .str [226, 137, 164], .str [226, 137, 165], .str [226, 136, 167], .str [226, 136, 168]]), x0]) (fun z1 => some (z1, e))) := by kernel_rfl
theorem run38 (B : KB) {E : Type} (h : Handler E) (dep : Nat) (e : E) (x0 : PV) (x1 : PV) (x2 : PV) (x3 : PV) :
    runK (cfg0 B (fun _ => .cl)) fn38 (.cl) h dep [.cv x0, .cv x1, .cv x2, .cv x3] e =
    bindO (pureO (.un .not (.c x3))) (fun z1 => iteP z1 (bindO (callO B .cl (.fn 55 []) [x0, .int .i64 0, .int .i64 1]) (fun z2 => bindO (pureO (.extract 0 (.c z2))) (fun z3 => bindO
    (pureO (.extract 1 (.c z2))) (fun z4 => some (.tup [z3, z4], e))))) (bindO (callO B .cl (.fn 55 []) [x0, x1, x2]) (fun z5 => bindO (pureO (.extract 0 (.c z5))) (fun z6 => bindO
    (pureO (.extract 1 (.c z5))) (fun z7 => some (.tup [z6, z7], e)))))) := by kernel_rfl
theorem run39 (B : KB) {E : Type} (h : Handler E) (dep : Nat) (e : E) (x0 : PV) (x1 : PV) :
    runK (cfg0 B (fun _ => .cl)) fn39 (.cl) h dep [.cv x0, .cv x1] e =
    chkO (valO x0) (bindO (selO x0 0 1 false) (fun z1 => bindO (pureO (.un .not (.c z1))) (fun z2 => iteP z2 (bindO (selO x0 2 1 false) (fun z3 => bindO (pureO (.idxAddr 1 (.c z3) (.c
    (.int .i64 0)))) (fun z4 => bindO (pureO (.load 1 false (.c z4))) (fun z5 => some (z5, e))))) (bindO (selO x0 2 1 false) (fun z6 => bindO (pureO (.idxAddr 1 (.c z6) (.c x1))) (fun
    z7 => bindO (pureO (.load 1 false (.c z7))) (fun z8 => some (z8, e)))))))) := by kernel_rfl
theorem run45 (B : KB) {E : Type} (h : Handler E) (dep : Nat) (e : E) (x0 : Nat) (x1 : PV) (x2 : PV) :
    runK (cfg0 B (fun _ => .cl)) fn45 (.cl) h dep [.yld x0, .cv x1, .cv x2] e =
    bindO (pureO (.load 1 false (.c x1))) (fun z1 => chkO (noUndef [nI x0, x2, z1, .int .i64 0]) (loopL (fun z2 => bindO (pureO (.bin .lss .num false (.c (nth z2.1 3)) (.c (nth z2.1
    2)))) (fun z3 => iteP z3 (bindO (pureO (.fieldAddr 0 (.c (nth z2.1 1)))) (fun z4 => bindO (pureO (.load 3 true (.c z4))) (fun z5 => bindO (callO B .cl (.fn 46 []) [z5, nth z2.1 3])
    (fun z6 => bindO (pureO (.fieldAddr 3 (.c (nth z2.1 1)))) (fun z7 => bindO (pureO (.load 3 true (.c z7))) (fun z8 => bindO (callO B .cl (.fn 46 []) [z8, nth z2.1 3]) (fun z9 =>
    bindO (h (natP (nth z2.1 0)) [z6, z9] z2.2) (fun z10 => bindO (pureO (.un .not (.c (.bool z10.1)))) (fun z11 => iteP z11 (bindO (some (.tup [], z10.2)) (fun z12 => some (.inr
    z12))) (bindO (pureO (.bin .add .num true (.c (nth z2.1 3)) (.c (.int .i64 1)))) (fun z13 => some (.inl ([nI (natP (nth z2.1 0)), nth z2.1 1, nth z2.1 2, z13], z10.2)))))))))))))
    (bindO (some (.tup [], z2.2)) (fun z14 => some (.inr z14))))) ([nI x0, x2, z1, .int .i64 0], e))) := by kernel_rfl
theorem run46 (B : KB) {E : Type} (h : Handler E) (dep : Nat) (e : E) (x0 : PV) (x1 : PV) :
    runK (cfg0 B (fun _ => .cl)) fn46 (.cl) h dep [.cv x0, .cv x1] e =
    chkO (valO x0) (bindO (selO x0 0 1 false) (fun z1 => iteP z1 (bindO (selO x0 2 1 false) (fun z2 => bindO (pureO (.idxAddr 1 (.c z2) (.c x1))) (fun z3 => bindO (pureO (.load 1 false
    (.c z3))) (fun z4 => some (z4, e))))) (bindO (selO x0 2 1 false) (fun z5 => bindO (pureO (.idxAddr 1 (.c z5) (.c (.int .i64 0)))) (fun z6 => bindO (pureO (.load 1 false (.c z6)))
    (fun z7 => some (z7, e))))))) := by kernel_rfl
theorem run47 (B : KB) {E : Type} (h : Handler E) (dep : Nat) (e : E) (x0 : PV) :
    runK (cfg0 B (fun _ => .cl)) fn47 (.cl) h dep [.cv x0] e =
    bindO (pureO (.load 1 false (.c (.ptr [.glob 1 175] 0)))) (fun z1 => bindO (callO B .cl (.fn 81 []) [x0, z1]) (fun z2 => iteP z2 (some (.int .i64 100, e)) (bindO (pureO (.load 1
    false (.c (.ptr [.glob 2 175] 0)))) (fun z3 => bindO (callO B .cl (.fn 81 []) [x0, z3]) (fun z4 => iteP z4 (some (.int .i64 101, e)) (chkO (eqN 1 1) (asP 73 x0 (fun z5 => chkO
    (okCells z5 1) (some (.int .i64 102, e))) (some (.int .i64 0, e))))))))) := by kernel_rfl
theorem run48 (B : KB) {E : Type} (h : Handler E) (dep : Nat) (e : E) (x0 : PV) (x1 : PV) :
    runK (cfg0 B (fun _ => .cl)) fn48 (.cl) h dep [.cv x0, .cv x1] e =
    bindO (pureO (.len .slice (.c x0))) (fun z1 => chkO (noUndef [x0, x1, z1, .int .i64 0]) (loopL (fun z2 => bindO (pureO (.bin .lss .num false (.c (nth z2.1 3)) (.c (nth z2.1 2))))
    (fun z3 => iteP z3 (bindO (pureO (.idxAddr 1 (.c (nth z2.1 0)) (.c (nth z2.1 3)))) (fun z4 => bindO (pureO (.load 1 false (.c z4))) (fun z5 => bindO (callO B .cl (nth z2.1 1) [z5])
    (fun z6 => iteP z6 (bindO (some (nth z2.1 3, z2.2)) (fun z7 => some (.inr z7))) (bindO (pureO (.bin .add .num true (.c (nth z2.1 3)) (.c (.int .i64 1)))) (fun z8 => some (.inl
    ([nth z2.1 0, nth z2.1 1, nth z2.1 2, z8], z2.2)))))))) (bindO (some (.int .i64 (-1), z2.2)) (fun z9 => some (.inr z9))))) ([x0, x1, z1, .int .i64 0], e))) := by kernel_rfl
theorem run50 (B : KB) {E : Type} (h : Handler E) (dep : Nat) (e : E) (x0 : PV) :
    runK (cfg0 B (fun _ => .cl)) fn50 (.cl) h dep [.cv x0] e =
    bindO (bindO (pureO (.bin .geq .num true (.c x0) (.c (.int .i64 0)))) (fun z1 => iteP z1 (bindO (pureO (.bin .leq .num true (.c x0) (.c (.int .i64 1114111)))) (fun z2 => iteP z2
    (bindO (pureO (.bin .lss .num true (.c x0) (.c (.int .i64 55296)))) (fun z3 => iteP z3 (some (.bool true)) (bindO (pureO (.bin .gtr .num true (.c x0) (.c (.int .i64 57343)))) (fun
    z4 => some z4)))) (some (.bool false)))) (some (.bool false)))) (fun z5 => some (z5, e)) := by kernel_rfl
theorem run51 (B : KB) {E : Type} (h : Handler E) (dep : Nat) (e : E) (x0 : PV) (x1 : PV) :
    runK (cfg0 B (fun _ => .cl)) fn51 (.cl) h dep [.cv x0, .cv x1] e =
    chkO (noUndef [x0, x1, .int .i64 0]) (loopL (fun z1 => bindO (pureO (.len .slice (.c (nth z1.1 0)))) (fun z2 => bindO (pureO (.bin .lss .num false (.c (nth z1.1 2)) (.c z2))) (fun
    z3 => iteP z3 (bindO (pureO (.idxAddr 1 (.c (nth z1.1 0)) (.c (nth z1.1 2)))) (fun z4 => bindO (pureO (.load 1 false (.c z4))) (fun z5 => bindO (pureO (.bin .eql .str false (.c z5)
    (.c (nth z1.1 1)))) (fun z6 => iteP z6 (bindO (some (.bool true, z1.2)) (fun z7 => some (.inr z7))) (bindO (pureO (.bin .add .num true (.c (nth z1.1 2)) (.c (.int .i64 1)))) (fun
    z8 => some (.inl ([nth z1.1 0, nth z1.1 1, z8], z1.2)))))))) (bindO (some (.bool false, z1.2)) (fun z9 => some (.inr z9)))))) ([x0, x1, .int .i64 0], e)) := by kernel_rfl
theorem run52 (B : KB) {E : Type} (h : Handler E) (dep : Nat) (e : E) (x0 : PV) (x1 : PV) :
    runK (cfg0 B (fun _ => .cl)) fn52 (.cl) h dep [.cv x0, .cv x1] e =
    bindO (pureO (.bin .sub .num false (.c x0) (.c x1))) (fun z1 => bindO (bindO (pureO (.bin .geq .num true (.c x0) (.c (.int .i64 0)))) (fun z2 => iteP z2 (bindO (pureO (.bin .lss
    .num true (.c x1) (.c (.int .i64 0)))) (fun z3 => iteP z3 (bindO (pureO (.bin .lss .num true (.c z1) (.c (.int .i64 0)))) (fun z4 => iteP z4 (some (.bool true)) (bindO (pureO (.bin
    .lss .num true (.c x0) (.c (.int .i64 0)))) (fun z5 => iteP z5 (bindO (pureO (.bin .gtr .num true (.c x1) (.c (.int .i64 0)))) (fun z6 => iteP z6 (bindO (pureO (.bin .geq .num true
    (.c z1) (.c (.int .i64 0)))) (fun z7 => some z7)) (some (.bool false)))) (some (.bool false)))))) (bindO (pureO (.bin .lss .num true (.c x0) (.c (.int .i64 0)))) (fun z8 => iteP z8
    (bindO (pureO (.bin .gtr .num true (.c x1) (.c (.int .i64 0)))) (fun z9 => iteP z9 (bindO (pureO (.bin .geq .num true (.c z1) (.c (.int .i64 0)))) (fun z10 => some z10)) (some
    (.bool false)))) (some (.bool false)))))) (bindO (pureO (.bin .lss .num true (.c x0) (.c (.int .i64 0)))) (fun z11 => iteP z11 (bindO (pureO (.bin .gtr .num true (.c x1) (.c (.int
    .i64 0)))) (fun z12 => iteP z12 (bindO (pureO (.bin .geq .num true (.c z1) (.c (.int .i64 0)))) (fun z13 => some z13)) (some (.bool false)))) (some (.bool false)))))) (fun z14 =>
    iteP z14 (some (.tup [.int .i64 0, .int .i64 100], e)) (some (.tup [z1, .int .i64 0], e)))) := by kernel_rfl
theorem run53 (B : KB) {E : Type} (h : Handler E) (dep : Nat) (e : E) (x0 : PV) :
    runK (cfg0 B (fun _ => .cl)) fn53 (.cl) h dep [.cv x0] e =
    iteP x0 (some (.int .i64 1, e)) (some (.int .i64 0, e)) := by kernel_rfl
theorem run54 (B : KB) {E : Type} (h : Handler E) (dep : Nat) (e : E) (x0 : PV) (x1 : PV) :
    runK (cfg0 B (fun _ => .cl)) fn54 (.cl) h dep [.cv x0, .cv x1] e =
    bindO (bindO (pureO (.bin .eql .num true (.c x1) (.c (.int .i64 0)))) (fun z1 => iteP z1 (bindO (pureO (.bin .eql .num true (.c x0) (.c (.int .i64 0)))) (fun z2 => some z2)) (some
    (.bool false)))) (fun z3 => iteP z3 (some (.tup [.int .i64 1, .int .i64 0], e)) (bindO (pureO (.bin .eql .num true (.c x1) (.c (.int .i64 0)))) (fun z4 => iteP z4 (some (.tup [.int
    .i64 0, .int .i64 101], e)) (bindO (callO B .cl (.fn 90 []) []) (fun z5 => bindO (pureO (.bin .eql .num false (.c x0) (.c z5))) (fun z6 => iteP z6 (bindO (pureO (.bin .eql .num
    true (.c x1) (.c (.int .i64 (-1))))) (fun z7 => iteP z7 (some (.tup [.int .i64 0, .int .i64 100], e)) (bindO (pureO (.bin .rem .num false (.c x0) (.c x1))) (fun z8 => bindO (pureO
    (.bin .neq .num true (.c z8) (.c (.int .i64 0)))) (fun z9 => iteP z9 (some (.tup [.int .i64 0, .int .i64 101], e)) (bindO (pureO (.bin .quo .num false (.c x0) (.c x1))) (fun z10 =>
    some (.tup [z10, .int .i64 0], e)))))))) (bindO (pureO (.bin .rem .num false (.c x0) (.c x1))) (fun z11 => bindO (pureO (.bin .neq .num true (.c z11) (.c (.int .i64 0)))) (fun z12
    => iteP z12 (some (.tup [.int .i64 0, .int .i64 101], e)) (bindO (pureO (.bin .quo .num false (.c x0) (.c x1))) (fun z13 => some (.tup [z13, .int .i64 0], e)))))))))))) := by kernel_rfl
theorem run55 (B : KB) {E : Type} (h : Handler E) (dep : Nat) (e : E) (x0 : PV) (x1 : PV) (x2 : PV) :
    runK (cfg0 B (fun _ => .cl)) fn55 (.cl) h dep [.cv x0, .cv x1, .cv x2] e =
    bindO (callO B .cl (.fn 37 []) [x0]) (fun z1 => bindO (pureO (.un .not (.c z1))) (fun z2 => iteP z2 (some (.tup [.int .i64 0, .int .i64 102], e)) (bindO (bindO (pureO (.bin .geq
    .num true (.c x1) (.c (.int .i64 0)))) (fun z3 => iteP z3 (bindO (pureO (.bin .leq .num true (.c x1) (.c (.int .i64 1)))) (fun z4 => iteP z4 (bindO (pureO (.bin .geq .num true (.c
    x2) (.c (.int .i64 0)))) (fun z5 => iteP z5 (bindO (pureO (.bin .leq .num true (.c x2) (.c (.int .i64 1)))) (fun z6 => some z6)) (some (.bool false)))) (some (.bool false)))) (some
    (.bool false)))) (fun z7 => bindO (pureO (.bin .eql .str true (.c x0) (.c (.str [43])))) (fun z8 => iteP z8 (bindO (callO B .cl (.fn 91 []) [x1, x2]) (fun z9 => bindO (pureO
    (.extract 0 (.c z9))) (fun z10 => bindO (pureO (.extract 1 (.c z9))) (fun z11 => some (.tup [z10, z11], e))))) (bindO (pureO (.bin .eql .str true (.c x0) (.c (.str [45])))) (fun
    z12 => iteP z12 (bindO (callO B .cl (.fn 52 []) [x1, x2]) (fun z13 => bindO (pureO (.extract 0 (.c z13))) (fun z14 => bindO (pureO (.extract 1 (.c z13))) (fun z15 => some (.tup
    [z14, z15], e))))) (bindO (pureO (.bin .eql .str true (.c x0) (.c (.str [195, 151])))) (fun z16 => iteP z16 (bindO (callO B .cl (.fn 92 []) [x1, x2]) (fun z17 => bindO (pureO
    (.extract 0 (.c z17))) (fun z18 => bindO (pureO (.extract 1 (.c z17))) (fun z19 => some (.tup [z18, z19], e))))) (bindO (pureO (.bin .eql .str true (.c x0) (.c (.str [195, 183]))))
    (fun z20 => iteP z20 (bindO (callO B .cl (.fn 54 []) [x1, x2]) (fun z21 => bindO (pureO (.extract 0 (.c z21))) (fun z22 => bindO (pureO (.extract 1 (.c z21))) (fun z23 => some
    (.tup [z22, z23], e))))) (bindO (pureO (.bin .eql .str true (.c x0) (.c (.str [226, 140, 136])))) (fun z24 => iteP z24 (bindO (pureO (.minmax true [.c x1, .c x2])) (fun z25 => some
    (.tup [z25, .int .i64 0], e))) (bindO (pureO (.bin .eql .str true (.c x0) (.c (.str [226, 140, 138])))) (fun z26 => iteP z26 (bindO (pureO (.minmax false [.c x1, .c x2])) (fun z27
    => some (.tup [z27, .int .i64 0], e))) (bindO (pureO (.bin .eql .str true (.c x0) (.c (.str [124])))) (fun z28 => iteP z28 (bindO (callO B .cl (.fn 93 []) [x1, x2]) (fun z29 =>
    some (.tup [z29, .int .i64 0], e))) (bindO (pureO (.bin .eql .str true (.c x0) (.c (.str [226, 136, 167])))) (fun z30 => iteP z30 (iteP z30 (bindO (pureO (.un .not (.c z7))) (fun
    z31 => iteP z31 (some (.tup [.int .i64 0, .int .i64 102], e)) (bindO (pureO (.bin .eql .str true (.c x0) (.c (.str [226, 136, 167])))) (fun z32 => iteP z32 (bindO (pureO (.minmax
    false [.c x1, .c x2])) (fun z33 => some (.tup [z33, .int .i64 0], e))) (bindO (pureO (.minmax true [.c x1, .c x2])) (fun z34 => some (.tup [z34, .int .i64 0], e))))))) (bindO
    (callO B .cl (.fn 94 []) [x0, x1, x2]) (fun z35 => some (.tup [z35, .int .i64 0], e)))) (bindO (pureO (.bin .eql .str true (.c x0) (.c (.str [226, 136, 168])))) (fun z36 => iteP
    z36 (bindO (pureO (.un .not (.c z7))) (fun z37 => iteP z37 (some (.tup [.int .i64 0, .int .i64 102], e)) (bindO (pureO (.bin .eql .str true (.c x0) (.c (.str [226, 136, 167]))))
    (fun z38 => iteP z38 (bindO (pureO (.minmax false [.c x1, .c x2])) (fun z39 => some (.tup [z39, .int .i64 0], e))) (bindO (pureO (.minmax true [.c x1, .c x2])) (fun z40 => some
    (.tup [z40, .int .i64 0], e))))))) (bindO (callO B .cl (.fn 94 []) [x0, x1, x2]) (fun z41 => some (.tup [z41, .int .i64 0], e)))))))))))))))))))))))) := by kernel_rfl
theorem run70 (B : KB) {E : Type} (h : Handler E) (dep : Nat) (e : E) (x0 : PV) :
    runK (cfg0 B (fun _ => .cl)) fn70 (.cl) h dep [.cv x0] e =
    chkO (valO x0) (bindO (selO x0 0 1 false) (fun z1 => bindO (selO x0 1 1 false) (fun z2 => bindO (pureO (.bin .add .num false (.c z1) (.c z2))) (fun z3 => bindO (pureO (.load 1
    false (.c (.ptr [.glob 1 175] 0)))) (fun z4 => bindO (selO x0 0 1 false) (fun z5 => bindO (pureO (.bin .lss .num true (.c z5) (.c (.int .i64 0)))) (fun z6 => bindO (selO x0 1 1
    false) (fun z7 => bindO (pureO (.bin .lss .num true (.c z7) (.c (.int .i64 0)))) (fun z8 => bindO (pureO (.bin .neq .bool false (.c z6) (.c z8))) (fun z9 => iteP z9 (chkO (okSls 1
    [.bool true]) (bindO (lendO B .cl false 88 [z3, z4, slO 1 1 [.bool true] 0 (lenL [.bool true])]) (fun z10 => bindO (pureO (.extract 0 (.c z10))) (fun z11 => bindO (pureO (.extract
    1 (.c z10))) (fun z12 => some (.tup [z11, z12], e)))))) (bindO (pureO (.bin .lss .num true (.c z3) (.c (.int .i64 0)))) (fun z13 => bindO (selO x0 0 1 false) (fun z14 => bindO
    (pureO (.bin .lss .num true (.c z14) (.c (.int .i64 0)))) (fun z15 => bindO (pureO (.bin .eql .bool false (.c z13) (.c z15))) (fun z16 => chkO (okSls 1 [z16]) (bindO (lendO B .cl
    false 88 [z3, z4, slO 1 1 [z16] 0 (lenL [z16])]) (fun z17 => bindO (pureO (.extract 0 (.c z17))) (fun z18 => bindO (pureO (.extract 1 (.c z17))) (fun z19 => some (.tup [z18, z19],
    e)))))))))))))))))))) := by kernel_rfl
theorem run71 (B : KB) {E : Type} (h : Handler E) (dep : Nat) (e : E) (x0 : PV) :
    runK (cfg0 B (fun _ => .cl)) fn71 (.cl) h dep [.cv x0] e =
    chkO (valO x0) (bindO (selO x0 0 1 false) (fun z1 => bindO (selO x0 1 1 false) (fun z2 => bindO (pureO (.bin .sub .num false (.c z1) (.c z2))) (fun z3 => bindO (pureO (.load 1
    false (.c (.ptr [.glob 1 175] 0)))) (fun z4 => bindO (selO x0 0 1 false) (fun z5 => bindO (pureO (.bin .lss .num true (.c z5) (.c (.int .i64 0)))) (fun z6 => bindO (selO x0 1 1
    false) (fun z7 => bindO (pureO (.bin .lss .num true (.c z7) (.c (.int .i64 0)))) (fun z8 => bindO (pureO (.bin .eql .bool false (.c z6) (.c z8))) (fun z9 => iteP z9 (chkO (okSls 1
    [.bool true]) (bindO (lendO B .cl false 88 [z3, z4, slO 1 1 [.bool true] 0 (lenL [.bool true])]) (fun z10 => bindO (pureO (.extract 0 (.c z10))) (fun z11 => bindO (pureO (.extract
    1 (.c z10))) (fun z12 => some (.tup [z11, z12], e)))))) (bindO (pureO (.bin .lss .num true (.c z3) (.c (.int .i64 0)))) (fun z13 => bindO (selO x0 0 1 false) (fun z14 => bindO
    (pureO (.bin .lss .num true (.c z14) (.c (.int .i64 0)))) (fun z15 => bindO (pureO (.bin .eql .bool false (.c z13) (.c z15))) (fun z16 => chkO (okSls 1 [z16]) (bindO (lendO B .cl
    false 88 [z3, z4, slO 1 1 [z16] 0 (lenL [z16])]) (fun z17 => bindO (pureO (.extract 0 (.c z17))) (fun z18 => bindO (pureO (.extract 1 (.c z17))) (fun z19 => some (.tup [z18, z19],
    e)))))))))))))))))))) := by kernel_rfl
theorem run72 (B : KB) {E : Type} (h : Handler E) (dep : Nat) (e : E) (x0 : PV) :
    runK (cfg0 B (fun _ => .cl)) fn72 (.cl) h dep [.cv x0] e =
    chkO (valO x0) (bindO (selO x0 0 1 false) (fun z1 => bindO (callO B .cl (.fn 111 []) [z1]) (fun z2 => bindO (selO x0 1 1 false) (fun z3 => bindO (callO B .cl (.fn 111 []) [z3])
    (fun z4 => bindO (callO B .cl (.fn 110 []) [z2, z4]) (fun z5 => bindO (pureO (.extract 0 (.c z5))) (fun z6 => bindO (pureO (.extract 1 (.c z5))) (fun z7 => bindO (selO x0 0 1
    false) (fun z8 => bindO (pureO (.bin .lss .num true (.c z8) (.c (.int .i64 0)))) (fun z9 => bindO (selO x0 1 1 false) (fun z10 => bindO (pureO (.bin .lss .num true (.c z10) (.c
    (.int .i64 0)))) (fun z11 => bindO (pureO (.bin .neq .bool false (.c z9) (.c z11))) (fun z12 => bindO (pureO (.conv .i64 (.c z7))) (fun z13 => iteP z12 (bindO (pureO (.un .neg (.c
    z13))) (fun z14 => bindO (pureO (.load 1 false (.c (.ptr [.glob 1 175] 0)))) (fun z15 => bindO (pureO (.bin .eql .num true (.c z6) (.c (.int .u64 0)))) (fun z16 => bindO (pureO
    (.bin .leq .num true (.c z7) (.c (.int .u64 9223372036854775807)))) (fun z17 => iteP z17 (chkO (okSls 1 [z16, .bool true]) (bindO (lendO B .cl false 88 [z14, z15, slO 1 1 [z16,
    .bool true] 0 (lenL [z16, .bool true])]) (fun z18 => bindO (pureO (.extract 0 (.c z18))) (fun z19 => bindO (pureO (.extract 1 (.c z18))) (fun z20 => some (.tup [z19, z20], e))))))
    (iteP z12 (bindO (pureO (.bin .eql .num true (.c z7) (.c (.int .u64 9223372036854775808)))) (fun z21 => chkO (okSls 1 [z16, z21]) (bindO (lendO B .cl false 88 [z14, z15, slO 1 1
    [z16, z21] 0 (lenL [z16, z21])]) (fun z22 => bindO (pureO (.extract 0 (.c z22))) (fun z23 => bindO (pureO (.extract 1 (.c z22))) (fun z24 => some (.tup [z23, z24], e))))))) (chkO
    (okSls 1 [z16, .bool false]) (bindO (lendO B .cl false 88 [z14, z15, slO 1 1 [z16, .bool false] 0 (lenL [z16, .bool false])]) (fun z25 => bindO (pureO (.extract 0 (.c z25))) (fun
    z26 => bindO (pureO (.extract 1 (.c z25))) (fun z27 => some (.tup [z26, z27], e)))))))))))) (bindO (pureO (.load 1 false (.c (.ptr [.glob 1 175] 0)))) (fun z28 => bindO (pureO
    (.bin .eql .num true (.c z6) (.c (.int .u64 0)))) (fun z29 => bindO (pureO (.bin .leq .num true (.c z7) (.c (.int .u64 9223372036854775807)))) (fun z30 => iteP z30 (chkO (okSls 1
    [z29, .bool true]) (bindO (lendO B .cl false 88 [z13, z28, slO 1 1 [z29, .bool true] 0 (lenL [z29, .bool true])]) (fun z31 => bindO (pureO (.extract 0 (.c z31))) (fun z32 => bindO
    (pureO (.extract 1 (.c z31))) (fun z33 => some (.tup [z32, z33], e)))))) (iteP z12 (bindO (pureO (.bin .eql .num true (.c z7) (.c (.int .u64 9223372036854775808)))) (fun z34 =>
    chkO (okSls 1 [z29, z34]) (bindO (lendO B .cl false 88 [z13, z28, slO 1 1 [z29, z34] 0 (lenL [z29, z34])]) (fun z35 => bindO (pureO (.extract 0 (.c z35))) (fun z36 => bindO (pureO
    (.extract 1 (.c z35))) (fun z37 => some (.tup [z36, z37], e))))))) (chkO (okSls 1 [z29, .bool false]) (bindO (lendO B .cl false 88 [z13, z28, slO 1 1 [z29, .bool false] 0 (lenL
    [z29, .bool false])]) (fun z38 => bindO (pureO (.extract 0 (.c z38))) (fun z39 => bindO (pureO (.extract 1 (.c z38))) (fun z40 => some (.tup [z39, z40], e))))))))))))))))))))))))) := by kernel_rfl
theorem run73 (B : KB) {E : Type} (h : Handler E) (dep : Nat) (e : E) (x0 : PV) :
    runK (cfg0 B (fun _ => .cl)) fn73 (.cl) h dep [.cv x0] e =
    chkO (valO x0) (bindO (selO x0 1 1 false) (fun z1 => bindO (pureO (.bin .eql .num true (.c z1) (.c (.int .i64 0)))) (fun z2 => iteP z2 (bindO (pureO (.load 1 false (.c (.ptr [.glob
    2 175] 0)))) (fun z3 => bindO (selO x0 0 1 false) (fun z4 => bindO (pureO (.bin .eql .num true (.c z4) (.c (.int .i64 0)))) (fun z5 => chkO (okSls 1 [z5]) (bindO (lendO B .cl false
    88 [.int .i64 1, z3, slO 1 1 [z5] 0 (lenL [z5])]) (fun z6 => bindO (pureO (.extract 0 (.c z6))) (fun z7 => bindO (pureO (.extract 1 (.c z6))) (fun z8 => some (.tup [z7, z8],
    e))))))))) (bindO (selO x0 1 1 false) (fun z9 => bindO (pureO (.bin .eql .num true (.c z9) (.c (.int .i64 (-1))))) (fun z10 => iteP z10 (bindO (selO x0 0 1 false) (fun z11 => bindO
    (pureO (.un .neg (.c z11))) (fun z12 => bindO (pureO (.load 1 false (.c (.ptr [.glob 1 175] 0)))) (fun z13 => bindO (selO x0 0 1 false) (fun z14 => bindO (pureO (.bin .neq .num
    true (.c z14) (.c (.int .i64 (-9223372036854775808))))) (fun z15 => chkO (okSls 1 [z15]) (bindO (lendO B .cl false 88 [z12, z13, slO 1 1 [z15] 0 (lenL [z15])]) (fun z16 => bindO
    (pureO (.extract 0 (.c z16))) (fun z17 => bindO (pureO (.extract 1 (.c z16))) (fun z18 => some (.tup [z17, z18], e))))))))))) (bindO (selO x0 0 1 false) (fun z19 => bindO (selO x0
    1 1 false) (fun z20 => bindO (pureO (.bin .quo .num false (.c z19) (.c z20))) (fun z21 => bindO (pureO (.load 1 false (.c (.ptr [.glob 2 175] 0)))) (fun z22 => bindO (selO x0 0 1
    false) (fun z23 => bindO (selO x0 1 1 false) (fun z24 => bindO (pureO (.bin .rem .num false (.c z23) (.c z24))) (fun z25 => bindO (pureO (.bin .eql .num true (.c z25) (.c (.int
    .i64 0)))) (fun z26 => chkO (okSls 1 [z26]) (bindO (lendO B .cl false 88 [z21, z22, slO 1 1 [z26] 0 (lenL [z26])]) (fun z27 => bindO (pureO (.extract 0 (.c z27))) (fun z28 => bindO
    (pureO (.extract 1 (.c z27))) (fun z29 => some (.tup [z28, z29], e)))))))))))))))))))) := by kernel_rfl
theorem run74 (B : KB) {E : Type} (h : Handler E) (dep : Nat) (e : E) (x0 : PV) :
    runK (cfg0 B (fun _ => .cl)) fn74 (.cl) h dep [.cv x0] e =
    chkO (valO x0) (bindO (selO x0 0 1 false) (fun z1 => bindO (pureO (.bin .eql .num true (.c z1) (.c (.int .i64 0)))) (fun z2 => iteP z2 (bindO (selO x0 1 1 false) (fun z3 => some
    (.tup [z3, .nilI], e))) (bindO (selO x0 0 1 false) (fun z4 => bindO (pureO (.bin .eql .num true (.c z4) (.c (.int .i64 (-1))))) (fun z5 => iteP z5 (some (.tup [.int .i64 0, .nilI],
    e)) (bindO (selO x0 1 1 false) (fun z6 => bindO (selO x0 0 1 false) (fun z7 => bindO (pureO (.bin .rem .num false (.c z6) (.c z7))) (fun z8 => chkO (noUndef [z8, .int .i64 0])
    (loopL (fun z9 => bindO (pureO (.bin .lss .num true (.c (nth z9.1 1)) (.c (.int .i64 1)))) (fun z10 => iteP z10 (bindO (bindO (pureO (.bin .eql .num true (.c (nth z9.1 0)) (.c
    (.int .i64 0)))) (fun z11 => iteP z11 (some (.bool true)) (bindO (pureO (.bin .lss .num true (.c (nth z9.1 0)) (.c (.int .i64 0)))) (fun z12 => bindO (selO (nth z9.1 2) 0 1 false)
    (fun z13 => bindO (pureO (.bin .lss .num true (.c z13) (.c (.int .i64 0)))) (fun z14 => bindO (pureO (.bin .eql .bool false (.c z12) (.c z14))) (fun z15 => some z15))))))) (fun z16
    => iteP z16 (bindO (some (.tup [nth z9.1 0, .nilI], z9.2)) (fun z17 => some (.inr z17))) (bindO (selO (nth z9.1 2) 0 1 false) (fun z18 => bindO (pureO (.bin .add .num false (.c
    (nth z9.1 0)) (.c z18))) (fun z19 => bindO (pureO (.bin .add .num true (.c (nth z9.1 1)) (.c (.int .i64 1)))) (fun z20 => some (.inl ([z19, z20, nth z9.1 2], z9.2)))))))) (bindO
    (some (.tup [nth z9.1 0, .nilI], z9.2)) (fun z21 => some (.inr z21))))) ([z8, .int .i64 0, x0], e)))))))))))) := by kernel_rfl
theorem run75 (B : KB) {E : Type} (h : Handler E) (dep : Nat) (e : E) (x0 : PV) :
    runK (cfg0 B (fun _ => .cl)) fn75 (.cl) h dep [.cv x0] e =
    chkO (valO x0) (bindO (selO x0 0 1 false) (fun z1 => bindO (selO x0 1 1 false) (fun z2 => bindO (pureO (.minmax true [.c z1, .c z2])) (fun z3 => some (.tup [z3, .nilI], e))))) := by kernel_rfl
theorem run76 (B : KB) {E : Type} (h : Handler E) (dep : Nat) (e : E) (x0 : PV) :
    runK (cfg0 B (fun _ => .cl)) fn76 (.cl) h dep [.cv x0] e =
    chkO (valO x0) (bindO (selO x0 0 1 false) (fun z1 => bindO (selO x0 1 1 false) (fun z2 => bindO (pureO (.minmax false [.c z1, .c z2])) (fun z3 => some (.tup [z3, .nilI], e))))) := by kernel_rfl
theorem run77 (B : KB) {E : Type} (h : Handler E) (dep : Nat) (e : E) (x0 : PV) (x1 : PV) :
    runK (cfg0 B (fun _ => .cl)) fn77 (.cl) h dep [.cv x0, .cv x1] e =
    chkO (valO x0) (bindO (selO x0 0 2 true) (fun z1 => bindO (pureO (.load 1 false (.c x1))) (fun z2 => bindO (callO B .cl (.fn 78 []) [z1, z2]) (fun z3 => bindO (pureO (.extract 0
    (.c z3))) (fun z4 => bindO (pureO (.extract 1 (.c z3))) (fun z5 => some (.tup [z4, z5], e))))))) := by kernel_rfl
theorem run78 (B : KB) {E : Type} (h : Handler E) (dep : Nat) (e : E) (x0 : PV) (x1 : PV) :
    runK (cfg0 B (fun _ => .cl)) fn78 (.cl) h dep [.cv x0, .cv x1] e =
    chkO (valO x0) (bindO (pureO (.bin .eql .str true (.c x1) (.c (.str [226, 137, 160])))) (fun z1 => iteP z1 (bindO (selO x0 0 1 false) (fun z2 => bindO (selO x0 1 1 false) (fun z3
    => bindO (pureO (.bin .neq .num false (.c z2) (.c z3))) (fun z4 => bindO (callO B .cl (.fn 85 []) [z4]) (fun z5 => some (.tup [z5, .nilI], e)))))) (bindO (pureO (.bin .eql .str
    true (.c x1) (.c (.str [226, 137, 164])))) (fun z6 => iteP z6 (bindO (selO x0 0 1 false) (fun z7 => bindO (selO x0 1 1 false) (fun z8 => bindO (pureO (.bin .eql .num false (.c z7)
    (.c z8))) (fun z9 => bindO (callO B .cl (.fn 85 []) [z9]) (fun z10 => bindO (selO x0 0 1 false) (fun z11 => bindO (selO x0 1 1 false) (fun z12 => bindO (pureO (.bin .lss .num false
    (.c z11) (.c z12))) (fun z13 => bindO (callO B .cl (.fn 85 []) [z13]) (fun z14 => bindO (pureO (.bin .or .num false (.c z10) (.c z14))) (fun z15 => some (.tup [z15, .nilI],
    e))))))))))) (bindO (pureO (.bin .eql .str true (.c x1) (.c (.str [60])))) (fun z16 => iteP z16 (bindO (selO x0 0 1 false) (fun z17 => bindO (selO x0 1 1 false) (fun z18 => bindO
    (pureO (.bin .lss .num false (.c z17) (.c z18))) (fun z19 => bindO (callO B .cl (.fn 85 []) [z19]) (fun z20 => bindO (pureO (.bin .or .num false (.c (.int .i64 0)) (.c z20))) (fun
    z21 => some (.tup [z21, .nilI], e))))))) (bindO (pureO (.bin .eql .str true (.c x1) (.c (.str [61])))) (fun z22 => iteP z22 (iteP z22 (bindO (selO x0 0 1 false) (fun z23 => bindO
    (selO x0 1 1 false) (fun z24 => bindO (pureO (.bin .eql .num false (.c z23) (.c z24))) (fun z25 => bindO (callO B .cl (.fn 85 []) [z25]) (fun z26 => bindO (pureO (.bin .eql .str
    true (.c x1) (.c (.str [61])))) (fun z27 => iteP z27 (some (.tup [z26, .nilI], e)) (bindO (selO x0 0 1 false) (fun z28 => bindO (selO x0 1 1 false) (fun z29 => bindO (pureO (.bin
    .gtr .num false (.c z28) (.c z29))) (fun z30 => bindO (callO B .cl (.fn 85 []) [z30]) (fun z31 => bindO (pureO (.bin .or .num false (.c z26) (.c z31))) (fun z32 => some (.tup [z32,
    .nilI], e))))))))))))) (bindO (pureO (.bin .eql .str true (.c x1) (.c (.str [62])))) (fun z33 => iteP z33 (bindO (selO x0 0 1 false) (fun z34 => bindO (selO x0 1 1 false) (fun z35
    => bindO (pureO (.bin .gtr .num false (.c z34) (.c z35))) (fun z36 => bindO (callO B .cl (.fn 85 []) [z36]) (fun z37 => bindO (pureO (.bin .or .num false (.c (.int .i64 0)) (.c
    z37))) (fun z38 => some (.tup [z38, .nilI], e))))))) (some (.tup [.int .i64 0, .nilI], e))))) (bindO (pureO (.bin .eql .str true (.c x1) (.c (.str [226, 137, 165])))) (fun z39 =>
    iteP z39 (bindO (selO x0 0 1 false) (fun z40 => bindO (selO x0 1 1 false) (fun z41 => bindO (pureO (.bin .eql .num false (.c z40) (.c z41))) (fun z42 => bindO (callO B .cl (.fn 85
    []) [z42]) (fun z43 => bindO (pureO (.bin .eql .str true (.c x1) (.c (.str [61])))) (fun z44 => iteP z44 (some (.tup [z43, .nilI], e)) (bindO (selO x0 0 1 false) (fun z45 => bindO
    (selO x0 1 1 false) (fun z46 => bindO (pureO (.bin .gtr .num false (.c z45) (.c z46))) (fun z47 => bindO (callO B .cl (.fn 85 []) [z47]) (fun z48 => bindO (pureO (.bin .or .num
    false (.c z43) (.c z48))) (fun z49 => some (.tup [z49, .nilI], e))))))))))))) (bindO (pureO (.bin .eql .str true (.c x1) (.c (.str [62])))) (fun z50 => iteP z50 (bindO (selO x0 0 1
    false) (fun z51 => bindO (selO x0 1 1 false) (fun z52 => bindO (pureO (.bin .gtr .num false (.c z51) (.c z52))) (fun z53 => bindO (callO B .cl (.fn 85 []) [z53]) (fun z54 => bindO
    (pureO (.bin .or .num false (.c (.int .i64 0)) (.c z54))) (fun z55 => some (.tup [z55, .nilI], e))))))) (some (.tup [.int .i64 0, .nilI], e)))))))))))))) := by kernel_rfl
theorem run79 (B : KB) {E : Type} (h : Handler E) (dep : Nat) (e : E) (x0 : PV) (x1 : PV) :
    runK (cfg0 B (fun _ => .cl)) fn79 (.cl) h dep [.cv x0, .cv x1] e =
    chkO (valO x0) (bindO (selO x0 0 2 true) (fun z1 => bindO (pureO (.load 1 false (.c x1))) (fun z2 => bindO (callO B .cl (.fn 80 []) [z1, z2]) (fun z3 => bindO (pureO (.extract 0
    (.c z3))) (fun z4 => bindO (pureO (.extract 1 (.c z3))) (fun z5 => some (.tup [z4, z5], e))))))) := by kernel_rfl
theorem run80 (B : KB) {E : Type} (h : Handler E) (dep : Nat) (e : E) (x0 : PV) (x1 : PV) :
    runK (cfg0 B (fun _ => .cl)) fn80 (.cl) h dep [.cv x0, .cv x1] e =
    chkO (valO x0) (bindO (selO x0 0 1 false) (fun z1 => bindO (selO x0 1 1 false) (fun z2 => bindO (pureO (.bin .and .num false (.c z1) (.c z2))) (fun z3 => bindO (pureO (.bin .eql
    .str true (.c x1) (.c (.str [226, 136, 168])))) (fun z4 => iteP z4 (bindO (selO x0 0 1 false) (fun z5 => bindO (selO x0 1 1 false) (fun z6 => bindO (pureO (.bin .or .num false (.c
    z5) (.c z6))) (fun z7 => bindO (pureO (.build [.str []] [(0, (1, .c x1))])) (fun z8 => bindO (selO x0 0 1 false) (fun z9 => bindO (pureO (.bin .shr .num true (.c z9) (.c (.int .u64
    1)))) (fun z10 => bindO (pureO (.bin .eql .num true (.c z10) (.c (.int .i64 0)))) (fun z11 => bindO (selO x0 1 1 false) (fun z12 => bindO (pureO (.bin .shr .num true (.c z12) (.c
    (.int .u64 1)))) (fun z13 => bindO (pureO (.bin .eql .num true (.c z13) (.c (.int .i64 0)))) (fun z14 => chkO (okSls 1 [z11, z14]) (bindO (lendO B .cl false 88 [z7, .iface 73 z8,
    slO 1 1 [z11, z14] 0 (lenL [z11, z14])]) (fun z15 => bindO (pureO (.extract 0 (.c z15))) (fun z16 => bindO (pureO (.extract 1 (.c z15))) (fun z17 => some (.tup [z16, z17],
    e)))))))))))))))) (bindO (pureO (.build [.str []] [(0, (1, .c x1))])) (fun z18 => bindO (selO x0 0 1 false) (fun z19 => bindO (pureO (.bin .shr .num true (.c z19) (.c (.int .u64
    1)))) (fun z20 => bindO (pureO (.bin .eql .num true (.c z20) (.c (.int .i64 0)))) (fun z21 => bindO (selO x0 1 1 false) (fun z22 => bindO (pureO (.bin .shr .num true (.c z22) (.c
    (.int .u64 1)))) (fun z23 => bindO (pureO (.bin .eql .num true (.c z23) (.c (.int .i64 0)))) (fun z24 => chkO (okSls 1 [z21, z24]) (bindO (lendO B .cl false 88 [z3, .iface 73 z18,
    slO 1 1 [z21, z24] 0 (lenL [z21, z24])]) (fun z25 => bindO (pureO (.extract 0 (.c z25))) (fun z26 => bindO (pureO (.extract 1 (.c z25))) (fun z27 => some (.tup [z26, z27],
    e)))))))))))))))))) := by kernel_rfl
theorem run82 (B : KB) {E : Type} (h : Handler E) (dep : Nat) (e : E) (x0 : PV) :
    runK (cfg0 B (fun _ => .cl)) fn82 (.cl) h dep [.cv x0] e =
    some (.tup [x0, .nilI], e) := by kernel_rfl
theorem run83 (B : KB) {E : Type} (h : Handler E) (dep : Nat) (e : E) (x0 : PV) :
    runK (cfg0 B (fun _ => .cl)) fn83 (.cl) h dep [.cv x0] e =
    bindO (pureO (.build [.int .i64 0, .int .i64 0] [(0, (1, .c (.int .i64 0))), (1, (1, .c x0))])) (fun z1 => bindO (pureO (.build [.int .i64 0, .int .i64 0] [(0, (2, .c z1))])) (fun
    z2 => bindO (callO B .cl (.fn 71 []) [z2]) (fun z3 => bindO (pureO (.extract 0 (.c z3))) (fun z4 => bindO (pureO (.extract 1 (.c z3))) (fun z5 => some (.tup [z4, z5], e)))))) := by kernel_rfl
theorem run84 (B : KB) {E : Type} (h : Handler E) (dep : Nat) (e : E) (x0 : PV) :
    runK (cfg0 B (fun _ => .cl)) fn84 (.cl) h dep [.cv x0] e =
    bindO (pureO (.bin .gtr .num true (.c x0) (.c (.int .i64 0)))) (fun z1 => bindO (callO B .cl (.fn 85 []) [z1]) (fun z2 => bindO (pureO (.bin .lss .num true (.c x0) (.c (.int .i64
    0)))) (fun z3 => bindO (callO B .cl (.fn 85 []) [z3]) (fun z4 => bindO (pureO (.bin .sub .num false (.c z2) (.c z4))) (fun z5 => some (.tup [z5, .nilI], e)))))) := by kernel_rfl
theorem run85 (B : KB) {E : Type} (h : Handler E) (dep : Nat) (e : E) (x0 : PV) :
    runK (cfg0 B (fun _ => .cl)) fn85 (.cl) h dep [.cv x0] e =
    iteP x0 (some (.int .i64 1, e)) (some (.int .i64 0, e)) := by kernel_rfl
theorem run86 (B : KB) {E : Type} (h : Handler E) (dep : Nat) (e : E) (x0 : PV) :
    runK (cfg0 B (fun _ => .cl)) fn86 (.cl) h dep [.cv x0] e =
    bindO (pureO (.build [.int .i64 0, .int .i64 0] [(0, (1, .c (.int .i64 1))), (1, (1, .c x0))])) (fun z1 => bindO (pureO (.build [.int .i64 0, .int .i64 0] [(0, (2, .c z1))])) (fun
    z2 => bindO (callO B .cl (.fn 73 []) [z2]) (fun z3 => bindO (pureO (.extract 0 (.c z3))) (fun z4 => bindO (pureO (.extract 1 (.c z3))) (fun z5 => some (.tup [z4, z5], e)))))) := by kernel_rfl
theorem run87 (B : KB) {E : Type} (h : Handler E) (dep : Nat) (e : E) (x0 : PV) :
    runK (cfg0 B (fun _ => .cl)) fn87 (.cl) h dep [.cv x0] e =
    bindO (pureO (.bin .sub .num true (.c (.int .i64 1)) (.c x0))) (fun z1 => bindO (pureO (.build [.str []] [(0, (1, .c (.str [126])))])) (fun z2 => bindO (pureO (.bin .eql .num true
    (.c x0) (.c (.int .i64 0)))) (fun z3 => iteP z3 (chkO (okSls 1 [.bool true]) (bindO (lendO B .cl false 88 [z1, .iface 73 z2, slO 1 1 [.bool true] 0 (lenL [.bool true])]) (fun z4 =>
    bindO (pureO (.extract 0 (.c z4))) (fun z5 => bindO (pureO (.extract 1 (.c z4))) (fun z6 => some (.tup [z5, z6], e)))))) (bindO (pureO (.bin .eql .num true (.c x0) (.c (.int .i64
    1)))) (fun z7 => chkO (okSls 1 [z7]) (bindO (lendO B .cl false 88 [z1, .iface 73 z2, slO 1 1 [z7] 0 (lenL [z7])]) (fun z8 => bindO (pureO (.extract 0 (.c z8))) (fun z9 => bindO
    (pureO (.extract 1 (.c z8))) (fun z10 => some (.tup [z9, z10], e)))))))))) := by kernel_rfl
theorem run88 (B : KB) {E : Type} (h : Handler E) (dep : Nat) (e : E) (x0 : PV) (x1 : PV) (x2 : PV) :
    runK (cfg0 B (fun _ => .cl)) fn88 (.cl) h dep [.cv x0, .cv x1, .cv x2] e =
    bindO (pureO (.len .slice (.c x2))) (fun z1 => chkO (noUndef [x0, x1, x2, z1, .int .i64 0]) (loopL (fun z2 => bindO (pureO (.bin .lss .num false (.c (nth z2.1 4)) (.c (nth z2.1
    3)))) (fun z3 => iteP z3 (bindO (pureO (.idxAddr 1 (.c (nth z2.1 2)) (.c (nth z2.1 4)))) (fun z4 => bindO (pureO (.load 1 false (.c z4))) (fun z5 => bindO (pureO (.un .not (.c
    z5))) (fun z6 => iteP z6 (bindO (some (.tup [.int .i64 0, nth z2.1 1], z2.2)) (fun z7 => some (.inr z7))) (bindO (pureO (.bin .add .num true (.c (nth z2.1 4)) (.c (.int .i64 1))))
    (fun z8 => some (.inl ([nth z2.1 0, nth z2.1 1, nth z2.1 2, nth z2.1 3, z8], z2.2)))))))) (bindO (some (.tup [nth z2.1 0, .nilI], z2.2)) (fun z9 => some (.inr z9))))) ([x0, x1, x2,
    z1, .int .i64 0], e))) := by kernel_rfl
theorem run89 (B : KB) {E : Type} (h : Handler E) (dep : Nat) (e : E) (x0 : PV) (x1 : PV) :
    runK (cfg0 B (fun _ => .cl)) fn89 (.cl) h dep [.cv x0, .cv x1] e =
    bindO (pureO (.bin .lss .num true (.c x0) (.c (.int .i64 0)))) (fun z1 => iteP z1 (bindO (pureO (.load 1 false (.c x1))) (fun z2 => bindO (callO B .cl z2 [x0]) (fun z3 => bindO
    (pureO (.extract 0 (.c z3))) (fun z4 => bindO (pureO (.extract 1 (.c z3))) (fun z5 => some (.tup [z4, z5], e)))))) (some (.tup [x0, .nilI], e))) := by kernel_rfl
theorem run90 (B : KB) {E : Type} (h : Handler E) (dep : Nat) (e : E)  :
    runK (cfg0 B (fun _ => .cl)) fn90 (.cl) h dep [] e =
    some (.int .i64 (-9223372036854775808), e) := by kernel_rfl
theorem run91 (B : KB) {E : Type} (h : Handler E) (dep : Nat) (e : E) (x0 : PV) (x1 : PV) :
    runK (cfg0 B (fun _ => .cl)) fn91 (.cl) h dep [.cv x0, .cv x1] e =
    bindO (pureO (.bin .add .num false (.c x0) (.c x1))) (fun z1 => bindO (bindO (pureO (.bin .gtr .num true (.c x0) (.c (.int .i64 0)))) (fun z2 => iteP z2 (bindO (pureO (.bin .gtr
    .num true (.c x1) (.c (.int .i64 0)))) (fun z3 => iteP z3 (bindO (pureO (.bin .lss .num true (.c z1) (.c (.int .i64 0)))) (fun z4 => iteP z4 (some (.bool true)) (bindO (pureO (.bin
    .lss .num true (.c x0) (.c (.int .i64 0)))) (fun z5 => iteP z5 (bindO (pureO (.bin .lss .num true (.c x1) (.c (.int .i64 0)))) (fun z6 => iteP z6 (bindO (pureO (.bin .geq .num true
    (.c z1) (.c (.int .i64 0)))) (fun z7 => some z7)) (some (.bool false)))) (some (.bool false)))))) (bindO (pureO (.bin .lss .num true (.c x0) (.c (.int .i64 0)))) (fun z8 => iteP z8
    (bindO (pureO (.bin .lss .num true (.c x1) (.c (.int .i64 0)))) (fun z9 => iteP z9 (bindO (pureO (.bin .geq .num true (.c z1) (.c (.int .i64 0)))) (fun z10 => some z10)) (some
    (.bool false)))) (some (.bool false)))))) (bindO (pureO (.bin .lss .num true (.c x0) (.c (.int .i64 0)))) (fun z11 => iteP z11 (bindO (pureO (.bin .lss .num true (.c x1) (.c (.int
    .i64 0)))) (fun z12 => iteP z12 (bindO (pureO (.bin .geq .num true (.c z1) (.c (.int .i64 0)))) (fun z13 => some z13)) (some (.bool false)))) (some (.bool false)))))) (fun z14 =>
    iteP z14 (some (.tup [.int .i64 0, .int .i64 100], e)) (some (.tup [z1, .int .i64 0], e)))) := by kernel_rfl
theorem run92 (B : KB) {E : Type} (h : Handler E) (dep : Nat) (e : E) (x0 : PV) (x1 : PV) :
    runK (cfg0 B (fun _ => .cl)) fn92 (.cl) h dep [.cv x0, .cv x1] e =
    bindO (bindO (pureO (.bin .eql .num true (.c x0) (.c (.int .i64 0)))) (fun z1 => iteP z1 (some (.bool true)) (bindO (pureO (.bin .eql .num true (.c x1) (.c (.int .i64 0)))) (fun z2
    => some z2)))) (fun z3 => iteP z3 (some (.tup [.int .i64 0, .int .i64 0], e)) (bindO (callO B .cl (.fn 90 []) []) (fun z4 => bindO (pureO (.bin .eql .num false (.c x0) (.c z4)))
    (fun z5 => iteP z5 (bindO (pureO (.bin .eql .num true (.c x1) (.c (.int .i64 (-1))))) (fun z6 => iteP z6 (some (.tup [.int .i64 0, .int .i64 100], e)) (bindO (callO B .cl (.fn 90
    []) []) (fun z7 => bindO (pureO (.bin .eql .num false (.c x1) (.c z7))) (fun z8 => iteP z8 (bindO (pureO (.bin .eql .num true (.c x0) (.c (.int .i64 (-1))))) (fun z9 => iteP z9
    (some (.tup [.int .i64 0, .int .i64 100], e)) (bindO (pureO (.bin .mul .num false (.c x0) (.c x1))) (fun z10 => bindO (pureO (.bin .quo .num false (.c z10) (.c x1))) (fun z11 =>
    bindO (pureO (.bin .neq .num false (.c z11) (.c x0))) (fun z12 => iteP z12 (some (.tup [.int .i64 0, .int .i64 100], e)) (some (.tup [z10, .int .i64 0], e)))))))) (bindO (pureO
    (.bin .mul .num false (.c x0) (.c x1))) (fun z13 => bindO (pureO (.bin .quo .num false (.c z13) (.c x1))) (fun z14 => bindO (pureO (.bin .neq .num false (.c z14) (.c x0))) (fun z15
    => iteP z15 (some (.tup [.int .i64 0, .int .i64 100], e)) (some (.tup [z13, .int .i64 0], e))))))))))) (bindO (callO B .cl (.fn 90 []) []) (fun z16 => bindO (pureO (.bin .eql .num
    false (.c x1) (.c z16))) (fun z17 => iteP z17 (bindO (pureO (.bin .eql .num true (.c x0) (.c (.int .i64 (-1))))) (fun z18 => iteP z18 (some (.tup [.int .i64 0, .int .i64 100], e))
    (bindO (pureO (.bin .mul .num false (.c x0) (.c x1))) (fun z19 => bindO (pureO (.bin .quo .num false (.c z19) (.c x1))) (fun z20 => bindO (pureO (.bin .neq .num false (.c z20) (.c
    x0))) (fun z21 => iteP z21 (some (.tup [.int .i64 0, .int .i64 100], e)) (some (.tup [z19, .int .i64 0], e)))))))) (bindO (pureO (.bin .mul .num false (.c x0) (.c x1))) (fun z22 =>
    bindO (pureO (.bin .quo .num false (.c z22) (.c x1))) (fun z23 => bindO (pureO (.bin .neq .num false (.c z23) (.c x0))) (fun z24 => iteP z24 (some (.tup [.int .i64 0, .int .i64
    100], e)) (some (.tup [z22, .int .i64 0], e))))))))))))) := by kernel_rfl
theorem run93 (B : KB) {E : Type} (h : Handler E) (dep : Nat) (e : E) (x0 : PV) (x1 : PV) :
    runK (cfg0 B (fun _ => .cl)) fn93 (.cl) h dep [.cv x0, .cv x1] e =
    bindO (pureO (.bin .eql .num true (.c x0) (.c (.int .i64 0)))) (fun z1 => iteP z1 (some (x1, e)) (bindO (pureO (.bin .eql .num true (.c x0) (.c (.int .i64 (-1))))) (fun z2 => iteP
    z2 (some (.int .i64 0, e)) (bindO (pureO (.bin .rem .num false (.c x1) (.c x0))) (fun z3 => bindO (bindO (pureO (.bin .neq .num true (.c z3) (.c (.int .i64 0)))) (fun z4 => iteP z4
    (bindO (pureO (.bin .lss .num true (.c z3) (.c (.int .i64 0)))) (fun z5 => bindO (pureO (.bin .lss .num true (.c x0) (.c (.int .i64 0)))) (fun z6 => bindO (pureO (.bin .neq .bool
    false (.c z5) (.c z6))) (fun z7 => some z7)))) (some (.bool false)))) (fun z8 => iteP z8 (bindO (pureO (.bin .add .num false (.c z3) (.c x0))) (fun z9 => some (z9, e))) (some (z3,
    e)))))))) := by kernel_rfl
theorem run94 (B : KB) {E : Type} (h : Handler E) (dep : Nat) (e : E) (x0 : PV) (x1 : PV) (x2 : PV) :
    runK (cfg0 B (fun _ => .cl)) fn94 (.cl) h dep [.cv x0, .cv x1, .cv x2] e =
    bindO (pureO (.bin .eql .str true (.c x0) (.c (.str [61])))) (fun z1 => iteP z1 (bindO (pureO (.bin .eql .num false (.c x1) (.c x2))) (fun z2 => bindO (callO B .cl (.fn 53 [])
    [z2]) (fun z3 => some (z3, e)))) (bindO (pureO (.bin .eql .str true (.c x0) (.c (.str [226, 137, 160])))) (fun z4 => iteP z4 (bindO (pureO (.bin .neq .num false (.c x1) (.c x2)))
    (fun z5 => bindO (callO B .cl (.fn 53 []) [z5]) (fun z6 => some (z6, e)))) (bindO (pureO (.bin .eql .str true (.c x0) (.c (.str [60])))) (fun z7 => iteP z7 (bindO (pureO (.bin .lss
    .num false (.c x1) (.c x2))) (fun z8 => bindO (callO B .cl (.fn 53 []) [z8]) (fun z9 => some (z9, e)))) (bindO (pureO (.bin .eql .str true (.c x0) (.c (.str [62])))) (fun z10 =>
    iteP z10 (bindO (pureO (.bin .gtr .num false (.c x1) (.c x2))) (fun z11 => bindO (callO B .cl (.fn 53 []) [z11]) (fun z12 => some (z12, e)))) (bindO (pureO (.bin .eql .str true (.c
    x0) (.c (.str [226, 137, 164])))) (fun z13 => iteP z13 (bindO (pureO (.bin .leq .num false (.c x1) (.c x2))) (fun z14 => bindO (callO B .cl (.fn 53 []) [z14]) (fun z15 => some
    (z15, e)))) (bindO (pureO (.bin .geq .num false (.c x1) (.c x2))) (fun z16 => bindO (callO B .cl (.fn 53 []) [z16]) (fun z17 => some (z17, e))))))))))))) := by kernel_rfl
theorem run110 (B : KB) {E : Type} (h : Handler E) (dep : Nat) (e : E) (x0 : PV) (x1 : PV) :
    runK (cfg0 B (fun _ => .cl)) fn110 (.cl) h dep [.cv x0, .cv x1] e =
    bindO (pureO (.bin .and .num true (.c x0) (.c (.int .u64 4294967295)))) (fun z1 => bindO (pureO (.bin .shr .num true (.c x0) (.c (.int .u64 32)))) (fun z2 => bindO (pureO (.bin
    .and .num true (.c x1) (.c (.int .u64 4294967295)))) (fun z3 => bindO (pureO (.bin .shr .num true (.c x1) (.c (.int .u64 32)))) (fun z4 => bindO (pureO (.bin .mul .num false (.c
    z1) (.c z3))) (fun z5 => bindO (pureO (.bin .mul .num false (.c z2) (.c z3))) (fun z6 => bindO (pureO (.bin .shr .num true (.c z5) (.c (.int .u64 32)))) (fun z7 => bindO (pureO
    (.bin .add .num false (.c z6) (.c z7))) (fun z8 => bindO (pureO (.bin .and .num true (.c z8) (.c (.int .u64 4294967295)))) (fun z9 => bindO (pureO (.bin .shr .num true (.c z8) (.c
    (.int .u64 32)))) (fun z10 => bindO (pureO (.bin .mul .num false (.c z1) (.c z4))) (fun z11 => bindO (pureO (.bin .add .num false (.c z9) (.c z11))) (fun z12 => bindO (pureO (.bin
    .mul .num false (.c z2) (.c z4))) (fun z13 => bindO (pureO (.bin .add .num false (.c z13) (.c z10))) (fun z14 => bindO (pureO (.bin .shr .num true (.c z12) (.c (.int .u64 32))))
    (fun z15 => bindO (pureO (.bin .add .num false (.c z14) (.c z15))) (fun z16 => bindO (pureO (.bin .mul .num false (.c x0) (.c x1))) (fun z17 => some (.tup [z16, z17],
    e)))))))))))))))))) := by kernel_rfl
theorem run111 (B : KB) {E : Type} (h : Handler E) (dep : Nat) (e : E) (x0 : PV) :
    runK (cfg0 B (fun _ => .cl)) fn111 (.cl) h dep [.cv x0] e =
    bindO (pureO (.bin .lss .num true (.c x0) (.c (.int .i64 0)))) (fun z1 => iteP z1 (bindO (pureO (.conv .u64 (.c x0))) (fun z2 => bindO (pureO (.un .neg (.c z2))) (fun z3 => some
    (z3, e)))) (bindO (pureO (.conv .u64 (.c x0))) (fun z4 => some (z4, e)))) := by kernel_rfl
end Go.Ab

