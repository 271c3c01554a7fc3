/-
  Part 4 of a proof: a machine of our own for the given program, its laws, and what it says of the program. Nothing here is a claim by itself.
-/
import Derived.Test.YtcjjjgodkgacmaaDoorK03
import Derived.Test.YtcjjjgodkgacmaaDoorK02
import Derived.Test.YtcjjjgodkgacmaaDoorProg
import Derived.Test.YtcjjjgodkgacmaaDoorK01
import Derived.KernelRfl
import Derived.Lib.Bytealg
import Derived.IntWalk
import Derived.Shelf.Unicode.DecodeSlow
import Derived.Shelf.Abstract
import Derived.Shelf.Unicode.DecodeAny
import Derived.Lib.Strings
import Derived.Lib.Slices
import Derived.Lib.Walk
import Derived.WalkKit
import Derived.LaidEql
import Derived.Stop.Asserts
import Derived.RowKitTokens
set_option linter.all false

/-
  Functions: what 'runK' tells, 'evalFn' tells, once there is enough fuel.
-/
namespace Go.Ab
variable {cfg : KCfg} {tab : FuncId → Option RFn} {ks : KSt}

theorem kresV_ok {R : Type} {r : R} (h : ks.Ok) {x : RRes} {K : KV → Option R} (hr : kresV ks x K = some r) : ∃ v, K v = some r ∧ v.ok ∧ resV ks.st x = some v.pv := by
  have hget : ∀ t, ks.st.tmps.getD t .undef = (spGet ks.tmps t).pv := fun t => dense_getD h.tm t
  have lk := st_look h
  cases x with
  | tmp t => exact ⟨_, hr, h.tm.get_ok t, by simp only [resV, hget]⟩
  | cell t n ag =>
    simp only [kresV] at hr
    split at hr
    · rename_i nm o hv
      split at hr
      · rename_i cs hl
        have hcs : okKL cs := klook_ok h.ob hl
        split at hr
        · rename_i hag
          split at hr
          · rename_i hle
            refine ⟨_, hr, okKL_take (okKL_drop hcs _) _, ?_⟩
            simp only [resV, hget, hv, KV.pv, lk, hl, Option.map_some, KOb.ob, sel, hag, if_true, chk, pvL_length, hle, decide_true, pvL_take, pvL_drop]
          · cases hr
        · rename_i hag
          split at hr
          · rename_i c hc
            refine ⟨_, hr, okKL_mem.1 hcs c (List.mem_of_getElem? hc), ?_⟩
            simp only [resV, hget, hv, KV.pv, lk, hl, Option.map_some, KOb.ob, sel, hag, pvL_get?, hc]
            rfl
          · cases hr
      · rename_i w hl
        obtain ⟨z, hz, hr⟩ := bindO_some hr
        have hw : okV w = true := klook_ok h.ob hl
        unfold selO at hz
        refine ⟨_, hr, okV_sel (okV_cells hw) hz, ?_⟩
        simp only [resV, hget, hv, KV.pv, lk, hl, Option.map_some, KOb.ob, cellsP, hz]
      · cases hr
    · cases hr

theorem kresVs_ok {R : Type} {r : R} (h : ks.Ok) : ∀ (l : List RRes) {K : List KV → Option R}, kresVs ks l K = some r → ∃ vs, K vs = some r ∧ okKL vs ∧ resVs ks.st l = some (pvL vs) := by
  intro l
  induction l with
  | nil => intro K hr; exact ⟨[], hr, trivial, rfl⟩
  | cons x l ih =>
    intro K hr
    simp only [kresVs] at hr
    obtain ⟨v, hr, hv, h1⟩ := kresV_ok h hr
    obtain ⟨vs, hr, hvs, h2⟩ := ih hr
    exact ⟨v :: vs, hr, ⟨hv, hvs⟩, by simp only [resVs, h1, h2, pvL]⟩

theorem koneOf_ok {vs : List KV} (h : okKL vs) : (koneOf vs).ok ∧ (koneOf vs).pv = oneOf (pvL vs) := by
  match vs, h with
  | [], h => exact ⟨trivial, rfl⟩
  | [v], h => exact ⟨h.1, rfl⟩
  | v :: w :: vs, h => exact ⟨h, rfl⟩

theorem isZero_iff {o : Nat} : isZero o = true ↔ o = 0 := by cases o <;> simp [isZero]

/-- The lists at the top of one value. -/
def top1 : PV → List Nm
  | .arr nm _ 0 _ => [nm]
  | _ => []
def top2 : PV → List Nm
  | .arr nm _ 0 _ => [nm]
  | .agg cs => cs.flatMap top1
  | _ => []
def ktop1 : KV → List Nm
  | .arr nm _ o _ => if isZero o then [nm] else []
  | _ => []
def ktop2 : KV → List Nm
  | .arr nm _ o _ => if isZero o then [nm] else []
  | .agg cs => cs.flatMap ktop1
  | _ => []

theorem ktop1_ok {x : KV} (h : x.ok) : ktop1 x = top1 x.pv := by
  cases x with
  | arr nm k o n => cases o <;> rfl
  | cv v =>
    have hv : okV v = true := h
    cases v <;> first | rfl | simp [okV] at hv
  | _ => rfl

theorem top1_none {cs : List PV} (h : okVL cs = true) : cs.flatMap top1 = [] := by
  rw [List.flatMap_eq_nil_iff]
  intro x hx
  have := okVL_iff.1 h x hx
  cases x <;> first | rfl | simp [okV] at this

theorem flatMap_top1 {cs : List KV} (h : okKL cs) : cs.flatMap ktop1 = (pvL cs).flatMap top1 := by
  rw [pvL_map, List.flatMap_map]
  induction cs with
  | nil => rfl
  | cons x xs ih => simp only [List.flatMap_cons]; rw [ktop1_ok h.1, ih h.2]

theorem ktop2_ok {x : KV} (h : x.ok) : ktop2 x = top2 x.pv := by
  cases x with
  | arr nm k o n => cases o <;> rfl
  | agg cs => exact flatMap_top1 h
  | cv v =>
    have hv : okV v = true := h
    cases v with
    | agg cs => simp only [okV] at hv; exact (top1_none hv).symm
    | _ => first | rfl | simp [okV] at hv
  | _ => rfl

theorem tops_eq (v : PV) : tops v = match v with | .tup xs => xs.flatMap top2 | v => top2 v := by
  have e1 : (fun (x : PV) => match x with | .arr nm _ 0 _ => [nm] | _ => []) = top1 := by
    funext x; cases x <;> first | rfl | (rename_i nm k o n; cases o <;> rfl)
  cases v with
  | arr nm k o n => cases o <;> rfl
  | agg cs => simp only [tops, top2]; rfl
  | tup xs =>
    simp only [tops]
    congr 1
  | _ => rfl

theorem ktops_eq (v : KV) : ktops v = match v with | .tup xs => xs.flatMap ktop2 | v => ktop2 v := by
  cases v <;> first | rfl | (simp only [ktops]; congr 1)

theorem ktops_ok {v : KV} (h : v.ok) : ktops v = tops v.pv := by
  rw [ktops_eq, tops_eq]
  cases v with
  | tup xs =>
    have hx : okKL xs := h
    simp only [KV.pv]
    rw [pvL_map, List.flatMap_map]
    clear h
    induction xs with
    | nil => rfl
    | cons x xs ih => simp only [List.flatMap_cons]; rw [ktop2_ok hx.1, ih hx.2]
  | cv u =>
    have hu : okV u = true := h
    simp only [KV.pv, ktop2]
    cases u with
    | tup xs =>
      simp only [okV] at hu
      symm
      rw [List.flatMap_eq_nil_iff]
      intro x hx
      have hx' := okVL_iff.1 hu x hx
      have := ktop2_ok (x := .cv x) hx'
      simpa [ktop2, KV.pv] using this.symm
    | agg cs => simp only [okV] at hu; exact (top1_none hu).symm
    | _ => first | rfl | simp [okV] at hu
  | _ => exact ktop2_ok h

/-! ### What is handed over -/

theorem nodupN_iff : ∀ {l : List Nm}, nodupN l = true ↔ l.Nodup
  | [] => by simp [nodupN]
  | x :: xs => by simp [nodupN, nodupN_iff (l := xs)]

theorem mapM_look {σ : Nm → Option Ob} : ∀ {S : List Nm}, (∀ nm ∈ S, ∃ ob, σ nm = some ob ∧ isArr ob = true) → ∃ obs, S.mapM σ = some obs ∧ obs.all isArr = true ∧ obs.length = S.length ∧ ∀ (i : Nat) nm, S[i]? = some nm → obs[i]? = σ nm := by
  intro S
  induction S with
  | nil => intro _; exact ⟨[], rfl, rfl, rfl, by simp⟩
  | cons nm S ih =>
    intro h
    obtain ⟨ob, h1, h2⟩ := h nm (by simp)
    obtain ⟨obs, h3, h4, h5, h6⟩ := ih fun m hm => h m (by simp [hm])
    refine ⟨ob :: obs, by simp [List.mapM_cons, h1, h3], by simp [h2, h4], by simp [h5], ?_⟩
    intro i m hi
    cases i with
    | zero => simp at hi; subst hi; simp [h1]
    | succ i => simp at hi ⊢; exact h6 i m hi

theorem idxOf_mid {pre mid post : List Nm} {nm : Nm} (hnd : (pre ++ nm :: mid ++ post).Nodup) : (pre ++ nm :: mid ++ post).idxOf nm = pre.length := by
  have hn : nm ∉ pre := fun hm => by
    rw [List.append_assoc, List.nodup_append] at hnd
    exact hnd.2.2 nm hm nm (by simp) rfl
  rw [List.append_assoc, List.idxOf_append, if_neg hn]
  simp

section hand
variable {σ : Nm → Option KOb} (hσ : ∀ nm o, σ nm = some o → o.ok) {S : List Nm} (hnd : S.Nodup) {obs : List Ob} (hobs : ∀ (i : Nat) nm, S[i]? = some nm → obs[i]? = (σ nm).map KOb.ob)
include hσ hnd hobs

/-- What a result's names are read as. -/
def subH (σ : Nm → Option KOb) (S : List Nm) : Nm → Option (Option Ob) := fun nm => if S.contains nm = true then none else closed (fun nm => (σ nm).map KOb.ob) nm

omit hnd hobs in
theorem close_subH {x : KV} (hx : x.ok) (hn : (x.names.all fun nm => !S.contains nm) = true) : x.pv.sub (subH σ S) = x.close (kclosed σ deepest) := by
  rw [KV.close_pv _ hx]
  refine PV.sub_congr _ fun nm hm => ?_
  rw [KV.pv_names hx] at hm
  have := List.all_eq_true.1 hn nm hm
  unfold subH subCl closed
  simp only [Bool.not_eq_true'] at this
  rw [this, kclosed_eq hσ, Option.map_map]
  rfl

omit hσ hnd hobs in
theorem sub_cl {x : KV} {u : PV} (hx : x.ok) (h : x.cl = some u) (f : Nm → Option (Option Ob)) (g : Nm → Nm) : (x.pv.sub f).ren g = u := by
  have hu := KV.cl_ok hx h
  rw [KV.cl_pv h, sub_none (okV_iff hu).1, ren_none (okV_iff hu).1]

mutual
theorem khand_ok {R : Type} {r : R} : ∀ (sh : RSh) (x : KV), x.ok → ∀ {K : PV → Option R}, khand σ S sh x K = some r → ∀ (pre post : List Nm), S = pre ++ ownN sh x ++ post →
    ∃ u, K u = some r ∧ convR obs sh pre.length ((x.pv.sub (subH σ S)).ren (toIdx S)) = some (u, pre.length + (ownN sh x).length)
  | .cl, x, hx, K, hr, pre, post, _ => by
    have hclose : (if x.names.all fun nm => !S.contains nm then chkO (okU (x.close (kclosed σ deepest))) (K (x.close (kclosed σ deepest))) else none) = some r →
        ∃ u, K u = some r ∧ convR obs .cl pre.length ((x.pv.sub (subH σ S)).ren (toIdx S)) = some (u, pre.length + (ownN .cl x).length) := by
      intro hr
      split at hr
      · rename_i hn
        obtain ⟨h1, hr⟩ := chkO_some hr
        unfold okU at h1
        refine ⟨_, hr, ?_⟩
        rw [close_subH hσ hx hn, ren_none (okV_iff h1).1]
        simp [convR, h1, chkO, ownN]
      · cases hr
    simp only [khand] at hr
    cases hu : x.cl with
    | some u =>
      rw [hu] at hr
      refine ⟨u, hr, ?_⟩
      rw [sub_cl hx hu]
      simp [convR, KV.cl_ok hx hu, chkO, ownN]
    | none =>
      rw [hu] at hr
      cases x with
      | tup xs =>
        simp only at hr
        cases hus : clL xs with
        | some us =>
          rw [hus] at hr
          have hok := clL_ok (xs := xs) hx hus
          have htup : okV (.tup us) = true := by simpa [okV] using hok
          refine ⟨.tup us, hr, ?_⟩
          have : (KV.tup xs).pv = .tup us := by simp [KV.pv, clL_pv hus]
          rw [this, sub_none (okV_iff htup).1, ren_none (okV_iff htup).1]
          simp [convR, htup, chkO, ownN]
        | none => rw [hus] at hr; exact hclose hr
      | _ => exact hclose hr
  | .own k, x, hx, K, hr, pre, post, hS => by
    simp only [khand] at hr
    split at hr
    · rename_i nm k' o n
      split at hr
      · rename_i k'' xs hl
        split at hr
        · rename_i hc
          obtain ⟨rfl, rfl, ho⟩ := hc
          rw [isZero_iff] at ho
          subst ho
          obtain ⟨h1, hr⟩ := chkO_some hr
          rw [eqN_iff] at h1
          unfold lenL at h1
          simp only [ownN] at hS
          refine ⟨_, hr, ?_⟩
          have hmem : S.contains nm = true := by rw [List.contains_iff_mem, hS]; simp
          have hi : S[pre.length]? = some nm := by rw [hS]; simp
          have hidx : S.idxOf nm = pre.length := by
            have e : S = pre ++ nm :: [] ++ post := by rw [hS]
            rw [e]; exact idxOf_mid (e ▸ hnd)
          have hob : obs[pre.length]? = some (.arr k xs) := by rw [hobs _ _ hi, hl]; rfl
          have hxok : okVL xs = true := hσ _ _ hl
          have hsub : (PV.arr nm k 0 n).sub (subH σ S) = .arr nm k 0 n := by
            simp only [PV.sub, subH, hmem, if_true]
          simp only [KV.pv]
          rw [hsub]
          simp [PV.ren, toIdx, hidx, convR, hob, chkO, h1, hxok, ownN]
        · cases hr
      · cases hr
    · cases hr
  | .tup l, x, hx, K, hr, pre, post, hS => by
    simp only [khand] at hr
    split at hr
    · rename_i xs
      simp only [ownN] at hS
      obtain ⟨us, h1, h2⟩ := khandL_ok l xs hx hr pre post hS
      refine ⟨_, h1, ?_⟩
      simp only [KV.pv, PV.sub, PV.ren, convR, h2, ownN]
      rfl
    · cases hr
  | .agg l, x, hx, K, hr, pre, post, hS => by
    simp only [khand] at hr
    split at hr
    · rename_i xs
      simp only [ownN] at hS
      obtain ⟨us, h1, h2⟩ := khandL_ok l xs hx hr pre post hS
      refine ⟨_, h1, ?_⟩
      simp only [KV.pv, PV.sub, PV.ren, convR, h2, ownN]
      rfl
    · cases hr
theorem khandL_ok {R : Type} {r : R} : ∀ (l : List RSh) (xs : List KV), okKL xs → ∀ {K : List PV → Option R}, khandL σ S l xs K = some r → ∀ (pre post : List Nm), S = pre ++ ownNL l xs ++ post →
    ∃ us, K us = some r ∧ convRL obs l pre.length (renL (toIdx S) (subL (subH σ S) (pvL xs))) = some (us, pre.length + (ownNL l xs).length)
  | [], [], _, K, hr, pre, post, _ => ⟨[], hr, by simp [pvL, subL, renL, convRL, ownNL]⟩
  | [], _ :: _, _, K, hr, _, _, _ => by simp [khandL] at hr
  | _ :: _, [], _, K, hr, _, _, _ => by simp [khandL] at hr
  | s :: l, x :: xs, hx, K, hr, pre, post, hS => by
    simp only [khandL] at hr
    simp only [ownNL] at hS
    obtain ⟨u, hr, h1⟩ := khand_ok s x hx.1 hr pre (ownNL l xs ++ post) (by rw [hS]; simp [List.append_assoc])
    obtain ⟨us, hr, h2⟩ := khandL_ok l xs hx.2 hr (pre ++ ownN s x) post (by rw [hS]; simp [List.append_assoc])
    refine ⟨u :: us, hr, ?_⟩
    simp only [pvL, subL, renL, convRL, h1]
    rw [List.length_append] at h2
    rw [h2]
    simp [ownNL, Nat.add_assoc]
end
end hand

theorem own_arr {σ : Nm → Option KOb} {S : List Nm} {R : Type} {r : R} : ∀ (sh : RSh) (x : KV) {K : PV → Option R}, khand σ S sh x K = some r → (∀ nm ∈ ownN sh x, ∃ k xs, σ nm = some (.arr k xs)) ∧ ∃ u, K u = some r := by
  intro sh
  refine RSh.rec (motive_1 := fun sh => ∀ (x : KV) {K : PV → Option R}, khand σ S sh x K = some r → (∀ nm ∈ ownN sh x, ∃ k xs, σ nm = some (.arr k xs)) ∧ ∃ u, K u = some r)
    (motive_2 := fun l => ∀ (xs : List KV) {K : List PV → Option R}, khandL σ S l xs K = some r → (∀ nm ∈ ownNL l xs, ∃ k ys, σ nm = some (.arr k ys)) ∧ ∃ us, K us = some r) ?_ ?_ ?_ ?_ ?_ ?_ sh
  · intro x K hr
    refine ⟨by simp [ownN], ?_⟩
    simp only [khand] at hr
    split at hr
    · exact ⟨_, hr⟩
    · split at hr
      · split at hr
        · exact ⟨_, hr⟩
        · split at hr
          · exact ⟨_, (chkO_some hr).2⟩
          · cases hr
      · split at hr
        · exact ⟨_, (chkO_some hr).2⟩
        · cases hr
  · intro k x K hr
    simp only [khand] at hr
    split at hr
    · rename_i nm k' o n
      split at hr
      · rename_i k'' xs hl
        split at hr
        · exact ⟨by simp [ownN, hl], _, (chkO_some hr).2⟩
        · cases hr
      · cases hr
    · cases hr
  · intro l ih x K hr
    simp only [khand] at hr
    split at hr
    · rename_i xs
      obtain ⟨h1, us, h2⟩ := ih xs hr
      exact ⟨by simpa [ownN] using h1, _, h2⟩
    · cases hr
  · intro l ih x K hr
    simp only [khand] at hr
    split at hr
    · rename_i xs
      obtain ⟨h1, us, h2⟩ := ih xs hr
      exact ⟨by simpa [ownN] using h1, _, h2⟩
    · cases hr
  · intro xs K hr
    cases xs with
    | nil => exact ⟨by simp [ownNL], _, hr⟩
    | cons x xs => simp [khandL] at hr
  · intro s l ihs ihl xs K hr
    cases xs with
    | nil => simp [khandL] at hr
    | cons x xs =>
      simp only [khandL] at hr
      obtain ⟨h1, u, hr⟩ := ihs x hr
      obtain ⟨h2, us, hr⟩ := ihl xs hr
      refine ⟨?_, _, hr⟩
      intro nm hm
      simp only [ownNL, List.mem_append] at hm
      exact hm.elim (h1 nm) (h2 nm)

theorem khandOver_ok {R : Type} {r : R} (h : ks.Ok) {sh : RSh} {v : KV} (hv : v.ok) {K : PV → Option R} (hr : khandOver ks sh v K = some r) : ∃ u rv obs, K u = some r ∧ handOver ks.st v.pv = some (rv, obs) ∧ convO sh rv obs = some u := by
  unfold khandOver at hr
  simp only at hr
  split at hr
  case isFalse => cases hr
  rename_i hc
  obtain ⟨hS, hnd, hdis, hsh⟩ := hc
  have hσ := klook_okF h
  obtain ⟨harr, _⟩ := own_arr sh v hr
  rw [← hS] at harr
  have hlk := st_lookF h
  obtain ⟨obs, hm, hall, hlen, hget⟩ := mapM_look (σ := look ks.st.objs) (S := ktops v) fun nm hm => by
    obtain ⟨k, xs, he⟩ := harr nm hm
    exact ⟨.arr k xs, by rw [st_look h, he]; rfl, rfl⟩
  have hnd' := nodupN_iff.1 hnd
  obtain ⟨u, hu, hconv⟩ := khand_ok hσ hnd' (obs := obs) (fun i nm hi => by rw [hget i nm hi, st_look h]) sh v hv hr [] [] (by rw [← hS]; simp)
  refine ⟨u, (v.pv.sub (subH (klook ks.objs) (ktops v))).ren (toIdx (ktops v)), obs, hu, ?_, ?_⟩
  · have e : (fun nm => if (tops v.pv).contains nm = true then none else closed (look ks.st.objs) nm) = subH (klook ks.objs) (ktops v) := by
      funext nm
      unfold subH
      rw [ktops_ok hv, hlk]
    rw [kreach_eq hσ, ← hlk] at hdis hsh
    rw [kshut_eq hσ, ← hlk] at hsh
    rw [ktops_ok hv, ← KV.pv_names hv] at hdis hsh
    rw [ktops_ok hv] at hnd hm
    unfold handOver
    simp only [hnd, hdis, Bool.and_self, if_true, hm, hsh, hall, chk, e, ktops_ok hv]
  · unfold convO
    simp only [List.length_nil, Nat.zero_add] at hconv
    rw [hconv]
    simp [chkO, hlen, hS]

theorem init_ok {nt : Nat} {args : List KV} (ha : okKL args) (hu : ∀ x ∈ args, isUnK x = false) (hl : args.length ≤ nt) : ({ nt, tmps := args.zipIdx.map fun p => (p.2, p.1), objs := [], keep := [] } : KSt).Ok ∧
    ({ nt, tmps := args.zipIdx.map fun p => (p.2, p.1), objs := [], keep := [] } : KSt).st = { tmps := pvL args ++ List.replicate (nt - (pvL args).length) .undef, objs := List.replicate nt [], keep := [] } := by
  have hmem : ∀ p ∈ args.zipIdx.map (fun p => (p.2, p.1)), args[p.1]? = some p.2 := by
    intro p hp
    obtain ⟨⟨x, i⟩, hq, rfl⟩ := List.mem_map.1 hp
    rw [List.mem_zipIdx_iff_getElem?] at hq
    exact hq
  have hw : SpWf nt (args.zipIdx.map fun p => (p.2, p.1)) := by
    refine ⟨?_, ?_, ?_, ?_⟩
    · rw [List.map_map]
      have : ((fun p : Nat × KV => p.1) ∘ fun p : KV × Nat => (p.2, p.1)) = Prod.snd := rfl
      rw [this, List.zipIdx_map_snd]
      exact List.pairwise_lt_range'
    · intro p hp
      have := (List.getElem?_eq_some_iff.1 (hmem p hp)).1
      omega
    · intro p hp; exact okKL_mem.1 ha _ (List.mem_of_getElem? (hmem p hp))
    · intro p hp; exact hu _ (List.mem_of_getElem? (hmem p hp))
  refine ⟨⟨hw, .nil nt, by simp⟩, ?_⟩
  unfold KSt.st
  simp only [List.flatMap_nil]
  congr 1
  · refine dense_ext (by simp [pvL_length]; omega) fun i hi => ?_
    by_cases hia : i < args.length
    · rw [List.getElem?_append_left (by rw [pvL_length]; exact hia), pvL_get?, List.getElem?_eq_getElem hia]
      have hp : (i, args[i]) ∈ args.zipIdx.map (fun p => (p.2, p.1)) := by
        refine List.mem_map.2 ⟨(args[i], i), ?_, rfl⟩
        rw [List.mem_zipIdx_iff_getElem?]
        simp [hia]
      rw [show spGet (args.zipIdx.map fun p => (p.2, p.1)) i = args[i] from hw.get_mem hp]
      rfl
    · rw [List.getElem?_append_right (by rw [pvL_length]; omega), List.getElem?_replicate, if_pos (by rw [pvL_length]; omega)]
      rw [show spGet (args.zipIdx.map fun p => (p.2, p.1)) i = .un from spGet_not fun p hp => by
        have := (List.getElem?_eq_some_iff.1 (hmem p hp)).1
        omega]
      rfl
  · refine denseO_ext (by simp) fun i hi => ?_
    rw [List.getElem?_replicate, if_pos hi]
    rfl

theorem runK_ok (hc : CfgOK cfg tab) {g : FuncId} {fn : RFn} (ht : tab g = some fn) {E : Type} {h : Handler E} {hn : Nat → Handler E} (hh : HOk h hn) {dep : Nat} {sh : RSh} {args : List KV} {e e' : E} {u : PV}
    (ha : okKL args) (hu : ∀ x ∈ args, isUnK x = false) (hl : args.length ≤ fn.nt) (hr : runK cfg fn sh h dep args e = some (u, e')) :
    ∃ r obs, convO sh r obs = some u ∧ Evl fun n => evalFn cfg.b.sp tab n E (hn n) dep g (pvL args) e = some (r, obs, e') := by
  unfold runK at hr
  rw [force_eq] at hr
  obtain ⟨i1, i2⟩ := init_ok ha hu hl
  have hh' : HOk h fun n => hn (n + 1) := fun l args e r hq => by
    obtain ⟨a, hb⟩ := hh l args e r hq
    exact ⟨a, fun n hn' => hb (n + 1) (by omega)⟩
  obtain ⟨x, k1, e1, hr, hk1, hev⟩ := evalK_ok hc fn.code hh' dep i1 hr
  rw [i2] at hev
  have fin : (kresVs k1 fn.res fun vs => khandOver k1 sh (koneOf vs) fun v => some (v, e1)) = some (u, e') → (∀ id, x ≠ .exit id) → ∃ r obs, convO sh r obs = some u ∧ Evl fun n => evalFn cfg.b.sp tab n E (hn n) dep g (pvL args) e = some (r, obs, e') := by
    intro hr hx
    obtain ⟨vs, hr, hvs, h1⟩ := kresVs_ok hk1 fn.res hr
    obtain ⟨o1, o2⟩ := koneOf_ok hvs
    obtain ⟨u', rv, obs, hr, h2, h3⟩ := khandOver_ok hk1 o1 hr
    cases hr
    refine ⟨rv, obs, h3, hev.shift.mono ?_⟩
    rintro k ⟨j, rfl, hj⟩
    simp only [evalFn, ht]
    simp only [machN] at hj
    rw [hj]
    cases x with
    | exit id => exact absurd rfl (hx id)
    | normal => simp only [h1]; rw [← o2, h2]
    | ret => simp only [h1]; rw [← o2, h2]
  cases x with
  | exit id => cases hr
  | normal => exact fin hr (by simp)
  | ret => exact fin hr (by simp)
end Go.Ab

/-
  From what 'runK' tells to calls; the words, by their values.
-/
namespace Go.Ab

section
variable {cfg : KCfg} {tab : FuncId → Option RFn}

theorem cvL_pv : ∀ (vs : List PV), pvL (vs.map KV.cv) = vs
  | [] => rfl
  | v :: vs => by simp [pvL, KV.pv, cvL_pv vs]
theorem cvL_ok {vs : List PV} (h : okVL vs = true) : okKL (vs.map KV.cv) := okKL_mem.2 fun x hx => by
  obtain ⟨v, hv, rfl⟩ := List.mem_map.1 hx
  exact okVL_iff.1 h v hv
theorem cvL_un {vs : List PV} : ∀ x ∈ vs.map KV.cv, isUnK x = false := fun x hx => by
  obtain ⟨v, _, rfl⟩ := List.mem_map.1 hx
  rfl

theorem noH : HOk noHandler (fun _ => noHandler) := fun _ _ _ _ h => by cases h

theorem call_of_run (hc : CfgOK cfg tab) {g : FuncId} {fn : RFn} (ht : tab g = some fn) {sh : RSh} {cap args : List PV} {u : PV} (ha : okVL (args ++ cap) = true) (hl : (args ++ cap).length ≤ fn.nt)
    (hsp : cfg.b.sp g (fun _ => none) (args ++ cap) = none) (hr : runK cfg fn sh noHandler 0 ((args ++ cap).map KV.cv) () = some (u, ())) : callO cfg.b sh (.fn g cap) args = some u := by
  obtain ⟨r, obs, h1, h2⟩ := runK_ok hc ht (hn := fun _ => noHandler) noH (cvL_ok ha) cvL_un (by simpa using hl) hr
  rw [cvL_pv] at h2
  have hL : cfg.b.L Unit noHandler 0 g (args ++ cap) () = some (r, obs, ()) := by rw [hc.L]; exact lim_of h2
  unfold callO
  simp only [spO, hsp, hL]
  exact h1

theorem call_of_sp (hc : CfgOK cfg tab) {g : FuncId} {cap args : List PV} {u : PV} (hsp : cfg.b.sp g (fun _ => none) (args ++ cap) = some { v := u }) (hu : okV u = true) : callO cfg.b .cl (.fn g cap) args = some u := by
  unfold callO
  simp [spO, hsp, hu, chkO]

theorem range_of_run (hc : CfgOK cfg tab) {g : FuncId} {fn : RFn} (ht : tab g = some fn) {E : Type} {h : Handler E} {dep : Nat} {cap : List PV} {u : PV} {e e' : E} (ha : okVL cap = true) (hl : cap.length + 1 ≤ fn.nt)
    (hr : runK cfg fn .cl h (dep + 1) (.yld dep :: cap.map KV.cv) e = some (u, e')) : rangeO cfg.b h dep (.fn g cap) e = some e' := by
  obtain ⟨r, obs, h1, h2⟩ := runK_ok hc ht (hn := fun _ => h) (fun l args e r hq => .of fun _ => hq) (dep := dep + 1) (args := .yld dep :: cap.map KV.cv) ⟨trivial, cvL_ok ha⟩ (fun x hx => by
    rcases List.mem_cons.1 hx with rfl | hx
    · rfl
    · exact cvL_un x hx) (by simpa using hl) hr
  have e1 : pvL (.yld dep :: cap.map KV.cv) = .yld dep :: cap := by simp [pvL, KV.pv, cvL_pv]
  rw [e1] at h2
  have hL : cfg.b.L E h (dep + 1) g (.yld dep :: cap) e = some (r, obs, e') := by rw [hc.L]; exact lim_of h2
  unfold rangeO
  simp only [hL]

theorem conv_cl {r u : PV} {obs : List Ob} (h : convO .cl r obs = some u) : r = u ∧ obs = [] ∧ okV u = true := by
  unfold convO at h
  simp only [convR] at h
  split at h
  · rename_i r' j hr
    obtain ⟨h1, h2⟩ := chkO_some hr
    cases h2
    obtain ⟨h3, h4⟩ := chkO_some h
    cases h4
    simp only [beq_iff_eq] at h3
    exact ⟨rfl, List.length_eq_zero_iff.1 h3.symm, h1⟩
  · cases h

theorem lend_of_run (hc : CfgOK cfg tab) {g : FuncId} {fn : RFn} (ht : tab g = some fn) {fr : Bool} {args : List PV} {u : PV} (ha : okVL args = true) (hl : args.length ≤ fn.nt)
    (hr : runK cfg fn .cl noHandler 0 (args.map KV.cv) () = some (u, ())) (hfr : u.free = fr) : lendO cfg.b .cl fr g args = some u := by
  obtain ⟨r, obs, h1, h2⟩ := runK_ok hc ht (hn := fun _ => noHandler) noH (cvL_ok ha) cvL_un (by simpa using hl) hr
  rw [cvL_pv] at h2
  obtain ⟨e1, e2, _⟩ := conv_cl h1
  subst e1; subst e2
  have hL : cfg.b.L Unit noHandler 0 g args () = some (r, [], ()) := by rw [hc.L]; exact lim_of h2
  unfold lendO
  rw [(okVL_names ha).2]
  simp only [Bool.false_eq_true, if_false, hL, List.all_nil, Bool.and_true, hfr, beq_self_eq_true, chkO]
  exact h1

/-- A law's call. -/
theorem law_of_run (hc : CfgOK cfg tab) {g : FuncId} {fn : RFn} (ht : tab g = some fn) {args : List PV} {b : Bool} (ha : okVL args = true) (hl : args.length ≤ fn.nt)
    (hr : runK cfg fn .cl noHandler 0 (args.map KV.cv) () = some (.bool b, ())) : ∃ n, evalFn cfg.b.sp tab n Unit noHandler 0 g args () = some (.bool b, [], ()) := by
  obtain ⟨r, obs, h1, m, hm⟩ := runK_ok hc ht (hn := fun _ => noHandler) noH (cvL_ok ha) cvL_un (by simpa using hl) hr
  rw [cvL_pv] at hm
  obtain ⟨e1, e2, _⟩ := conv_cl h1
  subst e1; subst e2
  exact ⟨m, hm m (Nat.le_refl _)⟩
end

/-- A loop of so many rounds. -/
theorem loop_run {σ ρ : Type} {step : σ → Option (Sum σ ρ)} {s0 : σ} {r : ρ} (inv : Nat → σ) (N : Nat) (h0 : s0 = inv 0) (hs : ∀ i, i < N → step (inv i) = some (.inl (inv (i + 1)))) (he : step (inv N) = some (.inr r)) : loopL step s0 = some r := by
  have key : ∀ m i, i + m = N → loopL step (inv i) = some r := by
    intro m
    induction m with
    | zero => intro i hi; obtain rfl : i = N := by omega
              exact loopL_inr he
    | succ m ih => intro i hi; rw [loopL_inl (hs i (by omega))]; exact ih (i + 1) (by omega)
  rw [h0]; exact key N 0 (by omega)

/-- A loop by what holds of its states. -/
theorem loop_ind {σ ρ : Type} {step : σ → Option (Sum σ ρ)} (P : σ → ρ → Prop) (m : σ → Nat) (hs : ∀ s r, P s r → step s = some (.inr r) ∨ ∃ s', step s = some (.inl s') ∧ P s' r ∧ m s' < m s) {s : σ} {r : ρ} (h : P s r) : loopL step s = some r := by
  have key : ∀ n s r, m s ≤ n → P s r → loopL step s = some r := by
    intro n
    induction n with
    | zero =>
      intro s r hn hp
      rcases hs s r hp with h1 | ⟨s', _, _, h3⟩
      · exact loopL_inr h1
      · omega
    | succ n ih =>
      intro s r hn hp
      rcases hs s r hp with h1 | ⟨s', h1, h2, h3⟩
      · exact loopL_inr h1
      · rw [loopL_inl h1]; exact ih s' r (by omega) h2
  exact key _ s r (Nat.le_refl _) h

/-- What is handed to a loop over a function, one after the other, until it ends it. -/
def yieldAll {E : Type} (h : Handler E) (d : Nat) : List (List PV) → E → Option E
  | [], e => some e
  | a :: l, e => match h d a e with
    | some (true, e) => yieldAll h d l e
    | some (false, e) => some e
    | none => none

/-! ### Words -/

@[simp] theorem bindO_val {α β : Type} (a : α) (f : α → Option β) : bindO (some a) f = f a := rfl
@[simp] theorem bindO_none' {α β : Type} (f : α → Option β) : bindO none f = none := rfl
@[simp] theorem chkO_true {β : Type} (a : Option β) : chkO true a = a := rfl
@[simp] theorem chkO_false {β : Type} (a : Option β) : chkO false a = none := rfl
@[simp] theorem iteP_bool {β : Type} (b : Bool) (x y : Option β) : iteP (.bool b) x y = if b = true then x else y := by cases b <;> rfl
@[simp] theorem iteB_bool {β : Type} (b : Bool) (x y : Option β) : iteB b x y = if b = true then x else y := by cases b <;> rfl
theorem iteP_true {β : Type} (x y : Option β) : iteP (.bool true) x y = x := rfl
theorem iteP_false {β : Type} (x y : Option β) : iteP (.bool false) x y = y := rfl

section pure
variable {c : TC} {cst : Bool} {k : IntKind}
@[simp] theorem pure_add (a b : Int) : pureO (.bin .add c cst (.c (.int k a)) (.c (.int k b))) = some (.int k (k.wrap (a + b))) := by simp [pureO, exec, RX.ev, binPV, chk, binInt]
@[simp] theorem pure_sub (a b : Int) : pureO (.bin .sub c cst (.c (.int k a)) (.c (.int k b))) = some (.int k (k.wrap (a - b))) := by simp [pureO, exec, RX.ev, binPV, chk, binInt]
@[simp] theorem pure_mul (a b : Int) : pureO (.bin .mul c cst (.c (.int k a)) (.c (.int k b))) = some (.int k (k.wrap (a * b))) := by simp [pureO, exec, RX.ev, binPV, chk, binInt]
theorem pure_quo (a b : Int) (hb : b ≠ 0) : pureO (.bin .quo c cst (.c (.int k a)) (.c (.int k b))) = some (.int k (k.wrap (a.tdiv b))) := by simp [pureO, exec, RX.ev, binPV, chk, binInt, hb]
theorem pure_rem (a b : Int) (hb : b ≠ 0) : pureO (.bin .rem c cst (.c (.int k a)) (.c (.int k b))) = some (.int k (a.tmod b)) := by simp [pureO, exec, RX.ev, binPV, chk, binInt, hb]
@[simp] theorem pure_eql (a b : Int) : pureO (.bin .eql c cst (.c (.int k a)) (.c (.int k b))) = some (.bool (a == b)) := by simp [pureO, exec, RX.ev, binPV, chk, binInt, cmpInt]
@[simp] theorem pure_neq (a b : Int) : pureO (.bin .neq c cst (.c (.int k a)) (.c (.int k b))) = some (.bool (a != b)) := by simp [pureO, exec, RX.ev, binPV, chk, binInt, cmpInt]
@[simp] theorem pure_lss (a b : Int) : pureO (.bin .lss c cst (.c (.int k a)) (.c (.int k b))) = some (.bool (decide (a < b))) := by simp [pureO, exec, RX.ev, binPV, chk, binInt, cmpInt]
@[simp] theorem pure_leq (a b : Int) : pureO (.bin .leq c cst (.c (.int k a)) (.c (.int k b))) = some (.bool (decide (a ≤ b))) := by simp [pureO, exec, RX.ev, binPV, chk, binInt, cmpInt]
@[simp] theorem pure_gtr (a b : Int) : pureO (.bin .gtr c cst (.c (.int k a)) (.c (.int k b))) = some (.bool (decide (b < a))) := by simp [pureO, exec, RX.ev, binPV, chk, binInt, cmpInt]
@[simp] theorem pure_geq (a b : Int) : pureO (.bin .geq c cst (.c (.int k a)) (.c (.int k b))) = some (.bool (decide (b ≤ a))) := by simp [pureO, exec, RX.ev, binPV, chk, binInt, cmpInt]
@[simp] theorem pure_eqs (a b : List UInt8) : pureO (.bin .eql c cst (.c (.str a)) (.c (.str b))) = some (.bool (a == b)) := by simp [pureO, exec, RX.ev, binPV, binStr]
@[simp] theorem pure_nes (a b : List UInt8) : pureO (.bin .neq c cst (.c (.str a)) (.c (.str b))) = some (.bool (!(a == b))) := by simp [pureO, exec, RX.ev, binPV, binStr]
@[simp] theorem pure_eqb (a b : Bool) : pureO (.bin .eql .bool cst (.c (.bool a)) (.c (.bool b))) = some (.bool (a == b)) := by simp [pureO, exec, RX.ev, binPV, eqNil]
@[simp] theorem pure_neb (a b : Bool) : pureO (.bin .neq .bool cst (.c (.bool a)) (.c (.bool b))) = some (.bool (!(a == b))) := by simp [pureO, exec, RX.ev, binPV, eqNil]
theorem pure_cat (a b : List UInt8) (h : a.length + b.length ≤ maxInt) : pureO (.bin .add c cst (.c (.str a)) (.c (.str b))) = some (.str (a ++ b)) := by simp [pureO, exec, RX.ev, binPV, binStr, chk, h]
@[simp] theorem pure_not (b : Bool) : pureO (.un .not (.c (.bool b))) = some (.bool (!b)) := rfl
@[simp] theorem pure_neg (n : Int) : pureO (.un .neg (.c (.int k n))) = some (.int k (k.wrap (0 - n))) := rfl
@[simp] theorem pure_conv {k' : IntKind} (n : Int) : pureO (.conv k (.c (.int k' n))) = some (.int k (k.wrap n)) := rfl
@[simp] theorem pure_lens (s : List UInt8) : pureO (.len .str (.c (.str s))) = some (.int .i64 (s.length : Int)) := rfl
@[simp] theorem pure_lenl {j : Nat} (xs : List PV) (f : Bool) : pureO (.len .slice (.c (.sl j xs f))) = some (.int .i64 (xs.length : Int)) := rfl
@[simp] theorem pure_lenn : pureO (.len .slice (.c .nilS)) = some (.int .i64 0) := rfl
@[simp] theorem pure_tup (j : Nat) (xs : List PV) : pureO (.extract j (.c (.tup xs))) = xs[j]? := by
  simp only [pureO, exec, RX.ev]; cases xs[j]? <;> rfl
@[simp] theorem pure_load {n o : Nat} {ag : Bool} (cs : List PV) : pureO (.load n ag (.c (.ptr cs o))) = sel cs o n ag := by
  simp only [pureO, exec, RX.ev]; cases sel cs o n ag <;> rfl
@[simp] theorem pure_field {n o : Nat} {ag : Bool} (cs : List PV) : pureO (.field o n ag (.c (.agg cs))) = sel cs o n ag := by
  simp only [pureO, exec, RX.ev]; cases sel cs o n ag <;> rfl
@[simp] theorem pure_nilck (cs : List PV) (o : Nat) : pureO (.nilck (.c (.ptr cs o))) = some (.ptr cs o) := rfl
@[simp] theorem pure_nilckf (f : Nat) (cs : List PV) : pureO (.nilck (.c (.fn f cs))) = some (.fn f cs) := rfl
@[simp] theorem pure_faddr {off o : Nat} (cs : List PV) : pureO (.fieldAddr off (.c (.ptr cs o))) = if o + off < cs.length then some (.ptr cs (o + off)) else none := by
  by_cases hq : o + off < cs.length <;> simp [pureO, exec, RX.ev, chk, hq]
theorem pure_bytes (s : List UInt8) (h : s.length ≤ maxInt) : pureO (.toBytes (.c (.str s))) = some (.sl 1 (byteList s) false) := by simp [pureO, exec, RX.ev, chk, h]
theorem pure_sidx {s : List UInt8} {j : Nat} {b : UInt8} (h : s[j]? = some b) : pureO (.strIdx (.c (.str s)) (.c (.int k (j : Int)))) = some (.int .u8 (b.toNat : Int)) := by
  simp [pureO, exec, RX.ev, natOf, h]
theorem pure_lidx {xs : List PV} {j n : Nat} {f : Bool} {v : PV} (hn : 0 < n) (h : xs[j]? = some v) : pureO (.idxAddr n (.c (.sl n xs f)) (.c (.int k (j : Int)))) = some (.ptr v.cells 0) := by
  simp [pureO, exec, RX.ev, natOf, h, chk, hn]
theorem pure_ssl {s : List UInt8} {l h : Nat} (hh : h ≤ s.length) (hl : l ≤ h) : pureO (.strSlice (.c (.str s)) (some (.c (.int k (l : Int)))) (some (.c (.int k (h : Int))))) = some (.str ((s.take h).drop l)) := by
  simp [pureO, exec, RX.ev, evO, bound, natOf, chk, hh, hl]
theorem pure_ssl1 {s : List UInt8} {l : Nat} (hl : l ≤ s.length) : pureO (.strSlice (.c (.str s)) (some (.c (.int k (l : Int)))) none) = some (.str (s.drop l)) := by
  simp [pureO, exec, RX.ev, evO, bound, natOf, chk, hl]
theorem pure_ssl2 {s : List UInt8} {h : Nat} (hh : h ≤ s.length) : pureO (.strSlice (.c (.str s)) none (some (.c (.int k (h : Int))))) = some (.str (s.take h)) := by
  simp [pureO, exec, RX.ev, evO, bound, natOf, chk, hh]
end pure

@[simp] theorem sel_one (v : PV) : sel [v] 0 1 false = some v := rfl
@[simp] theorem cells_int (k : IntKind) (n : Int) : (PV.int k n).cells = [.int k n] := rfl
@[simp] theorem cells_str (s : List UInt8) : (PV.str s).cells = [.str s] := rfl
@[simp] theorem cells_bool (b : Bool) : (PV.bool b).cells = [.bool b] := rfl
@[simp] theorem cells_agg' (cs : List PV) : (PV.agg cs).cells = cs := rfl
@[simp] theorem addN_eq (a b : Nat) : addN a b = a + b := rfl
@[simp] theorem subN_eq (a b : Nat) : subN a b = a - b := rfl
@[simp] theorem minN_eq (a b : Nat) : minN a b = min a b := rfl
@[simp] theorem lenL_eq (l : List PV) : lenL l = l.length := rfl
@[simp] theorem takeL_eq (n : Nat) (l : List PV) : takeL n l = l.take n := rfl
@[simp] theorem dropL_eq (n : Nat) (l : List PV) : dropL n l = l.drop n := rfl
@[simp] theorem catL_eq (l m : List PV) : catL l m = l ++ m := rfl
@[simp] theorem replL_eq (n : Nat) (v : PV) : replL n v = List.replicate n v := rfl
@[simp] theorem itemsP_sl (k : Nat) (xs : List PV) (f : Bool) : itemsP (.sl k xs f) = xs := rfl
@[simp] theorem natP_int (k : IntKind) (n : Int) : natP (.int k n) = n.toNat := rfl
@[simp] theorem nI_eq (n : Nat) : nI n = .int .i64 (n : Int) := rfl
@[simp] theorem andB_eq (a b : Bool) : andB a b = (a && b) := rfl
@[simp] theorem leN_eq (a b : Nat) : leN a b = decide (a ≤ b) := by
  rw [Bool.eq_iff_iff, leN_iff, decide_eq_true_iff]
@[simp] theorem ltN_eq (a b : Nat) : ltN a b = decide (a < b) := by
  rw [Bool.eq_iff_iff, ltN_iff, decide_eq_true_iff]
@[simp] theorem eqN_eq (a b : Nat) : eqN a b = decide (a = b) := by
  rw [Bool.eq_iff_iff, eqN_iff, decide_eq_true_iff]
@[simp] theorem nth_0 (x : PV) (l : List PV) : nth (x :: l) 0 = x := rfl
@[simp] theorem nth_1 (a x : PV) (l : List PV) : nth (a :: x :: l) 1 = x := rfl
@[simp] theorem nth_2 (a b x : PV) (l : List PV) : nth (a :: b :: x :: l) 2 = x := rfl
@[simp] theorem nth_3 (a b c x : PV) (l : List PV) : nth (a :: b :: c :: x :: l) 3 = x := rfl
@[simp] theorem nth_4 (a b c d x : PV) (l : List PV) : nth (a :: b :: c :: d :: x :: l) 4 = x := rfl
@[simp] theorem nth_5 (a b c d e x : PV) (l : List PV) : nth (a :: b :: c :: d :: e :: x :: l) 5 = x := rfl
@[simp] theorem nth_6 (a b c d e f x : PV) (l : List PV) : nth (a :: b :: c :: d :: e :: f :: x :: l) 6 = x := rfl
@[simp] theorem nth_7 (a b c d e f g x : PV) (l : List PV) : nth (a :: b :: c :: d :: e :: f :: g :: x :: l) 7 = x := rfl
@[simp] theorem nth_8 (a b c d e f g h x : PV) (l : List PV) : nth (a :: b :: c :: d :: e :: f :: g :: h :: x :: l) 8 = x := rfl
@[simp] theorem selO_eq (v : PV) (o n : Nat) (ag : Bool) : selO v o n ag = sel v.cells o n ag := rfl
@[simp] theorem natO_int (k : IntKind) (n : Nat) : natO (.int k (n : Int)) = some n := by simp [natO, natOf]
end Go.Ab

/-
  The functions of the program, as the small machine has them; printed by a program (wip/gen).
-/
namespace Go.Ab
open Go
/-- diaeresis/diaeresislaw02.PlaceAts -/
def fn3 : RFn := ⟨83, 
 (.seq 
 (.region [⟨(some 10), .mov (.c (.bool false)), none⟩] none (some [0, 1, 2, 3, 4])) 
 (.seq 
 (.region [⟨(some 22), .call (.c (.fn 10 [])) [], none⟩, ⟨(some 11), .mov (.t 22), none⟩] none (some [0, 1, 2, 3, 4, 11])) 
 (.seq 
 (.region [⟨(some 23), .mov (.t 0), none⟩, ⟨(some 24), .call (.c (.fn 11 [])) [(.t 23)], none⟩, ⟨(some 0), .mov (.t 24), none⟩] none (some [1, 0, 2, 3, 4, 11])) 
 (.seq 
 (.region [⟨(some 26), .mov (.t 0), none⟩, ⟨(some 27), .mov (.t 1), none⟩, ⟨(some 28), .mov (.t 4), none⟩, ⟨(some 29), .call (.c (.fn 12 [])) [(.t 26), (.t 27), (.t 28)], none⟩, ⟨(some 25), .mov (.t 29), none⟩, ⟨(some 30), .extract 0 (.t 25), none⟩, ⟨(some 31), .extract 1 (.t 25), none⟩, ⟨(some 32), .extract 2 (.t 25), none⟩, ⟨(some 12), .mov (.t 30), none⟩, ⟨(some 13), .mov (.t 31), none⟩, ⟨(some 14), .mov (.t 32), none⟩] none (some [1, 0, 2, 3, 4, 11, 12, 13, 14])) 
 (.seq 
 (.region [⟨(some 34), .mov (.t 0), none⟩, ⟨(some 35), .mov (.t 1), none⟩, ⟨(some 36), .mov (.t 4), none⟩, ⟨(some 37), .call (.c (.fn 13 [])) [(.t 34), (.t 35), (.t 36)], none⟩, ⟨(some 33), .mov (.t 37), none⟩, ⟨(some 38), .extract 0 (.t 33), none⟩, ⟨(some 39), .extract 1 (.t 33), none⟩, ⟨(some 40), .extract 2 (.t 33), none⟩, ⟨(some 15), .mov (.t 38), none⟩, ⟨(some 16), .mov (.t 39), none⟩, ⟨(some 17), .mov (.t 40), none⟩] none (some [0, 2, 3, 4, 11, 12, 15, 13, 16, 14, 17])) 
 (.seq 
 (.region [⟨(some 42), .mov (.t 0), none⟩, ⟨(some 43), .mov (.t 2), none⟩, ⟨(some 44), .mov (.t 3), none⟩, ⟨(some 45), .mov (.t 4), none⟩, ⟨(some 46), .call (.c (.fn 14 [])) [(.t 42), (.t 43), (.t 44), (.t 45)], none⟩, ⟨(some 41), .mov (.t 46), none⟩, ⟨(some 47), .extract 0 (.t 41), none⟩, ⟨(some 48), .extract 1 (.t 41), none⟩, ⟨(some 18), .mov (.t 47), none⟩, ⟨(some 19), .mov (.t 48), none⟩] none (some [0, 2, 3, 4, 11, 12, 15, 13, 16, 14, 17, 18, 19])) 
 (.seq 
 (.region [⟨(some 50), .mov (.t 0), none⟩, ⟨(some 51), .mov (.t 2), none⟩, ⟨(some 52), .mov (.t 3), none⟩, ⟨(some 53), .mov (.t 4), none⟩, ⟨(some 54), .call (.c (.fn 15 [])) [(.t 50), (.t 51), (.t 52), (.t 53)], none⟩, ⟨(some 49), .mov (.t 54), none⟩, ⟨(some 55), .extract 0 (.t 49), none⟩, ⟨(some 56), .extract 1 (.t 49), none⟩, ⟨(some 20), .mov (.t 55), none⟩, ⟨(some 21), .mov (.t 56), none⟩] none (some [11, 12, 15, 13, 16, 14, 17, 18, 20, 19, 21])) 
 (.seq 
 (.region [⟨(some 57), .mov (.t 11), none⟩, ⟨(some 58), .mov (.t 57), none⟩, ⟨(some 59), .mov (.t 12), (some (1, true))⟩, ⟨(some 60), .mov (.t 15), (some (1, true))⟩, ⟨(some 61), .bin .eql .num false (.t 59) (.t 60), (some (1, true))⟩, ⟨(some 62), .pick (.t 58) (.t 61) (.c (.bool false)), none⟩, ⟨(some 63), .mov (.t 62), none⟩, ⟨(some 64), .mov (.t 13), (some (6, true))⟩, ⟨(some 65), .mov (.t 16), (some (6, true))⟩, ⟨(some 66), .bin .eql .num false (.t 64) (.t 65), (some (6, true))⟩, ⟨(some 67), .pick (.t 63) (.t 66) (.c (.bool false)), none⟩, ⟨(some 68), .mov (.t 67), none⟩, ⟨(some 69), .mov (.t 14), (some (11, true))⟩, ⟨(some 70), .mov (.t 17), (some (11, true))⟩, ⟨(some 71), .bin .eql .num false (.t 69) (.t 70), (some (11, true))⟩, ⟨(some 72), .pick (.t 68) (.t 71) (.c (.bool false)), none⟩, ⟨(some 73), .mov (.t 72), none⟩, ⟨(some 74), .mov (.t 18), (some (16, true))⟩, ⟨(some 75), .mov (.t 20), (some (16, true))⟩, ⟨(some 76), .bin .eql .num false (.t 74) (.t 75), (some (16, true))⟩, ⟨(some 77), .pick (.t 73) (.t 76) (.c (.bool false)), none⟩, ⟨(some 78), .mov (.t 77), none⟩, ⟨(some 79), .mov (.t 19), (some (21, true))⟩, ⟨(some 80), .mov (.t 21), (some (21, true))⟩, ⟨(some 81), .bin .eql .num false (.t 79) (.t 80), (some (21, true))⟩, ⟨(some 82), .pick (.t 78) (.t 81) (.c (.bool false)), none⟩, ⟨(some 10), .mov (.t 82), none⟩] none (some [10])) .ret)))))))), [.tmp 10]⟩
/-- diaeresis/diaeresislaw02.PlaceBack -/
def fn4 : RFn := ⟨87, 
 (.seq 
 (.region [⟨(some 10), .mov (.c (.bool false)), none⟩] none (some [0, 1, 4, 2, 3])) 
 (.seq 
 (.region [⟨(some 22), .call (.c (.fn 10 [])) [], none⟩, ⟨(some 11), .mov (.t 22), none⟩] none (some [0, 1, 4, 11, 2, 3])) 
 (.seq 
 (.region [⟨(some 23), .mov (.t 0), none⟩, ⟨(some 24), .call (.c (.fn 11 [])) [(.t 23)], none⟩, ⟨(some 0), .mov (.t 24), none⟩] none (some [1, 0, 4, 11, 2, 3])) 
 (.seq 
 (.region [⟨(some 26), .mov (.t 0), none⟩, ⟨(some 27), .mov (.t 1), none⟩, ⟨(some 28), .mov (.t 4), none⟩, ⟨(some 29), .call (.c (.fn 12 [])) [(.t 26), (.t 27), (.t 28)], none⟩, ⟨(some 25), .mov (.t 29), none⟩, ⟨(some 30), .extract 0 (.t 25), none⟩, ⟨(some 31), .extract 1 (.t 25), none⟩, ⟨(some 32), .extract 2 (.t 25), none⟩, ⟨(some 12), .mov (.t 30), none⟩, ⟨(some 13), .mov (.t 31), none⟩, ⟨(some 14), .mov (.t 32), none⟩] none (some [12, 13, 14, 1, 0, 4, 11, 2, 3])) 
 (.seq 
 (.region [⟨(some 34), .mov (.t 0), none⟩, ⟨(some 35), .mov (.t 12), none⟩, ⟨(some 36), .mov (.t 13), none⟩, ⟨(some 37), .mov (.t 4), none⟩, ⟨(some 38), .call (.c (.fn 14 [])) [(.t 34), (.t 35), (.t 36), (.t 37)], none⟩, ⟨(some 33), .mov (.t 38), none⟩, ⟨(some 39), .extract 0 (.t 33), none⟩, ⟨(some 40), .extract 1 (.t 33), none⟩, ⟨(some 15), .mov (.t 39), none⟩, ⟨(some 16), .mov (.t 40), none⟩] none (some [14, 16, 15, 1, 0, 4, 11, 2, 3])) 
 (.seq 
 (.seq 
 (.region [⟨(some 41), .mov (.t 14), none⟩, ⟨(some 42), .bin .eql .num true (.t 41) (.c (.int .i64 (0))), none⟩, ⟨(some 43), .mov (.t 42), none⟩, ⟨(some 44), .mov (.t 16), (some (2, true))⟩, ⟨(some 45), .bin .neq .num true (.t 44) (.c (.int .i64 (0))), (some (2, true))⟩, ⟨(some 46), .mov (.t 45), (some (2, true))⟩, ⟨(some 47), .mov (.t 15), (some (5, false))⟩, ⟨(some 48), .mov (.t 1), (some (5, false))⟩, ⟨(some 49), .bin .neq .num false (.t 47) (.t 48), (some (5, false))⟩, ⟨(some 50), .pick (.t 46) (.c (.bool true)) (.t 49), (some (2, true))⟩, ⟨(some 51), .pick (.t 43) (.t 50) (.c (.bool false)), none⟩] none (some [51, 0, 4, 11, 2, 3])) 
 (.cond (.t 51) 
 (.seq 
 (.region [⟨(some 10), .mov (.c (.bool false)), none⟩] none (some [10])) .ret) .skip)) 
 (.seq 
 (.region [⟨(some 53), .mov (.t 0), none⟩, ⟨(some 54), .mov (.t 2), none⟩, ⟨(some 55), .mov (.t 3), none⟩, ⟨(some 56), .mov (.t 4), none⟩, ⟨(some 57), .call (.c (.fn 14 [])) [(.t 53), (.t 54), (.t 55), (.t 56)], none⟩, ⟨(some 52), .mov (.t 57), none⟩, ⟨(some 58), .extract 0 (.t 52), none⟩, ⟨(some 59), .extract 1 (.t 52), none⟩, ⟨(some 17), .mov (.t 58), none⟩, ⟨(some 18), .mov (.t 59), none⟩] none (some [0, 17, 4, 11, 18, 2, 3])) 
 (.seq 
 (.region [⟨(some 61), .mov (.t 0), none⟩, ⟨(some 62), .mov (.t 17), none⟩, ⟨(some 63), .mov (.t 4), none⟩, ⟨(some 64), .call (.c (.fn 12 [])) [(.t 61), (.t 62), (.t 63)], none⟩, ⟨(some 60), .mov (.t 64), none⟩, ⟨(some 65), .extract 0 (.t 60), none⟩, ⟨(some 66), .extract 1 (.t 60), none⟩, ⟨(some 67), .extract 2 (.t 60), none⟩, ⟨(some 19), .mov (.t 65), none⟩, ⟨(some 20), .mov (.t 66), none⟩, ⟨(some 21), .mov (.t 67), none⟩] none (some [11, 18, 21, 19, 2, 20, 3])) 
 (.seq 
 (.region [⟨(some 68), .mov (.t 11), none⟩, ⟨(some 69), .mov (.t 68), none⟩, ⟨(some 70), .mov (.t 18), (some (1, true))⟩, ⟨(some 71), .bin .neq .num true (.t 70) (.c (.int .i64 (0))), (some (1, true))⟩, ⟨(some 72), .mov (.t 71), (some (1, true))⟩, ⟨(some 73), .mov (.t 21), (some (4, false))⟩, ⟨(some 74), .bin .eql .num true (.t 73) (.c (.int .i64 (0))), (some (4, false))⟩, ⟨(some 75), .mov (.t 74), (some (4, false))⟩, ⟨(some 76), .mov (.t 19), (some (7, true))⟩, ⟨(some 77), .mov (.t 2), (some (7, true))⟩, ⟨(some 78), .bin .eql .num false (.t 76) (.t 77), (some (7, true))⟩, ⟨(some 79), .pick (.t 75) (.t 78) (.c (.bool false)), (some (4, false))⟩, ⟨(some 80), .mov (.t 79), (some (4, false))⟩, ⟨(some 81), .mov (.t 20), (some (12, true))⟩, ⟨(some 82), .mov (.t 3), (some (12, true))⟩, ⟨(some 83), .bin .eql .num false (.t 81) (.t 82), (some (12, true))⟩, ⟨(some 84), .pick (.t 80) (.t 83) (.c (.bool false)), (some (4, false))⟩, ⟨(some 85), .pick (.t 72) (.c (.bool true)) (.t 84), (some (1, true))⟩, ⟨(some 86), .pick (.t 69) (.t 85) (.c (.bool false)), none⟩, ⟨(some 10), .mov (.t 86), none⟩] none (some [10])) .ret))))))))), [.tmp 10]⟩
/-- diaeresis/diaeresislaw02.PlaceOrders -/
def fn5 : RFn := ⟨62, 
 (.seq 
 (.region [⟨(some 8), .mov (.c (.bool false)), none⟩] none (some [0, 3, 1, 2])) 
 (.seq 
 (.region [⟨(some 16), .call (.c (.fn 10 [])) [], none⟩, ⟨(some 9), .mov (.t 16), none⟩] none (some [0, 3, 9, 1, 2])) 
 (.seq 
 (.region [⟨(some 17), .mov (.t 0), none⟩, ⟨(some 18), .call (.c (.fn 11 [])) [(.t 17)], none⟩, ⟨(some 0), .mov (.t 18), none⟩] none (some [0, 3, 9, 1, 2])) 
 (.seq 
 (.region [⟨(some 20), .mov (.t 0), none⟩, ⟨(some 21), .mov (.t 1), none⟩, ⟨(some 22), .mov (.t 3), none⟩, ⟨(some 23), .call (.c (.fn 12 [])) [(.t 20), (.t 21), (.t 22)], none⟩, ⟨(some 19), .mov (.t 23), none⟩, ⟨(some 24), .extract 0 (.t 19), none⟩, ⟨(some 25), .extract 1 (.t 19), none⟩, ⟨(some 26), .extract 2 (.t 19), none⟩, ⟨(some 10), .mov (.t 24), none⟩, ⟨(some 11), .mov (.t 25), none⟩, ⟨(some 12), .mov (.t 26), none⟩] none (some [0, 3, 12, 9, 1, 2, 10, 11])) 
 (.seq 
 (.region [⟨(some 28), .mov (.t 0), none⟩, ⟨(some 29), .mov (.t 2), none⟩, ⟨(some 30), .mov (.t 3), none⟩, ⟨(some 31), .call (.c (.fn 12 [])) [(.t 28), (.t 29), (.t 30)], none⟩, ⟨(some 27), .mov (.t 31), none⟩, ⟨(some 32), .extract 0 (.t 27), none⟩, ⟨(some 33), .extract 1 (.t 27), none⟩, ⟨(some 34), .extract 2 (.t 27), none⟩, ⟨(some 13), .mov (.t 32), none⟩, ⟨(some 14), .mov (.t 33), none⟩, ⟨(some 15), .mov (.t 34), none⟩] none (some [12, 15, 9, 1, 2, 10, 13, 11, 14])) 
 (.seq 
 (.seq 
 (.region [⟨(some 35), .mov (.t 12), none⟩, ⟨(some 36), .bin .neq .num true (.t 35) (.c (.int .i64 (0))), none⟩, ⟨(some 37), .mov (.t 36), none⟩, ⟨(some 38), .mov (.t 15), (some (2, false))⟩, ⟨(some 39), .bin .neq .num true (.t 38) (.c (.int .i64 (0))), (some (2, false))⟩, ⟨(some 40), .pick (.t 37) (.c (.bool true)) (.t 39), none⟩] none (some [40, 9, 1, 2, 10, 13, 11, 14])) 
 (.cond (.t 40) 
 (.seq 
 (.region [⟨(some 41), .mov (.t 9), none⟩, ⟨(some 8), .mov (.t 41), none⟩] none (some [8])) .ret) .skip)) 
 (.seq 
 (.region [⟨(some 42), .mov (.t 9), none⟩, ⟨(some 43), .mov (.t 42), none⟩, ⟨(some 44), .mov (.t 1), (some (1, true))⟩, ⟨(some 45), .mov (.t 2), (some (1, true))⟩, ⟨(some 46), .bin .lss .num false (.t 44) (.t 45), (some (1, true))⟩, ⟨(some 47), .mov (.t 10), (some (1, true))⟩, ⟨(some 48), .mov (.t 13), (some (1, true))⟩, ⟨(some 49), .bin .lss .num false (.t 47) (.t 48), (some (1, true))⟩, ⟨(some 50), .mov (.t 49), (some (1, true))⟩, ⟨(some 51), .mov (.t 10), (some (8, false))⟩, ⟨(some 52), .mov (.t 13), (some (8, false))⟩, ⟨(some 53), .bin .eql .num false (.t 51) (.t 52), (some (8, false))⟩, ⟨(some 54), .mov (.t 53), (some (8, false))⟩, ⟨(some 55), .mov (.t 11), (some (12, true))⟩, ⟨(some 56), .mov (.t 14), (some (12, true))⟩, ⟨(some 57), .bin .lss .num false (.t 55) (.t 56), (some (12, true))⟩, ⟨(some 58), .pick (.t 54) (.t 57) (.c (.bool false)), (some (8, false))⟩, ⟨(some 59), .pick (.t 50) (.c (.bool true)) (.t 58), (some (1, true))⟩, ⟨(some 60), .bin .eql .bool false (.t 46) (.t 59), (some (1, true))⟩, ⟨(some 61), .pick (.t 43) (.t 60) (.c (.bool false)), none⟩, ⟨(some 8), .mov (.t 61), none⟩] none (some [8])) .ret))))))), [.tmp 8]⟩
/-- diaeresis/diaeresislaw02.PlaceBytes -/
def fn6 : RFn := ⟨60, 
 (.seq 
 (.region [⟨(some 4), .mov (.c (.bool false)), none⟩] none (some [0, 1])) 
 (.seq 
 (.region [⟨(some 10), .call (.c (.fn 10 [])) [], none⟩, ⟨(some 5), .mov (.t 10), none⟩] none (some [0, 5, 1])) 
 (.seq 
 (.region [⟨(some 11), .mov (.t 0), none⟩, ⟨(some 12), .call (.c (.fn 11 [])) [(.t 11)], none⟩, ⟨(some 0), .mov (.t 12), none⟩] none (some [0, 5, 1])) 
 (.seq 
 (.region [⟨(some 14), .mov (.t 0), none⟩, ⟨(some 15), .mov (.t 1), none⟩, ⟨(some 16), .call (.c (.fn 12 [])) [(.t 14), (.t 15), (.c (.int .i64 (1)))], none⟩, ⟨(some 13), .mov (.t 16), none⟩, ⟨(some 17), .extract 0 (.t 13), none⟩, ⟨(some 18), .extract 1 (.t 13), none⟩, ⟨(some 19), .extract 2 (.t 13), none⟩, ⟨(some 6), .mov (.t 17), none⟩, ⟨(some 7), .mov (.t 18), none⟩, ⟨(some 8), .mov (.t 19), none⟩] none (some [0, 5, 8, 7, 1, 6])) 
 (.seq 
 (.seq 
 (.region [⟨(some 20), .mov (.t 1), none⟩, ⟨(some 21), .bin .lss .num true (.t 20) (.c (.int .i64 (0))), none⟩, ⟨(some 22), .mov (.t 21), none⟩, ⟨(some 23), .mov (.t 1), (some (2, false))⟩, ⟨(some 24), .mov (.t 0), (some (2, false))⟩, ⟨(some 25), .len .str (.t 24), (some (2, false))⟩, ⟨(some 26), .bin .gtr .num false (.t 23) (.t 25), (some (2, false))⟩, ⟨(some 27), .pick (.t 22) (.c (.bool true)) (.t 26), none⟩] none (some [27, 0, 5, 8, 7, 1, 6])) 
 (.cond (.t 27) 
 (.seq 
 (.region [⟨(some 28), .mov (.t 5), none⟩, ⟨(some 29), .mov (.t 28), none⟩, ⟨(some 30), .mov (.t 8), (some (1, true))⟩, ⟨(some 31), .bin .eql .num true (.t 30) (.c (.int .i64 (20))), (some (1, true))⟩, ⟨(some 32), .pick (.t 29) (.t 31) (.c (.bool false)), none⟩, ⟨(some 4), .mov (.t 32), none⟩] none (some [4])) .ret) .skip)) 
 (.seq 
 (.region [⟨(some 33), .mov (.t 0), none⟩, ⟨(some 34), .call (.c (.fn 16 [])) [(.t 33)], none⟩, ⟨(some 9), .mov (.t 34), none⟩] none (some [5, 8, 7, 1, 9, 6])) 
 (.seq 
 (.region [⟨(some 35), .mov (.t 5), none⟩, ⟨(some 36), .mov (.t 35), none⟩, ⟨(some 37), .mov (.t 8), (some (1, true))⟩, ⟨(some 38), .bin .eql .num true (.t 37) (.c (.int .i64 (0))), (some (1, true))⟩, ⟨(some 39), .pick (.t 36) (.t 38) (.c (.bool false)), none⟩, ⟨(some 40), .mov (.t 39), none⟩, ⟨(some 41), .mov (.t 6), (some (5, true))⟩, ⟨(some 42), .bin .geq .num true (.t 41) (.c (.int .i64 (0))), (some (5, true))⟩, ⟨(some 43), .pick (.t 40) (.t 42) (.c (.bool false)), none⟩, ⟨(some 44), .mov (.t 43), none⟩, ⟨(some 45), .mov (.t 6), (some (9, true))⟩, ⟨(some 46), .mov (.t 9), (some (9, true))⟩, ⟨(some 47), .len .slice (.t 46), (some (9, true))⟩, ⟨(some 48), .bin .lss .num false (.t 45) (.t 47), (some (9, true))⟩, ⟨(some 49), .pick (.t 44) (.t 48) (.c (.bool false)), none⟩, ⟨(some 50), .mov (.t 49), none⟩, ⟨(some 51), .mov (.t 7), (some (15, true))⟩, ⟨(some 52), .mov (.t 1), (some (15, true))⟩, ⟨(some 53), .mov (.t 9), (some (15, true))⟩, ⟨(some 54), .mov (.t 6), (some (15, true))⟩, ⟨(some 55), .idxAddr 1 (.t 53) (.t 54), (some (15, true))⟩, ⟨(some 56), .load 1 false (.t 55), (some (15, true))⟩, ⟨(some 57), .bin .sub .num false (.t 52) (.t 56), (some (15, true))⟩, ⟨(some 58), .bin .eql .num false (.t 51) (.t 57), (some (15, true))⟩, ⟨(some 59), .pick (.t 50) (.t 58) (.c (.bool false)), none⟩, ⟨(some 4), .mov (.t 59), none⟩] none (some [4])) .ret))))))), [.tmp 4]⟩
/-- diaeresis/diaeresislaw02.PlaceJoins -/
def fn7 : RFn := ⟨63, 
 (.seq 
 (.region [⟨(some 2), .mov (.c (.bool false)), none⟩] none (some [0])) 
 (.seq 
 (.region [⟨(some 11), .call (.c (.fn 10 [])) [], none⟩, ⟨(some 3), .mov (.t 11), none⟩] none (some [0, 3])) 
 (.seq 
 (.region [⟨(some 12), .mov (.t 0), none⟩, ⟨(some 13), .call (.c (.fn 11 [])) [(.t 12)], none⟩, ⟨(some 0), .mov (.t 13), none⟩] none (some [3, 0])) 
 (.seq 
 (.region [⟨(some 14), .mov (.t 0), none⟩, ⟨(some 15), .call (.c (.fn 16 [])) [(.t 14)], none⟩, ⟨(some 4), .mov (.t 15), none⟩] none (some [4, 3, 0])) 
 (.seq 
 (.region [⟨(some 5), .mov (.c (.str [])), none⟩] none (some [4, 3, 5, 0])) 
 (.seq 
 (.seq 
 (.region [⟨(some 6), .mov (.c (.int .i64 (0))), none⟩] none (some [6, 4, 3, 5, 0])) 
 (.block 0 
 (.loop [16, 17, 23, 24, 22, 7, 8, 28, 30, 32, 34, 35, 36, 39, 2, 43, 44, 5, 20, 6] [] 
 (.seq 
 (.seq 
 (.region [⟨(some 16), .mov (.t 6), none⟩, ⟨(some 17), .mov (.t 4), none⟩, ⟨(some 18), .len .slice (.t 17), none⟩, ⟨(some 19), .bin .lss .num false (.t 16) (.t 18), none⟩] none (some [19, 6, 4, 3, 5, 0])) 
 (.cond (.t 19) .skip (.exit 0))) 
 (.seq 
 (.block 1 
 (.seq 
 (.region [⟨(some 23), .mov (.t 0), none⟩, ⟨(some 24), .mov (.t 6), none⟩, ⟨(some 25), .call (.c (.fn 17 [])) [(.t 23), (.t 24)], none⟩, ⟨(some 22), .mov (.t 25), none⟩, ⟨(some 26), .extract 0 (.t 22), none⟩, ⟨(some 27), .extract 1 (.t 22), none⟩, ⟨(some 7), .mov (.t 26), none⟩, ⟨(some 8), .mov (.t 27), none⟩] none (some [8, 5, 7, 6, 4, 3, 0])) 
 (.seq 
 (.seq 
 (.region [⟨(some 28), .mov (.t 6), none⟩, ⟨(some 29), .bin .gtr .num true (.t 28) (.c (.int .i64 (0))), none⟩] none (some [29, 8, 5, 7, 6, 4, 3, 0])) 
 (.cond (.t 29) 
 (.region [⟨(some 30), .mov (.t 5), none⟩, ⟨(some 31), .bin .add .str true (.t 30) (.c (.str [10])), none⟩, ⟨(some 5), .mov (.t 31), none⟩] none (some [8, 5, 7, 6, 4, 3, 0])) .skip)) 
 (.seq 
 (.seq 
 (.region [⟨(some 32), .mov (.t 8), none⟩, ⟨(some 33), .bin .neq .num true (.t 32) (.c (.int .i64 (0))), none⟩, ⟨(some 34), .mov (.t 33), none⟩, ⟨(some 35), .mov (.t 4), (some (2, false))⟩, ⟨(some 36), .mov (.t 6), (some (2, false))⟩, ⟨(some 37), .idxAddr 1 (.t 35) (.t 36), (some (2, false))⟩, ⟨(some 38), .load 1 false (.t 37), (some (2, false))⟩, ⟨(some 39), .mov (.t 5), (some (2, false))⟩, ⟨(some 40), .len .str (.t 39), (some (2, false))⟩, ⟨(some 41), .bin .neq .num false (.t 38) (.t 40), (some (2, false))⟩, ⟨(some 42), .pick (.t 34) (.c (.bool true)) (.t 41), none⟩] none (some [42, 5, 7, 6, 4, 3, 0])) 
 (.cond (.t 42) 
 (.seq 
 (.region [⟨(some 2), .mov (.c (.bool false)), none⟩] none (some [2])) .ret) .skip)) 
 (.region [⟨(some 43), .mov (.t 5), none⟩, ⟨(some 44), .mov (.t 7), none⟩, ⟨(some 45), .bin .add .str false (.t 43) (.t 44), none⟩, ⟨(some 5), .mov (.t 45), none⟩] none (some [6, 4, 3, 5, 0])))))) 
 (.region [⟨(some 20), .mov (.t 6), none⟩, ⟨(some 21), .bin .add .num true (.t 20) (.c (.int .i64 (1))), none⟩, ⟨(some 6), .mov (.t 21), none⟩] none (some [6, 4, 3, 5, 0]))))))) 
 (.seq 
 (.region [⟨(some 47), .mov (.t 0), none⟩, ⟨(some 48), .mov (.t 4), none⟩, ⟨(some 49), .len .slice (.t 48), none⟩, ⟨(some 50), .call (.c (.fn 17 [])) [(.t 47), (.t 49)], none⟩, ⟨(some 46), .mov (.t 50), none⟩, ⟨(some 51), .extract 0 (.t 46), none⟩, ⟨(some 52), .extract 1 (.t 46), none⟩, ⟨(some 9), .mov (.t 51), none⟩, ⟨(some 10), .mov (.t 52), none⟩] none (some [3, 5, 0, 10])) 
 (.seq 
 (.region [⟨(some 53), .mov (.t 3), none⟩, ⟨(some 54), .mov (.t 53), none⟩, ⟨(some 55), .mov (.t 5), (some (1, true))⟩, ⟨(some 56), .mov (.t 0), (some (1, true))⟩, ⟨(some 57), .bin .eql .str false (.t 55) (.t 56), (some (1, true))⟩, ⟨(some 58), .pick (.t 54) (.t 57) (.c (.bool false)), none⟩, ⟨(some 59), .mov (.t 58), none⟩, ⟨(some 60), .mov (.t 10), (some (6, true))⟩, ⟨(some 61), .bin .eql .num true (.t 60) (.c (.int .i64 (20))), (some (6, true))⟩, ⟨(some 62), .pick (.t 59) (.t 61) (.c (.bool false)), none⟩, ⟨(some 2), .mov (.t 62), none⟩] none (some [2])) .ret)))))))), [.tmp 2]⟩
/-- diaeresis/diaeresislaw02.PlaceLines -/
def fn8 : RFn := ⟨73, 
 (.seq 
 (.region [⟨(some 6), .mov (.c (.bool false)), none⟩] none (some [0, 1, 2])) 
 (.seq 
 (.region [⟨(some 16), .call (.c (.fn 10 [])) [], none⟩, ⟨(some 7), .mov (.t 16), none⟩] none (some [0, 1, 2, 7])) 
 (.seq 
 (.region [⟨(some 17), .mov (.t 0), none⟩, ⟨(some 18), .call (.c (.fn 11 [])) [(.t 17)], none⟩, ⟨(some 0), .mov (.t 18), none⟩] none (some [1, 2, 7, 0])) 
 (.seq 
 (.region [⟨(some 20), .mov (.t 0), none⟩, ⟨(some 21), .mov (.t 1), none⟩, ⟨(some 22), .call (.c (.fn 17 [])) [(.t 20), (.t 21)], none⟩, ⟨(some 19), .mov (.t 22), none⟩, ⟨(some 23), .extract 0 (.t 19), none⟩, ⟨(some 24), .extract 1 (.t 19), none⟩, ⟨(some 8), .mov (.t 23), none⟩, ⟨(some 9), .mov (.t 24), none⟩] none (some [1, 2, 7, 0, 8, 9])) 
 (.seq 
 (.region [⟨(some 26), .mov (.t 0), none⟩, ⟨(some 27), .mov (.t 1), none⟩, ⟨(some 28), .call (.c (.fn 18 [])) [(.t 26), (.t 27)], none⟩, ⟨(some 25), .mov (.t 28), none⟩, ⟨(some 29), .extract 0 (.t 25), none⟩, ⟨(some 30), .extract 1 (.t 25), none⟩, ⟨(some 10), .mov (.t 29), none⟩, ⟨(some 11), .mov (.t 30), none⟩] none (some [1, 2, 7, 0, 8, 10, 9, 11])) 
 (.seq 
 (.region [⟨(some 32), .mov (.t 0), none⟩, ⟨(some 33), .mov (.t 1), none⟩, ⟨(some 34), .mov (.t 2), none⟩, ⟨(some 35), .call (.c (.fn 19 [])) [(.t 32), (.t 33), (.t 34)], none⟩, ⟨(some 31), .mov (.t 35), none⟩, ⟨(some 36), .extract 0 (.t 31), none⟩, ⟨(some 37), .extract 1 (.t 31), none⟩, ⟨(some 12), .mov (.t 36), none⟩, ⟨(some 13), .mov (.t 37), none⟩] none (some [1, 2, 7, 0, 8, 10, 9, 11, 12, 13])) 
 (.seq 
 (.region [⟨(some 39), .mov (.t 0), none⟩, ⟨(some 40), .mov (.t 1), none⟩, ⟨(some 41), .mov (.t 2), none⟩, ⟨(some 42), .call (.c (.fn 20 [])) [(.t 39), (.t 40), (.t 41)], none⟩, ⟨(some 38), .mov (.t 42), none⟩, ⟨(some 43), .extract 0 (.t 38), none⟩, ⟨(some 44), .extract 1 (.t 38), none⟩, ⟨(some 14), .mov (.t 43), none⟩, ⟨(some 15), .mov (.t 44), none⟩] none (some [7, 0, 8, 10, 9, 11, 12, 14, 13, 15])) 
 (.seq 
 (.region [⟨(some 45), .mov (.t 7), none⟩, ⟨(some 46), .mov (.t 45), none⟩, ⟨(some 47), .mov (.t 0), (some (1, true))⟩, ⟨(some 48), .call (.c (.fn 16 [])) [(.t 47)], (some (1, true))⟩, ⟨(some 49), .mov (.t 0), (some (1, true))⟩, ⟨(some 50), .call (.c (.fn 22 [])) [(.t 49)], (some (1, true))⟩, ⟨(some 51), .call (.c (.fn 21 [])) [(.t 48), (.t 50)], (some (1, true))⟩, ⟨(some 52), .pick (.t 46) (.t 51) (.c (.bool false)), none⟩, ⟨(some 53), .mov (.t 52), none⟩, ⟨(some 54), .mov (.t 8), (some (8, true))⟩, ⟨(some 55), .mov (.t 10), (some (8, true))⟩, ⟨(some 56), .bin .eql .str false (.t 54) (.t 55), (some (8, true))⟩, ⟨(some 57), .pick (.t 53) (.t 56) (.c (.bool false)), none⟩, ⟨(some 58), .mov (.t 57), none⟩, ⟨(some 59), .mov (.t 9), (some (13, true))⟩, ⟨(some 60), .mov (.t 11), (some (13, true))⟩, ⟨(some 61), .bin .eql .num false (.t 59) (.t 60), (some (13, true))⟩, ⟨(some 62), .pick (.t 58) (.t 61) (.c (.bool false)), none⟩, ⟨(some 63), .mov (.t 62), none⟩, ⟨(some 64), .mov (.t 12), (some (18, true))⟩, ⟨(some 65), .mov (.t 14), (some (18, true))⟩, ⟨(some 66), .bin .eql .num false (.t 64) (.t 65), (some (18, true))⟩, ⟨(some 67), .pick (.t 63) (.t 66) (.c (.bool false)), none⟩, ⟨(some 68), .mov (.t 67), none⟩, ⟨(some 69), .mov (.t 13), (some (23, true))⟩, ⟨(some 70), .mov (.t 15), (some (23, true))⟩, ⟨(some 71), .bin .eql .num false (.t 69) (.t 70), (some (23, true))⟩, ⟨(some 72), .pick (.t 68) (.t 71) (.c (.bool false)), none⟩, ⟨(some 6), .mov (.t 72), none⟩] none (some [6])) .ret)))))))), [.tmp 6]⟩
/-- diaeresis/diaeresislaw02.PlaceUnits -/
def fn9 : RFn := ⟨106, 
 (.seq 
 (.region [⟨(some 4), .mov (.c (.bool false)), none⟩] none (some [0, 1])) 
 (.seq 
 (.region [⟨(some 14), .call (.c (.fn 10 [])) [], none⟩, ⟨(some 5), .mov (.t 14), none⟩] none (some [0, 1, 5])) 
 (.seq 
 (.region [⟨(some 15), .mov (.t 0), none⟩, ⟨(some 16), .call (.c (.fn 11 [])) [(.t 15)], none⟩, ⟨(some 0), .mov (.t 16), none⟩] none (some [0, 1, 5])) 
 (.seq 
 (.region [⟨(some 18), .mov (.t 0), none⟩, ⟨(some 19), .mov (.t 1), none⟩, ⟨(some 20), .call (.c (.fn 17 [])) [(.t 18), (.t 19)], none⟩, ⟨(some 17), .mov (.t 20), none⟩, ⟨(some 21), .extract 0 (.t 17), none⟩, ⟨(some 22), .extract 1 (.t 17), none⟩, ⟨(some 6), .mov (.t 21), none⟩, ⟨(some 7), .mov (.t 22), none⟩] none (some [0, 1, 7, 5, 6])) 
 (.seq 
 (.region [⟨(some 24), .mov (.t 0), none⟩, ⟨(some 25), .mov (.t 1), none⟩, ⟨(some 26), .call (.c (.fn 19 [])) [(.t 24), (.t 25), (.c (.int .i64 (1)))], none⟩, ⟨(some 23), .mov (.t 26), none⟩, ⟨(some 27), .extract 0 (.t 23), none⟩, ⟨(some 28), .extract 1 (.t 23), none⟩, ⟨(some 8), .mov (.t 27), none⟩, ⟨(some 9), .mov (.t 28), none⟩] none (some [0, 1, 7, 5, 9, 6, 8])) 
 (.seq 
 (.region [⟨(some 30), .mov (.t 0), none⟩, ⟨(some 31), .mov (.t 1), none⟩, ⟨(some 32), .call (.c (.fn 19 [])) [(.t 30), (.t 31), (.c (.int .i64 (2)))], none⟩, ⟨(some 29), .mov (.t 32), none⟩, ⟨(some 33), .extract 0 (.t 29), none⟩, ⟨(some 34), .extract 1 (.t 29), none⟩, ⟨(some 10), .mov (.t 33), none⟩, ⟨(some 11), .mov (.t 34), none⟩] none (some [0, 1, 7, 5, 9, 11, 6, 8, 10])) 
 (.seq 
 (.region [⟨(some 36), .mov (.t 0), none⟩, ⟨(some 37), .mov (.t 1), none⟩, ⟨(some 38), .call (.c (.fn 19 [])) [(.t 36), (.t 37), (.c (.int .i64 (3)))], none⟩, ⟨(some 35), .mov (.t 38), none⟩, ⟨(some 39), .extract 0 (.t 35), none⟩, ⟨(some 40), .extract 1 (.t 35), none⟩, ⟨(some 12), .mov (.t 39), none⟩, ⟨(some 13), .mov (.t 40), none⟩] none (some [7, 5, 9, 11, 13, 6, 8, 12, 10])) 
 (.seq 
 (.seq 
 (.region [⟨(some 41), .mov (.t 7), none⟩, ⟨(some 42), .bin .neq .num true (.t 41) (.c (.int .i64 (0))), none⟩] none (some [42, 7, 5, 9, 11, 13, 6, 8, 12, 10])) 
 (.cond (.t 42) 
 (.seq 
 (.region [⟨(some 43), .mov (.t 5), none⟩, ⟨(some 44), .mov (.t 43), none⟩, ⟨(some 45), .mov (.t 9), (some (1, true))⟩, ⟨(some 46), .mov (.t 7), (some (1, true))⟩, ⟨(some 47), .bin .eql .num false (.t 45) (.t 46), (some (1, true))⟩, ⟨(some 48), .pick (.t 44) (.t 47) (.c (.bool false)), none⟩, ⟨(some 49), .mov (.t 48), none⟩, ⟨(some 50), .mov (.t 11), (some (6, true))⟩, ⟨(some 51), .mov (.t 7), (some (6, true))⟩, ⟨(some 52), .bin .eql .num false (.t 50) (.t 51), (some (6, true))⟩, ⟨(some 53), .pick (.t 49) (.t 52) (.c (.bool false)), none⟩, ⟨(some 54), .mov (.t 53), none⟩, ⟨(some 55), .mov (.t 13), (some (11, true))⟩, ⟨(some 56), .mov (.t 7), (some (11, true))⟩, ⟨(some 57), .bin .eql .num false (.t 55) (.t 56), (some (11, true))⟩, ⟨(some 58), .pick (.t 54) (.t 57) (.c (.bool false)), none⟩, ⟨(some 59), .mov (.t 58), none⟩, ⟨(some 60), .mov (.t 8), (some (16, true))⟩, ⟨(some 61), .bin .eql .num true (.t 60) (.c (.int .i64 (0))), (some (16, true))⟩, ⟨(some 62), .pick (.t 59) (.t 61) (.c (.bool false)), none⟩, ⟨(some 63), .mov (.t 62), none⟩, ⟨(some 64), .mov (.t 10), (some (20, true))⟩, ⟨(some 65), .bin .eql .num true (.t 64) (.c (.int .i64 (0))), (some (20, true))⟩, ⟨(some 66), .pick (.t 63) (.t 65) (.c (.bool false)), none⟩, ⟨(some 67), .mov (.t 66), none⟩, ⟨(some 68), .mov (.t 12), (some (24, true))⟩, ⟨(some 69), .bin .eql .num true (.t 68) (.c (.int .i64 (0))), (some (24, true))⟩, ⟨(some 70), .pick (.t 67) (.t 69) (.c (.bool false)), none⟩, ⟨(some 4), .mov (.t 70), none⟩] none (some [4])) .ret) .skip)) 
 (.seq 
 (.region [⟨(some 71), .mov (.t 5), none⟩, ⟨(some 72), .mov (.t 71), none⟩, ⟨(some 73), .mov (.t 9), (some (1, true))⟩, ⟨(some 74), .bin .eql .num true (.t 73) (.c (.int .i64 (0))), (some (1, true))⟩, ⟨(some 75), .pick (.t 72) (.t 74) (.c (.bool false)), none⟩, ⟨(some 76), .mov (.t 75), none⟩, ⟨(some 77), .mov (.t 11), (some (5, true))⟩, ⟨(some 78), .bin .eql .num true (.t 77) (.c (.int .i64 (0))), (some (5, true))⟩, ⟨(some 79), .pick (.t 76) (.t 78) (.c (.bool false)), none⟩, ⟨(some 80), .mov (.t 79), none⟩, ⟨(some 81), .mov (.t 13), (some (9, true))⟩, ⟨(some 82), .bin .eql .num true (.t 81) (.c (.int .i64 (0))), (some (9, true))⟩, ⟨(some 83), .pick (.t 80) (.t 82) (.c (.bool false)), none⟩, ⟨(some 84), .mov (.t 83), none⟩, ⟨(some 85), .mov (.t 8), (some (13, true))⟩, ⟨(some 86), .mov (.t 6), (some (13, true))⟩, ⟨(some 87), .len .str (.t 86), (some (13, true))⟩, ⟨(some 88), .bin .eql .num false (.t 85) (.t 87), (some (13, true))⟩, ⟨(some 89), .pick (.t 84) (.t 88) (.c (.bool false)), none⟩, ⟨(some 90), .mov (.t 89), none⟩, ⟨(some 91), .mov (.t 10), (some (19, true))⟩, ⟨(some 92), .mov (.t 12), (some (19, true))⟩, ⟨(some 93), .bin .leq .num false (.t 91) (.t 92), (some (19, true))⟩, ⟨(some 94), .pick (.t 90) (.t 93) (.c (.bool false)), none⟩, ⟨(some 95), .mov (.t 94), none⟩, ⟨(some 96), .mov (.t 12), (some (24, true))⟩, ⟨(some 97), .mov (.t 8), (some (24, true))⟩, ⟨(some 98), .bin .leq .num false (.t 96) (.t 97), (some (24, true))⟩, ⟨(some 99), .pick (.t 95) (.t 98) (.c (.bool false)), none⟩, ⟨(some 100), .mov (.t 99), none⟩, ⟨(some 101), .mov (.t 12), (some (29, true))⟩, ⟨(some 102), .mov (.t 10), (some (29, true))⟩, ⟨(some 103), .bin .mul .num true (.c (.int .i64 (2))) (.t 102), (some (29, true))⟩, ⟨(some 104), .bin .leq .num false (.t 101) (.t 103), (some (29, true))⟩, ⟨(some 105), .pick (.t 100) (.t 104) (.c (.bool false)), none⟩, ⟨(some 4), .mov (.t 105), none⟩] none (some [4])) .ret))))))))), [.tmp 4]⟩
/-- diaeresis/diaeresislaw02.shown -/
def fn10 : RFn := ⟨84, 
 (.seq 
 (.region [⟨(some 0), .mov (.c (.bool false)), none⟩] none (some [])) 
 (.seq 
 (.region [⟨(some 1), .mov (.c (.str [97, 226, 134, 144, 49, 10, 98])), none⟩] none (some [1])) 
 (.seq 
 (.region [⟨(some 15), .mov (.t 1), none⟩, ⟨(some 16), .call (.c (.fn 12 [])) [(.t 15), (.c (.int .i64 (4))), (.c (.int .i64 (1)))], none⟩, ⟨(some 14), .mov (.t 16), none⟩, ⟨(some 17), .extract 0 (.t 14), none⟩, ⟨(some 18), .extract 1 (.t 14), none⟩, ⟨(some 19), .extract 2 (.t 14), none⟩, ⟨(some 2), .mov (.t 17), none⟩, ⟨(some 3), .mov (.t 18), none⟩, ⟨(some 4), .mov (.t 19), none⟩] none (some [1, 2, 3, 4])) 
 (.seq 
 (.region [⟨(some 21), .mov (.t 1), none⟩, ⟨(some 22), .call (.c (.fn 12 [])) [(.t 21), (.c (.int .i64 (4))), (.c (.int .i64 (3)))], none⟩, ⟨(some 20), .mov (.t 22), none⟩, ⟨(some 23), .extract 0 (.t 20), none⟩, ⟨(some 24), .extract 1 (.t 20), none⟩, ⟨(some 25), .extract 2 (.t 20), none⟩, ⟨(some 5), .mov (.t 23), none⟩, ⟨(some 6), .mov (.t 24), none⟩, ⟨(some 7), .mov (.t 25), none⟩] none (some [1, 2, 3, 4, 5, 6, 7])) 
 (.seq 
 (.region [⟨(some 27), .mov (.t 1), none⟩, ⟨(some 28), .call (.c (.fn 12 [])) [(.t 27), (.c (.int .i64 (2))), (.c (.int .i64 (2)))], none⟩, ⟨(some 26), .mov (.t 28), none⟩, ⟨(some 29), .extract 0 (.t 26), none⟩, ⟨(some 30), .extract 1 (.t 26), none⟩, ⟨(some 31), .extract 2 (.t 26), none⟩, ⟨(some 8), .mov (.t 29), none⟩, ⟨(some 9), .mov (.t 30), none⟩, ⟨(some 10), .mov (.t 31), none⟩] none (some [1, 2, 3, 4, 5, 6, 7, 10])) 
 (.seq 
 (.region [⟨(some 33), .mov (.t 1), none⟩, ⟨(some 34), .call (.c (.fn 14 [])) [(.t 33), (.c (.int .i64 (1))), (.c (.int .i64 (1))), (.c (.int .i64 (2)))], none⟩, ⟨(some 32), .mov (.t 34), none⟩, ⟨(some 35), .extract 0 (.t 32), none⟩, ⟨(some 36), .extract 1 (.t 32), none⟩, ⟨(some 11), .mov (.t 35), none⟩, ⟨(some 12), .mov (.t 36), none⟩] none (some [1, 2, 3, 4, 5, 6, 7, 10, 11, 12])) 
 (.seq 
 (.region [⟨(some 37), .mov (.t 1), none⟩, ⟨(some 38), .call (.c (.fn 16 [])) [(.t 37)], none⟩, ⟨(some 13), .mov (.t 38), none⟩] none (some [2, 3, 4, 5, 6, 7, 10, 11, 12, 13])) 
 (.seq 
 (.region [⟨(some 39), .mov (.t 2), none⟩, ⟨(some 40), .bin .eql .num true (.t 39) (.c (.int .i64 (0))), none⟩, ⟨(some 41), .mov (.t 40), none⟩, ⟨(some 42), .mov (.t 3), (some (2, true))⟩, ⟨(some 43), .bin .eql .num true (.t 42) (.c (.int .i64 (4))), (some (2, true))⟩, ⟨(some 44), .pick (.t 41) (.t 43) (.c (.bool false)), none⟩, ⟨(some 45), .mov (.t 44), none⟩, ⟨(some 46), .mov (.t 4), (some (6, true))⟩, ⟨(some 47), .bin .eql .num true (.t 46) (.c (.int .i64 (0))), (some (6, true))⟩, ⟨(some 48), .pick (.t 45) (.t 47) (.c (.bool false)), none⟩, ⟨(some 49), .mov (.t 48), none⟩, ⟨(some 50), .mov (.t 5), (some (10, true))⟩, ⟨(some 51), .bin .eql .num true (.t 50) (.c (.int .i64 (0))), (some (10, true))⟩, ⟨(some 52), .pick (.t 49) (.t 51) (.c (.bool false)), none⟩, ⟨(some 53), .mov (.t 52), none⟩, ⟨(some 54), .mov (.t 6), (some (14, true))⟩, ⟨(some 55), .bin .eql .num true (.t 54) (.c (.int .i64 (2))), (some (14, true))⟩, ⟨(some 56), .pick (.t 53) (.t 55) (.c (.bool false)), none⟩, ⟨(some 57), .mov (.t 56), none⟩, ⟨(some 58), .mov (.t 7), (some (18, true))⟩, ⟨(some 59), .bin .eql .num true (.t 58) (.c (.int .i64 (0))), (some (18, true))⟩, ⟨(some 60), .pick (.t 57) (.t 59) (.c (.bool false)), none⟩, ⟨(some 61), .mov (.t 60), none⟩, ⟨(some 62), .mov (.t 10), (some (22, true))⟩, ⟨(some 63), .bin .eql .num true (.t 62) (.c (.int .i64 (20))), (some (22, true))⟩, ⟨(some 64), .pick (.t 61) (.t 63) (.c (.bool false)), none⟩, ⟨(some 65), .mov (.t 64), none⟩, ⟨(some 66), .mov (.t 11), (some (26, true))⟩, ⟨(some 67), .bin .eql .num true (.t 66) (.c (.int .i64 (7))), (some (26, true))⟩, ⟨(some 68), .pick (.t 65) (.t 67) (.c (.bool false)), none⟩, ⟨(some 69), .mov (.t 68), none⟩, ⟨(some 70), .mov (.t 12), (some (30, true))⟩, ⟨(some 71), .bin .eql .num true (.t 70) (.c (.int .i64 (0))), (some (30, true))⟩, ⟨(some 72), .pick (.t 69) (.t 71) (.c (.bool false)), none⟩, ⟨(some 73), .mov (.t 72), none⟩, ⟨(some 74), .mov (.t 13), (some (34, true))⟩, ⟨(some 75), .len .slice (.t 74), (some (34, true))⟩, ⟨(some 76), .bin .eql .num true (.t 75) (.c (.int .i64 (2))), (some (34, true))⟩, ⟨(some 77), .pick (.t 73) (.t 76) (.c (.bool false)), none⟩, ⟨(some 78), .mov (.t 77), none⟩, ⟨(some 79), .mov (.t 13), (some (39, true))⟩, ⟨(some 80), .idxAddr 1 (.t 79) (.c (.int .i64 (1))), (some (39, true))⟩, ⟨(some 81), .load 1 false (.t 80), (some (39, true))⟩, ⟨(some 82), .bin .eql .num true (.t 81) (.c (.int .i64 (6))), (some (39, true))⟩, ⟨(some 83), .pick (.t 78) (.t 82) (.c (.bool false)), none⟩, ⟨(some 0), .mov (.t 83), none⟩] none (some [0])) .ret)))))))), [.tmp 0]⟩
/-- diaeresis/diaeresislaw02.cut -/
def fn11 : RFn := ⟨8, 
 (.seq 
 (.region [⟨(some 2), .mov (.c (.str [])), none⟩] none (some [0])) 
 (.seq 
 (.region [⟨(some 3), .mov (.t 0), none⟩, ⟨(some 4), .mov (.t 0), none⟩, ⟨(some 5), .len .str (.t 4), none⟩, ⟨(some 6), .minmax false [(.t 5), (.c (.int .i64 (600)))], none⟩, ⟨(some 7), .strSlice (.t 3) none (some (.t 6)), none⟩, ⟨(some 2), .mov (.t 7), none⟩] none (some [2])) .ret)), [.tmp 2]⟩
/-- diaeresis/place.At -/
def fn12 : RFn := ⟨41, 
 (.seq 
 (.region [⟨(some 4), .box (.t 1), none⟩, ⟨(some 6), .alloc [(.int .i64 (0))], none⟩, ⟨(some 7), .alloc [(.int .i64 (0))], none⟩, ⟨(some 8), .alloc [(.int .i64 (0))], none⟩] none (some [0, 2, 4, 6, 7, 8])) 
 (.seq 
 (.region [⟨(some 14), .load 1 false (.t 4), none⟩, ⟨(some 15), .mov (.t 0), none⟩, ⟨(some 16), .call (.c (.fn 16 [])) [(.t 15)], none⟩, ⟨(some 17), .call (.c (.fn 23 [])) [(.t 14), (.t 16)], none⟩, ⟨(some 9), .alloc [(.int .i64 (0))], none⟩, ⟨none, .store 1 (.t 9) (.t 17), none⟩] (some [(0, 0), (1, 0), (2, 2), (3, 7), (4, 0), (5, 31)]) (some [0, 2, 9, 4, 6, 7, 8])) 
 (.seq 
 (.region [⟨(some 19), .mov (.t 0), none⟩, ⟨(some 20), .load 1 false (.t 9), none⟩, ⟨(some 21), .mov (.t 2), none⟩, ⟨(some 22), .call (.c (.fn 24 [])) [(.t 19), (.t 20), (.t 21)], none⟩, ⟨(some 18), .mov (.t 22), none⟩, ⟨(some 23), .extract 0 (.t 18), none⟩, ⟨(some 24), .extract 1 (.t 18), none⟩, ⟨(some 10), .mov (.t 23), none⟩, ⟨(some 11), .mov (.t 24), none⟩] none (some [11, 10, 9, 4, 6, 7, 8])) 
 (.seq 
 (.seq 
 (.region [⟨(some 25), .mov (.t 11), none⟩, ⟨(some 26), .bin .neq .iface true (.t 25) (.c .nilI), none⟩] none (some [26, 11, 10, 9, 4, 6, 7, 8])) 
 (.cond (.t 26) 
 (.seq 
 (.region [⟨(some 27), .mov (.t 11), none⟩, ⟨(some 28), .call (.c (.fn 25 [])) [(.t 27)], none⟩, ⟨none, .store 1 (.t 6) (.c (.int .i64 (0))), none⟩, ⟨none, .store 1 (.t 7) (.c (.int .i64 (0))), none⟩, ⟨none, .store 1 (.t 8) (.t 28), none⟩] none (some [6, 7, 8])) .ret) .skip)) 
 (.seq 
 (.seq 
 (.region [⟨(some 29), .mov (.t 10), none⟩, ⟨(some 30), .call (.c (.fn 26 [])) [(.t 29)], none⟩] none (some [30, 9, 4, 6, 7, 8])) 
 (.block 0 
 (.rangeFunc (.t 30) [31, 32] 
 (.seq 
 (.region [⟨(some 12), .mov (.t 31), none⟩] none (some [32, 12, 4, 8, 7, 6, 9])) 
 (.region [⟨(some 13), .mov (.t 32), none⟩] none (some [12, 4, 8, 7, 6, 13, 9]))) 
 (.block 1 
 (.seq 
 (.region [⟨(some 33), .mov (.t 12), none⟩, ⟨(some 34), .load 1 false (.t 4), none⟩, ⟨(some 35), .bin .eql .num false (.t 33) (.t 34), none⟩] none (some [35, 8, 7, 6, 13, 9])) 
 (.cond (.t 35) 
 (.seq 
 (.region [⟨(some 36), .load 1 false (.t 9), none⟩, ⟨(some 37), .mov (.t 13), none⟩, ⟨none, .store 1 (.t 6) (.t 36), none⟩, ⟨none, .store 1 (.t 7) (.t 37), none⟩, ⟨none, .store 1 (.t 8) (.c (.int .i64 (0))), none⟩] none (some [])) .ret) .skip)))))) 
 (.seq 
 (.region [⟨(some 38), .build [(.int .i64 (0))] [(0, 1, (.c (.int .i64 (20))))], none⟩, ⟨(some 39), .mkI 51 (.t 38), none⟩, ⟨(some 40), .call (.c (.fn 25 [])) [(.t 39)], none⟩, ⟨none, .store 1 (.t 6) (.c (.int .i64 (0))), none⟩, ⟨none, .store 1 (.t 7) (.c (.int .i64 (0))), none⟩, ⟨none, .store 1 (.t 8) (.t 40), none⟩] none (some [6, 7, 8])) .ret)))))), [.cell 6 1 false, .cell 7 1 false, .cell 8 1 false]⟩
/-- diaeresis/diaeresisref02.At -/
def fn13 : RFn := ⟨74, 
 (.seq 
 (.region [⟨(some 6), .mov (.c (.int .i64 (0))), none⟩, ⟨(some 7), .mov (.c (.int .i64 (0))), none⟩, ⟨(some 8), .mov (.c (.int .i64 (0))), none⟩] none (some [0, 2, 1])) 
 (.seq 
 (.seq 
 (.region [⟨(some 16), .mov (.t 2), none⟩, ⟨(some 17), .call (.c (.fn 27 [])) [(.t 16)], none⟩, ⟨(some 18), .un .not (.t 17), none⟩] none (some [18, 0, 2, 1])) 
 (.cond (.t 18) 
 (.seq 
 (.region [⟨(some 6), .mov (.c (.int .i64 (0))), none⟩, ⟨(some 7), .mov (.c (.int .i64 (0))), none⟩, ⟨(some 8), .mov (.c (.int .i64 (2))), none⟩] none (some [6, 7, 8])) .ret) .skip)) 
 (.seq 
 (.seq 
 (.region [⟨(some 19), .mov (.t 1), none⟩, ⟨(some 20), .bin .lss .num true (.t 19) (.c (.int .i64 (0))), none⟩, ⟨(some 21), .mov (.t 20), none⟩, ⟨(some 22), .mov (.t 1), (some (2, false))⟩, ⟨(some 23), .mov (.t 0), (some (2, false))⟩, ⟨(some 24), .len .str (.t 23), (some (2, false))⟩, ⟨(some 25), .bin .gtr .num false (.t 22) (.t 24), (some (2, false))⟩, ⟨(some 26), .pick (.t 21) (.c (.bool true)) (.t 25), none⟩] none (some [26, 0, 2, 1])) 
 (.cond (.t 26) 
 (.seq 
 (.region [⟨(some 6), .mov (.c (.int .i64 (0))), none⟩, ⟨(some 7), .mov (.c (.int .i64 (0))), none⟩, ⟨(some 8), .mov (.c (.int .i64 (20))), none⟩] none (some [6, 7, 8])) .ret) .skip)) 
 (.seq 
 (.region [⟨(some 27), .mov (.t 0), none⟩, ⟨(some 28), .call (.c (.fn 22 [])) [(.t 27)], none⟩, ⟨(some 9), .mov (.t 28), none⟩] none (some [0, 2, 1, 9])) 
 (.seq 
 (.region [⟨(some 29), .mov (.t 9), none⟩, ⟨(some 30), .len .slice (.t 29), none⟩, ⟨(some 31), .bin .sub .num true (.t 30) (.c (.int .i64 (1))), none⟩, ⟨(some 10), .mov (.t 31), none⟩] none (some [0, 2, 10, 1, 9])) 
 (.seq 
 (.block 0 
 (.loop [32, 33, 36, 38, 10] [] 
 (.seq 
 (.seq 
 (.region [⟨(some 32), .mov (.t 9), none⟩, ⟨(some 33), .mov (.t 10), none⟩, ⟨(some 34), .idxAddr 1 (.t 32) (.t 33), none⟩, ⟨(some 35), .load 1 false (.t 34), none⟩, ⟨(some 36), .mov (.t 1), none⟩, ⟨(some 37), .bin .gtr .num false (.t 35) (.t 36), none⟩] none (some [37, 0, 2, 10, 1, 9])) 
 (.cond (.t 37) .skip (.exit 0))) 
 (.block 1 
 (.region [⟨(some 38), .mov (.t 10), none⟩, ⟨(some 39), .bin .sub .num true (.t 38) (.c (.int .i64 (1))), none⟩, ⟨(some 10), .mov (.t 39), none⟩] none (some [0, 2, 10, 1, 9])))))) 
 (.seq 
 (.region [⟨(some 41), .mov (.t 0), none⟩, ⟨(some 42), .mov (.t 10), none⟩, ⟨(some 43), .call (.c (.fn 18 [])) [(.t 41), (.t 42)], none⟩, ⟨(some 40), .mov (.t 43), none⟩, ⟨(some 44), .extract 0 (.t 40), none⟩, ⟨(some 45), .extract 1 (.t 40), none⟩, ⟨(some 11), .mov (.t 44), none⟩, ⟨(some 12), .mov (.t 45), none⟩] none (some [11, 2, 10, 1, 9])) 
 (.seq 
 (.region [⟨(some 47), .mov (.t 11), none⟩, ⟨(some 48), .mov (.t 2), none⟩, ⟨(some 49), .call (.c (.fn 28 [])) [(.t 47), (.t 48)], none⟩, ⟨(some 46), .mov (.t 49), none⟩, ⟨(some 50), .extract 0 (.t 46), none⟩, ⟨(some 51), .extract 1 (.t 46), none⟩, ⟨(some 13), .mov (.t 50), none⟩, ⟨(some 14), .mov (.t 51), none⟩] none (some [10, 14, 1, 13, 9])) 
 (.seq 
 (.seq 
 (.region [⟨(some 15), .mov (.c (.int .i64 (0))), none⟩] none (some [10, 14, 1, 13, 9, 15])) 
 (.block 2 
 (.loop [52, 53, 58, 59, 62, 63, 67, 69, 70, 71, 6, 7, 8, 56, 15] [] 
 (.seq 
 (.seq 
 (.region [⟨(some 52), .mov (.t 15), none⟩, ⟨(some 53), .mov (.t 13), none⟩, ⟨(some 54), .len .slice (.t 53), none⟩, ⟨(some 55), .bin .lss .num false (.t 52) (.t 54), none⟩] none (some [55, 9, 13, 1, 14, 10, 15])) 
 (.cond (.t 55) .skip (.exit 2))) 
 (.seq 
 (.block 3 
 (.seq 
 (.region [⟨(some 58), .mov (.t 9), none⟩, ⟨(some 59), .mov (.t 10), none⟩, ⟨(some 60), .idxAddr 1 (.t 58) (.t 59), none⟩, ⟨(some 61), .load 1 false (.t 60), none⟩, ⟨(some 62), .mov (.t 13), none⟩, ⟨(some 63), .mov (.t 15), none⟩, ⟨(some 64), .idxAddr 1 (.t 62) (.t 63), none⟩, ⟨(some 65), .load 1 false (.t 64), none⟩, ⟨(some 66), .bin .add .num false (.t 61) (.t 65), none⟩, ⟨(some 67), .mov (.t 1), none⟩, ⟨(some 68), .bin .eql .num false (.t 66) (.t 67), none⟩] (some [(0, 0), (1, 0), (2, 3), (3, 7), (4, 0), (5, 0), (6, 48), (7, 112), (8, 255), (9, 0), (10, 1023)]) (some [68, 15, 10, 14, 1, 13, 9])) 
 (.cond (.t 68) 
 (.seq 
 (.region [⟨(some 69), .mov (.t 10), none⟩, ⟨(some 70), .mov (.t 14), none⟩, ⟨(some 71), .mov (.t 15), none⟩, ⟨(some 72), .idxAddr 1 (.t 70) (.t 71), none⟩, ⟨(some 73), .load 1 false (.t 72), none⟩, ⟨(some 6), .mov (.t 69), none⟩, ⟨(some 7), .mov (.t 73), none⟩, ⟨(some 8), .mov (.c (.int .i64 (0))), none⟩] (some [(0, 0), (1, 0), (2, 0), (3, 6), (4, 14), (5, 1), (6, 63), (7, 127)]) (some [6, 7, 8])) .ret) .skip))) 
 (.region [⟨(some 56), .mov (.t 15), none⟩, ⟨(some 57), .bin .add .num true (.t 56) (.c (.int .i64 (1))), none⟩, ⟨(some 15), .mov (.t 57), none⟩] none (some [10, 14, 1, 13, 9, 15]))))))) 
 (.seq 
 (.region [⟨(some 6), .mov (.c (.int .i64 (0))), none⟩, ⟨(some 7), .mov (.c (.int .i64 (0))), none⟩, ⟨(some 8), .mov (.c (.int .i64 (20))), none⟩] none (some [6, 7, 8])) .ret)))))))))), [.tmp 6, .tmp 7, .tmp 8]⟩
/-- diaeresis/place.Offset -/
def fn14 : RFn := ⟨36, 
 (.seq 
 (.region [⟨(some 6), .box (.t 2), none⟩, ⟨(some 8), .alloc [(.int .i64 (0))], none⟩, ⟨(some 9), .alloc [(.int .i64 (0))], none⟩] none (some [0, 1, 3, 6, 8, 9])) 
 (.seq 
 (.region [⟨(some 15), .mov (.t 0), none⟩, ⟨(some 16), .mov (.t 1), none⟩, ⟨(some 17), .mov (.t 3), none⟩, ⟨(some 18), .call (.c (.fn 24 [])) [(.t 15), (.t 16), (.t 17)], none⟩, ⟨(some 14), .mov (.t 18), none⟩, ⟨(some 19), .extract 0 (.t 14), none⟩, ⟨(some 20), .extract 1 (.t 14), none⟩, ⟨(some 10), .mov (.t 19), none⟩, ⟨(some 11), .mov (.t 20), none⟩] none (some [11, 10, 6, 8, 9])) 
 (.seq 
 (.seq 
 (.region [⟨(some 21), .mov (.t 11), none⟩, ⟨(some 22), .bin .neq .iface true (.t 21) (.c .nilI), none⟩] none (some [22, 11, 10, 6, 8, 9])) 
 (.cond (.t 22) 
 (.seq 
 (.region [⟨(some 23), .mov (.t 11), none⟩, ⟨(some 24), .call (.c (.fn 25 [])) [(.t 23)], none⟩, ⟨none, .store 1 (.t 8) (.c (.int .i64 (0))), none⟩, ⟨none, .store 1 (.t 9) (.t 24), none⟩] none (some [8, 9])) .ret) .skip)) 
 (.seq 
 (.seq 
 (.region [⟨(some 25), .mov (.t 10), none⟩, ⟨(some 26), .call (.c (.fn 26 [])) [(.t 25)], none⟩] none (some [26, 6, 8, 9])) 
 (.block 0 
 (.rangeFunc (.t 26) [27, 28] 
 (.seq 
 (.region [⟨(some 12), .mov (.t 27), none⟩] none (some [28, 6, 9, 8, 12])) 
 (.region [⟨(some 13), .mov (.t 28), none⟩] none (some [13, 6, 9, 8, 12]))) 
 (.block 1 
 (.seq 
 (.region [⟨(some 29), .mov (.t 13), none⟩, ⟨(some 30), .load 1 false (.t 6), none⟩, ⟨(some 31), .bin .eql .num false (.t 29) (.t 30), none⟩] none (some [31, 9, 8, 12])) 
 (.cond (.t 31) 
 (.seq 
 (.region [⟨(some 32), .mov (.t 12), none⟩, ⟨none, .store 1 (.t 8) (.t 32), none⟩, ⟨none, .store 1 (.t 9) (.c (.int .i64 (0))), none⟩] none (some [])) .ret) .skip)))))) 
 (.seq 
 (.region [⟨(some 33), .build [(.int .i64 (0))] [(0, 1, (.c (.int .i64 (20))))], none⟩, ⟨(some 34), .mkI 51 (.t 33), none⟩, ⟨(some 35), .call (.c (.fn 25 [])) [(.t 34)], none⟩, ⟨none, .store 1 (.t 8) (.c (.int .i64 (0))), none⟩, ⟨none, .store 1 (.t 9) (.t 35), none⟩] none (some [8, 9])) .ret))))), [.cell 8 1 false, .cell 9 1 false]⟩
/-- diaeresis/diaeresisref02.Offset -/
def fn15 : RFn := ⟨55, 
 (.seq 
 (.region [⟨(some 8), .mov (.c (.int .i64 (0))), none⟩, ⟨(some 9), .mov (.c (.int .i64 (0))), none⟩] none (some [3, 0, 1, 2])) 
 (.seq 
 (.seq 
 (.region [⟨(some 15), .mov (.t 3), none⟩, ⟨(some 16), .call (.c (.fn 27 [])) [(.t 15)], none⟩, ⟨(some 17), .un .not (.t 16), none⟩] none (some [17, 3, 0, 1, 2])) 
 (.cond (.t 17) 
 (.seq 
 (.region [⟨(some 8), .mov (.c (.int .i64 (0))), none⟩, ⟨(some 9), .mov (.c (.int .i64 (2))), none⟩] none (some [8, 9])) .ret) .skip)) 
 (.seq 
 (.region [⟨(some 19), .mov (.t 0), none⟩, ⟨(some 20), .mov (.t 1), none⟩, ⟨(some 21), .call (.c (.fn 18 [])) [(.t 19), (.t 20)], none⟩, ⟨(some 18), .mov (.t 21), none⟩, ⟨(some 22), .extract 0 (.t 18), none⟩, ⟨(some 23), .extract 1 (.t 18), none⟩, ⟨(some 10), .mov (.t 22), none⟩, ⟨(some 11), .mov (.t 23), none⟩] none (some [11, 10, 3, 0, 1, 2])) 
 (.seq 
 (.seq 
 (.region [⟨(some 24), .mov (.t 11), none⟩, ⟨(some 25), .bin .neq .num true (.t 24) (.c (.int .i64 (0))), none⟩] none (some [25, 11, 10, 3, 0, 1, 2])) 
 (.cond (.t 25) 
 (.seq 
 (.region [⟨(some 26), .mov (.t 11), none⟩, ⟨(some 8), .mov (.c (.int .i64 (0))), none⟩, ⟨(some 9), .mov (.t 26), none⟩] none (some [8, 9])) .ret) .skip)) 
 (.seq 
 (.region [⟨(some 28), .mov (.t 10), none⟩, ⟨(some 29), .mov (.t 3), none⟩, ⟨(some 30), .call (.c (.fn 28 [])) [(.t 28), (.t 29)], none⟩, ⟨(some 27), .mov (.t 30), none⟩, ⟨(some 31), .extract 0 (.t 27), none⟩, ⟨(some 32), .extract 1 (.t 27), none⟩, ⟨(some 12), .mov (.t 31), none⟩, ⟨(some 13), .mov (.t 32), none⟩] none (some [0, 1, 12, 2, 13])) 
 (.seq 
 (.seq 
 (.region [⟨(some 14), .mov (.c (.int .i64 (0))), none⟩] none (some [0, 1, 12, 2, 13, 14])) 
 (.block 0 
 (.loop [33, 34, 39, 40, 43, 45, 47, 50, 51, 8, 9, 37, 14] [] 
 (.seq 
 (.seq 
 (.region [⟨(some 33), .mov (.t 14), none⟩, ⟨(some 34), .mov (.t 13), none⟩, ⟨(some 35), .len .slice (.t 34), none⟩, ⟨(some 36), .bin .lss .num false (.t 33) (.t 35), none⟩] none (some [36, 13, 2, 12, 1, 0, 14])) 
 (.cond (.t 36) .skip (.exit 0))) 
 (.seq 
 (.block 1 
 (.seq 
 (.region [⟨(some 39), .mov (.t 13), none⟩, ⟨(some 40), .mov (.t 14), none⟩, ⟨(some 41), .idxAddr 1 (.t 39) (.t 40), none⟩, ⟨(some 42), .load 1 false (.t 41), none⟩, ⟨(some 43), .mov (.t 2), none⟩, ⟨(some 44), .bin .eql .num false (.t 42) (.t 43), none⟩] none (some [44, 14, 0, 1, 12, 2, 13])) 
 (.cond (.t 44) 
 (.seq 
 (.region [⟨(some 45), .mov (.t 0), none⟩, ⟨(some 46), .call (.c (.fn 22 [])) [(.t 45)], none⟩, ⟨(some 47), .mov (.t 1), none⟩, ⟨(some 48), .idxAddr 1 (.t 46) (.t 47), none⟩, ⟨(some 49), .load 1 false (.t 48), none⟩, ⟨(some 50), .mov (.t 12), none⟩, ⟨(some 51), .mov (.t 14), none⟩, ⟨(some 52), .idxAddr 1 (.t 50) (.t 51), none⟩, ⟨(some 53), .load 1 false (.t 52), none⟩, ⟨(some 54), .bin .add .num false (.t 49) (.t 53), none⟩, ⟨(some 8), .mov (.t 54), none⟩, ⟨(some 9), .mov (.c (.int .i64 (0))), none⟩] (some [(0, 0), (1, 1), (2, 0), (3, 7), (4, 15), (5, 0), (6, 0), (7, 96), (8, 224), (9, 511), (10, 1023), (11, 2047)]) (some [8, 9])) .ret) .skip))) 
 (.region [⟨(some 37), .mov (.t 14), none⟩, ⟨(some 38), .bin .add .num true (.t 37) (.c (.int .i64 (1))), none⟩, ⟨(some 14), .mov (.t 38), none⟩] none (some [0, 1, 12, 2, 13, 14]))))))) 
 (.seq 
 (.region [⟨(some 8), .mov (.c (.int .i64 (0))), none⟩, ⟨(some 9), .mov (.c (.int .i64 (20))), none⟩] none (some [8, 9])) .ret))))))), [.tmp 8, .tmp 9]⟩
/-- diaeresis/place.Lines -/
def fn16 : RFn := ⟨29, 
 (.seq 
 (.region [⟨(some 2), .mov (.c .nilS), none⟩] none (some [0])) 
 (.seq 
 (.region [⟨(some 6), .mkSl 1 [(.c (.int .i64 (0)))], none⟩, ⟨(some 3), .mov (.t 6), none⟩] none (some [0, 3])) 
 (.seq 
 (.seq 
 (.region [⟨(some 7), .mov (.t 0), none⟩, ⟨(some 8), .toBytes (.t 7), none⟩, ⟨(some 9), .len .slice (.t 8), none⟩, ⟨(some 10), .mov (.c (.int .i64 (0))), none⟩] none (some [9, 8, 10, 3])) 
 (.block 0 
 (.loop [12, 4, 5, 15, 17, 18, 3, 10] [(3, 1)] 
 (.seq 
 (.region [⟨(some 11), .bin .lss .num false (.t 10) (.t 9), none⟩] none (some [11, 8, 9, 10, 3])) 
 (.seq 
 (.cond (.t 11) .skip (.exit 0)) 
 (.seq 
 (.block 1 
 (.seq 
 (.region [⟨(some 12), .mov (.t 10), none⟩, ⟨(some 13), .idxAddr 1 (.t 8) (.t 10), none⟩, ⟨(some 14), .load 1 false (.t 13), none⟩, ⟨(some 4), .mov (.t 12), none⟩, ⟨(some 5), .mov (.t 14), none⟩] none (some [5, 4, 10, 9, 8, 3])) 
 (.seq 
 (.region [⟨(some 15), .mov (.t 5), none⟩, ⟨(some 16), .bin .eql .num true (.t 15) (.c (.int .u8 (10))), none⟩] none (some [16, 4, 10, 9, 8, 3])) 
 (.cond (.t 16) 
 (.region [⟨(some 17), .mov (.t 3), none⟩, ⟨(some 18), .mov (.t 4), none⟩, ⟨(some 19), .bin .add .num true (.t 18) (.c (.int .i64 (1))), none⟩, ⟨(some 20), .mkSl 1 [(.t 19)], none⟩, ⟨(some 21), .append 1 (.t 17) (.t 20), none⟩, ⟨(some 3), .mov (.t 21), none⟩] none (some [10, 9, 8, 3])) .skip)))) 
 (.region [⟨(some 22), .bin .add .num true (.t 10) (.c (.int .i64 (1))), none⟩, ⟨(some 10), .mov (.t 22), none⟩] none (some [9, 8, 10, 3])))))))) 
 (.seq 
 (.region [⟨(some 23), .mov (.t 3), none⟩, ⟨(some 24), .mov (.t 3), none⟩, ⟨(some 25), .len .slice (.t 24), none⟩, ⟨(some 26), .mov (.t 3), none⟩, ⟨(some 27), .len .slice (.t 26), none⟩, ⟨(some 28), .slice 1 (.t 23) none (some (.t 25)) (some (.t 27)), none⟩, ⟨(some 2), .mov (.t 28), none⟩] none (some [2])) .ret)))), [.tmp 2]⟩
/-- diaeresis/place.Line -/
def fn17 : RFn := ⟨18, 
 (.seq 
 (.region [⟨(some 4), .mov (.c (.str [])), none⟩, ⟨(some 5), .mov (.c (.int .i64 (0))), none⟩] none (some [0, 1])) 
 (.seq 
 (.region [⟨(some 9), .mov (.t 0), none⟩, ⟨(some 10), .mov (.t 1), none⟩, ⟨(some 11), .call (.c (.fn 29 [])) [(.t 9), (.t 10)], none⟩, ⟨(some 8), .mov (.t 11), none⟩, ⟨(some 12), .extract 0 (.t 8), none⟩, ⟨(some 13), .extract 1 (.t 8), none⟩, ⟨(some 6), .alloc [(.str []), (.int .i64 (0))], none⟩, ⟨none, .store 2 (.t 6) (.t 12), none⟩, ⟨(some 7), .mov (.t 13), none⟩] none (some [6, 7])) 
 (.seq 
 (.region [⟨(some 14), .fieldAddr 0 (.t 6), none⟩, ⟨(some 15), .load 1 false (.t 14), none⟩, ⟨(some 16), .mov (.t 7), none⟩, ⟨(some 17), .call (.c (.fn 25 [])) [(.t 16)], none⟩, ⟨(some 4), .mov (.t 15), none⟩, ⟨(some 5), .mov (.t 17), none⟩] (some [(0, 0), (1, 1), (2, 0), (3, 4), (4, 15), (5, 31)]) (some [4, 5])) .ret))), [.tmp 4, .tmp 5]⟩
/-- diaeresis/diaeresisref02.Line -/
def fn18 : RFn := ⟨38, 
 (.seq 
 (.region [⟨(some 4), .mov (.c (.str [])), none⟩, ⟨(some 5), .mov (.c (.int .i64 (0))), none⟩] none (some [0, 1])) 
 (.seq 
 (.region [⟨(some 8), .mov (.t 0), none⟩, ⟨(some 9), .call (.c (.fn 22 [])) [(.t 8)], none⟩, ⟨(some 6), .mov (.t 9), none⟩] none (some [0, 6, 1])) 
 (.seq 
 (.seq 
 (.region [⟨(some 10), .mov (.t 1), none⟩, ⟨(some 11), .bin .lss .num true (.t 10) (.c (.int .i64 (0))), none⟩, ⟨(some 12), .mov (.t 11), none⟩, ⟨(some 13), .mov (.t 1), (some (2, false))⟩, ⟨(some 14), .mov (.t 6), (some (2, false))⟩, ⟨(some 15), .len .slice (.t 14), (some (2, false))⟩, ⟨(some 16), .bin .geq .num false (.t 13) (.t 15), (some (2, false))⟩, ⟨(some 17), .pick (.t 12) (.c (.bool true)) (.t 16), none⟩] none (some [17, 0, 6, 1])) 
 (.cond (.t 17) 
 (.seq 
 (.region [⟨(some 4), .mov (.c (.str [])), none⟩, ⟨(some 5), .mov (.c (.int .i64 (20))), none⟩] none (some [4, 5])) .ret) .skip)) 
 (.seq 
 (.region [⟨(some 18), .mov (.t 0), none⟩, ⟨(some 19), .len .str (.t 18), none⟩, ⟨(some 7), .mov (.t 19), none⟩] none (some [0, 6, 1, 7])) 
 (.seq 
 (.seq 
 (.region [⟨(some 20), .mov (.t 1), none⟩, ⟨(some 21), .bin .add .num true (.t 20) (.c (.int .i64 (1))), none⟩, ⟨(some 22), .mov (.t 6), none⟩, ⟨(some 23), .len .slice (.t 22), none⟩, ⟨(some 24), .bin .lss .num false (.t 21) (.t 23), none⟩] none (some [24, 0, 6, 1, 7])) 
 (.cond (.t 24) 
 (.region [⟨(some 25), .mov (.t 6), none⟩, ⟨(some 26), .mov (.t 1), none⟩, ⟨(some 27), .bin .add .num true (.t 26) (.c (.int .i64 (1))), none⟩, ⟨(some 28), .idxAddr 1 (.t 25) (.t 27), none⟩, ⟨(some 29), .load 1 false (.t 28), none⟩, ⟨(some 30), .bin .sub .num true (.t 29) (.c (.int .i64 (1))), none⟩, ⟨(some 7), .mov (.t 30), none⟩] none (some [0, 6, 1, 7])) .skip)) 
 (.seq 
 (.region [⟨(some 31), .mov (.t 0), none⟩, ⟨(some 32), .mov (.t 6), none⟩, ⟨(some 33), .mov (.t 1), none⟩, ⟨(some 34), .idxAddr 1 (.t 32) (.t 33), none⟩, ⟨(some 35), .load 1 false (.t 34), none⟩, ⟨(some 36), .mov (.t 7), none⟩, ⟨(some 37), .strSlice (.t 31) (some (.t 35)) (some (.t 36)), none⟩, ⟨(some 4), .mov (.t 37), none⟩, ⟨(some 5), .mov (.c (.int .i64 (0))), none⟩] none (some [4, 5])) .ret)))))), [.tmp 4, .tmp 5]⟩
/-- diaeresis/place.Width -/
def fn19 : RFn := ⟨30, 
 (.seq 
 (.region [⟨(some 6), .mov (.c (.int .i64 (0))), none⟩, ⟨(some 7), .mov (.c (.int .i64 (0))), none⟩] none (some [0, 1, 2, 6, 7])) 
 (.seq 
 (.region [⟨(some 14), .mov (.t 0), none⟩, ⟨(some 15), .mov (.t 1), none⟩, ⟨(some 16), .mov (.t 2), none⟩, ⟨(some 17), .call (.c (.fn 24 [])) [(.t 14), (.t 15), (.t 16)], none⟩, ⟨(some 13), .mov (.t 17), none⟩, ⟨(some 18), .extract 0 (.t 13), none⟩, ⟨(some 19), .extract 1 (.t 13), none⟩, ⟨(some 8), .mov (.t 18), none⟩, ⟨(some 9), .mov (.t 19), none⟩] none (some [9, 8, 6, 7])) 
 (.seq 
 (.seq 
 (.region [⟨(some 20), .mov (.t 9), none⟩, ⟨(some 21), .bin .neq .iface true (.t 20) (.c .nilI), none⟩] none (some [21, 9, 8, 6, 7])) 
 (.cond (.t 21) 
 (.seq 
 (.region [⟨(some 22), .mov (.t 9), none⟩, ⟨(some 23), .call (.c (.fn 25 [])) [(.t 22)], none⟩, ⟨(some 6), .mov (.c (.int .i64 (0))), none⟩, ⟨(some 7), .mov (.t 23), none⟩] none (some [6, 7])) .ret) .skip)) 
 (.seq 
 (.region [⟨(some 10), .alloc [(.int .i64 (0))], none⟩, ⟨none, .store 1 (.t 10) (.c (.int .i64 (0))), none⟩] none (some [8, 10, 6, 7])) 
 (.seq 
 (.seq 
 (.region [⟨(some 24), .mov (.t 8), none⟩, ⟨(some 25), .call (.c (.fn 26 [])) [(.t 24)], none⟩] none (some [25, 10, 6, 7])) 
 (.block 0 
 (.rangeFunc (.t 25) [26, 27] 
 (.region [⟨(some 12), .mov (.t 27), none⟩] none (some [12, 10])) 
 (.block 1 
 (.region [⟨(some 28), .mov (.t 12), none⟩, ⟨none, .store 1 (.t 10) (.t 28), none⟩] none (some [])))))) 
 (.seq 
 (.region [⟨(some 29), .load 1 false (.t 10), none⟩, ⟨(some 6), .mov (.t 29), none⟩, ⟨(some 7), .mov (.c (.int .i64 (0))), none⟩] none (some [6, 7])) .ret)))))), [.tmp 6, .tmp 7]⟩
/-- diaeresis/diaeresisref02.Width -/
def fn20 : RFn := ⟨36, 
 (.seq 
 (.region [⟨(some 6), .mov (.c (.int .i64 (0))), none⟩, ⟨(some 7), .mov (.c (.int .i64 (0))), none⟩] none (some [0, 1, 2])) 
 (.seq 
 (.seq 
 (.region [⟨(some 12), .mov (.t 2), none⟩, ⟨(some 13), .call (.c (.fn 27 [])) [(.t 12)], none⟩, ⟨(some 14), .un .not (.t 13), none⟩] none (some [14, 0, 1, 2])) 
 (.cond (.t 14) 
 (.seq 
 (.region [⟨(some 6), .mov (.c (.int .i64 (0))), none⟩, ⟨(some 7), .mov (.c (.int .i64 (2))), none⟩] none (some [6, 7])) .ret) .skip)) 
 (.seq 
 (.region [⟨(some 16), .mov (.t 0), none⟩, ⟨(some 17), .mov (.t 1), none⟩, ⟨(some 18), .call (.c (.fn 18 [])) [(.t 16), (.t 17)], none⟩, ⟨(some 15), .mov (.t 18), none⟩, ⟨(some 19), .extract 0 (.t 15), none⟩, ⟨(some 20), .extract 1 (.t 15), none⟩, ⟨(some 8), .mov (.t 19), none⟩, ⟨(some 9), .mov (.t 20), none⟩] none (some [9, 8, 2])) 
 (.seq 
 (.seq 
 (.region [⟨(some 21), .mov (.t 9), none⟩, ⟨(some 22), .bin .neq .num true (.t 21) (.c (.int .i64 (0))), none⟩] none (some [22, 9, 8, 2])) 
 (.cond (.t 22) 
 (.seq 
 (.region [⟨(some 23), .mov (.t 9), none⟩, ⟨(some 6), .mov (.c (.int .i64 (0))), none⟩, ⟨(some 7), .mov (.t 23), none⟩] none (some [6, 7])) .ret) .skip)) 
 (.seq 
 (.region [⟨(some 25), .mov (.t 8), none⟩, ⟨(some 26), .mov (.t 2), none⟩, ⟨(some 27), .call (.c (.fn 28 [])) [(.t 25), (.t 26)], none⟩, ⟨(some 24), .mov (.t 27), none⟩, ⟨(some 28), .extract 0 (.t 24), none⟩, ⟨(some 29), .extract 1 (.t 24), none⟩, ⟨(some 10), .mov (.t 28), none⟩, ⟨(some 11), .mov (.t 29), none⟩] none (some [11])) 
 (.seq 
 (.region [⟨(some 30), .mov (.t 11), none⟩, ⟨(some 31), .mov (.t 11), none⟩, ⟨(some 32), .len .slice (.t 31), none⟩, ⟨(some 33), .bin .sub .num true (.t 32) (.c (.int .i64 (1))), none⟩, ⟨(some 34), .idxAddr 1 (.t 30) (.t 33), none⟩, ⟨(some 35), .load 1 false (.t 34), none⟩, ⟨(some 6), .mov (.t 35), none⟩, ⟨(some 7), .mov (.c (.int .i64 (0))), none⟩] none (some [6, 7])) .ret)))))), [.tmp 6, .tmp 7]⟩
/-- diaeresis/diaeresisref02.Ints -/
def fn21 : RFn := ⟨26, 
 (.seq 
 (.region [⟨(some 4), .mov (.c (.bool false)), none⟩] none (some [1, 0])) 
 (.seq 
 (.seq 
 (.region [⟨(some 6), .mov (.t 0), none⟩, ⟨(some 7), .len .slice (.t 6), none⟩, ⟨(some 8), .mov (.t 1), none⟩, ⟨(some 9), .len .slice (.t 8), none⟩, ⟨(some 10), .bin .neq .num false (.t 7) (.t 9), none⟩] none (some [10, 1, 0])) 
 (.cond (.t 10) 
 (.seq 
 (.region [⟨(some 4), .mov (.c (.bool false)), none⟩] none (some [4])) .ret) .skip)) 
 (.seq 
 (.seq 
 (.region [⟨(some 5), .mov (.c (.int .i64 (0))), none⟩] none (some [1, 0, 5])) 
 (.block 0 
 (.loop [11, 12, 17, 18, 21, 22, 4, 15, 5] [] 
 (.seq 
 (.seq 
 (.region [⟨(some 11), .mov (.t 5), none⟩, ⟨(some 12), .mov (.t 0), none⟩, ⟨(some 13), .len .slice (.t 12), none⟩, ⟨(some 14), .bin .lss .num false (.t 11) (.t 13), none⟩] none (some [14, 0, 1, 5])) 
 (.cond (.t 14) .skip (.exit 0))) 
 (.seq 
 (.block 1 
 (.seq 
 (.region [⟨(some 17), .mov (.t 0), none⟩, ⟨(some 18), .mov (.t 5), none⟩, ⟨(some 19), .idxAddr 1 (.t 17) (.t 18), none⟩, ⟨(some 20), .load 1 false (.t 19), none⟩, ⟨(some 21), .mov (.t 1), none⟩, ⟨(some 22), .mov (.t 5), none⟩, ⟨(some 23), .idxAddr 1 (.t 21) (.t 22), none⟩, ⟨(some 24), .load 1 false (.t 23), none⟩, ⟨(some 25), .bin .neq .num false (.t 20) (.t 24), none⟩] (some [(0, 0), (1, 0), (2, 3), (3, 7), (4, 0), (5, 0), (6, 48), (7, 112), (8, 255)]) (some [25, 5, 1, 0])) 
 (.cond (.t 25) 
 (.seq 
 (.region [⟨(some 4), .mov (.c (.bool false)), none⟩] none (some [4])) .ret) .skip))) 
 (.region [⟨(some 15), .mov (.t 5), none⟩, ⟨(some 16), .bin .add .num true (.t 15) (.c (.int .i64 (1))), none⟩, ⟨(some 5), .mov (.t 16), none⟩] none (some [1, 0, 5]))))))) 
 (.seq 
 (.region [⟨(some 4), .mov (.c (.bool true)), none⟩] none (some [4])) .ret)))), [.tmp 4]⟩
/-- diaeresis/diaeresisref02.Lines -/
def fn22 : RFn := ⟨22, 
 (.seq 
 (.region [⟨(some 2), .mov (.c .nilS), none⟩] none (some [0])) 
 (.seq 
 (.region [⟨(some 5), .mkSl 1 [(.c (.int .i64 (0)))], none⟩, ⟨(some 3), .mov (.t 5), none⟩] none (some [0, 3])) 
 (.seq 
 (.seq 
 (.region [⟨(some 4), .mov (.c (.int .i64 (0))), none⟩] none (some [0, 4, 3])) 
 (.block 0 
 (.loop [6, 7, 12, 13, 16, 17, 3, 10, 4] [(3, 1)] 
 (.seq 
 (.seq 
 (.region [⟨(some 6), .mov (.t 4), none⟩, ⟨(some 7), .mov (.t 0), none⟩, ⟨(some 8), .len .str (.t 7), none⟩, ⟨(some 9), .bin .lss .num false (.t 6) (.t 8), none⟩] none (some [9, 0, 4, 3])) 
 (.cond (.t 9) .skip (.exit 0))) 
 (.seq 
 (.block 1 
 (.seq 
 (.region [⟨(some 12), .mov (.t 0), none⟩, ⟨(some 13), .mov (.t 4), none⟩, ⟨(some 14), .strIdx (.t 12) (.t 13), none⟩, ⟨(some 15), .bin .eql .num true (.t 14) (.c (.int .u8 (10))), none⟩] none (some [15, 4, 0, 3])) 
 (.cond (.t 15) 
 (.region [⟨(some 16), .mov (.t 3), none⟩, ⟨(some 17), .mov (.t 4), none⟩, ⟨(some 18), .bin .add .num true (.t 17) (.c (.int .i64 (1))), none⟩, ⟨(some 19), .mkSl 1 [(.t 18)], none⟩, ⟨(some 20), .append 1 (.t 16) (.t 19), none⟩, ⟨(some 3), .mov (.t 20), none⟩] none (some [4, 0, 3])) .skip))) 
 (.region [⟨(some 10), .mov (.t 4), none⟩, ⟨(some 11), .bin .add .num true (.t 10) (.c (.int .i64 (1))), none⟩, ⟨(some 4), .mov (.t 11), none⟩] none (some [0, 4, 3]))))))) 
 (.seq 
 (.region [⟨(some 21), .mov (.t 3), none⟩, ⟨(some 2), .mov (.t 21), none⟩] none (some [2])) .ret)))), [.tmp 2]⟩
/-- diaeresis/place.last -/
def fn23 : RFn := ⟨21, 
 (.seq 
 (.region [⟨(some 4), .mov (.c (.int .i64 (0))), none⟩] none (some [1, 0])) 
 (.seq 
 (.region [⟨(some 5), .mov (.c (.int .i64 (0))), none⟩] none (some [1, 0, 5])) 
 (.seq 
 (.seq 
 (.region [⟨(some 8), .mov (.t 1), none⟩, ⟨(some 9), .len .slice (.t 8), none⟩, ⟨(some 10), .mov (.c (.int .i64 (0))), none⟩] none (some [9, 0, 8, 10, 5])) 
 (.block 0 
 (.loop [12, 6, 7, 15, 16, 18, 5, 10] [] 
 (.seq 
 (.region [⟨(some 11), .bin .lss .num false (.t 10) (.t 9), none⟩] none (some [11, 8, 0, 9, 10, 5])) 
 (.seq 
 (.cond (.t 11) .skip (.exit 0)) 
 (.seq 
 (.block 1 
 (.seq 
 (.region [⟨(some 12), .mov (.t 10), none⟩, ⟨(some 13), .idxAddr 1 (.t 8) (.t 10), none⟩, ⟨(some 14), .load 1 false (.t 13), none⟩, ⟨(some 6), .mov (.t 12), none⟩, ⟨(some 7), .mov (.t 14), none⟩] none (some [7, 6, 10, 9, 0, 8, 5])) 
 (.seq 
 (.region [⟨(some 15), .mov (.t 7), none⟩, ⟨(some 16), .mov (.t 0), none⟩, ⟨(some 17), .bin .leq .num false (.t 15) (.t 16), none⟩] none (some [17, 6, 10, 9, 0, 8, 5])) 
 (.cond (.t 17) 
 (.region [⟨(some 18), .mov (.t 6), none⟩, ⟨(some 5), .mov (.t 18), none⟩] none (some [10, 9, 0, 8, 5])) .skip)))) 
 (.region [⟨(some 19), .bin .add .num true (.t 10) (.c (.int .i64 (1))), none⟩, ⟨(some 10), .mov (.t 19), none⟩] none (some [9, 0, 8, 10, 5])))))))) 
 (.seq 
 (.region [⟨(some 20), .mov (.t 5), none⟩, ⟨(some 4), .mov (.t 20), none⟩] none (some [4])) .ret)))), [.tmp 4]⟩
/-- diaeresis/place.walk -/
def fn24 : RFn := ⟨32, 
 (.seq 
 (.region [⟨(some 6), .mov (.c .nilP), none⟩, ⟨(some 7), .mov (.c .nilI), none⟩] none (some [2, 0, 1])) 
 (.seq 
 (.region [⟨(some 12), .mov (.t 2), none⟩, ⟨(some 13), .call (.c (.fn 30 [])) [(.t 12)], none⟩, ⟨(some 11), .mov (.t 13), none⟩, ⟨(some 14), .extract 0 (.t 11), none⟩, ⟨(some 15), .extract 1 (.t 11), none⟩, ⟨(some 8), .alloc [.nilF, .nilF], none⟩, ⟨none, .store 2 (.t 8) (.t 14), none⟩, ⟨(some 9), .mov (.t 15), none⟩] none (some [9, 0, 1, 8])) 
 (.seq 
 (.seq 
 (.region [⟨(some 16), .mov (.t 9), none⟩, ⟨(some 17), .bin .neq .iface true (.t 16) (.c .nilI), none⟩] none (some [17, 9, 0, 1, 8])) 
 (.cond (.t 17) 
 (.seq 
 (.region [⟨(some 18), .mov (.t 9), none⟩, ⟨(some 6), .mov (.c .nilP), none⟩, ⟨(some 7), .mov (.t 18), none⟩] none (some [6, 7])) .ret) .skip)) 
 (.seq 
 (.region [⟨(some 20), .mov (.t 0), none⟩, ⟨(some 21), .mov (.t 1), none⟩, ⟨(some 22), .call (.c (.fn 29 [])) [(.t 20), (.t 21)], none⟩, ⟨(some 19), .mov (.t 22), none⟩, ⟨(some 23), .extract 0 (.t 19), none⟩, ⟨(some 24), .extract 1 (.t 19), none⟩, ⟨(some 10), .alloc [(.str []), (.int .i64 (0))], none⟩, ⟨none, .store 2 (.t 10) (.t 23), none⟩, ⟨(some 9), .mov (.t 24), none⟩] none (some [9, 10, 8])) 
 (.seq 
 (.seq 
 (.region [⟨(some 25), .mov (.t 9), none⟩, ⟨(some 26), .bin .neq .iface true (.t 25) (.c .nilI), none⟩] none (some [26, 9, 10, 8])) 
 (.cond (.t 26) 
 (.seq 
 (.region [⟨(some 27), .mov (.t 9), none⟩, ⟨(some 6), .mov (.c .nilP), none⟩, ⟨(some 7), .mov (.t 27), none⟩] none (some [6, 7])) .ret) .skip)) 
 (.seq 
 (.region [⟨(some 28), .load 2 true (.t 10), none⟩, ⟨(some 29), .load 2 true (.t 8), none⟩, ⟨(some 30), .build [(.str []), (.int .i64 (0)), .nilF, .nilF] [(0, 2, (.t 28)), (2, 2, (.t 29))], none⟩, ⟨(some 31), .box (.t 30), none⟩, ⟨(some 6), .mov (.t 31), none⟩, ⟨(some 7), .mov (.c .nilI), none⟩] none (some [6, 7])) .ret)))))), [.tmp 6, .tmp 7]⟩
/-- diaeresis/place.told -/
def fn25 : RFn := ⟨9, 
 (.seq 
 (.region [⟨(some 2), .mov (.c (.int .i64 (0))), none⟩] none (some [0])) 
 (.seq 
 (.region [⟨(some 3), .alloc [(.int .i64 (0))], none⟩] none (some [0, 3])) 
 (.seq 
 (.seq 
 (.region [⟨(some 4), .mov (.t 0), none⟩, ⟨(some 5), .mkI 69 (.t 3), none⟩, ⟨(some 6), .call (.c (.fn 31 [])) [(.t 4), (.t 5)], none⟩] none (some [6, 3])) 
 (.cond (.t 6) 
 (.seq 
 (.region [⟨(some 7), .fieldAddr 0 (.t 3), none⟩, ⟨(some 8), .load 1 false (.t 7), none⟩, ⟨(some 2), .mov (.t 8), none⟩] none (some [2])) .ret) .skip)) 
 (.seq 
 (.region [⟨(some 2), .mov (.c (.int .i64 (0))), none⟩] none (some [2])) .ret)))), [.tmp 2]⟩
/-- (*diaeresis/place.walker).places -/
def fn26 : RFn := ⟨4, 
 (.seq 
 (.region [⟨(some 1), .box (.t 0), none⟩, ⟨(some 2), .mov (.c .nilF), none⟩] none (some [1])) 
 (.seq 
 (.region [⟨(some 3), .mkF 32 [(.t 1)], none⟩, ⟨(some 2), .mov (.t 3), none⟩] none (some [2])) .ret)), [.tmp 2]⟩
/-- diaeresis/diaeresisref02.is -/
def fn27 : RFn := ⟨9, 
 (.seq 
 (.region [⟨(some 2), .mov (.c (.bool false)), none⟩] none (some [0])) 
 (.seq 
 (.region [⟨(some 3), .mov (.t 0), none⟩, ⟨(some 4), .bin .geq .num true (.t 3) (.c (.int .i64 (1))), none⟩, ⟨(some 5), .mov (.t 4), none⟩, ⟨(some 6), .mov (.t 0), (some (2, true))⟩, ⟨(some 7), .bin .leq .num true (.t 6) (.c (.int .i64 (3))), (some (2, true))⟩, ⟨(some 8), .pick (.t 5) (.t 7) (.c (.bool false)), none⟩, ⟨(some 2), .mov (.t 8), none⟩] none (some [2])) .ret)), [.tmp 2]⟩
/-- diaeresis/diaeresisref02.columns -/
def fn28 : RFn := ⟨44, 
 (.seq 
 (.region [⟨(some 4), .mov (.c .nilS), none⟩, ⟨(some 5), .mov (.c .nilS), none⟩] none (some [1, 0])) 
 (.seq 
 (.region [⟨(some 10), .mkSl 1 [(.c (.int .i64 (0)))], none⟩, ⟨(some 6), .mov (.t 10), none⟩] none (some [1, 0, 6])) 
 (.seq 
 (.region [⟨(some 11), .mkSl 1 [(.c (.int .i64 (0)))], none⟩, ⟨(some 7), .mov (.t 11), none⟩] none (some [1, 0, 6, 7])) 
 (.seq 
 (.seq 
 (.region [⟨(some 8), .mov (.c (.int .i64 (0))), none⟩] none (some [1, 0, 8, 6, 7])) 
 (.block 0 
 (.loop [12, 13, 16, 17, 20, 9, 22, 23, 8, 25, 26, 6, 29, 30, 31, 36, 37, 7] [(6, 1), (7, 1)] 
 (.seq 
 (.seq 
 (.region [⟨(some 12), .mov (.t 8), none⟩, ⟨(some 13), .mov (.t 0), none⟩, ⟨(some 14), .len .str (.t 13), none⟩, ⟨(some 15), .bin .lss .num false (.t 12) (.t 14), none⟩] none (some [15, 0, 1, 8, 6, 7])) 
 (.cond (.t 15) .skip (.exit 0))) 
 (.block 1 
 (.seq 
 (.region [⟨(some 16), .mov (.t 0), none⟩, ⟨(some 17), .mov (.t 8), none⟩, ⟨(some 18), .strSlice (.t 16) (some (.t 17)) none, none⟩, ⟨(some 19), .call (.c (.fn 33 [])) [(.t 18)], none⟩, ⟨(some 9), .mov (.t 19), none⟩] none (some [8, 6, 7, 9, 1, 0])) 
 (.seq 
 (.seq 
 (.region [⟨(some 20), .mov (.t 1), none⟩, ⟨(some 21), .bin .eql .num true (.t 20) (.c (.int .i64 (1))), none⟩] none (some [21, 8, 6, 7, 9, 1, 0])) 
 (.cond (.t 21) 
 (.region [⟨(some 9), .mov (.c (.int .i64 (1))), none⟩] none (some [8, 6, 7, 9, 1, 0])) .skip)) 
 (.seq 
 (.region [⟨(some 22), .mov (.t 8), none⟩, ⟨(some 23), .mov (.t 9), none⟩, ⟨(some 24), .bin .add .num false (.t 22) (.t 23), none⟩, ⟨(some 8), .mov (.t 24), none⟩] none (some [6, 7, 9, 1, 0, 8])) 
 (.seq 
 (.region [⟨(some 25), .mov (.t 6), none⟩, ⟨(some 26), .mov (.t 8), none⟩, ⟨(some 27), .mkSl 1 [(.t 26)], none⟩, ⟨(some 28), .append 1 (.t 25) (.t 27), none⟩, ⟨(some 6), .mov (.t 28), none⟩] none (some [7, 9, 1, 0, 8, 6])) 
 (.region [⟨(some 29), .mov (.t 7), none⟩, ⟨(some 30), .mov (.t 7), none⟩, ⟨(some 31), .mov (.t 7), none⟩, ⟨(some 32), .len .slice (.t 31), none⟩, ⟨(some 33), .bin .sub .num true (.t 32) (.c (.int .i64 (1))), none⟩, ⟨(some 34), .idxAddr 1 (.t 30) (.t 33), none⟩, ⟨(some 35), .load 1 false (.t 34), none⟩, ⟨(some 36), .mov (.t 9), none⟩, ⟨(some 37), .mov (.t 1), none⟩, ⟨(some 38), .call (.c (.fn 34 [])) [(.t 36), (.t 37)], none⟩, ⟨(some 39), .bin .add .num false (.t 35) (.t 38), none⟩, ⟨(some 40), .mkSl 1 [(.t 39)], none⟩, ⟨(some 41), .append 1 (.t 29) (.t 40), none⟩, ⟨(some 7), .mov (.t 41), none⟩] (some [(0, 0), (1, 0), (2, 0), (3, 4), (4, 12), (5, 30), (6, 62), (7, 0), (8, 0), (9, 384), (10, 1022), (11, 2046), (12, 4095), (13, 8191)]) (some [1, 0, 8, 6, 7]))))))))))) 
 (.seq 
 (.region [⟨(some 42), .mov (.t 6), none⟩, ⟨(some 43), .mov (.t 7), none⟩, ⟨(some 4), .mov (.t 42), none⟩, ⟨(some 5), .mov (.t 43), none⟩] none (some [4, 5])) .ret))))), [.tmp 4, .tmp 5]⟩
/-- diaeresis/place.lineOf -/
def fn29 : RFn := ⟨40, 
 (.seq 
 (.region [⟨(some 4), .alloc [(.str []), (.int .i64 (0))], none⟩, ⟨(some 5), .mov (.c .nilI), none⟩] none (some [0, 1, 4])) 
 (.seq 
 (.region [⟨(some 10), .mov (.t 0), none⟩, ⟨(some 11), .call (.c (.fn 16 [])) [(.t 10)], none⟩, ⟨(some 6), .mov (.t 11), none⟩] none (some [0, 6, 1, 4])) 
 (.seq 
 (.seq 
 (.region [⟨(some 12), .mov (.t 1), none⟩, ⟨(some 13), .bin .lss .num true (.t 12) (.c (.int .i64 (0))), none⟩, ⟨(some 14), .mov (.t 13), none⟩, ⟨(some 15), .mov (.t 1), (some (2, false))⟩, ⟨(some 16), .mov (.t 6), (some (2, false))⟩, ⟨(some 17), .len .slice (.t 16), (some (2, false))⟩, ⟨(some 18), .bin .geq .num false (.t 15) (.t 17), (some (2, false))⟩, ⟨(some 19), .pick (.t 14) (.c (.bool true)) (.t 18), none⟩] none (some [19, 0, 6, 1, 4])) 
 (.cond (.t 19) 
 (.seq 
 (.region [⟨(some 20), .build [(.str []), (.int .i64 (0))] [], none⟩, ⟨(some 21), .build [(.int .i64 (0))] [(0, 1, (.c (.int .i64 (20))))], none⟩, ⟨(some 22), .mkI 51 (.t 21), none⟩, ⟨none, .store 2 (.t 4) (.t 20), none⟩, ⟨(some 5), .mov (.t 22), none⟩] none (some [4, 5])) .ret) .skip)) 
 (.seq 
 (.region [⟨(some 24), .mov (.t 0), none⟩, ⟨(some 25), .mov (.t 6), none⟩, ⟨(some 26), .mov (.t 1), none⟩, ⟨(some 27), .idxAddr 1 (.t 25) (.t 26), none⟩, ⟨(some 28), .load 1 false (.t 27), none⟩, ⟨(some 29), .strSlice (.t 24) (some (.t 28)) none, none⟩, ⟨(some 30), .call (.c (.fn 35 [])) [(.t 29), (.c (.str [10]))], none⟩, ⟨(some 23), .mov (.t 30), none⟩, ⟨(some 31), .extract 0 (.t 23), none⟩, ⟨(some 32), .extract 1 (.t 23), none⟩, ⟨(some 33), .extract 2 (.t 23), none⟩, ⟨(some 7), .mov (.t 31), none⟩, ⟨(some 8), .mov (.t 32), none⟩, ⟨(some 9), .mov (.t 33), none⟩] none (some [7, 6, 1, 4])) 
 (.seq 
 (.region [⟨(some 34), .mov (.t 7), none⟩, ⟨(some 35), .mov (.t 6), none⟩, ⟨(some 36), .mov (.t 1), none⟩, ⟨(some 37), .idxAddr 1 (.t 35) (.t 36), none⟩, ⟨(some 38), .load 1 false (.t 37), none⟩, ⟨(some 39), .build [(.str []), (.int .i64 (0))] [(0, 1, (.t 34)), (1, 1, (.t 38))], none⟩, ⟨none, .store 2 (.t 4) (.t 39), none⟩, ⟨(some 5), .mov (.c .nilI), none⟩] none (some [4, 5])) .ret))))), [.cell 4 2 true, .tmp 5]⟩
/-- diaeresis/place.unitOf -/
def fn30 : RFn := ⟨25, 
 (.seq 
 (.region [⟨(some 2), .alloc [.nilF, .nilF], none⟩, ⟨(some 3), .mov (.c .nilI), none⟩] none (some [0, 2])) 
 (.seq 
 (.region [⟨(some 4), .mov (.c (.fn 36 [])), none⟩] none (some [4, 0, 2])) 
 (.seq 
 (.region [⟨(some 8), .mkMap, none⟩, ⟨(some 9), .mov (.t 4), none⟩, ⟨(some 10), .build [.nilF, .nilF] [(0, 1, (.c (.fn 37 []))), (1, 1, (.t 9))], none⟩, ⟨none, .insert .num (.t 8) (.c (.int .i64 (1))) (.t 10), none⟩, ⟨(some 11), .mov (.t 4), none⟩, ⟨(some 12), .build [.nilF, .nilF] [(0, 1, (.c (.fn 38 []))), (1, 1, (.t 11))], none⟩, ⟨none, .insert .num (.t 8) (.c (.int .i64 (2))) (.t 12), none⟩, ⟨(some 13), .build [.nilF, .nilF] [(0, 1, (.c (.fn 38 []))), (1, 1, (.c (.fn 39 [])))], none⟩, ⟨none, .insert .num (.t 8) (.c (.int .i64 (3))) (.t 13), none⟩, ⟨(some 14), .mov (.t 8), none⟩, ⟨(some 15), .mov (.t 0), none⟩, ⟨(some 16), .lookup .num (.agg [.nilF, .nilF]) true (.t 14) (.t 15), none⟩, ⟨(some 7), .mov (.t 16), none⟩, ⟨(some 17), .extract 0 (.t 7), none⟩, ⟨(some 18), .extract 1 (.t 7), none⟩, ⟨(some 5), .alloc [.nilF, .nilF], none⟩, ⟨none, .store 2 (.t 5) (.t 17), none⟩, ⟨(some 6), .mov (.t 18), none⟩] none (some [6, 5, 2])) 
 (.seq 
 (.seq 
 (.region [⟨(some 19), .mov (.t 6), none⟩, ⟨(some 20), .un .not (.t 19), none⟩] none (some [20, 5, 2])) 
 (.cond (.t 20) 
 (.seq 
 (.region [⟨(some 21), .build [.nilF, .nilF] [], none⟩, ⟨(some 22), .build [(.int .i64 (0))] [(0, 1, (.c (.int .i64 (2))))], none⟩, ⟨(some 23), .mkI 51 (.t 22), none⟩, ⟨none, .store 2 (.t 2) (.t 21), none⟩, ⟨(some 3), .mov (.t 23), none⟩] none (some [2, 3])) .ret) .skip)) 
 (.seq 
 (.region [⟨(some 24), .load 2 true (.t 5), none⟩, ⟨none, .store 2 (.t 2) (.t 24), none⟩, ⟨(some 3), .mov (.c .nilI), none⟩] none (some [2, 3])) .ret))))), [.cell 2 2 true, .tmp 3]⟩
/-- (*diaeresis/place.walker).places_1 -/
def fn32 : RFn := ⟨49, (.scope 
 (.seq 
 (.region [⟨(some 3), .mov (.c (.int .i64 (0))), none⟩, ⟨(some 4), .mov (.c (.int .i64 (0))), none⟩] none (some [0, 1, 4, 3])) 
 (.seq .skip 
 (.block 0 
 (.loop [6, 12, 14, 16, 34, 5, 37, 38, 40, 46, 3, 4] [] 
 (.seq 
 (.seq 
 (.region [⟨(some 6), .mov (.t 0), none⟩, ⟨(some 7), .load 1 false (.t 1), none⟩, ⟨(some 8), .nilck (.t 7), none⟩, ⟨(some 9), .fieldAddr 0 (.t 8), none⟩, ⟨(some 10), .fieldAddr 1 (.t 9), none⟩, ⟨(some 11), .load 1 false (.t 10), none⟩, ⟨(some 12), .mov (.t 3), none⟩, ⟨(some 13), .bin .add .num false (.t 11) (.t 12), none⟩, ⟨(some 14), .mov (.t 4), none⟩, ⟨(some 15), .call (.t 6) [(.t 13), (.t 14)], none⟩] none (some [15, 1, 0, 4, 3])) 
 (.cond (.t 15) .skip (.exit 0))) 
 (.block 1 
 (.seq 
 (.seq 
 (.region [⟨(some 16), .mov (.t 3), none⟩, ⟨(some 17), .load 1 false (.t 1), none⟩, ⟨(some 18), .nilck (.t 17), none⟩, ⟨(some 19), .fieldAddr 0 (.t 18), none⟩, ⟨(some 20), .fieldAddr 0 (.t 19), none⟩, ⟨(some 21), .load 1 false (.t 20), none⟩, ⟨(some 22), .len .str (.t 21), none⟩, ⟨(some 23), .bin .geq .num false (.t 16) (.t 22), none⟩] none (some [23, 3, 4, 0, 1])) 
 (.cond (.t 23) (.exit 0) .skip)) 
 (.seq 
 (.region [⟨(some 24), .load 1 false (.t 1), none⟩, ⟨(some 25), .nilck (.t 24), none⟩, ⟨(some 26), .fieldAddr 2 (.t 25), none⟩, ⟨(some 27), .fieldAddr 0 (.t 26), none⟩, ⟨(some 28), .load 1 false (.t 27), none⟩, ⟨(some 29), .load 1 false (.t 1), none⟩, ⟨(some 30), .nilck (.t 29), none⟩, ⟨(some 31), .fieldAddr 0 (.t 30), none⟩, ⟨(some 32), .fieldAddr 0 (.t 31), none⟩, ⟨(some 33), .load 1 false (.t 32), none⟩, ⟨(some 34), .mov (.t 3), none⟩, ⟨(some 35), .strSlice (.t 33) (some (.t 34)) none, none⟩, ⟨(some 36), .call (.t 28) [(.t 35)], none⟩, ⟨(some 5), .mov (.t 36), none⟩] (some [(0, 0), (1, 1), (2, 3), (3, 7), (4, 15), (5, 0), (6, 32), (7, 96), (8, 224), (9, 480), (10, 0), (11, 2016), (12, 4095), (13, 8191)]) (some [3, 4, 5, 0, 1])) 
 (.region [⟨(some 37), .mov (.t 3), none⟩, ⟨(some 38), .mov (.t 5), none⟩, ⟨(some 39), .bin .add .num false (.t 37) (.t 38), none⟩, ⟨(some 40), .mov (.t 4), none⟩, ⟨(some 41), .load 1 false (.t 1), none⟩, ⟨(some 42), .nilck (.t 41), none⟩, ⟨(some 43), .fieldAddr 2 (.t 42), none⟩, ⟨(some 44), .fieldAddr 1 (.t 43), none⟩, ⟨(some 45), .load 1 false (.t 44), none⟩, ⟨(some 46), .mov (.t 5), none⟩, ⟨(some 47), .call (.t 45) [(.t 46)], none⟩, ⟨(some 48), .bin .add .num false (.t 40) (.t 47), none⟩, ⟨(some 3), .mov (.t 39), none⟩, ⟨(some 4), .mov (.t 48), none⟩] none (some [0, 1, 4, 3]))))))))))), []⟩
/-- diaeresis/diaeresisref02.Step -/
def fn33 : RFn := ⟨89, 
 (.seq 
 (.region [⟨(some 2), .mov (.c (.int .i64 (0))), none⟩] none (some [0])) 
 (.seq 
 (.seq 
 (.region [⟨(some 7), .mov (.t 0), none⟩, ⟨(some 8), .bin .eql .str true (.t 7) (.c (.str [])), none⟩] none (some [8, 0])) 
 (.cond (.t 8) 
 (.seq 
 (.region [⟨(some 2), .mov (.c (.int .i64 (0))), none⟩] none (some [2])) .ret) .skip)) 
 (.seq 
 (.region [⟨(some 3), .mov (.c (.int .i64 (1))), none⟩] none (some [0, 3])) 
 (.seq 
 (.region [⟨(some 4), .mov (.c (.int .i64 (0))), none⟩] none (some [0, 4, 3])) 
 (.seq 
 (.region [⟨(some 9), .mov (.t 0), none⟩, ⟨(some 10), .strIdx (.t 9) (.c (.int .i64 (0))), none⟩, ⟨(some 11), .conv .i64 (.t 10), none⟩, ⟨(some 5), .mov (.t 11), none⟩] none (some [0, 4, 5, 3])) 
 (.seq 
 (.seq 
 (.region [⟨(some 12), .mov (.t 0), none⟩, ⟨(some 13), .strIdx (.t 12) (.c (.int .i64 (0))), none⟩, ⟨(some 14), .bin .geq .num true (.t 13) (.c (.int .u8 (194))), none⟩, ⟨(some 15), .mov (.t 14), none⟩, ⟨(some 16), .mov (.t 0), (some (3, true))⟩, ⟨(some 17), .strIdx (.t 16) (.c (.int .i64 (0))), (some (3, true))⟩, ⟨(some 18), .bin .lss .num true (.t 17) (.c (.int .u8 (224))), (some (3, true))⟩, ⟨(some 19), .pick (.t 15) (.t 18) (.c (.bool false)), none⟩] none (some [19, 0, 4, 5, 3])) 
 (.cond (.t 19) 
 (.seq 
 (.region [⟨(some 3), .mov (.c (.int .i64 (2))), none⟩] none (some [5, 0, 3])) 
 (.seq 
 (.region [⟨(some 4), .mov (.c (.int .i64 (128))), none⟩] none (some [5, 0, 4, 3])) 
 (.region [⟨(some 20), .mov (.t 5), none⟩, ⟨(some 21), .bin .sub .num true (.t 20) (.c (.int .i64 (192))), none⟩, ⟨(some 5), .mov (.t 21), none⟩] none (some [0, 4, 5, 3])))) .skip)) 
 (.seq 
 (.seq 
 (.region [⟨(some 22), .mov (.t 0), none⟩, ⟨(some 23), .strIdx (.t 22) (.c (.int .i64 (0))), none⟩, ⟨(some 24), .bin .geq .num true (.t 23) (.c (.int .u8 (224))), none⟩, ⟨(some 25), .mov (.t 24), none⟩, ⟨(some 26), .mov (.t 0), (some (3, true))⟩, ⟨(some 27), .strIdx (.t 26) (.c (.int .i64 (0))), (some (3, true))⟩, ⟨(some 28), .bin .lss .num true (.t 27) (.c (.int .u8 (240))), (some (3, true))⟩, ⟨(some 29), .pick (.t 25) (.t 28) (.c (.bool false)), none⟩] none (some [29, 0, 4, 5, 3])) 
 (.cond (.t 29) 
 (.seq 
 (.region [⟨(some 3), .mov (.c (.int .i64 (3))), none⟩] none (some [5, 0, 3])) 
 (.seq 
 (.region [⟨(some 4), .mov (.c (.int .i64 (2048))), none⟩] none (some [5, 0, 4, 3])) 
 (.region [⟨(some 30), .mov (.t 5), none⟩, ⟨(some 31), .bin .sub .num true (.t 30) (.c (.int .i64 (224))), none⟩, ⟨(some 5), .mov (.t 31), none⟩] none (some [0, 4, 5, 3])))) .skip)) 
 (.seq 
 (.seq 
 (.region [⟨(some 32), .mov (.t 0), none⟩, ⟨(some 33), .strIdx (.t 32) (.c (.int .i64 (0))), none⟩, ⟨(some 34), .bin .geq .num true (.t 33) (.c (.int .u8 (240))), none⟩, ⟨(some 35), .mov (.t 34), none⟩, ⟨(some 36), .mov (.t 0), (some (3, true))⟩, ⟨(some 37), .strIdx (.t 36) (.c (.int .i64 (0))), (some (3, true))⟩, ⟨(some 38), .bin .lss .num true (.t 37) (.c (.int .u8 (245))), (some (3, true))⟩, ⟨(some 39), .pick (.t 35) (.t 38) (.c (.bool false)), none⟩] none (some [39, 0, 4, 5, 3])) 
 (.cond (.t 39) 
 (.seq 
 (.region [⟨(some 3), .mov (.c (.int .i64 (4))), none⟩] none (some [5, 0, 3])) 
 (.seq 
 (.region [⟨(some 4), .mov (.c (.int .i64 (65536))), none⟩] none (some [5, 0, 4, 3])) 
 (.region [⟨(some 40), .mov (.t 5), none⟩, ⟨(some 41), .bin .sub .num true (.t 40) (.c (.int .i64 (240))), none⟩, ⟨(some 5), .mov (.t 41), none⟩] none (some [0, 4, 5, 3])))) .skip)) 
 (.seq 
 (.seq 
 (.region [⟨(some 42), .mov (.t 3), none⟩, ⟨(some 43), .mov (.t 0), none⟩, ⟨(some 44), .len .str (.t 43), none⟩, ⟨(some 45), .bin .gtr .num false (.t 42) (.t 44), none⟩] none (some [45, 0, 4, 5, 3])) 
 (.cond (.t 45) 
 (.seq 
 (.region [⟨(some 2), .mov (.c (.int .i64 (1))), none⟩] none (some [2])) .ret) .skip)) 
 (.seq 
 (.seq 
 (.region [⟨(some 6), .mov (.c (.int .i64 (1))), none⟩] none (some [0, 6, 4, 5, 3])) 
 (.block 0 
 (.loop [46, 47, 51, 52, 55, 56, 57, 2, 61, 63, 64, 5, 49, 6] [] 
 (.seq 
 (.seq 
 (.region [⟨(some 46), .mov (.t 6), none⟩, ⟨(some 47), .mov (.t 3), none⟩, ⟨(some 48), .bin .lss .num false (.t 46) (.t 47), none⟩] none (some [48, 0, 6, 4, 5, 3])) 
 (.cond (.t 48) .skip (.exit 0))) 
 (.seq 
 (.block 1 
 (.seq 
 (.seq 
 (.region [⟨(some 51), .mov (.t 0), none⟩, ⟨(some 52), .mov (.t 6), none⟩, ⟨(some 53), .strIdx (.t 51) (.t 52), none⟩, ⟨(some 54), .bin .lss .num true (.t 53) (.c (.int .u8 (128))), none⟩, ⟨(some 55), .mov (.t 54), none⟩, ⟨(some 56), .mov (.t 0), (some (4, false))⟩, ⟨(some 57), .mov (.t 6), (some (4, false))⟩, ⟨(some 58), .strIdx (.t 56) (.t 57), (some (4, false))⟩, ⟨(some 59), .bin .gtr .num true (.t 58) (.c (.int .u8 (191))), (some (4, false))⟩, ⟨(some 60), .pick (.t 55) (.c (.bool true)) (.t 59), none⟩] none (some [60, 5, 6, 0, 4, 3])) 
 (.cond (.t 60) 
 (.seq 
 (.region [⟨(some 2), .mov (.c (.int .i64 (1))), none⟩] none (some [2])) .ret) .skip)) 
 (.region [⟨(some 61), .mov (.t 5), none⟩, ⟨(some 62), .bin .mul .num true (.c (.int .i64 (64))) (.t 61), none⟩, ⟨(some 63), .mov (.t 0), none⟩, ⟨(some 64), .mov (.t 6), none⟩, ⟨(some 65), .strIdx (.t 63) (.t 64), none⟩, ⟨(some 66), .conv .i64 (.t 65), none⟩, ⟨(some 67), .bin .add .num false (.t 62) (.t 66), none⟩, ⟨(some 68), .bin .sub .num true (.t 67) (.c (.int .i64 (128))), none⟩, ⟨(some 5), .mov (.t 68), none⟩] none (some [6, 0, 4, 5, 3])))) 
 (.region [⟨(some 49), .mov (.t 6), none⟩, ⟨(some 50), .bin .add .num true (.t 49) (.c (.int .i64 (1))), none⟩, ⟨(some 6), .mov (.t 50), none⟩] none (some [0, 6, 4, 5, 3]))))))) 
 (.seq 
 (.seq 
 (.region [⟨(some 69), .mov (.t 3), none⟩, ⟨(some 70), .bin .gtr .num true (.t 69) (.c (.int .i64 (1))), none⟩, ⟨(some 71), .mov (.t 70), none⟩, ⟨(some 72), .mov (.t 5), (some (2, true))⟩, ⟨(some 73), .mov (.t 4), (some (2, true))⟩, ⟨(some 74), .bin .lss .num false (.t 72) (.t 73), (some (2, true))⟩, ⟨(some 75), .mov (.t 74), (some (2, true))⟩, ⟨(some 76), .mov (.t 5), (some (6, false))⟩, ⟨(some 77), .bin .gtr .num true (.t 76) (.c (.int .i64 (1114111))), (some (6, false))⟩, ⟨(some 78), .pick (.t 75) (.c (.bool true)) (.t 77), (some (2, true))⟩, ⟨(some 79), .mov (.t 78), (some (2, true))⟩, ⟨(some 80), .mov (.t 5), (some (10, false))⟩, ⟨(some 81), .bin .geq .num true (.t 80) (.c (.int .i64 (55296))), (some (10, false))⟩, ⟨(some 82), .mov (.t 81), (some (10, false))⟩, ⟨(some 83), .mov (.t 5), (some (13, true))⟩, ⟨(some 84), .bin .leq .num true (.t 83) (.c (.int .i64 (57343))), (some (13, true))⟩, ⟨(some 85), .pick (.t 82) (.t 84) (.c (.bool false)), (some (10, false))⟩, ⟨(some 86), .pick (.t 79) (.c (.bool true)) (.t 85), (some (2, true))⟩, ⟨(some 87), .pick (.t 71) (.t 86) (.c (.bool false)), none⟩] none (some [87, 3])) 
 (.cond (.t 87) 
 (.seq 
 (.region [⟨(some 2), .mov (.c (.int .i64 (1))), none⟩] none (some [2])) .ret) .skip)) 
 (.seq 
 (.region [⟨(some 88), .mov (.t 3), none⟩, ⟨(some 2), .mov (.t 88), none⟩] none (some [2])) .ret)))))))))))), [.tmp 2]⟩
/-- diaeresis/diaeresisref02.size -/
def fn34 : RFn := ⟨14, 
 (.seq 
 (.region [⟨(some 4), .mov (.c (.int .i64 (0))), none⟩] none (some [1, 0])) 
 (.seq 
 (.seq 
 (.region [⟨(some 5), .mov (.t 1), none⟩, ⟨(some 6), .bin .eql .num true (.t 5) (.c (.int .i64 (1))), none⟩] none (some [6, 1, 0])) 
 (.cond (.t 6) 
 (.seq 
 (.region [⟨(some 7), .mov (.t 0), none⟩, ⟨(some 4), .mov (.t 7), none⟩] none (some [4])) .ret) .skip)) 
 (.seq 
 (.seq 
 (.region [⟨(some 8), .mov (.t 1), none⟩, ⟨(some 9), .bin .eql .num true (.t 8) (.c (.int .i64 (3))), none⟩, ⟨(some 10), .mov (.t 9), none⟩, ⟨(some 11), .mov (.t 0), (some (2, true))⟩, ⟨(some 12), .bin .eql .num true (.t 11) (.c (.int .i64 (4))), (some (2, true))⟩, ⟨(some 13), .pick (.t 10) (.t 12) (.c (.bool false)), none⟩] none (some [13])) 
 (.cond (.t 13) 
 (.seq 
 (.region [⟨(some 4), .mov (.c (.int .i64 (2))), none⟩] none (some [4])) .ret) .skip)) 
 (.seq 
 (.region [⟨(some 4), .mov (.c (.int .i64 (1))), none⟩] none (some [4])) .ret)))), [.tmp 4]⟩
/-- strings.Cut -/
def fn35 : RFn := ⟨13, 
 (.seq 
 (.region [⟨(some 4), .mov (.c (.str [])), none⟩, ⟨(some 5), .mov (.c (.str [])), none⟩, ⟨(some 6), .mov (.c (.bool false)), none⟩] none (some [0, 1])) 
 (.seq 
 (.region [⟨(some 7), .mov (.t 0), none⟩, ⟨(some 8), .mov (.t 1), none⟩, ⟨(some 9), .call (.c (.fn 44 [])) [(.t 7), (.t 8)], none⟩, ⟨(some 10), .extract 0 (.t 9), none⟩, ⟨(some 11), .extract 1 (.t 9), none⟩, ⟨(some 12), .extract 2 (.t 9), none⟩, ⟨(some 4), .mov (.t 10), none⟩, ⟨(some 5), .mov (.t 11), none⟩, ⟨(some 6), .mov (.t 12), none⟩] none (some [4, 5, 6])) .ret)), [.tmp 4, .tmp 5, .tmp 6]⟩
/-- diaeresis/place.unitOf_1 -/
def fn36 : RFn := ⟨3, 
 (.seq 
 (.region [⟨(some 2), .mov (.c (.int .i64 (0))), none⟩] none (some [])) 
 (.seq 
 (.region [⟨(some 2), .mov (.c (.int .i64 (1))), none⟩] none (some [2])) .ret)), [.tmp 2]⟩
/-- diaeresis/place.unitOf_2 -/
def fn37 : RFn := ⟨3, 
 (.seq 
 (.region [⟨(some 2), .mov (.c (.int .i64 (0))), none⟩] none (some [])) 
 (.seq 
 (.region [⟨(some 2), .mov (.c (.int .i64 (1))), none⟩] none (some [2])) .ret)), [.tmp 2]⟩
/-- diaeresis/place.runes -/
def fn38 : RFn := ⟨11, 
 (.seq 
 (.region [⟨(some 2), .mov (.c (.int .i64 (0))), none⟩] none (some [0])) 
 (.seq 
 (.region [⟨(some 6), .mov (.t 0), none⟩, ⟨(some 7), .call (.c (.fn 45 [])) [(.t 6)], none⟩, ⟨(some 5), .mov (.t 7), none⟩, ⟨(some 8), .extract 0 (.t 5), none⟩, ⟨(some 9), .extract 1 (.t 5), none⟩, ⟨(some 3), .mov (.t 8), none⟩, ⟨(some 4), .mov (.t 9), none⟩] none (some [4])) 
 (.seq 
 (.region [⟨(some 10), .mov (.t 4), none⟩, ⟨(some 2), .mov (.t 10), none⟩] none (some [2])) .ret))), [.tmp 2]⟩
/-- diaeresis/place.unitOf_3 -/
def fn39 : RFn := ⟨9, 
 (.seq 
 (.region [⟨(some 2), .mov (.c (.int .i64 (0))), none⟩] none (some [0])) 
 (.seq 
 (.region [⟨(some 3), .mov (.t 0), none⟩, ⟨(some 4), .bin .quo .num true (.t 3) (.c (.int .i64 (2))), none⟩, ⟨(some 5), .mov (.t 0), none⟩, ⟨(some 6), .bin .rem .num true (.t 5) (.c (.int .i64 (2))), none⟩, ⟨(some 7), .bin .sub .num false (.t 4) (.t 6), none⟩, ⟨(some 8), .minmax true [(.c (.int .i64 (1))), (.t 7)], none⟩, ⟨(some 2), .mov (.t 8), none⟩] none (some [2])) .ret)), [.tmp 2]⟩
/-- internal/stringslite.Cut -/
def fn44 : RFn := ⟨23, 
 (.seq 
 (.region [⟨(some 4), .mov (.c (.str [])), none⟩, ⟨(some 5), .mov (.c (.str [])), none⟩, ⟨(some 6), .mov (.c (.bool false)), none⟩] none (some [1, 0])) 
 (.seq 
 (.seq 
 (.region [⟨(some 8), .mov (.t 0), none⟩, ⟨(some 9), .mov (.t 1), none⟩, ⟨(some 10), .call (.c (.fn 49 [])) [(.t 8), (.t 9)], none⟩, ⟨(some 7), .mov (.t 10), none⟩] none (some [1, 7, 0])) 
 (.seq 
 (.region [⟨(some 11), .mov (.t 7), none⟩, ⟨(some 12), .bin .geq .num true (.t 11) (.c (.int .i64 (0))), none⟩] none (some [12, 1, 7, 0])) 
 (.cond (.t 12) 
 (.seq 
 (.region [⟨(some 13), .mov (.t 0), none⟩, ⟨(some 14), .mov (.t 7), none⟩, ⟨(some 15), .strSlice (.t 13) none (some (.t 14)), none⟩, ⟨(some 16), .mov (.t 0), none⟩, ⟨(some 17), .mov (.t 7), none⟩, ⟨(some 18), .mov (.t 1), none⟩, ⟨(some 19), .len .str (.t 18), none⟩, ⟨(some 20), .bin .add .num false (.t 17) (.t 19), none⟩, ⟨(some 21), .strSlice (.t 16) (some (.t 20)) none, none⟩, ⟨(some 4), .mov (.t 15), none⟩, ⟨(some 5), .mov (.t 21), none⟩, ⟨(some 6), .mov (.c (.bool true)), none⟩] (some [(0, 0), (1, 0), (2, 3), (3, 0), (4, 0), (5, 0), (6, 32), (7, 112), (8, 248), (9, 7), (10, 1023), (11, 2047)]) (some [4, 5, 6])) .ret) .skip))) 
 (.seq 
 (.region [⟨(some 22), .mov (.t 0), none⟩, ⟨(some 4), .mov (.t 22), none⟩, ⟨(some 5), .mov (.c (.str [])), none⟩, ⟨(some 6), .mov (.c (.bool false)), none⟩] none (some [4, 5, 6])) .ret))), [.tmp 4, .tmp 5, .tmp 6]⟩
/-- internal/stringslite.Index -/
def fn49 : RFn := ⟨143, 
 (.seq 
 (.region [⟨(some 4), .mov (.c (.int .i64 (0))), none⟩] none (some [0, 1])) 
 (.seq 
 (.region [⟨(some 14), .mov (.t 1), none⟩, ⟨(some 15), .len .str (.t 14), none⟩, ⟨(some 5), .mov (.t 15), none⟩] none (some [0, 1, 5])) 
 (.seq 
 (.block 0 
 (.seq 
 (.region [⟨(some 17), .mov (.t 5), none⟩, ⟨(some 18), .bin .eql .num true (.t 17) (.c (.int .i64 (0))), none⟩, ⟨(some 19), .mov (.t 18), none⟩, ⟨(some 20), .mov (.t 1), (some (2, false))⟩, ⟨(some 21), .mov (.t 0), (some (2, false))⟩, ⟨(some 22), .bin .eql .str false (.t 20) (.t 21), (some (2, false))⟩, ⟨(some 23), .pick (.t 19) (.c (.bool true)) (.t 22), none⟩, ⟨(some 16), .mov (.t 23), none⟩] none (some [16, 0, 1, 5])) 
 (.cond (.t 16) 
 (.seq 
 (.region [⟨(some 4), .mov (.c (.int .i64 (0))), none⟩] none (some [4])) .ret) 
 (.seq 
 (.region [⟨(some 25), .mov (.t 5), none⟩, ⟨(some 26), .bin .eql .num true (.t 25) (.c (.int .i64 (1))), none⟩, ⟨(some 24), .mov (.t 26), none⟩] none (some [24, 0, 1, 5])) 
 (.cond (.t 24) 
 (.seq 
 (.region [⟨(some 27), .mov (.t 0), none⟩, ⟨(some 28), .mov (.t 1), none⟩, ⟨(some 29), .strIdx (.t 28) (.c (.int .i64 (0))), none⟩, ⟨(some 30), .call (.c (.fn 51 [])) [(.t 27), (.t 29)], none⟩, ⟨(some 4), .mov (.t 30), none⟩] none (some [4])) .ret) 
 (.seq 
 (.region [⟨(some 32), .mov (.t 5), none⟩, ⟨(some 33), .mov (.t 0), none⟩, ⟨(some 34), .len .str (.t 33), none⟩, ⟨(some 35), .bin .geq .num false (.t 32) (.t 34), none⟩, ⟨(some 31), .mov (.t 35), none⟩] none (some [31, 0, 1, 5])) 
 (.cond (.t 31) 
 (.seq 
 (.region [⟨(some 4), .mov (.c (.int .i64 (-1))), none⟩] none (some [4])) .ret) 
 (.seq 
 (.region [⟨(some 37), .mov (.t 5), none⟩, ⟨(some 38), .bad, none⟩, ⟨(some 39), .bin .leq .num false (.t 37) (.t 38), none⟩, ⟨(some 40), .mov (.t 39), none⟩, ⟨(some 41), .mov (.t 0), (some (3, true))⟩, ⟨(some 42), .len .str (.t 41), (some (3, true))⟩, ⟨(some 43), .bin .leq .num true (.t 42) (.c (.int .i64 (64))), (some (3, true))⟩, ⟨(some 44), .pick (.t 40) (.t 43) (.c (.bool false)), none⟩, ⟨(some 36), .mov (.t 44), none⟩] none (some [36, 0, 1, 5])) 
 (.cond (.t 36) 
 (.seq 
 (.region [⟨(some 45), .mov (.t 0), none⟩, ⟨(some 46), .mov (.t 1), none⟩, ⟨(some 47), .call (.c (.fn 52 [])) [(.t 45), (.t 46)], none⟩, ⟨(some 4), .mov (.t 47), none⟩] none (some [4])) .ret) .skip))))))))) 
 (.seq 
 (.region [⟨(some 48), .mov (.t 1), none⟩, ⟨(some 49), .strIdx (.t 48) (.c (.int .i64 (0))), none⟩, ⟨(some 6), .mov (.t 49), none⟩] none (some [0, 1, 5, 6])) 
 (.seq 
 (.region [⟨(some 50), .mov (.t 1), none⟩, ⟨(some 51), .strIdx (.t 50) (.c (.int .i64 (1))), none⟩, ⟨(some 7), .mov (.t 51), none⟩] none (some [0, 1, 5, 7, 6])) 
 (.seq 
 (.region [⟨(some 8), .mov (.c (.int .i64 (0))), none⟩] none (some [0, 1, 5, 7, 6, 8])) 
 (.seq 
 (.region [⟨(some 52), .mov (.t 0), none⟩, ⟨(some 53), .len .str (.t 52), none⟩, ⟨(some 54), .mov (.t 5), none⟩, ⟨(some 55), .bin .sub .num false (.t 53) (.t 54), none⟩, ⟨(some 56), .bin .add .num true (.t 55) (.c (.int .i64 (1))), none⟩, ⟨(some 9), .mov (.t 56), none⟩] none (some [0, 1, 9, 5, 7, 6, 8])) 
 (.seq 
 (.region [⟨(some 10), .mov (.c (.int .i64 (0))), none⟩] none (some [0, 1, 9, 5, 7, 6, 10, 8])) 
 (.seq 
 (.block 1 
 (.loop [57, 58, 60, 61, 63, 65, 66, 68, 70, 11, 72, 74, 75, 78, 79, 82, 84, 85, 86, 87, 88, 91, 94, 95, 8, 97, 10, 99, 102, 103, 104, 108, 109, 111, 12, 113, 115, 116, 118, 121, 122, 123, 128, 129, 130, 133, 134, 136, 13, 138, 140, 141, 4] [] 
 (.seq 
 (.seq 
 (.region [⟨(some 57), .mov (.t 8), none⟩, ⟨(some 58), .mov (.t 9), none⟩, ⟨(some 59), .bin .lss .num false (.t 57) (.t 58), none⟩] none (some [59, 6, 7, 5, 9, 1, 0, 10, 8])) 
 (.cond (.t 59) .skip (.exit 1))) 
 (.block 2 
 (.seq 
 (.seq 
 (.region [⟨(some 60), .mov (.t 0), none⟩, ⟨(some 61), .mov (.t 8), none⟩, ⟨(some 62), .strIdx (.t 60) (.t 61), none⟩, ⟨(some 63), .mov (.t 6), none⟩, ⟨(some 64), .bin .neq .num false (.t 62) (.t 63), none⟩] none (some [64, 8, 10, 0, 1, 9, 5, 7, 6])) 
 (.cond (.t 64) 
 (.seq 
 (.region [⟨(some 65), .mov (.t 0), none⟩, ⟨(some 66), .mov (.t 8), none⟩, ⟨(some 67), .bin .add .num true (.t 66) (.c (.int .i64 (1))), none⟩, ⟨(some 68), .mov (.t 9), none⟩, ⟨(some 69), .strSlice (.t 65) (some (.t 67)) (some (.t 68)), none⟩, ⟨(some 70), .mov (.t 6), none⟩, ⟨(some 71), .call (.c (.fn 51 [])) [(.t 69), (.t 70)], none⟩, ⟨(some 11), .mov (.t 71), none⟩] none (some [8, 11, 10, 0, 1, 9, 5, 7, 6])) 
 (.seq 
 (.seq 
 (.region [⟨(some 72), .mov (.t 11), none⟩, ⟨(some 73), .bin .lss .num true (.t 72) (.c (.int .i64 (0))), none⟩] none (some [73, 8, 11, 10, 0, 1, 9, 5, 7, 6])) 
 (.cond (.t 73) 
 (.seq 
 (.region [⟨(some 4), .mov (.c (.int .i64 (-1))), none⟩] none (some [4])) .ret) .skip)) 
 (.region [⟨(some 74), .mov (.t 8), none⟩, ⟨(some 75), .mov (.t 11), none⟩, ⟨(some 76), .bin .add .num true (.t 75) (.c (.int .i64 (1))), none⟩, ⟨(some 77), .bin .add .num false (.t 74) (.t 76), none⟩, ⟨(some 8), .mov (.t 77), none⟩] none (some [8, 10, 0, 1, 9, 5, 7, 6])))) .skip)) 
 (.seq 
 (.seq 
 (.region [⟨(some 78), .mov (.t 0), none⟩, ⟨(some 79), .mov (.t 8), none⟩, ⟨(some 80), .bin .add .num true (.t 79) (.c (.int .i64 (1))), none⟩, ⟨(some 81), .strIdx (.t 78) (.t 80), none⟩, ⟨(some 82), .mov (.t 7), none⟩, ⟨(some 83), .bin .eql .num false (.t 81) (.t 82), none⟩, ⟨(some 84), .mov (.t 83), none⟩, ⟨(some 85), .mov (.t 0), (some (6, true))⟩, ⟨(some 86), .mov (.t 8), (some (6, true))⟩, ⟨(some 87), .mov (.t 8), (some (6, true))⟩, ⟨(some 88), .mov (.t 5), (some (6, true))⟩, ⟨(some 89), .bin .add .num false (.t 87) (.t 88), (some (6, true))⟩, ⟨(some 90), .strSlice (.t 85) (some (.t 86)) (some (.t 89)), (some (6, true))⟩, ⟨(some 91), .mov (.t 1), (some (6, true))⟩, ⟨(some 92), .bin .eql .str false (.t 90) (.t 91), (some (6, true))⟩, ⟨(some 93), .pick (.t 84) (.t 92) (.c (.bool false)), none⟩] none (some [93, 8, 10, 0, 1, 9, 5, 7, 6])) 
 (.cond (.t 93) 
 (.seq 
 (.region [⟨(some 94), .mov (.t 8), none⟩, ⟨(some 4), .mov (.t 94), none⟩] none (some [4])) .ret) .skip)) 
 (.seq 
 (.region [⟨(some 95), .mov (.t 8), none⟩, ⟨(some 96), .bin .add .num true (.t 95) (.c (.int .i64 (1))), none⟩, ⟨(some 8), .mov (.t 96), none⟩] none (some [10, 0, 1, 9, 5, 7, 6, 8])) 
 (.seq 
 (.region [⟨(some 97), .mov (.t 10), none⟩, ⟨(some 98), .bin .add .num true (.t 97) (.c (.int .i64 (1))), none⟩, ⟨(some 10), .mov (.t 98), none⟩] none (some [0, 1, 9, 5, 7, 6, 10, 8])) 
 (.seq 
 (.region [⟨(some 99), .mov (.t 5), none⟩, ⟨(some 100), .bad, none⟩, ⟨(some 101), .bin .leq .num false (.t 99) (.t 100), none⟩, ⟨(some 102), .mov (.t 101), none⟩, ⟨(some 103), .mov (.t 10), (some (3, true))⟩, ⟨(some 104), .mov (.t 8), (some (3, true))⟩, ⟨(some 105), .call (.c (.fn 53 [])) [(.t 104)], (some (3, true))⟩, ⟨(some 106), .bin .gtr .num false (.t 103) (.t 105), (some (3, true))⟩, ⟨(some 107), .pick (.t 102) (.t 106) (.c (.bool false)), none⟩] none (some [107, 0, 1, 9, 5, 7, 6, 10, 8])) 
 (.cond (.t 107) 
 (.seq 
 (.region [⟨(some 108), .mov (.t 0), none⟩, ⟨(some 109), .mov (.t 8), none⟩, ⟨(some 110), .strSlice (.t 108) (some (.t 109)) none, none⟩, ⟨(some 111), .mov (.t 1), none⟩, ⟨(some 112), .call (.c (.fn 52 [])) [(.t 110), (.t 111)], none⟩, ⟨(some 12), .mov (.t 112), none⟩] none (some [8, 12])) 
 (.seq 
 (.seq 
 (.region [⟨(some 113), .mov (.t 12), none⟩, ⟨(some 114), .bin .geq .num true (.t 113) (.c (.int .i64 (0))), none⟩] none (some [114, 8, 12])) 
 (.cond (.t 114) 
 (.seq 
 (.region [⟨(some 115), .mov (.t 12), none⟩, ⟨(some 116), .mov (.t 8), none⟩, ⟨(some 117), .bin .add .num false (.t 115) (.t 116), none⟩, ⟨(some 4), .mov (.t 117), none⟩] none (some [4])) .ret) .skip)) 
 (.seq 
 (.region [⟨(some 4), .mov (.c (.int .i64 (-1))), none⟩] none (some [4])) .ret))) 
 (.seq 
 (.region [⟨(some 118), .mov (.t 5), none⟩, ⟨(some 119), .bad, none⟩, ⟨(some 120), .bin .gtr .num false (.t 118) (.t 119), none⟩, ⟨(some 121), .mov (.t 120), none⟩, ⟨(some 122), .mov (.t 10), (some (3, true))⟩, ⟨(some 123), .mov (.t 8), (some (3, true))⟩, ⟨(some 124), .bin .shr .num true (.t 123) (.c (.int .u64 (4))), (some (3, true))⟩, ⟨(some 125), .bin .add .num true (.c (.int .i64 (4))) (.t 124), (some (3, true))⟩, ⟨(some 126), .bin .geq .num false (.t 122) (.t 125), (some (3, true))⟩, ⟨(some 127), .pick (.t 121) (.t 126) (.c (.bool false)), none⟩, ⟨(some 128), .mov (.t 127), none⟩, ⟨(some 129), .mov (.t 8), (some (10, true))⟩, ⟨(some 130), .mov (.t 9), (some (10, true))⟩, ⟨(some 131), .bin .lss .num false (.t 129) (.t 130), (some (10, true))⟩, ⟨(some 132), .pick (.t 128) (.t 131) (.c (.bool false)), none⟩] none (some [132, 0, 1, 9, 5, 7, 6, 10, 8])) 
 (.cond (.t 132) 
 (.seq 
 (.region [⟨(some 133), .mov (.t 0), none⟩, ⟨(some 134), .mov (.t 8), none⟩, ⟨(some 135), .strSlice (.t 133) (some (.t 134)) none, none⟩, ⟨(some 136), .mov (.t 1), none⟩, ⟨(some 137), .call (.c (.fn 54 [])) [(.t 135), (.t 136)], none⟩, ⟨(some 13), .mov (.t 137), none⟩] none (some [8, 13])) 
 (.seq 
 (.seq 
 (.region [⟨(some 138), .mov (.t 13), none⟩, ⟨(some 139), .bin .lss .num true (.t 138) (.c (.int .i64 (0))), none⟩] none (some [139, 8, 13])) 
 (.cond (.t 139) 
 (.seq 
 (.region [⟨(some 4), .mov (.c (.int .i64 (-1))), none⟩] none (some [4])) .ret) .skip)) 
 (.seq 
 (.region [⟨(some 140), .mov (.t 8), none⟩, ⟨(some 141), .mov (.t 13), none⟩, ⟨(some 142), .bin .add .num false (.t 140) (.t 141), none⟩, ⟨(some 4), .mov (.t 142), none⟩] none (some [4])) .ret))) .skip)))))))))))) 
 (.seq 
 (.region [⟨(some 4), .mov (.c (.int .i64 (-1))), none⟩] none (some [4])) .ret)))))))))), [.tmp 4]⟩
def tab0 : FuncId → Option RFn
  | 3 => some fn3
  | 4 => some fn4
  | 5 => some fn5
  | 6 => some fn6
  | 7 => some fn7
  | 8 => some fn8
  | 9 => some fn9
  | 10 => some fn10
  | 11 => some fn11
  | 12 => some fn12
  | 13 => some fn13
  | 14 => some fn14
  | 15 => some fn15
  | 16 => some fn16
  | 17 => some fn17
  | 18 => some fn18
  | 19 => some fn19
  | 20 => some fn20
  | 21 => some fn21
  | 22 => some fn22
  | 23 => some fn23
  | 24 => some fn24
  | 25 => some fn25
  | 26 => some fn26
  | 27 => some fn27
  | 28 => some fn28
  | 29 => some fn29
  | 30 => some fn30
  | 32 => some fn32
  | 33 => some fn33
  | 34 => some fn34
  | 35 => some fn35
  | 36 => some fn36
  | 37 => some fn37
  | 38 => some fn38
  | 39 => some fn39
  | 44 => some fn44
  | 49 => some fn49
  | _ => none

/-- The machine has the functions of the program. -/
theorem comp3 : compF Go.Proofs.Tryd.prog (fun _ => none) (deadOf Go.Proofs.Tryd.prog 3) 3 = some fn3 := by kernel_rfl
theorem comp4 : compF Go.Proofs.Tryd.prog (fun _ => none) (deadOf Go.Proofs.Tryd.prog 4) 4 = some fn4 := by kernel_rfl
theorem comp5 : compF Go.Proofs.Tryd.prog (fun _ => none) (deadOf Go.Proofs.Tryd.prog 5) 5 = some fn5 := by kernel_rfl
theorem comp6 : compF Go.Proofs.Tryd.prog (fun _ => none) (deadOf Go.Proofs.Tryd.prog 6) 6 = some fn6 := by kernel_rfl
theorem comp7 : compF Go.Proofs.Tryd.prog (fun _ => none) (deadOf Go.Proofs.Tryd.prog 7) 7 = some fn7 := by kernel_rfl
theorem comp8 : compF Go.Proofs.Tryd.prog (fun _ => none) (deadOf Go.Proofs.Tryd.prog 8) 8 = some fn8 := by kernel_rfl
theorem comp9 : compF Go.Proofs.Tryd.prog (fun _ => none) (deadOf Go.Proofs.Tryd.prog 9) 9 = some fn9 := by kernel_rfl
theorem comp10 : compF Go.Proofs.Tryd.prog (fun _ => none) (deadOf Go.Proofs.Tryd.prog 10) 10 = some fn10 := by kernel_rfl
theorem comp11 : compF Go.Proofs.Tryd.prog (fun _ => none) (deadOf Go.Proofs.Tryd.prog 11) 11 = some fn11 := by kernel_rfl
theorem comp12 : compF Go.Proofs.Tryd.prog (fun _ => none) (deadOf Go.Proofs.Tryd.prog 12) 12 = some fn12 := by kernel_rfl
theorem comp13 : compF Go.Proofs.Tryd.prog (fun _ => none) (deadOf Go.Proofs.Tryd.prog 13) 13 = some fn13 := by kernel_rfl
theorem comp14 : compF Go.Proofs.Tryd.prog (fun _ => none) (deadOf Go.Proofs.Tryd.prog 14) 14 = some fn14 := by kernel_rfl
theorem comp15 : compF Go.Proofs.Tryd.prog (fun _ => none) (deadOf Go.Proofs.Tryd.prog 15) 15 = some fn15 := by kernel_rfl
theorem comp16 : compF Go.Proofs.Tryd.prog (fun _ => none) (deadOf Go.Proofs.Tryd.prog 16) 16 = some fn16 := by kernel_rfl
theorem comp17 : compF Go.Proofs.Tryd.prog (fun _ => none) (deadOf Go.Proofs.Tryd.prog 17) 17 = some fn17 := by kernel_rfl
theorem comp18 : compF Go.Proofs.Tryd.prog (fun _ => none) (deadOf Go.Proofs.Tryd.prog 18) 18 = some fn18 := by kernel_rfl
theorem comp19 : compF Go.Proofs.Tryd.prog (fun _ => none) (deadOf Go.Proofs.Tryd.prog 19) 19 = some fn19 := by kernel_rfl
theorem comp20 : compF Go.Proofs.Tryd.prog (fun _ => none) (deadOf Go.Proofs.Tryd.prog 20) 20 = some fn20 := by kernel_rfl
theorem comp21 : compF Go.Proofs.Tryd.prog (fun _ => none) (deadOf Go.Proofs.Tryd.prog 21) 21 = some fn21 := by kernel_rfl
theorem comp22 : compF Go.Proofs.Tryd.prog (fun _ => none) (deadOf Go.Proofs.Tryd.prog 22) 22 = some fn22 := by kernel_rfl
theorem comp23 : compF Go.Proofs.Tryd.prog (fun _ => none) (deadOf Go.Proofs.Tryd.prog 23) 23 = some fn23 := by kernel_rfl
theorem comp24 : compF Go.Proofs.Tryd.prog (fun _ => none) (deadOf Go.Proofs.Tryd.prog 24) 24 = some fn24 := by kernel_rfl
theorem comp25 : compF Go.Proofs.Tryd.prog (fun _ => none) (deadOf Go.Proofs.Tryd.prog 25) 25 = some fn25 := by kernel_rfl
theorem comp26 : compF Go.Proofs.Tryd.prog (fun _ => none) (deadOf Go.Proofs.Tryd.prog 26) 26 = some fn26 := by kernel_rfl
theorem comp27 : compF Go.Proofs.Tryd.prog (fun _ => none) (deadOf Go.Proofs.Tryd.prog 27) 27 = some fn27 := by kernel_rfl
theorem comp28 : compF Go.Proofs.Tryd.prog (fun _ => none) (deadOf Go.Proofs.Tryd.prog 28) 28 = some fn28 := by kernel_rfl
theorem comp29 : compF Go.Proofs.Tryd.prog (fun _ => none) (deadOf Go.Proofs.Tryd.prog 29) 29 = some fn29 := by kernel_rfl
theorem comp30 : compF Go.Proofs.Tryd.prog (fun _ => none) (deadOf Go.Proofs.Tryd.prog 30) 30 = some fn30 := by kernel_rfl
theorem comp32 : compF Go.Proofs.Tryd.prog (fun _ => none) (deadOf Go.Proofs.Tryd.prog 32) 32 = some fn32 := by kernel_rfl
theorem comp33 : compF Go.Proofs.Tryd.prog (fun _ => none) (deadOf Go.Proofs.Tryd.prog 33) 33 = some fn33 := by kernel_rfl
theorem comp34 : compF Go.Proofs.Tryd.prog (fun _ => none) (deadOf Go.Proofs.Tryd.prog 34) 34 = some fn34 := by kernel_rfl
theorem comp35 : compF Go.Proofs.Tryd.prog (fun _ => none) (deadOf Go.Proofs.Tryd.prog 35) 35 = some fn35 := by kernel_rfl
theorem comp36 : compF Go.Proofs.Tryd.prog (fun _ => none) (deadOf Go.Proofs.Tryd.prog 36) 36 = some fn36 := by kernel_rfl
theorem comp37 : compF Go.Proofs.Tryd.prog (fun _ => none) (deadOf Go.Proofs.Tryd.prog 37) 37 = some fn37 := by kernel_rfl
theorem comp38 : compF Go.Proofs.Tryd.prog (fun _ => none) (deadOf Go.Proofs.Tryd.prog 38) 38 = some fn38 := by kernel_rfl
theorem comp39 : compF Go.Proofs.Tryd.prog (fun _ => none) (deadOf Go.Proofs.Tryd.prog 39) 39 = some fn39 := by kernel_rfl
theorem comp44 : compF Go.Proofs.Tryd.prog (fun _ => none) (deadOf Go.Proofs.Tryd.prog 44) 44 = some fn44 := by kernel_rfl
theorem comp49 : compF Go.Proofs.Tryd.prog (fun _ => none) (deadOf Go.Proofs.Tryd.prog 49) 49 = some fn49 := by kernel_rfl
end Go.Ab

/-
  What each function is, as a plain term; printed by a program (wip/gen), held by the kernel.
-/
set_option maxRecDepth 100000
namespace Go.Ab
open Go
def rsh0 : FuncId → RSh × Bool
  | 16 => (.own 1, true)
  | 22 => (.own 1, true)
  | 28 => (.tup [.own 1, .own 1], true)
  | _ => (.cl, true)
def cfg0 (b : KB) (dsh : Nat → RSh) : KCfg := { b, rsh := rsh0, spF := fun f => f == 31 || f == 45 || f == 51, asT := fun f p => if f = 31 ∧ p = 69 then some (51, 1) else none, dsh }

theorem run3 (B : KB) {E : Type} (h : Handler E) (dep : Nat) (e : E) (x0 : PV) (x1 : PV) (x2 : PV) (x3 : PV) (x4 : PV) :
    runK (cfg0 B (fun _ => .cl)) fn3 (.cl) h dep [.cv x0, .cv x1, .cv x2, .cv x3, .cv x4] e =
    bindO (callO B .cl (.fn 10 []) []) (fun z1 => bindO (callO B .cl (.fn 11 []) [x0]) (fun z2 => bindO (callO B .cl (.fn 12 []) [z2, x1, x4]) (fun z3 => bindO (pureO (.extract 0 (.c
    z3))) (fun z4 => bindO (pureO (.extract 1 (.c z3))) (fun z5 => bindO (pureO (.extract 2 (.c z3))) (fun z6 => bindO (callO B .cl (.fn 13 []) [z2, x1, x4]) (fun z7 => bindO (pureO
    (.extract 0 (.c z7))) (fun z8 => bindO (pureO (.extract 1 (.c z7))) (fun z9 => bindO (pureO (.extract 2 (.c z7))) (fun z10 => bindO (callO B .cl (.fn 14 []) [z2, x2, x3, x4]) (fun
    z11 => bindO (pureO (.extract 0 (.c z11))) (fun z12 => bindO (pureO (.extract 1 (.c z11))) (fun z13 => bindO (callO B .cl (.fn 15 []) [z2, x2, x3, x4]) (fun z14 => bindO (pureO
    (.extract 0 (.c z14))) (fun z15 => bindO (pureO (.extract 1 (.c z14))) (fun z16 => bindO (iteP z1 (bindO (pureO (.bin .eql .num false (.c z4) (.c z8))) (fun z17 => iteP z17 (bindO
    (pureO (.bin .eql .num false (.c z5) (.c z9))) (fun z18 => iteP z18 (bindO (pureO (.bin .eql .num false (.c z6) (.c z10))) (fun z19 => iteP z19 (bindO (pureO (.bin .eql .num false
    (.c z12) (.c z15))) (fun z20 => iteP z20 (bindO (pureO (.bin .eql .num false (.c z13) (.c z16))) (fun z21 => some z21)) (some (.bool false)))) (some (.bool false)))) (some (.bool
    false)))) (some (.bool false)))) (some (.bool false))) (fun z22 => some (z22, e)))))))))))))))))) := by kernel_rfl
theorem run4 (B : KB) {E : Type} (h : Handler E) (dep : Nat) (e : E) (x0 : PV) (x1 : PV) (x2 : PV) (x3 : PV) (x4 : PV) :
    runK (cfg0 B (fun _ => .cl)) fn4 (.cl) h dep [.cv x0, .cv x1, .cv x2, .cv x3, .cv x4] e =
    bindO (callO B .cl (.fn 10 []) []) (fun z1 => bindO (callO B .cl (.fn 11 []) [x0]) (fun z2 => bindO (callO B .cl (.fn 12 []) [z2, x1, x4]) (fun z3 => bindO (pureO (.extract 0 (.c
    z3))) (fun z4 => bindO (pureO (.extract 1 (.c z3))) (fun z5 => bindO (pureO (.extract 2 (.c z3))) (fun z6 => bindO (callO B .cl (.fn 14 []) [z2, z4, z5, x4]) (fun z7 => bindO
    (pureO (.extract 0 (.c z7))) (fun z8 => bindO (pureO (.extract 1 (.c z7))) (fun z9 => bindO (bindO (pureO (.bin .eql .num true (.c z6) (.c (.int .i64 0)))) (fun z10 => iteP z10
    (bindO (pureO (.bin .neq .num true (.c z9) (.c (.int .i64 0)))) (fun z11 => iteP z11 (some (.bool true)) (bindO (pureO (.bin .neq .num false (.c z8) (.c x1))) (fun z12 => some
    z12)))) (some (.bool false)))) (fun z13 => iteP z13 (some (.bool false, e)) (bindO (callO B .cl (.fn 14 []) [z2, x2, x3, x4]) (fun z14 => bindO (pureO (.extract 0 (.c z14))) (fun
    z15 => bindO (pureO (.extract 1 (.c z14))) (fun z16 => bindO (callO B .cl (.fn 12 []) [z2, z15, x4]) (fun z17 => bindO (pureO (.extract 0 (.c z17))) (fun z18 => bindO (pureO
    (.extract 1 (.c z17))) (fun z19 => bindO (pureO (.extract 2 (.c z17))) (fun z20 => bindO (iteP z1 (bindO (pureO (.bin .neq .num true (.c z16) (.c (.int .i64 0)))) (fun z21 => iteP
    z21 (some (.bool true)) (bindO (pureO (.bin .eql .num true (.c z20) (.c (.int .i64 0)))) (fun z22 => iteP z22 (bindO (pureO (.bin .eql .num false (.c z18) (.c x2))) (fun z23 =>
    iteP z23 (bindO (pureO (.bin .eql .num false (.c z19) (.c x3))) (fun z24 => some z24)) (some (.bool false)))) (some (.bool false)))))) (some (.bool false))) (fun z25 => some (z25,
    e)))))))))))))))))))) := by kernel_rfl
theorem run5 (B : KB) {E : Type} (h : Handler E) (dep : Nat) (e : E) (x0 : PV) (x1 : PV) (x2 : PV) (x3 : PV) :
    runK (cfg0 B (fun _ => .cl)) fn5 (.cl) h dep [.cv x0, .cv x1, .cv x2, .cv x3] e =
    bindO (callO B .cl (.fn 10 []) []) (fun z1 => bindO (callO B .cl (.fn 11 []) [x0]) (fun z2 => bindO (callO B .cl (.fn 12 []) [z2, x1, x3]) (fun z3 => bindO (pureO (.extract 0 (.c
    z3))) (fun z4 => bindO (pureO (.extract 1 (.c z3))) (fun z5 => bindO (pureO (.extract 2 (.c z3))) (fun z6 => bindO (callO B .cl (.fn 12 []) [z2, x2, x3]) (fun z7 => bindO (pureO
    (.extract 0 (.c z7))) (fun z8 => bindO (pureO (.extract 1 (.c z7))) (fun z9 => bindO (pureO (.extract 2 (.c z7))) (fun z10 => bindO (bindO (pureO (.bin .neq .num true (.c z6) (.c
    (.int .i64 0)))) (fun z11 => iteP z11 (some (.bool true)) (bindO (pureO (.bin .neq .num true (.c z10) (.c (.int .i64 0)))) (fun z12 => some z12)))) (fun z13 => iteP z13 (some (z1,
    e)) (bindO (iteP z1 (bindO (pureO (.bin .lss .num false (.c x1) (.c x2))) (fun z14 => bindO (pureO (.bin .lss .num false (.c z4) (.c z8))) (fun z15 => iteP z15 (bindO (pureO (.bin
    .eql .bool false (.c z14) (.c (.bool true)))) (fun z16 => some z16)) (bindO (pureO (.bin .eql .num false (.c z4) (.c z8))) (fun z17 => iteP z17 (bindO (pureO (.bin .lss .num false
    (.c z5) (.c z9))) (fun z18 => bindO (pureO (.bin .eql .bool false (.c z14) (.c z18))) (fun z19 => some z19))) (bindO (pureO (.bin .eql .bool false (.c z14) (.c (.bool false))))
    (fun z20 => some z20))))))) (some (.bool false))) (fun z21 => some (z21, e)))))))))))))) := by kernel_rfl
theorem run6 (B : KB) {E : Type} (h : Handler E) (dep : Nat) (e : E) (x0 : PV) (x1 : PV) :
    runK (cfg0 B (fun _ => .cl)) fn6 (.cl) h dep [.cv x0, .cv x1] e =
    bindO (callO B .cl (.fn 10 []) []) (fun z1 => bindO (callO B .cl (.fn 11 []) [x0]) (fun z2 => bindO (callO B .cl (.fn 12 []) [z2, x1, .int .i64 1]) (fun z3 => bindO (pureO
    (.extract 0 (.c z3))) (fun z4 => bindO (pureO (.extract 1 (.c z3))) (fun z5 => bindO (pureO (.extract 2 (.c z3))) (fun z6 => bindO (bindO (pureO (.bin .lss .num true (.c x1) (.c
    (.int .i64 0)))) (fun z7 => iteP z7 (some (.bool true)) (bindO (pureO (.len .str (.c z2))) (fun z8 => bindO (pureO (.bin .gtr .num false (.c x1) (.c z8))) (fun z9 => some z9)))))
    (fun z10 => iteP z10 (bindO (iteP z1 (bindO (pureO (.bin .eql .num true (.c z6) (.c (.int .i64 20)))) (fun z11 => some z11)) (some (.bool false))) (fun z12 => some (z12, e)))
    (bindO (callO B (.own 1) (.fn 16 []) [z2]) (fun z13 => bindO (iteP z1 (bindO (pureO (.bin .eql .num true (.c z6) (.c (.int .i64 0)))) (fun z14 => iteP z14 (bindO (pureO (.bin .geq
    .num true (.c z4) (.c (.int .i64 0)))) (fun z15 => iteP z15 (bindO (pureO (.bin .lss .num false (.c z4) (.c (nI (lenL (itemsP z13)))))) (fun z16 => iteP z16 (bindO (natO z4) (fun
    z17 => chkO (ltN z17 (lenL (itemsP z13))) (bindO (elemO (itemsP z13) (addN 0 z17) 0 1 false) (fun z18 => bindO (pureO (.bin .sub .num false (.c x1) (.c z18))) (fun z19 => bindO
    (pureO (.bin .eql .num false (.c z5) (.c z19))) (fun z20 => some z20)))))) (some (.bool false)))) (some (.bool false)))) (some (.bool false)))) (some (.bool false))) (fun z21 =>
    some (z21, e))))))))))) := by kernel_rfl
theorem run7 (B : KB) {E : Type} (h : Handler E) (dep : Nat) (e : E) (x0 : PV) :
    runK (cfg0 B (fun _ => .cl)) fn7 (.cl) h dep [.cv x0] e =
    bindO (callO B .cl (.fn 10 []) []) (fun z1 => bindO (callO B .cl (.fn 11 []) [x0]) (fun z2 => bindO (callO B (.own 1) (.fn 16 []) [z2]) (fun z3 => chkO (noUndef [z2, z1, nI (lenL
    (itemsP z3)), .str [], .int .i64 0]) (loopL (fun z4 => bindO (pureO (.bin .lss .num false (.c (nth z4.1 4)) (.c (nI (natP (nth z4.1 2)))))) (fun z5 => iteP z5 (bindO (callO B .cl
    (.fn 17 []) [nth z4.1 0, nth z4.1 4]) (fun z6 => bindO (pureO (.extract 0 (.c z6))) (fun z7 => bindO (pureO (.extract 1 (.c z6))) (fun z8 => bindO (pureO (.bin .gtr .num true (.c
    (nth z4.1 4)) (.c (.int .i64 0)))) (fun z9 => iteP z9 (bindO (pureO (.bin .add .str true (.c (nth z4.1 3)) (.c (.str [10])))) (fun z10 => bindO (bindO (pureO (.bin .neq .num true
    (.c z8) (.c (.int .i64 0)))) (fun z11 => iteP z11 (some (.bool true)) (bindO (natO (nth z4.1 4)) (fun z12 => chkO (ltN z12 (natP (nth z4.1 2))) (bindO (elemO (itemsP (nth z4.1 5))
    (addN 0 z12) 0 1 false) (fun z13 => bindO (pureO (.len .str (.c z10))) (fun z14 => bindO (pureO (.bin .neq .num false (.c z13) (.c z14))) (fun z15 => some z15)))))))) (fun z16 =>
    iteP z16 (bindO (some (.bool false, z4.2)) (fun z17 => some (.inr z17))) (bindO (pureO (.bin .add .str false (.c z10) (.c z7))) (fun z18 => bindO (pureO (.bin .add .num true (.c
    (nth z4.1 4)) (.c (.int .i64 1)))) (fun z19 => some (.inl ([nth z4.1 0, nth z4.1 1, nI (natP (nth z4.1 2)), z18, z19, .sl 1 (itemsP (nth z4.1 5)) false], z4.2)))))))) (bindO (bindO
    (pureO (.bin .neq .num true (.c z8) (.c (.int .i64 0)))) (fun z20 => iteP z20 (some (.bool true)) (bindO (natO (nth z4.1 4)) (fun z21 => chkO (ltN z21 (natP (nth z4.1 2))) (bindO
    (elemO (itemsP (nth z4.1 5)) (addN 0 z21) 0 1 false) (fun z22 => bindO (pureO (.len .str (.c (nth z4.1 3)))) (fun z23 => bindO (pureO (.bin .neq .num false (.c z22) (.c z23))) (fun
    z24 => some z24)))))))) (fun z25 => iteP z25 (bindO (some (.bool false, z4.2)) (fun z26 => some (.inr z26))) (bindO (pureO (.bin .add .str false (.c (nth z4.1 3)) (.c z7))) (fun
    z27 => bindO (pureO (.bin .add .num true (.c (nth z4.1 4)) (.c (.int .i64 1)))) (fun z28 => some (.inl ([nth z4.1 0, nth z4.1 1, nI (natP (nth z4.1 2)), z27, z28, .sl 1 (itemsP
    (nth z4.1 5)) false], z4.2)))))))))))) (bindO (bindO (callO B .cl (.fn 17 []) [nth z4.1 0, nI (natP (nth z4.1 2))]) (fun z29 => bindO (pureO (.extract 0 (.c z29))) (fun z30 =>
    bindO (pureO (.extract 1 (.c z29))) (fun z31 => bindO (iteP (nth z4.1 1) (bindO (pureO (.bin .eql .str false (.c (nth z4.1 3)) (.c (nth z4.1 0)))) (fun z32 => iteP z32 (bindO
    (pureO (.bin .eql .num true (.c z31) (.c (.int .i64 20)))) (fun z33 => some z33)) (some (.bool false)))) (some (.bool false))) (fun z34 => some (z34, z4.2)))))) (fun z35 => some
    (.inr z35))))) ([z2, z1, nI (lenL (itemsP z3)), .str [], .int .i64 0, .sl 1 (itemsP z3) false], e))))) := by kernel_rfl
theorem run8 (B : KB) {E : Type} (h : Handler E) (dep : Nat) (e : E) (x0 : PV) (x1 : PV) (x2 : PV) :
    runK (cfg0 B (fun _ => .cl)) fn8 (.cl) h dep [.cv x0, .cv x1, .cv x2] e =
    bindO (callO B .cl (.fn 10 []) []) (fun z1 => bindO (callO B .cl (.fn 11 []) [x0]) (fun z2 => bindO (callO B .cl (.fn 17 []) [z2, x1]) (fun z3 => bindO (pureO (.extract 0 (.c z3)))
    (fun z4 => bindO (pureO (.extract 1 (.c z3))) (fun z5 => bindO (callO B .cl (.fn 18 []) [z2, x1]) (fun z6 => bindO (pureO (.extract 0 (.c z6))) (fun z7 => bindO (pureO (.extract 1
    (.c z6))) (fun z8 => bindO (callO B .cl (.fn 19 []) [z2, x1, x2]) (fun z9 => bindO (pureO (.extract 0 (.c z9))) (fun z10 => bindO (pureO (.extract 1 (.c z9))) (fun z11 => bindO
    (callO B .cl (.fn 20 []) [z2, x1, x2]) (fun z12 => bindO (pureO (.extract 0 (.c z12))) (fun z13 => bindO (pureO (.extract 1 (.c z12))) (fun z14 => iteP z1 (bindO (callO B (.own 1)
    (.fn 16 []) [z2]) (fun z15 => bindO (callO B (.own 1) (.fn 22 []) [z2]) (fun z16 => bindO (lendO B .cl true 21 [slO 1 1 (itemsP z15) 0 (lenL (itemsP z15)), slO 1 1 (itemsP z16) 0
    (lenL (itemsP z16))]) (fun z17 => iteP z17 (bindO (pureO (.bin .eql .str false (.c z4) (.c z7))) (fun z18 => iteP z18 (bindO (pureO (.bin .eql .num false (.c z5) (.c z8))) (fun z19
    => iteP z19 (bindO (pureO (.bin .eql .num false (.c z10) (.c z13))) (fun z20 => iteP z20 (bindO (pureO (.bin .eql .num false (.c z11) (.c z14))) (fun z21 => some (z21, e))) (some
    (.bool false, e)))) (some (.bool false, e)))) (some (.bool false, e)))) (some (.bool false, e)))))) (some (.bool false, e)))))))))))))))) := by kernel_rfl
theorem run9 (B : KB) {E : Type} (h : Handler E) (dep : Nat) (e : E) (x0 : PV) (x1 : PV) :
    runK (cfg0 B (fun _ => .cl)) fn9 (.cl) h dep [.cv x0, .cv x1] e =
    bindO (callO B .cl (.fn 10 []) []) (fun z1 => bindO (callO B .cl (.fn 11 []) [x0]) (fun z2 => bindO (callO B .cl (.fn 17 []) [z2, x1]) (fun z3 => bindO (pureO (.extract 0 (.c z3)))
    (fun z4 => bindO (pureO (.extract 1 (.c z3))) (fun z5 => bindO (callO B .cl (.fn 19 []) [z2, x1, .int .i64 1]) (fun z6 => bindO (pureO (.extract 0 (.c z6))) (fun z7 => bindO (pureO
    (.extract 1 (.c z6))) (fun z8 => bindO (callO B .cl (.fn 19 []) [z2, x1, .int .i64 2]) (fun z9 => bindO (pureO (.extract 0 (.c z9))) (fun z10 => bindO (pureO (.extract 1 (.c z9)))
    (fun z11 => bindO (callO B .cl (.fn 19 []) [z2, x1, .int .i64 3]) (fun z12 => bindO (pureO (.extract 0 (.c z12))) (fun z13 => bindO (pureO (.extract 1 (.c z12))) (fun z14 => bindO
    (pureO (.bin .neq .num true (.c z5) (.c (.int .i64 0)))) (fun z15 => iteP z15 (bindO (iteP z1 (bindO (pureO (.bin .eql .num false (.c z8) (.c z5))) (fun z16 => iteP z16 (bindO
    (pureO (.bin .eql .num false (.c z11) (.c z5))) (fun z17 => iteP z17 (bindO (pureO (.bin .eql .num false (.c z14) (.c z5))) (fun z18 => iteP z18 (bindO (pureO (.bin .eql .num true
    (.c z7) (.c (.int .i64 0)))) (fun z19 => iteP z19 (bindO (pureO (.bin .eql .num true (.c z10) (.c (.int .i64 0)))) (fun z20 => iteP z20 (bindO (pureO (.bin .eql .num true (.c z13)
    (.c (.int .i64 0)))) (fun z21 => some z21)) (some (.bool false)))) (some (.bool false)))) (some (.bool false)))) (some (.bool false)))) (some (.bool false)))) (some (.bool false)))
    (fun z22 => some (z22, e))) (bindO (iteP z1 (bindO (pureO (.bin .eql .num true (.c z8) (.c (.int .i64 0)))) (fun z23 => iteP z23 (bindO (pureO (.bin .eql .num true (.c z11) (.c
    (.int .i64 0)))) (fun z24 => iteP z24 (bindO (pureO (.bin .eql .num true (.c z14) (.c (.int .i64 0)))) (fun z25 => iteP z25 (bindO (pureO (.len .str (.c z4))) (fun z26 => bindO
    (pureO (.bin .eql .num false (.c z7) (.c z26))) (fun z27 => iteP z27 (bindO (pureO (.bin .leq .num false (.c z10) (.c z13))) (fun z28 => iteP z28 (bindO (pureO (.bin .leq .num
    false (.c z13) (.c z7))) (fun z29 => iteP z29 (bindO (pureO (.bin .mul .num true (.c (.int .i64 2)) (.c z10))) (fun z30 => bindO (pureO (.bin .leq .num false (.c z13) (.c z30)))
    (fun z31 => some z31))) (some (.bool false)))) (some (.bool false)))) (some (.bool false))))) (some (.bool false)))) (some (.bool false)))) (some (.bool false)))) (some (.bool
    false))) (fun z32 => some (z32, e)))))))))))))))))) := by kernel_rfl
theorem run10 (B : KB) {E : Type} (h : Handler E) (dep : Nat) (e : E)  :
    runK (cfg0 B (fun _ => .cl)) fn10 (.cl) h dep [] e =
    bindO (callO B .cl (.fn 12 []) [.str [97, 226, 134, 144, 49, 10, 98], .int .i64 4, .int .i64 1]) (fun z1 => bindO (pureO (.extract 0 (.c z1))) (fun z2 => bindO (pureO (.extract 1
    (.c z1))) (fun z3 => bindO (pureO (.extract 2 (.c z1))) (fun z4 => bindO (callO B .cl (.fn 12 []) [.str [97, 226, 134, 144, 49, 10, 98], .int .i64 4, .int .i64 3]) (fun z5 => bindO
    (pureO (.extract 0 (.c z5))) (fun z6 => bindO (pureO (.extract 1 (.c z5))) (fun z7 => bindO (pureO (.extract 2 (.c z5))) (fun z8 => bindO (callO B .cl (.fn 12 []) [.str [97, 226,
    134, 144, 49, 10, 98], .int .i64 2, .int .i64 2]) (fun z9 => bindO (pureO (.extract 0 (.c z9))) (fun z10 => bindO (pureO (.extract 1 (.c z9))) (fun z11 => bindO (pureO (.extract 2
    (.c z9))) (fun z12 => bindO (callO B .cl (.fn 14 []) [.str [97, 226, 134, 144, 49, 10, 98], .int .i64 1, .int .i64 1, .int .i64 2]) (fun z13 => bindO (pureO (.extract 0 (.c z13)))
    (fun z14 => bindO (pureO (.extract 1 (.c z13))) (fun z15 => bindO (callO B (.own 1) (.fn 16 []) [.str [97, 226, 134, 144, 49, 10, 98]]) (fun z16 => bindO (bindO (pureO (.bin .eql
    .num true (.c z2) (.c (.int .i64 0)))) (fun z17 => iteP z17 (bindO (pureO (.bin .eql .num true (.c z3) (.c (.int .i64 4)))) (fun z18 => iteP z18 (bindO (pureO (.bin .eql .num true
    (.c z4) (.c (.int .i64 0)))) (fun z19 => iteP z19 (bindO (pureO (.bin .eql .num true (.c z6) (.c (.int .i64 0)))) (fun z20 => iteP z20 (bindO (pureO (.bin .eql .num true (.c z7)
    (.c (.int .i64 2)))) (fun z21 => iteP z21 (bindO (pureO (.bin .eql .num true (.c z8) (.c (.int .i64 0)))) (fun z22 => iteP z22 (bindO (pureO (.bin .eql .num true (.c z12) (.c (.int
    .i64 20)))) (fun z23 => iteP z23 (bindO (pureO (.bin .eql .num true (.c z14) (.c (.int .i64 7)))) (fun z24 => iteP z24 (bindO (pureO (.bin .eql .num true (.c z15) (.c (.int .i64
    0)))) (fun z25 => iteP z25 (bindO (pureO (.bin .eql .num true (.c (nI (lenL (itemsP z16)))) (.c (.int .i64 2)))) (fun z26 => iteP z26 (bindO (natO (.int .i64 1)) (fun z27 => chkO
    (ltN z27 (lenL (itemsP z16))) (bindO (elemO (itemsP z16) (addN 0 z27) 0 1 false) (fun z28 => bindO (pureO (.bin .eql .num true (.c z28) (.c (.int .i64 6)))) (fun z29 => some
    z29))))) (some (.bool false)))) (some (.bool false)))) (some (.bool false)))) (some (.bool false)))) (some (.bool false)))) (some (.bool false)))) (some (.bool false)))) (some
    (.bool false)))) (some (.bool false)))) (some (.bool false)))) (fun z30 => some (z30, e)))))))))))))))))) := by kernel_rfl
theorem run11 (B : KB) {E : Type} (h : Handler E) (dep : Nat) (e : E) (x0 : PV) :
    runK (cfg0 B (fun _ => .cl)) fn11 (.cl) h dep [.cv x0] e =
    bindO (pureO (.len .str (.c x0))) (fun z1 => bindO (pureO (.minmax false [.c z1, .c (.int .i64 600)])) (fun z2 => bindO (pureO (.strSlice (.c x0) none (some (.c z2)))) (fun z3 =>
    some (z3, e)))) := by kernel_rfl
theorem run12 (B : KB) {E : Type} (h : Handler E) (dep : Nat) (e : E) (x0 : PV) (x1 : PV) (x2 : PV) :
    runK (cfg0 B (fun _ => .cl)) fn12 (.cl) h dep [.cv x0, .cv x1, .cv x2] e =
    chkO (valO x1) (bindO (selO x1 0 1 false) (fun z1 => bindO (callO B (.own 1) (.fn 16 []) [x0]) (fun z2 => bindO (lendO B .cl true 23 [z1, slO 1 1 (itemsP z2) 0 (lenL (itemsP z2))])
    (fun z3 => chkO (okCells z3 1) (bindO (callO B .cl (.fn 24 []) [x0, cellP z3 0, x2]) (fun z4 => bindO (pureO (.extract 0 (.c z4))) (fun z5 => bindO (pureO (.extract 1 (.c z4)))
    (fun z6 => bindO (pureO (.bin .neq .iface true (.c z6) (.c .nilI))) (fun z7 => iteP z7 (bindO (callO B .cl (.fn 25 []) [z6]) (fun z8 => chkO (okCells (.int .i64 0) 1) (chkO
    (okCells (.int .i64 0) 1) (chkO (okCells z8 1) (some (.tup [cellP (.int .i64 0) 0, cellP (.int .i64 0) 0, cellP z8 0], e)))))) (bindO (callO B .cl (.fn 26 []) [z5]) (fun z9 =>
    bindO (rangeO B (onRound dep h (fun z10 => fun z11 => fun z12 => chkO (okArgs z11 2) (bindO (selO (nth z10 1) 0 1 false) (fun z13 => bindO (pureO (.bin .eql .num false (.c (nth z11
    0)) (.c z13))) (fun z14 => iteP z14 (chkO (okCells (nth z10 5) 1) (chkO (okCells (nth z11 1) 1) (chkO (okCells (.int .i64 0) 1) (some (false, ([nth z10 0, nth z10 1, cellP (nth z10
    5) 0, cellP (nth z11 1) 0, cellP (.int .i64 0) 0, nth z10 5], (some .ret, z12))))))) (some (true, ([nth z10 0, nth z10 1, nth z10 2, nth z10 3, nth z10 4, nth z10 5], (none,
    z12))))))))) dep z9 ([z9, x1, .int .i64 0, .int .i64 0, .int .i64 0, cellP z3 0], (none, e))) (fun z15 => iteB (isNoneE z15.2.1) (bindO (pureO (.build [.int .i64 0] [(0, (1, .c
    (.int .i64 20)))])) (fun z16 => bindO (callO B .cl (.fn 25 []) [.iface 51 z16]) (fun z17 => chkO (okCells (.int .i64 0) 1) (chkO (okCells (.int .i64 0) 1) (chkO (okCells z17 1)
    (some (.tup [cellP (.int .i64 0) 0, cellP (.int .i64 0) 0, cellP z17 0], z15.2.2))))))) (iteB (isRetE z15.2.1) (some (.tup [nth z15.1 2, nth z15.1 3, nth z15.1 4], z15.2.2))
    none))))))))))))) := by kernel_rfl
theorem run13 (B : KB) {E : Type} (h : Handler E) (dep : Nat) (e : E) (x0 : PV) (x1 : PV) (x2 : PV) :
    runK (cfg0 B (fun _ => .cl)) fn13 (.cl) h dep [.cv x0, .cv x1, .cv x2] e =
    bindO (callO B .cl (.fn 27 []) [x2]) (fun z1 => bindO (pureO (.un .not (.c z1))) (fun z2 => iteP z2 (some (.tup [.int .i64 0, .int .i64 0, .int .i64 2], e)) (bindO (bindO (pureO
    (.bin .lss .num true (.c x1) (.c (.int .i64 0)))) (fun z3 => iteP z3 (some (.bool true)) (bindO (pureO (.len .str (.c x0))) (fun z4 => bindO (pureO (.bin .gtr .num false (.c x1)
    (.c z4))) (fun z5 => some z5))))) (fun z6 => iteP z6 (some (.tup [.int .i64 0, .int .i64 0, .int .i64 20], e)) (bindO (callO B (.own 1) (.fn 22 []) [x0]) (fun z7 => bindO (pureO
    (.bin .sub .num true (.c (nI (lenL (itemsP z7)))) (.c (.int .i64 1)))) (fun z8 => chkO (noUndef [x0, x1, x2, nI (lenL (itemsP z7)), z8]) (loopL (fun z9 => bindO (natO (nth z9.1 4))
    (fun z10 => chkO (ltN z10 (natP (nth z9.1 3))) (bindO (elemO (itemsP (nth z9.1 5)) (addN 0 z10) 0 1 false) (fun z11 => bindO (pureO (.bin .gtr .num false (.c z11) (.c (nth z9.1
    1)))) (fun z12 => iteP z12 (bindO (pureO (.bin .sub .num true (.c (nth z9.1 4)) (.c (.int .i64 1)))) (fun z13 => some (.inl ([nth z9.1 0, nth z9.1 1, nth z9.1 2, nI (natP (nth z9.1
    3)), z13, .sl 1 (itemsP (nth z9.1 5)) false], z9.2)))) (bindO (bindO (callO B .cl (.fn 18 []) [nth z9.1 0, nth z9.1 4]) (fun z14 => bindO (pureO (.extract 0 (.c z14))) (fun z15 =>
    bindO (pureO (.extract 1 (.c z14))) (fun z16 => bindO (callO B (.tup [.own 1, .own 1]) (.fn 28 []) [z15, nth z9.1 2]) (fun z17 => chkO (noUndef [nth z9.1 1, nI (natP (nth z9.1 3)),
    nth z9.1 4, nI (lenL (itemsP (prjP z17 0))), nI (lenL (itemsP (prjP z17 1))), .int .i64 0]) (loopL (fun z18 => bindO (pureO (.bin .lss .num false (.c (nth z18.1 5)) (.c (nI (natP
    (nth z18.1 3)))))) (fun z19 => iteP z19 (bindO (natO (nth z18.1 2)) (fun z20 => chkO (ltN z20 (natP (nth z18.1 1))) (bindO (elemO (itemsP (nth z18.1 6)) (addN 0 z20) 0 1 false)
    (fun z21 => bindO (natO (nth z18.1 5)) (fun z22 => chkO (ltN z22 (natP (nth z18.1 3))) (bindO (elemO (itemsP (nth z18.1 7)) (addN 0 z22) 0 1 false) (fun z23 => bindO (pureO (.bin
    .add .num false (.c z21) (.c z23))) (fun z24 => bindO (pureO (.bin .eql .num false (.c z24) (.c (nth z18.1 0)))) (fun z25 => iteP z25 (bindO (natO (nth z18.1 5)) (fun z26 => chkO
    (ltN z26 (natP (nth z18.1 4))) (bindO (elemO (itemsP (nth z18.1 8)) (addN 0 z26) 0 1 false) (fun z27 => bindO (some (.tup [nth z18.1 2, z27, .int .i64 0], z18.2)) (fun z28 => some
    (.inr z28)))))) (bindO (pureO (.bin .add .num true (.c (nth z18.1 5)) (.c (.int .i64 1)))) (fun z29 => some (.inl ([nth z18.1 0, nI (natP (nth z18.1 1)), nth z18.1 2, nI (natP (nth
    z18.1 3)), nI (natP (nth z18.1 4)), z29, .sl 1 (itemsP (nth z18.1 6)) false, .sl 1 (itemsP (nth z18.1 7)) false, .sl 1 (itemsP (nth z18.1 8)) false], z18.2))))))))))))) (bindO
    (some (.tup [.int .i64 0, .int .i64 0, .int .i64 20], z18.2)) (fun z30 => some (.inr z30))))) ([nth z9.1 1, nI (natP (nth z9.1 3)), nth z9.1 4, nI (lenL (itemsP (prjP z17 0))), nI
    (lenL (itemsP (prjP z17 1))), .int .i64 0, .sl 1 (itemsP (nth z9.1 5)) false, .sl 1 (itemsP (prjP z17 0)) false, .sl 1 (itemsP (prjP z17 1)) false], z9.2))))))) (fun z31 => some
    (.inr z31)))))))) ([x0, x1, x2, nI (lenL (itemsP z7)), z8, .sl 1 (itemsP z7) false], e))))))))) := by kernel_rfl
theorem run14 (B : KB) {E : Type} (h : Handler E) (dep : Nat) (e : E) (x0 : PV) (x1 : PV) (x2 : PV) (x3 : PV) :
    runK (cfg0 B (fun _ => .cl)) fn14 (.cl) h dep [.cv x0, .cv x1, .cv x2, .cv x3] e =
    chkO (valO x2) (bindO (callO B .cl (.fn 24 []) [x0, x1, x3]) (fun z1 => bindO (pureO (.extract 0 (.c z1))) (fun z2 => bindO (pureO (.extract 1 (.c z1))) (fun z3 => bindO (pureO
    (.bin .neq .iface true (.c z3) (.c .nilI))) (fun z4 => iteP z4 (bindO (callO B .cl (.fn 25 []) [z3]) (fun z5 => chkO (okCells (.int .i64 0) 1) (chkO (okCells z5 1) (some (.tup
    [cellP (.int .i64 0) 0, cellP z5 0], e))))) (bindO (callO B .cl (.fn 26 []) [z2]) (fun z6 => bindO (rangeO B (onRound dep h (fun z7 => fun z8 => fun z9 => chkO (okArgs z8 2) (bindO
    (selO (nth z7 1) 0 1 false) (fun z10 => bindO (pureO (.bin .eql .num false (.c (nth z8 1)) (.c z10))) (fun z11 => iteP z11 (chkO (okCells (nth z8 0) 1) (chkO (okCells (.int .i64 0)
    1) (some (false, ([nth z7 0, nth z7 1, cellP (nth z8 0) 0, cellP (.int .i64 0) 0], (some .ret, z9)))))) (some (true, ([nth z7 0, nth z7 1, nth z7 2, nth z7 3], (none, z9)))))))))
    dep z6 ([z6, x2, .int .i64 0, .int .i64 0], (none, e))) (fun z12 => iteB (isNoneE z12.2.1) (bindO (pureO (.build [.int .i64 0] [(0, (1, .c (.int .i64 20)))])) (fun z13 => bindO
    (callO B .cl (.fn 25 []) [.iface 51 z13]) (fun z14 => chkO (okCells (.int .i64 0) 1) (chkO (okCells z14 1) (some (.tup [cellP (.int .i64 0) 0, cellP z14 0], z12.2.2)))))) (iteB
    (isRetE z12.2.1) (some (.tup [nth z12.1 2, nth z12.1 3], z12.2.2)) none))))))))) := by kernel_rfl
theorem run15 (B : KB) {E : Type} (h : Handler E) (dep : Nat) (e : E) (x0 : PV) (x1 : PV) (x2 : PV) (x3 : PV) :
    runK (cfg0 B (fun _ => .cl)) fn15 (.cl) h dep [.cv x0, .cv x1, .cv x2, .cv x3] e =
    bindO (callO B .cl (.fn 27 []) [x3]) (fun z1 => bindO (pureO (.un .not (.c z1))) (fun z2 => iteP z2 (some (.tup [.int .i64 0, .int .i64 2], e)) (bindO (callO B .cl (.fn 18 []) [x0,
    x1]) (fun z3 => bindO (pureO (.extract 0 (.c z3))) (fun z4 => bindO (pureO (.extract 1 (.c z3))) (fun z5 => bindO (pureO (.bin .neq .num true (.c z5) (.c (.int .i64 0)))) (fun z6
    => iteP z6 (some (.tup [.int .i64 0, z5], e)) (bindO (callO B (.tup [.own 1, .own 1]) (.fn 28 []) [z4, x3]) (fun z7 => chkO (noUndef [x0, x1, x2, nI (lenL (itemsP (prjP z7 0))), nI
    (lenL (itemsP (prjP z7 1))), .int .i64 0]) (loopL (fun z8 => bindO (pureO (.bin .lss .num false (.c (nth z8.1 5)) (.c (nI (natP (nth z8.1 4)))))) (fun z9 => iteP z9 (bindO (natO
    (nth z8.1 5)) (fun z10 => chkO (ltN z10 (natP (nth z8.1 4))) (bindO (elemO (itemsP (nth z8.1 7)) (addN 0 z10) 0 1 false) (fun z11 => bindO (pureO (.bin .eql .num false (.c z11) (.c
    (nth z8.1 2)))) (fun z12 => iteP z12 (bindO (callO B (.own 1) (.fn 22 []) [nth z8.1 0]) (fun z13 => bindO (natO (nth z8.1 1)) (fun z14 => chkO (ltN z14 (lenL (itemsP z13))) (bindO
    (elemO (itemsP z13) (addN 0 z14) 0 1 false) (fun z15 => bindO (natO (nth z8.1 5)) (fun z16 => chkO (ltN z16 (natP (nth z8.1 3))) (bindO (elemO (itemsP (nth z8.1 6)) (addN 0 z16) 0
    1 false) (fun z17 => bindO (pureO (.bin .add .num false (.c z15) (.c z17))) (fun z18 => bindO (some (.tup [z18, .int .i64 0], z8.2)) (fun z19 => some (.inr z19))))))))))) (bindO
    (pureO (.bin .add .num true (.c (nth z8.1 5)) (.c (.int .i64 1)))) (fun z20 => some (.inl ([nth z8.1 0, nth z8.1 1, nth z8.1 2, nI (natP (nth z8.1 3)), nI (natP (nth z8.1 4)), z20,
    .sl 1 (itemsP (nth z8.1 6)) false, .sl 1 (itemsP (nth z8.1 7)) false], z8.2))))))))) (bindO (some (.tup [.int .i64 0, .int .i64 20], z8.2)) (fun z21 => some (.inr z21))))) ([x0,
    x1, x2, nI (lenL (itemsP (prjP z7 0))), nI (lenL (itemsP (prjP z7 1))), .int .i64 0, .sl 1 (itemsP (prjP z7 0)) false, .sl 1 (itemsP (prjP z7 1)) false], e))))))))))) := by kernel_rfl
theorem run16 (B : KB) {E : Type} (h : Handler E) (dep : Nat) (e : E) (x0 : PV) :
    runK (cfg0 B (fun _ => .cl)) fn16 (.own 1) h dep [.cv x0] e =
    chkO (okSls 1 [.int .i64 0]) (bindO (pureO (.toBytes (.c x0))) (fun z1 => bindO (pureO (.len .slice (.c z1))) (fun z2 => chkO (noUndef [nI (lenL [.int .i64 0]), z1, z2, .int .i64
    0]) (loopL (fun z3 => bindO (pureO (.bin .lss .num false (.c (nth z3.1 3)) (.c (nth z3.1 2)))) (fun z4 => iteP z4 (bindO (pureO (.idxAddr 1 (.c (nth z3.1 1)) (.c (nth z3.1 3))))
    (fun z5 => bindO (pureO (.load 1 false (.c z5))) (fun z6 => bindO (pureO (.bin .eql .num true (.c z6) (.c (.int .u8 10)))) (fun z7 => iteP z7 (bindO (pureO (.bin .add .num true (.c
    (nth z3.1 3)) (.c (.int .i64 1)))) (fun z8 => chkO (okSls 1 [z8]) (chkO (leN (addN 0 (lenL [z8])) (lenL [z8])) (chkO (andB (leN (natP (nth z3.1 0)) (lenL (itemsP (nth z3.1 4))))
    (leN (addN (natP (nth z3.1 0)) (lenL (takeL (lenL [z8]) (dropL 0 [z8])))) 2147483648)) (bindO (pureO (.bin .add .num true (.c (nth z3.1 3)) (.c (.int .i64 1)))) (fun z9 => some
    (.inl ([nI (addN (natP (nth z3.1 0)) (lenL (takeL (lenL [z8]) (dropL 0 [z8])))), nth z3.1 1, nth z3.1 2, z9, .sl 1 (catL (takeL (natP (nth z3.1 0)) (itemsP (nth z3.1 4))) (takeL
    (lenL [z8]) (dropL 0 [z8]))) false], z3.2)))))))) (bindO (pureO (.bin .add .num true (.c (nth z3.1 3)) (.c (.int .i64 1)))) (fun z10 => some (.inl ([nI (natP (nth z3.1 0)), nth
    z3.1 1, nth z3.1 2, z10, .sl 1 (itemsP (nth z3.1 4)) false], z3.2)))))))) (bindO (bindO (boundO (some (nI (natP (nth z3.1 0)))) (natP (nth z3.1 0)) (natP (nth z3.1 0))) (fun z11 =>
    bindO (boundO (some (nI (natP (nth z3.1 0)))) (natP (nth z3.1 0)) z11) (fun z12 => chkO (eqN z12 (lenL (itemsP (nth z3.1 4)))) (some (.sl 1 (itemsP (nth z3.1 4)) false, z3.2)))))
    (fun z13 => some (.inr z13))))) ([nI (lenL [.int .i64 0]), z1, z2, .int .i64 0, .sl 1 [.int .i64 0] false], e))))) := by kernel_rfl
theorem run17 (B : KB) {E : Type} (h : Handler E) (dep : Nat) (e : E) (x0 : PV) (x1 : PV) :
    runK (cfg0 B (fun _ => .cl)) fn17 (.cl) h dep [.cv x0, .cv x1] e =
    bindO (callO B .cl (.fn 29 []) [x0, x1]) (fun z1 => bindO (pureO (.extract 0 (.c z1))) (fun z2 => bindO (pureO (.extract 1 (.c z1))) (fun z3 => chkO (okCells z2 2) (bindO (callO B
    .cl (.fn 25 []) [z3]) (fun z4 => some (.tup [cellP z2 0, z4], e)))))) := by kernel_rfl
theorem run18 (B : KB) {E : Type} (h : Handler E) (dep : Nat) (e : E) (x0 : PV) (x1 : PV) :
    runK (cfg0 B (fun _ => .cl)) fn18 (.cl) h dep [.cv x0, .cv x1] e =
    bindO (callO B (.own 1) (.fn 22 []) [x0]) (fun z1 => bindO (bindO (pureO (.bin .lss .num true (.c x1) (.c (.int .i64 0)))) (fun z2 => iteP z2 (some (.bool true)) (bindO (pureO
    (.bin .geq .num false (.c x1) (.c (nI (lenL (itemsP z1)))))) (fun z3 => some z3)))) (fun z4 => iteP z4 (some (.tup [.str [], .int .i64 20], e)) (bindO (pureO (.len .str (.c x0)))
    (fun z5 => bindO (pureO (.bin .add .num true (.c x1) (.c (.int .i64 1)))) (fun z6 => bindO (pureO (.bin .lss .num false (.c z6) (.c (nI (lenL (itemsP z1)))))) (fun z7 => iteP z7
    (bindO (pureO (.bin .add .num true (.c x1) (.c (.int .i64 1)))) (fun z8 => bindO (natO z8) (fun z9 => chkO (ltN z9 (lenL (itemsP z1))) (bindO (elemO (itemsP z1) (addN 0 z9) 0 1
    false) (fun z10 => bindO (pureO (.bin .sub .num true (.c z10) (.c (.int .i64 1)))) (fun z11 => bindO (natO x1) (fun z12 => chkO (ltN z12 (lenL (itemsP z1))) (bindO (elemO (itemsP
    z1) (addN 0 z12) 0 1 false) (fun z13 => bindO (pureO (.strSlice (.c x0) (some (.c z13)) (some (.c z11)))) (fun z14 => some (.tup [z14, .int .i64 0], e))))))))))) (bindO (natO x1)
    (fun z15 => chkO (ltN z15 (lenL (itemsP z1))) (bindO (elemO (itemsP z1) (addN 0 z15) 0 1 false) (fun z16 => bindO (pureO (.strSlice (.c x0) (some (.c z16)) (some (.c z5)))) (fun
    z17 => some (.tup [z17, .int .i64 0], e)))))))))))) := by kernel_rfl
theorem run19 (B : KB) {E : Type} (h : Handler E) (dep : Nat) (e : E) (x0 : PV) (x1 : PV) (x2 : PV) :
    runK (cfg0 B (fun _ => .cl)) fn19 (.cl) h dep [.cv x0, .cv x1, .cv x2] e =
    bindO (callO B .cl (.fn 24 []) [x0, x1, x2]) (fun z1 => bindO (pureO (.extract 0 (.c z1))) (fun z2 => bindO (pureO (.extract 1 (.c z1))) (fun z3 => bindO (pureO (.bin .neq .iface
    true (.c z3) (.c .nilI))) (fun z4 => iteP z4 (bindO (callO B .cl (.fn 25 []) [z3]) (fun z5 => some (.tup [.int .i64 0, z5], e))) (chkO (okCells (.int .i64 0) 1) (bindO (callO B .cl
    (.fn 26 []) [z2]) (fun z6 => bindO (rangeO B (onRound dep h (fun z7 => fun z8 => fun z9 => chkO (okArgs z8 2) (chkO (okCells (nth z8 1) 1) (some (true, ([nth z7 0, nth z7 1, nth z7
    2, cellP (nth z8 1) 0], (none, z9))))))) dep z6 ([.int .i64 0, .int .i64 0, z6, cellP (.int .i64 0) 0], (none, e))) (fun z10 => iteB (isNoneE z10.2.1) (some (.tup [nth z10.1 3,
    .int .i64 0], z10.2.2)) (iteB (isRetE z10.2.1) (some (.tup [nth z10.1 0, nth z10.1 1], z10.2.2)) none))))))))) := by kernel_rfl
theorem run20 (B : KB) {E : Type} (h : Handler E) (dep : Nat) (e : E) (x0 : PV) (x1 : PV) (x2 : PV) :
    runK (cfg0 B (fun _ => .cl)) fn20 (.cl) h dep [.cv x0, .cv x1, .cv x2] e =
    bindO (callO B .cl (.fn 27 []) [x2]) (fun z1 => bindO (pureO (.un .not (.c z1))) (fun z2 => iteP z2 (some (.tup [.int .i64 0, .int .i64 2], e)) (bindO (callO B .cl (.fn 18 []) [x0,
    x1]) (fun z3 => bindO (pureO (.extract 0 (.c z3))) (fun z4 => bindO (pureO (.extract 1 (.c z3))) (fun z5 => bindO (pureO (.bin .neq .num true (.c z5) (.c (.int .i64 0)))) (fun z6
    => iteP z6 (some (.tup [.int .i64 0, z5], e)) (bindO (callO B (.tup [.own 1, .own 1]) (.fn 28 []) [z4, x2]) (fun z7 => bindO (pureO (.bin .sub .num true (.c (nI (lenL (itemsP (prjP
    z7 1))))) (.c (.int .i64 1)))) (fun z8 => bindO (natO z8) (fun z9 => chkO (ltN z9 (lenL (itemsP (prjP z7 1)))) (bindO (elemO (itemsP (prjP z7 1)) (addN 0 z9) 0 1 false) (fun z10 =>
    some (.tup [z10, .int .i64 0], e)))))))))))))) := by kernel_rfl
theorem run21 (B : KB) {E : Type} (h : Handler E) (dep : Nat) (e : E) (x0 : PV) (x1 : PV) :
    runK (cfg0 B (fun _ => .cl)) fn21 (.cl) h dep [.cv x0, .cv x1] e =
    bindO (pureO (.len .slice (.c x0))) (fun z1 => bindO (pureO (.len .slice (.c x1))) (fun z2 => bindO (pureO (.bin .neq .num false (.c z1) (.c z2))) (fun z3 => iteP z3 (some (.bool
    false, e)) (chkO (noUndef [x0, x1, .int .i64 0]) (loopL (fun z4 => bindO (pureO (.len .slice (.c (nth z4.1 0)))) (fun z5 => bindO (pureO (.bin .lss .num false (.c (nth z4.1 2)) (.c
    z5))) (fun z6 => iteP z6 (bindO (pureO (.idxAddr 1 (.c (nth z4.1 0)) (.c (nth z4.1 2)))) (fun z7 => bindO (pureO (.load 1 false (.c z7))) (fun z8 => bindO (pureO (.idxAddr 1 (.c
    (nth z4.1 1)) (.c (nth z4.1 2)))) (fun z9 => bindO (pureO (.load 1 false (.c z9))) (fun z10 => bindO (pureO (.bin .neq .num false (.c z8) (.c z10))) (fun z11 => iteP z11 (bindO
    (some (.bool false, z4.2)) (fun z12 => some (.inr z12))) (bindO (pureO (.bin .add .num true (.c (nth z4.1 2)) (.c (.int .i64 1)))) (fun z13 => some (.inl ([nth z4.1 0, nth z4.1 1,
    z13], z4.2)))))))))) (bindO (some (.bool true, z4.2)) (fun z14 => some (.inr z14)))))) ([x0, x1, .int .i64 0], e)))))) := by kernel_rfl
theorem run22 (B : KB) {E : Type} (h : Handler E) (dep : Nat) (e : E) (x0 : PV) :
    runK (cfg0 B (fun _ => .cl)) fn22 (.own 1) h dep [.cv x0] e =
    chkO (okSls 1 [.int .i64 0]) (chkO (noUndef [x0, nI (lenL [.int .i64 0]), .int .i64 0]) (loopL (fun z1 => bindO (pureO (.len .str (.c (nth z1.1 0)))) (fun z2 => bindO (pureO (.bin
    .lss .num false (.c (nth z1.1 2)) (.c z2))) (fun z3 => iteP z3 (bindO (pureO (.strIdx (.c (nth z1.1 0)) (.c (nth z1.1 2)))) (fun z4 => bindO (pureO (.bin .eql .num true (.c z4) (.c
    (.int .u8 10)))) (fun z5 => iteP z5 (bindO (pureO (.bin .add .num true (.c (nth z1.1 2)) (.c (.int .i64 1)))) (fun z6 => chkO (okSls 1 [z6]) (chkO (leN (addN 0 (lenL [z6])) (lenL
    [z6])) (chkO (andB (leN (natP (nth z1.1 1)) (lenL (itemsP (nth z1.1 3)))) (leN (addN (natP (nth z1.1 1)) (lenL (takeL (lenL [z6]) (dropL 0 [z6])))) 2147483648)) (bindO (pureO (.bin
    .add .num true (.c (nth z1.1 2)) (.c (.int .i64 1)))) (fun z7 => some (.inl ([nth z1.1 0, nI (addN (natP (nth z1.1 1)) (lenL (takeL (lenL [z6]) (dropL 0 [z6])))), z7, .sl 1 (catL
    (takeL (natP (nth z1.1 1)) (itemsP (nth z1.1 3))) (takeL (lenL [z6]) (dropL 0 [z6]))) false], z1.2)))))))) (bindO (pureO (.bin .add .num true (.c (nth z1.1 2)) (.c (.int .i64 1))))
    (fun z8 => some (.inl ([nth z1.1 0, nI (natP (nth z1.1 1)), z8, .sl 1 (itemsP (nth z1.1 3)) false], z1.2))))))) (bindO (chkO (eqN (natP (nth z1.1 1)) (lenL (itemsP (nth z1.1 3))))
    (some (.sl 1 (itemsP (nth z1.1 3)) false, z1.2))) (fun z9 => some (.inr z9)))))) ([x0, nI (lenL [.int .i64 0]), .int .i64 0, .sl 1 [.int .i64 0] false], e))) := by kernel_rfl
theorem run23 (B : KB) {E : Type} (h : Handler E) (dep : Nat) (e : E) (x0 : PV) (x1 : PV) :
    runK (cfg0 B (fun _ => .cl)) fn23 (.cl) h dep [.cv x0, .cv x1] e =
    bindO (pureO (.len .slice (.c x1))) (fun z1 => chkO (noUndef [x0, .int .i64 0, x1, z1, .int .i64 0]) (loopL (fun z2 => bindO (pureO (.bin .lss .num false (.c (nth z2.1 4)) (.c (nth
    z2.1 3)))) (fun z3 => iteP z3 (bindO (pureO (.idxAddr 1 (.c (nth z2.1 2)) (.c (nth z2.1 4)))) (fun z4 => bindO (pureO (.load 1 false (.c z4))) (fun z5 => bindO (pureO (.bin .leq
    .num false (.c z5) (.c (nth z2.1 0)))) (fun z6 => iteP z6 (bindO (pureO (.bin .add .num true (.c (nth z2.1 4)) (.c (.int .i64 1)))) (fun z7 => some (.inl ([nth z2.1 0, nth z2.1 4,
    nth z2.1 2, nth z2.1 3, z7], z2.2)))) (bindO (pureO (.bin .add .num true (.c (nth z2.1 4)) (.c (.int .i64 1)))) (fun z8 => some (.inl ([nth z2.1 0, nth z2.1 1, nth z2.1 2, nth z2.1
    3, z8], z2.2)))))))) (bindO (some (nth z2.1 1, z2.2)) (fun z9 => some (.inr z9))))) ([x0, .int .i64 0, x1, z1, .int .i64 0], e))) := by kernel_rfl
theorem run24 (B : KB) {E : Type} (h : Handler E) (dep : Nat) (e : E) (x0 : PV) (x1 : PV) (x2 : PV) :
    runK (cfg0 B (fun _ => .cl)) fn24 (.cl) h dep [.cv x0, .cv x1, .cv x2] e =
    bindO (callO B .cl (.fn 30 []) [x2]) (fun z1 => bindO (pureO (.extract 0 (.c z1))) (fun z2 => bindO (pureO (.extract 1 (.c z1))) (fun z3 => chkO (okCells z2 2) (bindO (pureO (.bin
    .neq .iface true (.c z3) (.c .nilI))) (fun z4 => iteP z4 (some (.tup [.nilP, z3], e)) (bindO (callO B .cl (.fn 29 []) [x0, x1]) (fun z5 => bindO (pureO (.extract 0 (.c z5))) (fun
    z6 => bindO (pureO (.extract 1 (.c z5))) (fun z7 => chkO (okCells z6 2) (bindO (pureO (.bin .neq .iface true (.c z7) (.c .nilI))) (fun z8 => iteP z8 (some (.tup [.nilP, z7], e))
    (bindO (pureO (.build [.str [], .int .i64 0, .nilF, .nilF] [(0, (2, .c (.agg [cellP z6 0, cellP z6 1]))), (2, (2, .c (.agg [cellP z2 0, cellP z2 1])))])) (fun z9 => chkO (valO z9)
    (chkO (okU (.tup [ptrO (cellsP z9) 0, .nilI])) (some (.tup [ptrO (cellsP z9) 0, .nilI], e)))))))))))))))) := by kernel_rfl
theorem run25 (B : KB) {E : Type} (h : Handler E) (dep : Nat) (e : E) (x0 : PV) :
    runK (cfg0 B (fun _ => .cl)) fn25 (.cl) h dep [.cv x0] e =
    asP 51 x0 (fun z1 => chkO (okCells z1 1) (bindO (selO z1 0 1 false) (fun z2 => some (z2, e)))) (some (.int .i64 0, e)) := by kernel_rfl
theorem run26 (B : KB) {E : Type} (h : Handler E) (dep : Nat) (e : E) (x0 : PV) :
    runK (cfg0 B (fun _ => .cl)) fn26 (.cl) h dep [.cv x0] e =
    chkO (valO x0) (chkO (okU (.fn 32 [ptrO (cellsP x0) 0])) (some (.fn 32 [ptrO (cellsP x0) 0], e))) := by kernel_rfl
theorem run27 (B : KB) {E : Type} (h : Handler E) (dep : Nat) (e : E) (x0 : PV) :
    runK (cfg0 B (fun _ => .cl)) fn27 (.cl) h dep [.cv x0] e =
    bindO (bindO (pureO (.bin .geq .num true (.c x0) (.c (.int .i64 1)))) (fun z1 => iteP z1 (bindO (pureO (.bin .leq .num true (.c x0) (.c (.int .i64 3)))) (fun z2 => some z2)) (some
    (.bool false)))) (fun z3 => some (z3, e)) := by kernel_rfl
theorem run28 (B : KB) {E : Type} (h : Handler E) (dep : Nat) (e : E) (x0 : PV) (x1 : PV) :
    runK (cfg0 B (fun _ => .cl)) fn28 (.tup [.own 1, .own 1]) h dep [.cv x0, .cv x1] e =
    chkO (okSls 1 [.int .i64 0]) (chkO (okSls 1 [.int .i64 0]) (chkO (noUndef [x0, x1, nI (lenL [.int .i64 0]), nI (lenL [.int .i64 0]), .int .i64 0]) (loopL (fun z1 => bindO (pureO
    (.len .str (.c (nth z1.1 0)))) (fun z2 => bindO (pureO (.bin .lss .num false (.c (nth z1.1 4)) (.c z2))) (fun z3 => iteP z3 (bindO (pureO (.strSlice (.c (nth z1.1 0)) (some (.c
    (nth z1.1 4))) none)) (fun z4 => bindO (callO B .cl (.fn 33 []) [z4]) (fun z5 => bindO (pureO (.bin .eql .num true (.c (nth z1.1 1)) (.c (.int .i64 1)))) (fun z6 => iteP z6 (bindO
    (pureO (.bin .add .num false (.c (nth z1.1 4)) (.c (.int .i64 1)))) (fun z7 => chkO (okSls 1 [z7]) (chkO (leN (addN 0 (lenL [z7])) (lenL [z7])) (chkO (andB (leN (natP (nth z1.1 2))
    (lenL (itemsP (nth z1.1 5)))) (leN (addN (natP (nth z1.1 2)) (lenL (takeL (lenL [z7]) (dropL 0 [z7])))) 2147483648)) (bindO (pureO (.bin .sub .num true (.c (nI (natP (nth z1.1
    3)))) (.c (.int .i64 1)))) (fun z8 => bindO (natO z8) (fun z9 => chkO (ltN z9 (natP (nth z1.1 3))) (bindO (elemO (itemsP (nth z1.1 6)) (addN 0 z9) 0 1 false) (fun z10 => bindO
    (callO B .cl (.fn 34 []) [.int .i64 1, nth z1.1 1]) (fun z11 => bindO (pureO (.bin .add .num false (.c z10) (.c z11))) (fun z12 => chkO (okSls 1 [z12]) (chkO (leN (addN 0 (lenL
    [z12])) (lenL [z12])) (chkO (andB (leN (natP (nth z1.1 3)) (lenL (itemsP (nth z1.1 6)))) (leN (addN (natP (nth z1.1 3)) (lenL (takeL (lenL [z12]) (dropL 0 [z12])))) 2147483648))
    (some (.inl ([nth z1.1 0, nth z1.1 1, nI (addN (natP (nth z1.1 2)) (lenL (takeL (lenL [z7]) (dropL 0 [z7])))), nI (addN (natP (nth z1.1 3)) (lenL (takeL (lenL [z12]) (dropL 0
    [z12])))), z7, .sl 1 (catL (takeL (natP (nth z1.1 2)) (itemsP (nth z1.1 5))) (takeL (lenL [z7]) (dropL 0 [z7]))) false, .sl 1 (catL (takeL (natP (nth z1.1 3)) (itemsP (nth z1.1
    6))) (takeL (lenL [z12]) (dropL 0 [z12]))) false], z1.2)))))))))))))))) (bindO (pureO (.bin .add .num false (.c (nth z1.1 4)) (.c z5))) (fun z13 => chkO (okSls 1 [z13]) (chkO (leN
    (addN 0 (lenL [z13])) (lenL [z13])) (chkO (andB (leN (natP (nth z1.1 2)) (lenL (itemsP (nth z1.1 5)))) (leN (addN (natP (nth z1.1 2)) (lenL (takeL (lenL [z13]) (dropL 0 [z13]))))
    2147483648)) (bindO (pureO (.bin .sub .num true (.c (nI (natP (nth z1.1 3)))) (.c (.int .i64 1)))) (fun z14 => bindO (natO z14) (fun z15 => chkO (ltN z15 (natP (nth z1.1 3)))
    (bindO (elemO (itemsP (nth z1.1 6)) (addN 0 z15) 0 1 false) (fun z16 => bindO (callO B .cl (.fn 34 []) [z5, nth z1.1 1]) (fun z17 => bindO (pureO (.bin .add .num false (.c z16) (.c
    z17))) (fun z18 => chkO (okSls 1 [z18]) (chkO (leN (addN 0 (lenL [z18])) (lenL [z18])) (chkO (andB (leN (natP (nth z1.1 3)) (lenL (itemsP (nth z1.1 6)))) (leN (addN (natP (nth z1.1
    3)) (lenL (takeL (lenL [z18]) (dropL 0 [z18])))) 2147483648)) (some (.inl ([nth z1.1 0, nth z1.1 1, nI (addN (natP (nth z1.1 2)) (lenL (takeL (lenL [z13]) (dropL 0 [z13])))), nI
    (addN (natP (nth z1.1 3)) (lenL (takeL (lenL [z18]) (dropL 0 [z18])))), z13, .sl 1 (catL (takeL (natP (nth z1.1 2)) (itemsP (nth z1.1 5))) (takeL (lenL [z13]) (dropL 0 [z13])))
    false, .sl 1 (catL (takeL (natP (nth z1.1 3)) (itemsP (nth z1.1 6))) (takeL (lenL [z18]) (dropL 0 [z18]))) false], z1.2)))))))))))))))))))) (bindO (chkO (eqN (natP (nth z1.1 2))
    (lenL (itemsP (nth z1.1 5)))) (chkO (eqN (natP (nth z1.1 3)) (lenL (itemsP (nth z1.1 6)))) (some (.tup [.sl 1 (itemsP (nth z1.1 5)) false, .sl 1 (itemsP (nth z1.1 6)) false],
    z1.2)))) (fun z19 => some (.inr z19)))))) ([x0, x1, nI (lenL [.int .i64 0]), nI (lenL [.int .i64 0]), .int .i64 0, .sl 1 [.int .i64 0] false, .sl 1 [.int .i64 0] false], e)))) := by kernel_rfl
theorem run29 (B : KB) {E : Type} (h : Handler E) (dep : Nat) (e : E) (x0 : PV) (x1 : PV) :
    runK (cfg0 B (fun _ => .cl)) fn29 (.cl) h dep [.cv x0, .cv x1] e =
    bindO (callO B (.own 1) (.fn 16 []) [x0]) (fun z1 => bindO (bindO (pureO (.bin .lss .num true (.c x1) (.c (.int .i64 0)))) (fun z2 => iteP z2 (some (.bool true)) (bindO (pureO
    (.bin .geq .num false (.c x1) (.c (nI (lenL (itemsP z1)))))) (fun z3 => some z3)))) (fun z4 => iteP z4 (bindO (pureO (.build [.str [], .int .i64 0] [])) (fun z5 => bindO (pureO
    (.build [.int .i64 0] [(0, (1, .c (.int .i64 20)))])) (fun z6 => chkO (okCells z5 2) (some (.tup [.agg [cellP z5 0, cellP z5 1], .iface 51 z6], e))))) (bindO (natO x1) (fun z7 =>
    chkO (ltN z7 (lenL (itemsP z1))) (bindO (elemO (itemsP z1) (addN 0 z7) 0 1 false) (fun z8 => bindO (pureO (.strSlice (.c x0) (some (.c z8)) none)) (fun z9 => bindO (callO B .cl
    (.fn 35 []) [z9, .str [10]]) (fun z10 => bindO (pureO (.extract 0 (.c z10))) (fun z11 => bindO (pureO (.extract 1 (.c z10))) (fun z12 => bindO (pureO (.extract 2 (.c z10))) (fun
    z13 => bindO (natO x1) (fun z14 => chkO (ltN z14 (lenL (itemsP z1))) (bindO (elemO (itemsP z1) (addN 0 z14) 0 1 false) (fun z15 => bindO (pureO (.build [.str [], .int .i64 0] [(0,
    (1, .c z11)), (1, (1, .c z15))])) (fun z16 => chkO (okCells z16 2) (some (.tup [.agg [cellP z16 0, cellP z16 1], .nilI], e))))))))))))))))) := by kernel_rfl
theorem run30 (B : KB) {E : Type} (h : Handler E) (dep : Nat) (e : E) (x0 : PV) :
    runK (cfg0 B (fun _ => .cl)) fn30 (.cl) h dep [.cv x0] e =
    bindO (pureO (.build [.nilF, .nilF] [(0, (1, .c (.fn 37 []))), (1, (1, .c (.fn 36 [])))])) (fun z1 => bindO (insO .num [] (.int .i64 1) z1) (fun z2 => bindO (pureO (.build [.nilF,
    .nilF] [(0, (1, .c (.fn 38 []))), (1, (1, .c (.fn 36 [])))])) (fun z3 => bindO (insO .num z2 (.int .i64 2) z3) (fun z4 => bindO (pureO (.build [.nilF, .nilF] [(0, (1, .c (.fn 38
    []))), (1, (1, .c (.fn 39 [])))])) (fun z5 => bindO (insO .num z4 (.int .i64 3) z5) (fun z6 => bindO (lookO .num (.agg [.nilF, .nilF]) true z6 x0) (fun z7 => bindO (pureO (.extract
    0 (.c z7))) (fun z8 => bindO (pureO (.extract 1 (.c z7))) (fun z9 => chkO (okCells z8 2) (bindO (pureO (.un .not (.c z9))) (fun z10 => iteP z10 (bindO (pureO (.build [.nilF, .nilF]
    [])) (fun z11 => bindO (pureO (.build [.int .i64 0] [(0, (1, .c (.int .i64 2)))])) (fun z12 => chkO (okCells z11 2) (some (.tup [.agg [cellP z11 0, cellP z11 1], .iface 51 z12],
    e))))) (some (.tup [.agg [cellP z8 0, cellP z8 1], .nilI], e))))))))))))) := by kernel_rfl
theorem run32 (B : KB) {E : Type} (h : Handler E) (dep : Nat) (e : E) (x0 : Nat) (x1 : PV) :
    runK (cfg0 B (fun _ => .cl)) fn32 (.cl) h dep [.yld x0, .cv x1] e =
    chkO (noUndef [nI x0, x1, .int .i64 0, .int .i64 0]) (loopL (fun z1 => bindO (pureO (.load 1 false (.c (nth z1.1 1)))) (fun z2 => bindO (pureO (.nilck (.c z2))) (fun z3 => bindO
    (pureO (.fieldAddr 0 (.c z3))) (fun z4 => bindO (pureO (.fieldAddr 1 (.c z4))) (fun z5 => bindO (pureO (.load 1 false (.c z5))) (fun z6 => bindO (pureO (.bin .add .num false (.c
    z6) (.c (nth z1.1 2)))) (fun z7 => bindO (h (natP (nth z1.1 0)) [z7, nth z1.1 3] z1.2) (fun z8 => iteP (.bool z8.1) (bindO (pureO (.load 1 false (.c (nth z1.1 1)))) (fun z9 =>
    bindO (pureO (.nilck (.c z9))) (fun z10 => bindO (pureO (.fieldAddr 0 (.c z10))) (fun z11 => bindO (pureO (.fieldAddr 0 (.c z11))) (fun z12 => bindO (pureO (.load 1 false (.c
    z12))) (fun z13 => bindO (pureO (.len .str (.c z13))) (fun z14 => bindO (pureO (.bin .geq .num false (.c (nth z1.1 2)) (.c z14))) (fun z15 => iteP z15 (bindO (some (.tup [], z8.2))
    (fun z16 => some (.inr z16))) (bindO (pureO (.load 1 false (.c (nth z1.1 1)))) (fun z17 => bindO (pureO (.nilck (.c z17))) (fun z18 => bindO (pureO (.fieldAddr 2 (.c z18))) (fun
    z19 => bindO (pureO (.fieldAddr 0 (.c z19))) (fun z20 => bindO (pureO (.load 1 false (.c z20))) (fun z21 => bindO (pureO (.load 1 false (.c (nth z1.1 1)))) (fun z22 => bindO (pureO
    (.nilck (.c z22))) (fun z23 => bindO (pureO (.fieldAddr 0 (.c z23))) (fun z24 => bindO (pureO (.fieldAddr 0 (.c z24))) (fun z25 => bindO (pureO (.load 1 false (.c z25))) (fun z26
    => bindO (pureO (.strSlice (.c z26) (some (.c (nth z1.1 2))) none)) (fun z27 => bindO (callO B .cl z21 [z27]) (fun z28 => bindO (pureO (.bin .add .num false (.c (nth z1.1 2)) (.c
    z28))) (fun z29 => bindO (pureO (.load 1 false (.c (nth z1.1 1)))) (fun z30 => bindO (pureO (.nilck (.c z30))) (fun z31 => bindO (pureO (.fieldAddr 2 (.c z31))) (fun z32 => bindO
    (pureO (.fieldAddr 1 (.c z32))) (fun z33 => bindO (pureO (.load 1 false (.c z33))) (fun z34 => bindO (callO B .cl z34 [z28]) (fun z35 => bindO (pureO (.bin .add .num false (.c (nth
    z1.1 3)) (.c z35))) (fun z36 => some (.inl ([nI (natP (nth z1.1 0)), nth z1.1 1, z29, z36], z8.2))))))))))))))))))))))))))))))) (bindO (some (.tup [], z8.2)) (fun z37 => some (.inr
    z37))))))))))) ([nI x0, x1, .int .i64 0, .int .i64 0], e)) := by kernel_rfl
theorem run33 (B : KB) {E : Type} (h : Handler E) (dep : Nat) (e : E) (x0 : PV) :
    runK (cfg0 B (fun _ => .cl)) fn33 (.cl) h dep [.cv x0] e =
    bindO (pureO (.bin .eql .str true (.c x0) (.c (.str [])))) (fun z1 => iteP z1 (some (.int .i64 0, e)) (bindO (pureO (.strIdx (.c x0) (.c (.int .i64 0)))) (fun z2 => bindO (pureO
    (.conv .i64 (.c z2))) (fun z3 => bindO (bindO (pureO (.strIdx (.c x0) (.c (.int .i64 0)))) (fun z4 => bindO (pureO (.bin .geq .num true (.c z4) (.c (.int .u8 194)))) (fun z5 =>
    iteP z5 (bindO (pureO (.strIdx (.c x0) (.c (.int .i64 0)))) (fun z6 => bindO (pureO (.bin .lss .num true (.c z6) (.c (.int .u8 224)))) (fun z7 => some z7))) (some (.bool false)))))
    (fun z8 => iteP z8 (bindO (pureO (.bin .sub .num true (.c z3) (.c (.int .i64 192)))) (fun z9 => bindO (bindO (pureO (.strIdx (.c x0) (.c (.int .i64 0)))) (fun z10 => bindO (pureO
    (.bin .geq .num true (.c z10) (.c (.int .u8 224)))) (fun z11 => iteP z11 (bindO (pureO (.strIdx (.c x0) (.c (.int .i64 0)))) (fun z12 => bindO (pureO (.bin .lss .num true (.c z12)
    (.c (.int .u8 240)))) (fun z13 => some z13))) (some (.bool false))))) (fun z14 => iteP z14 (bindO (pureO (.bin .sub .num true (.c z9) (.c (.int .i64 224)))) (fun z15 => bindO
    (bindO (pureO (.strIdx (.c x0) (.c (.int .i64 0)))) (fun z16 => bindO (pureO (.bin .geq .num true (.c z16) (.c (.int .u8 240)))) (fun z17 => iteP z17 (bindO (pureO (.strIdx (.c x0)
    (.c (.int .i64 0)))) (fun z18 => bindO (pureO (.bin .lss .num true (.c z18) (.c (.int .u8 245)))) (fun z19 => some z19))) (some (.bool false))))) (fun z20 => iteP z20 (bindO (pureO
    (.bin .sub .num true (.c z15) (.c (.int .i64 240)))) (fun z21 => bindO (pureO (.len .str (.c x0))) (fun z22 => bindO (pureO (.bin .gtr .num false (.c (.int .i64 4)) (.c z22))) (fun
    z23 => iteP z23 (some (.int .i64 1, e)) (chkO (noUndef [x0, .int .i64 4, .int .i64 65536, z21, .int .i64 1]) (loopL (fun z24 => bindO (pureO (.bin .lss .num false (.c (nth z24.1
    4)) (.c (nth z24.1 1)))) (fun z25 => iteP z25 (bindO (bindO (pureO (.strIdx (.c (nth z24.1 0)) (.c (nth z24.1 4)))) (fun z26 => bindO (pureO (.bin .lss .num true (.c z26) (.c (.int
    .u8 128)))) (fun z27 => iteP z27 (some (.bool true)) (bindO (pureO (.strIdx (.c (nth z24.1 0)) (.c (nth z24.1 4)))) (fun z28 => bindO (pureO (.bin .gtr .num true (.c z28) (.c (.int
    .u8 191)))) (fun z29 => some z29)))))) (fun z30 => iteP z30 (bindO (some (.int .i64 1, z24.2)) (fun z31 => some (.inr z31))) (bindO (pureO (.bin .mul .num true (.c (.int .i64 64))
    (.c (nth z24.1 3)))) (fun z32 => bindO (pureO (.strIdx (.c (nth z24.1 0)) (.c (nth z24.1 4)))) (fun z33 => bindO (pureO (.conv .i64 (.c z33))) (fun z34 => bindO (pureO (.bin .add
    .num false (.c z32) (.c z34))) (fun z35 => bindO (pureO (.bin .sub .num true (.c z35) (.c (.int .i64 128)))) (fun z36 => bindO (pureO (.bin .add .num true (.c (nth z24.1 4)) (.c
    (.int .i64 1)))) (fun z37 => some (.inl ([nth z24.1 0, nth z24.1 1, nth z24.1 2, z36, z37], z24.2))))))))))) (bindO (bindO (bindO (pureO (.bin .gtr .num true (.c (nth z24.1 1)) (.c
    (.int .i64 1)))) (fun z38 => iteP z38 (bindO (pureO (.bin .lss .num false (.c (nth z24.1 3)) (.c (nth z24.1 2)))) (fun z39 => iteP z39 (some (.bool true)) (bindO (pureO (.bin .gtr
    .num true (.c (nth z24.1 3)) (.c (.int .i64 1114111)))) (fun z40 => iteP z40 (some (.bool true)) (bindO (pureO (.bin .geq .num true (.c (nth z24.1 3)) (.c (.int .i64 55296)))) (fun
    z41 => iteP z41 (bindO (pureO (.bin .leq .num true (.c (nth z24.1 3)) (.c (.int .i64 57343)))) (fun z42 => some z42)) (some (.bool false)))))))) (some (.bool false)))) (fun z43 =>
    iteP z43 (some (.int .i64 1, z24.2)) (some (nth z24.1 1, z24.2)))) (fun z44 => some (.inr z44))))) ([x0, .int .i64 4, .int .i64 65536, z21, .int .i64 1], e))))))) (bindO (pureO
    (.len .str (.c x0))) (fun z45 => bindO (pureO (.bin .gtr .num false (.c (.int .i64 3)) (.c z45))) (fun z46 => iteP z46 (some (.int .i64 1, e)) (chkO (noUndef [x0, .int .i64 3, .int
    .i64 2048, z15, .int .i64 1]) (loopL (fun z47 => bindO (pureO (.bin .lss .num false (.c (nth z47.1 4)) (.c (nth z47.1 1)))) (fun z48 => iteP z48 (bindO (bindO (pureO (.strIdx (.c
    (nth z47.1 0)) (.c (nth z47.1 4)))) (fun z49 => bindO (pureO (.bin .lss .num true (.c z49) (.c (.int .u8 128)))) (fun z50 => iteP z50 (some (.bool true)) (bindO (pureO (.strIdx (.c
    (nth z47.1 0)) (.c (nth z47.1 4)))) (fun z51 => bindO (pureO (.bin .gtr .num true (.c z51) (.c (.int .u8 191)))) (fun z52 => some z52)))))) (fun z53 => iteP z53 (bindO (some (.int
    .i64 1, z47.2)) (fun z54 => some (.inr z54))) (bindO (pureO (.bin .mul .num true (.c (.int .i64 64)) (.c (nth z47.1 3)))) (fun z55 => bindO (pureO (.strIdx (.c (nth z47.1 0)) (.c
    (nth z47.1 4)))) (fun z56 => bindO (pureO (.conv .i64 (.c z56))) (fun z57 => bindO (pureO (.bin .add .num false (.c z55) (.c z57))) (fun z58 => bindO (pureO (.bin .sub .num true
    (.c z58) (.c (.int .i64 128)))) (fun z59 => bindO (pureO (.bin .add .num true (.c (nth z47.1 4)) (.c (.int .i64 1)))) (fun z60 => some (.inl ([nth z47.1 0, nth z47.1 1, nth z47.1
    2, z59, z60], z47.2))))))))))) (bindO (bindO (bindO (pureO (.bin .gtr .num true (.c (nth z47.1 1)) (.c (.int .i64 1)))) (fun z61 => iteP z61 (bindO (pureO (.bin .lss .num false (.c
    (nth z47.1 3)) (.c (nth z47.1 2)))) (fun z62 => iteP z62 (some (.bool true)) (bindO (pureO (.bin .gtr .num true (.c (nth z47.1 3)) (.c (.int .i64 1114111)))) (fun z63 => iteP z63
    (some (.bool true)) (bindO (pureO (.bin .geq .num true (.c (nth z47.1 3)) (.c (.int .i64 55296)))) (fun z64 => iteP z64 (bindO (pureO (.bin .leq .num true (.c (nth z47.1 3)) (.c
    (.int .i64 57343)))) (fun z65 => some z65)) (some (.bool false)))))))) (some (.bool false)))) (fun z66 => iteP z66 (some (.int .i64 1, z47.2)) (some (nth z47.1 1, z47.2)))) (fun
    z67 => some (.inr z67))))) ([x0, .int .i64 3, .int .i64 2048, z15, .int .i64 1], e))))))))) (bindO (bindO (pureO (.strIdx (.c x0) (.c (.int .i64 0)))) (fun z68 => bindO (pureO
    (.bin .geq .num true (.c z68) (.c (.int .u8 240)))) (fun z69 => iteP z69 (bindO (pureO (.strIdx (.c x0) (.c (.int .i64 0)))) (fun z70 => bindO (pureO (.bin .lss .num true (.c z70)
    (.c (.int .u8 245)))) (fun z71 => some z71))) (some (.bool false))))) (fun z72 => iteP z72 (bindO (pureO (.bin .sub .num true (.c z9) (.c (.int .i64 240)))) (fun z73 => bindO
    (pureO (.len .str (.c x0))) (fun z74 => bindO (pureO (.bin .gtr .num false (.c (.int .i64 4)) (.c z74))) (fun z75 => iteP z75 (some (.int .i64 1, e)) (chkO (noUndef [x0, .int .i64
    4, .int .i64 65536, z73, .int .i64 1]) (loopL (fun z76 => bindO (pureO (.bin .lss .num false (.c (nth z76.1 4)) (.c (nth z76.1 1)))) (fun z77 => iteP z77 (bindO (bindO (pureO
    (.strIdx (.c (nth z76.1 0)) (.c (nth z76.1 4)))) (fun z78 => bindO (pureO (.bin .lss .num true (.c z78) (.c (.int .u8 128)))) (fun z79 => iteP z79 (some (.bool true)) (bindO (pureO
    (.strIdx (.c (nth z76.1 0)) (.c (nth z76.1 4)))) (fun z80 => bindO (pureO (.bin .gtr .num true (.c z80) (.c (.int .u8 191)))) (fun z81 => some z81)))))) (fun z82 => iteP z82 (bindO
    (some (.int .i64 1, z76.2)) (fun z83 => some (.inr z83))) (bindO (pureO (.bin .mul .num true (.c (.int .i64 64)) (.c (nth z76.1 3)))) (fun z84 => bindO (pureO (.strIdx (.c (nth
    z76.1 0)) (.c (nth z76.1 4)))) (fun z85 => bindO (pureO (.conv .i64 (.c z85))) (fun z86 => bindO (pureO (.bin .add .num false (.c z84) (.c z86))) (fun z87 => bindO (pureO (.bin
    .sub .num true (.c z87) (.c (.int .i64 128)))) (fun z88 => bindO (pureO (.bin .add .num true (.c (nth z76.1 4)) (.c (.int .i64 1)))) (fun z89 => some (.inl ([nth z76.1 0, nth z76.1
    1, nth z76.1 2, z88, z89], z76.2))))))))))) (bindO (bindO (bindO (pureO (.bin .gtr .num true (.c (nth z76.1 1)) (.c (.int .i64 1)))) (fun z90 => iteP z90 (bindO (pureO (.bin .lss
    .num false (.c (nth z76.1 3)) (.c (nth z76.1 2)))) (fun z91 => iteP z91 (some (.bool true)) (bindO (pureO (.bin .gtr .num true (.c (nth z76.1 3)) (.c (.int .i64 1114111)))) (fun
    z92 => iteP z92 (some (.bool true)) (bindO (pureO (.bin .geq .num true (.c (nth z76.1 3)) (.c (.int .i64 55296)))) (fun z93 => iteP z93 (bindO (pureO (.bin .leq .num true (.c (nth
    z76.1 3)) (.c (.int .i64 57343)))) (fun z94 => some z94)) (some (.bool false)))))))) (some (.bool false)))) (fun z95 => iteP z95 (some (.int .i64 1, z76.2)) (some (nth z76.1 1,
    z76.2)))) (fun z96 => some (.inr z96))))) ([x0, .int .i64 4, .int .i64 65536, z73, .int .i64 1], e))))))) (bindO (pureO (.len .str (.c x0))) (fun z97 => bindO (pureO (.bin .gtr
    .num false (.c (.int .i64 2)) (.c z97))) (fun z98 => iteP z98 (some (.int .i64 1, e)) (chkO (noUndef [x0, .int .i64 2, .int .i64 128, z9, .int .i64 1]) (loopL (fun z99 => bindO
    (pureO (.bin .lss .num false (.c (nth z99.1 4)) (.c (nth z99.1 1)))) (fun z100 => iteP z100 (bindO (bindO (pureO (.strIdx (.c (nth z99.1 0)) (.c (nth z99.1 4)))) (fun z101 => bindO
    (pureO (.bin .lss .num true (.c z101) (.c (.int .u8 128)))) (fun z102 => iteP z102 (some (.bool true)) (bindO (pureO (.strIdx (.c (nth z99.1 0)) (.c (nth z99.1 4)))) (fun z103 =>
    bindO (pureO (.bin .gtr .num true (.c z103) (.c (.int .u8 191)))) (fun z104 => some z104)))))) (fun z105 => iteP z105 (bindO (some (.int .i64 1, z99.2)) (fun z106 => some (.inr
    z106))) (bindO (pureO (.bin .mul .num true (.c (.int .i64 64)) (.c (nth z99.1 3)))) (fun z107 => bindO (pureO (.strIdx (.c (nth z99.1 0)) (.c (nth z99.1 4)))) (fun z108 => bindO
    (pureO (.conv .i64 (.c z108))) (fun z109 => bindO (pureO (.bin .add .num false (.c z107) (.c z109))) (fun z110 => bindO (pureO (.bin .sub .num true (.c z110) (.c (.int .i64 128))))
    (fun z111 => bindO (pureO (.bin .add .num true (.c (nth z99.1 4)) (.c (.int .i64 1)))) (fun z112 => some (.inl ([nth z99.1 0, nth z99.1 1, nth z99.1 2, z111, z112],
    z99.2))))))))))) (bindO (bindO (bindO (pureO (.bin .gtr .num true (.c (nth z99.1 1)) (.c (.int .i64 1)))) (fun z113 => iteP z113 (bindO (pureO (.bin .lss .num false (.c (nth z99.1
    3)) (.c (nth z99.1 2)))) (fun z114 => iteP z114 (some (.bool true)) (bindO (pureO (.bin .gtr .num true (.c (nth z99.1 3)) (.c (.int .i64 1114111)))) (fun z115 => iteP z115 (some
    (.bool true)) (bindO (pureO (.bin .geq .num true (.c (nth z99.1 3)) (.c (.int .i64 55296)))) (fun z116 => iteP z116 (bindO (pureO (.bin .leq .num true (.c (nth z99.1 3)) (.c (.int
    .i64 57343)))) (fun z117 => some z117)) (some (.bool false)))))))) (some (.bool false)))) (fun z118 => iteP z118 (some (.int .i64 1, z99.2)) (some (nth z99.1 1, z99.2)))) (fun z119
    => some (.inr z119))))) ([x0, .int .i64 2, .int .i64 128, z9, .int .i64 1], e))))))))))) (bindO (bindO (pureO (.strIdx (.c x0) (.c (.int .i64 0)))) (fun z120 => bindO (pureO (.bin
    .geq .num true (.c z120) (.c (.int .u8 224)))) (fun z121 => iteP z121 (bindO (pureO (.strIdx (.c x0) (.c (.int .i64 0)))) (fun z122 => bindO (pureO (.bin .lss .num true (.c z122)
    (.c (.int .u8 240)))) (fun z123 => some z123))) (some (.bool false))))) (fun z124 => iteP z124 (bindO (pureO (.bin .sub .num true (.c z3) (.c (.int .i64 224)))) (fun z125 => bindO
    (bindO (pureO (.strIdx (.c x0) (.c (.int .i64 0)))) (fun z126 => bindO (pureO (.bin .geq .num true (.c z126) (.c (.int .u8 240)))) (fun z127 => iteP z127 (bindO (pureO (.strIdx (.c
    x0) (.c (.int .i64 0)))) (fun z128 => bindO (pureO (.bin .lss .num true (.c z128) (.c (.int .u8 245)))) (fun z129 => some z129))) (some (.bool false))))) (fun z130 => iteP z130
    (bindO (pureO (.bin .sub .num true (.c z125) (.c (.int .i64 240)))) (fun z131 => bindO (pureO (.len .str (.c x0))) (fun z132 => bindO (pureO (.bin .gtr .num false (.c (.int .i64
    4)) (.c z132))) (fun z133 => iteP z133 (some (.int .i64 1, e)) (chkO (noUndef [x0, .int .i64 4, .int .i64 65536, z131, .int .i64 1]) (loopL (fun z134 => bindO (pureO (.bin .lss
    .num false (.c (nth z134.1 4)) (.c (nth z134.1 1)))) (fun z135 => iteP z135 (bindO (bindO (pureO (.strIdx (.c (nth z134.1 0)) (.c (nth z134.1 4)))) (fun z136 => bindO (pureO (.bin
    .lss .num true (.c z136) (.c (.int .u8 128)))) (fun z137 => iteP z137 (some (.bool true)) (bindO (pureO (.strIdx (.c (nth z134.1 0)) (.c (nth z134.1 4)))) (fun z138 => bindO (pureO
    (.bin .gtr .num true (.c z138) (.c (.int .u8 191)))) (fun z139 => some z139)))))) (fun z140 => iteP z140 (bindO (some (.int .i64 1, z134.2)) (fun z141 => some (.inr z141))) (bindO
    (pureO (.bin .mul .num true (.c (.int .i64 64)) (.c (nth z134.1 3)))) (fun z142 => bindO (pureO (.strIdx (.c (nth z134.1 0)) (.c (nth z134.1 4)))) (fun z143 => bindO (pureO (.conv
    .i64 (.c z143))) (fun z144 => bindO (pureO (.bin .add .num false (.c z142) (.c z144))) (fun z145 => bindO (pureO (.bin .sub .num true (.c z145) (.c (.int .i64 128)))) (fun z146 =>
    bindO (pureO (.bin .add .num true (.c (nth z134.1 4)) (.c (.int .i64 1)))) (fun z147 => some (.inl ([nth z134.1 0, nth z134.1 1, nth z134.1 2, z146, z147], z134.2))))))))))) (bindO
    (bindO (bindO (pureO (.bin .gtr .num true (.c (nth z134.1 1)) (.c (.int .i64 1)))) (fun z148 => iteP z148 (bindO (pureO (.bin .lss .num false (.c (nth z134.1 3)) (.c (nth z134.1
    2)))) (fun z149 => iteP z149 (some (.bool true)) (bindO (pureO (.bin .gtr .num true (.c (nth z134.1 3)) (.c (.int .i64 1114111)))) (fun z150 => iteP z150 (some (.bool true)) (bindO
    (pureO (.bin .geq .num true (.c (nth z134.1 3)) (.c (.int .i64 55296)))) (fun z151 => iteP z151 (bindO (pureO (.bin .leq .num true (.c (nth z134.1 3)) (.c (.int .i64 57343)))) (fun
    z152 => some z152)) (some (.bool false)))))))) (some (.bool false)))) (fun z153 => iteP z153 (some (.int .i64 1, z134.2)) (some (nth z134.1 1, z134.2)))) (fun z154 => some (.inr
    z154))))) ([x0, .int .i64 4, .int .i64 65536, z131, .int .i64 1], e))))))) (bindO (pureO (.len .str (.c x0))) (fun z155 => bindO (pureO (.bin .gtr .num false (.c (.int .i64 3)) (.c
    z155))) (fun z156 => iteP z156 (some (.int .i64 1, e)) (chkO (noUndef [x0, .int .i64 3, .int .i64 2048, z125, .int .i64 1]) (loopL (fun z157 => bindO (pureO (.bin .lss .num false
    (.c (nth z157.1 4)) (.c (nth z157.1 1)))) (fun z158 => iteP z158 (bindO (bindO (pureO (.strIdx (.c (nth z157.1 0)) (.c (nth z157.1 4)))) (fun z159 => bindO (pureO (.bin .lss .num
    true (.c z159) (.c (.int .u8 128)))) (fun z160 => iteP z160 (some (.bool true)) (bindO (pureO (.strIdx (.c (nth z157.1 0)) (.c (nth z157.1 4)))) (fun z161 => bindO (pureO (.bin
    .gtr .num true (.c z161) (.c (.int .u8 191)))) (fun z162 => some z162)))))) (fun z163 => iteP z163 (bindO (some (.int .i64 1, z157.2)) (fun z164 => some (.inr z164))) (bindO (pureO
    (.bin .mul .num true (.c (.int .i64 64)) (.c (nth z157.1 3)))) (fun z165 => bindO (pureO (.strIdx (.c (nth z157.1 0)) (.c (nth z157.1 4)))) (fun z166 => bindO (pureO (.conv .i64
    (.c z166))) (fun z167 => bindO (pureO (.bin .add .num false (.c z165) (.c z167))) (fun z168 => bindO (pureO (.bin .sub .num true (.c z168) (.c (.int .i64 128)))) (fun z169 => bindO
    (pureO (.bin .add .num true (.c (nth z157.1 4)) (.c (.int .i64 1)))) (fun z170 => some (.inl ([nth z157.1 0, nth z157.1 1, nth z157.1 2, z169, z170], z157.2))))))))))) (bindO
    (bindO (bindO (pureO (.bin .gtr .num true (.c (nth z157.1 1)) (.c (.int .i64 1)))) (fun z171 => iteP z171 (bindO (pureO (.bin .lss .num false (.c (nth z157.1 3)) (.c (nth z157.1
    2)))) (fun z172 => iteP z172 (some (.bool true)) (bindO (pureO (.bin .gtr .num true (.c (nth z157.1 3)) (.c (.int .i64 1114111)))) (fun z173 => iteP z173 (some (.bool true)) (bindO
    (pureO (.bin .geq .num true (.c (nth z157.1 3)) (.c (.int .i64 55296)))) (fun z174 => iteP z174 (bindO (pureO (.bin .leq .num true (.c (nth z157.1 3)) (.c (.int .i64 57343)))) (fun
    z175 => some z175)) (some (.bool false)))))))) (some (.bool false)))) (fun z176 => iteP z176 (some (.int .i64 1, z157.2)) (some (nth z157.1 1, z157.2)))) (fun z177 => some (.inr
    z177))))) ([x0, .int .i64 3, .int .i64 2048, z125, .int .i64 1], e))))))))) (bindO (bindO (pureO (.strIdx (.c x0) (.c (.int .i64 0)))) (fun z178 => bindO (pureO (.bin .geq .num
    true (.c z178) (.c (.int .u8 240)))) (fun z179 => iteP z179 (bindO (pureO (.strIdx (.c x0) (.c (.int .i64 0)))) (fun z180 => bindO (pureO (.bin .lss .num true (.c z180) (.c (.int
    .u8 245)))) (fun z181 => some z181))) (some (.bool false))))) (fun z182 => iteP z182 (bindO (pureO (.bin .sub .num true (.c z3) (.c (.int .i64 240)))) (fun z183 => bindO (pureO
    (.len .str (.c x0))) (fun z184 => bindO (pureO (.bin .gtr .num false (.c (.int .i64 4)) (.c z184))) (fun z185 => iteP z185 (some (.int .i64 1, e)) (chkO (noUndef [x0, .int .i64 4,
    .int .i64 65536, z183, .int .i64 1]) (loopL (fun z186 => bindO (pureO (.bin .lss .num false (.c (nth z186.1 4)) (.c (nth z186.1 1)))) (fun z187 => iteP z187 (bindO (bindO (pureO
    (.strIdx (.c (nth z186.1 0)) (.c (nth z186.1 4)))) (fun z188 => bindO (pureO (.bin .lss .num true (.c z188) (.c (.int .u8 128)))) (fun z189 => iteP z189 (some (.bool true)) (bindO
    (pureO (.strIdx (.c (nth z186.1 0)) (.c (nth z186.1 4)))) (fun z190 => bindO (pureO (.bin .gtr .num true (.c z190) (.c (.int .u8 191)))) (fun z191 => some z191)))))) (fun z192 =>
    iteP z192 (bindO (some (.int .i64 1, z186.2)) (fun z193 => some (.inr z193))) (bindO (pureO (.bin .mul .num true (.c (.int .i64 64)) (.c (nth z186.1 3)))) (fun z194 => bindO (pureO
    (.strIdx (.c (nth z186.1 0)) (.c (nth z186.1 4)))) (fun z195 => bindO (pureO (.conv .i64 (.c z195))) (fun z196 => bindO (pureO (.bin .add .num false (.c z194) (.c z196))) (fun z197
    => bindO (pureO (.bin .sub .num true (.c z197) (.c (.int .i64 128)))) (fun z198 => bindO (pureO (.bin .add .num true (.c (nth z186.1 4)) (.c (.int .i64 1)))) (fun z199 => some
    (.inl ([nth z186.1 0, nth z186.1 1, nth z186.1 2, z198, z199], z186.2))))))))))) (bindO (bindO (bindO (pureO (.bin .gtr .num true (.c (nth z186.1 1)) (.c (.int .i64 1)))) (fun z200
    => iteP z200 (bindO (pureO (.bin .lss .num false (.c (nth z186.1 3)) (.c (nth z186.1 2)))) (fun z201 => iteP z201 (some (.bool true)) (bindO (pureO (.bin .gtr .num true (.c (nth
    z186.1 3)) (.c (.int .i64 1114111)))) (fun z202 => iteP z202 (some (.bool true)) (bindO (pureO (.bin .geq .num true (.c (nth z186.1 3)) (.c (.int .i64 55296)))) (fun z203 => iteP
    z203 (bindO (pureO (.bin .leq .num true (.c (nth z186.1 3)) (.c (.int .i64 57343)))) (fun z204 => some z204)) (some (.bool false)))))))) (some (.bool false)))) (fun z205 => iteP
    z205 (some (.int .i64 1, z186.2)) (some (nth z186.1 1, z186.2)))) (fun z206 => some (.inr z206))))) ([x0, .int .i64 4, .int .i64 65536, z183, .int .i64 1], e))))))) (bindO (pureO
    (.len .str (.c x0))) (fun z207 => bindO (pureO (.bin .gtr .num false (.c (.int .i64 1)) (.c z207))) (fun z208 => iteP z208 (some (.int .i64 1, e)) (chkO (noUndef [x0, .int .i64 1,
    .int .i64 0, z3, .int .i64 1]) (loopL (fun z209 => bindO (pureO (.bin .lss .num false (.c (nth z209.1 4)) (.c (nth z209.1 1)))) (fun z210 => iteP z210 (bindO (bindO (pureO (.strIdx
    (.c (nth z209.1 0)) (.c (nth z209.1 4)))) (fun z211 => bindO (pureO (.bin .lss .num true (.c z211) (.c (.int .u8 128)))) (fun z212 => iteP z212 (some (.bool true)) (bindO (pureO
    (.strIdx (.c (nth z209.1 0)) (.c (nth z209.1 4)))) (fun z213 => bindO (pureO (.bin .gtr .num true (.c z213) (.c (.int .u8 191)))) (fun z214 => some z214)))))) (fun z215 => iteP
    z215 (bindO (some (.int .i64 1, z209.2)) (fun z216 => some (.inr z216))) (bindO (pureO (.bin .mul .num true (.c (.int .i64 64)) (.c (nth z209.1 3)))) (fun z217 => bindO (pureO
    (.strIdx (.c (nth z209.1 0)) (.c (nth z209.1 4)))) (fun z218 => bindO (pureO (.conv .i64 (.c z218))) (fun z219 => bindO (pureO (.bin .add .num false (.c z217) (.c z219))) (fun z220
    => bindO (pureO (.bin .sub .num true (.c z220) (.c (.int .i64 128)))) (fun z221 => bindO (pureO (.bin .add .num true (.c (nth z209.1 4)) (.c (.int .i64 1)))) (fun z222 => some
    (.inl ([nth z209.1 0, nth z209.1 1, nth z209.1 2, z221, z222], z209.2))))))))))) (bindO (bindO (bindO (pureO (.bin .gtr .num true (.c (nth z209.1 1)) (.c (.int .i64 1)))) (fun z223
    => iteP z223 (bindO (pureO (.bin .lss .num false (.c (nth z209.1 3)) (.c (nth z209.1 2)))) (fun z224 => iteP z224 (some (.bool true)) (bindO (pureO (.bin .gtr .num true (.c (nth
    z209.1 3)) (.c (.int .i64 1114111)))) (fun z225 => iteP z225 (some (.bool true)) (bindO (pureO (.bin .geq .num true (.c (nth z209.1 3)) (.c (.int .i64 55296)))) (fun z226 => iteP
    z226 (bindO (pureO (.bin .leq .num true (.c (nth z209.1 3)) (.c (.int .i64 57343)))) (fun z227 => some z227)) (some (.bool false)))))))) (some (.bool false)))) (fun z228 => iteP
    z228 (some (.int .i64 1, z209.2)) (some (nth z209.1 1, z209.2)))) (fun z229 => some (.inr z229))))) ([x0, .int .i64 1, .int .i64 0, z3, .int .i64 1], e))))))))))))))) := by kernel_rfl
theorem run34 (B : KB) {E : Type} (h : Handler E) (dep : Nat) (e : E) (x0 : PV) (x1 : PV) :
    runK (cfg0 B (fun _ => .cl)) fn34 (.cl) h dep [.cv x0, .cv x1] e =
    bindO (pureO (.bin .eql .num true (.c x1) (.c (.int .i64 1)))) (fun z1 => iteP z1 (some (x0, e)) (bindO (bindO (pureO (.bin .eql .num true (.c x1) (.c (.int .i64 3)))) (fun z2 =>
    iteP z2 (bindO (pureO (.bin .eql .num true (.c x0) (.c (.int .i64 4)))) (fun z3 => some z3)) (some (.bool false)))) (fun z4 => iteP z4 (some (.int .i64 2, e)) (some (.int .i64 1,
    e))))) := by kernel_rfl
theorem run35 (B : KB) {E : Type} (h : Handler E) (dep : Nat) (e : E) (x0 : PV) (x1 : PV) :
    runK (cfg0 B (fun _ => .cl)) fn35 (.cl) h dep [.cv x0, .cv x1] e =
    bindO (callO B .cl (.fn 44 []) [x0, x1]) (fun z1 => bindO (pureO (.extract 0 (.c z1))) (fun z2 => bindO (pureO (.extract 1 (.c z1))) (fun z3 => bindO (pureO (.extract 2 (.c z1)))
    (fun z4 => some (.tup [z2, z3, z4], e))))) := by kernel_rfl
theorem run36 (B : KB) {E : Type} (h : Handler E) (dep : Nat) (e : E) (x0 : PV) :
    runK (cfg0 B (fun _ => .cl)) fn36 (.cl) h dep [.cv x0] e =
    some (.int .i64 1, e) := by kernel_rfl
theorem run37 (B : KB) {E : Type} (h : Handler E) (dep : Nat) (e : E) (x0 : PV) :
    runK (cfg0 B (fun _ => .cl)) fn37 (.cl) h dep [.cv x0] e =
    some (.int .i64 1, e) := by kernel_rfl
theorem run38 (B : KB) {E : Type} (h : Handler E) (dep : Nat) (e : E) (x0 : PV) :
    runK (cfg0 B (fun _ => .cl)) fn38 (.cl) h dep [.cv x0] e =
    bindO (callO B .cl (.fn 45 []) [x0]) (fun z1 => bindO (pureO (.extract 0 (.c z1))) (fun z2 => bindO (pureO (.extract 1 (.c z1))) (fun z3 => some (z3, e)))) := by kernel_rfl
theorem run39 (B : KB) {E : Type} (h : Handler E) (dep : Nat) (e : E) (x0 : PV) :
    runK (cfg0 B (fun _ => .cl)) fn39 (.cl) h dep [.cv x0] e =
    bindO (pureO (.bin .quo .num true (.c x0) (.c (.int .i64 2)))) (fun z1 => bindO (pureO (.bin .rem .num true (.c x0) (.c (.int .i64 2)))) (fun z2 => bindO (pureO (.bin .sub .num
    false (.c z1) (.c z2))) (fun z3 => bindO (pureO (.minmax true [.c (.int .i64 1), .c z3])) (fun z4 => some (z4, e))))) := by kernel_rfl
theorem run44 (B : KB) {E : Type} (h : Handler E) (dep : Nat) (e : E) (x0 : PV) (x1 : PV) :
    runK (cfg0 B (fun _ => .cl)) fn44 (.cl) h dep [.cv x0, .cv x1] e =
    bindO (callO B .cl (.fn 49 []) [x0, x1]) (fun z1 => bindO (pureO (.bin .geq .num true (.c z1) (.c (.int .i64 0)))) (fun z2 => iteP z2 (bindO (pureO (.strSlice (.c x0) none (some
    (.c z1)))) (fun z3 => bindO (pureO (.len .str (.c x1))) (fun z4 => bindO (pureO (.bin .add .num false (.c z1) (.c z4))) (fun z5 => bindO (pureO (.strSlice (.c x0) (some (.c z5))
    none)) (fun z6 => some (.tup [z3, z6, .bool true], e)))))) (some (.tup [x0, .str [], .bool false], e)))) := by kernel_rfl
theorem run49 (B : KB) {E : Type} (h : Handler E) (dep : Nat) (e : E) (x0 : PV) (x1 : PV) :
    runK (cfg0 B (fun _ => .cl)) fn49 (.cl) h dep [.cv x0, .cv x1] e =
    bindO (pureO (.len .str (.c x1))) (fun z1 => bindO (bindO (pureO (.bin .eql .num true (.c z1) (.c (.int .i64 0)))) (fun z2 => iteP z2 (some (.bool true)) (bindO (pureO (.bin .eql
    .str false (.c x1) (.c x0))) (fun z3 => some z3)))) (fun z4 => iteP z4 (some (.int .i64 0, e)) (bindO (pureO (.bin .eql .num true (.c z1) (.c (.int .i64 1)))) (fun z5 => iteP z5
    (bindO (pureO (.strIdx (.c x1) (.c (.int .i64 0)))) (fun z6 => bindO (callO B .cl (.fn 51 []) [x0, z6]) (fun z7 => some (z7, e)))) (bindO (pureO (.len .str (.c x0))) (fun z8 =>
    bindO (pureO (.bin .geq .num false (.c z1) (.c z8))) (fun z9 => iteP z9 (some (.int .i64 (-1), e)) none))))))) := by kernel_rfl
end Go.Ab

/-
  Place: what its functions are, for typed arguments.
-/
namespace Go.Ab.Place
open Go Go.Ab

/-! ### What is taken as it is told -/

def sp0 (g : FuncId) (σ : Nm → Option Ob) (vs : List PV) : Option Out :=
  if g = 31 then (match vs with
    | [.nilI, .iface p (.ref nm o)] => if p = 69 ∧ o = 0 then some { v := .bool false } else none
    | [.iface t x, .iface p (.ref nm o)] => match σ nm with
      | some (.cells cs) => if p = 69 ∧ o = 0 ∧ t = 51 ∧ cs.length = 1 ∧ okCells x 1 = true then some { v := .bool true, upd := some (nm, .cells x.cells) } else none
      | _ => none
    | _ => none)
  else if g = 45 then (match vs with
    | [.str s] => some { v := .tup [.int .i32 ((Lib.decodeGo ⟨s.toArray⟩).1 : Int), .int .i64 ((Lib.decodeGo ⟨s.toArray⟩).2 : Int)] }
    | _ => none)
  else if g = 51 then (match vs with
    | [.str s, .int .u8 c] => if 0 ≤ c ∧ c < 256 then some { v := .int .i64 (Lib.indexByte s (UInt8.ofNat c.toNat)) } else none
    | _ => none)
  else none

noncomputable def B0 : KB := { sp := sp0, L := limCall sp0 tab0 }

theorem cfg_ok (d : Nat → RSh) : CfgOK (cfg0 B0 d) tab0 where
  L := rfl
  spF g h σ vs := by
    simp only [cfg0, Bool.or_eq_false_iff, beq_eq_false_iff_ne] at h
    show sp0 g σ vs = none
    unfold sp0
    rw [if_neg h.1.1, if_neg h.1.2, if_neg h.2]
  loc g σ vs hv := by
    show sp0 g σ vs = sp0 g (fun _ => none) vs
    unfold sp0
    split
    · split
      · rfl
      · exact absurd (okVL_iff.1 hv _ (List.mem_cons_of_mem _ List.mem_cons_self)) (by simp [okV])
      · rfl
    · rfl
  asOk g p t n h σ nm cs h1 h2 := by
    simp only [cfg0] at h
    split at h
    · rename_i hc
      obtain ⟨rfl, rfl⟩ := hc
      cases h
      refine ⟨rfl, fun x hx => ?_⟩
      show sp0 31 σ [.iface 51 x, .iface 69 (.ref nm 0)] = some { v := .bool true, upd := some (nm, .cells x.cells) }
      unfold sp0
      simp only [if_true, h1, h2, hx, and_self]
    · cases h

theorem sp_none {g : FuncId} (h : g ≠ 31 ∧ g ≠ 45 ∧ g ≠ 51) (σ : Nm → Option Ob) (vs : List PV) : sp0 g σ vs = none := by
  unfold sp0
  rw [if_neg h.1, if_neg h.2.1, if_neg h.2.2]

/-- A call, by what its function is. -/
theorem call {d : Nat → RSh} {g : FuncId} {fn : RFn} {sh : RSh} {args : List PV} {u : PV} (ht : tab0 g = some fn) (hg : g ≠ 31 ∧ g ≠ 45 ∧ g ≠ 51) (ha : okVL args = true) (hl : Nat.ble args.length fn.nt = true)
    (hr : runK (cfg0 B0 d) fn sh noHandler 0 (args.map KV.cv) () = some (u, ())) : callO B0 sh (.fn g []) args = some u := by
  refine call_of_run (cfg_ok d) ht (cap := []) (by simpa using ha) (by simpa using Nat.le_of_ble_eq_true hl) (sp_none hg (fun _ => none) _) ?_
  simpa using hr

/-! ### Whole numbers -/

theorem w64 {n : Int} (h1 : -9223372036854775808 ≤ n) (h2 : n ≤ 9223372036854775807) : IntKind.i64.wrap n = n := by
  exact IntWalk.i64_in _ ⟨h1, h2⟩

def inat (n : Nat) : PV := .int .i64 (n : Int)
def ints (l : List Nat) : List PV := l.map inat

theorem cut_run (s : List UInt8) (hs : s.length ≤ 9223372036854775807) : callO B0 .cl (.fn 11 []) [.str s] = some (.str (s.take 600)) := by
  refine call (d := fun _ => .cl) rfl (by decide) rfl rfl ?_
  rw [List.map_cons, List.map_nil, run11]
  have hm : pureO (.minmax false [.c (.int .i64 (s.length : Int)), .c (.int .i64 600)]) = some (.int .i64 ((min s.length 600 : Nat) : Int)) := by
    simp only [pureO, exec, List.map_cons, List.map_nil, RX.ev, foldMM, chk]
    by_cases h : s.length ≤ 600
    · have : ¬ (600 : Int) < (s.length : Int) := by omega
      simp [this, Nat.min_eq_left h]
    · have : (600 : Int) < (s.length : Int) := by omega
      simp [this, Nat.min_eq_right (by omega : 600 ≤ s.length)]
  simp only [pure_lens, bindO_val, hm]
  rw [pure_ssl2 (by omega)]
  simp only [bindO_val]
  congr 3
  by_cases h : s.length ≤ 600
  · rw [Nat.min_eq_left h, List.take_length, List.take_of_length_le h]
  · rw [Nat.min_eq_right (by omega)]

theorem is_run (n : Int) : callO B0 .cl (.fn 27 []) [.int .i64 n] = some (.bool (decide (1 ≤ n) && decide (n ≤ 3))) := by
  refine call (d := fun _ => .cl) rfl (by decide) rfl rfl ?_
  rw [List.map_cons, List.map_nil, run27]
  by_cases h : 1 ≤ n <;> simp [h]

/-- What a rune of so many bytes counts. -/
def sizeU (n : Nat) (u : Int) : Nat := if u = 1 then n else if u = 3 ∧ n = 4 then 2 else 1

theorem size_run (n : Nat) (u : Int) : callO B0 .cl (.fn 34 []) [inat n, .int .i64 u] = some (inat (sizeU n u)) := by
  refine call (d := fun _ => .cl) rfl (by decide) rfl rfl ?_
  unfold inat sizeU
  rw [List.map_cons, List.map_cons, List.map_nil, run34]
  by_cases h1 : u = 1
  · subst h1; simp
  · by_cases h3 : u = 3
    · subst h3
      by_cases h4 : n = 4
      · subst h4; simp
      · have : ¬ (n : Int) = 4 := by omega
        simp [h4, this]
    · simp [h1, h3]

/-! ### Lines -/

/-- Where lines begin, from a place on. -/
def linesFrom (i : Nat) : List UInt8 → List Nat
  | [] => []
  | c :: t => if c = 10 then (i + 1) :: linesFrom (i + 1) t else linesFrom (i + 1) t
def linesL (s : List UInt8) : List Nat := 0 :: linesFrom 0 s

theorem linesFrom_snoc (s : List UInt8) (c : UInt8) (i : Nat) : linesFrom i (s ++ [c]) = linesFrom i s ++ (if c = 10 then [i + s.length + 1] else []) := by
  induction s generalizing i with
  | nil => simp only [List.nil_append, linesFrom]; split <;> simp
  | cons a t ih =>
    simp only [List.cons_append, linesFrom, ih]
    have : i + 1 + t.length + 1 = i + (t.length + 1) + 1 := by omega
    split <;> simp [this]

theorem linesL_snoc (s : List UInt8) (c : UInt8) : linesL (s ++ [c]) = linesL s ++ (if c = 10 then [s.length + 1] else []) := by
  unfold linesL; rw [linesFrom_snoc]; simp

theorem linesL_len (s : List UInt8) : (linesL s).length ≤ s.length + 1 := by
  have : ∀ (s : List UInt8) (i : Nat), (linesFrom i s).length ≤ s.length := by
    intro s
    induction s with
    | nil => intro i; simp [linesFrom]
    | cons c t ih =>
      intro i
      simp only [linesFrom]
      have := ih (i + 1)
      split <;> simp <;> omega
  have := this s 0
  simp [linesL]; omega

theorem ints_len (l : List Nat) : (ints l).length = l.length := by simp [ints]

theorem u8_ten (b : UInt8) : ((b.toNat : Int) == 10) = decide (b = 10) := by
  have h : (b = 10) ↔ (b.toNat : Int) = 10 := by
    constructor
    · rintro rfl; rfl
    · intro h; exact UInt8.toNat_inj.1 (by have : b.toNat = 10 := by omega
                                           rw [this]; rfl)
  by_cases hb : b = 10
  · simp [hb]
  · have : ¬ (b.toNat : Int) = 10 := fun h' => hb (h.2 h')
    simp [hb, this]

theorem take_succ' {s : List UInt8} {i : Nat} (h : i < s.length) : s.take (i + 1) = s.take i ++ [s[i]] := by
  rw [List.take_succ_eq_append_getElem h]

theorem reflines_run (s : List UInt8) (hs : s.length ≤ 1000000) : callO B0 (.own 1) (.fn 22 []) [.str s] = some (.sl 1 (ints (linesL s)) false) := by
  refine call (d := fun _ => .cl) rfl (by decide) rfl rfl ?_
  rw [List.map_cons, List.map_nil, run22]
  simp only [lenL_eq, List.length_singleton, nI_eq]
  have h0 : okSls 1 [.int .i64 0] = true := rfl
  have h00 : noUndef [.str s, .int .i64 ((1 : Nat) : Int), .int .i64 0] = true := rfl
  rw [h0, h00, chkO_true, chkO_true]
  refine loop_run (fun i => ([.str s, .int .i64 ((linesL (s.take i)).length : Int), .int .i64 (i : Int), .sl 1 (ints (linesL (s.take i))) false], ())) s.length (by simp [linesL, linesFrom, ints, inat]) (fun i hlt => ?_) ?_
  · have hb : s[i]? = some s[i] := List.getElem?_eq_getElem hlt
    have hl := linesL_len (s.take i)
    have hti : (s.take i).length = i := by simp; omega
    have hlen : (linesL (s.take i)).length ≤ i + 1 := by omega
    simp only [nth_0, nth_1, nth_2, nth_3, pure_lens, bindO_val, pure_lss, iteP_bool]
    rw [if_pos (by simpa using hlt), pure_sidx hb]
    simp only [bindO_val, pure_eql, iteP_bool, u8_ten]
    rw [take_succ' hlt, linesL_snoc, hti]
    have hw : IntKind.i64.wrap ((i : Int) + 1) = ((i + 1 : Nat) : Int) := by rw [w64 (by omega) (by omega)]; omega
    by_cases hc : s[i] = 10
    · have hle : (linesL (s.take i)).length ≤ 2147483647 := by omega
      simp [hc, hw, okSls, PV.isVal, ints, List.take_of_length_le, inat, hle]
    · simp [hc, hw]
  · simp [ints_len]

theorem byteList_get {s : List UInt8} {i : Nat} (h : i < s.length) : (byteList s)[i]? = some (.int .u8 (s[i].toNat : Int)) := by
  simp [byteList, h]
theorem byteList_len (s : List UInt8) : (byteList s).length = s.length := by simp [byteList]

theorem boundO_nat (n d : Nat) : boundO (some (.int .i64 (n : Int))) d n = some n := by
  simp [boundO, bound, natOf, chk]

theorem lines_run (s : List UInt8) (hs : s.length ≤ 1000000) : callO B0 (.own 1) (.fn 16 []) [.str s] = some (.sl 1 (ints (linesL s)) false) := by
  refine call (d := fun _ => .cl) rfl (by decide) rfl rfl ?_
  rw [List.map_cons, List.map_nil, run16]
  rw [pure_bytes s (by unfold maxInt; omega)]
  simp only [lenL_eq, List.length_singleton, nI_eq, bindO_val, pure_lenl, byteList_len]
  have h0 : okSls 1 [.int .i64 0] = true := rfl
  have h00 : noUndef [.int .i64 ((1 : Nat) : Int), .sl 1 (byteList s) false, .int .i64 (s.length : Int), .int .i64 0] = true := rfl
  rw [h0, h00, chkO_true, chkO_true]
  refine loop_run (fun i => ([.int .i64 ((linesL (s.take i)).length : Int), .sl 1 (byteList s) false, .int .i64 (s.length : Int), .int .i64 (i : Int), .sl 1 (ints (linesL (s.take i))) false], ())) s.length (by simp [linesL, linesFrom, ints, inat]) (fun i hlt => ?_) ?_
  · have hl := linesL_len (s.take i)
    have hti : (s.take i).length = i := by simp; omega
    have hlen : (linesL (s.take i)).length ≤ i + 1 := by omega
    simp only [nth_0, nth_1, nth_2, nth_3, nth_4, bindO_val, pure_lss, iteP_bool]
    rw [if_pos (by simpa using hlt), pure_lidx (by omega) (byteList_get hlt)]
    simp only [bindO_val, pure_load, cells_int, sel_one, pure_eql, iteP_bool, u8_ten]
    rw [take_succ' hlt, linesL_snoc, hti]
    have hw : IntKind.i64.wrap ((i : Int) + 1) = ((i + 1 : Nat) : Int) := by rw [w64 (by omega) (by omega)]; omega
    by_cases hc : s[i] = 10
    · have hle : (linesL (s.take i)).length ≤ 2147483647 := by omega
      simp [hc, hw, okSls, PV.isVal, ints, List.take_of_length_le, inat, hle]
    · simp [hc, hw]
  · simp [ints_len, boundO_nat]

/-! ### The first line -/

def line1 (s : List UInt8) : List UInt8 := s.takeWhile fun c => c != 10

theorem line1_le (s : List UInt8) : (line1 s).length ≤ s.length := (List.takeWhile_prefix _).length_le

theorem line1_take (s : List UInt8) : s.take (line1 s).length = line1 s := by
  have := List.takeWhile_prefix (l := s) (fun c => c != 10)
  exact (List.prefix_iff_eq_take.1 this).symm

theorem index_line (s : List UInt8) : Lib.indexByte s 10 = if 10 ∈ s then ((line1 s).length : Int) else -1 := by
  induction s with
  | nil => rfl
  | cons c t ih =>
    unfold Lib.indexByte line1
    by_cases hc : c = 10
    · simp [hc]
    · have h1 : (c == 10) = false := by simp [hc]
      have h2 : (c != 10) = true := by simp [hc]
      rw [h1, ih]
      simp only [Bool.false_eq_true, if_false, List.mem_cons, List.takeWhile_cons, h2, if_true, List.length_cons, Ne.symm hc, false_or]
      unfold line1
      by_cases hm : 10 ∈ t
      · simp only [hm, if_true]
        have : ¬ ((((t.takeWhile fun c => c != 10).length : Int) == -1) = true) := by simp <;> omega
        rw [if_neg this]
        omega
      · simp [hm]

theorem line1_all {s : List UInt8} (h : ¬ 10 ∈ s) : line1 s = s := by
  induction s with
  | nil => rfl
  | cons c t ih =>
    simp only [List.mem_cons, not_or] at h
    have hc : (c != 10) = true := by simpa using fun e => h.1 e.symm
    unfold line1 at ih ⊢
    rw [List.takeWhile_cons, if_pos hc, ih h.2]

theorem line1_lt {s : List UInt8} (h : 10 ∈ s) : (line1 s).length < s.length := by
  induction s with
  | nil => cases h
  | cons c t ih =>
    unfold line1 at ih ⊢
    rw [List.takeWhile_cons]
    split
    · rename_i hc
      rcases List.mem_cons.1 h with rfl | h
      · simp at hc
      · have := ih h
        simp only [List.length_cons]; omega
    · simp

theorem byte_run (s : List UInt8) : callO B0 .cl (.fn 51 []) [.str s, .int .u8 10] = some (.int .i64 (Lib.indexByte s 10)) :=
  call_of_sp (cfg_ok fun _ => .cl) (cap := []) (by rfl) rfl

theorem index_run (s : List UInt8) : callO B0 .cl (.fn 49 []) [.str s, .str [10]] = some (.int .i64 (Lib.indexByte s 10)) := by
  refine call (d := fun _ => .cl) rfl (by decide) rfl rfl ?_
  rw [List.map_cons, List.map_cons, List.map_nil, run49]
  have hx : pureO (.strIdx (.c (.str [10])) (.c (.int .i64 0))) = some (.int .u8 10) := rfl
  by_cases h : s = [10]
  · subst h; simp [Lib.indexByte]
  · have h' : ¬ ([10] = s) := fun e => h e.symm
    simp [h', hx, byte_run]

theorem cut_tok (s : List UInt8) (hs : s.length ≤ 1000000) : ∃ a b, callO B0 .cl (.fn 44 []) [.str s, .str [10]] = some (.tup [.str (line1 s), .str a, .bool b]) := by
  by_cases hm : 10 ∈ s
  · refine ⟨s.drop ((line1 s).length + 1), true, ?_⟩
    refine call (d := fun _ => .cl) rfl (by decide) rfl rfl ?_
    rw [List.map_cons, List.map_cons, List.map_nil, run44, index_run, index_line, if_pos hm]
    have hl := line1_le s
    have hlt := line1_lt hm
    have h0 : (0 : Int) ≤ ((line1 s).length : Int) := by omega
    have hw : IntKind.i64.wrap (((line1 s).length : Int) + 1) = (((line1 s).length + 1 : Nat) : Int) := by rw [w64 (by omega) (by omega)]; omega
    simp only [bindO_val, pure_geq, h0, decide_true, iteP_bool, if_true]
    rw [pure_ssl2 hl]
    simp only [bindO_val, pure_lens, List.length_singleton, pure_add]
    rw [show (((1 : Nat) : Int)) = 1 from rfl, hw, pure_ssl1 (by omega)]
    simp [line1_take]
  · refine ⟨[], false, ?_⟩
    refine call (d := fun _ => .cl) rfl (by decide) rfl rfl ?_
    rw [List.map_cons, List.map_cons, List.map_nil, run44, index_run, index_line, if_neg hm]
    simp [line1_all hm]

theorem Cut_run (s : List UInt8) (hs : s.length ≤ 1000000) : ∃ a b, callO B0 .cl (.fn 35 []) [.str s, .str [10]] = some (.tup [.str (line1 s), .str a, .bool b]) := by
  obtain ⟨a, b, h⟩ := cut_tok s hs
  refine ⟨a, b, ?_⟩
  refine call (d := fun _ => .cl) rfl (by decide) rfl rfl ?_
  rw [List.map_cons, List.map_cons, List.map_nil, run35, h]
  simp

/-! ### Where lines begin -/

theorem lines_rec (s : List UInt8) (i : Nat) : linesFrom i s = if 10 ∈ s then (i + (line1 s).length + 1) :: linesFrom (i + (line1 s).length + 1) (s.drop ((line1 s).length + 1)) else [] := by
  induction s generalizing i with
  | nil => rfl
  | cons c t ih =>
    by_cases hc : c = 10
    · subst hc; simp [linesFrom, line1]
    · have h1 : line1 (c :: t) = c :: line1 t := by simp [line1, hc]
      simp only [linesFrom, hc, if_false, h1, List.length_cons, List.mem_cons, Ne.symm hc, false_or, List.drop_succ_cons]
      rw [ih (i + 1)]
      have e : i + 1 + (line1 t).length + 1 = i + ((line1 t).length + 1) + 1 := by omega
      rw [e]

/-- A line's beginning, and what comes of the text there. -/
theorem lines_at : ∀ (k : Nat) (s : List UInt8) (i : Nat), k < (i :: linesFrom i s).length → ∃ j, (i :: linesFrom i s)[k]? = some j ∧ i ≤ j ∧ j ≤ i + s.length ∧ (i :: linesFrom i s).drop k = j :: linesFrom j (s.drop (j - i)) := by
  intro k
  induction k with
  | zero => intro s i _; exact ⟨i, rfl, Nat.le_refl _, by omega, by simp⟩
  | succ k ih =>
    intro s i hk
    rw [lines_rec] at hk ⊢
    by_cases hm : 10 ∈ s
    · simp only [hm, if_true, List.length_cons] at hk ⊢
      obtain ⟨j, h1, h2, h3, h4⟩ := ih (s.drop ((line1 s).length + 1)) (i + (line1 s).length + 1) (by simpa using hk)
      refine ⟨j, by simpa using h1, by omega, ?_, ?_⟩
      · have := line1_le s
        simp at h3
        have hl := line1_lt hm
        omega
      · simp only [List.drop_succ_cons]
        rw [h4, List.drop_drop]
        congr 3
        omega
    · simp [hm] at hk

theorem linesL_at {s : List UInt8} {k : Nat} (hk : k < (linesL s).length) : ∃ j, (linesL s)[k]? = some j ∧ j ≤ s.length ∧ (linesL s).drop k = j :: linesFrom j (s.drop j) := by
  obtain ⟨j, h1, _, h3, h4⟩ := lines_at k s 0 hk
  exact ⟨j, h1, by omega, by simp only [Nat.sub_zero] at h4; exact h4⟩

/-- What ends a line. -/
theorem linesL_next {s : List UInt8} {k j : Nat} (hj : (linesL s)[k]? = some j) : (linesL s)[k + 1]? = if 10 ∈ s.drop j then some (j + (line1 (s.drop j)).length + 1) else none := by
  have hk := (List.getElem?_eq_some_iff.1 hj).1
  obtain ⟨j', h1, h2, h3⟩ := linesL_at hk
  rw [hj] at h1; cases h1
  have : (linesL s)[k + 1]? = ((linesL s).drop k)[1]? := by rw [List.getElem?_drop]
  rw [this, h3, lines_rec]
  split <;> rfl

theorem ints_get {l : List Nat} {k j : Nat} (h : l[k]? = some j) : (ints l)[k]? = some (inat j) := by simp [ints, h]

def errV (n : Int) : PV := .iface 51 (.agg [.int .i64 n])

theorem lineOf_bad (s : List UInt8) (hs : s.length ≤ 1000000) (n : Int) (hn : n < 0 ∨ ((linesL s).length : Int) ≤ n) : callO B0 .cl (.fn 29 []) [.str s, .int .i64 n] = some (.tup [.agg [.str [], .int .i64 0], errV 20]) := by
  refine call (d := fun _ => .cl) rfl (by decide) rfl rfl ?_
  rw [List.map_cons, List.map_cons, List.map_nil, run29, lines_run s hs]
  have hb1 : pureO (.build [.str [], .int .i64 0] []) = some (.agg [.str [], .int .i64 0]) := rfl
  have hb2 : pureO (.build [.int .i64 0] [(0, (1, .c (.int .i64 20)))]) = some (.agg [.int .i64 20]) := rfl
  have hc : okCells (.agg [.str [], .int .i64 0]) 2 = true := rfl
  have hcond : (decide (n < 0) || decide (((linesL s).length : Int) ≤ n)) = true := by simpa using hn
  by_cases h : n < 0
  · simp [h, hb1, hb2, hc, errV, cellP]
  · have h' : ((linesL s).length : Int) ≤ n := by omega
    simp [h, h', hb1, hb2, hc, errV, cellP, ints_len]

theorem lineOf_ok (s : List UInt8) (hs : s.length ≤ 1000000) (k j : Nat) (hk : (linesL s)[k]? = some j) : callO B0 .cl (.fn 29 []) [.str s, inat k] = some (.tup [.agg [.str (line1 (s.drop j)), inat j], .nilI]) := by
  refine call (d := fun _ => .cl) rfl (by decide) rfl rfl ?_
  unfold inat
  rw [List.map_cons, List.map_cons, List.map_nil, run29, lines_run s hs]
  have hlt := (List.getElem?_eq_some_iff.1 hk).1
  obtain ⟨j', h1, h2, _⟩ := linesL_at hlt
  rw [hk] at h1; cases h1
  obtain ⟨a, b, hcut⟩ := Cut_run (s.drop j) (by simp; omega)
  have hneg : ¬ (k : Int) < 0 := by omega
  have hge : ¬ (((linesL s).length : Int) ≤ (k : Int)) := by omega
  have hel : elemO (ints (linesL s)) k 0 1 false = some (.int .i64 (j : Int)) := by
    unfold elemO; rw [ints_get hk]; rfl
  have hb : pureO (.build [.str [], .int .i64 0] [(0, (1, .c (.str (line1 (s.drop j))))), (1, (1, .c (.int .i64 (j : Int))))]) = some (.agg [.str (line1 (s.drop j)), .int .i64 (j : Int)]) := rfl
  have hc : okCells (.agg [.str (line1 (s.drop j)), .int .i64 (j : Int)]) 2 = true := rfl
  simp only [bindO_val, pure_lss, hneg, decide_false, iteP_bool, Bool.false_eq_true, if_false, itemsP_sl, lenL_eq, ints_len, nI_eq, pure_geq, hge, natO_int, ltN_eq, hlt, decide_true, chkO_true, addN_eq, Nat.zero_add, hel]
  rw [pure_ssl1 h2]
  simp only [bindO_val, hcut, pure_tup, List.getElem?_cons_zero, List.getElem?_cons_succ, hb, hc, chkO_true]
  rfl

theorem told_err (n : Int) : callO B0 .cl (.fn 25 []) [errV n] = some (.int .i64 n) := by
  refine call (d := fun _ => .cl) rfl (by decide) rfl rfl ?_
  rw [List.map_cons, List.map_nil, run25]
  rfl
theorem told_nil : callO B0 .cl (.fn 25 []) [.nilI] = some (.int .i64 0) := by
  refine call (d := fun _ => .cl) rfl (by decide) rfl rfl ?_
  rw [List.map_cons, List.map_nil, run25]
  rfl

theorem Line_bad (s : List UInt8) (hs : s.length ≤ 1000000) (n : Int) (hn : n < 0 ∨ ((linesL s).length : Int) ≤ n) : callO B0 .cl (.fn 17 []) [.str s, .int .i64 n] = some (.tup [.str [], .int .i64 20]) := by
  refine call (d := fun _ => .cl) rfl (by decide) rfl rfl ?_
  rw [List.map_cons, List.map_cons, List.map_nil, run17, lineOf_bad s hs n hn]
  have hc : okCells (.agg [.str [], .int .i64 0]) 2 = true := rfl
  simp [told_err, hc, cellP]
theorem Line_ok (s : List UInt8) (hs : s.length ≤ 1000000) (k j : Nat) (hk : (linesL s)[k]? = some j) : callO B0 .cl (.fn 17 []) [.str s, inat k] = some (.tup [.str (line1 (s.drop j)), .int .i64 0]) := by
  refine call (d := fun _ => .cl) rfl (by decide) rfl rfl ?_
  have := lineOf_ok s hs k j hk
  rw [List.map_cons, List.map_cons, List.map_nil, run17, this]
  have hc : okCells (.agg [.str (line1 (s.drop j)), inat j]) 2 = true := rfl
  simp [told_nil, hc, cellP]

theorem refLine_bad (s : List UInt8) (hs : s.length ≤ 1000000) (n : Int) (hn : n < 0 ∨ ((linesL s).length : Int) ≤ n) : callO B0 .cl (.fn 18 []) [.str s, .int .i64 n] = some (.tup [.str [], .int .i64 20]) := by
  refine call (d := fun _ => .cl) rfl (by decide) rfl rfl ?_
  rw [List.map_cons, List.map_cons, List.map_nil, run18, reflines_run s hs]
  by_cases h : n < 0
  · simp [h]
  · have h' : ((linesL s).length : Int) ≤ n := by omega
    simp [h, h', ints_len]

theorem refLine_ok (s : List UInt8) (hs : s.length ≤ 1000000) (k j : Nat) (hk : (linesL s)[k]? = some j) : callO B0 .cl (.fn 18 []) [.str s, inat k] = some (.tup [.str (line1 (s.drop j)), .int .i64 0]) := by
  refine call (d := fun _ => .cl) rfl (by decide) rfl rfl ?_
  unfold inat
  rw [List.map_cons, List.map_cons, List.map_nil, run18, reflines_run s hs]
  have hlt := (List.getElem?_eq_some_iff.1 hk).1
  have hll := linesL_len s
  obtain ⟨j', h1, h2, _⟩ := linesL_at hlt
  rw [hk] at h1; cases h1
  have hneg : ¬ (k : Int) < 0 := by omega
  have hge : ¬ (((linesL s).length : Int) ≤ (k : Int)) := by omega
  have hel : elemO (ints (linesL s)) k 0 1 false = some (.int .i64 (j : Int)) := by
    unfold elemO; rw [ints_get hk]; rfl
  have hw : IntKind.i64.wrap ((k : Int) + 1) = ((k + 1 : Nat) : Int) := by rw [w64 (by omega) (by omega)]; omega
  have hnext := linesL_next hk
  simp only [bindO_val, pure_lss, hneg, decide_false, iteP_bool, Bool.false_eq_true, if_false, itemsP_sl, lenL_eq, ints_len, nI_eq, pure_geq, hge, pure_lens, pure_add, hw, natO_int, ltN_eq, addN_eq, Nat.zero_add, hel, hlt, decide_true, chkO_true]
  by_cases hm : 10 ∈ s.drop j
  · rw [if_pos hm] at hnext
    have hlt2 := (List.getElem?_eq_some_iff.1 hnext).1
    have hlt3 : (((k + 1 : Nat) : Int)) < ((linesL s).length : Int) := by omega
    have hel2 : elemO (ints (linesL s)) (k + 1) 0 1 false = some (.int .i64 ((j + (line1 (s.drop j)).length + 1 : Nat) : Int)) := by
      unfold elemO; rw [ints_get hnext]; rfl
    have hl1 := line1_le (s.drop j)
    simp only [List.length_drop] at hl1
    have hw2 : IntKind.i64.wrap (((j + (line1 (s.drop j)).length + 1 : Nat) : Int) - 1) = ((j + (line1 (s.drop j)).length : Nat) : Int) := by rw [w64 (by omega) (by omega)]; omega
    simp only [hlt3, decide_true, if_true, hlt2, chkO_true, hel2, bindO_val, pure_sub, hw2]
    rw [pure_ssl (by omega) (by omega)]
    simp only [bindO_val]
    have : (s.take (j + (line1 (s.drop j)).length)).drop j = line1 (s.drop j) := by
      rw [List.drop_take, show j + (line1 (s.drop j)).length - j = (line1 (s.drop j)).length by omega, line1_take]
    rw [this]
  · rw [if_neg hm] at hnext
    have hge2 := List.getElem?_eq_none_iff.1 hnext
    have hlt3 : ¬ (((k + 1 : Nat) : Int)) < ((linesL s).length : Int) := by omega
    simp only [hlt3, decide_false, Bool.false_eq_true, if_false]
    rw [pure_ssl (Nat.le_refl _) h2]
    simp only [bindO_val, List.take_length, line1_all hm]
end Go.Ab.Place

/-
  Place: the library's functions: utf8.DecodeRuneInString, internal/stringslite.IndexByte.
-/
namespace Go.Proofs
open Go.Shelf
def Tryd.lays197_ren : Go.Shelf.Ren := ⟨fun | 197 => 45 | 260 => 50 | n => n, fun | 9 => 9 | 21 => 21 | 3 => 3 | 4 => 4 | 5 => 5 | 105 => 88 | 119 => 107 | 0 => 0 | 46 => 106 | 139 => 110 | 138 => 109 | n => n, fun | 3 => 2 | 4 => 3 | n => n⟩
theorem Tryd.lays197 : Go.Proofs.Lays.n197 Tryd.prog Tryd.lays197_ren := {
  mixed := by kernel_rfl
  f197 := Tryd.func45.trans (congrArg some (by kernel_rfl))
  f260 := Tryd.func50.trans (congrArg some (by kernel_rfl))
  t0 := Tryd.underlying0
  a0 := Tryd.isAgg0
  z0 := Tryd.sizeOf0
  v0 := Tryd.zeroValue0
  t3 := Tryd.underlying3
  a3 := Tryd.isAgg3
  z3 := Tryd.sizeOf3
  v3 := Tryd.zeroValue3
  t4 := Tryd.underlying4
  a4 := Tryd.isAgg4
  z4 := Tryd.sizeOf4
  v4 := Tryd.zeroValue4
  t5 := Tryd.underlying5
  a5 := Tryd.isAgg5
  z5 := Tryd.sizeOf5
  v5 := Tryd.zeroValue5
  t9 := Tryd.underlying9
  a9 := Tryd.isAgg9
  z9 := Tryd.sizeOf9
  v9 := Tryd.zeroValue9
  t21 := Tryd.underlying21
  a21 := Tryd.isAgg21
  z21 := Tryd.sizeOf21
  v21 := Tryd.zeroValue21
  t46 := Tryd.underlying106
  a46 := Tryd.isAgg106
  z46 := Tryd.sizeOf106
  v46 := Tryd.zeroValue106
  t105 := Tryd.underlying88
  a105 := Tryd.isAgg88
  z105 := Tryd.sizeOf88
  v105 := Tryd.zeroValue88
  t119 := Tryd.underlying107
  a119 := Tryd.isAgg107
  z119 := Tryd.sizeOf107
  t138 := Tryd.underlying109
  a138 := Tryd.isAgg109
  z138 := Tryd.sizeOf109
  v138 := Tryd.zeroValue109
  t139 := Tryd.underlying110
  a139 := Tryd.isAgg110
  z139 := Tryd.sizeOf110
  v139 := Tryd.zeroValue110
  g3 := by kernel_rfl
  g4 := by kernel_rfl }

theorem Tryd.utf8_DecodeRuneInString (s : ByteArray) (w : World) (hT : Lib.Utf8Tabs 2 3 w) :
    Calls Tryd.prog 45 #[.string s] w fun e w' => e = .returned (.tuple #[.int .i32 (Lib.decodeGo s).1, .int .i64 (Lib.decodeGo s).2]) ∧ Go.RowKit.Below w.heap.size w w' := Any.utf8_DecodeRuneInString Tryd.lays197 s w hT

set_option maxHeartbeats 1000000 in
set_option maxRecDepth 100000 in
/-- internal/stringslite.IndexByte (what strings.IndexByte calls): IT RETURNS 'Lib.indexByte s c'; the world is as it was. -/
theorem Tryd.stringslite_IndexByte (s : ByteArray) (c : Int) (w : World) :
    Calls Tryd.prog 51 #[.string s, .int .u8 c] w fun e w' => e = .returned (.int .i64 (Lib.indexByte s.data.toList c.toNat.toUInt8)) ∧ w' = w := by
  go_enter Tryd.func51, Tryd.ntmps51
  go_wp2
  rw [run_callFunc_extern Tryd.func55 (by kernel_rfl) (by kernel_rfl) (by kernel_rfl) (e := Extern.BytealgIndexByte.indexByte) (by kernel_rfl), Lib.run_indexByteString]
  simp only [Result.andThen]
  rw [Oper.upon_value]
  go_wp2
  go_ret
  exact ⟨rfl, rfl⟩

end Go.Proofs

/-
  Place: errors.As at the target that the program has (a variable of the type of its own errors).
-/
namespace Go.Proofs.AbAs
open Go.RowKit Go.Extern.Stop Go.Stop Go.Extern

/-- errors.As(nil, target). -/
theorem as_nil (t : Value) (w : World) :
    Calls Tryd.prog 31 #[.nilIface, t] w fun e w' => e = .returned (.bool false) ∧ w' = w := by
  go_enter Tryd.func31, Tryd.ntmps31
  go_wp2
  go_ret
  exact ⟨rfl, rfl⟩

/-! ### CLOSED FACTS ON THE MODEL's ENTRIES FOR internal/reflectlite, at this program's types: 25: *p.E · 27: **p.E · 23: error · 45: reflectlite's rtype · 1: how many package-level variables the dump has -/
theorem Tryd.valueOf27 (t : Addr) (w : World) : (ReflectliteValue.unpack (.iface 69 (.pointer (some t)))).run Tryd.prog w
    = .ok (.agg #[.pointer (some ⟨4, 69, none⟩), .pointer (some ⟨w.heap.size, 0, none⟩), .int .u64 150]) (w.alloc (.cells #[.pointer (some t)] 69)) := by kernel_rfl
theorem Tryd.type27 (a : Addr) (w : World) : (ReflectliteValue.methodAny (ReflectliteValue.valueError "reflectlite.Value.Type" 0) (fun t _ _ _ => ReflectliteType.toType t) #[.agg #[.pointer (some ⟨4, 69, none⟩), .pointer (some a), .int .u64 150]]).run Tryd.prog w
    = .ok (.iface 91 (.agg #[.pointer (some ⟨4, 69, none⟩)])) w := by kernel_rfl
theorem Tryd.methodKind (h : Value) (w : World) : (Go.method 243 91 (.agg #[h]) "Kind").run Tryd.prog w = .ok (71, h) w := by kernel_rfl
theorem Tryd.kind27 (w : World) : ((ReflectliteType.abiMethod fun t => Functor.map (fun a : Nat => Value.int IntKind.u8 (a : Int)) (Rtype.kind t)) #[.pointer (some ⟨4, 69, none⟩)]).run Tryd.prog w = .ok (.int .u8 22) w := by kernel_rfl
theorem Tryd.kind25 (w : World) : ((ReflectliteType.abiMethod fun t => Functor.map (fun a : Nat => Value.int IntKind.u8 (a : Int)) (Rtype.kind t)) #[.pointer (some ⟨4, 51, none⟩)]).run Tryd.prog w = .ok (.int .u8 25) w := by kernel_rfl

/-! ### THE ENTRIES THAT READ OR WRITE MEMORY: laws with a premise on the cell (after Derived/Lib/ReflectliteSlice.lean's manner: each unfolding a lemma of its own, by rfl) -/
theorem rlm (z : Sem Value) (f : TypeId → Addr → Nat → Nat → Sem Value) (v : Value) :
    ReflectliteValue.method z f #[v] = (do match ← ReflectliteValue.parts v with | none => z | some (t, a, fl) => f t a fl (fl % 32)) := rfl
theorem Tryd.parts27 (a : Addr) (w : World) : (ReflectliteValue.parts (.agg #[.pointer (some ⟨4, 69, none⟩), .pointer (some a), .int .u64 150])).run Tryd.prog w = .ok (some (69, a, 150)) w := by kernel_rfl
/-- (Value).IsNil at the Value of a **p.E that is not nil. -/
theorem Tryd.isNil27 (a p : Addr) (W : World) (ha : W.cell? a = some (.pointer (some p))) :
    (ReflectliteValue.method (ReflectliteValue.valueError "reflectlite.Value.IsNil" 0) ReflectliteValue.isNil #[.agg #[.pointer (some ⟨4, 69, none⟩), .pointer (some a), .int .u64 150]]).run Tryd.prog W = .ok (.bool false) W := by
  rw [rlm]
  simp only [Sem.run_bind, Tryd.parts27, Result.andThen]
  simp [ReflectliteValue.isNil, loadVar, isAgg, underlying, Tryd.underlying69, ha, Result.andThen]

theorem Tryd.methodElem (h : Value) (w : World) : (Go.method 243 91 (.agg #[h]) "Elem").run Tryd.prog w = .ok (81, .agg #[h]) w := by kernel_rfl
theorem Tryd.methodImplements (h : Value) (w : World) : (Go.method 243 91 (.agg #[h]) "Implements").run Tryd.prog w = .ok (82, .agg #[h]) w := by kernel_rfl
theorem Tryd.methodAssignableTo (h : Value) (w : World) : (Go.method 243 91 (.agg #[h]) "AssignableTo").run Tryd.prog w = .ok (79, .agg #[h]) w := by kernel_rfl
theorem Tryd.elem27 (w : World) : (ReflectliteType.method ReflectliteType.elem #[.agg #[.pointer (some ⟨4, 69, none⟩)]]).run Tryd.prog w = .ok (.iface 91 (.agg #[.pointer (some ⟨4, 51, none⟩)])) w := by kernel_rfl
theorem Tryd.implements25 (w : World) : (ReflectliteType.relation "Implements" ReflectliteType.implements_ #[.agg #[.pointer (some ⟨4, 51, none⟩)], .iface 91 (.agg #[.pointer (some ⟨4, 43, none⟩)])]).run Tryd.prog w = .ok (.bool true) w := by kernel_rfl
theorem Tryd.typeOf25 (v : Value) (w : World) : (ReflectliteType.typeOf #[.iface 51 v]).run Tryd.prog w = .ok (.iface 91 (.agg #[.pointer (some ⟨4, 51, none⟩)])) w := by kernel_rfl
theorem Tryd.assignable25 (w : World) : (ReflectliteType.relation "AssignableTo" ReflectliteType.assignableTo #[.agg #[.pointer (some ⟨4, 51, none⟩)], .iface 91 (.agg #[.pointer (some ⟨4, 51, none⟩)])]).run Tryd.prog w = .ok (.bool true) w := by kernel_rfl
theorem Tryd.valueOf25 (e : Value) (w : World) : (ReflectliteValue.unpack (.iface 51 (.agg #[e]))).run Tryd.prog w
    = .ok (.agg #[.pointer (some ⟨4, 51, none⟩), .pointer (some ⟨w.heap.size, 0, none⟩), .int .u64 153]) (w.alloc (.cells #[e] 51)) := by kernel_rfl

theorem Tryd.elemOf27 (w : World) : (Rtype.elem? 69).run Tryd.prog w = .ok (some 51) w := by kernel_rfl
theorem Tryd.mk25 (p : Addr) (w : World) : (ReflectliteValue.mk 51 p ReflectliteValue.flagAddr).run Tryd.prog w = .ok (.agg #[.pointer (some ⟨4, 51, none⟩), .pointer (some p), .int .u64 409]) w := by kernel_rfl
/-- (Value).Elem at the Value of a **p.E that is not nil: the Value of the *p.E variable that it points to, addressable. -/
theorem Tryd.elemV27 (a p : Addr) (W : World) (ha : W.cell? a = some (.pointer (some p))) :
    (ReflectliteValue.method (ReflectliteValue.valueError "reflectlite.Value.Elem" 0) ReflectliteValue.elem #[.agg #[.pointer (some ⟨4, 69, none⟩), .pointer (some a), .int .u64 150]]).run Tryd.prog W
      = .ok (.agg #[.pointer (some ⟨4, 51, none⟩), .pointer (some p), .int .u64 409]) W := by
  rw [rlm]
  simp only [Sem.run_bind, Tryd.parts27, Result.andThen]
  simp [ReflectliteValue.elem, loadVar, isAgg, underlying, Tryd.underlying69, ha, Result.andThen, Tryd.elemOf27, Tryd.mk25]
theorem rls (v x : Value) : ReflectliteValue.set #[v, x] = (do
    let (some (dst, a, fl), some (src, b, _)) := (← ReflectliteValue.parts v, ← ReflectliteValue.parts x)
      | unsupported (.noEntry "extern/(internal/reflectlite.Value).Set.zeroValue")
    if fl / ReflectliteValue.flagAddr % 2 == 0 then unsupported (.noEntry "extern/(internal/reflectlite.Value).Set.unaddressable")
    let val ← loadVar src b
    if ← Rtype.directlyAssignable dst src then storeVar dst a val
    else if ← Rtype.implements dst src then
      if (← Rtype.kind src) == 20 then
        match val with
        | .nilIface => unsupported (.noEntry "extern/reflectlite: a nil value of one interface type handed on as a value of another")
        | _ => storeVar dst a val
      else storeVar dst a (.iface src val)
    else panicString ("reflectlite.Set: value of type " ++ (← Rtype.spelt src) ++ " is not assignable to type " ++ (← Rtype.spelt dst))
    pure (.tuple #[])) := rfl
theorem Tryd.parts25a (a : Addr) (w : World) : (ReflectliteValue.parts (.agg #[.pointer (some ⟨4, 51, none⟩), .pointer (some a), .int .u64 409])).run Tryd.prog w = .ok (some (51, a, 409)) w := by kernel_rfl
theorem Tryd.parts25 (a : Addr) (w : World) : (ReflectliteValue.parts (.agg #[.pointer (some ⟨4, 51, none⟩), .pointer (some a), .int .u64 153])).run Tryd.prog w = .ok (some (51, a, 153)) w := by kernel_rfl
theorem Tryd.direct25 (w : World) : (Rtype.directlyAssignable 51 51).run Tryd.prog w = .ok true w := by kernel_rfl
theorem Tryd.size25 (w : World) : (sizeOf 51).run Tryd.prog w = .ok 1 w := by kernel_rfl

end Go.Proofs.AbAs

/-
  Place: errors.As at the target that the program has: what it does.
-/
namespace Go.Proofs.AbAs
open Go.RowKit Go.Extern.Stop Go.Stop Go.Extern

/-- (Value).Set: the variable at 'ta' gets what the Value's own variable 'b' holds. -/
theorem Tryd.set25 (ta b : Addr) (e old : Value) (h1 : e.oneCell' = true) (W : World) (hb : W.cell? b = some e) (ht : W.cell? ta = some old) (hf : W.frozen? ta = false) :
    (ReflectliteValue.set #[.agg #[.pointer (some ⟨4, 51, none⟩), .pointer (some ta), .int .u64 409], .agg #[.pointer (some ⟨4, 51, none⟩), .pointer (some b), .int .u64 153]]).run Tryd.prog W
      = .ok (.tuple #[]) (W.setCell ta e) := by
  rw [rls]
  simp only [Sem.run_bind, Tryd.parts25a, Tryd.parts25, Result.andThen]
  simp [ReflectliteValue.flagAddr, loadVar, Tryd.isAgg51, loadCells, loadCellsFrom, hb, Result.andThen, Tryd.direct25, storeVar, Value.cells, storeCells, Addr.add]
  rw [run_store Tryd.prog W ta _ _ h1]
  simp [ht, hf]

theorem valueOf51g (v : Value) (w : World) : (ReflectliteValue.unpack (.iface 51 v)).run Tryd.prog w
    = .ok (.agg #[.pointer (some ⟨4, 51, none⟩), .pointer (some ⟨w.heap.size, 0, none⟩), .int .u64 153]) (w.alloc (.cells v.cells 51)) := by kernel_rfl
theorem valueOf51 (v n : Value) (hv : v.cells = #[n]) (w : World) : (ReflectliteValue.unpack (.iface 51 v)).run Tryd.prog w
    = .ok (.agg #[.pointer (some ⟨4, 51, none⟩), .pointer (some ⟨w.heap.size, 0, none⟩), .int .u64 153]) (w.alloc (.cells #[n] 51)) := by rw [valueOf51g, hv]

set_option maxHeartbeats 8000000 in
set_option maxRecDepth 100000 in
theorem as_hit (v n : Value) (hv : v.cells = #[n]) (h1 : n.oneCell' = true) (t : Addr) (old : Value) (w : World) (hg : w.cell? ⟨0, 0, none⟩ = some (.iface 91 (.agg #[.pointer (some ⟨4, 43, none⟩)]))) (ht0 : w.cell? t = some old) (hf0 : w.frozen? t = false) :
    Calls Tryd.prog 31 #[.iface 51 v, .iface 69 (.pointer (some t))] w fun ev w' => ev = .returned (.bool true) ∧ w' = ((((w.alloc (.cells #[.pointer (some t)] 69)).alloc (.cells #[.pointer (some ⟨4, 69, none⟩), .pointer (some ⟨w.heap.size, 0, none⟩), .int .u64 150] 79)).alloc (.cells #[.pointer (some ⟨4, 69, none⟩), .pointer (some ⟨w.heap.size, 0, none⟩), .int .u64 150] 79)).alloc (.cells #[n] 51)).setCell t n := by
  have h6 := @run_callFunc_extern Tryd.prog 40 _ (fun args => ReflectliteValue.unpack (args.getD 0 (.tuple #[]))) Tryd.func40 (by kernel_rfl) (by kernel_rfl) (by kernel_rfl) (by kernel_rfl)
  have h7 := @run_callFunc_extern Tryd.prog 41 _ (ReflectliteValue.methodAny (ReflectliteValue.valueError "reflectlite.Value.Type" 0) (fun t _ _ _ => ReflectliteType.toType t)) Tryd.func41 (by kernel_rfl) (by kernel_rfl) (by kernel_rfl) (by kernel_rfl)
  have h8 := @run_callFunc_extern Tryd.prog 42 _ (ReflectliteValue.method (ReflectliteValue.valueError "reflectlite.Value.IsNil" 0) ReflectliteValue.isNil) Tryd.func42 (by kernel_rfl) (by kernel_rfl) (by kernel_rfl) (by kernel_rfl)
  have h27 := @run_callFunc_extern Tryd.prog 71 _ (ReflectliteType.abiMethod fun t => do pure (.int .u8 (← Rtype.kind t))) Tryd.func71 (by kernel_rfl) (by kernel_rfl) (by kernel_rfl) (by kernel_rfl)
  have h37 := @run_callFunc_extern Tryd.prog 81 _ (ReflectliteType.method ReflectliteType.elem) Tryd.func81 (by kernel_rfl) (by kernel_rfl) (by kernel_rfl) (by kernel_rfl)
  have h38 := @run_callFunc_extern Tryd.prog 82 _ (ReflectliteType.relation "Implements" ReflectliteType.implements_) Tryd.func82 (by kernel_rfl) (by kernel_rfl) (by kernel_rfl) (by kernel_rfl)
  have h10 := @run_callFunc_extern Tryd.prog 46 _ ReflectliteType.typeOf Tryd.func46 (by kernel_rfl) (by kernel_rfl) (by kernel_rfl) (by kernel_rfl)
  have h35 := @run_callFunc_extern Tryd.prog 79 _ (ReflectliteType.relation "AssignableTo" ReflectliteType.assignableTo) Tryd.func79 (by kernel_rfl) (by kernel_rfl) (by kernel_rfl) (by kernel_rfl)
  have h11 := @run_callFunc_extern Tryd.prog 47 _ (ReflectliteValue.method (ReflectliteValue.valueError "reflectlite.Value.Elem" 0) ReflectliteValue.elem) Tryd.func47 (by kernel_rfl) (by kernel_rfl) (by kernel_rfl) (by kernel_rfl)
  have h12 := @run_callFunc_extern Tryd.prog 48 _ ReflectliteValue.set Tryd.func48 (by kernel_rfl) (by kernel_rfl) (by kernel_rfl) (by kernel_rfl)
  have tO := Tryd.typeOf25
  have mA := Tryd.methodAssignableTo
  have a25 := Tryd.assignable25
  have v25 := valueOf51 v n hv
  have f6 := Tryd.valueOf27
  have f7 := Tryd.type27
  have mK := Tryd.methodKind
  have mE := Tryd.methodElem
  have mI := Tryd.methodImplements
  have k27 := Tryd.kind27
  have k25 := Tryd.kind25
  have e27 := Tryd.elem27
  have i25 := Tryd.implements25
  have n8 := Tryd.isNil27 ⟨w.heap.size, 0, none⟩ t ((w.alloc (.cells #[.pointer (some t)] 69)).alloc (.cells #[.pointer (some ⟨4, 69, none⟩), .pointer (some ⟨w.heap.size, 0, none⟩), .int .u64 150] 79)) (by simp)
  have hlt : 0 < w.heap.size := by
    rcases Nat.eq_zero_or_pos w.heap.size with h0 | h
    · simp [World.cell?, h0] at hg
    · exact h
  have hg2 : ((w.alloc (.cells #[.pointer (some t)] 69)).alloc (.cells #[.pointer (some ⟨4, 69, none⟩), .pointer (some ⟨w.heap.size, 0, none⟩), .int .u64 150] 79)).cell? ⟨0, 0, none⟩ = some (.iface 91 (.agg #[.pointer (some ⟨4, 43, none⟩)])) := by
    rw [World.cell?_alloc_lt _ _ ⟨0, 0, none⟩ (by simp), World.cell?_alloc_lt _ _ ⟨0, 0, none⟩ hlt]; exact hg
  have htl : t.block < w.heap.size := by
    rcases Nat.lt_or_ge t.block w.heap.size with h | h
    · exact h
    · simp [World.cell?, Array.getElem?_eq_none h] at ht0
  have el := Tryd.elemV27 ⟨w.heap.size, 0, none⟩ t (((w.alloc (.cells #[.pointer (some t)] 69)).alloc (.cells #[.pointer (some ⟨4, 69, none⟩), .pointer (some ⟨w.heap.size, 0, none⟩), .int .u64 150] 79)).alloc (.cells #[.pointer (some ⟨4, 69, none⟩), .pointer (some ⟨w.heap.size, 0, none⟩), .int .u64 150] 79)) (by rw [World.cell?_alloc_lt _ _ ⟨w.heap.size, 0, none⟩ (by simp; omega)]; simp)
  have st := Tryd.set25 t ⟨w.heap.size + 1 + 1 + 1, 0, none⟩ n old h1 ((((w.alloc (.cells #[.pointer (some t)] 69)).alloc (.cells #[.pointer (some ⟨4, 69, none⟩), .pointer (some ⟨w.heap.size, 0, none⟩), .int .u64 150] 79)).alloc (.cells #[.pointer (some ⟨4, 69, none⟩), .pointer (some ⟨w.heap.size, 0, none⟩), .int .u64 150] 79)).alloc (.cells #[n] 51))
    (by rw [World.cell?_alloc_at _ _ _ _ (by simp)]; rfl)
    (by rw [World.cell?_alloc_lt _ _ t (by simp; omega), World.cell?_alloc_lt _ _ t (by simp; omega), World.cell?_alloc_lt _ _ t (by simp; omega), World.cell?_alloc_lt _ _ t htl]; exact ht0)
    (by rw [World.frozen?_alloc_old _ _ t (by simp; omega), World.frozen?_alloc_old _ _ t (by simp; omega), World.frozen?_alloc_old _ _ t (by simp; omega), World.frozen?_alloc_old _ _ t (Nat.ne_of_lt htl)]; exact hf0)
  go_enter Tryd.func31, Tryd.ntmps31
  go_wp2
  refine wp_loop_rounds 1 ?_
  rw [rounds_succ]
  go_wp2
  go_ret
  exact ⟨rfl, rfl⟩
end Go.Proofs.AbAs

/-
  Place: what is taken by contract is so.
-/
namespace Go.Ab.Place
open Go Go.Ab Go.Proofs

theorem sp_pure {cx : Cx} {E : Type} {w0 : World} {I0 F0 O0 : Nat → Prop} {Hd : Nat → Option Obj} {R : RelE E} {e : E} {ds : List Deferred} {I F : Nat → Prop} {lp : Nat → Option Nat} {L : Loc} {tmv suf : List Value} {st : St} {w w' : World} {dst : Option Nat}
    (hs : SR lp I L st tmv suf w) (hf : Fr cx w0 I0 F0 O0 Hd R e ds I F L w) (h : LawEnd w w') {u : PV} {v : Value} (hv : RepV w' I lp (some L) u v) :
    ∃ I' L', SR lp I' L' (apply st dst { v := u }) (putV tmv dst v) suf w' ∧ Fr cx w0 I0 F0 O0 Hd R e ds I' F L' w' := by
  have hx : Ext I F w I F w' := ⟨h.os, h.tape, h.output, h.size, fun b hb _ => h.same b hb, fun _ h => h, fun _ h => .inl h, fun _ h => .inl h⟩
  have hi : IF I F w' := ⟨fun b hb => Nat.lt_of_lt_of_le (hf.sep.iB b hb) h.size, fun b hb => ⟨Nat.lt_of_lt_of_le (hf.sep.fB b hb).1 h.size, (hf.sep.fB b hb).2⟩⟩
  have hw : cx.Wd I w' := cx.stab I I w w' hf.wd (fun _ h => h) (fun b hb => h.same b (hf.sep.iB b hb)) h.size
  have hr : R.rel e I F w' := R.stab e I I F w w' hf.re (fun _ h => h) (fun b hb => h.same b (hb.elim (hf.sep.iB b) fun h => (hf.sep.fB b h).1)) h.size
  refine ⟨I, L, ?_, hf.called hx hi hw hr⟩
  have h2 := hs.called hf hx
  cases dst with
  | none => exact h2
  | some d => exact h2.put d hv

theorem lawEnd_below {w w' : World} (h : Go.RowKit.Below w.heap.size w w') : LawEnd w w' := ⟨h.os, h.tape, h.output, h.size, h.block⟩
theorem lawEnd_refl (w : World) : LawEnd w w := ⟨rfl, rfl, rfl, Nat.le_refl _, fun _ _ => rfl⟩

/-- What the program's variables hold. -/
structure Vars (w : World) : Prop where
  et : w.cell? ⟨0, 0, none⟩ = some (.iface 91 (.agg #[.pointer (some ⟨4, 43, none⟩)]))
  tabs : Lib.Utf8Tabs 2 3 w

theorem cell_of_heap {w w' : World} {b : Nat} (h : w'.heap[b]? = w.heap[b]?) (o : Nat) : w'.cell? ⟨b, o, none⟩ = w.cell? ⟨b, o, none⟩ := by
  simp only [World.cell?, h]

noncomputable def cx0 : Cx where
  P := Tryd.prog
  mixed := by kernel_rfl
  G := fun _ => none
  Wd I w := (I 0 ∧ I 2 ∧ I 3) ∧ Vars w
  stab I I' w w' h h1 h2 _ := by
    obtain ⟨⟨a, b, c⟩, et, t1, t2⟩ := h
    refine ⟨⟨h1 0 a, h1 2 b, h1 3 c⟩, ?_, fun k hk => ?_, fun i hi => ?_⟩
    · rw [cell_of_heap (h2 0 a)]; exact et
    · rw [cell_of_heap (h2 2 b)]; exact t1 k hk
    · rw [cell_of_heap (h2 3 c), cell_of_heap (h2 3 c)]; exact t2 i hi
  gl I w g cs _ h := by cases h

theorem enters31 : Enters cx0.P 31 := ⟨_, Tryd.func31, by rfl, by rfl⟩
theorem enters45 : Enters cx0.P 45 := ⟨_, Tryd.func45, by rfl, by rfl⟩
theorem enters51 : Enters cx0.P 51 := ⟨_, Tryd.func51, by rfl, by rfl⟩

theorem repL1 {w : World} {I : Nat → Prop} {lp : Nat → Option Nat} {L : Option Loc} {a : PV} {us : List Value} (h : RepL w I lp L [a] us) : ∃ u, us = [u] ∧ RepV w I lp L a u := by
  obtain ⟨u, r, h1, rfl, h2⟩ : ∃ u r, RepV w I lp L a u ∧ us = u :: r ∧ RepL w I lp L [] r := by
    cases h; exact ⟨_, _, by assumption, rfl, by assumption⟩
  cases h2
  exact ⟨u, rfl, h1⟩
theorem repL2 {w : World} {I : Nat → Prop} {lp : Nat → Option Nat} {L : Option Loc} {a b : PV} {us : List Value} (h : RepL w I lp L [a, b] us) : ∃ u v, us = [u, v] ∧ RepV w I lp L a u ∧ RepV w I lp L b v := by
  obtain ⟨u, r, h1, rfl, h2⟩ : ∃ u r, RepV w I lp L a u ∧ us = u :: r ∧ RepL w I lp L [b] r := by
    cases h; exact ⟨_, _, by assumption, rfl, by assumption⟩
  obtain ⟨v, rfl, h3⟩ := repL1 h2
  exact ⟨u, v, rfl, h1, h3⟩

theorem setCell_same {W : World} {b : Nat} {old n : Value} {E' : TypeId} {fr : Nat × Nat} (h : W.heap[b]? = some (.cells #[old] E' fr)) : (W.setCell ⟨b, 0, none⟩ n).heap[b]? = some (.cells #[n] E' fr) := by
  simp [World.setCell, Array.getElem?_modify, h]

theorem size_setCell (W : World) (a : Addr) (n : Value) : (W.setCell a n).heap.size = W.heap.size := by simp [World.setCell]

theorem arr_one {c : Array Value} (h : c.size = 1) : ∃ n, c = #[n] := by
  refine ⟨c[0], ?_⟩
  apply Array.ext
  · simp [h]
  · intro i h1 h2
    have : i = 0 := by omega
    subst this; rfl

theorem sp_turn {cx : Cx} {E : Type} {w0 : World} {I0 F0 O0 : Nat → Prop} {Hd : Nat → Option Obj} {R : RelE E} {e : E} {ds : List Deferred} {I F : Nat → Prop} {lp : Nat → Option Nat} {L : Loc} {tmv suf : List Value} {st : St} {w w' : World} {dst : Option Nat}
    (hs : SR lp I L st tmv suf w) (hf : Fr cx w0 I0 F0 O0 Hd R e ds I F L w) {nm : Nm} {b C : Nat} (hL : L nm = some (some (b, C))) {o1 o2 o3 o4 : Obj} {n old : Value} (hw' : w' = ((((w.alloc o1).alloc o2).alloc o3).alloc o4).setCell ⟨b, 0, none⟩ n)
    (hbl : b < w.heap.size) {E' : TypeId} (hb : w.heap[b]? = some (.cells #[old] E' (0, 0))) {cs : List PV} (hcs : RepL w I lp (some L) cs [n]) (h1 : n.oneCell' = true) (hC : (#[old] : Array Value).size = C) :
    ∃ I' L', SR lp I' L' (apply st dst { v := .bool true, upd := some (nm, .cells cs) }) (putV tmv dst (.bool true)) suf w' ∧ Fr cx w0 I0 F0 O0 Hd R e ds I' F L' w' := by
  have hsz : w.heap.size ≤ w'.heap.size := by
    subst hw'
    rw [size_setCell]
    simp; omega
  have hother : ∀ k, k < w.heap.size → k ≠ b → w'.heap[k]? = w.heap[k]? := fun k hk hkb => by
    subst hw'
    rw [Go.RowKit.Below.heap_setCell _ _ _ _ hkb, heap_alloc_lt _ _ (by simp; omega), heap_alloc_lt _ _ (by simp; omega), heap_alloc_lt _ _ (by simp; omega), heap_alloc_lt _ _ hk]
  have hself : w'.heap[b]? = some (.cells #[n] E' (0, 0)) := by
    subst hw'
    refine setCell_same (old := old) ?_
    rw [heap_alloc_lt _ _ (by simp; omega), heap_alloc_lt _ _ (by simp; omega), heap_alloc_lt _ _ (by simp; omega), heap_alloc_lt _ _ hbl]
    exact hb
  have hI : ∀ k, I k → w'.heap[k]? = w.heap[k]? := fun k hk => hother k (hf.sep.iB k hk) fun e => (hf.lB nm b C hL).2.2.1 (e ▸ hk)
  have hfr : Fr cx w0 I0 F0 O0 Hd R e ds I F L w' := hf.own (by subst hw'; rfl) (by subst hw'; rfl) (by subst hw'; rfl) hsz
    (fun k hk hno => hother k hk fun e => hno nm C (e ▸ hL)) (fun _ h => h) (fun _ h => .inl h)
    (fun nm' b' C' h => ⟨Nat.lt_of_lt_of_le (hf.lB nm' b' C' h).2.1 hsz, (hf.lB nm' b' C' h).2.2.1, .inr ⟨nm', C', h⟩⟩) hf.inj
  have hsr : SR lp I L { st with objs := putOb st.objs nm (.cells cs) } tmv suf w' := hs.upd hL hI
    (fun m b' C' hm h => hother b' (hf.lB m b' C' h).2.1 fun e => hm (hf.inj m nm b' C' C h (e ▸ hL)))
    ⟨#[n], E', hself, hC, fun v hv => by simp at hv; subst hv; exact h1, RepL.mono (fun _ h => h) hI (fun _ _ h => h) hcs⟩
  refine ⟨I, L, ?_, hfr⟩
  cases dst with
  | none => exact hsr
  | some d => exact hsr.put d (.bool true)

theorem sp_ok : SpOK cx0 sp0 := by
  intro g st vs out h
  unfold sp0 at h
  split at h
  · rename_i hg
    subst hg
    split at h
    · split at h
      · rename_i hp
        obtain ⟨rfl, rfl⟩ := hp
        cases h
        refine ⟨enters31, ?_⟩
        intro E w0 I0 F0 O0 Hd R e ds I F lp L tmv suf us w dst hs hf hu hd
        obtain ⟨u, v, rfl, h1, h2⟩ := repL2 hu
        rw [inv_nilI h1]
        refine callsIn_wide.2 ((Go.Proofs.AbAs.as_nil v w).mono ?_)
        rintro ev w' ⟨rfl, rfl⟩
        exact sp_pure hs hf (lawEnd_refl _) (.bool false)
      · cases h
    · split at h
      · rename_i t x p nm o _ cs hlk
        split at h
        · rename_i hp
          obtain ⟨rfl, rfl, rfl, hc1, hx1⟩ := hp
          cases h
          refine ⟨enters31, ?_⟩
          intro E w0 I0 F0 O0 Hd R e ds I F lp L tmv suf us w dst hs hf hu hd
          obtain ⟨u, v, rfl, h1, h2⟩ := repL2 hu
          obtain ⟨u', rfl, hx⟩ := inv_iface h1
          obtain ⟨v', rfl, hr⟩ := inv_iface h2
          obtain ⟨b, C, hL, rfl⟩ := inv_ref hr
          obtain ⟨q, hq, hob⟩ := hs.ob nm _ hlk
          rw [hL] at hq; cases hq
          obtain ⟨c, E', hb, hC, hone, hcs⟩ := hob
          unfold okCells at hx1
          simp only [Bool.and_eq_true, beq_iff_eq] at hx1
          obtain ⟨hu1, hu2⟩ := hx.cells hx1.1
          have len1 : u'.cells.size = 1 := by
            have := hu2.length
            simpa [hx1.2] using this.symm
          have lenc : c.size = 1 := by
            have := hcs.length
            simpa [hc1] using this.symm
          obtain ⟨n, hn⟩ : ∃ n, u'.cells = #[n] := arr_one len1
          obtain ⟨old, rfl⟩ : ∃ n, c = #[n] := arr_one lenc
          have hn1 : n.oneCell' = true := hu1 n (by simp [hn])
          have hbl : b < w.heap.size := (hf.lB nm b C hL).2.1
          refine callsIn_wide.2 ((Go.Proofs.AbAs.as_hit u' n hn hn1 ⟨b, 0, none⟩ old w hf.wd.2.et (by simp [World.cell?, hb]) (by simp [World.frozen?, hb])).mono ?_)
          rintro ev w' ⟨rfl, hw'⟩
          exact sp_turn hs hf hL hw' hbl hb (by rw [hn] at hu2; exact hu2) hn1 hC
        · cases h
      · cases h
    · cases h
  · split at h
    · rename_i hg
      subst hg
      split at h
      · cases h
        refine ⟨enters45, ?_⟩
        intro E w0 I0 F0 O0 Hd R e ds I F lp L tmv suf us w dst hs hf hu hd
        obtain ⟨u, rfl, h1⟩ := repL1 hu
        rw [inv_str h1]
        refine callsIn_wide.2 ((Tryd.utf8_DecodeRuneInString _ w hf.wd.2.tabs).mono ?_)
        rintro ev w' ⟨rfl, hb⟩
        exact sp_pure hs hf (lawEnd_below hb) (.tup _ _ (RepL.cons _ _ _ _ (.int _ _) (RepL.cons _ _ _ _ (.int _ _) RepL.nil)))
      · cases h
    · split at h
      · rename_i hg
        subst hg
        split at h
        · split at h
          · rename_i hc
            cases h
            refine ⟨enters51, ?_⟩
            intro E w0 I0 F0 O0 Hd R e ds I F lp L tmv suf us w dst hs hf hu hd
            obtain ⟨u, v, rfl, h1, h2⟩ := repL2 hu
            rw [inv_str h1, inv_int h2]
            refine callsIn_wide.2 ((Tryd.stringslite_IndexByte _ _ w).mono ?_)
            rintro ev w' ⟨rfl, rfl⟩
            exact sp_pure hs hf (lawEnd_refl _) (.int _ _)
          · cases h
        · cases h
      · cases h
end Go.Ab.Place

/-
  Place: what is taken by contract asks of no object but those that it is handed.
-/
namespace Go.Ab.Place
open Go Go.Ab Go.Proofs

theorem sp_loc : SpLocal sp0 := by
  intro g σ σ' vs h
  unfold sp0
  split
  · split
    · rfl
    · rename_i t x p nm o
      have hm : nm ∈ reach σ deepest (namesL [.iface t x, .iface p (.ref nm o)]) := reach_mem _ _ nm (by simp [namesL, PV.names])
      rw [h nm hm]
    · rfl
  · rfl

/-- A law's call. -/
theorem law_done {g : FuncId} {fn : RFn} (ht : tab0 g = some fn) {dd : FuncId → Dead} (htab : ∀ f fn, tab0 f = some fn → compF cx0.P cx0.G (dd f) f = some fn) {args : List PV} (ha : okVL args = true) (hl : args.length ≤ fn.nt)
    (hr : runK (cfg0 B0 fun _ => .cl) fn .cl noHandler 0 (args.map KV.cv) () = some (.bool true, ())) {I : Nat → Prop} {w : World} {vs : List Value}
    (hI : ∀ b, I b → b < w.heap.size) (hw : cx0.Wd I w) (hrep : RepL w I (fun _ => none) none args vs) :
    Calls cx0.P g vs.toArray w fun e w' => e = .returned (.bool true) ∧ LawEnd w w' := by
  obtain ⟨n, hn⟩ := law_of_run (cfg_ok fun _ => .cl) ht ha hl hr
  exact law_calls (fn_ok sp_ok sp_loc htab n) hn hI hw hrep
end Go.Ab.Place
