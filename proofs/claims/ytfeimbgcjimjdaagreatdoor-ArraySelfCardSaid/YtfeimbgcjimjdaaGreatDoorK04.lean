/-
  Part 4 of a proof: a machine of our own for the given program, its laws, and what it says of the program. Nothing here is a claim by itself.
-/
import Derived.Test.YtfeimbgcjimjdaaGreatDoorK03
import Derived.Test.YtfeimbgcjimjdaaGreatDoorProg
import Derived.Test.YtfeimbgcjimjdaaGreatDoorK01
import Derived.KernelRfl
set_option linter.all false

/-
  Operations: 'execK' tells what 'exec' tells.
-/
namespace Go.Ab

theorem bindO_some {α β : Type} {x : Option α} {f : α → Option β} {r : β} (h : bindO x f = some r) : ∃ a, x = some a ∧ f a = some r := by
  cases x with
  | none => cases h
  | some a => exact ⟨a, rfl, h⟩
theorem chkO_some {β : Type} {b : Bool} {a : Option β} {r : β} (h : chkO b a = some r) : b = true ∧ a = some r := by
  cases b with
  | false => cases h
  | true => exact ⟨rfl, h⟩
theorem iteB_some {β : Type} {b : Bool} {x y : Option β} {r : β} (h : iteB b x y = some r) : (b = true ∧ x = some r) ∨ (b = false ∧ y = some r) := by
  cases b with
  | false => exact .inr ⟨rfl, h⟩
  | true => exact .inl ⟨rfl, h⟩
theorem iteP_some {β : Type} {v : PV} {x y : Option β} {r : β} (h : iteP v x y = some r) : (v = .bool true ∧ x = some r) ∨ (v = .bool false ∧ y = some r) := by
  unfold iteP at h
  split at h
  · exact .inl ⟨rfl, h⟩
  · exact .inr ⟨rfl, h⟩
  · cases h
theorem leN_iff {a b : Nat} : leN a b = true ↔ a ≤ b := by unfold leN; rw [Nat.ble_eq]
theorem ltN_iff {a b : Nat} : ltN a b = true ↔ a < b := by unfold ltN; rw [Nat.blt_eq]
theorem eqN_iff {a b : Nat} : eqN a b = true ↔ a = b := by unfold eqN; rw [Nat.beq_eq]

/-- What is told of an operation. -/
def Tells {R : Type} (K : KOut → Option R) (r : R) (x : Option Out) : Prop := ∃ out : KOut, K out = some r ∧ out.Ok ∧ x = some out.out

theorem KOut.plain {v : KV} (h : v.ok) : KOut.Ok { v } := ⟨h, by simp, by simp, by simp⟩
theorem KOut.one {v : KV} {o : KOb} (h : v.ok) (ho : o.ok) : KOut.Ok { v, new := [o] } := ⟨h, by simpa using ho, by simp, by simp⟩
theorem KOut.turn {v : KV} {nm : Nm} {o : KOb} (h : v.ok) (ho : o.ok) : KOut.Ok { v, upd := some (nm, o) } := ⟨h, by simp, fun _ _ e => (by cases e; exact ho), by simp⟩

variable {ks : KSt} {d : Nat} {R : Type} {K : KOut → Option R} {r : R}

theorem ops_ok (h : ks.Ok) {xs : List RX} (hx : xs.all okX = true) {x : RX} (hm : x ∈ xs) : (x.kv ks.tmps).ok := kv_ok h (List.all_eq_true.1 hx x hm)

theorem cl_ev (h : ks.Ok) {x : RX} {v : PV} (hv : (x.kv ks.tmps).cl = some v) : x.ev ks.st.tmps = v := by rw [st_ev h, KV.cl_pv hv]

theorem gO_ok (h : ks.Ok) {op : ROp} (hx : op.xs.all okX = true) (hk : gO ks.tmps op K = some r) : Tells K r (exec d (look ks.st.objs) ks.st.tmps op) := by
  unfold gO at hk
  split at hk
  · rename_i hc
    simp only [Bool.and_eq_true] at hc
    obtain ⟨⟨hg, hop⟩, hcl⟩ := hc
    obtain ⟨z, hz, hk⟩ := bindO_some hk
    have hall : ∀ x ∈ op.xs, ∃ v, (x.kv ks.tmps).cl = some v := fun x hm => Option.isSome_iff_exists.1 (List.all_eq_true.1 hcl x hm)
    have hev : ∀ x ∈ op.xs, okV (x.ev ks.st.tmps) = true := fun x hm => by
      obtain ⟨v, hv⟩ := hall x hm
      rw [cl_ev h hv]; exact KV.cl_ok (ops_ok h hx hm) hv
    have hmap : op.mapX (instX ks.tmps) = op.mapX (fun x => .c (x.ev ks.st.tmps)) := mapX_congr op hg fun x hm => by
      obtain ⟨v, hv⟩ := hall x hm
      unfold instX; rw [hv, cl_ev h hv]; rfl
    unfold pureO at hz
    rw [hmap, exec_inst _ _ _ _ hg] at hz
    split at hz
    · rename_i out ho
      cases hz
      have hp := exec_plain hg hev (fun z ps e => by subst e; exact hop) (fun c z ok x k e => by subst e; exact hop) (fun t z ok x e => by subst e; exact hop) ho
      refine ⟨{ v := .cv out.v }, hk, KOut.plain hp.ok, ?_⟩
      rw [exec_g_local hg hev, ho, hp.eq]
      rfl
    · cases hz
  · cases hk

theorem pv_cells_agg (cs : List KV) : (KV.agg cs).pv.cells = pvL cs := rfl

theorem cellsK_ok {n : Nat} {x : KV} (hx : x.ok) {K : List KV → Option R} (hk : cellsK n x K = some r) : ∃ cs, K cs = some r ∧ okKL cs ∧ pvL cs = x.pv.cells ∧ cs.length = n ∧ x.pv.isVal = true := by
  unfold cellsK at hk
  split at hk
  · split at hk
    · rename_i hn; exact ⟨_, hk, hx, rfl, hn, rfl⟩
    · cases hk
  · rename_i v
    obtain ⟨h1, h2⟩ := chkO_some hk
    unfold okCells at h1
    simp only [Bool.and_eq_true, beq_iff_eq] at h1
    refine ⟨_, h2, ?_, ?_, by simp, h1.1⟩
    · refine okKL_mem.2 fun y hy => ?_
      obtain ⟨i, hi, rfl⟩ := List.mem_map.1 hy
      have hv : okV v = true := hx
      show okV (cellP v i) = true
      unfold cellP
      rw [List.getD_eq_getElem?_getD]
      cases hg : v.cells[i]? with
      | none => rfl
      | some c => exact okVL_get (okV_cells hv) hg
    · rw [pvL_map, List.map_map]
      show _ = v.cells
      apply List.ext_getElem?
      intro i
      rw [List.getElem?_map]
      by_cases hi : i < n
      · rw [List.getElem?_range hi]
        show some (cellP v i) = _
        unfold cellP
        rw [List.getD_eq_getElem?_getD]
        have : i < v.cells.length := by omega
        simp [List.getElem?_eq_getElem this]
      · rw [List.getElem?_eq_none (by simpa using hi), List.getElem?_eq_none (by omega)]; rfl
  · cases hk
  · cases hk
  · cases hk
  · rename_i h1 h2 h3 h4 h5
    split at hk
    · rename_i hn
      refine ⟨_, hk, ⟨hx, trivial⟩, ?_, by simp [hn], ?_⟩
      · simp only [pvL]
        cases x <;> simp_all [KV.pv, PV.cells]
      · cases x <;> simp_all [KV.pv, PV.isVal]
    · cases hk

theorem okKL_take {l : List KV} (h : okKL l) (n : Nat) : okKL (l.take n) := okKL_mem.2 fun x hx => okKL_mem.1 h x (List.mem_of_mem_take hx)
theorem okKL_drop {l : List KV} (h : okKL l) (n : Nat) : okKL (l.drop n) := okKL_mem.2 fun x hx => okKL_mem.1 h x (List.mem_of_mem_drop hx)
theorem okKL_append {l m : List KV} (h : okKL l) (h' : okKL m) : okKL (l ++ m) := okKL_mem.2 fun x hx => (List.mem_append.1 hx).elim (okKL_mem.1 h x) (okKL_mem.1 h' x)
theorem pvL_take (l : List KV) (n : Nat) : pvL (l.take n) = (pvL l).take n := by rw [pvL_map, pvL_map, List.map_take]
theorem pvL_drop (l : List KV) (n : Nat) : pvL (l.drop n) = (pvL l).drop n := by rw [pvL_map, pvL_map, List.map_drop]
theorem pvL_append (l m : List KV) : pvL (l ++ m) = pvL l ++ pvL m := by rw [pvL_map, pvL_map, pvL_map, List.map_append]
theorem pvL_length (l : List KV) : (pvL l).length = l.length := by rw [pvL_map, List.length_map]
theorem pvL_get? (l : List KV) (i : Nat) : (pvL l)[i]? = (l[i]?).map KV.pv := by rw [pvL_map, List.getElem?_map]

theorem kfill_ok (h : ks.Ok) : ∀ (ps : List (Nat × Nat × RX)) {z : List KV} {K : List KV → Option R}, (∀ x ∈ ps.map (·.2.2), okX x = true) → okKL z → kfill ks.tmps z ps K = some r → ∃ cs, K cs = some r ∧ okKL cs ∧ fillPV ks.st.tmps (pvL z) ps = some (pvL cs) := by
  intro ps
  induction ps with
  | nil => intro z K _ hz hk; exact ⟨z, hk, hz, rfl⟩
  | cons p ps ih =>
    obtain ⟨off, n, x⟩ := p
    intro z K hx hz hk
    simp only [kfill] at hk
    obtain ⟨cs, hk, hcs, hpv, hlen, hval⟩ := cellsK_ok (kv_ok h (hx x (by simp))) hk
    split at hk
    · rename_i hle
      obtain ⟨cs', h1, h2, h3⟩ := ih (fun y hy => hx y (by simp only [List.map_cons, List.mem_cons]; exact .inr hy)) (okKL_append (okKL_append (okKL_take hz _) hcs) (okKL_drop hz _)) hk
      refine ⟨cs', h1, h2, ?_⟩
      have hl2 : (pvL cs).length = n := by rw [pvL_length, hlen]
      have hval' : (x.ev ks.st.tmps).isVal = true := by rw [st_ev h]; exact hval
      have hcl' : (x.ev ks.st.tmps).cells = pvL cs := by rw [st_ev h]; exact hpv.symm
      simp only [fillPV]
      rw [hcl']
      unfold chk splice
      simp only [hval', hl2, pvL_length, decide_true, Bool.and_self, Bool.true_and, hle, if_true]
      rw [pvL_append, pvL_append, pvL_take, pvL_drop] at h3
      exact h3
    · cases hk

theorem elemsK_ok (h : ks.Ok) {k : Nat} {x : KV} (hx : x.ok) {K : List PV → Option R} (hk : elemsK (klook ks.objs) k x K = some r) : ∃ ys, K ys = some r ∧ okVL ys = true ∧ elems (look ks.st.objs) k x.pv = some ys := by
  unfold elemsK at hk
  split at hk
  · rename_i nm k' o n
    split at hk
    · rename_i k'' kt xs hl
      split at hk
      · rename_i hkk
        obtain ⟨h1, h2⟩ := chkO_some hk
        rw [leN_iff] at h1
        have hok : okVL xs = true := klook_ok h.ob hl
        refine ⟨_, h2, okVL_take (okVL_drop hok _) _, ?_⟩
        have hl' : look ks.st.objs nm = some (.arr k'' kt xs) := by rw [st_look h, hl]; rfl
        unfold addN lenL at h1
        simp [KV.pv, elems, hl', chk, hkk.1, hkk.2, h1, takeL, dropL]
      · cases hk
    · cases hk
  · split at hk
    · rename_i v hv
      obtain ⟨ys, h1, h2⟩ := bindO_some hk
      have hok := KV.cl_ok hx hv
      have hpv := KV.cl_pv hv
      unfold elemsO at h1
      have h3 : elems (look ks.st.objs) k v = some ys := by
        rw [← h1]
        exact elems_congr (by rw [(okV_iff hok).1]; simp)
      refine ⟨ys, h2, ?_, by rw [hpv]; exact h3⟩
      cases v with
      | sl k' xs f => simp only [elems] at h1; obtain ⟨_, h1⟩ := chk_inv h1; cases h1; simpa [okV] using hok
      | nilS => cases h1; rfl
      | str s => simp only [elems] at h1; obtain ⟨_, h1⟩ := chk_inv h1; cases h1; exact okV_bytes _
      | arr nm k' o n => simp [okV] at hok
      | _ => simp [elems] at h1
    · cases hk


theorem dst_names {xs : List KV} (hx : okKL xs) : (namesL (pvL xs)).isEmpty = (knamesL xs).isEmpty := by rw [pvL_names hx]

theorem kreach_eq {σ : Nm → Option KOb} (hσ : ∀ nm o, σ nm = some o → o.ok) : ∀ (d : Nat) (l : List Nm), kreach σ d l = reach (fun nm => (σ nm).map KOb.ob) d l := by
  intro d
  induction d with
  | zero => intro l; rfl
  | succ d ih =>
    intro l
    simp only [kreach, reach]
    have e : (l.flatMap fun nm => ((σ nm).map KOb.names).getD []) = l.flatMap fun nm => (((σ nm).map KOb.ob).map Ob.names).getD [] := by
      congr 1
      funext nm
      cases ho : σ nm with
      | none => rfl
      | some o => simp [KOb.ob_names (hσ _ _ ho)]
    rw [ih, e]

theorem names_eq {σ : Nm → Option KOb} (hσ : ∀ nm o, σ nm = some o → o.ok) (nm : Nm) : ((σ nm).map KOb.names).getD [] = (((σ nm).map KOb.ob).map Ob.names).getD [] := by
  cases ho : σ nm with
  | none => rfl
  | some o => simp [KOb.ob_names (hσ _ _ ho)]

theorem kshut_eq {σ : Nm → Option KOb} (hσ : ∀ nm o, σ nm = some o → o.ok) (R : List Nm) : kshut σ R = shutR (fun nm => (σ nm).map KOb.ob) R := by
  unfold kshut shutR
  congr 1
  funext nm
  simp only
  rw [names_eq hσ]

theorem closeL_st (h : ks.Ok) {xs : List KV} (hx : okKL xs) : closeL (kclosed (klook ks.objs) deepest) xs = subL (closed (look ks.st.objs)) (pvL xs) := by
  rw [closeL_pv _ hx]
  congr 1
  funext nm
  exact kclosed_st h nm

theorem map_ev (h : ks.Ok) (ps : List RX) : ps.map (RX.ev ks.st.tmps) = pvL (ps.map (RX.kv ks.tmps)) := by
  rw [pvL_map, List.map_map]
  exact List.map_congr_left fun x _ => st_ev h x

theorem map_ok (h : ks.Ok) {ps : List RX} (hx : ps.all okX = true) : okKL (ps.map (RX.kv ks.tmps)) := okKL_mem.2 fun v hv => by
  obtain ⟨x, hm, rfl⟩ := List.mem_map.1 hv
  exact ops_ok h hx hm

theorem okVL_replicate {z : PV} (hz : okV z = true) (n : Nat) : okVL (List.replicate n z) = true := okVL_iff.2 fun x hx => by rw [(List.mem_replicate.1 hx).2]; exact hz

theorem okKL_cst {z : List PV} (hz : okVL z = true) : okKL (z.map cstK) := okKL_mem.2 fun v hv => by
  obtain ⟨x, hm, rfl⟩ := List.mem_map.1 hv
  exact cstK_ok (okVL_iff.1 hz x hm)
theorem pvL_cst (z : List PV) : pvL (z.map cstK) = z := by
  rw [pvL_map, List.map_map]
  have : KV.pv ∘ cstK = id := funext fun v => cstK_pv v
  rw [this, List.map_id]

theorem okVL_setE {k v : PV} : ∀ {es es' : List PV}, setE k v es = some es' → okVL es = true → okV k = true → okV v = true → okVL es' = true
  | [], es', h, _, hk, hv => by simp [setE] at h; subst h; simp [okVL, hk, hv]
  | [_], es', h, _, _, _ => by simp [setE] at h
  | a :: u :: es, es', h, he, hk, hv => by
    simp only [okVL, Bool.and_eq_true] at he
    simp only [setE] at h
    split at h
    · cases h; simp [okVL, hk, hv, he.2.2]
    · obtain ⟨l, hl, rfl⟩ := Option.map_eq_some_iff.1 h
      simp [okVL, he.1, he.2.1, okVL_setE hl he.2.2 hk hv]
    · cases h

end Go.Ab

/-
  'execK' tells what 'exec' tells.
-/
namespace Go.Ab
variable {ks : KSt} {d : Nat} {R : Type} {K : KOut → Option R} {r : R}

theorem cells_agg (cs : List PV) : (PV.agg cs).cells = cs := rfl

theorem execK_ok (h : ks.Ok) (hq : kquiet ks.objs = true) {op : ROp} (hx : op.xs.all okX = true) (hk : execK d (klook ks.objs) ks.tmps op K = some r) : Tells K r (exec d (look ks.st.objs) ks.st.tmps op) := by
  have ev := st_ev h
  have lk := st_look h
  have hkv : ∀ {x : RX}, x ∈ op.xs → (x.kv ks.tmps).ok := fun hm => ops_ok h hx hm
  cases op with
  | mov x =>
    refine ⟨_, hk, KOut.plain (hkv (by simp [ROp.xs])), ?_⟩
    simp [exec, KOut.out, ev]
  | pick c a b =>
    have ha := hkv (x := a) (by simp [ROp.xs])
    have hb := hkv (x := b) (by simp [ROp.xs])
    simp only [execK] at hk
    split at hk
    · rename_i hc
      exact ⟨_, hk, KOut.plain ha, by simp [exec, KOut.out, ev, hc, KV.pv]⟩
    · rename_i hc
      exact ⟨_, hk, KOut.plain hb, by simp [exec, KOut.out, ev, hc, KV.pv]⟩
    · rename_i v hc
      rcases iteP_some hk with ⟨rfl, hk⟩ | ⟨rfl, hk⟩
      · exact ⟨_, hk, KOut.plain ha, by simp [exec, KOut.out, ev, hc, KV.pv]⟩
      · exact ⟨_, hk, KOut.plain hb, by simp [exec, KOut.out, ev, hc, KV.pv]⟩
    · cases hk
  | box x =>
    have ha := hkv (x := x) (by simp [ROp.xs])
    simp only [execK] at hk
    split at hk
    · rename_i v hv
      obtain ⟨h1, hk⟩ := chkO_some hk
      rw [hv] at ha
      unfold valO at h1
      exact ⟨_, hk, KOut.one (o := .whole 0 v) trivial ha, by simp [exec, KOut.out, ev, hv, KV.pv, chk, h1, KOb.ob, cellsP]⟩
    · rename_i cs hv
      rw [hv] at ha
      exact ⟨_, hk, KOut.one (o := .cells 0 cs) trivial ha, by simp [exec, KOut.out, ev, hv, KV.pv, chk, PV.isVal, KOb.ob, PV.cells]⟩
    · cases hk
    · cases hk
    · cases hk
    · refine ⟨_, hk, KOut.one (v := .ref (d, 0) 0) (o := .cells 0 [x.kv ks.tmps]) trivial ⟨ha, trivial⟩, ?_⟩
      simp only [exec, KOut.out, ev]
      cases hy : x.kv ks.tmps <;> simp_all [KV.pv, chk, PV.isVal, KOb.ob, PV.cells, pvL]
  | alloc ty z =>
    simp only [execK] at hk
    split at hk
    · rename_i hz
      exact ⟨_, hk, KOut.one (o := .cells _ (z.map cstK)) trivial (okKL_cst hz), by simp [exec, KOut.out, KV.pv, KOb.ob, pvL_cst]⟩
    · cases hk
  | build z ps =>
    simp only [execK] at hk
    split at hk
    · exact gO_ok h hx hk
    · split at hk
      · rename_i hz
        obtain ⟨cs, h1, h2, h3⟩ := kfill_ok h ps (fun x hm => List.all_eq_true.1 hx x hm) (okKL_cst hz) hk
        rw [pvL_cst] at h3
        exact ⟨_, h1, KOut.plain (v := .agg cs) h2, by simp [exec, KOut.out, h3, KV.pv]⟩
      · cases hk
  | mkSl k ps =>
    have hok := map_ok h (ps := ps) hx
    simp only [execK] at hk
    split at hk
    · rename_i vs hv
      obtain ⟨h1, hk⟩ := chkO_some hk
      have hpv := clL_pv hv
      refine ⟨_, hk, KOut.one (o := .arr k 0 vs) trivial (clL_ok hok hv), ?_⟩
      have hn : (namesL vs).isEmpty = true := by rw [(okVL_names (clL_ok hok hv)).1]; rfl
      unfold okSls at h1
      simp only [exec, map_ev h, hpv, hn, if_true, KOut.out, KV.pv, KOb.ob, chk, h1, lenL, List.map_cons, List.map_nil, Option.map_none]
    · split at hk
      · cases hk
      · rename_i hne
        split at hk
        · rename_i hc
          obtain ⟨h1, hk⟩ := chkO_some hk
          refine ⟨_, hk, ⟨trivial, ?_, by simp, by simp⟩, ?_⟩
          · intro o ho
            simp only [List.mem_singleton] at ho
            subst ho
            exact closeL_ok (kclosed_shut (klook_okF h) (quiet_look hq) deepest) hok hc.2
          · have hne' : (namesL (pvL (ps.map (RX.kv ks.tmps)))).isEmpty = false := by rw [dst_names hok]; simpa using hne
            unfold okSls at h1
            rw [closeL_st h hok] at h1
            have hsh := hc.1
            rw [kreach_eq (klook_okF h), kshut_eq (klook_okF h), ← st_lookF h, ← pvL_names hok] at hsh
            simp only [exec, map_ev h, hne', Bool.false_eq_true, if_false, KOut.out, KV.pv, KOb.ob, lenL, List.map_cons, List.map_nil, Option.map_none]
            rw [closeL_st h hok, kreach_eq (klook_okF h), ← st_lookF h, ← pvL_names hok]
            unfold chk
            rw [h1, hsh]
            rfl
        · cases hk
  | load n ag x =>
    have ha := hkv (x := x) (by simp [ROp.xs])
    simp only [execK] at hk
    split at hk
    · rename_i nm o hv
      split at hk
      · rename_i cs hl
        have hcs : okKL cs := klook_ok h.ob hl
        split at hk
        · rename_i hag
          split at hk
          · rename_i hle
            refine ⟨_, hk, KOut.plain (v := .agg ((cs.drop o).take n)) (okKL_take (okKL_drop hcs _) _), ?_⟩
            simp [exec, ev, hv, KV.pv, lk, hl, KOb.ob, sel, hag, chk, pvL_length, hle, KOut.out, pvL_take, pvL_drop]
          · cases hk
        · rename_i hag
          split at hk
          · rename_i c hc
            refine ⟨_, hk, KOut.plain (okKL_mem.1 hcs c (List.mem_of_getElem? hc)), ?_⟩
            simp [exec, ev, hv, KV.pv, lk, hl, KOb.ob, sel, hag, pvL_get?, hc, KOut.out]
          · cases hk
      · rename_i v hl
        obtain ⟨z, hz, hk⟩ := bindO_some hk
        have hv' : okV v = true := klook_ok h.ob hl
        unfold selO at hz
        refine ⟨_, hk, KOut.plain (v := .cv z) (okV_sel (okV_cells hv') hz), ?_⟩
        simp [exec, ev, hv, KV.pv, lk, hl, KOb.ob, cellsP, hz, KOut.out]
      · cases hk
    · rename_i nm k i o hv
      split at hk
      · rename_i k' kt xs hl
        split at hk
        · rename_i hkk
          obtain ⟨z, hz, hk⟩ := bindO_some hk
          have hxs : okVL xs = true := klook_ok h.ob hl
          unfold elemO at hz
          split at hz
          · rename_i e he
            refine ⟨_, hk, KOut.plain (v := .cv z) (okV_sel (okV_cells (okVL_get hxs he)) hz), ?_⟩
            simp [exec, ev, hv, KV.pv, lk, hl, KOb.ob, he, hz, chk, hkk, KOut.out]
          · cases hz
        · cases hk
      · cases hk
    · exact gO_ok h hx hk
  | store n x v =>
    have ha := hkv (x := x) (by simp [ROp.xs])
    have hb := hkv (x := v) (by simp [ROp.xs])
    simp only [execK] at hk
    split at hk
    · rename_i nm o hv
      split at hk
      · rename_i cs hl
        have hcs : okKL cs := klook_ok h.ob hl
        obtain ⟨vs, hk, hvs, hpv, hlen, hval⟩ := cellsK_ok hb hk
        split at hk
        · rename_i hle
          refine ⟨_, hk, KOut.turn (o := .cells _ (cs.take o ++ vs ++ cs.drop (o + n))) trivial (okKL_append (okKL_append (okKL_take hcs _) hvs) (okKL_drop hcs _)), ?_⟩
          have hl2 : (pvL vs).length = n := by rw [pvL_length, hlen]
          simp [exec, ev, hv, KV.pv, lk, hl, KOb.ob, ← hpv, hval, hl2, chk, pvL_length, hle, KOut.out, splice, pvL_append, pvL_take, pvL_drop]
        · cases hk
      · rename_i w hl
        split at hk
        · rename_i u hu
          obtain ⟨h1, hk⟩ := chkO_some hk
          have hw : okV w = true := klook_ok h.ob hl
          have huo := KV.cl_ok hb hu
          unfold okSto at h1
          simp only [Bool.and_eq_true, decide_eq_true_eq] at h1
          refine ⟨_, hk, KOut.turn (o := .whole _ (stoP u w o)) trivial ?_, ?_⟩
          · show okV (stoP u w o) = true
            simpa [stoP, okV, splice] using okVL_append (okVL_take (okV_cells hw) o) (okVL_append (okV_cells huo) (okVL_drop (okV_cells hw) _))
          · have hpv := KV.cl_pv hu
            simp [exec, ev, hv, KV.pv, lk, hl, KOb.ob, cellsP, hpv, h1.1.1, h1.1.2, h1.2, chk, KOut.out, stoP, cells_agg]
        · cases hk
      · cases hk
    · rename_i nm k i o hv
      split at hk
      · rename_i k' kt xs hl
        split at hk
        · rename_i u hu
          split at hk
          · rename_i hkk
            obtain ⟨ys, hys, hk⟩ := bindO_some hk
            have hxs : okVL xs = true := klook_ok h.ob hl
            have huo := KV.cl_ok hb hu
            have hpv := KV.cl_pv hu
            unfold setO at hys
            split at hys
            · rename_i es he
              obtain ⟨h1, h2⟩ := chkO_some hys
              cases h2
              simp only [Bool.and_eq_true, decide_eq_true_eq] at h1
              have heo : okVL es = true := by simpa [okV] using okVL_get hxs he
              refine ⟨_, hk, KOut.turn (o := .arr k kt _) trivial ?_, ?_⟩
              · refine okVL_set hxs i ?_
                simpa [okV, splice] using okVL_append (okVL_take heo o) (okVL_append (okV_cells huo) (okVL_drop heo _))
              · have hn : (namesL u.cells).isEmpty = true := by rw [(okVL_names (okV_cells huo)).1]; rfl
                simp [exec, ev, hv, KV.pv, lk, hl, KOb.ob, he, hpv, h1.1.1, h1.1.2, h1.2, chk, hkk, KOut.out]
                rw [(okVL_names (okV_cells huo)).1]
            · rename_i e hne he
              obtain ⟨h1, h2⟩ := chkO_some hys
              cases h2
              simp only [Bool.and_eq_true, beq_iff_eq] at h1
              refine ⟨_, hk, KOut.turn (o := .arr k kt _) trivial (okVL_set hxs i huo), ?_⟩
              have hn : u.names = [] := (okV_iff huo).1
              simp only [exec, ev, hv, KV.pv, lk, hl, Option.map_some, KOb.ob, he, hpv]
              subst hkk
              simp [chk, h1.1.1.1, h1.1.1.2, h1.1.2, h1.2, hn, KOut.out, KOb.ob, KV.pv]
            · cases hys
          · cases hk
        · cases hk
      · cases hk
    · cases hk
  | nilck x =>
    have ha := hkv (x := x) (by simp [ROp.xs])
    simp only [execK] at hk
    split at hk
    · rename_i hv; exact ⟨_, hk, KOut.plain (by trivial), by simp [exec, ev, hv, KV.pv, KOut.out]⟩
    · rename_i hv; exact ⟨_, hk, KOut.plain (by trivial), by simp [exec, ev, hv, KV.pv, KOut.out]⟩
    · rename_i hv; rw [hv] at ha; exact ⟨_, hk, KOut.plain ha, by simp [exec, ev, hv, KV.pv, KOut.out]⟩
    · rename_i hv; exact ⟨_, hk, KOut.plain (by trivial), by simp [exec, ev, hv, KV.pv, KOut.out]⟩
    · exact gO_ok h hx hk
  | bin o c cst x y =>
    simp only [execK] at hk
    split at hk
    · rename_i nm o' v h1 h2
      split at hk
      · rcases iteB_some hk with ⟨hc, hk⟩ | ⟨_, hk⟩
        · split at hc
          · refine ⟨_, hk, KOut.plain (v := .lit false) trivial, ?_⟩
            simp [exec, ev, h1, h2, KV.pv, binPV, eqNil, KOut.out]
          · cases hc
        · cases hk
      · rcases iteB_some hk with ⟨hc, hk⟩ | ⟨_, hk⟩
        · split at hc
          · refine ⟨_, hk, KOut.plain (v := .lit true) trivial, ?_⟩
            simp [exec, ev, h1, h2, KV.pv, binPV, eqNil, KOut.out]
          · cases hc
        · cases hk
      · cases hk
    · exact gO_ok h hx hk
  | un o x =>
    cases o with
    | not =>
      simp only [execK] at hk
      split at hk
      · rename_i b hv
        exact ⟨_, hk, KOut.plain (v := .lit (!b)) trivial, by simp [exec, ev, hv, KV.pv, KOut.out]⟩
      · exact gO_ok h hx hk
    | _ => exact gO_ok h hx hk
  | mkI t x =>
    have ha := hkv (x := x) (by simp [ROp.xs])
    simp only [execK] at hk
    split at hk
    · rename_i v hv
      refine ⟨_, hk, KOut.plain (v := .cv (.iface t v)) ?_, ?_⟩
      · show okV (.iface t v) = true
        simpa [okV] using KV.cl_ok ha hv
      · simp [exec, ev, KV.cl_pv hv, KV.pv, KOut.out]
    · split at hk
      · cases hk
      · cases hk
      · cases hk
      · cases hk
      · exact ⟨_, hk, KOut.plain (v := .iface t (x.kv ks.tmps)) ha, by simp [exec, ev, KV.pv, KOut.out]⟩
  | mkF f cap =>
    simp only [execK] at hk
    split at hk
    · refine ⟨_, hk, KOut.plain (v := .fn f (cap.map (RX.kv ks.tmps))) (map_ok h hx), ?_⟩
      simp [exec, KOut.out, KV.pv, map_ev h]
    · cases hk
  | mkMap => exact ⟨_, hk, KOut.one (o := .map []) trivial rfl, by simp [exec, KOut.out, KV.pv, KOb.ob]⟩
  | insert c x k v =>
    have hb := hkv (x := k) (by simp [ROp.xs])
    have hc := hkv (x := v) (by simp [ROp.xs])
    simp only [execK] at hk
    split at hk
    · rename_i nm hv
      split at hk
      · rename_i es kk vv hl h1 h2
        obtain ⟨es', he, hk⟩ := bindO_some hk
        have hes : okVL es = true := klook_ok h.ob hl
        have hko := KV.cl_ok hb h1
        have hvo := KV.cl_ok hc h2
        unfold insO at he
        split at he
        · rename_i es2 hs
          obtain ⟨h3, h4⟩ := chkO_some he
          cases h4
          simp only [Bool.and_eq_true] at h3
          refine ⟨_, hk, KOut.turn (o := .map es') trivial (okVL_setE hs hes hko hvo), ?_⟩
          have hn : vv.names = [] := (okV_iff hvo).1
          simp [exec, ev, hv, KV.pv, lk, hl, KOb.ob, KV.cl_pv h1, KV.cl_pv h2, hs, chk, h3.1, h3.2, hn, KOut.out]
        · cases he
      · rename_i es kk hl h1 h2
        split at hk
        · cases hk
        · rename_i hne
          split at hk
          · rename_i hcond
            obtain ⟨hsh, hy, hcn⟩ := hcond
            obtain ⟨es', he, hk⟩ := bindO_some hk
            have hes : okVL es = true := klook_ok h.ob hl
            have hko := KV.cl_ok hb h1
            have hok1 : okKL [v.kv ks.tmps] := ⟨hc, trivial⟩
            have hcl := closeL_st h hok1
            have hclo := closeL_ok (kclosed_shut (klook_okF h) (quiet_look hq) deepest) hok1 hy
            have e1 : nth (closeL (kclosed (klook ks.objs) deepest) [v.kv ks.tmps]) 0 = ((v.kv ks.tmps).pv).sub (closed (look ks.st.objs)) := by
              rw [hcl]; simp [pvL, subL, nth]
            have hvo : okV (((v.kv ks.tmps).pv).sub (closed (look ks.st.objs))) = true := by
              rw [← e1]
              rw [hcl] at hclo ⊢
              exact (Bool.and_eq_true_iff.1 hclo).1
            rw [e1] at he
            have hn2 : ((v.kv ks.tmps).pv).names.isEmpty = false := by
              rw [KV.pv_names hc]; simpa [knamesL] using hne
            have hrch : kreach (klook ks.objs) deepest (knamesL [v.kv ks.tmps]) = reach (look ks.st.objs) deepest ((v.kv ks.tmps).pv).names := by
              rw [kreach_eq (klook_okF h), ← st_lookF h, KV.pv_names hc]; simp [knamesL]
            rw [hrch, kshut_eq (klook_okF h), ← st_lookF h] at hsh
            rw [hrch] at hcn hk
            have hcn' : ¬ nm ∈ reach (look ks.st.objs) deepest ((v.kv ks.tmps).pv).names := fun hm => by rw [List.contains_iff_mem.2 hm] at hcn; cases hcn
            unfold insO at he
            split at he
            · rename_i es2 hs
              obtain ⟨h3, h4⟩ := chkO_some he
              cases h4
              simp only [Bool.and_eq_true] at h3
              refine ⟨_, hk, ⟨trivial, by simp, fun m o' e => by cases e; exact okVL_setE hs hes hko hvo, by simp⟩, ?_⟩
              simp [exec, ev, hv, KV.pv, lk, hl, KOb.ob, KV.cl_pv h1, hn2, hs, chk, h3.1, h3.2, hsh, hcn', KOut.out]
            · cases he
          · cases hk
      · cases hk
    · cases hk
  | lookup c z ok x k =>
    have hb := hkv (x := k) (by simp [ROp.xs])
    simp only [execK] at hk
    split at hk
    · rename_i nm hv
      split at hk
      · rename_i es kk hl h1
        split at hk
        case isFalse => cases hk
        rename_i hz
        obtain ⟨u, hu, hk⟩ := bindO_some hk
        have hes : okVL es = true := klook_ok h.ob hl
        unfold lookO at hu
        split at hu
        · cases hu
        · rename_i r' hr
          obtain ⟨h3, h4⟩ := chkO_some hu
          cases h4
          have hrz : okV (r'.getD z) = true := by
            cases r' with
            | none => exact hz
            | some v => exact okV_find hr hes
          refine ⟨_, hk, KOut.plain (v := .cv _) ?_, ?_⟩
          · show okV _ = true
            split
            · simp [okV, okVL, hrz]
            · exact hrz
          · simp [exec, ev, hv, KV.pv, lk, hl, KOb.ob, KV.cl_pv h1, hr, chk, h3, KOut.out]
      · cases hk
    · exact gO_ok h hx hk
  | mkS k z l c =>
    simp only [execK] at hk
    split at hk
    · rename_i lv cv hl hc
      split at hk
      · rename_i hz
        obtain ⟨n, hn, hk⟩ := bindO_some hk
        unfold mkSO at hn
        split at hn
        · rename_i a b h1 h2
          obtain ⟨h3, h4⟩ := chkO_some hn
          cases h4
          refine ⟨_, hk, KOut.one (o := .arr k 0 (replL _ z)) trivial (okVL_replicate hz.2 _), ?_⟩
          simp only [Bool.and_eq_true, decide_eq_true_eq] at h3
          simp [exec, ev, KV.cl_pv hl, KV.cl_pv hc, h1, h2, chk, h3.1, h3.2, hz.1, KOut.out, KV.pv, KOb.ob, replL]
        · cases hn
      · cases hk
    · cases hk
  | slice k x lo hi mx =>
    simp only [execK] at hk
    split at hk
    · rename_i nm k' o n hv
      split at hk
      · rename_i hc
        obtain ⟨hkk, hmx, hall⟩ := hc
        obtain ⟨m, hm, hk⟩ := bindO_some hk
        obtain ⟨hh, hhi, hk⟩ := bindO_some hk
        have hev : ∀ (y : Option RX), (∀ z ∈ y.toList, z ∈ lo.toList ++ hi.toList ++ mx.toList) → (y.map fun z => ((z.kv ks.tmps).cl).getD .undef) = evO ks.st.tmps y := by
          intro y hy
          cases y with
          | none => rfl
          | some z =>
            have := List.all_eq_true.1 hall z (hy z (by simp))
            obtain ⟨v, hv⟩ := Option.isSome_iff_exists.1 this
            simp [evO, hv, ev, KV.cl_pv hv]
        rw [hev mx (fun z hz => by simp only [List.mem_append]; exact .inr hz)] at hm
        rw [hev hi (fun z hz => by simp only [List.mem_append]; exact .inl (.inr hz))] at hhi
        unfold boundO at hm hhi
        subst hkk
        have hmx' : ((mx.map (RX.ev ks.st.tmps)).isNone || (hi.map (RX.ev ks.st.tmps)).isSome) = true := by
          rcases hmx with e | e
          · cases mx with
            | none => rfl
            | some _ => cases e
          · cases hi with
            | none => cases e
            | some _ => simp
        have hevO : ∀ y : Option RX, evO ks.st.tmps y = y.map (RX.ev ks.st.tmps) := fun y => by cases y <;> rfl
        rw [hevO] at hm hhi
        cases lo with
        | none =>
          refine ⟨_, hk, KOut.plain (v := .arr nm k o hh) trivial, ?_⟩
          have hb0 : bound (none : Option PV) 0 hh = some 0 := rfl
          simp only [exec, ev, hv, KV.pv, sliceOf, hevO, hm, hhi, Option.map_none, hb0, chk, beq_self_eq_true, Bool.true_and, hmx', if_true, KOut.out]
          simp
        | some lo' =>
          obtain ⟨l, hl, hk⟩ := bindO_some hk
          have hlo := hev (some lo') (by simp)
          simp only [Option.map_some] at hlo
          rw [hlo] at hl
          unfold boundO at hl
          rw [hevO] at hl
          rcases iteB_some hk with ⟨h1, hk⟩ | ⟨h1, hk⟩
          · unfold andB at h1
            simp only [Bool.and_eq_true, eqN_iff, ltN_iff] at h1
            refine ⟨_, hk, KOut.plain (v := .cv (.sl k [] false)) rfl, ?_⟩
            have h2 : hh = l ∧ 0 < l := h1
            simp only [exec, ev, hv, KV.pv, sliceOf, hevO, hm, hhi, hl, chk, beq_self_eq_true, Bool.true_and, hmx', if_true, KOut.out, if_pos h2]
            rfl
          · unfold andB at h1
            simp only [Bool.and_eq_false_iff] at h1
            have h2 : ¬ (hh = l ∧ 0 < l) := by
              rintro ⟨a, b⟩
              rcases h1 with h1 | h1
              · rw [show eqN hh l = true from eqN_iff.2 a] at h1; cases h1
              · rw [show ltN 0 l = true from ltN_iff.2 b] at h1; cases h1
            refine ⟨_, hk, KOut.plain (v := .arr nm k (addN o l) (subN hh l)) trivial, ?_⟩
            simp only [exec, ev, hv, KV.pv, sliceOf, hevO, hm, hhi, hl, chk, beq_self_eq_true, Bool.true_and, hmx', if_true, KOut.out, if_neg h2, addN, subN]
            rfl
      · cases hk
    · exact gO_ok h hx hk
  | fieldAddr off x =>
    simp only [execK] at hk
    split at hk
    · rename_i hv; exact ⟨_, hk, KOut.plain (by trivial), by simp [exec, ev, hv, KV.pv, KOut.out]⟩
    · rename_i hv; exact ⟨_, hk, KOut.plain (by trivial), by simp [exec, ev, hv, KV.pv, KOut.out]⟩
    · exact gO_ok h hx hk
  | field off n ag x =>
    have ha := hkv (x := x) (by simp [ROp.xs])
    simp only [execK] at hk
    split at hk
    · rename_i cs hv
      rw [hv] at ha
      have hcs : okKL cs := ha
      split at hk
      · rename_i hag
        split at hk
        · rename_i hle
          refine ⟨_, hk, KOut.plain (v := .agg ((cs.drop off).take n)) (okKL_take (okKL_drop hcs _) _), ?_⟩
          simp [exec, ev, hv, KV.pv, sel, hag, chk, pvL_length, hle, KOut.out, pvL_take, pvL_drop]
        · cases hk
      · rename_i hag
        split at hk
        · rename_i c hc
          refine ⟨_, hk, KOut.plain (okKL_mem.1 hcs c (List.mem_of_getElem? hc)), ?_⟩
          simp [exec, ev, hv, KV.pv, sel, hag, pvL_get?, hc, KOut.out]
        · cases hk
    · exact gO_ok h hx hk
  | idxAddr k x i =>
    simp only [execK] at hk
    split at hk
    · rename_i nm k' o n hv
      split at hk
      · rename_i iv hi
        split at hk
        · rename_i hkk
          obtain ⟨j, hj, hk⟩ := bindO_some hk
          obtain ⟨h1, hk⟩ := chkO_some hk
          rw [ltN_iff] at h1
          unfold natO at hj
          refine ⟨_, hk, KOut.plain (v := .aref nm k (addN o j) 0) trivial, ?_⟩
          simp [exec, ev, hv, KV.pv, KV.cl_pv hi, hj, chk, hkk, h1, KOut.out, addN]
        · cases hk
      · cases hk
    · exact gO_ok h hx hk
  | extract j x =>
    have ha := hkv (x := x) (by simp [ROp.xs])
    simp only [execK] at hk
    split at hk
    · rename_i xs hv
      rw [hv] at ha
      have hxs : okKL xs := ha
      split at hk
      · rename_i v hj
        refine ⟨_, hk, KOut.plain (okKL_mem.1 hxs v (List.mem_of_getElem? hj)), ?_⟩
        simp [exec, ev, hv, KV.pv, pvL_get?, hj, KOut.out]
      · cases hk
    · exact gO_ok h hx hk
  | len c x =>
    simp only [execK] at hk
    split at hk
    · rename_i nm k o n hv
      split at hk
      · exact ⟨_, hk, KOut.plain (v := .cv (nI n)) rfl, by simp [exec, ev, hv, KV.pv, lenPV, KOut.out, nI]⟩
      · cases hk
    · rename_i nm hv
      split at hk
      · rename_i es hl
        exact ⟨_, hk, KOut.plain (v := .cv (nI (halfN (lenL es)))) rfl, by simp [exec, ev, hv, KV.pv, lenPV, lk, hl, KOb.ob, KOut.out, nI, halfN, lenL]⟩
      · cases hk
    · exact gO_ok h hx hk
  | append k ty s x =>
    have ha := hkv (x := s) (by simp [ROp.xs])
    have hb := hkv (x := x) (by simp [ROp.xs])
    simp only [execK] at hk
    obtain ⟨ys, hk, hyo, hys⟩ := elemsK_ok h hb hk
    split at hk
    · rename_i nm k' o n hv
      split at hk
      · rename_i k'' kt xs hl
        split at hk
        · rename_i hkk
          obtain ⟨rfl, rfl, rfl⟩ := hkk
          obtain ⟨h1, hk⟩ := chkO_some hk
          unfold andB at h1
          simp only [Bool.and_eq_true, leN_iff, lenL, addN] at h1
          have hxs : okVL xs = true := klook_ok h.ob hl
          refine ⟨_, hk, ⟨trivial, by simp, ?_, by simp⟩, ?_⟩
          · intro m o' e; cases e; exact okVL_append (okVL_take hxs n) hyo
          · simp [exec, ev, hys, hv, KV.pv, lk, hl, KOb.ob, chk, h1.1, h1.2, KOut.out, addN, lenL, catL, takeL]
        · cases hk
      · cases hk
    · rename_i hv
      obtain ⟨h1, hk⟩ := chkO_some hk
      simp only [leN_iff, lenL] at h1
      exact ⟨_, hk, KOut.one (o := .arr k ty ys) trivial hyo, by simp [exec, ev, hys, hv, KV.pv, chk, h1, KOut.out, KOb.ob, lenL]⟩
    · rename_i v hv
      obtain ⟨zs, hz, hk2⟩ := bindO_some hk
      rw [hv] at ha
      have hvo : okV v = true := ha
      unfold appO at hz
      split at hz
      · obtain ⟨h1, h2⟩ := chkO_some hz
        cases h2
        exact ⟨_, hk2, KOut.one (o := .arr k ty ys) trivial hyo, by simp at h1; simp [exec, ev, hys, hv, KV.pv, chk, h1, KOut.out, KOb.ob, lenL]⟩
      · rename_i k' xs
        split at hz
        · cases hz
        · rename_i y ys'
          obtain ⟨h1, h2⟩ := chkO_some hz
          cases h2
          simp only [Bool.and_eq_true, beq_iff_eq, decide_eq_true_eq] at h1
          obtain ⟨rfl, h1⟩ := h1
          refine ⟨_, hk2, KOut.one (o := .arr k ty (xs ++ y :: ys')) trivial (okVL_append (by simpa [okV] using hvo) hyo), ?_⟩
          simp [exec, ev, hys, hv, KV.pv, chk, h1, KOut.out, KOb.ob, lenL]
      · cases hz
    · cases hk
  | copy k x s =>
    have ha := hkv (x := x) (by simp [ROp.xs])
    have hb := hkv (x := s) (by simp [ROp.xs])
    simp only [execK] at hk
    obtain ⟨ys, hk, hyo, hys⟩ := elemsK_ok h hb hk
    split at hk
    · rename_i nm k' o n hv
      split at hk
      · rename_i k'' kt xs hl
        split at hk
        · rename_i hkk
          obtain ⟨rfl, rfl⟩ := hkk
          obtain ⟨h1, hk⟩ := chkO_some hk
          simp only [leN_iff, lenL, addN] at h1
          have hxs : okVL xs = true := klook_ok h.ob hl
          refine ⟨_, hk, KOut.turn (o := .arr k kt _) rfl (okVL_append (okVL_append (okVL_take hxs o) (okVL_take hyo n)) (okVL_drop hxs _)), ?_⟩
          simp [exec, ev, hys, hv, KV.pv, lk, hl, KOb.ob, chk, h1, KOut.out, addN, lenL, catL, takeL, dropL, nI, minN]
          omega
        · cases hk
      · cases hk
    · rename_i hv
      exact ⟨_, hk, KOut.plain (v := .cv (nI 0)) rfl, by simp [exec, ev, hys, hv, KV.pv, KOut.out, nI]⟩
    · cases hk
  | iter x =>
    simp only [execK] at hk
    split at hk
    · rename_i v hv
      obtain ⟨s, hs, hk⟩ := bindO_some hk
      unfold strO at hs
      split at hs
      · cases hs
        exact ⟨_, hk, KOut.one (o := .siter s 0) trivial trivial, by simp [exec, ev, KV.cl_pv hv, KOut.out, KV.pv, KOb.ob]⟩
      · cases hs
    · cases hk
  | next x =>
    simp only [execK] at hk
    split at hk
    · rename_i nm hv
      split at hk
      · rename_i s pos hl
        rcases iteB_some hk with ⟨h1, hk⟩ | ⟨h1, hk⟩
        · rw [ltN_iff] at h1
          unfold lenS at h1
          refine ⟨_, hk, KOut.turn (o := .siter s (addN pos (runeN s pos))) (v := .tup [.lit true, .cv (nI pos), .cv (runeP s pos)]) ⟨trivial, rfl, rfl, trivial⟩ trivial, ?_⟩
          simp [exec, ev, hv, KV.pv, lk, hl, KOb.ob, h1, KOut.out, pvL, nI, runeP, runeN, addN]
        · have h2 : ¬ pos < s.length := by
            intro h3; rw [show ltN pos (lenS s) = true from ltN_iff.2 h3] at h1; cases h1
          refine ⟨_, hk, KOut.plain (v := .tup [.lit false]) ⟨trivial, trivial⟩, ?_⟩
          simp [exec, ev, hv, KV.pv, lk, hl, KOb.ob, h2, KOut.out, pvL]
      · cases hk
    · cases hk
  | tassert t z ok x =>
    have ha := hkv (x := x) (by simp [ROp.xs])
    simp only [execK] at hk
    split at hk
    · rename_i u y hv
      rw [hv] at ha
      have hy : y.ok := ha
      split at hk
      · rename_i hut
        refine ⟨_, hk, KOut.plain ?_, ?_⟩
        · split
          · exact ⟨hy, trivial, trivial⟩
          · exact hy
        · simp only [exec, ev, hv, KV.pv, hut, if_true, KOut.out]
          cases ok <;> simp [KV.pv, pvL]
      · rename_i hut
        split at hk
        · rename_i hz
          refine ⟨_, hk, KOut.plain (v := .tup [.cv z, .lit false]) ⟨hz.2, trivial, trivial⟩, ?_⟩
          simp [exec, ev, hv, KV.pv, hut, chk, hz.1, KOut.out, pvL]
        · cases hk
    · exact gO_ok h hx hk
  | call f args => cases hk
  | bad => cases hk
  | conv k x => exact gO_ok h hx hk
  | toBytes x => exact gO_ok h hx hk
  | ofBytes x => exact gO_ok h hx hk
  | ofRune x => exact gO_ok h hx hk
  | strId x => exact gO_ok h hx hk
  | strSlice x lo hi => exact gO_ok h hx hk
  | idxAddrA k l x i => exact gO_ok h hx hk
  | strIdx x i => exact gO_ok h hx hk
  | minmax mx xs => exact gO_ok h hx hk
end Go.Ab

/-
  Shapes: what of a value is not known, and back; what a call that turns what it is handed gives.
-/
namespace Go.Ab

theorem KOb.ren_ob (f : Nm → Nm) {o : KOb} (h : o.ok) : (o.ren f).ob = o.ob.ren f := by
  cases o with
  | cells ty cs => simp [KOb.ren, KOb.ob, Ob.ren, renL_pv f h]
  | whole ty v =>
    have := (okVL_names (okV_cells h)).1
    simp only [KOb.ren, KOb.ob, Ob.ren, cellsP]
    rw [renL_none this]
  | _ => rfl
theorem KOb.ren_ok (f : Nm → Nm) {o : KOb} (h : o.ok) : (o.ren f).ok := by
  cases o with
  | cells ty cs => exact krenL_ok f h
  | _ => exact h

theorem renL_append (f : Nm → Nm) (xs ys : List PV) : renL f (xs ++ ys) = renL f xs ++ renL f ys := by
  induction xs with
  | nil => rfl
  | cons x xs ih => simp [renL, ih]

/-! ### The same shape -/

def Seg (vs : List PV) (i : Nat) (l : List PV) : Prop := ∀ m v, l[m]? = some v → nth vs (i + m) = v

theorem Seg.left {vs : List PV} {i : Nat} {a b : List PV} (h : Seg vs i (a ++ b)) : Seg vs i a := fun m v hm => h m v (by
  rw [List.getElem?_append_left (List.getElem?_eq_some_iff.1 hm).1]; exact hm)
theorem Seg.right {vs : List PV} {i : Nat} {a b : List PV} (h : Seg vs i (a ++ b)) : Seg vs (i + a.length) b := fun m v hm => by
  have := h (a.length + m) v (by rw [List.getElem?_append_right (by omega)]; simpa using hm)
  rw [← this, Nat.add_assoc]
theorem Seg.head {vs : List PV} {i : Nat} {x : PV} {l : List PV} (h : Seg vs i (x :: l)) : nth vs i = x := h 0 x rfl
theorem Seg.all (vs : List PV) : Seg vs 0 vs := fun m v hm => by
  unfold nth; rw [List.getD_eq_getElem?_getD, Nat.zero_add, hm]; rfl

theorem leaf_ok {x : KV} (hx : x.ok) (hf : x.cl.isSome = true) {vs : List PV} {i : Nat} (h : Seg vs i [x.cl.getD .undef]) : (KV.cv (nth vs i)).pv = x.pv ∧ (KV.cv (nth vs i)).ok := by
  obtain ⟨v, hv⟩ := Option.isSome_iff_exists.1 hf
  have := h.head
  rw [hv] at this
  simp only [Option.getD_some] at this
  rw [this]
  exact ⟨(KV.cl_pv hv).symm, KV.cl_ok hx hv⟩

theorem un_fill {p : KV} {vs : List PV} {i : Nat} (h : isUnK p = false) : isUnK (fill p vs i).1 = false := by
  cases p <;> simp [isUnK] at h <;> simp only [fill] <;> first | rfl | (split <;> rfl)

mutual
theorem fill_ok : ∀ (p x : KV), fitV p x = true → x.ok → ∀ (vs : List PV) (i : Nat), Seg vs i (leaves p x) → (fill p vs i).1.pv = x.pv ∧ (fill p vs i).1.ok ∧ (fill p vs i).2 = i + (leaves p x).length
  | .un, x, h, _, vs, i, _ => by cases x <;> simp [fitV] at h; exact ⟨rfl, trivial, rfl⟩
  | .sk, x, h, _, vs, i, _ => by cases x <;> simp [fitV] at h; exact ⟨rfl, trivial, rfl⟩
  | .yld d, x, h, _, vs, i, hs => by
    cases x with
    | yld d' =>
      have h1 : nth vs i = nI d' := hs.head
      simp [fill, KV.pv, h1, nI, natP, KV.ok, leaves]
    | _ => simp [fitV] at h
  | .ref nm o, x, h, _, vs, i, _ => by cases x <;> simp [fitV] at h; obtain ⟨rfl, rfl⟩ := h; exact ⟨rfl, trivial, rfl⟩
  | .aref _ _ _ _, x, h, _, vs, i, _ => by simp [fitV] at h
  | .mp nm, x, h, _, vs, i, _ => by cases x <;> simp [fitV] at h; subst h; exact ⟨rfl, trivial, rfl⟩
  | .it nm, x, h, _, vs, i, _ => by cases x <;> simp [fitV] at h; subst h; exact ⟨rfl, trivial, rfl⟩
  | .wit nm, x, h, _, vs, i, _ => by cases x <;> simp [fitV] at h; subst h; exact ⟨rfl, trivial, rfl⟩
  | .arr nm k o n, x, h, _, vs, i, hs => by
    cases x with
    | arr nm' k' o' n' =>
      simp only [fitV, Bool.and_eq_true, beq_iff_eq] at h
      obtain ⟨⟨rfl, rfl⟩, ho⟩ := h
      have := Nat.eq_of_beq_eq_true ho
      subst this
      have h1 : nth vs i = nI n' := hs.head
      simp [fill, KV.pv, h1, nI, natP, KV.ok, leaves]
    | _ => simp [fitV] at h
  | .lit b, x, h, hx, vs, i, hs => by
    have := leaf_ok hx (by simpa [fitV] using h) (by simpa [leaves] using hs)
    exact ⟨this.1, this.2, by simp [fill, leaves]⟩
  | .nils, x, h, hx, vs, i, hs => by
    have := leaf_ok hx (by simpa [fitV] using h) (by simpa [leaves] using hs)
    exact ⟨this.1, this.2, by simp [fill, leaves]⟩
  | .cv v, x, h, hx, vs, i, hs => by
    have := leaf_ok hx (by simpa [fitV] using h) (by simpa [leaves] using hs)
    exact ⟨this.1, this.2, by simp [fill, leaves]⟩
  | .fn f cap, x, h, hx, vs, i, hs => by
    cases x with
    | fn f' cap' =>
      simp only [fitV, Bool.and_eq_true, beq_iff_eq] at h
      obtain ⟨rfl, h⟩ := h
      obtain ⟨a, b, c⟩ := fillL_ok cap cap' h hx vs i (by simpa [leaves] using hs)
      exact ⟨by simp [fill, KV.pv, a], b, by simp [fill, leaves, c]⟩
    | _ => simp [fitV] at h
  | .tup xs, x, h, hx, vs, i, hs => by
    cases x with
    | tup ys =>
      simp only [fitV] at h
      obtain ⟨a, b, c⟩ := fillL_ok xs ys h hx vs i (by simpa [leaves] using hs)
      exact ⟨by simp [fill, KV.pv, a], b, by simp [fill, leaves, c]⟩
    | _ => simp [fitV] at h
  | .agg cs, x, h, hx, vs, i, hs => by
    simp only [fitV] at h
    simp only [leaves] at hs
    by_cases hc : (clL cs).isSome = true
    · rw [if_pos hc] at h hs
      have := leaf_ok hx h hs
      simp only [fill, hc, if_true]
      exact ⟨this.1, this.2, by simp [leaves, hc]⟩
    · rw [if_neg hc] at h hs
      cases x with
      | agg cs' =>
        obtain ⟨a, b, c⟩ := fillL_ok cs cs' h hx vs i hs
        simp only [fill, if_neg hc]
        exact ⟨by simp [KV.pv, a], b, by simp [leaves, hc, c]⟩
      | _ => simp at h
  | .iface t y, x, h, hx, vs, i, hs => by
    simp only [fitV] at h
    simp only [leaves] at hs
    by_cases hc : y.cl.isSome = true
    · rw [if_pos hc] at h hs
      have := leaf_ok hx h hs
      simp only [fill, hc, if_true]
      exact ⟨this.1, this.2, by simp [leaves, hc]⟩
    · rw [if_neg hc] at h hs
      cases x with
      | iface t' y' =>
        simp only [Bool.and_eq_true, beq_iff_eq] at h
        obtain ⟨rfl, h⟩ := h
        obtain ⟨a, b, c⟩ := fill_ok y y' h hx vs i hs
        simp only [fill, if_neg hc]
        exact ⟨by simp [KV.pv, a], b, by simp [leaves, hc, c]⟩
      | _ => simp at h
theorem fillL_ok : ∀ (ps xs : List KV), fitL ps xs = true → okKL xs → ∀ (vs : List PV) (i : Nat), Seg vs i (leavesL ps xs) → pvL (fillL ps vs i).1 = pvL xs ∧ okKL (fillL ps vs i).1 ∧ (fillL ps vs i).2 = i + (leavesL ps xs).length
  | [], xs, h, _, vs, i, _ => by cases xs <;> simp [fitL] at h; exact ⟨rfl, trivial, rfl⟩
  | p :: ps, xs, h, hx, vs, i, hs => by
    cases xs with
    | nil => simp [fitL] at h
    | cons x xs =>
      simp only [fitL, Bool.and_eq_true] at h
      simp only [leavesL] at hs
      obtain ⟨a, b, c⟩ := fill_ok p x h.1 hx.1 vs i hs.left
      obtain ⟨a', b', c'⟩ := fillL_ok ps xs h.2 hx.2 vs (fill p vs i).2 (by rw [c]; exact hs.right)
      refine ⟨by simp [fillL, pvL, a, a'], ⟨b, b'⟩, ?_⟩
      simp only [fillL, leavesL, List.length_append]
      rw [c', c]
      omega
end

theorem fillOb_ok (p x : KOb) (h : fitOb p x = true) (hx : x.ok) (vs : List PV) (i : Nat) (hs : Seg vs i (leavesOb p x)) : (fillOb p vs i).1.ob = x.ob ∧ (fillOb p vs i).1.ok ∧ (fillOb p vs i).2 = i + (leavesOb p x).length := by
  cases p with
  | cells ty cs =>
    cases x with
    | cells ty' cs' =>
      simp only [fitOb, Bool.and_eq_true, beq_iff_eq] at h
      obtain ⟨rfl, h⟩ := h
      obtain ⟨a, b, c⟩ := fillL_ok cs cs' h hx vs i (by simpa [leavesOb] using hs)
      exact ⟨by simp [fillOb, KOb.ob, a], b, by simp [fillOb, leavesOb, c]⟩
    | _ => simp [fitOb] at h
  | whole ty w =>
    cases x with
    | whole ty' v =>
      simp only [fitOb, beq_iff_eq] at h
      subst h
      have : nth vs i = v := hs.head
      exact ⟨by simp [fillOb, KOb.ob, this], by simp only [fillOb, this]; exact hx, by simp [fillOb, leavesOb]⟩
    | _ => simp [fitOb] at h
  | arr k kt ws =>
    cases x with
    | arr k' kt' xs =>
      simp only [fitOb, Bool.and_eq_true, beq_iff_eq] at h
      obtain ⟨rfl, rfl⟩ := h
      have : nth vs i = .sl k xs false := hs.head
      exact ⟨by simp [fillOb, KOb.ob, this, itemsP], by simp only [fillOb, this, itemsP]; exact hx, by simp [fillOb, leavesOb]⟩
    | _ => simp [fitOb] at h
  | map ws =>
    cases x with
    | map es =>
      have : nth vs i = .imap es := hs.head
      exact ⟨by simp [fillOb, KOb.ob, this, entsP], by simp only [fillOb, this, entsP]; exact hx, by simp [fillOb, leavesOb]⟩
    | _ => simp [fitOb] at h
  | siter s0 p0 =>
    cases x with
    | siter s pos =>
      have h1 : nth vs i = .str s := hs.head
      have h2 : nth vs (i + 1) = nI pos := hs 1 _ rfl
      exact ⟨by simp [fillOb, KOb.ob, h1, h2, strP, natP, nI], trivial, by simp [fillOb, leavesOb]⟩
    | _ => simp [fitOb] at h

theorem fillObL_ok : ∀ (ps xs : List KOb), fitObL ps xs = true → (∀ o ∈ xs, o.ok) → ∀ (vs : List PV) (i : Nat), Seg vs i (leavesObL ps xs) → (fillObL ps vs i).1.map KOb.ob = xs.map KOb.ob ∧ (∀ o ∈ (fillObL ps vs i).1, o.ok) ∧ (fillObL ps vs i).2 = i + (leavesObL ps xs).length
  | [], [], _, _, vs, i, _ => ⟨rfl, by simp [fillObL], rfl⟩
  | [], _ :: _, h, _, _, _, _ => by simp [fitObL] at h
  | _ :: _, [], h, _, _, _, _ => by simp [fitObL] at h
  | p :: ps, x :: xs, h, hx, vs, i, hs => by
    simp only [fitObL, Bool.and_eq_true] at h
    simp only [leavesObL] at hs
    obtain ⟨a, b, c⟩ := fillOb_ok p x h.1 (hx x (by simp)) vs i hs.left
    obtain ⟨a', b', c'⟩ := fillObL_ok ps xs h.2 (fun o ho => hx o (by simp [ho])) vs (fillOb p vs i).2 (by rw [c]; exact hs.right)
    refine ⟨by simp [fillObL, a, a'], ?_, ?_⟩
    · intro o ho
      simp only [fillObL, List.mem_cons] at ho
      rcases ho with rfl | ho
      · exact b
      · exact b' o ho
    · simp only [fillObL, leavesObL, List.length_append]
      rw [c', c]
      omega


/-! ### Values by their shape -/

mutual
theorem fitP_fill : ∀ (p : KV) (x : PV) {l : List PV}, fitP p x = some l → ∀ (vs : List PV) (i : Nat), Seg vs i l → (fill p vs i).1.pv = x ∧ (fill p vs i).1.ok ∧ (fill p vs i).2 = i + l.length
  | .un, x, l, h, vs, i, _ => by cases x <;> simp [fitP] at h; subst h; exact ⟨rfl, trivial, rfl⟩
  | .sk, x, l, h, vs, i, _ => by
    simp only [fitP] at h
    split at h
    · cases h; exact ⟨rfl, trivial, rfl⟩
    · cases h
  | .yld d, x, l, h, vs, i, hs => by
    cases x with
    | yld d' =>
      simp only [fitP] at h
      cases h
      have h1 : nth vs i = nI d' := hs.head
      simp [fill, KV.pv, h1, nI, natP, KV.ok]
    | _ => simp [fitP] at h
  | .aref _ _ _ _, x, l, h, vs, i, _ => by simp [fitP] at h
  | .wit nm, x, l, h, vs, i, _ => by
    simp only [fitP] at h
    split at h
    · obtain ⟨h1, h2⟩ := chkO_some h
      simp at h1 h2; subst h1; subst h2; exact ⟨rfl, trivial, rfl⟩
    · cases h
  | .ref nm o, x, l, h, vs, i, _ => by
    cases x <;> simp [fitP] at h
    obtain ⟨h1, h2⟩ := chkO_some h
    simp at h1 h2; obtain ⟨rfl, rfl⟩ := h1; subst h2; exact ⟨rfl, trivial, rfl⟩
  | .mp nm, x, l, h, vs, i, _ => by
    cases x <;> simp [fitP] at h
    obtain ⟨h1, h2⟩ := chkO_some h
    simp at h1 h2; subst h1; subst h2; exact ⟨rfl, trivial, rfl⟩
  | .it nm, x, l, h, vs, i, _ => by
    cases x <;> simp [fitP] at h
    obtain ⟨h1, h2⟩ := chkO_some h
    simp at h1 h2; subst h1; subst h2; exact ⟨rfl, trivial, rfl⟩
  | .arr nm k o n, x, l, h, vs, i, hs => by
    cases x with
    | arr nm' k' o' n' =>
      simp only [fitP] at h
      obtain ⟨h1, h2⟩ := chkO_some h
      cases h2
      simp only [Bool.and_eq_true, beq_iff_eq] at h1
      obtain ⟨⟨rfl, rfl⟩, ho⟩ := h1
      have := Nat.eq_of_beq_eq_true ho
      subst this
      have h1 : nth vs i = nI n' := hs.head
      simp [fill, KV.pv, h1, nI, natP, KV.ok]
    | _ => simp [fitP] at h
  | .lit b, x, l, h, vs, i, hs => by
    simp only [fitP] at h
    obtain ⟨h1, h2⟩ := chkO_some h
    cases h2
    have := hs.head
    exact ⟨this, by simp only [fill, KV.ok, this]; exact h1, rfl⟩
  | .nils, x, l, h, vs, i, hs => by
    simp only [fitP] at h
    obtain ⟨h1, h2⟩ := chkO_some h
    cases h2
    have := hs.head
    exact ⟨this, by simp only [fill, KV.ok, this]; exact h1, rfl⟩
  | .cv v, x, l, h, vs, i, hs => by
    simp only [fitP] at h
    obtain ⟨h1, h2⟩ := chkO_some h
    cases h2
    have := hs.head
    exact ⟨this, by simp only [fill, KV.ok, this]; exact h1, rfl⟩
  | .fn f cap, x, l, h, vs, i, hs => by
    cases x with
    | fn f' cap' =>
      simp only [fitP] at h
      split at h
      · rename_i hf
        subst hf
        obtain ⟨a, b, c⟩ := fitPL_fill cap cap' h vs i hs
        exact ⟨by simp [fill, KV.pv, a], b, c⟩
      · cases h
    | _ => simp [fitP] at h
  | .tup xs, x, l, h, vs, i, hs => by
    cases x with
    | tup ys =>
      simp only [fitP] at h
      obtain ⟨a, b, c⟩ := fitPL_fill xs ys h vs i hs
      exact ⟨by simp [fill, KV.pv, a], b, c⟩
    | _ => simp [fitP] at h
  | .agg cs, x, l, h, vs, i, hs => by
    simp only [fitP] at h
    by_cases hc : (clL cs).isSome = true
    · rw [if_pos hc] at h
      obtain ⟨h1, h2⟩ := chkO_some h
      cases h2
      have := hs.head
      simp only [fill, hc, if_true]
      exact ⟨this, by simp only [KV.ok, this]; exact h1, rfl⟩
    · rw [if_neg hc] at h
      cases x with
      | agg cs' =>
        obtain ⟨a, b, c⟩ := fitPL_fill cs cs' h vs i hs
        simp only [fill, if_neg hc]
        exact ⟨by simp [KV.pv, a], b, c⟩
      | _ => simp at h
  | .iface t y, x, l, h, vs, i, hs => by
    simp only [fitP] at h
    by_cases hc : y.cl.isSome = true
    · rw [if_pos hc] at h
      obtain ⟨h1, h2⟩ := chkO_some h
      cases h2
      have := hs.head
      simp only [fill, hc, if_true]
      exact ⟨this, by simp only [KV.ok, this]; exact h1, rfl⟩
    · rw [if_neg hc] at h
      cases x with
      | iface t' y' =>
        simp only at h
        split at h
        · rename_i ht
          subst ht
          obtain ⟨a, b, c⟩ := fitP_fill y y' h vs i hs
          simp only [fill, if_neg hc]
          exact ⟨by simp [KV.pv, a], b, c⟩
        · cases h
      | _ => simp at h
theorem fitPL_fill : ∀ (ps : List KV) (xs : List PV) {l : List PV}, fitPL ps xs = some l → ∀ (vs : List PV) (i : Nat), Seg vs i l → pvL (fillL ps vs i).1 = xs ∧ okKL (fillL ps vs i).1 ∧ (fillL ps vs i).2 = i + l.length
  | [], xs, l, h, vs, i, _ => by cases xs <;> simp [fitPL] at h; subst h; exact ⟨rfl, trivial, rfl⟩
  | p :: ps, xs, l, h, vs, i, hs => by
    cases xs with
    | nil => simp [fitPL] at h
    | cons y ys =>
      simp only [fitPL] at h
      split at h
      · rename_i a b ha hb
        cases h
        obtain ⟨a1, a2, a3⟩ := fitP_fill p y ha vs i hs.left
        obtain ⟨b1, b2, b3⟩ := fitPL_fill ps ys hb vs (fill p vs i).2 (by rw [a3]; exact hs.right)
        refine ⟨by simp [fillL, pvL, a1, b1], ⟨a2, b2⟩, ?_⟩
        simp only [fillL, List.length_append]
        rw [b3, a3]; omega
      · cases h
end

theorem fitPOb_fill (p : KOb) (x : Ob) {l : List PV} (h : fitPOb p x = some l) (vs : List PV) (i : Nat) (hs : Seg vs i l) : (fillOb p vs i).1.ob = x ∧ (fillOb p vs i).1.ok ∧ (fillOb p vs i).2 = i + l.length := by
  cases p with
  | cells ty cs =>
    cases x with
    | cells ty' cs' =>
      simp only [fitPOb] at h
      split at h
      case isFalse => cases h
      rename_i hty
      subst hty
      obtain ⟨a, b, c⟩ := fitPL_fill cs cs' h vs i hs
      exact ⟨by simp [fillOb, KOb.ob, a], b, c⟩
    | _ => simp [fitPOb] at h
  | whole ty w =>
    cases x with
    | cells ty' cs' =>
      simp only [fitPOb] at h
      obtain ⟨h1, h2⟩ := chkO_some h
      cases h2
      simp only [Bool.and_eq_true, beq_iff_eq] at h1
      obtain ⟨rfl, h1⟩ := h1
      have : nth vs i = .agg cs' := hs.head
      exact ⟨by simp [fillOb, KOb.ob, this, cellsP, PV.cells], by simp only [fillOb, this]; simpa [KOb.ok, okV] using h1, rfl⟩
    | _ => simp [fitPOb] at h
  | arr k kt ws =>
    cases x with
    | arr k' kt' xs =>
      simp only [fitPOb] at h
      obtain ⟨h1, h2⟩ := chkO_some h
      cases h2
      simp only [Bool.and_eq_true, beq_iff_eq] at h1
      obtain ⟨⟨rfl, rfl⟩, h1⟩ := h1
      have : nth vs i = .sl k xs false := hs.head
      exact ⟨by simp [fillOb, KOb.ob, this, itemsP], by simp only [fillOb, this, itemsP]; exact h1, rfl⟩
    | _ => simp [fitPOb] at h
  | map ws =>
    cases x with
    | map es =>
      simp only [fitPOb] at h
      obtain ⟨h1, h2⟩ := chkO_some h
      cases h2
      have : nth vs i = .imap es := hs.head
      exact ⟨by simp [fillOb, KOb.ob, this, entsP], by simp only [fillOb, this, entsP]; exact h1, rfl⟩
    | _ => simp [fitPOb] at h
  | siter s0 p0 =>
    cases x with
    | siter s pos =>
      simp only [fitPOb] at h
      cases h
      have h1 : nth vs i = .str s := hs.head
      have h2 : nth vs (i + 1) = nI pos := hs 1 _ rfl
      exact ⟨by simp [fillOb, KOb.ob, h1, h2, strP, natP, nI], trivial, rfl⟩
    | _ => simp [fitPOb] at h

theorem fitPObL_fill : ∀ (ps : List KOb) (xs : List Ob) {l : List PV}, fitPObL ps xs = some l → ∀ (vs : List PV) (i : Nat), Seg vs i l → (fillObL ps vs i).1.map KOb.ob = xs ∧ (∀ o ∈ (fillObL ps vs i).1, o.ok) ∧ (fillObL ps vs i).2 = i + l.length
  | [], xs, l, h, vs, i, _ => by cases xs <;> simp [fitPObL] at h; subst h; exact ⟨rfl, by simp [fillObL], rfl⟩
  | p :: ps, xs, l, h, vs, i, hs => by
    cases xs with
    | nil => simp [fitPObL] at h
    | cons y ys =>
      simp only [fitPObL] at h
      split at h
      · rename_i a b ha hb
        cases h
        obtain ⟨a1, a2, a3⟩ := fitPOb_fill p y ha vs i hs.left
        obtain ⟨b1, b2, b3⟩ := fitPObL_fill ps ys hb vs (fillOb p vs i).2 (by rw [a3]; exact hs.right)
        refine ⟨by simp [fillObL, a1, b1], ?_, ?_⟩
        · intro o ho
          simp only [fillObL, List.mem_cons] at ho
          rcases ho with rfl | ho
          · exact a2
          · exact b2 o ho
        · simp only [fillObL, List.length_append]
          rw [b3, a3]; omega
      · cases h

/-! ### Names changed twice -/

mutual
theorem ren_ren (f g : Nm → Nm) : ∀ (x : PV), (x.ren f).ren g = x.ren fun m => g (f m)
  | .agg cs => by simp [PV.ren, renL_renL f g cs]
  | .iface t x => by simp [PV.ren, ren_ren f g x]
  | .fn h cap => by simp [PV.ren, renL_renL f g cap]
  | .tup xs => by simp [PV.ren, renL_renL f g xs]
  | .undef | .bool _ | .int _ _ | .str _ | .nilS | .nilP | .nilF | .nilI | .nilM | .sl _ _ _ | .ptr _ _ | .yld _ | .imap _ | .glob _ _ | .ref _ _ | .aref _ _ _ _ | .arr _ _ _ _ | .mp _ | .it _ => by simp [PV.ren]
theorem renL_renL (f g : Nm → Nm) : ∀ (xs : List PV), renL g (renL f xs) = renL (fun m => g (f m)) xs
  | [] => rfl
  | x :: xs => by simp [renL, ren_ren f g x, renL_renL f g xs]
end

mutual
theorem ren_congr {f g : Nm → Nm} : ∀ {x : PV}, (∀ m ∈ x.names, f m = g m) → x.ren f = x.ren g
  | .agg cs, h => by simp only [PV.ren]; rw [renL_congr (xs := cs) h]
  | .iface t x, h => by simp only [PV.ren]; rw [ren_congr (x := x) h]
  | .fn _ cap, h => by simp only [PV.ren]; rw [renL_congr (xs := cap) h]
  | .tup xs, h => by simp only [PV.ren]; rw [renL_congr (xs := xs) h]
  | .ref nm _, h | .aref nm _ _ _, h | .arr nm _ _ _, h | .mp nm, h | .it nm, h => by simp only [PV.ren]; rw [h nm (by simp [PV.names])]
  | .undef, _ | .bool _, _ | .int _ _, _ | .str _, _ | .nilS, _ | .nilP, _ | .nilF, _ | .nilI, _ | .nilM, _ | .sl _ _ _, _ | .ptr _ _, _ | .yld _, _ | .imap _, _ | .glob _ _, _ => by simp [PV.ren]
theorem renL_congr {f g : Nm → Nm} : ∀ {xs : List PV}, (∀ m ∈ namesL xs, f m = g m) → renL f xs = renL g xs
  | [], _ => rfl
  | x :: xs, h => by
    simp only [renL]
    rw [ren_congr (x := x) fun m hm => h m (List.mem_append_left _ hm), renL_congr (xs := xs) fun m hm => h m (List.mem_append_right _ hm)]
end

mutual
theorem cut_names {p : Nm → Bool} : ∀ {x : PV} {m : Nm}, m ∈ (x.sub fun m => if p m then none else some none).names → p m = true
  | .agg cs, m, h => cutL_names (xs := cs) (by simpa [PV.sub, PV.names] using h)
  | .iface t x, m, h => cut_names (x := x) (by simpa [PV.sub, PV.names] using h)
  | .fn _ cap, m, h => cutL_names (xs := cap) (by simpa [PV.sub, PV.names] using h)
  | .tup xs, m, h => cutL_names (xs := xs) (by simpa [PV.sub, PV.names] using h)
  | .ref nm _, m, h | .aref nm _ _ _, m, h | .arr nm _ _ _, m, h | .mp nm, m, h | .it nm, m, h => by
    simp only [PV.sub] at h
    cases hp : p nm with
    | true => simp [hp, PV.names] at h; rw [h]; exact hp
    | false => simp [hp, PV.names] at h
  | .undef, m, h | .bool _, m, h | .int _ _, m, h | .str _, m, h | .nilS, m, h | .nilP, m, h | .nilF, m, h | .nilI, m, h | .nilM, m, h | .sl _ _ _, m, h | .ptr _ _, m, h | .yld _, m, h | .imap _, m, h | .glob _ _, m, h => by simp [PV.sub, PV.names] at h
theorem cutL_names {p : Nm → Bool} : ∀ {xs : List PV} {m : Nm}, m ∈ namesL (subL (fun m => if p m then none else some none) xs) → p m = true
  | [], m, h => by simp [subL, namesL] at h
  | x :: xs, m, h => by
    simp only [subL, namesL] at h
    rcases List.mem_append.1 h with h | h
    · exact cut_names h
    · exact cutL_names h
end

theorem Ob.ren_ren (f g : Nm → Nm) (o : Ob) : (o.ren f).ren g = o.ren fun m => g (f m) := by
  cases o <;> simp [Ob.ren, renL_renL]
theorem Ob.ren_congr {f g : Nm → Nm} {o : Ob} (h : ∀ m ∈ o.names, f m = g m) : o.ren f = o.ren g := by
  cases o with
  | cells ty cs => simp only [Ob.ren]; rw [renL_congr h]
  | _ => rfl
theorem Ob.cut_names {p : Nm → Bool} {o : Ob} {m : Nm} (h : m ∈ (o.sub fun m => if p m then none else some none).names) : p m = true := by
  cases o with
  | cells ty cs => exact cutL_names h
  | _ => simp [Ob.sub, Ob.names] at h

theorem lookup_map2 (g : Nm → Nm) : ∀ (B : List (Nm × Nm)) (m : Nm), (B.map fun p => (p.1, g p.2)).lookup m = (B.lookup m).map g := by
  intro B
  induction B with
  | nil => intro m; rfl
  | cons p B ih =>
    obtain ⟨a, b⟩ := p
    intro m
    simp only [List.map_cons, List.lookup_cons]
    split <;> simp_all

theorem lookup_some {B : List (Nm × Nm)} : ∀ {m : Nm}, (B.map (·.1)).contains m = true → ∃ t, B.lookup m = some t := by
  induction B with
  | nil => intro m h; simp at h
  | cons p B ih =>
    obtain ⟨a, b⟩ := p
    intro m h
    rw [List.lookup_cons]
    split
    · exact ⟨_, rfl⟩
    · rename_i hne
      refine ih ?_
      simp only [List.map_cons, List.contains_cons, hne, Bool.false_or] at h
      exact h

/-- What a call gives hangs on the names that it was handed by these names alone. -/
theorem ioEnd_ren {R : List Nm} {sl : Option Nat} {d i0 : Nat} {st : St} {v : PV} {out : Out} (h : ioEnd none 1 0 (canonR R.length) st v = some out) :
    ioEnd sl d i0 R st v = some { v := out.v.ren (ioNm R d i0), new := out.new.map (Ob.ren (ioNm R d i0)), gone := out.gone.map (ioNm R d i0), ups := R.zip (out.ups.map fun p => p.2.ren (ioNm R d i0)), io := true, slot := sl } := by
  have hcl : (canonR R.length).length = R.length := by simp [canonR]
  have hA : ioPairs R st.keep = (ioPairs (canonR R.length) st.keep).map fun p => (p.1, ioNm R d i0 p.2) := by
    apply List.ext_getElem?
    intro i
    simp only [ioPairs, List.getElem?_map, List.getElem?_zipIdx, Nat.zero_add, canonR]
    by_cases hi : i < R.length
    · rw [List.getElem?_eq_getElem hi, List.getElem?_range hi]
      simp [ioNm, List.getD_eq_getElem?_getD, List.getElem?_eq_getElem hi]
    · rw [List.getElem?_eq_none_iff.2 (by omega), List.getElem?_eq_none_iff.2 (by simp; omega)]
      rfl
  have hF : (ioPairs R st.keep).map (·.1) = (ioPairs (canonR R.length) st.keep).map (·.1) := by
    rw [hA, List.map_map]; rfl
  have hN : ioNews (look st.objs) (ioPairs R st.keep) v = ioNews (look st.objs) (ioPairs (canonR R.length) st.keep) v := by
    unfold ioNews
    rw [hF]
    have : ∀ A A' : List (Nm × Nm), A.map (·.1) = A'.map (·.1) → (A.flatMap fun p => ((look st.objs p.1).map Ob.names).getD []) = A'.flatMap fun p => ((look st.objs p.1).map Ob.names).getD [] := by
      intro A A' h
      have e : ∀ A : List (Nm × Nm), (A.flatMap fun p => ((look st.objs p.1).map Ob.names).getD []) = (A.map (·.1)).flatMap fun m => ((look st.objs m).map Ob.names).getD [] := by
        intro A; rw [List.flatMap_map]
      rw [e, e, h]
    rw [this _ _ hF]
  unfold ioEnd at h ⊢
  simp only at h ⊢
  rw [hN]
  generalize ioNews (look st.objs) (ioPairs (canonR R.length) st.keep) v = N at h ⊢
  generalize hA0 : ioPairs (canonR R.length) st.keep = A0 at h hA
  generalize hB0 : (A0 ++ N.zipIdx.map fun p => (p.1, (1, 0 + p.2))) = B0 at h
  have hB : ioPairs R st.keep ++ N.zipIdx.map (fun p => (p.1, (d, i0 + p.2))) = B0.map fun p => (p.1, ioNm R d i0 p.2) := by
    rw [← hB0, List.map_append, hA, List.map_map]
    congr 1
    exact List.map_congr_left fun p _ => by simp [ioNm]
  rw [hB]
  have hBf : (B0.map fun p => (p.1, ioNm R d i0 p.2)).map (·.1) = B0.map (·.1) := by rw [List.map_map]; rfl
  rw [hBf]
  obtain ⟨h1, h2⟩ := chk_inv h
  cases h2
  have hnm : ∀ m, (B0.map (·.1)).contains m = true → ((B0.map fun p => (p.1, ioNm R d i0 p.2)).lookup m).getD m = ioNm R d i0 ((B0.lookup m).getD m) := by
    intro m hm
    obtain ⟨t, ht⟩ := lookup_some hm
    rw [lookup_map2, ht]; rfl
  have hob : ∀ nm, ioOb (look st.objs) (B0.map fun p => (p.1, ioNm R d i0 p.2)) nm = (ioOb (look st.objs) B0 nm).ren (ioNm R d i0) := by
    intro nm
    unfold ioOb
    rw [hBf, Ob.ren_ren]
    exact Ob.ren_congr fun m hm => hnm m (Ob.cut_names hm)
  simp only [chk, h1, if_true, Option.some.injEq, Out.mk.injEq, true_and, and_true]
  refine ⟨?_, ?_, ?_, ?_⟩
  · rw [ren_ren]
    exact ren_congr fun m hm => hnm m (cut_names hm)
  · rw [List.map_map]
    exact List.map_congr_left fun m _ => hob m
  · simp only [ioGone]
    apply List.ext_getElem?
    intro i
    have e : (R.zipIdx.filter fun p => (witNm (st.keep.getD p.2 .undef)).isNone).map (·.1) = (((canonR R.length).zipIdx.filter fun p => (witNm (st.keep.getD p.2 .undef)).isNone).map (·.1)).map (ioNm R d i0) := by
      have hz : R.zipIdx = (canonR R.length).zipIdx.map fun p => (ioNm R d i0 p.1, p.2) := by
        apply List.ext_getElem?
        intro i
        simp only [List.getElem?_map, List.getElem?_zipIdx, Nat.zero_add, canonR]
        by_cases hi : i < R.length
        · rw [List.getElem?_eq_getElem hi, List.getElem?_range hi]
          simp [ioNm, List.getD_eq_getElem?_getD, List.getElem?_eq_getElem hi]
        · rw [List.getElem?_eq_none_iff.2 (by omega), List.getElem?_eq_none_iff.2 (by simp; omega)]
          rfl
      rw [hz, List.filter_map, List.map_map, List.map_map]
      rfl
    rw [e]
  · have hR2 : A0.map (fun p => ioNm R d i0 p.2) = R := by
      rw [← hA0]
      apply List.ext_getElem?
      intro i
      simp only [ioPairs, List.getElem?_map, List.getElem?_zipIdx, Nat.zero_add, canonR]
      by_cases hi : i < R.length
      · rw [List.getElem?_eq_getElem hi, List.getElem?_range hi]
        simp [ioNm, List.getD_eq_getElem?_getD, List.getElem?_eq_getElem hi]
      · rw [List.getElem?_eq_none_iff.2 (by omega : R.length ≤ i), List.getElem?_eq_none_iff.2 (by simp; omega)]
        rfl
    have hz : ∀ (l : List (Nm × Nm)) (f : Nm × Nm → Nm) (g : Nm × Nm → Ob), l.map (fun p => (f p, g p)) = (l.map f).zip (l.map g) := by
      intro l f g
      induction l with
      | nil => rfl
      | cons p l ih => simp [ih]
    have e1 : (A0.map fun p => (p.1, ioNm R d i0 p.2)).map (fun p => (p.2, ioOb (look st.objs) (B0.map fun p => (p.1, ioNm R d i0 p.2)) p.1)) = A0.map fun p => (ioNm R d i0 p.2, (ioOb (look st.objs) B0 p.1).ren (ioNm R d i0)) := by
      rw [List.map_map]
      exact List.map_congr_left fun p _ => by simp only [Function.comp, hob]
    rw [hA, e1, hz, hR2, List.map_map]
    rfl
end Go.Ab

/-
  Calls: 'kcall' tells what 'execCall' tells, once there is enough fuel.
-/
namespace Go.Ab

noncomputable def limCall (sp : FuncId → (Nm → Option Ob) → List PV → Option Out) (tab : FuncId → Option RFn) : CallT := fun E h dep g args e => lim fun n => evalFn sp tab n E h dep g args e

def machN (sp : FuncId → (Nm → Option Ob) → List PV → Option Out) (tab : FuncId → Option RFn) (n : Nat) : Mach := evalM sp tab n

theorem machN_sp (sp : FuncId → (Nm → Option Ob) → List PV → Option Out) (tab : FuncId → Option RFn) (n : Nat) : (machN sp tab n).sp = sp := evalM_sp sp tab n
theorem machN_isIo (sp : FuncId → (Nm → Option Ob) → List PV → Option Out) (tab : FuncId → Option RFn) (n : Nat) : (machN sp tab n).isIo = ioFlag tab := evalM_isIo sp tab n
theorem machN_leans (sp : FuncId → (Nm → Option Ob) → List PV → Option Out) (tab : FuncId → Option RFn) (n : Nat) : (machN sp tab n).leans = leanFlag tab := evalM_leans sp tab n
theorem machN_call (sp : FuncId → (Nm → Option Ob) → List PV → Option Out) (tab : FuncId → Option RFn) (n : Nat) : (machN sp tab n).call = evalFn sp tab n := rfl

/-- What a function that turns what it is handed by name comes to, once there is enough fuel. -/
noncomputable def limIo (sp : FuncId → (Nm → Option Ob) → List PV → Option Out) (tab : FuncId → Option RFn) (g : FuncId) (ins : List Ob) (vs : List PV) : Option (St × PV) :=
  match tab g with
  | some fn => lim fun n => ioRaw (machN sp tab n) n fn ins vs
  | none => none

structure CfgOK (cfg : KCfg) (tab : FuncId → Option RFn) : Prop where
  L : cfg.b.L = limCall cfg.b.sp tab
  I : cfg.b.I = limIo cfg.b.sp tab
  isIo : cfg.b.isIo = ioFlag tab
  leans : cfg.b.leans = leanFlag tab
  ioF : ∀ g, (cfg.ioF g).isSome = ioFlag tab g
  ioP : ∀ g P, cfg.ioF g = some P → ∃ fn, tab g = some fn ∧ P.args.length ≤ fn.nt ∧ P.ins.length ≤ fn.nt ∧ 0 < fn.nt
  spF : ∀ g, cfg.spF g = false → ∀ σ vs, cfg.b.sp g σ vs = none
  loc : ∀ g σ vs, okVL vs = true → cfg.b.sp g σ vs = cfg.b.sp g (fun _ => none) vs
  asOk : ∀ g p t n, cfg.asT g p = some (t, n) → ∀ σ nm ty cs, σ nm = some (.cells ty cs) → cs.length = n → cfg.b.sp g σ [.nilI, .iface p (.ref nm 0)] = some { v := .bool false } ∧
    ∀ x, okCells x n = true → cfg.b.sp g σ [.iface t x, .iface p (.ref nm 0)] = some { v := .bool true, upd := some (nm, .cells ty x.cells) }

def HOk {E : Type} (h : Handler E) (hn : Nat → Handler E) : Prop := ∀ l args e r, h l args e = some r → Evl fun n => hn n l args e = some r

mutual
theorem convR_put (d : Nat) {obs : List Ob} : ∀ (sh : RSh) (j : Nat) (v : PV) {u : PV} {j' : Nat}, convR obs sh j v = some (u, j') →
    (putR d sh j u).1.pv = v.ren (renNew d) ∧ (putR d sh j u).2.1.map KOb.ob = (obs.drop j).take (j' - j) ∧ (putR d sh j u).2.2 = j' ∧ (putR d sh j u).1.ok ∧ (∀ o ∈ (putR d sh j u).2.1, o.ok) ∧ j ≤ j'
  | .cl, j, v, u, j', h => by
    simp only [convR] at h
    obtain ⟨h1, h2⟩ := chkO_some h
    cases h2
    refine ⟨?_, by simp [putR], rfl, h1, by simp [putR], Nat.le_refl _⟩
    simp only [putR, KV.pv]
    rw [ren_none (okV_iff h1).1]
  | .own k, j, v, u, j', h => by
    simp only [convR] at h
    split at h
    · rename_i nm k' o n k'' kt xs hj
      obtain ⟨h1, h2⟩ := chkO_some h
      cases h2
      simp only [Bool.and_eq_true, beq_iff_eq] at h1
      obtain ⟨⟨⟨⟨⟨⟨rfl, rfl⟩, rfl⟩, rfl⟩, rfl⟩, rfl⟩, hok⟩ := h1
      refine ⟨by simp [putR, KV.pv, PV.ren, renNew, lenL, itemsP], ?_, rfl, trivial, ?_, by omega⟩
      · have hlt := (List.getElem?_eq_some_iff.1 hj).1
        have hd : obs.drop j = .arr k 0 xs :: obs.drop (j + 1) := by
          obtain ⟨hi, he⟩ := List.getElem?_eq_some_iff.1 hj
          rw [← he]; exact List.drop_eq_getElem_cons hi
        rw [hd, show j + 1 - j = 1 by omega]
        simp [putR, KOb.ob, itemsP]
      · intro o ho
        simp only [putR, List.mem_singleton] at ho
        subst ho; exact hok
    · cases h
  | .tup l, j, v, u, j', h => by
    simp only [convR] at h
    split at h
    · rename_i vs
      obtain ⟨p, hp, he⟩ := Option.map_eq_some_iff.1 h
      cases he
      obtain ⟨h1, h2, h3, h4, h5, h6⟩ := convRL_put d l j vs (us := p.1) (j' := p.2) hp (.tup p.1) 0 (by intro i _; simp [prjP])
      simp only [putR]
      exact ⟨by simp [KV.pv, PV.ren, h1], h2, h3, h4, h5, h6⟩
    · cases h
  | .agg l, j, v, u, j', h => by
    simp only [convR] at h
    split at h
    · rename_i vs
      obtain ⟨p, hp, he⟩ := Option.map_eq_some_iff.1 h
      cases he
      obtain ⟨h1, h2, h3, h4, h5, h6⟩ := convRL_put d l j vs (us := p.1) (j' := p.2) hp (.agg p.1) 0 (by intro i _; simp [prjP])
      simp only [putR]
      exact ⟨by simp [KV.pv, PV.ren, h1], h2, h3, h4, h5, h6⟩
    · cases h
theorem convRL_put (d : Nat) {obs : List Ob} : ∀ (l : List RSh) (j : Nat) (vs : List PV) {us : List PV} {j' : Nat}, convRL obs l j vs = some (us, j') → ∀ (r : PV) (i : Nat), (∀ m, m < us.length → prjP r (i + m) = us.getD m .undef) →
    pvL (putRL d l j r i).1 = renL (renNew d) vs ∧ (putRL d l j r i).2.1.map KOb.ob = (obs.drop j).take (j' - j) ∧ (putRL d l j r i).2.2 = j' ∧ okKL (putRL d l j r i).1 ∧ (∀ o ∈ (putRL d l j r i).2.1, o.ok) ∧ j ≤ j'
  | [], j, vs, us, j', h, r, i, _ => by
    cases vs with
    | nil => simp only [convRL] at h; cases h; simp [putRL, pvL, renL, okKL]
    | cons v vs => simp [convRL] at h
  | s :: l, j, vs, us, j', h, r, i, hr => by
    cases vs with
    | nil => simp [convRL] at h
    | cons v vs =>
      simp only [convRL] at h
      split at h
      · rename_i u j1 hu
        obtain ⟨p, hp, he⟩ := Option.map_eq_some_iff.1 h
        obtain ⟨us', j2⟩ := p
        cases he
        have h0 : prjP r i = u := by have := hr 0 (by simp); simpa using this
        obtain ⟨a1, a2, a3, a4, a5, a6⟩ := convR_put d s j v hu
        obtain ⟨b1, b2, b3, b4, b5, b6⟩ := convRL_put d l j1 vs hp r (i + 1) (fun m hm => by
          have := hr (m + 1) (by simp; omega)
          rw [show i + (m + 1) = i + 1 + m by omega] at this
          simpa using this)
        simp only [putRL, h0, a3]
        refine ⟨by simp [pvL, renL, a1, b1], ?_, b3, ⟨a4, b4⟩, ?_, by omega⟩
        · rw [List.map_append, a2, b2]
          have e1 : obs.drop j1 = (obs.drop j).drop (j1 - j) := by rw [List.drop_drop]; congr 1; omega
          rw [e1, show j2 - j = (j1 - j) + (j2 - j1) by omega, List.take_add]
        · intro o ho
          rcases List.mem_append.1 ho with ho | ho
          · exact a5 o ho
          · exact b5 o ho
      · cases h
end

theorem convO_put (d : Nat) {obs : List Ob} {sh : RSh} {v u : PV} (h : convO sh v obs = some u) : (putR d sh 0 u).1.pv = v.ren (renNew d) ∧ (putR d sh 0 u).2.1.map KOb.ob = obs ∧ (putR d sh 0 u).1.ok ∧ ∀ o ∈ (putR d sh 0 u).2.1, o.ok := by
  unfold convO at h
  split at h
  · rename_i r j hr
    obtain ⟨h1, h2⟩ := chkO_some h
    cases h2
    simp only [beq_iff_eq] at h1
    obtain ⟨a1, a2, a3, a4, a5, a6⟩ := convR_put d sh 0 v hr
    refine ⟨a1, ?_, a4, a5⟩
    rw [a2, h1]; simp
  · cases h

section
variable {cfg : KCfg} {tab : FuncId → Option RFn} {ks : KSt} {E R : Type} {h : Handler E} {hn : Nat → Handler E} {K : KOut → E → Option R} {r : R} {e : E} {d dep : Nat}

theorem spO_ok (hc : CfgOK cfg tab) {g : FuncId} {vs : List PV} (hvs : okVL vs = true) {x : Option (PV × List Ob)} (h : spO cfg.b.sp g vs = some x) (σ : Nm → Option Ob) :
    match x with | some p => cfg.b.sp g σ vs = some { v := p.1, new := p.2 } | none => cfg.b.sp g σ vs = none := by
  unfold spO at h
  rw [hc.loc g σ vs hvs]
  split at h
  · rename_i out ho
    obtain ⟨h1, h2⟩ := chkO_some h
    cases h2
    simp only [Bool.and_eq_true, List.isEmpty_iff, Option.isNone_iff_eq_none, Bool.not_eq_true'] at h1
    obtain ⟨⟨⟨⟨⟨⟨b, c⟩, f⟩, a2⟩, a3⟩, a4⟩, a5⟩ := h1
    simp only
    rw [ho]
    obtain ⟨v, new, upd, kill, frz, gone, ups, io, slot⟩ := out
    simp only at b c f a2 a3 a4 a5
    subst b; subst c; subst f; subst a2; subst a3; subst a4; subst a5
    rfl
  · rename_i ho; cases h; exact ho

theorem callO_ok (hc : CfgOK cfg tab) {sh : RSh} {f : PV} {vs : List PV} (hvs : okVL vs = true) (hf : okV f = true) {u : PV} (hu : callO cfg.b sh f vs = some u) (σ : Nm → Option Ob) (T : List PV) (fx : RX) (args : List RX) (hfx : fx.ev T = f) (hargs : args.map (RX.ev T) = vs) :
    ∃ out : KOut, out.Ok ∧ out = { v := (putR d sh 0 u).1, new := (putR d sh 0 u).2.1 } ∧ Evl fun n => execCall (machN cfg.b.sp tab n) (hn n) dep d σ T fx args e = some (out.out, e) := by
  unfold callO at hu
  split at hu
  · rename_i g cap
    have hcap : okVL cap = true := by simpa [okV] using hf
    have hall : okVL (vs ++ cap) = true := okVL_append hvs hcap
    have hnm : (namesL (vs ++ cap)).isEmpty = true := by rw [(okVL_names hall).1]; rfl
    have hy : hasYL (vs ++ cap) = false := (okVL_names hall).2
    split at hu
    · rename_i v obs hs
      have h1 := spO_ok hc hall hs σ
      simp only at h1
      obtain ⟨a1, a2, a3, a4⟩ := convO_put d hu
      refine ⟨_, ⟨a3, a4, by simp, by simp⟩, rfl, .of fun n => ?_⟩
      simp only [execCall, hfx, hargs, machN_sp, h1, KOut.out, a1, a2, Option.map_none, List.map_nil]
    · rename_i hs
      have h1 := spO_ok hc hall hs σ
      split at hu
      · cases hu
      rename_i hio
      have hio : ioFlag tab g = false := by rw [← hc.isIo]; simpa using hio
      split at hu
      · rename_i rr obs hL
        rw [hc.L] at hL
        have hev := lim_some hL
        obtain ⟨a1, a2, a3, a4⟩ := convO_put d hu
        refine ⟨_, ⟨a3, a4, by simp, by simp⟩, rfl, hev.mono fun n hn' => ?_⟩
        simp only at h1
        simp only [execCall, hfx, hargs, machN_sp, machN_isIo, machN_call, hio, h1, hnm, if_true, hy, Bool.false_eq_true, if_false, hn', KOut.out, a1, a2, Option.map_none, List.map_nil]
      · cases hu
    · cases hu
  · cases hu

theorem mapM_mem {α : Type} {σ : Nm → Option α} : ∀ {S : List Nm} {l : List α}, S.mapM σ = some l → l.length = S.length ∧ ∀ x ∈ l, ∃ nm, σ nm = some x := by
  intro S
  induction S with
  | nil => intro l h; simp at h; subst h; exact ⟨rfl, fun x h => by cases h⟩
  | cons y S ih =>
    intro l h
    rw [List.mapM_cons] at h
    simp only [Option.bind_eq_bind, Option.bind_eq_some_iff, Option.pure_def, Option.some.injEq] at h
    obtain ⟨o, ho, l', hl, rfl⟩ := h
    obtain ⟨q1, q2⟩ := ih hl
    refine ⟨by simp [q1], fun x hx => ?_⟩
    rcases List.mem_cons.1 hx with rfl | hx
    · exact ⟨y, ho⟩
    · exact q2 x hx

theorem mapM_map' {α β : Type} {σ : Nm → Option α} (g : α → β) : ∀ {S : List Nm} {l : List α}, S.mapM σ = some l → S.mapM (fun nm => (σ nm).map g) = some (l.map g) := by
  intro S
  induction S with
  | nil => intro l h; simp at h; subst h; rfl
  | cons y S ih =>
    intro l h
    rw [List.mapM_cons] at h
    simp only [Option.bind_eq_bind, Option.bind_eq_some_iff, Option.pure_def, Option.some.injEq] at h
    obtain ⟨o, ho, l', hl, rfl⟩ := h
    rw [List.mapM_cons, ih hl, ho]
    rfl

theorem fitObL_len : ∀ {ps xs : List KOb}, fitObL ps xs = true → ps.length = xs.length
  | [], [], _ => rfl
  | [], _ :: _, h => by simp [fitObL] at h
  | _ :: _, [], h => by simp [fitObL] at h
  | p :: ps, x :: xs, h => by
    simp only [fitObL, Bool.and_eq_true] at h
    simp [fitObL_len h.2]
theorem fitL_len : ∀ {ps xs : List KV}, fitL ps xs = true → ps.length = xs.length
  | [], [], _ => rfl
  | [], _ :: _, h => by simp [fitL] at h
  | _ :: _, [], h => by simp [fitL] at h
  | p :: ps, x :: xs, h => by
    simp only [fitL, Bool.and_eq_true] at h
    simp [fitL_len h.2]

theorem ob_noY {o : KOb} (h : o.ok) (hq : ∀ ty cs, o = .cells ty cs → khasYL cs = false) : o.ob.hasY = false := by
  cases o with
  | cells ty cs =>
    have h' : okKL cs := h
    show hasYL (pvL cs) = false
    rw [pvL_hasY h']; exact hq ty cs rfl
  | whole ty v => exact (okVL_names (okV_cells h)).2
  | arr k kt xs => exact (okVL_names h).2
  | map es => exact (okVL_names h).2
  | siter s p => rfl

theorem kcallIo_ok (hc : CfgOK cfg tab) (hk : ks.Ok) (hq : kquiet ks.objs = true) {g : FuncId} {cap : List PV} {f : RX} {args : List RX} {xs : List KV} (hxs : okKL xs) (hfe : f.ev ks.st.tmps = .fn g cap) (hvs : args.map (RX.ev ks.st.tmps) ++ cap = pvL xs)
    {P : IoSh} (hP : cfg.ioF g = some P) (hr : kcallIo cfg P g d (klook ks.objs) xs (fun out => K out e) = some r) :
    ∃ out e', K out e' = some r ∧ out.Ok ∧ Evl fun n => execCall (machN cfg.b.sp tab n) (hn n) dep d (look ks.st.objs) ks.st.tmps f args e = some (out.out, e') := by
  unfold kcallIo at hr
  simp only at hr
  generalize hS : dedupN (kreach (klook ks.objs) deepest (knamesL xs)) = S at hr
  split at hr
  · cases hr
  rename_i ins hins
  split at hr
  case isFalse => cases hr
  rename_i hcond
  obtain ⟨hsh, hy, hsp, hfit⟩ := hcond
  simp only [Bool.and_eq_true] at hfit
  obtain ⟨hfa, hfo⟩ := hfit
  obtain ⟨rs, hio, hr⟩ := bindO_some hr
  have hplace : ∃ sl d1 i1, K (ioOut P S sl d1 i1 rs) e = some r ∧ ∀ st v out, ioEnd sl d1 i1 S st v = some out → ioEndAt (look ks.st.objs) d S st v = some out := by
    unfold ioEndAt
    cases S with
    | nil => exact ⟨none, d, 0, hr, fun st v out h => h⟩
    | cons s ss =>
      simp only at hr
      split at hr
      · rename_i i1 hi1
        refine ⟨some s.1, s.1, i1, hr, fun st v out h => ?_⟩
        have : slotLen (look ks.st.objs) s.1 = some i1 := by
          rw [st_lookF hk, ← hi1]
          unfold slotLen
          congr 1
          funext j
          show ((klook ks.objs (s.1, j)).map KOb.ob).isNone = _
          cases klook ks.objs (s.1, j) <;> rfl
        simp only [this]
        exact h
      · cases hr
  obtain ⟨sl, d1, i1, hr, hplace⟩ := hplace
  have hflag : ioFlag tab g = true := by rw [← hc.ioF, hP]; rfl
  obtain ⟨fn, htab, hla, hli, hnt⟩ := hc.ioP g P hP
  obtain ⟨m1, m2⟩ := mapM_mem hins
  have hinok : ∀ o ∈ ins, o.ok := fun o ho => let ⟨nm, h⟩ := m2 o ho; klook_okF hk nm o h
  have hS' : dedupN (reach (look ks.st.objs) deepest (namesL (pvL xs))) = S := by rw [← hS, kreach_eq (klook_okF hk), st_lookF hk, pvL_names hxs]
  have hmap : S.mapM (look ks.st.objs) = some (ins.map KOb.ob) := by rw [st_lookF hk]; exact mapM_map' KOb.ob hins
  have hysok : okKL (krenL (fun m => (0, S.idxOf m)) xs) := krenL_ok _ hxs
  have hosok : ∀ o ∈ ins.map (KOb.ren fun m => (0, S.idxOf m)), o.ok := by
    intro o ho
    obtain ⟨o0, h0, rfl⟩ := List.mem_map.1 ho
    exact KOb.ren_ok _ (hinok o0 h0)
  have hlen : P.ins.length = S.length := by rw [fitObL_len hfo, List.length_map, m1]
  have hlx : ∀ l : List KV, (krenL (fun m => (0, S.idxOf m)) l).length = l.length := by
    intro l; induction l with | nil => rfl | cons x l ih => simp [krenL, ih]
  have hlena : (pvL xs).length ≤ fn.nt := by
    have h1 := fitL_len hfa
    rw [hlx] at h1
    have h2 : (pvL xs).length = xs.length := by rw [pvL_map, List.length_map]
    omega
  generalize hlv : leavesL P.args (krenL (fun m => (0, S.idxOf m)) xs) ++ leavesObL P.ins (ins.map (KOb.ren fun m => (0, S.idxOf m))) = lv at hio
  have hseg : Seg lv 0 (leavesL P.args (krenL (fun m => (0, S.idxOf m)) xs) ++ leavesObL P.ins (ins.map (KOb.ren fun m => (0, S.idxOf m)))) := by rw [hlv]; exact Seg.all lv
  obtain ⟨p1, p2, p3⟩ := fillL_ok _ _ hfa hysok lv 0 hseg.left
  obtain ⟨q1, q2, q3⟩ := fillObL_ok _ _ hfo hosok lv (fillL P.args lv 0).2 (by rw [p3]; exact hseg.right)
  have hvs2 : pvL (krenL (fun m => (0, S.idxOf m)) xs) = renL (fun m => (0, S.idxOf m)) (pvL xs) := renL_pv _ hxs
  have hos2 : (ins.map (KOb.ren fun m => (0, S.idxOf m))).map KOb.ob = (ins.map KOb.ob).map (Ob.ren fun m => (0, S.idxOf m)) := by
    rw [List.map_map, List.map_map]
    exact List.map_congr_left fun o ho => KOb.ren_ob _ (hinok o ho)
  unfold ioO at hio
  rw [p1, q1, hvs2, hos2] at hio
  split at hio
  case h_2 => cases hio
  rename_i st v hI
  rw [hc.I] at hI
  unfold limIo at hI
  rw [htab] at hI
  have hev := lim_some hI
  split at hio
  case h_2 => cases hio
  rename_i out0 hend
  rw [hlen] at hend
  have hend2 := ioEnd_ren (sl := sl) (d := d1) (i0 := i1) hend
  unfold ioFit at hio
  split at hio
  case isFalse => cases hio
  rename_i hgone
  split at hio
  case h_2 => cases hio
  rename_i a b c ha hb hcc
  cases hio
  have hsr := Seg.all (a ++ (b ++ c))
  obtain ⟨a1, a2, a3⟩ := fitP_fill P.res out0.v ha _ 0 hsr.left
  obtain ⟨b1, b2, b3⟩ := fitPObL_fill P.outs _ hb (a ++ (b ++ c)) (fill P.res (a ++ (b ++ c)) 0).2 (by rw [a3]; exact hsr.right.left)
  obtain ⟨c1, c2, c3⟩ := fitPObL_fill P.news _ hcc (a ++ (b ++ c)) (fillObL P.outs (a ++ (b ++ c)) (fill P.res (a ++ (b ++ c)) 0).2).2 (by rw [b3, a3]; exact hsr.right.right)
  have hout : (ioOut P S sl d1 i1 (a ++ (b ++ c))).out = { v := out0.v.ren (ioNm S d1 i1), new := out0.new.map (Ob.ren (ioNm S d1 i1)), gone := out0.gone.map (ioNm S d1 i1), ups := S.zip (out0.ups.map fun p => p.2.ren (ioNm S d1 i1)), io := true, slot := sl } := by
    simp only [ioOut, KOut.out, Option.map_none, Out.mk.injEq, true_and, and_true]
    refine ⟨?_, ?_, ?_, ?_⟩
    · rw [KV.ren_pv _ a2, a1]
    · rw [List.map_map, ← c1, List.map_map]
      exact List.map_congr_left fun o ho => KOb.ren_ob _ (c2 o ho)
    · rw [hgone, List.map_map]
      exact List.map_congr_left fun j _ => by simp [ioNm]
    · have e1 : out0.ups.map (fun p => p.2.ren (ioNm S d1 i1)) = (out0.ups.map (·.2)).map (Ob.ren (ioNm S d1 i1)) := by rw [List.map_map]; rfl
      rw [e1, ← b1, List.map_map]
      have key : ∀ (T : List Nm) (l : List KOb), (∀ o ∈ l, o.ok) → (T.zip (l.map (KOb.ren (ioNm S d1 i1)))).map (fun p => (p.1, p.2.ob)) = T.zip (l.map (Ob.ren (ioNm S d1 i1) ∘ KOb.ob)) := by
        intro T
        induction T with
        | nil => intro l _; rfl
        | cons s T ih =>
          intro l hl
          cases l with
          | nil => rfl
          | cons o l =>
            simp only [List.map_cons, List.zip_cons_cons, List.map_cons, Function.comp]
            rw [KOb.ren_ob _ (hl o List.mem_cons_self), ih l fun o ho => hl o (List.mem_cons_of_mem _ ho)]
      exact key S _ b2
  refine ⟨_, e, hr, ⟨KV.ren_ok _ a2, ?_, by simp [ioOut], ?_⟩, hev.shift.mono ?_⟩
  · intro o ho
    obtain ⟨o0, h0, rfl⟩ := List.mem_map.1 ho
    exact KOb.ren_ok _ (c2 o0 h0)
  · rintro ⟨s, o⟩ ho
    have := (List.of_mem_zip ho).2
    obtain ⟨o0, h0, rfl⟩ := List.mem_map.1 this
    exact KOb.ren_ok _ (b2 o0 h0)
  · rintro k ⟨j, rfl, hj⟩
    have hioE : (machN cfg.b.sp tab (j + 1)).io g d (look ks.st.objs) (pvL xs) = some (ioOut P S sl d1 i1 (a ++ (b ++ c))).out := by
      show ioOf (evalM cfg.b.sp tab j) j tab g d (look ks.st.objs) (pvL xs) = _
      unfold ioOf
      rw [htab]
      simp only
      rw [hS', hmap]
      have hcd : (!hasYL (pvL xs) && shutR (look ks.st.objs) S && (ins.map KOb.ob).all (fun o => !o.hasY) && (decide ((pvL xs).length ≤ fn.nt) && decide (S.length ≤ fn.nt) && decide (0 < fn.nt))) = true := by
        simp only [Bool.and_eq_true, Bool.not_eq_true', decide_eq_true_eq]
        refine ⟨⟨⟨by rw [pvL_hasY hxs]; exact hy, ?_⟩, ?_⟩, ⟨hlena, by omega⟩, hnt⟩
        · rw [st_lookF hk, ← kshut_eq (klook_okF hk)]; exact hsh
        · rw [List.all_eq_true]
          intro o ho
          obtain ⟨o0, h0, rfl⟩ := List.mem_map.1 ho
          obtain ⟨nm, hnm⟩ := m2 o0 h0
          have := ob_noY (hinok o0 h0) fun ty cs hcs => quiet_look hq nm ty cs (by rw [hnm, hcs])
          simp [this]
      simp only [chk, hcd, if_true]
      have hj' : ioRaw (evalM cfg.b.sp tab j) j fn ((ins.map KOb.ob).map (Ob.ren fun m => (0, S.idxOf m))) (renL (fun m => (0, S.idxOf m)) (pvL xs)) = some (st, v) := hj
      rw [hj']
      simp only
      rw [hout]
      exact hplace _ _ _ hend2
    simp only [execCall, hfe, hvs, machN_sp, machN_isIo, hc.spF g hsp, hflag, if_true, hioE]

theorem kcall_ok (hc : CfgOK cfg tab) (hh : HOk h hn) (hk : ks.Ok) (hq : kquiet ks.objs = true) {f : RX} {args : List RX} (hx : (f :: args).all okX = true)
    (hr : kcall cfg h d (klook ks.objs) ks.tmps f args e K = some r) :
    ∃ out e', K out e' = some r ∧ out.Ok ∧ Evl fun n => execCall (machN cfg.b.sp tab n) (hn n) dep d (look ks.st.objs) ks.st.tmps f args e = some (out.out, e') := by
  have hxf : okX f = true := List.all_eq_true.1 hx f (by simp)
  have hxa : args.all okX = true := List.all_eq_true.2 fun x hm => List.all_eq_true.1 hx x (by simp [hm])
  have hfo := kv_ok hk hxf
  have hao := map_ok hk hxa
  unfold kcall at hr
  split at hr
  · rename_i l hf
    have hfe : f.ev ks.st.tmps = .yld l := by rw [st_ev hk, hf]; rfl
    simp only at hr
    split at hr
    · rename_i vs hv
      obtain ⟨p, hp, hr⟩ := bindO_some hr
      have hok := clL_ok hao hv
      have hnm : (namesL vs).isEmpty = true := by rw [(okVL_names hok).1]; rfl
      refine ⟨_, _, hr, KOut.plain (v := .cv (.bool p.1)) rfl, (hh _ _ _ _ hp).mono fun n hn' => ?_⟩
      simp [execCall, hfe, map_ev hk, clL_pv hv, hnm, (okVL_names hok).2, chk, hn', KOut.out, KV.pv]
    · split at hr
      · cases hr
      · rename_i hne
        split at hr
        · rename_i hsh
          obtain ⟨h1, hr⟩ := chkO_some hr
          obtain ⟨p, hp, hr⟩ := bindO_some hr
          have hne' : (namesL (pvL (args.map (RX.kv ks.tmps)))).isEmpty = false := by rw [dst_names hao]; simpa using hne
          rw [kreach_eq (klook_okF hk), kshut_eq (klook_okF hk), ← st_lookF hk, ← pvL_names hao] at hsh
          rw [closeL_st hk hao] at h1 hp
          unfold noYL at h1
          refine ⟨_, _, hr, ⟨rfl, by simp, by simp, by simp⟩, (hh _ _ _ _ hp).mono fun n hn' => ?_⟩
          simp only [execCall, hfe, map_ev hk, hne', Bool.false_eq_true, if_false, hsh, h1, Bool.and_self, chk, if_true, hn', KOut.out, KV.pv]
          rw [kreach_eq (klook_okF hk), ← st_lookF hk, ← pvL_names hao]
          rfl
        · cases hr
  · rename_i g caps hf
    rw [hf] at hfo
    have hcaps : okKL caps := hfo
    have hfe : f.ev ks.st.tmps = .fn g (pvL caps) := by rw [st_ev hk, hf]; rfl
    have hxs : okKL (args.map (RX.kv ks.tmps) ++ caps) := okKL_append hao hcaps
    have hvs : args.map (RX.ev ks.st.tmps) ++ pvL caps = pvL (args.map (RX.kv ks.tmps) ++ caps) := by rw [pvL_append, map_ev hk]
    simp only at hr
    split at hr
    · rename_i P hP
      exact kcallIo_ok hc hk hq hxs hfe hvs hP hr
    rename_i hP
    have hio : ioFlag tab g = false := by rw [← hc.ioF, hP]; rfl
    split at hr
    · rename_i ex p nm hxe
      rw [hxe] at hxs hvs
      split at hr
      · rename_i t n err ty cs ht herr hlk
        have hq := chkO_some hr
        clear hr
        obtain ⟨hcs, hr⟩ := hq
        have hcs : cs.length = n := Nat.eq_of_beq_eq_true hcs
        have hlk' : look ks.st.objs nm = some (.cells ty (pvL cs)) := by rw [st_look hk, hlk]; rfl
        have hcs' : (pvL cs).length = n := by rw [← hcs, pvL_length]
        have hero := KV.cl_ok hxs.1 herr
        have hpv : pvL [ex, .iface p (.ref nm 0)] = [err, .iface p (.ref nm 0)] := by simp [pvL, KV.pv, KV.cl_pv herr]
        rw [hpv] at hvs
        obtain ⟨s1, s2⟩ := hc.asOk g p t n ht (look ks.st.objs) nm _ _ hlk' hcs'
        unfold asP at hr
        split at hr
        · refine ⟨_, _, hr, KOut.plain (v := .lit false) trivial, .of fun n => ?_⟩
          simp only [execCall, hfe, hvs, machN_sp, s1]
          rfl
        · rename_i t' x
          split at hr
          · rename_i htt
            subst htt
            have hq := chkO_some hr
            clear hr
            obtain ⟨hx1, hr⟩ := hq
            refine ⟨_, _, hr, KOut.turn (v := .lit true) (o := .whole _ x) trivial (show okV x = true by simpa [okV] using hero), .of fun n => ?_⟩
            simp only [execCall, hfe, hvs, machN_sp, s2 x hx1]
            rfl
          · cases hr
        · cases hr
      · cases hr
    · split at hr
      · rename_i vs hv
        obtain ⟨u, hu, hr⟩ := bindO_some hr
        have hok := clL_ok hxs hv
        rw [clL_pv hv] at hvs
        have hu' : callO cfg.b (cfg.rsh g).1 (.fn g []) (args.map (RX.ev ks.st.tmps) ++ pvL caps) = some u := by rw [hvs]; exact hu
        have hcv : okVL (pvL caps) = true := okVL_of (ys := pvL caps) hok fun y hy => by rw [← hvs]; exact List.mem_append_right _ hy
        have hav : okVL (args.map (RX.ev ks.st.tmps)) = true := okVL_of hok fun y hy => by rw [← hvs]; exact List.mem_append_left _ hy
        have hu2 : callO cfg.b (cfg.rsh g).1 (.fn g (pvL caps)) (args.map (RX.ev ks.st.tmps)) = some u := by
          unfold callO at hu' ⊢
          simpa using hu'
        obtain ⟨out, h1, h2, h3⟩ := callO_ok (d := d) (dep := dep) (e := e) (hn := hn) hc hav (by simpa [okV] using hcv) hu2 (look ks.st.objs) ks.st.tmps f args hfe rfl
        subst h2
        exact ⟨_, _, hr, h1, h3⟩
      · split at hr
        · cases hr
        · rename_i hne
          split at hr
          · rename_i hsh
            obtain ⟨u, hu, hr⟩ := bindO_some hr
            have hne1 : (knamesL (args.map (RX.kv ks.tmps) ++ caps)).isEmpty = false := by
              cases hq : (knamesL (args.map (RX.kv ks.tmps) ++ caps)).isEmpty with
              | false => rfl
              | true => exact absurd (.inl hq) hne
            have hsp : cfg.spF g = false := by
              cases hq : cfg.spF g with
              | false => rfl
              | true => exact absurd (.inr hq) hne
            have hne' : (namesL (pvL (args.map (RX.kv ks.tmps) ++ caps))).isEmpty = false := by rw [dst_names hxs]; exact hne1
            rw [kreach_eq (klook_okF hk), kshut_eq (klook_okF hk), ← st_lookF hk, ← pvL_names hxs] at hsh
            rw [closeL_st hk hxs] at hu
            unfold lendO at hu
            split at hu
            · cases hu
            · rename_i hy
              split at hu
              · rename_i rr obs hL
                obtain ⟨hfr, hu⟩ := chkO_some hu
                rw [hc.L] at hL
                have hev := lim_some hL
                obtain ⟨a1, a2, a3, a4⟩ := convO_put d hu
                refine ⟨_, _, hr, ⟨a3, a4, by simp, by simp⟩, hev.mono fun n hn' => ?_⟩
                simp only [beq_iff_eq] at hfr
                rw [hc.leans] at hfr
                have hy' : hasYL (subL (closed (look ks.st.objs)) (pvL (args.map (RX.kv ks.tmps) ++ caps))) = false := by simpa using hy
                simp only [execCall, hfe, hvs, machN_sp, machN_isIo, machN_leans, machN_call, hio, hc.spF g hsp, hne', Bool.false_eq_true, if_false, hsh, hy', Bool.not_false, Bool.and_self, chk, if_true, hn', KOut.out, a1, a2, hfr, Option.map_none, List.map_nil]
                rw [kreach_eq (klook_okF hk), ← st_lookF hk, ← pvL_names hxs]
              · cases hu
          · cases hr
  · rename_i v hf
    rw [hf] at hfo
    have hfe : f.ev ks.st.tmps = v := by rw [st_ev hk, hf]; rfl
    split at hr
    · rename_i vs hv
      obtain ⟨u, hu, hr⟩ := bindO_some hr
      obtain ⟨out, h1, h2, h3⟩ := callO_ok (d := d) (dep := dep) (e := e) (hn := hn) hc (clL_ok hao hv) hfo hu (look ks.st.objs) ks.st.tmps f args hfe (by rw [map_ev hk, clL_pv hv])
      subst h2
      exact ⟨_, _, hr, h1, h3⟩
    · cases hr
  · cases hr
end
end Go.Ab

/-
  Steps and regions.
-/
namespace Go.Ab

variable {cfg : KCfg} {tab : FuncId → Option RFn} {ks : KSt} {E R : Type} {h : Handler E} {hn : Nat → Handler E} {r : R} {e : E} {d dep : Nat}

theorem kfresh_ok (hk : ks.Ok) {o : ROper} (hf : kfresh o ks = true) : freshAt o ks.st = true := by
  unfold kfresh at hf
  unfold freshAt
  split
  · rename_i hm
    rw [if_pos hm] at hf
    split
    · rename_i d' hd
      rw [hd] at hf
      simp only [Bool.and_eq_true, Nat.blt_eq, List.isEmpty_iff] at hf
      have : ks.st.objs[d']? = some [] := by
        show (denseO ks.nt ks.objs)[d']? = _
        rw [denseO_get?, if_pos hf.1, hf.2]; rfl
      rw [this]
    · rename_i hd
      rw [hd] at hf
      exact hf
  · rfl

theorem koutOf_ok (hc : CfgOK cfg tab) (hh : HOk h hn) (hk : ks.Ok) {o : ROper} {K : KOut → E → Option R} (hr : koutOf cfg h o ks e K = some r) :
    kquiet ks.objs = true ∧ ∃ out e', K out e' = some r ∧ out.Ok ∧ Evl fun n => outOf (machN cfg.b.sp tab n) (hn n) dep o ks.st e = some (out.out, e') := by
  unfold koutOf at hr
  split at hr
  · rename_i hcond
    obtain ⟨h1, h2, h3⟩ := hcond
    refine ⟨h3, ?_⟩
    have hf := kfresh_ok hk h1
    split at hr
    · rename_i f args hop
      rw [hop] at h2
      obtain ⟨out, e', a1, a2, a3⟩ := kcall_ok (dep := dep) hc hh hk h3 h2 hr
      split at a1
      case isFalse => cases a1
      rename_i hg
      have hgd : goodDst o.dst out.out = true := by
        simp only [goodDst, KOut.out]
        have : (out.new.map KOb.ob).isEmpty = out.new.isEmpty := by cases out.new <;> rfl
        rw [this]; exact hg
      refine ⟨out, e', a1, a2, a3.mono fun n hn' => ?_⟩
      simp only [outOf, chk, hf, if_true, hop, hn', hgd]
    · rename_i hop
      obtain ⟨out, a1, a2, a3⟩ := execK_ok hk h3 h2 hr
      refine ⟨out, e, a1, a2, .of fun n => ?_⟩
      simp only [outOf, chk, hf, if_true]
      cases hq : o.op with
      | call f args => exact (hop f args hq).elim
      | _ => rw [hq] at a3; simp only [a3]
  · cases hr

theorem spPut_same_pv {i : Nat} {v : PV} {b : Bool} (hk : ks.Ok) (hg : spGet ks.tmps i = .cv v) (hv : v = .bool b) : ({ ks with tmps := spPut i (.lit b) ks.tmps } : KSt).st = ks.st ∧ ({ ks with tmps := spPut i (.lit b) ks.tmps } : KSt).Ok := by
  have hlt : i < ks.nt := by
    apply Classical.byContradiction
    intro hlt
    rw [hk.tm.get_ge (by omega)] at hg; cases hg
  refine ⟨?_, hk.tm.put hlt trivial rfl, hk.ob, hk.kp⟩
  unfold KSt.st
  simp only
  rw [dense_put]
  congr 1
  apply List.ext_getElem?
  intro j
  rw [List.getElem?_set, dense_length]
  by_cases hj : i = j
  · subst hj
    simp only [if_true]
    rw [if_pos hlt, dense_get?, if_pos hlt, hg, hv]
    rfl
  · rw [if_neg hj]

theorem kwants_ok (hk : ks.Ok) {ops : List ROper} {o : ROper} {K : Bool → KSt → Option R} (hr : kwants ops o ks K = some r) : ∃ b k', K b k' = some r ∧ k'.Ok ∧ k'.st = ks.st ∧ wants ops o ks.st.tmps = some b ∧
    k'.objs = ks.objs ∧ (∀ x : RX, (x.kv k'.tmps).names = (x.kv ks.tmps).names ∧ (x.kv k'.tmps).hasY = (x.kv ks.tmps).hasY) := by
  unfold kwants at hr
  unfold wants
  split at hr
  · rename_i hg; rw [hg]; exact ⟨_, _, hr, hk, rfl, rfl, rfl, fun _ => ⟨rfl, rfl⟩⟩
  · rename_i j want hg
    rw [hg]
    split at hr
    · rename_i p hp
      split at hr
      · rename_i d' hd
        have hget : ks.st.tmps.getD d' .undef = (spGet ks.tmps d').pv := dense_getD hk.tm d'
        simp only [hp, hd, hget]
        split at hr
        · rename_i b hb; rw [hb]; exact ⟨_, _, hr, hk, rfl, rfl, rfl, fun _ => ⟨rfl, rfl⟩⟩
        · rename_i hb; rw [hb]; exact ⟨_, _, hr, hk, rfl, rfl, rfl, fun _ => ⟨rfl, rfl⟩⟩
        · rename_i v hb
          rw [hb]
          have hsame : ∀ b, ∀ x : RX, (x.kv (spPut d' (.lit b) ks.tmps)).names = (x.kv ks.tmps).names ∧ (x.kv (spPut d' (.lit b) ks.tmps)).hasY = (x.kv ks.tmps).hasY := by
            intro b x
            cases x with
            | c v => exact ⟨rfl, rfl⟩
            | t i =>
              simp only [RX.kv, spGet_put]
              by_cases hi : i = d'
              · subst hi; rw [if_pos rfl, hb]; exact ⟨rfl, rfl⟩
              · rw [if_neg hi]; exact ⟨rfl, rfl⟩
          rcases iteP_some hr with ⟨hv, hr⟩ | ⟨hv, hr⟩
          · obtain ⟨s1, s2⟩ := spPut_same_pv hk hb hv
            subst hv
            exact ⟨_, _, hr, s2, s1, rfl, rfl, hsame true⟩
          · obtain ⟨s1, s2⟩ := spPut_same_pv hk hb hv
            subst hv
            exact ⟨_, _, hr, s2, s1, rfl, rfl, hsame false⟩
        · cases hr
      · cases hr
    · cases hr

theorem kstep_ok (hc : CfgOK cfg tab) (hh : HOk h hn) (hk : ks.Ok) {ops : List ROper} {o : ROper} {K : KSt → E → Option R} (hr : kstep cfg h ops o ks e K = some r) :
    ∃ k' e', K k' e' = some r ∧ k'.Ok ∧ Evl fun n => stepG (machN cfg.b.sp tab n) (hn n) dep ops o ks.st e = some (k'.st, e') := by
  unfold kstep at hr
  obtain ⟨b, k1, hr, hk1, hst, hw, _, _⟩ := kwants_ok hk hr
  cases b with
  | true =>
    simp only at hr
    obtain ⟨hq, out, e', h1, h2, h3⟩ := koutOf_ok (dep := dep) hc hh hk1 hr
    rw [force_eq] at h1
    obtain ⟨s1, s2⟩ := kapply_both hk1 hq o.dst h2
    refine ⟨_, _, h1, s2, h3.mono fun n hn' => ?_⟩
    rw [hst] at hn' s1
    simp only [stepG, hw, stepOp, hn', s1]
  | false =>
    simp only at hr
    rw [force_eq] at hr
    have : (kapply k1 o.dst { v := .sk }).st = apply k1.st o.dst { v := .tup [] } ∧ (kapply k1 o.dst { v := .sk }).Ok := by
      by_cases hq : kquiet k1.objs = true
      · exact kapply_both hk1 hq o.dst (o := { v := .sk }) ⟨trivial, by simp, by simp, by simp⟩
      · exact kapply_sk hk1 o.dst
    refine ⟨_, _, hr, this.2, .of fun n => ?_⟩
    simp only [stepG, hw, this.1, hst]
where
  kapply_sk {ks : KSt} (hk : ks.Ok) (dst : Option Nat) : (kapply ks dst { v := .sk }).st = apply ks.st dst { v := .tup [] } ∧ (kapply ks dst { v := .sk }).Ok := by
    unfold kapply
    rw [apply_eq]
    simp only [kupd, kkill, kfrzs, bupd, bkill, List.isEmpty_nil, if_true, bgone, bturn, kgone]
    have hkt : kturn [] ks = ks := rfl
    have hke : kext none [] ks = ks := rfl
    have hkn : newAt none [] = [] := rfl
    rw [hkt, hke, hkn]
    simp only [bext, newAtO]
    cases dst with
    | none => exact ⟨rfl, hk⟩
    | some d =>
      simp only [kset, bset]
      cases hd : Nat.blt d ks.nt with
      | true =>
        have hd' : d < ks.nt := by simpa [Nat.blt_eq] using hd
        refine ⟨?_, hk.tm.set (v := .sk) hd' trivial, hk.ob, hk.kp⟩
        unfold KSt.st
        simp only
        rw [dense_set]
        rfl
      | false =>
        have hd' : ¬ d < ks.nt := by intro h; rw [show Nat.blt d ks.nt = true by simpa [Nat.blt_eq] using h] at hd; cases hd
        refine ⟨?_, hk⟩
        unfold KSt.st
        simp only
        rw [List.set_eq_of_length_le (by rw [dense_length]; omega)]
        rfl

theorem kruns_ok (hc : CfgOK cfg tab) (hh : HOk h hn) {ops : List ROper} : ∀ (l : List ROper) {ks : KSt} {e : E} {K : KSt → E → Option R}, ks.Ok → kruns cfg h ops l ks e K = some r →
    ∃ k' e', K k' e' = some r ∧ k'.Ok ∧ Evl fun n => runOps (machN cfg.b.sp tab n) (hn n) dep ops l ks.st e = some (k'.st, e') := by
  intro l
  induction l with
  | nil => intro ks e K hk hr; exact ⟨ks, e, hr, hk, .of fun n => rfl⟩
  | cons o rest ih =>
    intro ks e K hk hr
    simp only [kruns] at hr
    obtain ⟨k1, e1, hr, hk1, h1⟩ := kstep_ok (dep := dep) hc hh hk hr
    obtain ⟨k2, e2, hr, hk2, h2⟩ := ih hk1 hr
    exact ⟨k2, e2, hr, hk2, h1.mono2 h2 fun n a b => by simp only [runOps, a, b]⟩

/-! ### Drawn -/

theorem kstays_ok (o : KOut) : kstays o = outStays o.out := by
  unfold kstays outStays KOut.out
  cases o.upd <;> cases o.ups <;> rfl

theorem kturns_ok (o : KOut) : kturns o = outTurns o.out := by
  unfold kturns outTurns KOut.out
  cases o.ups <;> rfl

theorem kupdNames_ok (o : KOut) : kupdNames o = updNames o.out := by
  unfold kupdNames updNames KOut.out
  cases o.upd with
  | none => rfl
  | some p => rfl

theorem kinfo_ok (hk : ks.Ok) {ops : List ROper} {i : Nat} {o : ROper} (hx : o.op.xs.all okX = true) {out : KOut} (ho : out.Ok) : kinfo ops i o ks out = infoOf ops i o ks.st out.out := by
  unfold kinfo infoOf
  have hok := map_ok hk hx
  simp only
  have hn : out.out.new.flatMap Ob.names = out.new.flatMap KOb.names := by
    show (out.new.map KOb.ob).flatMap Ob.names = _
    rw [List.flatMap_map]
    have : ∀ l : List KOb, (∀ x ∈ l, x.ok) → l.flatMap (fun a => a.ob.names) = l.flatMap KOb.names := by
      intro l
      induction l with
      | nil => intro _; rfl
      | cons x l ih =>
        intro h
        rw [List.flatMap_cons, List.flatMap_cons, KOb.ob_names (h x List.mem_cons_self), ih fun y hy => h y (List.mem_cons_of_mem _ hy)]
    exact this _ ho.new
  have hv : out.out.v.names = out.v.names := KV.pv_names ho.v
  rw [map_ev hk, kreach_eq (klook_okF hk), ← st_lookF hk, ← pvL_names hok, ← pvL_hasY hok, kstays_ok, kturns_ok, kupdNames_ok, hn, hv]
  rfl

theorem koutOf_x {o : ROper} {K : KOut → E → Option R} (hr : koutOf cfg h o ks e K = some r) : o.op.xs.all okX = true := by
  unfold koutOf at hr
  split at hr
  · rename_i hcond; exact hcond.2.1
  · cases hr

theorem kstepD_ok (hc : CfgOK cfg tab) (hh : HOk h hn) (hk : ks.Ok) {ops : List ROper} {i : Nat} {o : ROper} {K : KSt → E → Info → Option R} (hr : kstepD cfg h ops i o ks e K = some r) :
    ∃ k' e' inf, K k' e' inf = some r ∧ k'.Ok ∧ Evl fun n => stepD (machN cfg.b.sp tab n) (hn n) dep ops i o ks.st e = some (k'.st, e', inf) := by
  unfold kstepD at hr
  obtain ⟨b, k1, hr, hk1, hst, hw, _, _⟩ := kwants_ok hk hr
  cases b with
  | true =>
    simp only at hr
    have hxs := koutOf_x hr
    obtain ⟨hq, out, e', h1, h2, h3⟩ := koutOf_ok (dep := dep) hc hh hk1 hr
    rw [force_eq] at h1
    obtain ⟨s1, s2⟩ := kapply_both hk1 hq o.dst h2
    refine ⟨_, _, _, h1, s2, h3.mono fun n hn' => ?_⟩
    rw [hst] at hn' s1
    simp only [stepD, outD, hw, hn', s1]
    rw [kinfo_ok hk1 hxs h2, hst]
  | false =>
    simp only at hr
    rw [force_eq] at hr
    have := kstep_ok.kapply_sk hk1 o.dst
    refine ⟨_, _, _, hr, this.2, .of fun n => ?_⟩
    simp only [stepD, outD, hw, this.1, hst]

theorem krunsD_ok (hc : CfgOK cfg tab) (hh : HOk h hn) {ops : List ROper} : ∀ (l : List (Nat × Nat)) (infos : List Info) {ks : KSt} {e : E} {K : KSt → E → Option R}, ks.Ok → krunsD cfg h ops l infos ks e K = some r →
    ∃ k' e', K k' e' = some r ∧ k'.Ok ∧ Evl fun n => runD (machN cfg.b.sp tab n) (hn n) dep ops l infos ks.st e = some (k'.st, e') := by
  intro l
  induction l with
  | nil => intro infos ks e K hk hr; exact ⟨ks, e, hr, hk, .of fun n => rfl⟩
  | cons p rest ih =>
    obtain ⟨i, bef⟩ := p
    intro infos ks e K hk hr
    simp only [krunsD] at hr
    split at hr
    · rename_i o ho
      obtain ⟨k1, e1, inf, hr, hk1, h1⟩ := kstepD_ok (dep := dep) hc hh hk hr
      split at hr
      · rename_i hall
        obtain ⟨k2, e2, hr, hk2, h2⟩ := ih _ hk1 hr
        exact ⟨k2, e2, hr, hk2, h1.mono2 h2 fun n a b => by simp only [runD, ho, a, chk, hall, if_true, b]⟩
      · cases hr
    · cases hr
end Go.Ab

/-
  What is let go, loops' states, states of the same shape.
-/
namespace Go.Ab
variable {ks : KSt}

theorem denseO_getD {nt : Nat} {l : SpO} (h : SoWf nt l) (d : Nat) : (denseO nt l).getD d [] = (soGet l d).map KOb.ob := by
  rw [List.getD_eq_getElem?_getD, denseO_get?]
  split
  · rfl
  · rw [h.get_ge (by omega)]; rfl

theorem kclean_st (h : ks.Ok) (ds : List Nat) : (kclean ds ks).st = clean ds ks.st ∧ (kclean ds ks).Ok ∧ (kclean ds ks).nt = ks.nt := by
  have hall : (ds.all fun d => (ks.st.objs.getD d []).isEmpty) = ds.all fun d => (soGet ks.objs d).isEmpty := by
    congr 1
    funext d
    show ((denseO ks.nt ks.objs).getD d []).isEmpty = _
    rw [denseO_getD h.ob]
    cases soGet ks.objs d <;> rfl
  unfold kclean clean
  rw [hall]
  split
  · exact ⟨rfl, h, rfl⟩
  · have h1 := koff_ok (fun m => ds.contains m.1) h
    have h2 := koff_st (fun m => ds.contains m.1) h
    refine ⟨?_, ⟨h1.tm, h1.ob.sub (soKeep_sub _ _), h1.kp⟩, rfl⟩
    have e : subOff (fun m => ds.contains m.1) = fun m => if ds.contains m.1 = true then some none else none := rfl
    rw [e] at h2
    simp only
    rw [← h2]
    unfold KSt.st
    simp only
    congr 1
    refine denseO_ext (by simp [denseO_length]) fun i hi => ?_
    rw [List.getElem?_map, List.getElem?_zipIdx, denseO_get?, if_pos hi, soGet_keep]
    simp only [Option.map_some, Nat.zero_add]
    cases ds.contains i <;> simp

theorem clean_congr {ds ds' : List Nat} (h : ∀ d, d ∈ ds ↔ d ∈ ds') (st : St) : clean ds st = clean ds' st := by
  have h1 : ∀ p : Nat → Bool, ds.all p = ds'.all p := fun p => by
    rw [Bool.eq_iff_iff, List.all_eq_true, List.all_eq_true]
    exact ⟨fun a x hx => a x ((h x).2 hx), fun a x hx => a x ((h x).1 hx)⟩
  have h2 : ∀ i, ds.contains i = ds'.contains i := fun i => by
    rw [Bool.eq_iff_iff, List.contains_iff_mem, List.contains_iff_mem]
    exact h i
  unfold clean
  simp only [h1, h2]

theorem namesL_flat {nm : Nm} {xs : List PV} : nm ∈ namesL xs ↔ ∃ x ∈ xs, nm ∈ x.names := by
  induction xs with
  | nil => simp [namesL]
  | cons x xs ih => simp [namesL, ih]

theorem keep_names (h : ks.Ok) (nm : Nm) : nm ∈ namesL ks.st.keep ↔ nm ∈ ks.keep.flatMap spNames := by
  rw [namesL_flat]
  show (∃ x ∈ ks.keep.flatMap (dense ks.nt), nm ∈ x.names) ↔ _
  simp only [List.mem_flatMap]
  constructor
  · rintro ⟨x, ⟨sp, hsp, hx⟩, hn⟩
    exact ⟨sp, hsp, (dense_names (h.kp sp hsp) nm).1 (namesL_flat.2 ⟨x, hx, hn⟩)⟩
  · rintro ⟨sp, hsp, hn⟩
    obtain ⟨x, hx, hn⟩ := namesL_flat.1 ((dense_names (h.kp sp hsp) nm).2 hn)
    exact ⟨x, ⟨sp, hsp, hx⟩, hn⟩

theorem kunnamed_iff (h : ks.Ok) (d : Nat) : d ∈ unnamed ks.st ↔ d ∈ kunnamed ks := by
  have hR : ∀ p : Nm → Bool, (namesL ks.st.tmps ++ namesL ks.st.keep ++ ks.st.objs.flatMap fun l => l.flatMap Ob.names).all p = (spNames ks.tmps ++ ks.keep.flatMap spNames ++ soNames ks.objs).all p := by
    intro p
    have e1 : ∀ nm, nm ∈ namesL ks.st.tmps ↔ nm ∈ spNames ks.tmps := fun nm => dense_names h.tm nm
    have e2 := keep_names h
    have e3 : ∀ nm, nm ∈ (ks.st.objs.flatMap fun l => l.flatMap Ob.names) ↔ nm ∈ soNames ks.objs := fun nm => denseO_names h.ob nm
    rw [Bool.eq_iff_iff, List.all_eq_true, List.all_eq_true]
    refine ⟨fun a x hx => a x ?_, fun a x hx => a x ?_⟩
    · simp only [List.mem_append] at hx ⊢
      rw [e1, e2, e3]; exact hx
    · simp only [List.mem_append] at hx ⊢
      rw [← e1, ← e2, ← e3]; exact hx
  unfold unnamed kunnamed
  simp only [List.mem_filter, List.mem_range, List.mem_map, hR, Bool.and_eq_true]
  have hget : ks.st.objs.getD d [] = (soGet ks.objs d).map KOb.ob := denseO_getD h.ob d
  rw [hget]
  constructor
  · rintro ⟨_, h1, h2⟩
    have hne : soGet ks.objs d ≠ [] := by intro e; rw [e] at h1; simp at h1
    refine ⟨_, ⟨soGet_mem hne, ?_, h2⟩, rfl⟩
    simpa using hne
  · rintro ⟨p, ⟨hp, h1, h2⟩, rfl⟩
    have := h.ob.get_mem hp
    have hlt := h.ob.lt p hp
    refine ⟨?_, ?_, h2⟩
    · show p.1 < (denseO ks.nt ks.objs).length
      rw [denseO_length]; exact hlt
    · rw [this]; simpa using h1

theorem kkeep_st (h : ks.Ok) (p : Nat → Bool) : ({ ks with tmps := spKeep p ks.tmps } : KSt).st = { ks.st with tmps := ks.st.tmps.zipIdx.map fun (v, i) => if p i then v else .undef } ∧ ({ ks with tmps := spKeep p ks.tmps } : KSt).Ok := by
  refine ⟨?_, h.tm.sub (spKeep_sub _ _), h.ob, h.kp⟩
  unfold KSt.st
  simp only
  congr 1
  refine dense_ext (by simp [dense_length]) fun i hi => ?_
  rw [List.getElem?_map, List.getElem?_zipIdx, dense_get?, if_pos hi, spGet_keep]
  simp only [Option.map_some, Nat.zero_add]
  cases p i <;> rfl

theorem ktidy_st (h : ks.Ok) (lv : Option (List Nat)) : (ktidy lv ks).st = tidy lv ks.st ∧ (ktidy lv ks).Ok := by
  cases lv with
  | none => exact ⟨rfl, h⟩
  | some l =>
    unfold ktidy tidy keepOnly
    simp only
    obtain ⟨h1, h2⟩ := kkeep_st h (fun i => l.contains i)
    obtain ⟨h3, h4, _⟩ := kclean_st h2 (kunnamed { ks with tmps := spKeep (fun i => l.contains i) ks.tmps })
    refine ⟨?_, h4⟩
    rw [h3, ← h1]
    exact clean_congr (fun d => (kunnamed_iff h2 d).symm) _

theorem leaves_self_cv {v : PV} : leaves (.cv v) (.cv v) = [v] := rfl

theorem noUndef_mem {l : Sp} (h : noUndef (leavesSp l l) = true) {i : Nat} {v : PV} (hm : (i, KV.cv v) ∈ l) : isUndef v = false := by
  unfold noUndef at h
  induction l with
  | nil => cases hm
  | cons p l ih =>
    obtain ⟨k, u⟩ := p
    simp only [leavesSp, List.all_append, Bool.and_eq_true] at h
    rcases List.mem_cons.1 hm with e | hm
    · cases e
      have := h.1
      rw [leaves_self_cv] at this
      simpa using this
    · exact ih h.2 hm

theorem undefs_iff {k0 : KSt} (h0 : k0.Ok) (hu : noUndef (leavesSp k0.tmps k0.tmps) = true) {i : Nat} (hi : i < k0.nt) : (undefs k0.st).contains i = !spHas k0.tmps i := by
  have hmem : i ∈ undefs k0.st ↔ isUndef (spGet k0.tmps i).pv = true := by
    unfold undefs
    simp only [List.mem_map, List.mem_filter]
    constructor
    · rintro ⟨⟨v, j⟩, ⟨hv, hq⟩, rfl⟩
      have := List.mem_zipIdx hv
      rw [List.mem_zipIdx_iff_getElem?] at hv
      simp only at hv
      have e : (dense k0.nt k0.tmps)[j]? = some v := hv
      rw [dense_get?, if_pos hi] at e
      cases e
      exact hq
    · intro hq
      refine ⟨((spGet k0.tmps i).pv, i), ⟨?_, hq⟩, rfl⟩
      rw [List.mem_zipIdx_iff_getElem?]
      show (dense k0.nt k0.tmps)[i]? = _
      rw [dense_get?, if_pos hi]
  rw [Bool.eq_iff_iff, List.contains_iff_mem, hmem]
  cases hh : spHas k0.tmps i with
  | false =>
    have : spGet k0.tmps i = .un := by
      apply Classical.byContradiction
      intro hne
      rw [(h0.tm.has_iff i).2 hne] at hh; cases hh
    simp [this, KV.pv, isUndef]
  | true =>
    have hne := (h0.tm.has_iff i).1 hh
    have hm := spGet_mem hne
    simp only [Bool.not_true, Bool.false_eq_true, iff_false]
    intro hq
    cases hg : spGet k0.tmps i with
    | un => exact hne hg
    | cv v =>
      rw [hg] at hm hq
      have := noUndef_mem hu hm
      simp only [KV.pv] at hq
      rw [this] at hq; cases hq
    | _ => rw [hg] at hq; simp [KV.pv, isUndef] at hq

theorem kdrop_st {k0 : KSt} (h0 : k0.Ok) (hu : noUndef (leavesSp k0.tmps k0.tmps) = true) (h : ks.Ok) (hnt : ks.nt = k0.nt) : (kdrop k0 ks).st = drop (undefs k0.st) ks.st ∧ (kdrop k0 ks).Ok ∧ (kdrop k0 ks).nt = ks.nt := by
  unfold kdrop drop
  simp only
  obtain ⟨h1, h2⟩ := kkeep_st h (spHas k0.tmps)
  obtain ⟨h3, h4, h5⟩ := kclean_st h2 (kunnamed { ks with tmps := spKeep (spHas k0.tmps) ks.tmps })
  refine ⟨?_, h4, h5⟩
  have h6 : undefAt (undefs k0.st) ks.st = ({ ks with tmps := spKeep (spHas k0.tmps) ks.tmps } : KSt).st := by
    rw [h1]
    unfold undefAt
    congr 1
    apply List.map_congr_left
    rintro ⟨v, i⟩ hm
    have hi : i < k0.nt := by
      rw [List.mem_zipIdx_iff_getElem?] at hm
      have e : (dense ks.nt ks.tmps)[i]? = some v := hm
      rw [dense_get?] at e
      split at e
      · omega
      · cases e
    simp only [undefs_iff h0 hu hi]
    cases spHas k0.tmps i <;> rfl
  rw [h3, h6]
  exact clean_congr (fun d => (kunnamed_iff h2 d).symm) _

/-! ### Loops' states -/

theorem kempty_ok (h : ks.Ok) (t : Nat) : emptyAt ks.st t = kempty ks t := by
  unfold emptyAt kempty
  show (match (denseO ks.nt ks.objs)[t]? with | some [] => true | _ => false) = _
  rw [denseO_get?]
  by_cases ht : t < ks.nt
  · rw [if_pos ht]
    have : Nat.blt t ks.nt = true := by simpa [Nat.blt_eq] using ht
    rw [this]
    cases soGet ks.objs t <;> rfl
  · rw [if_neg ht]
    have : Nat.blt t ks.nt = false := by
      cases hb : Nat.blt t ks.nt with
      | false => rfl
      | true => exact absurd (by simpa [Nat.blt_eq] using hb) ht
    rw [this]; rfl

theorem kempty_lt {t : Nat} (h : kempty ks t = true) : t < ks.nt := by
  unfold kempty at h
  simp only [Bool.and_eq_true, Nat.blt_eq] at h
  exact h.1

theorem krehomeTo_st (h : ks.Ok) (t : Nat) (nm : Nm) : (krehomeTo t ks nm).st = (if nm ≠ (t, 0) ∧ emptyAt ks.st t = true then
      match look ks.st.objs nm with
      | some ob =>
        let f : Nm → Nm := fun m => if m = nm then (t, 0) else m
        let objs := ks.st.objs.map (·.map (Ob.ren f))
        { tmps := renL f ks.st.tmps, objs := (putOb objs nm dead).set t [ob.ren f], keep := renL f ks.st.keep }
      | none => ks.st
    else ks.st) ∧ (krehomeTo t ks nm).Ok ∧ (krehomeTo t ks nm).nt = ks.nt := by
  unfold krehomeTo
  rw [kempty_ok h]
  by_cases hc : nm ≠ (t, 0) ∧ kempty ks t = true
  · rw [if_pos hc, if_pos hc, st_look h]
    cases hl : klook ks.objs nm with
    | none => exact ⟨rfl, h, rfl⟩
    | some ob =>
      simp only [Option.map_some]
      have hoo := klook_ok h.ob hl
      have ht := kempty_lt hc.2
      let f : Nm → Nm := fun m => if m = nm then (t, 0) else m
      have hm : SoWf ks.nt (soMap (KOb.ren f) ks.objs) := h.ob.map fun x hx => KOb.ren_ok f hx
      refine ⟨?_, ⟨h.tm.map fun x hx => KV.ren_ok f hx, (hm.kput nm (o := kdead) rfl).put ht fun o ho => by
        simp only [List.mem_singleton] at ho; subst ho; exact KOb.ren_ok f hoo, fun sp hsp => ?_⟩, by trivial⟩
      · unfold KSt.st
        simp only
        rw [dense_ren h.tm, denseO_put, denseO_kput hm, denseO_map h.ob (fun o ho => KOb.ren_ob f ho),
          flat_map (g := renL f) rfl (renL_append f) fun sp hsp => dense_ren (h.kp sp hsp) f]
        have hren := KOb.ren_ob (fun m => if m = nm then (t, 0) else m) hoo
        simp only [List.map_cons, List.map_nil, hren]
        rfl
      · obtain ⟨q, hq, rfl⟩ := List.mem_map.1 hsp
        exact (h.kp q hq).map fun x hx => KV.ren_ok f hx
  · rw [if_neg hc, if_neg hc]; exact ⟨rfl, h, rfl⟩

theorem krehome_st (h : ks.Ok) (t : Nat) : (krehome1 t ks).st = rehome1 t ks.st ∧ (krehome1 t ks).Ok ∧ (krehome1 t ks).nt = ks.nt := by
  have hget : ks.st.tmps.getD t .undef = (spGet ks.tmps t).pv := dense_getD h.tm t
  have hokt := h.tm.get_ok t
  unfold krehome1 rehome1
  rw [hget]
  cases hg : spGet ks.tmps t with
  | arr nm k o n => exact krehomeTo_st h t nm
  | wit nm => exact krehomeTo_st h t nm
  | cv v =>
    rw [hg] at hokt
    have hv : okV v = true := hokt
    simp only [KV.pv]
    cases v <;> first | (simp [okV] at hv; done) | exact ⟨rfl, h, trivial⟩ 
  | _ => exact ⟨rfl, h, rfl⟩

theorem st_objs_getD (h : ks.Ok) (d : Nat) : ks.st.objs.getD d [] = (soGet ks.objs d).map KOb.ob := denseO_getD h.ob d

theorem kgrown_st (h : ks.Ok) {nm : Nm} {ty : Nat} {cs : List KV} (hl : klook ks.objs nm = some (.cells ty cs)) (i k : Nat) : (kgrown nm ty cs i k ks).Ok ∧ (kgrown nm ty cs i k ks).nt = ks.nt ∧ (kgrown nm ty cs i k ks).st = { ks.st with objs := ks.st.objs.set nm.1 ((ks.st.objs.getD nm.1 []).set nm.2 (.cells ty ((pvL cs).set i (.arr (nm.1, (ks.st.objs.getD nm.1 []).length) k 0 0))) ++ [.arr k 0 []]) } := by
  have hlt := klook_lt h.ob hl
  have hcs : okKL cs := klook_ok h.ob hl
  have hset : okKL (cs.set i (.arr (nm.1, (soGet ks.objs nm.1).length) k 0 0)) := okKL_mem.2 fun x hx => by
    rcases List.mem_or_eq_of_mem_set hx with hx | hx
    · exact okKL_mem.1 hcs x hx
    · subst hx; trivial
  unfold kgrown
  refine ⟨⟨h.tm, h.ob.put hlt fun o ho => ?_, h.kp⟩, rfl, ?_⟩
  · rcases List.mem_append.1 ho with ho | ho
    · rcases List.mem_or_eq_of_mem_set ho with ho | ho
      · exact h.ob.get_ok ho
      · subst ho; exact hset
    · simp only [List.mem_singleton] at ho; subst ho; rfl
  · rw [st_objs_getD h]
    unfold KSt.st
    simp only
    rw [denseO_put, List.map_append, List.map_set]
    simp only [List.map_cons, List.map_nil, KOb.ob, pvL_map, List.map_set, KV.pv, List.length_map]

theorem kgrowMove_st (h : ks.Ok) (nm m : Nm) (hlt : nm.1 < ks.nt) : (kgrowMove nm m ks).Ok ∧ (kgrowMove nm m ks).nt = ks.nt ∧ (kgrowMove nm m ks).st = (if m.1 ≠ nm.1 then
      match look ks.st.objs m with
      | some ob =>
        let f : Nm → Nm := fun x => if x = m then (nm.1, (ks.st.objs.getD nm.1 []).length) else x
        let objs := putOb (ks.st.objs.map (·.map (Ob.ren f))) m dead
        { tmps := renL f ks.st.tmps, objs := objs.set nm.1 (objs.getD nm.1 [] ++ [ob.ren f]), keep := renL f ks.st.keep }
      | none => ks.st
    else ks.st) := by
  unfold kgrowMove
  by_cases hm : m.1 ≠ nm.1
  · rw [if_pos hm, if_pos hm, st_look h]
    cases hl : klook ks.objs m with
    | none => exact ⟨h, rfl, rfl⟩
    | some ob =>
      simp only [Option.map_some]
      have hoo := klook_ok h.ob hl
      rw [st_objs_getD h, List.length_map]
      generalize hf : (fun x : Nm => if x = m then (nm.1, (soGet ks.objs nm.1).length) else x) = f
      have hmp : SoWf ks.nt (soMap (KOb.ren f) ks.objs) := h.ob.map fun x hx => KOb.ren_ok f hx
      have hkp : SoWf ks.nt (kput (soMap (KOb.ren f) ks.objs) m kdead) := hmp.kput m (o := kdead) rfl
      refine ⟨⟨h.tm.map fun x hx => KV.ren_ok f hx, hkp.put hlt fun o ho => ?_, fun sp hsp => ?_⟩, by trivial, ?_⟩
      · rcases List.mem_append.1 ho with ho | ho
        · exact hkp.get_ok ho
        · simp only [List.mem_singleton] at ho; subst ho; exact KOb.ren_ok f hoo
      · obtain ⟨q, hq, rfl⟩ := List.mem_map.1 hsp
        exact (h.kp q hq).map fun x hx => KV.ren_ok f hx
      · have hobj : denseO ks.nt (kput (soMap (KOb.ren f) ks.objs) m kdead) = putOb (ks.st.objs.map (·.map (Ob.ren f))) m dead := by
          rw [denseO_kput hmp, denseO_map h.ob (fun o ho => KOb.ren_ob f ho)]
          rfl
        rw [← hobj, denseO_getD hkp]
        unfold KSt.st
        simp only
        rw [dense_ren h.tm, denseO_put, flat_map (g := renL f) rfl (renL_append f) fun sp hsp => dense_ren (h.kp sp hsp) f]
        have hren := KOb.ren_ob f hoo
        simp only [List.map_append, List.map_cons, List.map_nil, hren]
  · rw [if_neg hm, if_neg hm]; exact ⟨h, rfl, rfl⟩

theorem kgrowCell_st {R : Type} {r : R} (h : ks.Ok) {nm : Nm} {ty : Nat} {cs : List KV} (hl : klook ks.objs nm = some (.cells ty cs)) {i k : Nat} {K : KSt → Option R} (hr : kgrowCell nm ty cs i k ks K = some r) : ∃ k', K k' = some r ∧ k'.Ok ∧ k'.nt = ks.nt ∧ k'.st = growCell nm ty (pvL cs) i k ks.st := by
  have hlt := klook_lt h.ob hl
  have hcs : okKL cs := klook_ok h.ob hl
  unfold kgrowCell at hr
  unfold growCell
  simp only [pvL_get?]
  cases hc : cs[i]? with
  | none => rw [hc] at hr; exact ⟨_, hr, h, rfl, rfl⟩
  | some x =>
    rw [hc] at hr
    cases x with
    | nils =>
      obtain ⟨a, b, c⟩ := kgrown_st h hl i k
      exact ⟨_, hr, a, b, c⟩
    | arr m _ _ _ =>
      obtain ⟨a, b, c⟩ := kgrowMove_st h nm m hlt
      exact ⟨_, hr, a, b, c⟩
    | wit m =>
      obtain ⟨a, b, c⟩ := kgrowMove_st h nm m hlt
      exact ⟨_, hr, a, b, c⟩
    | cv v =>
      have hv : okV v = true := okKL_mem.1 hcs _ (List.mem_of_getElem? hc)
      simp only [Option.map_some, KV.pv]
      unfold nilO at hr
      obtain ⟨a, b, c⟩ := kgrown_st h hl i k
      cases v <;> first | (simp [okV] at hv; done) | exact ⟨_, hr, a, b, c⟩ | (cases hr; done)
    | _ => exact ⟨_, hr, h, rfl, rfl⟩

theorem kgrowC_st {R : Type} {r : R} (h : ks.Ok) {x off k : Nat} {K : KSt → Option R} (hr : kgrowC x off k ks K = some r) : ∃ k', K k' = some r ∧ k'.Ok ∧ k'.nt = ks.nt ∧ k'.st = growC x off k ks.st := by
  have hget : ks.st.tmps.getD x .undef = (spGet ks.tmps x).pv := dense_getD h.tm x
  have hokt := h.tm.get_ok x
  unfold kgrowC at hr
  unfold growC
  rw [hget]
  cases hg : spGet ks.tmps x with
  | ref nm o =>
    rw [hg] at hr
    simp only [KV.pv] at hr ⊢
    rw [st_look h]
    cases hl : klook ks.objs nm with
    | none => rw [hl] at hr; exact ⟨_, hr, h, rfl, rfl⟩
    | some ob =>
      rw [hl] at hr
      cases ob with
      | cells ty cs => exact kgrowCell_st h hl hr
      | whole ty v =>
        have hv : okV v = true := klook_ok h.ob hl
        have hvl : okVL (cellsP v) = true := okV_cells hv
        simp only [Option.map_some, KOb.ob] at hr ⊢
        unfold chkO at hr
        cases hn : notNilAt v (o + off) with
        | false => rw [hn] at hr; cases hr
        | true =>
          rw [hn] at hr
          refine ⟨_, hr, h, rfl, ?_⟩
          unfold notNilAt at hn
          unfold growCell
          show ks.st = match (cellsP v)[o + off]? with | some .nilS => _ | some (.arr m _ _ _) => _ | _ => _
          have e : cellsP v = v.cells := rfl
          rw [e] at hvl ⊢
          cases hc : v.cells[o + off]? with
          | none => rfl
          | some y =>
            rw [hc] at hn
            have hy := okVL_get hvl hc
            cases y <;> first | (simp at hn; done) | (simp [okV] at hy; done) | rfl
      | _ => exact ⟨_, hr, h, rfl, rfl⟩
  | cv v =>
    rw [hg] at hr hokt
    have hv : okV v = true := hokt
    simp only [KV.pv]
    cases v <;> first | (simp [okV] at hv; done) | exact ⟨_, hr, h, rfl, rfl⟩
  | _ => rw [hg] at hr; exact ⟨_, hr, h, rfl, rfl⟩

theorem kgrow_st {R : Type} {r : R} (h : ks.Ok) {t k : Nat} {K : KSt → Option R} (hr : kgrow1 t k ks K = some r) : ∃ k', K k' = some r ∧ k'.Ok ∧ k'.nt = ks.nt ∧ k'.st = grow1 t k ks.st := by
  have hget : ks.st.tmps.getD t .undef = (spGet ks.tmps t).pv := dense_getD h.tm t
  unfold kgrow1 at hr
  unfold grow1
  by_cases hb : gcBase ≤ t
  · rw [if_pos hb] at hr ⊢
    exact kgrowC_st h hr
  rw [if_neg hb] at hr ⊢
  rw [hget]
  cases hg : spGet ks.tmps t with
  | nils =>
    rw [hg] at hr
    simp only [KV.pv]
    rw [kempty_ok h]
    by_cases hc : kempty ks t = true
    · rw [if_pos hc] at hr
      rw [if_pos hc]
      have ht := kempty_lt hc
      refine ⟨_, hr, ⟨h.tm.put ht trivial rfl, h.ob.put ht fun o ho => ?_, h.kp⟩, rfl, ?_⟩
      · simp only [List.mem_singleton] at ho; subst ho; rfl
      · unfold KSt.st
        simp only
        rw [dense_put, denseO_put]
        rfl
    · rw [if_neg hc] at hr
      rw [if_neg hc]
      exact ⟨_, hr, h, rfl, rfl⟩
  | cv v =>
    rw [hg] at hr
    simp only at hr
    unfold notNil at hr
    simp only [KV.pv]
    cases v <;> first | exact ⟨_, hr, h, rfl, rfl⟩ | cases hr
  | _ => rw [hg] at hr; exact ⟨_, hr, h, rfl, rfl⟩

theorem kgrows_st {R : Type} {r : R} : ∀ (l : List (Nat × Nat)) {ks : KSt} {K : KSt → Option R}, ks.Ok → kgrows l ks K = some r → ∃ k', K k' = some r ∧ k'.Ok ∧ k'.nt = ks.nt ∧ k'.st = l.foldl (fun st (p : Nat × Nat) => grow1 p.1 p.2 st) ks.st := by
  intro l
  induction l with
  | nil => intro ks K h hr; exact ⟨ks, hr, h, rfl, rfl⟩
  | cons p l ih =>
    obtain ⟨t, k⟩ := p
    intro ks K h hr
    simp only [kgrows] at hr
    obtain ⟨k1, hr, h1, n1, s1⟩ := kgrow_st h hr
    obtain ⟨k2, hr, h2, n2, s2⟩ := ih h1 hr
    exact ⟨k2, hr, h2, n2.trans n1, by rw [s2, s1]; rfl⟩

theorem krehomes_st : ∀ (l : List Nat) {ks : KSt}, ks.Ok → (l.foldl (fun ks t => krehome1 t ks) ks).Ok ∧ (l.foldl (fun ks t => krehome1 t ks) ks).nt = ks.nt ∧ (l.foldl (fun ks t => krehome1 t ks) ks).st = l.foldl (fun st t => rehome1 t st) ks.st := by
  intro l
  induction l with
  | nil => intro ks h; exact ⟨h, rfl, rfl⟩
  | cons t l ih =>
    intro ks h
    simp only [List.foldl_cons]
    obtain ⟨a, b, c⟩ := krehome_st h t
    obtain ⟨d, e, f⟩ := ih b
    exact ⟨d, e.trans c, by rw [f, a]⟩

theorem undefAt_self (st : St) : undefAt (undefs st) st = st := by
  obtain ⟨t, o, k⟩ := st
  unfold undefAt
  congr 1
  apply List.ext_getElem?
  intro i
  rw [List.getElem?_map, List.getElem?_zipIdx]
  cases hg : t[i]? with
  | none => rfl
  | some v =>
    simp only [Option.map_some, Nat.zero_add, Option.some.injEq]
    split
    · rename_i hc
      rw [List.contains_iff_mem] at hc
      unfold undefs at hc
      simp only [List.mem_map, List.mem_filter] at hc
      obtain ⟨⟨u, j⟩, ⟨hm, hu⟩, he⟩ := hc
      rw [List.mem_zipIdx_iff_getElem?] at hm
      simp only at he hm hu
      subst he
      rw [hg] at hm
      cases hm
      cases v <;> simp_all [isUndef]
    · rfl

theorem knorm_st {R : Type} {r : R} (h : ks.Ok) {asg : List Nat} {grow : List (Nat × Nat)} {K : KSt → Option R} (hr : knorm asg grow ks K = some r) : ∃ k', K k' = some r ∧ k'.Ok ∧ k'.nt = ks.nt ∧ k'.st = norm asg grow ks.st := by
  unfold knorm at hr
  obtain ⟨a, b, c⟩ := krehomes_st asg h
  obtain ⟨k', hr, h1, n1, s1⟩ := kgrows_st grow a hr
  obtain ⟨d1, d2, d3⟩ := kclean_st h1 (kunnamed k')
  refine ⟨_, hr, d2, d3.trans (n1.trans b), ?_⟩
  have e : k'.st = norm0 asg grow ks.st := by rw [s1, c]; rfl
  unfold norm drop
  rw [d1, ← e, undefAt_self]
  exact clean_congr (fun d => (kunnamed_iff h1 d).symm) _

theorem fillSp_ok : ∀ {nt : Nat} (ps xs : Sp), fitSp ps xs = true → SpWf nt ps → SpWf nt xs → ∀ (vs : List PV) (i : Nat), Seg vs i (leavesSp ps xs) →
    (∀ j, (spGet (fillSp ps vs i).1 j).pv = (spGet xs j).pv) ∧ SpWf nt (fillSp ps vs i).1 ∧ (fillSp ps vs i).1.map (·.1) = ps.map (·.1) ∧ (fillSp ps vs i).2 = i + (leavesSp ps xs).length
  | nt, [], [], _, _, _, vs, i, _ => ⟨fun _ => rfl, .nil nt, rfl, rfl⟩
  | _, [], _ :: _, h, _, _, _, _, _ => by simp [fitSp] at h
  | _, _ :: _, [], h, _, _, _, _, _ => by simp [fitSp] at h
  | nt, (j1, p) :: ps, (j2, x) :: xs, h, hp, hx, vs, i, hs => by
    simp only [fitSp, Bool.and_eq_true] at h
    simp only [leavesSp] at hs
    have hj := Nat.eq_of_beq_eq_true h.1
    subst hj
    obtain ⟨a, b, c⟩ := fill_ok p x h.2.1 (hx.ok (j1, x) (by simp)) vs i hs.left
    obtain ⟨a', b', k', c'⟩ := fillSp_ok ps xs h.2.2 hp.tail hx.tail vs (fill p vs i).2 (by rw [c]; exact hs.right)
    refine ⟨?_, ⟨?_, ?_, ?_, ?_⟩, by simp [fillSp, k'], ?_⟩
    · intro j
      simp only [fillSp, spGet]
      cases Nat.beq j j1 with
      | true => exact a
      | false => exact a' j
    · simp only [fillSp, List.map_cons]
      rw [k']
      exact hp.srt
    · intro q hq
      simp only [fillSp, List.mem_cons] at hq
      rcases hq with rfl | hq
      · exact hp.lt (j1, p) (by simp)
      · exact b'.lt q hq
    · intro q hq
      simp only [fillSp, List.mem_cons] at hq
      rcases hq with rfl | hq
      · exact b
      · exact b'.ok q hq
    · intro q hq
      simp only [fillSp, List.mem_cons] at hq
      rcases hq with rfl | hq
      · exact un_fill (hp.nu (j1, p) (by simp))
      · exact b'.nu q hq
    · simp only [fillSp, leavesSp, List.length_append]
      rw [c', c]
      omega

theorem fillSo_ok : ∀ {nt : Nat} (ps xs : SpO), fitSo ps xs = true → SoWf nt ps → SoWf nt xs → ∀ (vs : List PV) (i : Nat), Seg vs i (leavesSo ps xs) →
    (∀ j, (soGet (fillSo ps vs i).1 j).map KOb.ob = (soGet xs j).map KOb.ob) ∧ SoWf nt (fillSo ps vs i).1 ∧ (fillSo ps vs i).1.map (·.1) = ps.map (·.1) ∧ (fillSo ps vs i).2 = i + (leavesSo ps xs).length
  | nt, [], [], _, _, _, vs, i, _ => ⟨fun _ => rfl, .nil nt, rfl, rfl⟩
  | _, [], _ :: _, h, _, _, _, _, _ => by simp [fitSo] at h
  | _, _ :: _, [], h, _, _, _, _, _ => by simp [fitSo] at h
  | nt, (j1, p) :: ps, (j2, x) :: xs, h, hp, hx, vs, i, hs => by
    simp only [fitSo, Bool.and_eq_true] at h
    simp only [leavesSo] at hs
    have hj := Nat.eq_of_beq_eq_true h.1
    subst hj
    obtain ⟨a, b, c⟩ := fillObL_ok p x h.2.1 (hx.ok (j1, x) (by simp)) vs i hs.left
    obtain ⟨a', b', k', c'⟩ := fillSo_ok ps xs h.2.2 hp.tail hx.tail vs (fillObL p vs i).2 (by rw [c]; exact hs.right)
    refine ⟨?_, ⟨?_, ?_, ?_⟩, by simp [fillSo, k'], ?_⟩
    · intro j
      simp only [fillSo, soGet]
      cases Nat.beq j j1 with
      | true => exact a
      | false => exact a' j
    · simp only [fillSo, List.map_cons]
      rw [k']
      exact hp.srt
    · intro q hq
      simp only [fillSo, List.mem_cons] at hq
      rcases hq with rfl | hq
      · exact hp.lt (j1, p) (by simp)
      · exact b'.lt q hq
    · intro q hq
      simp only [fillSo, List.mem_cons] at hq
      rcases hq with rfl | hq
      · exact b
      · exact b'.ok q hq
    · simp only [fillSo, leavesSo, List.length_append]
      rw [c', c]
      omega

theorem fillKp_ok : ∀ {nt : Nat} (ps xs : List Sp), fitKp ps xs = true → (∀ p ∈ ps, SpWf nt p) → (∀ x ∈ xs, SpWf nt x) → ∀ (vs : List PV) (i : Nat), Seg vs i (leavesKp ps xs) →
    (fillKp ps vs i).1.flatMap (dense nt) = xs.flatMap (dense nt) ∧ (∀ p ∈ (fillKp ps vs i).1, SpWf nt p)
  | nt, [], [], _, _, _, vs, i, _ => ⟨rfl, by simp [fillKp]⟩
  | _, [], _ :: _, h, _, _, _, _, _ => by simp [fitKp] at h
  | _, _ :: _, [], h, _, _, _, _, _ => by simp [fitKp] at h
  | nt, p :: ps, x :: xs, h, hp, hx, vs, i, hs => by
    simp only [fitKp, Bool.and_eq_true] at h
    simp only [leavesKp] at hs
    obtain ⟨a, b, _, c⟩ := fillSp_ok p x h.1 (hp p (by simp)) (hx x (by simp)) vs i hs.left
    obtain ⟨a', b'⟩ := fillKp_ok ps xs h.2 (fun q hq => hp q (by simp [hq])) (fun q hq => hx q (by simp [hq])) vs (fillSp p vs i).2 (by rw [c]; exact hs.right)
    refine ⟨?_, ?_⟩
    · simp only [fillKp, List.flatMap_cons, a']
      congr 1
      unfold dense
      exact List.map_congr_left fun j _ => a j
    · intro q hq
      simp only [fillKp, List.mem_cons] at hq
      rcases hq with rfl | hq
      · exact b
      · exact b' q hq

theorem fillSt_ok {p x : KSt} (h : fitSt p x = true) (hp : p.Ok) (hx : x.Ok) : (fillSt p (leavesSt p x)).st = x.st ∧ (fillSt p (leavesSt p x)).Ok ∧ (fillSt p (leavesSt p x)).nt = p.nt ∧ p.nt = x.nt := by
  unfold fitSt at h
  simp only [Bool.and_eq_true] at h
  obtain ⟨h0, h1, h2, h3⟩ := h
  have hnt := Nat.eq_of_beq_eq_true h0
  have hs := Seg.all (leavesSt p x)
  unfold leavesSt at hs
  have hx1 : SpWf p.nt x.tmps := hnt ▸ hx.tm
  have hx2 : SoWf p.nt x.objs := hnt ▸ hx.ob
  have hx3 : ∀ sp ∈ x.keep, SpWf p.nt sp := hnt ▸ hx.kp
  obtain ⟨a1, b1, _, c1⟩ := fillSp_ok p.tmps x.tmps h1 hp.tm hx1 _ 0 hs.left.left
  have hs2 := hs.left.right
  obtain ⟨a2, b2, _, c2⟩ := fillSo_ok p.objs x.objs h2 hp.ob hx2 (leavesSt p x) (fillSp p.tmps (leavesSt p x) 0).2 (by unfold leavesSt; rw [c1]; exact hs2)
  have hs3 := hs.right
  obtain ⟨a3, b3⟩ := fillKp_ok p.keep x.keep h3 hp.kp hx3 (leavesSt p x) (fillSo p.objs (leavesSt p x) (fillSp p.tmps (leavesSt p x) 0).2).2 (by
    unfold leavesSt at c2 ⊢
    rw [c2, c1]
    simp only [List.length_append] at hs3
    rw [Nat.zero_add] at hs3 ⊢
    exact hs3)
  refine ⟨?_, ⟨b1, b2, b3⟩, rfl, hnt⟩
  unfold KSt.st fillSt
  simp only
  rw [← hnt, a3]
  congr 1
  · unfold dense; exact List.map_congr_left fun j _ => a1 j
  · unfold denseO; exact List.map_congr_left fun j _ => a2 j
end Go.Ab

/-
  Code: 'evalK' tells what 'evalC' tells, once there is enough fuel.
-/
namespace Go.Ab
variable {cfg : KCfg} {tab : FuncId → Option RFn}

/-! ### Regions of short circuits -/

theorem exec_pure {d : Nat} {σ : Nm → Option Ob} {T : List PV} {op : ROp} (hp : pureOp op = true) {out : Out} (h : exec d σ T op = some out) : out = { v := out.v } := by
  have hm : ∀ {x : Option PV}, (x.map fun v => ({ v := v } : Out)) = some out → out = { v := out.v } := by
    intro x hx
    obtain ⟨v, _, rfl⟩ := Option.map_eq_some_iff.1 hx
    rfl
  have hcm : ∀ {b : Bool} {x : Option PV}, chk b (x.map fun v => ({ v := v } : Out)) = some out → out = { v := out.v } := by
    intro b x hx
    exact hm (chk_inv hx).2
  have hc : ∀ {b : Bool} {v : PV}, chk b (some ({ v := v } : Out)) = some out → out = { v := out.v } := by
    intro b v hx
    obtain ⟨_, hx⟩ := chk_inv hx
    cases hx; rfl
  cases op with
  | box | alloc | mkSl | store | mkF | mkMap | insert | mkS | append | copy | call | iter | next | bad => simp [pureOp] at hp
  | mov x => cases h; rfl
  | mkI t x => cases h; rfl
  | bin op c cst x y => exact hm h
  | slice k x lo hi mx => exact hm h
  | len c x =>
    simp only [exec] at h
    obtain ⟨n, _, rfl⟩ := Option.map_eq_some_iff.1 h
    rfl
  | pick c a b | conv k x | ofRune x | strId x | un op x | nilck x => simp only [exec] at h; split at h <;> first | (cases h; rfl) | cases h
  | build z ps => simp only [exec] at h; split at h <;> first | (cases h; rfl) | cases h
  | toBytes x => simp only [exec] at h; split at h <;> first | exact hc h | cases h
  | field off n ag x => simp only [exec] at h; split at h <;> first | exact hm h | cases h
  | fieldAddr off x => simp only [exec] at h; split at h <;> first | exact hc h | (cases h; rfl) | cases h
  | idxAddrA k l x i => simp only [exec] at h; split at h <;> first | exact hc h | cases h
  | ofBytes x | strIdx x i | extract j x | minmax mx xs | idxAddr k x i | strSlice x lo hi =>
    simp only [exec] at h
    split at h
    all_goals first
      | (cases h; done)
      | exact hc h
      | (obtain ⟨n, _, rfl⟩ := Option.map_eq_some_iff.1 h; rfl)
      | (split at h
         all_goals first
           | (cases h; done)
           | exact hc h
           | (cases h; rfl)
           | (split at h
              all_goals first
                | (cases h; done)
                | (cases h; rfl)))
  | tassert t z ok x =>
    simp only [exec] at h
    split at h
    · split at h
      · cases h; rfl
      · exact hc h
    · exact hc h
    · cases h
  | lookup c z ok x k =>
    simp only [exec] at h
    split at h
    · cases h
    · split at h
      · cases h
      · exact hc h
  | load n ag x =>
    simp only [exec] at h
    split at h
    · split at h
      · exact hm h
      · cases h
    · exact hm h
    · split at h
      · split at h
        · exact hcm h
        · cases h
      · cases h
    · cases h

theorem apply_plain (st : St) (dst : Option Nat) (v : PV) : apply st dst { v } = bset dst v [] st := by
  rw [apply_eq]; simp [bkill, bupd, bgone, bturn, bext, newAtO]

theorem pure_runs {M : Mach} {E : Type} {h : Handler E} {dep : Nat} {ops : List ROper} : ∀ (l : List ROper), (∀ o ∈ l, pureOp o.op = true) → ∀ {st st' : St} {e e' : E}, runOps M h dep ops l st e = some (st', e') →
    e' = e ∧ st'.objs = st.objs ∧ st'.keep = st.keep ∧ st'.tmps.length = st.tmps.length ∧ ∀ i, i ∉ l.filterMap (·.dst) → st'.tmps[i]? = st.tmps[i]? := by
  intro l
  induction l with
  | nil => intro _ st st' e e' h; cases h; exact ⟨rfl, rfl, rfl, rfl, fun _ _ => rfl⟩
  | cons o rest ih =>
    intro hp st st' e e' h
    simp only [runOps] at h
    split at h
    case h_2 => cases h
    rename_i s1 e1 hs
    have hone : e1 = e ∧ ∃ v, s1 = bset o.dst v [] st := by
      unfold stepG at hs
      split at hs
      · unfold stepOp at hs
        split at hs
        · rename_i out e2 ho
          cases hs
          unfold outOf at ho
          obtain ⟨_, ho⟩ := chk_inv ho
          have hpo := hp o (by simp)
          split at ho
          · rename_i f args hop; rw [hop] at hpo; simp [pureOp] at hpo
          · split at ho
            · rename_i out' hx
              cases ho
              have := exec_pure hpo hx
              refine ⟨rfl, out.v, ?_⟩
              rw [this, apply_plain]
            · cases ho
        · cases hs
      · cases hs; exact ⟨rfl, _, apply_plain _ _ _⟩
      · cases hs
    obtain ⟨rfl, v, rfl⟩ := hone
    obtain ⟨a, b, c, d, f⟩ := ih (fun o' ho' => hp o' (by simp [ho'])) h
    refine ⟨a, ?_, ?_, ?_, ?_⟩
    · rw [b]; cases o.dst <;> rfl
    · rw [c]; cases o.dst <;> rfl
    · rw [d]; cases o.dst <;> simp [bset]
    · intro i hi
      have hi' : i ∉ rest.filterMap (·.dst) := fun hm => hi (by
        simp only [List.mem_filterMap] at hm ⊢
        obtain ⟨o', ho', hd⟩ := hm
        exact ⟨o', by simp [ho'], hd⟩)
      rw [f i hi']
      cases hd : o.dst with
      | none => rfl
      | some t =>
        have hne : t ≠ i := fun e => hi (by
          simp only [List.mem_filterMap]
          exact ⟨o, by simp, by rw [hd, e]⟩)
        simp only [bset]
        rw [List.getElem?_set_ne hne]

theorem tidy_congr {st st' : St} (h1 : st'.objs = st.objs) (h2 : st'.keep = st.keep) (hl : st'.tmps.length = st.tmps.length) {l : List Nat} (h3 : ∀ i, i ∈ l → st'.tmps[i]? = st.tmps[i]?) : tidy (some l) st' = tidy (some l) st := by
  have : keepOnly l st' = keepOnly l st := by
    unfold keepOnly
    obtain ⟨t', o', k'⟩ := st'
    obtain ⟨t, o, k⟩ := st
    simp only at h1 h2 hl h3
    subst h1; subst h2
    have hl : t'.length = t.length := hl
    congr 1
    show (t'.zipIdx.map fun (x : PV × Nat) => if l.contains x.2 then x.1 else .undef) = t.zipIdx.map fun (x : PV × Nat) => if l.contains x.2 then x.1 else .undef
    apply List.ext_getElem?
    intro i
    rw [List.getElem?_map, List.getElem?_map, List.getElem?_zipIdx, List.getElem?_zipIdx]
    by_cases hi : i ∈ l
    · rw [h3 i hi]
    · by_cases hlt : i < t.length
      · rw [List.getElem?_eq_getElem hlt, List.getElem?_eq_getElem (by omega)]
        simp [hi]
      · rw [List.getElem?_eq_none (by omega), List.getElem?_eq_none (by omega)]
  unfold tidy
  simp only [this]

theorem kdrop_ok {k0 ks : KSt} (h : ks.Ok) : (kdrop k0 ks).Ok ∧ (kdrop k0 ks).nt = ks.nt := by
  unfold kdrop
  obtain ⟨h1, h2⟩ := kkeep_st h (spHas k0.tmps)
  obtain ⟨h3, h4, h5⟩ := kclean_st h2 (kunnamed { ks with tmps := spKeep (spHas k0.tmps) ks.tmps })
  exact ⟨h4, h5⟩

theorem ksetPs_ok {nt : Nat} : ∀ (ps : List Nat) (args : List PV) (i : Nat) {tm : Sp}, SpWf nt tm → (∀ p ∈ ps, p < nt) → okVL args = true → SpWf nt (ksetPs ps args i tm) := by
  intro ps
  induction ps with
  | nil => intro args i tm h _ _; exact h
  | cons p ps ih =>
    intro args i tm h hp ha
    simp only [ksetPs]
    refine ih args (i + 1) (h.put (hp p (by simp)) ?_ rfl) (fun q hq => hp q (by simp [hq])) ha
    show okV (nth args i) = true
    unfold nth
    rw [List.getD_eq_getElem?_getD]
    cases hg : args[i]? with
    | none => rfl
    | some v => exact okVL_get ha hg

theorem ksetPs_st {nt : Nat} : ∀ (ps : List Nat) (args : List PV) (i : Nat) {tm : Sp}, i + ps.length = args.length → dense nt (ksetPs ps args i tm) = setPs ps (args.drop i) (dense nt tm) := by
  intro ps
  induction ps with
  | nil => intro args i tm _; simp [ksetPs, setPs]
  | cons p ps ih =>
    intro args i tm hl
    simp only [List.length_cons] at hl
    have hd : args.drop i = args[i]'(by omega) :: args.drop (i + 1) := List.drop_eq_getElem_cons (by omega)
    rw [hd]
    simp only [ksetPs, setPs]
    rw [ih args (i + 1) (by omega), dense_put]
    have : nth args i = args[i]'(by omega) := by
      unfold nth; rw [List.getD_eq_getElem?_getD, List.getElem?_eq_getElem (by omega)]; rfl
    rw [← this]
    rfl

theorem konEx_some {R : Type} {r : R} {K : Nat → Option R} : ∀ {l : List Nat} {p : Option Ex}, konEx l p K = some r → ∃ id, p = some (.exit id) ∧ K id = some r := by
  intro l
  induction l with
  | nil => intro p h; cases h
  | cons id l ih =>
    intro p h
    simp only [konEx] at h
    rcases iteB_some h with ⟨h1, h2⟩ | ⟨_, h2⟩
    · refine ⟨id, ?_, h2⟩
      unfold isExitE at h1
      split at h1
      · rename_i id'; rw [Nat.eq_of_beq_eq_true h1]
      · cases h1
    · exact ih h2

def sp_dense (sp : Sp) (k3 : KSt) : List PV := dense k3.nt sp

theorem evalK_ok (hc : CfgOK cfg tab) : ∀ (c : RCode) {E R : Type} {h : Handler E} {hn : Nat → Handler E} (_ : HOk h hn) (dep : Nat) {ks : KSt} {e : E} {K : Ex → KSt → E → Option R} {r : R}, ks.Ok → evalK cfg c h dep ks e K = some r →
    ∃ x k' e', K x k' e' = some r ∧ k'.Ok ∧ Evl fun n => evalC (machN cfg.b.sp tab n) n c (hn n) dep ks.st e = some (x, k'.st, e') := by
  intro c
  induction c with
  | skip => intro E R h hn hh dep ks e K r hk hr; exact ⟨_, _, _, hr, hk, .of fun n => rfl⟩
  | region ops dr lv =>
    intro E R h hn hh dep ks e K r hk hr
    obtain ⟨c1, c2, _⟩ := kclean_st hk (dsts ops)
    cases dr with
    | none =>
      simp only [evalK] at hr
      rw [force_eq] at hr
      split at hr
      · rename_i t hslot
        obtain ⟨z, hz, hr⟩ := bindO_some hr
        rw [force_eq] at hr
        obtain ⟨k1, e1, hz2, hk1, h1⟩ := kruns_ok (dep := dep) hc hh ops c2 hz
        unfold condSlot at hslot
        split at hslot
        case isFalse => cases hslot
        rename_i hcond
        simp only [Bool.and_eq_true] at hcond
        cases lv with
        | none => cases hslot
        | some l =>
        simp only at hslot
        split at hslot
        case h_2 => cases hslot
        rename_i t' hfil
        cases hslot
        have hpure : ∀ o ∈ ops, pureOp o.op = true := List.all_eq_true.1 hcond.2
        have hzok : okV z = true := KV.cl_ok (hk1.tm.get_ok t) hz2
        have htlt : t < k1.nt := by
          apply Classical.byContradiction
          intro hlt
          rw [hk1.tm.get_ge (by omega)] at hz2; cases hz2
        obtain ⟨m, hm⟩ := h1
        have hm0 := hm m (Nat.le_refl _)
        obtain ⟨rfl, p2, p3, p4, p5⟩ := pure_runs ops hpure hm0
        have hnt : k1.nt = (kclean (dsts ops) ks).nt := by
          have : k1.st.tmps.length = (kclean (dsts ops) ks).st.tmps.length := p4
          have a1 : k1.st.tmps.length = k1.nt := dense_length _ _
          have a2 : (kclean (dsts ops) ks).st.tmps.length = (kclean (dsts ops) ks).nt := dense_length _ _
          omega
        have hput : ({ kclean (dsts ops) ks with tmps := spPut t (.cv z) (kclean (dsts ops) ks).tmps } : KSt).Ok := ⟨c2.tm.put (by omega) hzok rfl, c2.ob, c2.kp⟩
        obtain ⟨t1, t2⟩ := ktidy_st hput (some l)
        refine ⟨_, _, _, hr, t2, ⟨m, fun n hn' => ?_⟩⟩
        have hb := hm n hn'
        rw [c1] at hb
        simp only [evalC, hb, t1]
        have : tidy (some l) k1.st = tidy (some l) ({ kclean (dsts ops) ks with tmps := spPut t (.cv z) (kclean (dsts ops) ks).tmps } : KSt).st := by
          refine tidy_congr (st' := k1.st) (st := ({ kclean (dsts ops) ks with tmps := spPut t (.cv z) (kclean (dsts ops) ks).tmps } : KSt).st) p2 p3 ?_ fun i hi => ?_
          · rw [p4]
            show (dense _ _).length = (dense _ _).length
            rw [dense_length, dense_length]
          · show k1.st.tmps[i]? = (dense _ (spPut t (.cv z) _))[i]?
            rw [dense_put]
            by_cases hit : i = t
            · subst hit
              rw [List.getElem?_set_self (by rw [dense_length]; show i < (kclean (dsts ops) ks).nt; omega)]
              show (dense k1.nt k1.tmps)[i]? = _
              rw [dense_get?, if_pos htlt, KV.cl_pv hz2]
              rfl
            · rw [List.getElem?_set_ne (Ne.symm hit)]
              refine p5 i fun hmem => hit ?_
              have : i ∈ l.filter fun t => (ops.filterMap (·.dst)).contains t := List.mem_filter.2 ⟨hi, by simpa using hmem⟩
              rw [hfil] at this
              simpa using this
        rw [this]
      · obtain ⟨k1, e1, hr, hk1, h1⟩ := kruns_ok (dep := dep) hc hh ops c2 hr
        rw [force_eq] at hr
        obtain ⟨t1, t2⟩ := ktidy_st hk1 lv
        rw [c1] at h1
        exact ⟨_, _, _, hr, t2, h1.mono fun n hn' => by simp only [evalC, hn', t1]⟩
    | some bef =>
      simp only [evalK] at hr
      rw [force_eq] at hr
      obtain ⟨k1, e1, hr, hk1, h1⟩ := krunsD_ok (dep := dep) hc hh bef [] c2 hr
      rw [force_eq] at hr
      obtain ⟨t1, t2⟩ := ktidy_st hk1 lv
      rw [c1] at h1
      exact ⟨_, _, _, hr, t2, h1.mono fun n hn' => by simp only [evalC, hn', t1]⟩
  | seq a b iha ihb =>
    intro E R h hn hh dep ks e K r hk hr
    simp only [evalK] at hr
    obtain ⟨x, k1, e1, hr, hk1, h1⟩ := iha hh dep hk hr
    cases x with
    | normal =>
      obtain ⟨x2, k2, e2, hr, hk2, h2⟩ := ihb hh dep hk1 hr
      exact ⟨_, _, _, hr, hk2, h1.mono2 h2 fun n a b => by simp only [evalC, a, b]⟩
    | exit id => exact ⟨_, _, _, hr, hk1, h1.mono fun n a => by simp only [evalC, a]⟩
    | ret => exact ⟨_, _, _, hr, hk1, h1.mono fun n a => by simp only [evalC, a]⟩
  | cond c a b iha ihb =>
    intro E R h hn hh dep ks e K r hk hr
    simp only [evalK] at hr
    have hev := st_ev hk c
    split at hr
    · rename_i hv
      obtain ⟨x, k1, e1, hr, hk1, h1⟩ := iha hh dep hk hr
      exact ⟨_, _, _, hr, hk1, h1.mono fun n a => by simp only [evalC, hev, hv, KV.pv, a]⟩
    · rename_i hv
      obtain ⟨x, k1, e1, hr, hk1, h1⟩ := ihb hh dep hk hr
      exact ⟨_, _, _, hr, hk1, h1.mono fun n a => by simp only [evalC, hev, hv, KV.pv, a]⟩
    · rename_i v hv
      rcases iteP_some hr with ⟨rfl, hr⟩ | ⟨rfl, hr⟩
      · obtain ⟨x, k1, e1, hr, hk1, h1⟩ := iha hh dep hk hr
        exact ⟨_, _, _, hr, hk1, h1.mono fun n a => by simp only [evalC, hev, hv, KV.pv, a]⟩
      · obtain ⟨x, k1, e1, hr, hk1, h1⟩ := ihb hh dep hk hr
        exact ⟨_, _, _, hr, hk1, h1.mono fun n a => by simp only [evalC, hev, hv, KV.pv, a]⟩
    · cases hr
  | block id b ih =>
    intro E R h hn hh dep ks e K r hk hr
    simp only [evalK] at hr
    obtain ⟨x, k1, e1, hr, hk1, h1⟩ := ih hh dep hk hr
    cases x with
    | normal => exact ⟨_, _, _, hr, hk1, h1.mono fun n a => by simp only [evalC, a]⟩
    | ret => exact ⟨_, _, _, hr, hk1, h1.mono fun n a => by simp only [evalC, a]⟩
    | exit id' =>
      simp only at hr
      split at hr
      · rename_i hid; exact ⟨_, _, _, hr, hk1, h1.mono fun n a => by simp only [evalC, a, hid, if_true]⟩
      · rename_i hid; exact ⟨_, _, _, hr, hk1, h1.mono fun n a => by simp only [evalC, a, hid, if_false]⟩
  | loop asg grow b ih =>
    intro E R h hn hh dep ks e K r hk hr
    simp only [evalK] at hr
    obtain ⟨k0, hr, hk0, hnt0, hst0⟩ := knorm_st hk hr
    rw [force_eq] at hr
    obtain ⟨hU, hr⟩ := chkO_some hr
    split at hr
    · cases hr
    rename_i hself
    have hself : fitSt k0 k0 = true := by simpa using hself
    obtain ⟨m, hm⟩ := loopL_some hr
    have key : ∀ (m : Nat) (vs : List PV) (e : E), (fillSt k0 vs).Ok → repS (fun s : List PV × E => force (fillSt k0 s.1) fun ks => evalK cfg b h dep ks s.2 (onLoop asg grow k0 K)) m (vs, e) = some r →
        ∃ x k' e', K x k' e' = some r ∧ k'.Ok ∧ Evl fun n => ∀ j, m ≤ j → repeatN (loopStep (machN cfg.b.sp tab n) n asg grow b (hn n) dep (undefs k0.st)) j ((fillSt k0 vs).st, e) = some (x, k'.st, e') := by
      intro m
      induction m with
      | zero => intro vs e _ h0; cases h0
      | succ m ihm =>
        intro vs e hkv hm
        unfold repS at hm
        simp only at hm
        rw [force_eq] at hm
        cases hs : evalK cfg b h dep (fillSt k0 vs) e (onLoop asg grow k0 K) with
        | none =>
          rw [hs] at hm; cases hm
        | some q =>
          rw [hs] at hm
          obtain ⟨x, k1, e1, hq, hk1, h1⟩ := ih hh dep hkv hs
          have hother : ∀ y, y ≠ Ex.normal → x = y → (bindO (K y k1 e1) fun r => some (Sum.inr r)) = some q → ∃ x k' e', K x k' e' = some r ∧ k'.Ok ∧ Evl fun n => ∀ j, m + 1 ≤ j → repeatN (loopStep (machN cfg.b.sp tab n) n asg grow b (hn n) dep (undefs k0.st)) j ((fillSt k0 vs).st, e) = some (x, k'.st, e') := by
            intro y hy hxy hq
            obtain ⟨r', hr', hq⟩ := bindO_some hq
            cases hq
            cases hm
            refine ⟨y, k1, e1, hr', hk1, h1.mono fun n hn' j hj => ?_⟩
            obtain ⟨j, rfl⟩ : ∃ i, j = i + 1 := ⟨j - 1, by omega⟩
            rw [repeatN_eq]
            subst hxy
            cases x with
            | normal => exact absurd rfl hy
            | exit id => simp only [loopStep, hn', onStep]
            | ret => simp only [loopStep, hn', onStep]
          cases x with
          | exit id => exact hother (.exit id) (by simp) rfl hq
          | ret => exact hother .ret (by simp) rfl hq
          | normal =>
            unfold onLoop at hq; simp only at hq
            obtain ⟨d1, d2⟩ := kdrop_ok (k0 := k0) hk1
            obtain ⟨k2, hq, hk2, hnt2, hst2⟩ := knorm_st d1 hq
            rw [force_eq] at hq
            split at hq
            · rename_i hfit
              cases hq
              obtain ⟨f1, f2, f3, f4⟩ := fillSt_ok hfit hk0 hk2
              obtain ⟨g1, _, _⟩ := kdrop_st hk0 hU hk1 (by omega)
              obtain ⟨x3, k3, e3, hr3, hk3, h3⟩ := ihm _ _ f2 hm
              refine ⟨x3, k3, e3, hr3, hk3, h1.mono2 h3 fun n hn1 hn3 j hj => ?_⟩
              obtain ⟨j, rfl⟩ : ∃ i, j = i + 1 := ⟨j - 1, by omega⟩
              rw [repeatN_eq]
              have := hn3 j (by omega)
              rw [f1, hst2, g1] at this
              simp only [loopStep, hn1, onStep]
              exact this
            · cases hq
    obtain ⟨s1, s2, _, _⟩ := fillSt_ok (p := k0) (x := k0) hself hk0 hk0
    obtain ⟨x, k', e', hr', hk', hev⟩ := key m _ e s2 hm
    refine ⟨x, k', e', hr', hk', hev.diag.mono fun n hn' => ?_⟩
    rw [s1, hst0] at hn'
    rw [evalC_loop, hn']
  | rangeFunc f ps asg b iha ihb =>
    intro E R h hn hh dep ks e K r hk hr
    simp only [evalK] at hr
    split at hr
    case h_2 => cases hr
    rename_i fv hfv
    split at hr
    case isFalse => cases hr
    rename_i hps
    simp only [Bool.and_eq_true] at hps
    obtain ⟨⟨hps, hself⟩, hxf⟩ := hps
    have hpslt : ∀ p ∈ ps, p < ks.nt := fun p hp => by
      have := List.all_eq_true.1 hps p hp
      simpa [Nat.blt_eq] using this
    obtain ⟨⟨vs, p, e2⟩, hrange, hr2⟩ := bindO_some hr
    clear hr
    rw [force_eq] at hr2
    simp only at hr2
    unfold rangeO at hrange
    split at hrange
    case h_2 => cases hrange
    rename_i g cap
    split at hrange
    case h_2 => cases hrange
    rename_i rv obs rr hL
    cases hrange
    rw [hc.L] at hL
    obtain ⟨m, hm⟩ := lim_some hL
    have hm := hm m (Nat.le_refl _)
    obtain ⟨s1, s2, _, _⟩ := fillSt_ok (p := ks) (x := ks) hself hk hk
    obtain ⟨⟨st2, p2, e2'⟩, hre, hev⟩ := evalFn_par (sp := cfg.b.sp) (tab := tab) m (KRec E) (Rec E)
      (fun a b => a.2.1 = b.2.1 ∧ a.2.2 = b.2.2 ∧ (fillSt ks a.1).Ok ∧ (fillSt ks a.1).st = b.1) _ (fun n => rangeH (machN cfg.b.sp tab n) n asg b (hn n) dep ps) (by
        rintro l args ⟨vs, p, e⟩ ⟨s, p', e'⟩ ⟨h1, h2, h3, h4⟩ bb ⟨vs', q, e1⟩ hq
        simp only at h1 h2 h3 h4
        subst h1; subst h2; subst h4
        unfold onRound at hq
        unfold rangeH
        by_cases hl : l = dep
        · simp only [hl, if_true] at hq ⊢
          cases p with
          | some x => cases hq
          | none =>
            simp only at hq ⊢
            obtain ⟨hargs, hq⟩ := chkO_some hq
            unfold okArgs at hargs
            simp only [Bool.and_eq_true, beq_iff_eq] at hargs
            rw [force_eq, force_eq] at hq
            have hnt : (fillSt ks vs).nt = ks.nt := rfl
            have hk1 : ({ fillSt ks vs with tmps := ksetPs ps args 0 (fillSt ks vs).tmps, keep := (fillSt ks vs).tmps :: (fillSt ks vs).keep } : KSt).Ok :=
              ⟨ksetPs_ok ps args 0 h3.tm hpslt hargs.2, h3.ob, fun sp hsp => (List.mem_cons.1 hsp).elim (fun e => e ▸ h3.tm) (h3.kp sp)⟩
            have hk1st : ({ fillSt ks vs with tmps := ksetPs ps args 0 (fillSt ks vs).tmps, keep := (fillSt ks vs).tmps :: (fillSt ks vs).keep } : KSt).st = { (fillSt ks vs).st with tmps := setPs ps args (fillSt ks vs).st.tmps, keep := (fillSt ks vs).st.tmps ++ (fillSt ks vs).st.keep } := by
              unfold KSt.st
              simp only
              rw [ksetPs_st ps args 0 (by omega)]
              simp
            obtain ⟨x1, k2, e3, hq, hk2, ha⟩ := iha hh (dep + 1) hk1 hq
            cases x1 with
            | exit id => cases hq
            | ret => cases hq
            | normal =>
              simp only at hq
              obtain ⟨x2, k3, e4, hq, hk3, hb⟩ := ihb hh (dep + 1) hk2 hq
              split at hq
              case h_1 => cases hq
              rename_i sp kp hkeep
              rw [force_eq] at hq
              split at hq
              case isFalse => cases hq
              rename_i hfit
              cases hq
              have hk4 : ({ k3 with tmps := sp, keep := kp } : KSt).Ok := ⟨hk3.kp sp (by rw [hkeep]; simp), hk3.ob, fun q hq => hk3.kp q (by rw [hkeep]; simp [hq])⟩
              obtain ⟨f1, f2, f3, f4⟩ := fillSt_ok hfit hk hk4
              have f5 : ks.nt = k3.nt := f4
              refine ⟨({ tmps := sp_dense sp k3, objs := k3.st.objs, keep := kp.flatMap (dense k3.nt) }, exitOf x2, e1), ⟨rfl, rfl, f2, ?_⟩, ha.mono2 hb fun n hn1 hn2 => ?_⟩
              · rw [f1]; rfl
              · simp only [hargs.1, if_true]
                rw [← hk1st, hn1]
                simp only
                rw [hn2]
                simp only
                have hkp : k3.st.keep = dense k3.nt sp ++ kp.flatMap (dense k3.nt) := by
                  show k3.keep.flatMap (dense k3.nt) = _
                  rw [hkeep]; rfl
                have hlen : (fillSt ks vs).st.tmps.length = (dense k3.nt sp).length := by
                  show (dense ks.nt _).length = _
                  rw [dense_length, dense_length]; exact f5
                rw [hkp, hlen, List.take_left, List.drop_left]
                cases x2 <;> rfl
        · simp only [hl, if_false] at hq ⊢
          split at hq
          · rename_i b2 e3 h6
            cases hq
            exact ⟨_, ⟨rfl, rfl, h3, rfl⟩, (hh _ _ _ _ h6).mono fun n hn' => by rw [hn']⟩
          · cases hq) (dep + 1) g (.yld dep :: cap) (leavesSt ks ks, none, e) (ks.st, none, e) ⟨rfl, rfl, s2, s1⟩ rv obs _ hm
    simp only at hre
    obtain ⟨h1, h2, h3, h4⟩ := hre
    subst h1; subst h2; subst h4
    have hfe : f.ev ks.st.tmps = .fn g cap := by rw [st_ev hk, KV.cl_pv hfv]
    have hcap : (PV.fn g cap).names = [] := by
      exact (okV_iff (KV.cl_ok (kv_ok hk hxf) hfv)).1
    have hbase : Evl fun n => evalC (machN cfg.b.sp tab n) n (.rangeFunc f ps asg b) (hn n) dep ks.st e = some (p.getD .normal, (fillSt ks vs).st, e2) := hev.mono fun n hn' => by
      rw [evalC_rangeH, hfe]
      unfold freezeV
      rw [hcap]
      simp only [List.isEmpty_nil, if_true]
      simp only [machN, evalFn] at hn' ⊢
      rw [hn']
    rcases iteB_some hr2 with ⟨hp, hr2⟩ | ⟨_, hr2⟩
    · cases p with
      | some x => cases hp
      | none => exact ⟨_, _, _, hr2, h3, hbase⟩
    · rcases iteB_some hr2 with ⟨hp, hr2⟩ | ⟨_, hr2⟩
      · unfold isRetE at hp
        split at hp
        · exact ⟨_, _, _, hr2, h3, hbase⟩
        · cases hp
      · obtain ⟨id, hpe, hr3⟩ := konEx_some hr2
        subst hpe
        exact ⟨_, _, _, hr3, h3, hbase⟩
  | exit id => intro E R h hn hh dep ks e K r hk hr; exact ⟨_, _, _, hr, hk, .of fun n => rfl⟩
  | scope b ih =>
    intro E R h hn hh dep ks e K r hk hr
    simp only [evalK] at hr
    obtain ⟨x, k1, e1, hr, hk1, h1⟩ := ih hh dep hk hr
    cases x with
    | normal => exact ⟨_, _, _, hr, hk1, h1.mono fun n a => by simp only [evalC, a]⟩
    | ret => exact ⟨_, _, _, hr, hk1, h1.mono fun n a => by simp only [evalC, a]⟩
    | exit id' =>
      simp only at hr
      split at hr
      · rename_i hid; exact ⟨_, _, _, hr, hk1, h1.mono fun n a => by simp only [evalC, a, hid, if_true]⟩
      · cases hr
  | ret => intro E R h hn hh dep ks e K r hk hr; exact ⟨_, _, _, hr, hk, .of fun n => rfl⟩
  | norm g =>
    intro E R h hn hh dep ks e K r hk hr
    simp only [evalK] at hr
    obtain ⟨k', hr, hk', _, hst⟩ := knorm_st hk hr
    rw [force_eq] at hr
    exact ⟨_, _, _, hr, hk', .of fun n => by simp only [evalC, hst]⟩
  | bad => intro E R h hn hh dep ks e K r hk hr; cases hr
end Go.Ab

/-
  Functions: what 'runK' tells, 'evalFn' tells, once there is enough fuel.
-/
namespace Go.Ab
variable {cfg : KCfg} {tab : FuncId → Option RFn} {ks : KSt}

theorem kresV_ok {R : Type} {r : R} (h : ks.Ok) {x : RRes} {K : KV → Option R} (hr : kresV ks x K = some r) : ∃ v, K v = some r ∧ v.ok ∧ resV ks.st x = some v.pv := by
  have hget : ∀ t, ks.st.tmps.getD t .undef = (spGet ks.tmps t).pv := fun t => dense_getD h.tm t
  have lk := st_look h
  cases x with
  | tmp t => exact ⟨_, hr, h.tm.get_ok t, by simp only [resV, hget]⟩
  | cell t n ag =>
    simp only [kresV] at hr
    split at hr
    · rename_i nm o hv
      split at hr
      · rename_i cs hl
        have hcs : okKL cs := klook_ok h.ob hl
        split at hr
        · rename_i hag
          split at hr
          · rename_i hle
            refine ⟨_, hr, okKL_take (okKL_drop hcs _) _, ?_⟩
            simp only [resV, hget, hv, KV.pv, lk, hl, Option.map_some, KOb.ob, sel, hag, if_true, chk, pvL_length, hle, decide_true, pvL_take, pvL_drop]
          · cases hr
        · rename_i hag
          split at hr
          · rename_i c hc
            refine ⟨_, hr, okKL_mem.1 hcs c (List.mem_of_getElem? hc), ?_⟩
            simp only [resV, hget, hv, KV.pv, lk, hl, Option.map_some, KOb.ob, sel, hag, pvL_get?, hc]
            rfl
          · cases hr
      · rename_i w hl
        obtain ⟨z, hz, hr⟩ := bindO_some hr
        have hw : okV w = true := klook_ok h.ob hl
        unfold selO at hz
        refine ⟨_, hr, okV_sel (okV_cells hw) hz, ?_⟩
        simp only [resV, hget, hv, KV.pv, lk, hl, Option.map_some, KOb.ob, cellsP, hz]
      · cases hr
    · cases hr

theorem kresVs_ok {R : Type} {r : R} (h : ks.Ok) : ∀ (l : List RRes) {K : List KV → Option R}, kresVs ks l K = some r → ∃ vs, K vs = some r ∧ okKL vs ∧ resVs ks.st l = some (pvL vs) := by
  intro l
  induction l with
  | nil => intro K hr; exact ⟨[], hr, trivial, rfl⟩
  | cons x l ih =>
    intro K hr
    simp only [kresVs] at hr
    obtain ⟨v, hr, hv, h1⟩ := kresV_ok h hr
    obtain ⟨vs, hr, hvs, h2⟩ := ih hr
    exact ⟨v :: vs, hr, ⟨hv, hvs⟩, by simp only [resVs, h1, h2, pvL]⟩

theorem koneOf_ok {vs : List KV} (h : okKL vs) : (koneOf vs).ok ∧ (koneOf vs).pv = oneOf (pvL vs) := by
  match vs, h with
  | [], h => exact ⟨trivial, rfl⟩
  | [v], h => exact ⟨h.1, rfl⟩
  | v :: w :: vs, h => exact ⟨h, rfl⟩

theorem isZero_iff {o : Nat} : isZero o = true ↔ o = 0 := by cases o <;> simp [isZero]

/-- The lists at the top of one value. -/
def top1 : PV → List Nm
  | .arr nm _ 0 _ => [nm]
  | _ => []
def top2 : PV → List Nm
  | .arr nm _ 0 _ => [nm]
  | .agg cs => cs.flatMap top1
  | _ => []
def ktop1 : KV → List Nm
  | .arr nm _ o _ => if isZero o then [nm] else []
  | .wit nm => [nm]
  | _ => []
def ktop2 : KV → List Nm
  | .arr nm _ o _ => if isZero o then [nm] else []
  | .wit nm => [nm]
  | .agg cs => cs.flatMap ktop1
  | _ => []

theorem ktop1_ok {x : KV} (h : x.ok) : ktop1 x = top1 x.pv := by
  cases x with
  | arr nm k o n => cases o <;> rfl
  | cv v =>
    have hv : okV v = true := h
    cases v <;> first | rfl | simp [okV] at hv
  | _ => rfl

theorem top1_none {cs : List PV} (h : okVL cs = true) : cs.flatMap top1 = [] := by
  rw [List.flatMap_eq_nil_iff]
  intro x hx
  have := okVL_iff.1 h x hx
  cases x <;> first | rfl | simp [okV] at this

theorem flatMap_top1 {cs : List KV} (h : okKL cs) : cs.flatMap ktop1 = (pvL cs).flatMap top1 := by
  rw [pvL_map, List.flatMap_map]
  induction cs with
  | nil => rfl
  | cons x xs ih => simp only [List.flatMap_cons]; rw [ktop1_ok h.1, ih h.2]

theorem ktop2_ok {x : KV} (h : x.ok) : ktop2 x = top2 x.pv := by
  cases x with
  | arr nm k o n => cases o <;> rfl
  | agg cs => exact flatMap_top1 h
  | cv v =>
    have hv : okV v = true := h
    cases v with
    | agg cs => simp only [okV] at hv; exact (top1_none hv).symm
    | _ => first | rfl | simp [okV] at hv
  | _ => rfl

theorem tops_eq (v : PV) : tops v = match v with | .tup xs => xs.flatMap top2 | v => top2 v := by
  have e1 : (fun (x : PV) => match x with | .arr nm _ 0 _ => [nm] | _ => []) = top1 := by
    funext x; cases x <;> first | rfl | (rename_i nm k o n; cases o <;> rfl)
  cases v with
  | arr nm k o n => cases o <;> rfl
  | agg cs => simp only [tops, top2]; rfl
  | tup xs =>
    simp only [tops]
    congr 1
  | _ => rfl

theorem ktops_eq (v : KV) : ktops v = match v with | .tup xs => xs.flatMap ktop2 | v => ktop2 v := by
  cases v <;> first | rfl | (simp only [ktops]; congr 1)

theorem ktops_ok {v : KV} (h : v.ok) : ktops v = tops v.pv := by
  rw [ktops_eq, tops_eq]
  cases v with
  | tup xs =>
    have hx : okKL xs := h
    simp only [KV.pv]
    rw [pvL_map, List.flatMap_map]
    clear h
    induction xs with
    | nil => rfl
    | cons x xs ih => simp only [List.flatMap_cons]; rw [ktop2_ok hx.1, ih hx.2]
  | cv u =>
    have hu : okV u = true := h
    simp only [KV.pv, ktop2]
    cases u with
    | tup xs =>
      simp only [okV] at hu
      symm
      rw [List.flatMap_eq_nil_iff]
      intro x hx
      have hx' := okVL_iff.1 hu x hx
      have := ktop2_ok (x := .cv x) hx'
      simpa [ktop2, KV.pv] using this.symm
    | agg cs => simp only [okV] at hu; exact (top1_none hu).symm
    | _ => first | rfl | simp [okV] at hu
  | _ => exact ktop2_ok h

/-! ### What is handed over -/

theorem nodupN_iff : ∀ {l : List Nm}, nodupN l = true ↔ l.Nodup
  | [] => by simp [nodupN]
  | x :: xs => by simp [nodupN, nodupN_iff (l := xs)]

theorem mapM_look {σ : Nm → Option Ob} : ∀ {S : List Nm}, (∀ nm ∈ S, ∃ ob, σ nm = some ob ∧ isArr ob = true) → ∃ obs, S.mapM σ = some obs ∧ obs.all isArr = true ∧ obs.length = S.length ∧ ∀ (i : Nat) nm, S[i]? = some nm → obs[i]? = σ nm := by
  intro S
  induction S with
  | nil => intro _; exact ⟨[], rfl, rfl, rfl, by simp⟩
  | cons nm S ih =>
    intro h
    obtain ⟨ob, h1, h2⟩ := h nm (by simp)
    obtain ⟨obs, h3, h4, h5, h6⟩ := ih fun m hm => h m (by simp [hm])
    refine ⟨ob :: obs, by simp [List.mapM_cons, h1, h3], by simp [h2, h4], by simp [h5], ?_⟩
    intro i m hi
    cases i with
    | zero => simp at hi; subst hi; simp [h1]
    | succ i => simp at hi ⊢; exact h6 i m hi

theorem idxOf_mid {pre mid post : List Nm} {nm : Nm} (hnd : (pre ++ nm :: mid ++ post).Nodup) : (pre ++ nm :: mid ++ post).idxOf nm = pre.length := by
  have hn : nm ∉ pre := fun hm => by
    rw [List.append_assoc, List.nodup_append] at hnd
    exact hnd.2.2 nm hm nm (by simp) rfl
  rw [List.append_assoc, List.idxOf_append, if_neg hn]
  simp

section hand
variable {σ : Nm → Option KOb} (hσ : ∀ nm o, σ nm = some o → o.ok) {S : List Nm} (hnd : S.Nodup) {obs : List Ob} (hobs : ∀ (i : Nat) nm, S[i]? = some nm → obs[i]? = (σ nm).map fun o => o.ob.bare)
include hσ hnd hobs

/-- What a result's names are read as. -/
def subH (σ : Nm → Option KOb) (S : List Nm) : Nm → Option (Option Ob) := fun nm => if S.contains nm = true then none else closed (fun nm => (σ nm).map KOb.ob) nm

omit hnd hobs in
theorem close_subH {x : KV} (hx : x.ok) (hn : (x.names.all fun nm => !S.contains nm) = true) : x.pv.sub (subH σ S) = x.close (kclosed σ deepest) := by
  rw [KV.close_pv _ hx]
  refine PV.sub_congr _ fun nm hm => ?_
  rw [KV.pv_names hx] at hm
  have := List.all_eq_true.1 hn nm hm
  unfold subH subCl closed
  simp only [Bool.not_eq_true'] at this
  rw [this, kclosed_eq hσ, Option.map_map]
  rfl

omit hσ hnd hobs in
theorem sub_cl {x : KV} {u : PV} (hx : x.ok) (h : x.cl = some u) (f : Nm → Option (Option Ob)) (g : Nm → Nm) : (x.pv.sub f).ren g = u := by
  have hu := KV.cl_ok hx h
  rw [KV.cl_pv h, sub_none (okV_iff hu).1, ren_none (okV_iff hu).1]

mutual
theorem khand_ok {R : Type} {r : R} : ∀ (sh : RSh) (x : KV), x.ok → ∀ {K : PV → Option R}, khand σ S sh x K = some r → ∀ (pre post : List Nm), S = pre ++ ownN sh x ++ post →
    ∃ u, K u = some r ∧ convR obs sh pre.length ((x.pv.sub (subH σ S)).ren (toIdx S)) = some (u, pre.length + (ownN sh x).length)
  | .cl, x, hx, K, hr, pre, post, _ => by
    have hclose : (if x.names.all fun nm => !S.contains nm then chkO (okU (x.close (kclosed σ deepest))) (K (x.close (kclosed σ deepest))) else none) = some r →
        ∃ u, K u = some r ∧ convR obs .cl pre.length ((x.pv.sub (subH σ S)).ren (toIdx S)) = some (u, pre.length + (ownN .cl x).length) := by
      intro hr
      split at hr
      · rename_i hn
        obtain ⟨h1, hr⟩ := chkO_some hr
        unfold okU at h1
        refine ⟨_, hr, ?_⟩
        rw [close_subH hσ hx hn, ren_none (okV_iff h1).1]
        simp [convR, h1, chkO, ownN]
      · cases hr
    simp only [khand] at hr
    cases hu : x.cl with
    | some u =>
      rw [hu] at hr
      refine ⟨u, hr, ?_⟩
      rw [sub_cl hx hu]
      simp [convR, KV.cl_ok hx hu, chkO, ownN]
    | none =>
      rw [hu] at hr
      cases x with
      | tup xs =>
        simp only at hr
        cases hus : clL xs with
        | some us =>
          rw [hus] at hr
          have hok := clL_ok (xs := xs) hx hus
          have htup : okV (.tup us) = true := by simpa [okV] using hok
          refine ⟨.tup us, hr, ?_⟩
          have : (KV.tup xs).pv = .tup us := by simp [KV.pv, clL_pv hus]
          rw [this, sub_none (okV_iff htup).1, ren_none (okV_iff htup).1]
          simp [convR, htup, chkO, ownN]
        | none => rw [hus] at hr; exact hclose hr
      | _ => exact hclose hr
  | .own k, x, hx, K, hr, pre, post, hS => by
    simp only [khand] at hr
    split at hr
    · rename_i nm k' o n
      split at hr
      · rename_i k'' kt xs hl
        split at hr
        · rename_i hc
          obtain ⟨rfl, rfl, ho⟩ := hc
          rw [isZero_iff] at ho
          subst ho
          obtain ⟨h1, hr⟩ := chkO_some hr
          rw [eqN_iff] at h1
          unfold lenL at h1
          simp only [ownN] at hS
          refine ⟨_, hr, ?_⟩
          have hmem : S.contains nm = true := by rw [List.contains_iff_mem, hS]; simp
          have hi : S[pre.length]? = some nm := by rw [hS]; simp
          have hidx : S.idxOf nm = pre.length := by
            have e : S = pre ++ nm :: [] ++ post := by rw [hS]
            rw [e]; exact idxOf_mid (e ▸ hnd)
          have hob : obs[pre.length]? = some (.arr k 0 xs) := by rw [hobs _ _ hi, hl]; rfl
          have hxok : okVL xs = true := hσ _ _ hl
          have hsub : (PV.arr nm k 0 n).sub (subH σ S) = .arr nm k 0 n := by
            simp only [PV.sub, subH, hmem, if_true]
          simp only [KV.pv]
          rw [hsub]
          simp [PV.ren, toIdx, hidx, convR, hob, chkO, h1, hxok, ownN]
        · cases hr
      · cases hr
    · cases hr
  | .tup l, x, hx, K, hr, pre, post, hS => by
    simp only [khand] at hr
    split at hr
    · rename_i xs
      simp only [ownN] at hS
      obtain ⟨us, h1, h2⟩ := khandL_ok l xs hx hr pre post hS
      refine ⟨_, h1, ?_⟩
      simp only [KV.pv, PV.sub, PV.ren, convR, h2, ownN]
      rfl
    · cases hr
  | .agg l, x, hx, K, hr, pre, post, hS => by
    simp only [khand] at hr
    split at hr
    · rename_i xs
      simp only [ownN] at hS
      obtain ⟨us, h1, h2⟩ := khandL_ok l xs hx hr pre post hS
      refine ⟨_, h1, ?_⟩
      simp only [KV.pv, PV.sub, PV.ren, convR, h2, ownN]
      rfl
    · cases hr
theorem khandL_ok {R : Type} {r : R} : ∀ (l : List RSh) (xs : List KV), okKL xs → ∀ {K : List PV → Option R}, khandL σ S l xs K = some r → ∀ (pre post : List Nm), S = pre ++ ownNL l xs ++ post →
    ∃ us, K us = some r ∧ convRL obs l pre.length (renL (toIdx S) (subL (subH σ S) (pvL xs))) = some (us, pre.length + (ownNL l xs).length)
  | [], [], _, K, hr, pre, post, _ => ⟨[], hr, by simp [pvL, subL, renL, convRL, ownNL]⟩
  | [], _ :: _, _, K, hr, _, _, _ => by simp [khandL] at hr
  | _ :: _, [], _, K, hr, _, _, _ => by simp [khandL] at hr
  | s :: l, x :: xs, hx, K, hr, pre, post, hS => by
    simp only [khandL] at hr
    simp only [ownNL] at hS
    obtain ⟨u, hr, h1⟩ := khand_ok s x hx.1 hr pre (ownNL l xs ++ post) (by rw [hS]; simp [List.append_assoc])
    obtain ⟨us, hr, h2⟩ := khandL_ok l xs hx.2 hr (pre ++ ownN s x) post (by rw [hS]; simp [List.append_assoc])
    refine ⟨u :: us, hr, ?_⟩
    simp only [pvL, subL, renL, convRL, h1]
    rw [List.length_append] at h2
    rw [h2]
    simp [ownNL, Nat.add_assoc]
end
end hand

theorem own_arr {σ : Nm → Option KOb} {S : List Nm} {R : Type} {r : R} : ∀ (sh : RSh) (x : KV) {K : PV → Option R}, khand σ S sh x K = some r → (∀ nm ∈ ownN sh x, ∃ k kt xs, σ nm = some (.arr k kt xs)) ∧ ∃ u, K u = some r := by
  intro sh
  refine RSh.rec (motive_1 := fun sh => ∀ (x : KV) {K : PV → Option R}, khand σ S sh x K = some r → (∀ nm ∈ ownN sh x, ∃ k kt xs, σ nm = some (.arr k kt xs)) ∧ ∃ u, K u = some r)
    (motive_2 := fun l => ∀ (xs : List KV) {K : List PV → Option R}, khandL σ S l xs K = some r → (∀ nm ∈ ownNL l xs, ∃ k kt ys, σ nm = some (.arr k kt ys)) ∧ ∃ us, K us = some r) ?_ ?_ ?_ ?_ ?_ ?_ sh
  · intro x K hr
    refine ⟨by simp [ownN], ?_⟩
    simp only [khand] at hr
    split at hr
    · exact ⟨_, hr⟩
    · split at hr
      · split at hr
        · exact ⟨_, hr⟩
        · split at hr
          · exact ⟨_, (chkO_some hr).2⟩
          · cases hr
      · split at hr
        · exact ⟨_, (chkO_some hr).2⟩
        · cases hr
  · intro k x K hr
    simp only [khand] at hr
    split at hr
    · rename_i nm k' o n
      split at hr
      · rename_i k'' kt xs hl
        split at hr
        · exact ⟨by simp [ownN, hl], _, (chkO_some hr).2⟩
        · cases hr
      · cases hr
    · cases hr
  · intro l ih x K hr
    simp only [khand] at hr
    split at hr
    · rename_i xs
      obtain ⟨h1, us, h2⟩ := ih xs hr
      exact ⟨by simpa [ownN] using h1, _, h2⟩
    · cases hr
  · intro l ih x K hr
    simp only [khand] at hr
    split at hr
    · rename_i xs
      obtain ⟨h1, us, h2⟩ := ih xs hr
      exact ⟨by simpa [ownN] using h1, _, h2⟩
    · cases hr
  · intro xs K hr
    cases xs with
    | nil => exact ⟨by simp [ownNL], _, hr⟩
    | cons x xs => simp [khandL] at hr
  · intro s l ihs ihl xs K hr
    cases xs with
    | nil => simp [khandL] at hr
    | cons x xs =>
      simp only [khandL] at hr
      obtain ⟨h1, u, hr⟩ := ihs x hr
      obtain ⟨h2, us, hr⟩ := ihl xs hr
      refine ⟨?_, _, hr⟩
      intro nm hm
      simp only [ownNL, List.mem_append] at hm
      exact hm.elim (h1 nm) (h2 nm)

theorem ktopsOf_ok (shut : Bool) {v : KV} (h : v.ok) : ktopsOf shut v = topsOf shut v.pv := by
  cases shut with
  | true => rfl
  | false => exact ktops_ok h

theorem khandOver_ok {R : Type} {r : R} (h : ks.Ok) {shut : Bool} {sh : RSh} {v : KV} (hv : v.ok) {K : PV → Option R} (hr : khandOver ks shut sh v K = some r) : ∃ u rv obs, K u = some r ∧ handOver shut ks.st v.pv = some (rv, obs) ∧ convO sh rv obs = some u := by
  unfold khandOver at hr
  simp only at hr
  split at hr
  case isFalse => cases hr
  rename_i hc
  obtain ⟨hS, hnd, hdis, hsh⟩ := hc
  have hσ := klook_okF h
  obtain ⟨harr, _⟩ := own_arr sh v hr
  rw [← hS] at harr
  have hlk := st_lookF h
  obtain ⟨obs, hm, hall, hlen, hget⟩ := mapM_look (σ := look ks.st.objs) (S := ktopsOf shut v) fun nm hm => by
    obtain ⟨k, kt, xs, he⟩ := harr nm hm
    exact ⟨.arr k kt xs, by rw [st_look h, he]; rfl, rfl⟩
  have hnd' := nodupN_iff.1 hnd
  obtain ⟨u, hu, hconv⟩ := khand_ok hσ hnd' (obs := obs.map Ob.bare) (fun i nm hi => by rw [List.getElem?_map, hget i nm hi, st_look h, Option.map_map]; rfl) sh v hv hr [] [] (by rw [← hS]; simp)
  refine ⟨u, (v.pv.sub (subH (klook ks.objs) (ktopsOf shut v))).ren (toIdx (ktopsOf shut v)), obs.map Ob.bare, hu, ?_, ?_⟩
  · have e : (fun nm => if (topsOf shut v.pv).contains nm = true then none else closed (look ks.st.objs) nm) = subH (klook ks.objs) (ktopsOf shut v) := by
      funext nm
      unfold subH
      rw [ktopsOf_ok shut hv, hlk]
    rw [kreach_eq hσ, ← hlk] at hdis hsh
    rw [kshut_eq hσ, ← hlk] at hsh
    rw [ktopsOf_ok shut hv, ← KV.pv_names hv] at hdis hsh
    rw [ktopsOf_ok shut hv] at hnd hm
    unfold handOver
    simp only [hnd, hdis, Bool.and_self, if_true, hm, hsh, hall, chk, e, ktopsOf_ok shut hv]
  · unfold convO
    simp only [List.length_nil, Nat.zero_add] at hconv
    rw [hconv]
    simp [chkO, hlen, hS]

theorem init_ok {nt : Nat} {args : List KV} (ha : okKL args) (hu : ∀ x ∈ args, isUnK x = false) (hl : args.length ≤ nt) : ({ nt, tmps := args.zipIdx.map fun p => (p.2, p.1), objs := [], keep := [] } : KSt).Ok ∧
    ({ nt, tmps := args.zipIdx.map fun p => (p.2, p.1), objs := [], keep := [] } : KSt).st = { tmps := pvL args ++ List.replicate (nt - (pvL args).length) .undef, objs := List.replicate nt [], keep := [] } := by
  have hmem : ∀ p ∈ args.zipIdx.map (fun p => (p.2, p.1)), args[p.1]? = some p.2 := by
    intro p hp
    obtain ⟨⟨x, i⟩, hq, rfl⟩ := List.mem_map.1 hp
    rw [List.mem_zipIdx_iff_getElem?] at hq
    exact hq
  have hw : SpWf nt (args.zipIdx.map fun p => (p.2, p.1)) := by
    refine ⟨?_, ?_, ?_, ?_⟩
    · rw [List.map_map]
      have : ((fun p : Nat × KV => p.1) ∘ fun p : KV × Nat => (p.2, p.1)) = Prod.snd := rfl
      rw [this, List.zipIdx_map_snd]
      exact List.pairwise_lt_range'
    · intro p hp
      have := (List.getElem?_eq_some_iff.1 (hmem p hp)).1
      omega
    · intro p hp; exact okKL_mem.1 ha _ (List.mem_of_getElem? (hmem p hp))
    · intro p hp; exact hu _ (List.mem_of_getElem? (hmem p hp))
  refine ⟨⟨hw, .nil nt, by simp⟩, ?_⟩
  unfold KSt.st
  simp only [List.flatMap_nil]
  congr 1
  · refine dense_ext (by simp [pvL_length]; omega) fun i hi => ?_
    by_cases hia : i < args.length
    · rw [List.getElem?_append_left (by rw [pvL_length]; exact hia), pvL_get?, List.getElem?_eq_getElem hia]
      have hp : (i, args[i]) ∈ args.zipIdx.map (fun p => (p.2, p.1)) := by
        refine List.mem_map.2 ⟨(args[i], i), ?_, rfl⟩
        rw [List.mem_zipIdx_iff_getElem?]
        simp [hia]
      rw [show spGet (args.zipIdx.map fun p => (p.2, p.1)) i = args[i] from hw.get_mem hp]
      rfl
    · rw [List.getElem?_append_right (by rw [pvL_length]; omega), List.getElem?_replicate, if_pos (by rw [pvL_length]; omega)]
      rw [show spGet (args.zipIdx.map fun p => (p.2, p.1)) i = .un from spGet_not fun p hp => by
        have := (List.getElem?_eq_some_iff.1 (hmem p hp)).1
        omega]
      rfl
  · refine denseO_ext (by simp) fun i hi => ?_
    rw [List.getElem?_replicate, if_pos hi]
    rfl

theorem runK_ok (hc : CfgOK cfg tab) {g : FuncId} {fn : RFn} (ht : tab g = some fn) {E : Type} {h : Handler E} {hn : Nat → Handler E} (hh : HOk h hn) {dep : Nat} {sh : RSh} {args : List KV} {e e' : E} {u : PV}
    (ha : okKL args) (hu : ∀ x ∈ args, isUnK x = false) (hl : args.length ≤ fn.nt) (hr : runK cfg fn sh h dep args e = some (u, e')) :
    ∃ r obs, convO sh r obs = some u ∧ Evl fun n => evalFn cfg.b.sp tab n E (hn n) dep g (pvL args) e = some (r, obs, e') := by
  unfold runK at hr
  rw [force_eq] at hr
  obtain ⟨i1, i2⟩ := init_ok ha hu hl
  have hh' : HOk h fun n => hn (n + 1) := fun l args e r hq => by
    obtain ⟨a, hb⟩ := hh l args e r hq
    exact ⟨a, fun n hn' => hb (n + 1) (by omega)⟩
  obtain ⟨x, k1, e1, hr, hk1, hev⟩ := evalK_ok hc fn.code hh' dep i1 hr
  rw [i2] at hev
  have fin : (kresVs k1 fn.res fun vs => khandOver k1 fn.shut sh (koneOf vs) fun v => some (v, e1)) = some (u, e') → (∀ id, x ≠ .exit id) → ∃ r obs, convO sh r obs = some u ∧ Evl fun n => evalFn cfg.b.sp tab n E (hn n) dep g (pvL args) e = some (r, obs, e') := by
    intro hr hx
    obtain ⟨vs, hr, hvs, h1⟩ := kresVs_ok hk1 fn.res hr
    obtain ⟨o1, o2⟩ := koneOf_ok hvs
    obtain ⟨u', rv, obs, hr, h2, h3⟩ := khandOver_ok hk1 o1 hr
    cases hr
    refine ⟨rv, obs, h3, hev.shift.mono ?_⟩
    rintro k ⟨j, rfl, hj⟩
    show callOf (evalM cfg.b.sp tab j) j tab E (hn (j + 1)) dep g (pvL args) e = _
    simp only [callOf, ht]
    simp only [machN] at hj
    rw [hj]
    cases x with
    | exit id => exact absurd rfl (hx id)
    | normal => simp only [h1]; rw [← o2, h2]
    | ret => simp only [h1]; rw [← o2, h2]
  cases x with
  | exit id => cases hr
  | normal => exact fin hr (by simp)
  | ret => exact fin hr (by simp)
end Go.Ab

/-
  From what 'runK' tells to calls; the words, by their values.
-/
namespace Go.Ab

section
variable {cfg : KCfg} {tab : FuncId → Option RFn}

theorem cvL_pv : ∀ (vs : List PV), pvL (vs.map KV.cv) = vs
  | [] => rfl
  | v :: vs => by simp [pvL, KV.pv, cvL_pv vs]
theorem cvL_ok {vs : List PV} (h : okVL vs = true) : okKL (vs.map KV.cv) := okKL_mem.2 fun x hx => by
  obtain ⟨v, hv, rfl⟩ := List.mem_map.1 hx
  exact okVL_iff.1 h v hv
theorem cvL_un {vs : List PV} : ∀ x ∈ vs.map KV.cv, isUnK x = false := fun x hx => by
  obtain ⟨v, _, rfl⟩ := List.mem_map.1 hx
  rfl

theorem noH : HOk noHandler (fun _ => noHandler) := fun _ _ _ _ h => by cases h

theorem call_of_run (hc : CfgOK cfg tab) {g : FuncId} {fn : RFn} (ht : tab g = some fn) {sh : RSh} {cap args : List PV} {u : PV} (ha : okVL (args ++ cap) = true) (hl : (args ++ cap).length ≤ fn.nt)
    (hsp : cfg.b.sp g (fun _ => none) (args ++ cap) = none) (hr : runK cfg fn sh noHandler 0 ((args ++ cap).map KV.cv) () = some (u, ())) (hio : fn.io = false := by rfl) : callO cfg.b sh (.fn g cap) args = some u := by
  obtain ⟨r, obs, h1, h2⟩ := runK_ok hc ht (hn := fun _ => noHandler) noH (cvL_ok ha) cvL_un (by simpa using hl) hr
  rw [cvL_pv] at h2
  have hL : cfg.b.L Unit noHandler 0 g (args ++ cap) () = some (r, obs, ()) := by rw [hc.L]; exact lim_of h2
  have hfl : cfg.b.isIo g = false := by rw [hc.isIo]; unfold ioFlag; rw [ht]; exact hio
  unfold callO
  simp only [spO, hsp, hL, hfl, Bool.false_eq_true, if_false]
  exact h1

theorem call_of_sp (hc : CfgOK cfg tab) {g : FuncId} {cap args : List PV} {u : PV} (hsp : cfg.b.sp g (fun _ => none) (args ++ cap) = some { v := u }) (hu : okV u = true) : callO cfg.b .cl (.fn g cap) args = some u := by
  unfold callO
  simp [spO, hsp, hu, chkO, convO, convR]

theorem range_of_run (hc : CfgOK cfg tab) {g : FuncId} {fn : RFn} (ht : tab g = some fn) {E : Type} {h : Handler E} {dep : Nat} {cap : List PV} {u : PV} {e e' : E} (ha : okVL cap = true) (hl : cap.length + 1 ≤ fn.nt)
    (hr : runK cfg fn .cl h (dep + 1) (.yld dep :: cap.map KV.cv) e = some (u, e')) : rangeO cfg.b h dep (.fn g cap) e = some e' := by
  obtain ⟨r, obs, h1, h2⟩ := runK_ok hc ht (hn := fun _ => h) (fun l args e r hq => .of fun _ => hq) (dep := dep + 1) (args := .yld dep :: cap.map KV.cv) ⟨trivial, cvL_ok ha⟩ (fun x hx => by
    rcases List.mem_cons.1 hx with rfl | hx
    · rfl
    · exact cvL_un x hx) (by simpa using hl) hr
  have e1 : pvL (.yld dep :: cap.map KV.cv) = .yld dep :: cap := by simp [pvL, KV.pv, cvL_pv]
  rw [e1] at h2
  have hL : cfg.b.L E h (dep + 1) g (.yld dep :: cap) e = some (r, obs, e') := by rw [hc.L]; exact lim_of h2
  unfold rangeO
  simp only [hL]

theorem conv_cl {r u : PV} {obs : List Ob} (h : convO .cl r obs = some u) : r = u ∧ obs = [] ∧ okV u = true := by
  unfold convO at h
  simp only [convR] at h
  split at h
  · rename_i r' j hr
    obtain ⟨h1, h2⟩ := chkO_some hr
    cases h2
    obtain ⟨h3, h4⟩ := chkO_some h
    cases h4
    simp only [beq_iff_eq] at h3
    exact ⟨rfl, List.length_eq_zero_iff.1 h3.symm, h1⟩
  · cases h

theorem lend_of_run (hc : CfgOK cfg tab) {g : FuncId} {fn : RFn} (ht : tab g = some fn) {fr : Bool} {args : List PV} {u : PV} (ha : okVL args = true) (hl : args.length ≤ fn.nt)
    (hr : runK cfg fn .cl noHandler 0 (args.map KV.cv) () = some (u, ())) (hfr : (u.free && !leanFlag tab g) = fr) : lendO cfg.b .cl fr g args = some u := by
  obtain ⟨r, obs, h1, h2⟩ := runK_ok hc ht (hn := fun _ => noHandler) noH (cvL_ok ha) cvL_un (by simpa using hl) hr
  rw [cvL_pv] at h2
  obtain ⟨e1, e2, _⟩ := conv_cl h1
  subst e1; subst e2
  have hL : cfg.b.L Unit noHandler 0 g args () = some (r, [], ()) := by rw [hc.L]; exact lim_of h2
  unfold lendO
  rw [(okVL_names ha).2]
  simp only [Bool.false_eq_true, if_false, hL, List.all_nil, Bool.and_true, hc.leans, hfr, beq_self_eq_true, chkO]
  exact h1

/-- A law's call. -/
theorem law_of_run (hc : CfgOK cfg tab) {g : FuncId} {fn : RFn} (ht : tab g = some fn) {args : List PV} {b : Bool} (ha : okVL args = true) (hl : args.length ≤ fn.nt)
    (hr : runK cfg fn .cl noHandler 0 (args.map KV.cv) () = some (.bool b, ())) : ∃ n, evalFn cfg.b.sp tab n Unit noHandler 0 g args () = some (.bool b, [], ()) := by
  obtain ⟨r, obs, h1, m, hm⟩ := runK_ok hc ht (hn := fun _ => noHandler) noH (cvL_ok ha) cvL_un (by simpa using hl) hr
  rw [cvL_pv] at hm
  obtain ⟨e1, e2, _⟩ := conv_cl h1
  subst e1; subst e2
  exact ⟨m, hm m (Nat.le_refl _)⟩
end

/-- A loop of so many rounds. -/
theorem loop_run {σ ρ : Type} {step : σ → Option (Sum σ ρ)} {s0 : σ} {r : ρ} (inv : Nat → σ) (N : Nat) (h0 : s0 = inv 0) (hs : ∀ i, i < N → step (inv i) = some (.inl (inv (i + 1)))) (he : step (inv N) = some (.inr r)) : loopL step s0 = some r := by
  have key : ∀ m i, i + m = N → loopL step (inv i) = some r := by
    intro m
    induction m with
    | zero => intro i hi; obtain rfl : i = N := by omega
              exact loopL_inr he
    | succ m ih => intro i hi; rw [loopL_inl (hs i (by omega))]; exact ih (i + 1) (by omega)
  rw [h0]; exact key N 0 (by omega)

/-- A loop by what holds of its states. -/
theorem loop_ind {σ ρ : Type} {step : σ → Option (Sum σ ρ)} (P : σ → ρ → Prop) (m : σ → Nat) (hs : ∀ s r, P s r → step s = some (.inr r) ∨ ∃ s', step s = some (.inl s') ∧ P s' r ∧ m s' < m s) {s : σ} {r : ρ} (h : P s r) : loopL step s = some r := by
  have key : ∀ n s r, m s ≤ n → P s r → loopL step s = some r := by
    intro n
    induction n with
    | zero =>
      intro s r hn hp
      rcases hs s r hp with h1 | ⟨s', _, _, h3⟩
      · exact loopL_inr h1
      · omega
    | succ n ih =>
      intro s r hn hp
      rcases hs s r hp with h1 | ⟨s', h1, h2, h3⟩
      · exact loopL_inr h1
      · rw [loopL_inl h1]; exact ih s' r (by omega) h2
  exact key _ s r (Nat.le_refl _) h

/-- What is handed to a loop over a function, one after the other, until it ends it. -/
def yieldAll {E : Type} (h : Handler E) (d : Nat) : List (List PV) → E → Option E
  | [], e => some e
  | a :: l, e => match h d a e with
    | some (true, e) => yieldAll h d l e
    | some (false, e) => some e
    | none => none

/-! ### Words -/

@[simp] theorem bindO_val {α β : Type} (a : α) (f : α → Option β) : bindO (some a) f = f a := rfl
@[simp] theorem bindO_none' {α β : Type} (f : α → Option β) : bindO none f = none := rfl
@[simp] theorem chkO_true {β : Type} (a : Option β) : chkO true a = a := rfl
@[simp] theorem chkO_false {β : Type} (a : Option β) : chkO false a = none := rfl
@[simp] theorem iteP_bool {β : Type} (b : Bool) (x y : Option β) : iteP (.bool b) x y = if b = true then x else y := by cases b <;> rfl
@[simp] theorem iteB_bool {β : Type} (b : Bool) (x y : Option β) : iteB b x y = if b = true then x else y := by cases b <;> rfl
theorem iteP_true {β : Type} (x y : Option β) : iteP (.bool true) x y = x := rfl
theorem iteP_false {β : Type} (x y : Option β) : iteP (.bool false) x y = y := rfl

section pure
variable {c : TC} {cst : Bool} {k : IntKind}
@[simp] theorem pure_add (a b : Int) : pureO (.bin .add c cst (.c (.int k a)) (.c (.int k b))) = some (.int k (k.wrap (a + b))) := by simp [pureO, exec, RX.ev, binPV, chk, binInt]
@[simp] theorem pure_sub (a b : Int) : pureO (.bin .sub c cst (.c (.int k a)) (.c (.int k b))) = some (.int k (k.wrap (a - b))) := by simp [pureO, exec, RX.ev, binPV, chk, binInt]
@[simp] theorem pure_mul (a b : Int) : pureO (.bin .mul c cst (.c (.int k a)) (.c (.int k b))) = some (.int k (k.wrap (a * b))) := by simp [pureO, exec, RX.ev, binPV, chk, binInt]
theorem pure_quo (a b : Int) (hb : b ≠ 0) : pureO (.bin .quo c cst (.c (.int k a)) (.c (.int k b))) = some (.int k (k.wrap (a.tdiv b))) := by simp [pureO, exec, RX.ev, binPV, chk, binInt, hb]
theorem pure_rem (a b : Int) (hb : b ≠ 0) : pureO (.bin .rem c cst (.c (.int k a)) (.c (.int k b))) = some (.int k (a.tmod b)) := by simp [pureO, exec, RX.ev, binPV, chk, binInt, hb]
@[simp] theorem pure_eql (a b : Int) : pureO (.bin .eql c cst (.c (.int k a)) (.c (.int k b))) = some (.bool (a == b)) := by simp [pureO, exec, RX.ev, binPV, chk, binInt, cmpInt]
@[simp] theorem pure_neq (a b : Int) : pureO (.bin .neq c cst (.c (.int k a)) (.c (.int k b))) = some (.bool (a != b)) := by simp [pureO, exec, RX.ev, binPV, chk, binInt, cmpInt]
@[simp] theorem pure_lss (a b : Int) : pureO (.bin .lss c cst (.c (.int k a)) (.c (.int k b))) = some (.bool (decide (a < b))) := by simp [pureO, exec, RX.ev, binPV, chk, binInt, cmpInt]
@[simp] theorem pure_leq (a b : Int) : pureO (.bin .leq c cst (.c (.int k a)) (.c (.int k b))) = some (.bool (decide (a ≤ b))) := by simp [pureO, exec, RX.ev, binPV, chk, binInt, cmpInt]
@[simp] theorem pure_gtr (a b : Int) : pureO (.bin .gtr c cst (.c (.int k a)) (.c (.int k b))) = some (.bool (decide (b < a))) := by simp [pureO, exec, RX.ev, binPV, chk, binInt, cmpInt]
@[simp] theorem pure_geq (a b : Int) : pureO (.bin .geq c cst (.c (.int k a)) (.c (.int k b))) = some (.bool (decide (b ≤ a))) := by simp [pureO, exec, RX.ev, binPV, chk, binInt, cmpInt]
@[simp] theorem pure_eqs (a b : List UInt8) : pureO (.bin .eql c cst (.c (.str a)) (.c (.str b))) = some (.bool (a == b)) := by simp [pureO, exec, RX.ev, binPV, binStr]
@[simp] theorem pure_nes (a b : List UInt8) : pureO (.bin .neq c cst (.c (.str a)) (.c (.str b))) = some (.bool (!(a == b))) := by simp [pureO, exec, RX.ev, binPV, binStr]
@[simp] theorem pure_eqb (a b : Bool) : pureO (.bin .eql .bool cst (.c (.bool a)) (.c (.bool b))) = some (.bool (a == b)) := by simp [pureO, exec, RX.ev, binPV, eqNil]
@[simp] theorem pure_neb (a b : Bool) : pureO (.bin .neq .bool cst (.c (.bool a)) (.c (.bool b))) = some (.bool (!(a == b))) := by simp [pureO, exec, RX.ev, binPV, eqNil]
theorem pure_cat (a b : List UInt8) (h : a.length + b.length ≤ maxInt) : pureO (.bin .add c cst (.c (.str a)) (.c (.str b))) = some (.str (a ++ b)) := by simp [pureO, exec, RX.ev, binPV, binStr, chk, h]
@[simp] theorem pure_not (b : Bool) : pureO (.un .not (.c (.bool b))) = some (.bool (!b)) := rfl
@[simp] theorem pure_neg (n : Int) : pureO (.un .neg (.c (.int k n))) = some (.int k (k.wrap (0 - n))) := rfl
@[simp] theorem pure_conv {k' : IntKind} (n : Int) : pureO (.conv k (.c (.int k' n))) = some (.int k (k.wrap n)) := rfl
@[simp] theorem pure_lens (s : List UInt8) : pureO (.len .str (.c (.str s))) = some (.int .i64 (s.length : Int)) := rfl
@[simp] theorem pure_lenl {j : Nat} (xs : List PV) (f : Bool) : pureO (.len .slice (.c (.sl j xs f))) = some (.int .i64 (xs.length : Int)) := rfl
@[simp] theorem pure_lenn : pureO (.len .slice (.c .nilS)) = some (.int .i64 0) := rfl
@[simp] theorem pure_tup (j : Nat) (xs : List PV) : pureO (.extract j (.c (.tup xs))) = xs[j]? := by
  simp only [pureO, exec, RX.ev]; cases xs[j]? <;> rfl
@[simp] theorem pure_load {n o : Nat} {ag : Bool} (cs : List PV) : pureO (.load n ag (.c (.ptr cs o))) = sel cs o n ag := by
  simp only [pureO, exec, RX.ev]; cases sel cs o n ag <;> rfl
@[simp] theorem pure_field {n o : Nat} {ag : Bool} (cs : List PV) : pureO (.field o n ag (.c (.agg cs))) = sel cs o n ag := by
  simp only [pureO, exec, RX.ev]; cases sel cs o n ag <;> rfl
@[simp] theorem pure_nilck (cs : List PV) (o : Nat) : pureO (.nilck (.c (.ptr cs o))) = some (.ptr cs o) := rfl
@[simp] theorem pure_nilckf (f : Nat) (cs : List PV) : pureO (.nilck (.c (.fn f cs))) = some (.fn f cs) := rfl
@[simp] theorem pure_faddr {off o : Nat} (cs : List PV) : pureO (.fieldAddr off (.c (.ptr cs o))) = if o + off < cs.length then some (.ptr cs (o + off)) else none := by
  by_cases hq : o + off < cs.length <;> simp [pureO, exec, RX.ev, chk, hq]
theorem pure_bytes (s : List UInt8) (h : s.length ≤ maxInt) : pureO (.toBytes (.c (.str s))) = some (.sl 1 (byteList s) false) := by simp [pureO, exec, RX.ev, chk, h]
theorem pure_sidx {s : List UInt8} {j : Nat} {b : UInt8} (h : s[j]? = some b) : pureO (.strIdx (.c (.str s)) (.c (.int k (j : Int)))) = some (.int .u8 (b.toNat : Int)) := by
  simp [pureO, exec, RX.ev, natOf, h]
theorem pure_lidx {xs : List PV} {j n : Nat} {f : Bool} {v : PV} (hn : 0 < n) (h : xs[j]? = some v) : pureO (.idxAddr n (.c (.sl n xs f)) (.c (.int k (j : Int)))) = some (.ptr v.cells 0) := by
  simp [pureO, exec, RX.ev, natOf, h, chk, hn]
theorem pure_ssl {s : List UInt8} {l h : Nat} (hh : h ≤ s.length) (hl : l ≤ h) : pureO (.strSlice (.c (.str s)) (some (.c (.int k (l : Int)))) (some (.c (.int k (h : Int))))) = some (.str ((s.take h).drop l)) := by
  simp [pureO, exec, RX.ev, evO, bound, natOf, chk, hh, hl]
theorem pure_ssl1 {s : List UInt8} {l : Nat} (hl : l ≤ s.length) : pureO (.strSlice (.c (.str s)) (some (.c (.int k (l : Int)))) none) = some (.str (s.drop l)) := by
  simp [pureO, exec, RX.ev, evO, bound, natOf, chk, hl]
theorem pure_ssl2 {s : List UInt8} {h : Nat} (hh : h ≤ s.length) : pureO (.strSlice (.c (.str s)) none (some (.c (.int k (h : Int))))) = some (.str (s.take h)) := by
  simp [pureO, exec, RX.ev, evO, bound, natOf, chk, hh]
end pure

@[simp] theorem sel_one (v : PV) : sel [v] 0 1 false = some v := rfl
@[simp] theorem cells_int (k : IntKind) (n : Int) : (PV.int k n).cells = [.int k n] := rfl
@[simp] theorem cells_str (s : List UInt8) : (PV.str s).cells = [.str s] := rfl
@[simp] theorem cells_bool (b : Bool) : (PV.bool b).cells = [.bool b] := rfl
@[simp] theorem cells_agg' (cs : List PV) : (PV.agg cs).cells = cs := rfl
@[simp] theorem addN_eq (a b : Nat) : addN a b = a + b := rfl
@[simp] theorem subN_eq (a b : Nat) : subN a b = a - b := rfl
@[simp] theorem minN_eq (a b : Nat) : minN a b = min a b := rfl
@[simp] theorem lenL_eq (l : List PV) : lenL l = l.length := rfl
@[simp] theorem takeL_eq (n : Nat) (l : List PV) : takeL n l = l.take n := rfl
@[simp] theorem dropL_eq (n : Nat) (l : List PV) : dropL n l = l.drop n := rfl
@[simp] theorem catL_eq (l m : List PV) : catL l m = l ++ m := rfl
@[simp] theorem replL_eq (n : Nat) (v : PV) : replL n v = List.replicate n v := rfl
@[simp] theorem itemsP_sl (k : Nat) (xs : List PV) (f : Bool) : itemsP (.sl k xs f) = xs := rfl
@[simp] theorem natP_int (k : IntKind) (n : Int) : natP (.int k n) = n.toNat := rfl
@[simp] theorem nI_eq (n : Nat) : nI n = .int .i64 (n : Int) := rfl
@[simp] theorem andB_eq (a b : Bool) : andB a b = (a && b) := rfl
@[simp] theorem leN_eq (a b : Nat) : leN a b = decide (a ≤ b) := by
  rw [Bool.eq_iff_iff, leN_iff, decide_eq_true_iff]
@[simp] theorem ltN_eq (a b : Nat) : ltN a b = decide (a < b) := by
  rw [Bool.eq_iff_iff, ltN_iff, decide_eq_true_iff]
@[simp] theorem eqN_eq (a b : Nat) : eqN a b = decide (a = b) := by
  rw [Bool.eq_iff_iff, eqN_iff, decide_eq_true_iff]
@[simp] theorem nth_0 (x : PV) (l : List PV) : nth (x :: l) 0 = x := rfl
@[simp] theorem nth_1 (a x : PV) (l : List PV) : nth (a :: x :: l) 1 = x := rfl
@[simp] theorem nth_2 (a b x : PV) (l : List PV) : nth (a :: b :: x :: l) 2 = x := rfl
@[simp] theorem nth_3 (a b c x : PV) (l : List PV) : nth (a :: b :: c :: x :: l) 3 = x := rfl
@[simp] theorem nth_4 (a b c d x : PV) (l : List PV) : nth (a :: b :: c :: d :: x :: l) 4 = x := rfl
@[simp] theorem nth_5 (a b c d e x : PV) (l : List PV) : nth (a :: b :: c :: d :: e :: x :: l) 5 = x := rfl
@[simp] theorem nth_6 (a b c d e f x : PV) (l : List PV) : nth (a :: b :: c :: d :: e :: f :: x :: l) 6 = x := rfl
@[simp] theorem nth_7 (a b c d e f g x : PV) (l : List PV) : nth (a :: b :: c :: d :: e :: f :: g :: x :: l) 7 = x := rfl
@[simp] theorem nth_8 (a b c d e f g h x : PV) (l : List PV) : nth (a :: b :: c :: d :: e :: f :: g :: h :: x :: l) 8 = x := rfl
@[simp] theorem selO_eq (v : PV) (o n : Nat) (ag : Bool) : selO v o n ag = sel v.cells o n ag := rfl
@[simp] theorem natO_int (k : IntKind) (n : Nat) : natO (.int k (n : Int)) = some n := by simp [natO, natOf]
end Go.Ab

/-
  The functions of the program, as the small machine has them: as they are compiled.
-/
namespace Go.Ab
open Go
def globs0 : Globs := fun g => if g = 1 then some [.glob 1 175] else if g = 2 then some [.glob 2 175] else none
noncomputable def mkF (io shut leans : Bool) (nt : Nat) (f : FuncId) : RFn := { nt, code := ((compF Go.Proofs.Tryz.prog globs0 (deadOf Go.Proofs.Tryz.prog f) f).getD default).code, res := ((compF Go.Proofs.Tryz.prog globs0 (deadOf Go.Proofs.Tryz.prog f) f).getD default).res, io, shut, leans }
theorem mkF_comp {io shut leans : Bool} {nt : Nat} {f : FuncId} (h : (compF Go.Proofs.Tryz.prog globs0 (deadOf Go.Proofs.Tryz.prog f) f).map (·.nt) = some nt) : compF Go.Proofs.Tryz.prog globs0 (deadOf Go.Proofs.Tryz.prog f) f = some { mkF io shut leans nt f with io := false, shut := false, leans := false } := by
  obtain ⟨fn, h1, rfl⟩ := Option.map_eq_some_iff.1 h
  unfold mkF
  rw [h1]
  have h2 := h1
  unfold compF at h2
  split at h2
  · split at h2
    · split at h2
      · cases h2
      · cases h2; rfl
    · cases h2
  · cases h2

/-- diaeresis/diaeresislaw11.ArrayItems -/
noncomputable def fn3 : RFn := mkF false true false 109 3
/-- diaeresis/diaeresislaw11.ArraySelf -/
noncomputable def fn4 : RFn := mkF false true false 91 4
/-- diaeresis/diaeresislaw11.ArrayDoes -/
noncomputable def fn5 : RFn := mkF false true false 72 5
/-- diaeresis/diaeresislaw11.ArrayRights -/
noncomputable def fn6 : RFn := mkF false true false 118 6
/-- diaeresis/diaeresislaw11.ArrayOwn -/
noncomputable def fn7 : RFn := mkF false true false 93 7
/-- diaeresis/diaeresislaw11.Few -/
noncomputable def fn9 : RFn := mkF false true false 15 9
/-- diaeresis/array.Dy -/
noncomputable def fn10 : RFn := mkF false true false 101 10
/-- diaeresis/diaeresislaw11.short -/
noncomputable def fn11 : RFn := mkF false true false 8 11
/-- diaeresis/array.Right -/
noncomputable def fn12 : RFn := mkF false true false 24 12
/-- diaeresis/array.Same -/
noncomputable def fn13 : RFn := mkF false true false 24 13
/-- diaeresis/array.Mon -/
noncomputable def fn14 : RFn := mkF false true false 56 14
/-- diaeresis/diaeresisref11.Mon -/
noncomputable def fn15 : RFn := mkF false true false 59 15
/-- diaeresis/diaeresisref11.Dy -/
noncomputable def fn16 : RFn := mkF false true false 116 16
/-- diaeresis/diaeresisref11.Same -/
noncomputable def fn17 : RFn := mkF false true false 24 17
/-- diaeresis/diaeresisref11.Nums -/
noncomputable def fn18 : RFn := mkF false true false 26 18
/-- diaeresis/array.areRight -/
noncomputable def fn21 : RFn := mkF false true false 17 21
/-- diaeresis/array.told -/
noncomputable def fn22 : RFn := mkF false true false 9 22
/-- diaeresis/number.IsDy -/
noncomputable def fn23 : RFn := mkF false true false 7 23
/-- (diaeresis/array.pair).size -/
noncomputable def fn24 : RFn := mkF false true false 38 24
/-- diaeresis/array.isText -/
noncomputable def fn25 : RFn := mkF false true false 11 25
/-- (diaeresis/array.pair).both -/
noncomputable def fn26 : RFn := mkF false true false 6 26
/-- diaeresis/number.Dy -/
noncomputable def fn27 : RFn := mkF false true false 36 27
/-- diaeresis/array.Right_1 -/
noncomputable def fn28 : RFn := mkF false true false 6 28
/-- diaeresis/array.isRune -/
noncomputable def fn29 : RFn := mkF false true false 17 29
/-- slices.ContainsFunc[[]int64,int64] -/
noncomputable def fn30 : RFn := mkF false true false 9 30
/-- slices.Equal[[]int64,int64] -/
noncomputable def fn31 : RFn := mkF false true false 26 31
/-- diaeresis/number.IsMon -/
noncomputable def fn32 : RFn := mkF false true false 7 32
/-- diaeresis/number.Mon -/
noncomputable def fn33 : RFn := mkF false true false 31 33
/-- diaeresis/diaeresisref11.Right -/
noncomputable def fn34 : RFn := mkF false true false 41 34
/-- diaeresis/diaeresisref10.IsMon -/
noncomputable def fn35 : RFn := mkF false true false 6 35
/-- diaeresis/diaeresisref10.Mon -/
noncomputable def fn36 : RFn := mkF false true false 57 36
/-- diaeresis/diaeresisref10.IsDy -/
noncomputable def fn37 : RFn := mkF false true false 6 37
/-- diaeresis/diaeresisref11.one -/
noncomputable def fn38 : RFn := mkF false true false 22 38
/-- diaeresis/diaeresisref11.item -/
noncomputable def fn39 : RFn := mkF false true false 17 39
/-- diaeresis/number.dyads -/
noncomputable def fn44 : RFn := mkF false true false 29 44
/-- (diaeresis/array.pair).both_1 -/
noncomputable def fn45 : RFn := mkF false true false 21 45
/-- diaeresis/array.of -/
noncomputable def fn46 : RFn := mkF false true false 16 46
/-- diaeresis/number.told -/
noncomputable def fn47 : RFn := mkF false true false 16 47
/-- slices.IndexFunc[[]int64,int64] -/
noncomputable def fn48 : RFn := mkF false true false 19 48
/-- diaeresis/number.monads -/
noncomputable def fn49 : RFn := mkF false true false 10 49
/-- diaeresis/diaeresisref11.isRune -/
noncomputable def fn50 : RFn := mkF false true false 17 50
/-- diaeresis/diaeresisref10.in -/
noncomputable def fn51 : RFn := mkF false true false 18 51
/-- diaeresis/diaeresisref10.take -/
noncomputable def fn52 : RFn := mkF false true false 33 52
/-- diaeresis/diaeresisref10.bit -/
noncomputable def fn53 : RFn := mkF false true false 4 53
/-- diaeresis/diaeresisref10.divide -/
noncomputable def fn54 : RFn := mkF false true false 28 54
/-- diaeresis/diaeresisref10.Dy -/
noncomputable def fn55 : RFn := mkF false true false 87 55
/-- (diaeresis/number.checker).add -/
noncomputable def fn70 : RFn := mkF false true false 36 70
/-- (diaeresis/number.checker).take -/
noncomputable def fn71 : RFn := mkF false true false 36 71
/-- (diaeresis/number.checker).times -/
noncomputable def fn72 : RFn := mkF false true false 51 72
/-- (diaeresis/number.checker).divide -/
noncomputable def fn73 : RFn := mkF false true false 56 73
/-- (diaeresis/number.checker).residue -/
noncomputable def fn74 : RFn := mkF false true false 43 74
/-- diaeresis/number.dyads_1 -/
noncomputable def fn75 : RFn := mkF false true false 11 75
/-- diaeresis/number.dyads_2 -/
noncomputable def fn76 : RFn := mkF false true false 11 76
/-- diaeresis/number.dyads_3 -/
noncomputable def fn77 : RFn := mkF false true false 10 77
/-- (diaeresis/number.checker).compare -/
noncomputable def fn78 : RFn := mkF false true false 66 78
/-- diaeresis/number.dyads_4 -/
noncomputable def fn79 : RFn := mkF false true false 10 79
/-- (diaeresis/number.checker).logic -/
noncomputable def fn80 : RFn := mkF false true false 41 80
/-- diaeresis/number.monads_1 -/
noncomputable def fn82 : RFn := mkF false true false 5 82
/-- diaeresis/number.monads_2 -/
noncomputable def fn83 : RFn := mkF false true false 10 83
/-- diaeresis/number.monads_3 -/
noncomputable def fn84 : RFn := mkF false true false 11 84
/-- diaeresis/number.bit -/
noncomputable def fn85 : RFn := mkF false true false 4 85
/-- diaeresis/number.monads_4 -/
noncomputable def fn86 : RFn := mkF false true false 10 86
/-- diaeresis/number.monads_5 -/
noncomputable def fn87 : RFn := mkF false true false 18 87
/-- diaeresis/number.must -/
noncomputable def fn88 : RFn := mkF false true true 21 88
/-- diaeresis/number.monads_6 -/
noncomputable def fn89 : RFn := mkF false true false 13 89
/-- diaeresis/diaeresisref10.least -/
noncomputable def fn90 : RFn := mkF false true false 1 90
/-- diaeresis/diaeresisref10.add -/
noncomputable def fn91 : RFn := mkF false true false 33 91
/-- diaeresis/diaeresisref10.times -/
noncomputable def fn92 : RFn := mkF false true false 38 92
/-- diaeresis/diaeresisref10.residue -/
noncomputable def fn93 : RFn := mkF false true false 27 93
/-- diaeresis/diaeresisref10.compare -/
noncomputable def fn94 : RFn := mkF false true false 42 94
/-- math/bits.Mul64 -/
noncomputable def fn110 : RFn := mkF false true false 51 110
/-- diaeresis/number.size -/
noncomputable def fn111 : RFn := mkF false true false 10 111
/-- diaeresis/diaeresislaw11.shown -/
noncomputable def fn8 : RFn := mkF false false false 65 8
/-- diaeresis/array.Literal -/
noncomputable def fn19 : RFn := mkF false false false 49 19
/-- diaeresis/array.Print -/
noncomputable def fn20 : RFn := mkF false false false 29 20
/-- diaeresis/array.numbers -/
noncomputable def fn40 : RFn := mkF false false false 52 40
/-- diaeresis/array.text -/
noncomputable def fn41 : RFn := mkF false false false 45 41
/-- diaeresis/array.items -/
noncomputable def fn42 : RFn := mkF false false false 34 42
/-- strings.Split -/
noncomputable def fn56 : RFn := mkF false false false 8 56
/-- strings.CutPrefix -/
noncomputable def fn57 : RFn := mkF false false false 11 57
/-- strconv.ParseInt -/
noncomputable def fn58 : RFn := mkF false false false 25 58
/-- diaeresis/array.digits -/
noncomputable def fn59 : RFn := mkF false false false 6 59
/-- strings.HasPrefix -/
noncomputable def fn60 : RFn := mkF false false false 8 60
/-- strings.HasSuffix -/
noncomputable def fn61 : RFn := mkF false false false 8 61
/-- strings.ReplaceAll -/
noncomputable def fn63 : RFn := mkF false false false 11 63
/-- (*strings.Builder).WriteString -/
noncomputable def fn64 : RFn := mkF true false false 19 64
/-- strings.genSplit -/
noncomputable def fn95 : RFn := mkF false false false 66 95
/-- internal/stringslite.CutPrefix -/
noncomputable def fn96 : RFn := mkF false false false 15 96
/-- internal/strconv.ParseInt -/
noncomputable def fn97 : RFn := mkF false false false 73 97
/-- internal/stringslite.HasPrefix -/
noncomputable def fn101 : RFn := mkF false false false 18 101
/-- internal/stringslite.HasSuffix -/
noncomputable def fn102 : RFn := mkF false false false 21 102
/-- strings.Index -/
noncomputable def fn105 : RFn := mkF false false false 8 105
/-- internal/strconv.ParseUint -/
noncomputable def fn114 : RFn := mkF false false false 172 114
/-- internal/stringslite.Index -/
noncomputable def fn122 : RFn := mkF false false false 143 122
/-- internal/strconv.lower -/
noncomputable def fn124 : RFn := mkF false false false 5 124
/-- internal/strconv.underscoreOK -/
noncomputable def fn125 : RFn := mkF false false false 94 125
noncomputable def tab0 : FuncId → Option RFn
  | 3 => some fn3
  | 4 => some fn4
  | 5 => some fn5
  | 6 => some fn6
  | 7 => some fn7
  | 9 => some fn9
  | 10 => some fn10
  | 11 => some fn11
  | 12 => some fn12
  | 13 => some fn13
  | 14 => some fn14
  | 15 => some fn15
  | 16 => some fn16
  | 17 => some fn17
  | 18 => some fn18
  | 21 => some fn21
  | 22 => some fn22
  | 23 => some fn23
  | 24 => some fn24
  | 25 => some fn25
  | 26 => some fn26
  | 27 => some fn27
  | 28 => some fn28
  | 29 => some fn29
  | 30 => some fn30
  | 31 => some fn31
  | 32 => some fn32
  | 33 => some fn33
  | 34 => some fn34
  | 35 => some fn35
  | 36 => some fn36
  | 37 => some fn37
  | 38 => some fn38
  | 39 => some fn39
  | 44 => some fn44
  | 45 => some fn45
  | 46 => some fn46
  | 47 => some fn47
  | 48 => some fn48
  | 49 => some fn49
  | 50 => some fn50
  | 51 => some fn51
  | 52 => some fn52
  | 53 => some fn53
  | 54 => some fn54
  | 55 => some fn55
  | 70 => some fn70
  | 71 => some fn71
  | 72 => some fn72
  | 73 => some fn73
  | 74 => some fn74
  | 75 => some fn75
  | 76 => some fn76
  | 77 => some fn77
  | 78 => some fn78
  | 79 => some fn79
  | 80 => some fn80
  | 82 => some fn82
  | 83 => some fn83
  | 84 => some fn84
  | 85 => some fn85
  | 86 => some fn86
  | 87 => some fn87
  | 88 => some fn88
  | 89 => some fn89
  | 90 => some fn90
  | 91 => some fn91
  | 92 => some fn92
  | 93 => some fn93
  | 94 => some fn94
  | 110 => some fn110
  | 111 => some fn111
  | 8 => some fn8
  | 19 => some fn19
  | 20 => some fn20
  | 40 => some fn40
  | 41 => some fn41
  | 42 => some fn42
  | 56 => some fn56
  | 57 => some fn57
  | 58 => some fn58
  | 59 => some fn59
  | 60 => some fn60
  | 61 => some fn61
  | 63 => some fn63
  | 64 => some fn64
  | 95 => some fn95
  | 96 => some fn96
  | 97 => some fn97
  | 101 => some fn101
  | 102 => some fn102
  | 105 => some fn105
  | 114 => some fn114
  | 122 => some fn122
  | 124 => some fn124
  | 125 => some fn125
  | _ => none

end Go.Ab
