/-
  Part 4 of a proof: a machine of our own for the given program, its laws, and what it says of the program. Nothing here is a claim by itself.
-/
import Derived.Test.YtfeimbgcjimjdaaGreatDoorK03
import Derived.Test.YtfeimbgcjimjdaaGreatDoorK02
import Derived.Test.YtfeimbgcjimjdaaGreatDoorK01
set_option linter.all false

namespace Go.Ab
theorem okVL_iff {xs : List PV} : okVL xs = true ↔ ∀ x ∈ xs, okV x = true := by
  induction xs with
  | nil => simp [okVL]
  | cons x xs ih => simp [okVL, ih]
mutual
theorem okV_iff : ∀ {v : PV}, okV v = true → v.names = [] ∧ v.hasY = false
  | .undef, _ | .bool _, _ | .int _ _, _ | .str _, _ | .nilS, _ | .nilP, _ | .nilF, _ | .nilI, _ | .nilM, _ | .glob _ _, _ => by simp [PV.names, PV.hasY]
  | .sl _ xs _, h => by simp only [okV] at h; simp [PV.names, PV.hasY, (okVL_names h).2]
  | .ptr cs _, h => by simp only [okV] at h; simp [PV.names, PV.hasY, (okVL_names h).2]
  | .imap es, h => by simp only [okV] at h; simp [PV.names, PV.hasY, (okVL_names h).2]
  | .agg cs, h => by simp only [okV] at h; simp [PV.names, PV.hasY, okVL_names h]
  | .fn _ cap, h => by simp only [okV] at h; simp [PV.names, PV.hasY, okVL_names h]
  | .tup xs, h => by simp only [okV] at h; simp [PV.names, PV.hasY, okVL_names h]
  | .iface _ x, h => by simp only [okV] at h; simp [PV.names, PV.hasY, okV_iff h]
  | .yld _, h | .ref _ _, h | .aref _ _ _ _, h | .arr _ _ _ _, h | .mp _, h | .it _, h => by simp [okV] at h
theorem okVL_names : ∀ {xs : List PV}, okVL xs = true → namesL xs = [] ∧ hasYL xs = false
  | [], _ => by simp [namesL, hasYL]
  | x :: xs, h => by
    simp only [okVL, Bool.and_eq_true] at h
    simp [namesL, hasYL, okV_iff h.1, okVL_names h.2]
end
theorem sub_none {v : PV} (h : v.names = []) (f : Nm → Option (Option Ob)) : v.sub f = v := by
  rw [PV.sub_congr (g := fun _ => none) v (by rw [h]; simp)]
  exact sub_id v
where
  sub_id : ∀ (x : PV), x.sub (fun _ => none) = x
    | .undef | .bool _ | .int _ _ | .str _ | .nilS | .nilP | .nilF | .nilI | .nilM | .sl _ _ _ | .ptr _ _ | .yld _ | .imap _ | .glob _ _ | .ref _ _ | .aref _ _ _ _ | .arr _ _ _ _ | .mp _ | .it _ => by simp [PV.sub]
    | .agg cs => by simp [PV.sub, subL_id cs]
    | .iface t x => by simp [PV.sub, sub_id x]
    | .fn g cap => by simp [PV.sub, subL_id cap]
    | .tup xs => by simp [PV.sub, subL_id xs]
  subL_id : ∀ (xs : List PV), subL (fun _ => none) xs = xs
    | [] => rfl
    | x :: xs => by simp [subL, sub_id x, subL_id xs]
mutual
theorem ren_none : ∀ {v : PV}, v.names = [] → ∀ (f : Nm → Nm), v.ren f = v
  | .undef, _, _ | .bool _, _, _ | .int _ _, _, _ | .str _, _, _ | .nilS, _, _ | .nilP, _, _ | .nilF, _, _ | .nilI, _, _ | .nilM, _, _ | .sl _ _ _, _, _ | .ptr _ _, _, _ | .yld _, _, _ | .imap _, _, _ | .glob _ _, _, _ => by simp [PV.ren]
  | .agg cs, h, f => by simp [PV.names] at h; simp [PV.ren, renL_none h f]
  | .iface t x, h, f => by simp [PV.names] at h; simp [PV.ren, ren_none h f]
  | .fn g cap, h, f => by simp [PV.names] at h; simp [PV.ren, renL_none h f]
  | .tup xs, h, f => by simp [PV.names] at h; simp [PV.ren, renL_none h f]
  | .ref _ _, h, _ | .aref _ _ _ _, h, _ | .arr _ _ _ _, h, _ | .mp _, h, _ | .it _, h, _ => by simp [PV.names] at h
theorem renL_none : ∀ {xs : List PV}, namesL xs = [] → ∀ (f : Nm → Nm), renL f xs = xs
  | [], _, _ => rfl
  | x :: xs, h, f => by simp [namesL] at h; simp [renL, ren_none h.1 f, renL_none h.2 f]
end
mutual
def KV.ok : KV → Prop
  | .cv v => okV v = true
  | .agg cs => okKL cs
  | .iface _ x => x.ok
  | .fn _ cap => okKL cap
  | .tup xs => okKL xs
  | .un | .sk | .lit _ | .nils | .yld _ | .ref _ _ | .aref _ _ _ _ | .arr _ _ _ _ | .mp _ | .it _ | .wit _ => True
def okKL : List KV → Prop
  | [] => True
  | x :: xs => x.ok ∧ okKL xs
end
theorem okKL_mem {xs : List KV} : okKL xs ↔ ∀ x ∈ xs, x.ok := by
  induction xs with
  | nil => simp [okKL]
  | cons x xs ih => simp [okKL, ih]
theorem pvL_map (xs : List KV) : pvL xs = xs.map KV.pv := by
  induction xs with
  | nil => rfl
  | cons x xs ih => simp [pvL, ih]
mutual
theorem KV.pv_names : ∀ {x : KV}, x.ok → x.pv.names = x.names
  | .un, _ | .sk, _ | .lit _, _ | .nils, _ | .yld _, _ | .ref _ _, _ | .aref _ _ _ _, _ | .arr _ _ _ _, _ | .mp _, _ | .it _, _ | .wit _, _ => by simp [KV.pv, PV.names, KV.names, namesL]
  | .cv v, h => by simp [KV.pv, KV.names, (okV_iff h).1]
  | .agg cs, h => by simp [KV.pv, PV.names, KV.names, pvL_names h]
  | .iface t x, h => by simp [KV.pv, PV.names, KV.names, KV.pv_names (x := x) h]
  | .fn f cap, h => by simp [KV.pv, PV.names, KV.names, pvL_names h]
  | .tup xs, h => by simp [KV.pv, PV.names, KV.names, pvL_names h]
theorem pvL_names : ∀ {xs : List KV}, okKL xs → namesL (pvL xs) = knamesL xs
  | [], _ => rfl
  | x :: xs, h => by simp [pvL, namesL, knamesL, KV.pv_names h.1, pvL_names h.2]
end
mutual
theorem KV.pv_hasY : ∀ {x : KV}, x.ok → x.pv.hasY = x.hasY
  | .un, _ | .sk, _ | .lit _, _ | .nils, _ | .yld _, _ | .ref _ _, _ | .aref _ _ _ _, _ | .arr _ _ _ _, _ | .mp _, _ | .it _, _ | .wit _, _ => by simp [KV.pv, PV.hasY, KV.hasY, hasYL]
  | .cv v, h => by simp [KV.pv, KV.hasY, (okV_iff h).2]
  | .agg cs, h => by simp [KV.pv, PV.hasY, KV.hasY, pvL_hasY h]
  | .iface t x, h => by simp [KV.pv, PV.hasY, KV.hasY, KV.pv_hasY (x := x) h]
  | .fn f cap, h => by simp [KV.pv, PV.hasY, KV.hasY, pvL_hasY h]
  | .tup xs, h => by simp [KV.pv, PV.hasY, KV.hasY, pvL_hasY h]
theorem pvL_hasY : ∀ {xs : List KV}, okKL xs → hasYL (pvL xs) = khasYL xs
  | [], _ => rfl
  | x :: xs, h => by simp [pvL, hasYL, khasYL, KV.pv_hasY h.1, pvL_hasY h.2]
end
mutual
theorem KV.cl_pv : ∀ {x : KV} {v : PV}, x.cl = some v → x.pv = v
  | .lit b, v, h => by simp [KV.cl] at h; simp [KV.pv, h]
  | .nils, v, h => by simp [KV.cl] at h; simp [KV.pv, h]
  | .cv u, v, h => by simp [KV.cl] at h; simp [KV.pv, h]
  | .agg cs, v, h => by
    simp only [KV.cl, Option.map_eq_some_iff] at h
    obtain ⟨vs, hv, rfl⟩ := h
    simp [KV.pv, clL_pv hv]
  | .iface t x, v, h => by
    simp only [KV.cl, Option.map_eq_some_iff] at h
    obtain ⟨u, hv, rfl⟩ := h
    simp [KV.pv, KV.cl_pv hv]
  | .fn f cap, v, h => by
    simp only [KV.cl, Option.map_eq_some_iff] at h
    obtain ⟨vs, hv, rfl⟩ := h
    simp [KV.pv, clL_pv hv]
  | .un, v, h | .sk, v, h | .yld _, v, h | .ref _ _, v, h | .aref _ _ _ _, v, h | .arr _ _ _ _, v, h | .mp _, v, h | .it _, v, h | .wit _, v, h | .tup _, v, h => by simp [KV.cl] at h
theorem clL_pv : ∀ {xs : List KV} {vs : List PV}, clL xs = some vs → pvL xs = vs
  | [], vs, h => by simp [clL] at h; simp [pvL, h]
  | x :: xs, vs, h => by
    simp only [clL] at h
    split at h
    · rename_i v us h1 h2
      cases h
      simp [pvL, KV.cl_pv h1, clL_pv h2]
    · cases h
end
mutual
theorem KV.cl_ok : ∀ {x : KV} {v : PV}, x.ok → x.cl = some v → okV v = true
  | .lit b, v, _, h => by simp [KV.cl] at h; subst h; rfl
  | .nils, v, _, h => by simp [KV.cl] at h; subst h; rfl
  | .cv u, v, hx, h => by simp [KV.cl] at h; subst h; exact hx
  | .agg cs, v, hx, h => by
    simp only [KV.cl, Option.map_eq_some_iff] at h
    obtain ⟨vs, hv, rfl⟩ := h
    simpa [okV] using clL_ok (xs := cs) hx hv
  | .iface t x, v, hx, h => by
    simp only [KV.cl, Option.map_eq_some_iff] at h
    obtain ⟨u, hv, rfl⟩ := h
    simpa [okV] using KV.cl_ok (x := x) hx hv
  | .fn f cap, v, hx, h => by
    simp only [KV.cl, Option.map_eq_some_iff] at h
    obtain ⟨vs, hv, rfl⟩ := h
    simpa [okV] using clL_ok (xs := cap) hx hv
  | .un, v, _, h | .sk, v, _, h | .yld _, v, _, h | .ref _ _, v, _, h | .aref _ _ _ _, v, _, h | .arr _ _ _ _, v, _, h | .mp _, v, _, h | .it _, v, _, h | .wit _, v, _, h | .tup _, v, _, h => by simp [KV.cl] at h
theorem clL_ok : ∀ {xs : List KV} {vs : List PV}, okKL xs → clL xs = some vs → okVL vs = true
  | [], vs, _, h => by simp [clL] at h; subst h; rfl
  | x :: xs, vs, hx, h => by
    simp only [clL] at h
    split at h
    · rename_i v us h1 h2
      cases h
      simp [okVL, KV.cl_ok hx.1 h1, clL_ok hx.2 h2]
    · cases h
end
def subOff (p : Nm → Bool) : Nm → Option (Option Ob) := fun m => if p m = true then some none else none
mutual
theorem KV.off_pv (p : Nm → Bool) : ∀ {x : KV}, x.ok → (x.off p).pv = x.pv.sub (subOff p)
  | .un, _ | .sk, _ | .lit _, _ | .nils, _ | .yld _, _ => by simp [KV.off, KV.pv, PV.sub, subL]
  | .cv v, h => by simp [KV.off, KV.pv, sub_none (okV_iff h).1]
  | .ref nm _, _ | .aref nm _ _ _, _ | .arr nm _ _ _, _ | .mp nm, _ | .it nm, _ | .wit nm, _ => by
    simp only [KV.off, KV.pv, PV.sub, subOff]
    cases hp : p nm <;> simp [KV.pv]
  | .agg cs, h => by simp [KV.off, KV.pv, PV.sub, offL_pv p h]
  | .iface t x, h => by simp [KV.off, KV.pv, PV.sub, KV.off_pv p (x := x) h]
  | .fn f cap, h => by simp [KV.off, KV.pv, PV.sub, offL_pv p h]
  | .tup xs, h => by simp [KV.off, KV.pv, PV.sub, offL_pv p h]
theorem offL_pv (p : Nm → Bool) : ∀ {xs : List KV}, okKL xs → pvL (offL p xs) = subL (subOff p) (pvL xs)
  | [], _ => rfl
  | x :: xs, h => by simp [offL, pvL, subL, KV.off_pv p h.1, offL_pv p h.2]
end
mutual
theorem KV.off_ok (p : Nm → Bool) : ∀ {x : KV}, x.ok → (x.off p).ok
  | .un, _ | .sk, _ | .lit _, _ | .nils, _ | .yld _, _ => by simp [KV.off, KV.ok]
  | .cv v, h => by simpa [KV.off, KV.ok] using h
  | .ref nm _, _ | .aref nm _ _ _, _ | .arr nm _ _ _, _ | .mp nm, _ | .it nm, _ | .wit nm, _ => by
    simp only [KV.off]
    cases hp : p nm <;> simp [KV.ok]
  | .agg cs, h => by simpa [KV.off, KV.ok] using offL_ok p h
  | .iface t x, h => by simpa [KV.off, KV.ok] using KV.off_ok p (x := x) h
  | .fn f cap, h => by simpa [KV.off, KV.ok] using offL_ok p h
  | .tup xs, h => by simpa [KV.off, KV.ok] using offL_ok p h
theorem offL_ok (p : Nm → Bool) : ∀ {xs : List KV}, okKL xs → okKL (offL p xs)
  | [], _ => trivial
  | x :: xs, h => ⟨KV.off_ok p h.1, offL_ok p h.2⟩
end
mutual
theorem KV.ren_pv (f : Nm → Nm) : ∀ {x : KV}, x.ok → (x.ren f).pv = x.pv.ren f
  | .un, _ | .sk, _ | .lit _, _ | .nils, _ | .yld _, _ | .ref _ _, _ | .aref _ _ _ _, _ | .arr _ _ _ _, _ | .mp _, _ | .it _, _ | .wit _, _ => by simp [KV.ren, KV.pv, PV.ren, renL]
  | .cv v, h => by simp [KV.ren, KV.pv, ren_none (okV_iff h).1]
  | .agg cs, h => by simp [KV.ren, KV.pv, PV.ren, renL_pv f h]
  | .iface t x, h => by simp [KV.ren, KV.pv, PV.ren, KV.ren_pv f (x := x) h]
  | .fn g cap, h => by simp [KV.ren, KV.pv, PV.ren, renL_pv f h]
  | .tup xs, h => by simp [KV.ren, KV.pv, PV.ren, renL_pv f h]
theorem renL_pv (f : Nm → Nm) : ∀ {xs : List KV}, okKL xs → pvL (krenL f xs) = renL f (pvL xs)
  | [], _ => rfl
  | x :: xs, h => by simp [krenL, pvL, renL, KV.ren_pv f h.1, renL_pv f h.2]
end
mutual
theorem KV.ren_ok (f : Nm → Nm) : ∀ {x : KV}, x.ok → (x.ren f).ok
  | .un, _ | .sk, _ | .lit _, _ | .nils, _ | .yld _, _ | .ref _ _, _ | .aref _ _ _ _, _ | .arr _ _ _ _, _ | .mp _, _ | .it _, _ | .wit _, _ => by simp [KV.ren, KV.ok]
  | .cv v, h => by simpa [KV.ren, KV.ok] using h
  | .agg cs, h => by simpa [KV.ren, KV.ok] using krenL_ok f h
  | .iface t x, h => by simpa [KV.ren, KV.ok] using KV.ren_ok f (x := x) h
  | .fn g cap, h => by simpa [KV.ren, KV.ok] using krenL_ok f h
  | .tup xs, h => by simpa [KV.ren, KV.ok] using krenL_ok f h
theorem krenL_ok (f : Nm → Nm) : ∀ {xs : List KV}, okKL xs → okKL (krenL f xs)
  | [], _ => trivial
  | x :: xs, h => ⟨KV.ren_ok f h.1, krenL_ok f h.2⟩
end
def subCl (g : Nm → Option Ob) : Nm → Option (Option Ob) := fun m => some (g m)
mutual
theorem KV.close_pv (g : Nm → Option Ob) : ∀ {x : KV}, x.ok → x.close g = x.pv.sub (subCl g)
  | .un, _ | .sk, _ | .lit _, _ | .nils, _ | .yld _, _ => by simp [KV.close, KV.pv, PV.sub, subL]
  | .cv v, h => by simp [KV.close, KV.pv, sub_none (okV_iff h).1]
  | .ref nm o, _ => by
    simp only [KV.close, KV.pv, PV.sub, subCl]
    cases g nm with
    | none => rfl
    | some ob => cases ob <;> simp [ptrO]
  | .aref nm k i o, _ => by
    simp only [KV.close, KV.pv, PV.sub, subCl]
    cases g nm with
    | none => rfl
    | some ob =>
      cases ob with
      | arr k' kt xs =>
        simp only [arefO]
        by_cases hk : k = k'
        · simp only [hk, if_true]; cases xs[i]? <;> rfl
        · simp [hk]
      | _ => rfl
  | .arr nm k o n, _ => by
    simp only [KV.close, KV.pv, PV.sub, subCl]
    cases g nm with
    | none => rfl
    | some ob => cases ob <;> simp [slO]
  | .mp nm, _ => by
    simp only [KV.close, KV.pv, PV.sub, subCl]
    cases g nm with
    | none => rfl
    | some ob => cases ob <;> rfl
  | .it nm, _ => by simp [KV.close, KV.pv, PV.sub, subCl]
  | .wit nm, _ => by
    simp only [KV.close, KV.pv, PV.sub, subCl]
    cases g nm with
    | none => rfl
    | some ob => cases ob <;> simp [slO]
  | .agg cs, h => by simp [KV.close, KV.pv, PV.sub, closeL_pv g h]
  | .iface t x, h => by simp [KV.close, KV.pv, PV.sub, KV.close_pv g (x := x) h]
  | .fn f cap, h => by simp [KV.close, KV.pv, PV.sub, closeL_pv g h]
  | .tup xs, h => by simp [KV.close, KV.pv, PV.sub, closeL_pv g h]
theorem closeL_pv (g : Nm → Option Ob) : ∀ {xs : List KV}, okKL xs → closeL g xs = subL (subCl g) (pvL xs)
  | [], _ => rfl
  | x :: xs, h => by simp [closeL, pvL, subL, KV.close_pv g h.1, closeL_pv g h.2]
end
def subFrz (p : Nm → Bool) (g : Nm → Option Ob) : Nm → Option (Option Ob) := fun m => if p m = true then some (g m) else none
mutual
theorem KV.frz_pv (p : Nm → Bool) (g : Nm → Option Ob) : ∀ {x : KV}, x.ok → (x.frz p g).pv = x.pv.sub (subFrz p g)
  | .un, _ | .sk, _ | .lit _, _ | .nils, _ | .yld _, _ => by simp [KV.frz, KV.pv, PV.sub, subL]
  | .cv v, h => by simp [KV.frz, KV.pv, sub_none (okV_iff h).1]
  | .ref nm o, _ => by
    cases hp : p nm with
    | false => simp [KV.frz, hp, KV.pv, PV.sub, subFrz]
    | true =>
      have := KV.close_pv g (x := .ref nm o) trivial
      simp only [KV.frz, hp, if_true, KV.pv]; rw [this]; simp [KV.pv, PV.sub, subFrz, subCl, hp]
  | .aref nm k i o, _ => by
    cases hp : p nm with
    | false => simp [KV.frz, hp, KV.pv, PV.sub, subFrz]
    | true =>
      have := KV.close_pv g (x := .aref nm k i o) trivial
      simp only [KV.frz, hp, if_true, KV.pv]; rw [this]; simp [KV.pv, PV.sub, subFrz, subCl, hp]
  | .arr nm k o n, _ => by
    cases hp : p nm with
    | false => simp [KV.frz, hp, KV.pv, PV.sub, subFrz]
    | true =>
      have := KV.close_pv g (x := .arr nm k o n) trivial
      simp only [KV.frz, hp, if_true, KV.pv]; rw [this]; simp [KV.pv, PV.sub, subFrz, subCl, hp]
  | .mp nm, _ => by
    cases hp : p nm with
    | false => simp [KV.frz, hp, KV.pv, PV.sub, subFrz]
    | true =>
      have := KV.close_pv g (x := .mp nm) trivial
      simp only [KV.frz, hp, if_true, KV.pv]; rw [this]; simp [KV.pv, PV.sub, subFrz, subCl, hp]
  | .it nm, _ => by
    cases hp : p nm with
    | false => simp [KV.frz, hp, KV.pv, PV.sub, subFrz]
    | true => simp [KV.frz, hp, KV.pv, PV.sub, subFrz]
  | .wit nm, _ => by
    cases hp : p nm with
    | false => simp [KV.frz, hp, KV.pv, PV.sub, subFrz]
    | true =>
      have := KV.close_pv g (x := .wit nm) trivial
      simp only [KV.frz, hp, if_true, KV.pv]; rw [this]; simp [KV.pv, PV.sub, subFrz, subCl, hp]
  | .agg cs, h => by simp [KV.frz, KV.pv, PV.sub, frzL_pv p g h]
  | .iface t x, h => by simp [KV.frz, KV.pv, PV.sub, KV.frz_pv p g (x := x) h]
  | .fn f cap, h => by simp [KV.frz, KV.pv, PV.sub, frzL_pv p g h]
  | .tup xs, h => by simp [KV.frz, KV.pv, PV.sub, frzL_pv p g h]
theorem frzL_pv (p : Nm → Bool) (g : Nm → Option Ob) : ∀ {xs : List KV}, okKL xs → pvL (frzL p g xs) = subL (subFrz p g) (pvL xs)
  | [], _ => rfl
  | x :: xs, h => by simp [frzL, pvL, subL, KV.frz_pv p g h.1, frzL_pv p g h.2]
end
def Ob.shut (o : Ob) : Prop :=
  match o with
  | .cells _ cs => okVL cs = true
  | .arr _ _ xs => okVL xs = true
  | .map es => okVL es = true
  | .siter _ _ => True
theorem okV_cells {v : PV} (h : okV v = true) : okVL v.cells = true := by
  cases v <;> simp_all [PV.cells, okVL, okV]
theorem okVL_of {xs ys : List PV} (h : okVL xs = true) (hs : ∀ y ∈ ys, y ∈ xs) : okVL ys = true := okVL_iff.2 fun y hy => okVL_iff.1 h y (hs y hy)
theorem okVL_take {xs : List PV} (h : okVL xs = true) (n : Nat) : okVL (xs.take n) = true := okVL_of h fun _ hy => List.mem_of_mem_take hy
theorem okVL_drop {xs : List PV} (h : okVL xs = true) (n : Nat) : okVL (xs.drop n) = true := okVL_of h fun _ hy => List.mem_of_mem_drop hy
theorem okVL_append {xs ys : List PV} (h : okVL xs = true) (h' : okVL ys = true) : okVL (xs ++ ys) = true :=
  okVL_iff.2 fun y hy => (List.mem_append.1 hy).elim (okVL_iff.1 h y) (okVL_iff.1 h' y)
theorem okVL_get {xs : List PV} (h : okVL xs = true) {i : Nat} {x : PV} (hx : xs[i]? = some x) : okV x = true := okVL_iff.1 h x (List.mem_of_getElem? hx)
theorem okVL_set {xs : List PV} (h : okVL xs = true) (i : Nat) {x : PV} (hx : okV x = true) : okVL (xs.set i x) = true :=
  okVL_iff.2 fun y hy => (List.mem_or_eq_of_mem_set hy).elim (okVL_iff.1 h y) fun e => e ▸ hx
mutual
theorem KV.close_ok {g : Nm → Option Ob} (hg : ∀ nm ob, g nm = some ob → ob.shut) : ∀ {x : KV}, x.ok → x.hasY = false → okV (x.close g) = true
  | .un, _, _ | .sk, _, _ | .lit _, _, _ | .nils, _, _ => by simp [KV.close, okV, okVL]
  | .yld _, _, h => by simp [KV.hasY] at h
  | .cv v, h, _ => by have : okV v = true := h; simpa [KV.close] using this
  | .ref nm o, _, _ => by
    simp only [KV.close]
    cases hn : g nm with
    | none => rfl
    | some ob =>
      cases ob with
      | cells ty cs =>
        have : okVL cs = true := hg _ _ hn
        simp only [ptrO]
        split
        · simpa [okV] using this
        · rfl
      | _ => rfl
  | .aref nm k i o, _, _ => by
    simp only [KV.close]
    cases hn : g nm with
    | none => rfl
    | some ob =>
      cases ob with
      | arr k' kt xs =>
        have : okVL xs = true := hg _ _ hn
        simp only [arefO]
        split
        · split
          · rename_i x hx
            split
            · simpa [okV] using okV_cells (okVL_get this hx)
            · rfl
          · rfl
        · rfl
      | _ => rfl
  | .arr nm k o n, _, _ => by
    simp only [KV.close]
    cases hn : g nm with
    | none => rfl
    | some ob =>
      cases ob with
      | arr k' kt xs =>
        have : okVL xs = true := hg _ _ hn
        simp only [slO]
        split
        · simpa [okV] using okVL_take (okVL_drop this o) n
        · rfl
      | _ => rfl
  | .mp nm, _, _ => by
    simp only [KV.close]
    cases hn : g nm with
    | none => rfl
    | some ob =>
      cases ob with
      | map es =>
        have : okVL es = true := hg _ _ hn
        simpa [okV] using this
      | _ => rfl
  | .it nm, _, _ => by simp [KV.close, okV, PV.names, PV.hasY]
  | .wit nm, _, _ => by
    simp only [KV.close]
    cases hn : g nm with
    | none => rfl
    | some ob =>
      cases ob with
      | arr k' kt xs =>
        have : okVL xs = true := hg _ _ hn
        simp only [slO]
        split
        · simpa [okV] using okVL_take (okVL_drop this 0) 0
        · rfl
      | _ => rfl
  | .agg cs, h, hy => by simpa [KV.close, okV] using closeL_ok hg (xs := cs) h (by simpa [KV.hasY] using hy)
  | .iface t x, h, hy => by simpa [KV.close, okV] using KV.close_ok hg (x := x) h (by simpa [KV.hasY] using hy)
  | .fn f cap, h, hy => by simpa [KV.close, okV] using closeL_ok hg (xs := cap) h (by simpa [KV.hasY] using hy)
  | .tup xs, h, hy => by simpa [KV.close, okV] using closeL_ok hg (xs := xs) h (by simpa [KV.hasY] using hy)
theorem closeL_ok {g : Nm → Option Ob} (hg : ∀ nm ob, g nm = some ob → ob.shut) : ∀ {xs : List KV}, okKL xs → khasYL xs = false → okVL (closeL g xs) = true
  | [], _, _ => rfl
  | x :: xs, h, hy => by
    simp only [khasYL, Bool.or_eq_false_iff] at hy
    simp [closeL, okVL, KV.close_ok hg h.1 hy.1, closeL_ok hg h.2 hy.2]
end
mutual
theorem KV.frz_ok {p : Nm → Bool} {g : Nm → Option Ob} (hg : ∀ nm ob, g nm = some ob → ob.shut) : ∀ {x : KV}, x.ok → (x.frz p g).ok
  | .un, _ | .sk, _ | .lit _, _ | .nils, _ | .yld _, _ => by simp [KV.frz, KV.ok]
  | .cv v, h => by simpa [KV.frz, KV.ok] using h
  | .ref nm o, _ => by
    simp only [KV.frz]; split
    · exact KV.close_ok hg (x := .ref nm o) trivial rfl
    · trivial
  | .aref nm k i o, _ => by
    simp only [KV.frz]; split
    · exact KV.close_ok hg (x := .aref nm k i o) trivial rfl
    · trivial
  | .arr nm k o n, _ => by
    simp only [KV.frz]; split
    · exact KV.close_ok hg (x := .arr nm k o n) trivial rfl
    · trivial
  | .mp nm, _ => by
    simp only [KV.frz]; split
    · exact KV.close_ok hg (x := .mp nm) trivial rfl
    · trivial
  | .it nm, _ => by
    simp only [KV.frz]; split <;> trivial
  | .wit nm, _ => by
    simp only [KV.frz]; split
    · exact KV.close_ok hg (x := .wit nm) trivial rfl
    · trivial
  | .agg cs, h => by simpa [KV.frz, KV.ok] using frzL_ok hg h
  | .iface t x, h => by simpa [KV.frz, KV.ok] using KV.frz_ok hg (x := x) h
  | .fn f cap, h => by simpa [KV.frz, KV.ok] using frzL_ok hg h
  | .tup xs, h => by simpa [KV.frz, KV.ok] using frzL_ok hg h
theorem frzL_ok {p : Nm → Bool} {g : Nm → Option Ob} (hg : ∀ nm ob, g nm = some ob → ob.shut) : ∀ {xs : List KV}, okKL xs → okKL (frzL p g xs)
  | [], _ => trivial
  | x :: xs, h => ⟨KV.frz_ok hg h.1, frzL_ok hg h.2⟩
end
end Go.Ab


namespace Go.Ab
theorem beq_true {i j : Nat} (h : Nat.beq i j = true) : i = j := Nat.eq_of_beq_eq_true h
theorem beq_false {i j : Nat} (h : Nat.beq i j = false) : i ≠ j := Nat.ne_of_beq_eq_false h
theorem spGet_put (i : Nat) (v : KV) : ∀ (l : Sp) (j : Nat), spGet (spPut i v l) j = if j = i then v else spGet l j := by
  intro l
  induction l with
  | nil =>
    intro j
    simp only [spPut, spGet]
    cases h : Nat.beq j i with
    | true => simp [beq_true h]
    | false => simp [beq_false h]
  | cons p l ih =>
    obtain ⟨k, u⟩ := p
    intro j
    simp only [spPut]
    cases h : Nat.beq i k with
    | true =>
      have := beq_true h; subst this
      simp only [spGet]
      cases h2 : Nat.beq j i with
      | true => simp [beq_true h2]
      | false => simp [beq_false h2]
    | false =>
      cases h3 : Nat.blt i k with
      | true =>
        simp only [spGet]
        cases h2 : Nat.beq j i with
        | true => simp [beq_true h2]
        | false => simp [beq_false h2]
      | false =>
        simp only [spGet]
        cases h2 : Nat.beq j k with
        | true =>
          have h4 := beq_true h2; have h5 := beq_false h
          subst h4
          simp [Ne.symm h5]
        | false => exact ih j
theorem spGet_out (i : Nat) : ∀ (l : Sp) (j : Nat), spGet (spOut i l) j = if j = i then .un else spGet l j := by
  intro l
  induction l with
  | nil => intro j; simp [spOut, spGet]
  | cons p l ih =>
    obtain ⟨k, u⟩ := p
    intro j
    simp only [spOut]
    cases h : Nat.beq i k with
    | true =>
      have := beq_true h; subst this
      simp only [spGet]
      rw [ih j]
      cases h2 : Nat.beq j i with
      | true => simp [beq_true h2]
      | false => simp [beq_false h2]
    | false =>
      simp only [spGet]
      cases h2 : Nat.beq j k with
      | true =>
        have h4 := beq_true h2; have h5 := beq_false h
        subst h4
        simp [Ne.symm h5]
      | false => exact ih j
theorem spGet_set (i : Nat) (v : KV) (l : Sp) (j : Nat) : spGet (spSet i v l) j = if j = i then v else spGet l j := by
  unfold spSet
  split
  · exact spGet_out i l j
  · exact spGet_put i v l j
theorem spGet_keep (p : Nat → Bool) : ∀ (l : Sp) (j : Nat), spGet (spKeep p l) j = if p j = true then spGet l j else .un := by
  intro l
  induction l with
  | nil => intro j; simp [spKeep, spGet]
  | cons q l ih =>
    obtain ⟨k, u⟩ := q
    intro j
    simp only [spKeep]
    cases hp : p k with
    | true =>
      simp only [spGet]
      cases h2 : Nat.beq j k with
      | true => have := beq_true h2; subst this; simp [hp]
      | false => exact ih j
    | false =>
      simp only [spGet]
      rw [ih j]
      cases h2 : Nat.beq j k with
      | true => have := beq_true h2; subst this; simp [hp]
      | false => rfl
def isUnK : KV → Bool
  | .un => true
  | _ => false
structure SpWf (nt : Nat) (l : Sp) : Prop where
  srt : (l.map (·.1)).Pairwise (· < ·)
  lt : ∀ p ∈ l, p.1 < nt
  ok : ∀ p ∈ l, p.2.ok
  nu : ∀ p ∈ l, isUnK p.2 = false
theorem SpWf.nil (nt : Nat) : SpWf nt [] := ⟨.nil, by simp, by simp, by simp⟩
theorem SpWf.tail {nt : Nat} {p : Nat × KV} {l : Sp} (h : SpWf nt (p :: l)) : SpWf nt l :=
  ⟨(List.pairwise_cons.1 h.srt).2, fun q hq => h.lt q (by simp [hq]), fun q hq => h.ok q (by simp [hq]), fun q hq => h.nu q (by simp [hq])⟩
theorem spGet_not {l : Sp} {i : Nat} (h : ∀ p ∈ l, p.1 ≠ i) : spGet l i = .un := by
  induction l with
  | nil => rfl
  | cons p l ih =>
    obtain ⟨k, u⟩ := p
    simp only [spGet]
    cases h2 : Nat.beq i k with
    | true => exact absurd (beq_true h2).symm (h (k, u) (by simp))
    | false => exact ih fun q hq => h q (by simp [hq])
theorem SpWf.get_mem {nt : Nat} {l : Sp} (h : SpWf nt l) {p : Nat × KV} (hp : p ∈ l) : spGet l p.1 = p.2 := by
  induction l with
  | nil => cases hp
  | cons q l ih =>
    obtain ⟨k, u⟩ := q
    simp only [spGet]
    rcases List.mem_cons.1 hp with rfl | hp'
    · simp
    · have h1 := (List.pairwise_cons.1 h.srt).1 p.1 (List.mem_map.2 ⟨p, hp', rfl⟩)
      simp only at h1
      cases h2 : Nat.beq p.1 k with
      | true => have := beq_true h2; omega
      | false => exact ih h.tail hp'
theorem spGet_mem {l : Sp} {i : Nat} (h : spGet l i ≠ .un) : (i, spGet l i) ∈ l := by
  induction l with
  | nil => exact absurd rfl h
  | cons p l ih =>
    obtain ⟨k, u⟩ := p
    simp only [spGet] at h ⊢
    cases h2 : Nat.beq i k with
    | true => have := beq_true h2; subst this; simp
    | false => rw [h2] at h; simp only at h ⊢; exact List.mem_cons_of_mem _ (ih h)
theorem un_cases (x : KV) : x = .un ∨ x ≠ .un := by cases x <;> simp
theorem SpWf.get_ok {nt : Nat} {l : Sp} (h : SpWf nt l) (i : Nat) : (spGet l i).ok := by
  rcases un_cases (spGet l i) with h1 | h1
  · rw [h1]; trivial
  · exact h.ok _ (spGet_mem h1)
theorem SpWf.get_ge {nt : Nat} {l : Sp} (h : SpWf nt l) {i : Nat} (hi : nt ≤ i) : spGet l i = .un := by
  rcases un_cases (spGet l i) with h1 | h1
  · exact h1
  · have := h.lt _ (spGet_mem h1); simp only at this; omega
theorem spPut_mem {i : Nat} {v : KV} : ∀ {l : Sp} {p : Nat × KV}, p ∈ spPut i v l → p = (i, v) ∨ p ∈ l := by
  intro l
  induction l with
  | nil => intro p hp; simp [spPut] at hp; exact .inl hp
  | cons q l ih =>
    obtain ⟨k, u⟩ := q
    intro p hp
    simp only [spPut] at hp
    cases h : Nat.beq i k with
    | true =>
      rw [h] at hp; simp only [List.mem_cons] at hp ⊢
      rcases hp with rfl | hp
      · exact .inl rfl
      · exact .inr (.inr hp)
    | false =>
      rw [h] at hp
      cases h3 : Nat.blt i k with
      | true =>
        rw [h3] at hp; simp only [List.mem_cons] at hp ⊢
        rcases hp with rfl | hp | hp
        · exact .inl rfl
        · exact .inr (.inl hp)
        · exact .inr (.inr hp)
      | false =>
        rw [h3] at hp; simp only [List.mem_cons] at hp ⊢
        rcases hp with rfl | hp
        · exact .inr (.inl rfl)
        · exact (ih hp).imp id .inr
theorem spPut_srt {i : Nat} {v : KV} : ∀ {l : Sp}, (l.map (·.1)).Pairwise (· < ·) → ((spPut i v l).map (·.1)).Pairwise (· < ·) := by
  intro l
  induction l with
  | nil => intro _; simp [spPut]
  | cons q l ih =>
    obtain ⟨k, u⟩ := q
    intro h
    have h1 := List.pairwise_cons.1 h
    simp only [spPut]
    cases h2 : Nat.beq i k with
    | true =>
      have := beq_true h2; subst this
      exact List.pairwise_cons.2 ⟨h1.1, h1.2⟩
    | false =>
      cases h3 : Nat.blt i k with
      | true =>
        have h4 : i < k := by simpa [Nat.blt_eq] using h3
        refine List.pairwise_cons.2 ⟨fun a ha => ?_, h⟩
        simp only [List.map_cons, List.mem_cons] at ha
        rcases ha with rfl | ha
        · exact h4
        · exact Nat.lt_trans h4 (h1.1 a ha)
      | false =>
        have h5 := beq_false h2
        have h4 : ¬ i < k := by intro h6; rw [show Nat.blt i k = true by simpa [Nat.blt_eq] using h6] at h3; cases h3
        refine List.pairwise_cons.2 ⟨fun a ha => ?_, ih h1.2⟩
        obtain ⟨p, hp, rfl⟩ := List.mem_map.1 ha
        rcases spPut_mem hp with rfl | hp
        · simp only; omega
        · exact h1.1 _ (List.mem_map.2 ⟨p, hp, rfl⟩)
theorem SpWf.put {nt : Nat} {l : Sp} (h : SpWf nt l) {i : Nat} (hi : i < nt) {v : KV} (hv : v.ok) (hu : isUnK v = false) : SpWf nt (spPut i v l) where
  srt := spPut_srt h.srt
  lt p hp := (spPut_mem hp).elim (fun e => by rw [e]; exact hi) (h.lt p)
  ok p hp := (spPut_mem hp).elim (fun e => by rw [e]; exact hv) (h.ok p)
  nu p hp := (spPut_mem hp).elim (fun e => by rw [e]; exact hu) (h.nu p)
theorem spOut_sub (i : Nat) : ∀ (l : Sp), (spOut i l).Sublist l := by
  intro l
  induction l with
  | nil => exact .slnil
  | cons q l ih =>
    obtain ⟨k, u⟩ := q
    simp only [spOut]
    cases Nat.beq i k with
    | true => exact .cons _ ih
    | false => exact .cons_cons _ ih
theorem spKeep_sub (p : Nat → Bool) : ∀ (l : Sp), (spKeep p l).Sublist l := by
  intro l
  induction l with
  | nil => exact .slnil
  | cons q l ih =>
    obtain ⟨k, u⟩ := q
    simp only [spKeep]
    cases p k with
    | true => exact .cons_cons _ ih
    | false => exact .cons _ ih
theorem SpWf.sub {nt : Nat} {l l' : Sp} (h : SpWf nt l) (hs : l'.Sublist l) : SpWf nt l' :=
  ⟨h.srt.sublist (hs.map _), fun p hp => h.lt p (hs.subset hp), fun p hp => h.ok p (hs.subset hp), fun p hp => h.nu p (hs.subset hp)⟩
theorem SpWf.set {nt : Nat} {l : Sp} (h : SpWf nt l) {i : Nat} (hi : i < nt) {v : KV} (hv : v.ok) : SpWf nt (spSet i v l) := by
  unfold spSet
  split
  · exact h.sub (spOut_sub i l)
  · rename_i hu
    refine h.put hi hv ?_
    cases v <;> simp_all [isUnK]
theorem spMap_keys (f : KV → KV) : ∀ (l : Sp), ((spMap f l).map (·.1)).Sublist (l.map (·.1)) := by
  intro l
  induction l with
  | nil => exact .slnil
  | cons q l ih =>
    obtain ⟨k, u⟩ := q
    simp only [spMap]
    split
    · exact .cons _ ih
    · exact .cons_cons _ ih
theorem spMap_mem {f : KV → KV} : ∀ {l : Sp} {p : Nat × KV}, p ∈ spMap f l → ∃ q ∈ l, p = (q.1, f q.2) ∧ isUnK p.2 = false := by
  intro l
  induction l with
  | nil => intro p hp; cases hp
  | cons q l ih =>
    obtain ⟨k, u⟩ := q
    intro p hp
    simp only [spMap] at hp
    split at hp
    · obtain ⟨q, hq, h⟩ := ih hp; exact ⟨q, by simp [hq], h⟩
    · rename_i hne
      rcases List.mem_cons.1 hp with rfl | hp
      · exact ⟨(k, u), by simp, rfl, by cases hf : f u <;> simp_all [isUnK]⟩
      · obtain ⟨q, hq, h⟩ := ih hp; exact ⟨q, by simp [hq], h⟩
theorem SpWf.map {nt : Nat} {l : Sp} (h : SpWf nt l) {f : KV → KV} (hf : ∀ x : KV, x.ok → (f x).ok) : SpWf nt (spMap f l) where
  srt := h.srt.sublist (spMap_keys f l)
  lt p hp := by obtain ⟨q, hq, rfl, _⟩ := spMap_mem hp; exact h.lt q hq
  ok p hp := by obtain ⟨q, hq, rfl, _⟩ := spMap_mem hp; exact hf _ (h.ok q hq)
  nu p hp := by obtain ⟨q, hq, _, h⟩ := spMap_mem hp; exact h
theorem spGet_map {nt : Nat} {f : KV → KV} (hf : f .un = .un) : ∀ {l : Sp} (_ : SpWf nt l) (i : Nat), spGet (spMap f l) i = f (spGet l i) := by
  intro l
  induction l with
  | nil => intro _ i; simp [spMap, spGet, hf]
  | cons q l ih =>
    obtain ⟨k, u⟩ := q
    intro h i
    have h1 := List.pairwise_cons.1 h.srt
    simp only [spMap, spGet]
    split
    · rename_i hu
      cases h2 : Nat.beq i k with
      | true =>
        have := beq_true h2; subst this
        simp only
        rw [hu]
        refine spGet_not fun p hp => ?_
        obtain ⟨q, hq, rfl, _⟩ := spMap_mem hp
        have := h1.1 q.1 (List.mem_map.2 ⟨q, hq, rfl⟩)
        simp only at this ⊢; omega
      | false => exact ih h.tail i
    · simp only [spGet]
      cases h2 : Nat.beq i k with
      | true => rfl
      | false => exact ih h.tail i
theorem spHas_iff {l : Sp} {i : Nat} : spHas l i = true ↔ ∃ p ∈ l, p.1 = i := by
  induction l with
  | nil => simp [spHas]
  | cons q l ih =>
    obtain ⟨k, u⟩ := q
    simp only [spHas]
    cases h2 : Nat.beq i k with
    | true => simp [beq_true h2]
    | false => simp [ih, Ne.symm (beq_false h2)]
theorem spNames_iff {l : Sp} {nm : Nm} : nm ∈ spNames l ↔ ∃ p ∈ l, nm ∈ p.2.names := by
  induction l with
  | nil => simp [spNames]
  | cons q l ih => obtain ⟨k, u⟩ := q; simp [spNames, ih]
theorem SpWf.has_iff {nt : Nat} {l : Sp} (h : SpWf nt l) (i : Nat) : spHas l i = true ↔ spGet l i ≠ .un := by
  rw [spHas_iff]
  constructor
  · rintro ⟨p, hp, rfl⟩ hu
    rw [h.get_mem hp] at hu
    have := h.nu p hp
    rw [hu] at this; cases this
  · intro hu; exact ⟨_, spGet_mem hu, rfl⟩
theorem dense_get? (nt : Nat) (l : Sp) (i : Nat) : (dense nt l)[i]? = if i < nt then some (spGet l i).pv else none := by
  unfold dense
  rw [List.getElem?_map]
  split
  · rename_i h; rw [List.getElem?_range h]; rfl
  · rename_i h; rw [List.getElem?_eq_none (by simpa using h)]; rfl
theorem dense_length (nt : Nat) (l : Sp) : (dense nt l).length = nt := by simp [dense]
theorem dense_getD {nt : Nat} {l : Sp} (h : SpWf nt l) (i : Nat) : (dense nt l).getD i .undef = (spGet l i).pv := by
  rw [List.getD_eq_getElem?_getD, dense_get?]
  split
  · rfl
  · rename_i hi; rw [h.get_ge (by omega)]; rfl
theorem dense_ext {nt : Nat} {l : Sp} {xs : List PV} (hl : xs.length = nt) (h : ∀ i, i < nt → xs[i]? = some (spGet l i).pv) : dense nt l = xs := by
  apply List.ext_getElem?
  intro i
  rw [dense_get?]
  split
  · rename_i hi; exact (h i hi).symm
  · rename_i hi; rw [List.getElem?_eq_none (by omega)]
theorem dense_set {nt : Nat} {l : Sp} (d : Nat) (v : KV) : dense nt (spSet d v l) = (dense nt l).set d v.pv := by
  refine dense_ext (by simp [dense_length]) fun i hi => ?_
  rw [List.getElem?_set, dense_length, dense_get?, spGet_set]
  by_cases h : d = i
  · subst h; simp [hi]
  · simp [h, Ne.symm h, hi]
theorem dense_put {nt : Nat} {l : Sp} (d : Nat) (v : KV) : dense nt (spPut d v l) = (dense nt l).set d v.pv := by
  refine dense_ext (by simp [dense_length]) fun i hi => ?_
  rw [List.getElem?_set, dense_length, dense_get?, spGet_put]
  by_cases h : d = i
  · subst h; simp [hi]
  · simp [h, Ne.symm h, hi]
theorem dense_map {nt : Nat} {l : Sp} (h : SpWf nt l) {f : KV → KV} {g : Nm → Option (Option Ob)} (hu : f .un = .un) (hf : ∀ x : KV, x.ok → (f x).pv = x.pv.sub g) :
    dense nt (spMap f l) = subL g (dense nt l) := by
  refine dense_ext (by rw [subL_length, dense_length]) fun i hi => ?_
  rw [subL_getElem?, dense_get?, spGet_map hu h, if_pos hi, hf _ (h.get_ok i)]
  rfl
theorem renL_length (f : Nm → Nm) (xs : List PV) : (renL f xs).length = xs.length := by
  induction xs with
  | nil => rfl
  | cons x xs ih => simp [renL, ih]
theorem renL_getElem? (f : Nm → Nm) (xs : List PV) (i : Nat) : (renL f xs)[i]? = (xs[i]?).map (PV.ren f) := by
  induction xs generalizing i with
  | nil => rfl
  | cons x xs ih => cases i <;> simp [renL, ih]
theorem dense_ren {nt : Nat} {l : Sp} (h : SpWf nt l) (f : Nm → Nm) : dense nt (spMap (KV.ren f) l) = renL f (dense nt l) := by
  refine dense_ext (by rw [renL_length, dense_length]) fun i hi => ?_
  rw [renL_getElem?, dense_get?, spGet_map (by simp [KV.ren]) h, if_pos hi, KV.ren_pv f (h.get_ok i)]
  rfl
theorem dense_names {nt : Nat} {l : Sp} (h : SpWf nt l) (nm : Nm) : nm ∈ namesL (dense nt l) ↔ nm ∈ spNames l := by
  have hm : ∀ (xs : List PV), nm ∈ namesL xs ↔ ∃ x ∈ xs, nm ∈ x.names := by
    intro xs
    induction xs with
    | nil => simp [namesL]
    | cons x xs ih => simp [namesL, ih]
  rw [hm, spNames_iff]
  constructor
  · rintro ⟨x, hx, hn⟩
    obtain ⟨i, hi⟩ := List.getElem?_of_mem hx
    rw [dense_get?] at hi
    split at hi
    · cases hi
      rw [KV.pv_names (h.get_ok i)] at hn
      have hne : spGet l i ≠ .un := by intro hu; rw [hu] at hn; simp [KV.names] at hn
      exact ⟨_, spGet_mem hne, hn⟩
    · cases hi
  · rintro ⟨p, hp, hn⟩
    have := h.get_mem hp
    refine ⟨p.2.pv, List.mem_of_getElem? (i := p.1) ?_, ?_⟩
    · rw [dense_get?, if_pos (h.lt p hp), this]
    · rw [KV.pv_names (h.ok p hp)]; exact hn
def KOb.ok : KOb → Prop
  | .cells _ cs => okKL cs
  | .whole _ v => okV v = true
  | .arr _ _ xs => okVL xs = true
  | .map es => okVL es = true
  | .siter _ _ => True
structure SoWf (nt : Nat) (l : SpO) : Prop where
  srt : (l.map (·.1)).Pairwise (· < ·)
  lt : ∀ p ∈ l, p.1 < nt
  ok : ∀ p ∈ l, ∀ o ∈ p.2, o.ok
theorem SoWf.nil (nt : Nat) : SoWf nt [] := ⟨.nil, by simp, by simp⟩
theorem SoWf.tail {nt : Nat} {p : Nat × List KOb} {l : SpO} (h : SoWf nt (p :: l)) : SoWf nt l :=
  ⟨(List.pairwise_cons.1 h.srt).2, fun q hq => h.lt q (by simp [hq]), fun q hq => h.ok q (by simp [hq])⟩
theorem KOb.ob_names {o : KOb} (h : o.ok) : o.ob.names = o.names := by
  cases o with
  | cells ty cs => exact pvL_names h
  | whole ty v => exact (okVL_names (okV_cells h)).1
  | _ => rfl
theorem soGet_put (i : Nat) (v : List KOb) : ∀ (l : SpO) (j : Nat), soGet (soPut i v l) j = if j = i then v else soGet l j := by
  intro l
  induction l with
  | nil =>
    intro j
    simp only [soPut, soGet]
    cases h : Nat.beq j i with
    | true => simp [beq_true h]
    | false => simp [beq_false h]
  | cons p l ih =>
    obtain ⟨k, u⟩ := p
    intro j
    simp only [soPut]
    cases h : Nat.beq i k with
    | true =>
      have := beq_true h; subst this
      simp only [soGet]
      cases h2 : Nat.beq j i with
      | true => simp [beq_true h2]
      | false => simp [beq_false h2]
    | false =>
      cases h3 : Nat.blt i k with
      | true =>
        simp only [soGet]
        cases h2 : Nat.beq j i with
        | true => simp [beq_true h2]
        | false => simp [beq_false h2]
      | false =>
        simp only [soGet]
        cases h2 : Nat.beq j k with
        | true =>
          have h4 := beq_true h2; have h5 := beq_false h
          subst h4
          simp [Ne.symm h5]
        | false => exact ih j
theorem soGet_keep (p : Nat → Bool) : ∀ (l : SpO) (j : Nat), soGet (soKeep p l) j = if p j = true then soGet l j else [] := by
  intro l
  induction l with
  | nil => intro j; simp [soKeep, soGet]
  | cons q l ih =>
    obtain ⟨k, u⟩ := q
    intro j
    simp only [soKeep]
    cases hp : p k with
    | true =>
      simp only [soGet]
      cases h2 : Nat.beq j k with
      | true => have := beq_true h2; subst this; simp [hp]
      | false => exact ih j
    | false =>
      simp only [soGet]
      rw [ih j]
      cases h2 : Nat.beq j k with
      | true => have := beq_true h2; subst this; simp [hp]
      | false => rfl
theorem soGet_map (f : KOb → KOb) : ∀ (l : SpO) (j : Nat), soGet (soMap f l) j = (soGet l j).map f := by
  intro l
  induction l with
  | nil => intro j; simp [soMap, soGet]
  | cons q l ih =>
    obtain ⟨k, u⟩ := q
    intro j
    simp only [soMap, soGet]
    cases h2 : Nat.beq j k with
    | true => rfl
    | false => exact ih j
theorem soGet_mem {l : SpO} {i : Nat} (h : soGet l i ≠ []) : (i, soGet l i) ∈ l := by
  induction l with
  | nil => exact absurd rfl h
  | cons p l ih =>
    obtain ⟨k, u⟩ := p
    simp only [soGet] at h ⊢
    cases h2 : Nat.beq i k with
    | true => have := beq_true h2; subst this; simp
    | false => rw [h2] at h; simp only at h ⊢; exact List.mem_cons_of_mem _ (ih h)
theorem SoWf.get_mem {nt : Nat} {l : SpO} (h : SoWf nt l) {p : Nat × List KOb} (hp : p ∈ l) : soGet l p.1 = p.2 := by
  induction l with
  | nil => cases hp
  | cons q l ih =>
    obtain ⟨k, u⟩ := q
    simp only [soGet]
    rcases List.mem_cons.1 hp with rfl | hp'
    · simp
    · have h1 := (List.pairwise_cons.1 h.srt).1 p.1 (List.mem_map.2 ⟨p, hp', rfl⟩)
      simp only at h1
      cases h2 : Nat.beq p.1 k with
      | true => have := beq_true h2; omega
      | false => exact ih h.tail hp'
theorem SoWf.get_ok {nt : Nat} {l : SpO} (h : SoWf nt l) {i : Nat} {o : KOb} (ho : o ∈ soGet l i) : o.ok := by
  have : soGet l i ≠ [] := by intro h1; rw [h1] at ho; cases ho
  exact h.ok _ (soGet_mem this) o ho
theorem SoWf.get_ge {nt : Nat} {l : SpO} (h : SoWf nt l) {i : Nat} (hi : nt ≤ i) : soGet l i = [] := by
  by_cases h1 : soGet l i = []
  · exact h1
  · have := h.lt _ (soGet_mem h1); simp only at this; omega
theorem soPut_mem {i : Nat} {v : List KOb} : ∀ {l : SpO} {p : Nat × List KOb}, p ∈ soPut i v l → p = (i, v) ∨ p ∈ l := by
  intro l
  induction l with
  | nil => intro p hp; simp [soPut] at hp; exact .inl hp
  | cons q l ih =>
    obtain ⟨k, u⟩ := q
    intro p hp
    simp only [soPut] at hp
    cases h : Nat.beq i k with
    | true =>
      rw [h] at hp; simp only [List.mem_cons] at hp ⊢
      rcases hp with rfl | hp
      · exact .inl rfl
      · exact .inr (.inr hp)
    | false =>
      rw [h] at hp
      cases h3 : Nat.blt i k with
      | true =>
        rw [h3] at hp; simp only [List.mem_cons] at hp ⊢
        rcases hp with rfl | hp | hp
        · exact .inl rfl
        · exact .inr (.inl hp)
        · exact .inr (.inr hp)
      | false =>
        rw [h3] at hp; simp only [List.mem_cons] at hp ⊢
        rcases hp with rfl | hp
        · exact .inr (.inl rfl)
        · exact (ih hp).imp id .inr
theorem soPut_srt {i : Nat} {v : List KOb} : ∀ {l : SpO}, (l.map (·.1)).Pairwise (· < ·) → ((soPut i v l).map (·.1)).Pairwise (· < ·) := by
  intro l
  induction l with
  | nil => intro _; simp [soPut]
  | cons q l ih =>
    obtain ⟨k, u⟩ := q
    intro h
    have h1 := List.pairwise_cons.1 h
    simp only [soPut]
    cases h2 : Nat.beq i k with
    | true =>
      have := beq_true h2; subst this
      exact List.pairwise_cons.2 ⟨h1.1, h1.2⟩
    | false =>
      cases h3 : Nat.blt i k with
      | true =>
        have h4 : i < k := by simpa [Nat.blt_eq] using h3
        refine List.pairwise_cons.2 ⟨fun a ha => ?_, h⟩
        simp only [List.map_cons, List.mem_cons] at ha
        rcases ha with rfl | ha
        · exact h4
        · exact Nat.lt_trans h4 (h1.1 a ha)
      | false =>
        have h5 := beq_false h2
        have h4 : ¬ i < k := by intro h6; rw [show Nat.blt i k = true by simpa [Nat.blt_eq] using h6] at h3; cases h3
        refine List.pairwise_cons.2 ⟨fun a ha => ?_, ih h1.2⟩
        obtain ⟨p, hp, rfl⟩ := List.mem_map.1 ha
        rcases soPut_mem hp with rfl | hp
        · simp only; omega
        · exact h1.1 _ (List.mem_map.2 ⟨p, hp, rfl⟩)
theorem SoWf.put {nt : Nat} {l : SpO} (h : SoWf nt l) {i : Nat} (hi : i < nt) {v : List KOb} (hv : ∀ o ∈ v, o.ok) : SoWf nt (soPut i v l) where
  srt := soPut_srt h.srt
  lt p hp := (soPut_mem hp).elim (fun e => by rw [e]; exact hi) (h.lt p)
  ok p hp := (soPut_mem hp).elim (fun e => by rw [e]; exact hv) (h.ok p)
theorem soKeep_sub (p : Nat → Bool) : ∀ (l : SpO), (soKeep p l).Sublist l := by
  intro l
  induction l with
  | nil => exact .slnil
  | cons q l ih =>
    obtain ⟨k, u⟩ := q
    simp only [soKeep]
    cases p k with
    | true => exact .cons_cons _ ih
    | false => exact .cons _ ih
theorem SoWf.sub {nt : Nat} {l l' : SpO} (h : SoWf nt l) (hs : l'.Sublist l) : SoWf nt l' :=
  ⟨h.srt.sublist (hs.map _), fun p hp => h.lt p (hs.subset hp), fun p hp => h.ok p (hs.subset hp)⟩
theorem soMap_keys (f : KOb → KOb) : ∀ (l : SpO), (soMap f l).map (·.1) = l.map (·.1) := by
  intro l
  induction l with
  | nil => rfl
  | cons q l ih => obtain ⟨k, u⟩ := q; simp [soMap, ih]
theorem soMap_mem {f : KOb → KOb} : ∀ {l : SpO} {p : Nat × List KOb}, p ∈ soMap f l → ∃ q ∈ l, p = (q.1, q.2.map f) := by
  intro l
  induction l with
  | nil => intro p hp; cases hp
  | cons q l ih =>
    obtain ⟨k, u⟩ := q
    intro p hp
    rcases List.mem_cons.1 hp with rfl | hp
    · exact ⟨(k, u), by simp, rfl⟩
    · obtain ⟨q, hq, h⟩ := ih hp; exact ⟨q, by simp [hq], h⟩
theorem SoWf.map {nt : Nat} {l : SpO} (h : SoWf nt l) {f : KOb → KOb} (hf : ∀ x : KOb, x.ok → (f x).ok) : SoWf nt (soMap f l) where
  srt := by rw [soMap_keys]; exact h.srt
  lt p hp := by obtain ⟨q, hq, rfl⟩ := soMap_mem hp; exact h.lt q hq
  ok p hp o ho := by
    obtain ⟨q, hq, rfl⟩ := soMap_mem hp
    obtain ⟨o', ho', rfl⟩ := List.mem_map.1 ho
    exact hf _ (h.ok q hq o' ho')
theorem soNames_iff {l : SpO} {nm : Nm} : nm ∈ soNames l ↔ ∃ p ∈ l, ∃ o ∈ p.2, nm ∈ o.names := by
  induction l with
  | nil => simp [soNames]
  | cons q l ih => obtain ⟨k, u⟩ := q; simp [soNames, ih]
theorem denseO_get? (nt : Nat) (l : SpO) (i : Nat) : (denseO nt l)[i]? = if i < nt then some ((soGet l i).map KOb.ob) else none := by
  unfold denseO
  rw [List.getElem?_map]
  split
  · rename_i h; rw [List.getElem?_range h]; rfl
  · rename_i h; rw [List.getElem?_eq_none (by simpa using h)]; rfl
theorem denseO_length (nt : Nat) (l : SpO) : (denseO nt l).length = nt := by simp [denseO]
theorem denseO_ext {nt : Nat} {l : SpO} {xs : List (List Ob)} (hl : xs.length = nt) (h : ∀ i, i < nt → xs[i]? = some ((soGet l i).map KOb.ob)) : denseO nt l = xs := by
  apply List.ext_getElem?
  intro i
  rw [denseO_get?]
  split
  · rename_i hi; exact (h i hi).symm
  · rename_i hi; rw [List.getElem?_eq_none (by omega)]
theorem denseO_put {nt : Nat} {l : SpO} (d : Nat) (v : List KOb) : denseO nt (soPut d v l) = (denseO nt l).set d (v.map KOb.ob) := by
  refine denseO_ext (by simp [denseO_length]) fun i hi => ?_
  rw [List.getElem?_set, denseO_length, denseO_get?, soGet_put]
  by_cases h : d = i
  · subst h; simp [hi]
  · simp [h, Ne.symm h, hi]
theorem denseO_map {nt : Nat} {l : SpO} (h : SoWf nt l) {f : KOb → KOb} {g : Ob → Ob} (hf : ∀ x : KOb, x.ok → (f x).ob = g x.ob) : denseO nt (soMap f l) = (denseO nt l).map (·.map g) := by
  refine denseO_ext (by simp [denseO_length]) fun i hi => ?_
  rw [List.getElem?_map, denseO_get?, if_pos hi, soGet_map]
  simp only [Option.map_some, List.map_map, Option.some.injEq]
  apply List.map_congr_left
  intro o ho
  simp [hf o (h.get_ok ho)]
theorem denseO_look {nt : Nat} {l : SpO} (h : SoWf nt l) (nm : Nm) : look (denseO nt l) nm = (klook l nm).map KOb.ob := by
  unfold look klook
  rw [denseO_get?]
  split
  · rename_i x hx
    split at hx
    · cases hx; rw [List.getElem?_map]
    · cases hx
  · rename_i hx
    split at hx
    · cases hx
    · rw [h.get_ge (by omega)]; rfl
theorem klook_lt {nt : Nat} {l : SpO} (h : SoWf nt l) {nm : Nm} {o : KOb} (ho : klook l nm = some o) : nm.1 < nt := by
  apply Classical.byContradiction
  intro hn
  unfold klook at ho
  rw [h.get_ge (by omega)] at ho
  cases ho
theorem klook_ok {nt : Nat} {l : SpO} (h : SoWf nt l) {nm : Nm} {o : KOb} (ho : klook l nm = some o) : o.ok := h.get_ok (List.mem_of_getElem? ho)
theorem denseO_kput {nt : Nat} {l : SpO} (h : SoWf nt l) (nm : Nm) (o : KOb) : denseO nt (kput l nm o) = putOb (denseO nt l) nm o.ob := by
  unfold kput putOb
  cases hk : klook l nm with
  | some o' =>
    have hlt := klook_lt h hk
    simp only
    rw [denseO_put, denseO_get?, if_pos hlt]
    simp [List.map_set]
  | none =>
    simp only
    rw [denseO_get?]
    split
    · rename_i x hx
      split at hx
      · cases hx
        have h1 : ((soGet l nm.1).map KOb.ob).set nm.2 o.ob = (soGet l nm.1).map KOb.ob := by
          rw [List.set_eq_of_length_le]
          have := List.getElem?_eq_none_iff.1 hk
          simpa using this
        rw [h1]
        refine denseO_ext (by simp [denseO_length]) fun i hi => ?_
        rw [List.getElem?_set, denseO_length, denseO_get?]
        by_cases h2 : nm.1 = i
        · subst h2; simp [hi]
        · simp [h2, hi]
      · cases hx
    · rfl
theorem SoWf.kput {nt : Nat} {l : SpO} (h : SoWf nt l) (nm : Nm) {o : KOb} (ho : o.ok) : SoWf nt (kput l nm o) := by
  unfold Go.Ab.kput
  cases hk : klook l nm with
  | some o' =>
    refine h.put (klook_lt h hk) fun x hx => ?_
    rcases List.mem_or_eq_of_mem_set hx with h1 | rfl
    · exact h.get_ok h1
    · exact ho
  | none => exact h
theorem denseO_names {nt : Nat} {l : SpO} (h : SoWf nt l) (nm : Nm) : nm ∈ (denseO nt l).flatMap (fun l => l.flatMap Ob.names) ↔ nm ∈ soNames l := by
  rw [soNames_iff]
  simp only [List.mem_flatMap]
  constructor
  · rintro ⟨x, hx, ob, hob, hn⟩
    obtain ⟨i, hi⟩ := List.getElem?_of_mem hx
    rw [denseO_get?] at hi
    split at hi
    · cases hi
      obtain ⟨o, ho, rfl⟩ := List.mem_map.1 hob
      rw [KOb.ob_names (h.get_ok ho)] at hn
      have : soGet l i ≠ [] := by intro h1; rw [h1] at ho; cases ho
      exact ⟨_, soGet_mem this, o, ho, hn⟩
    · cases hi
  · rintro ⟨p, hp, o, ho, hn⟩
    have := h.get_mem hp
    refine ⟨p.2.map KOb.ob, List.mem_of_getElem? (i := p.1) ?_, o.ob, List.mem_map.2 ⟨o, ho, rfl⟩, ?_⟩
    · rw [denseO_get?, if_pos (h.lt p hp), this]
    · rw [KOb.ob_names (h.ok p hp o ho)]; exact hn
end Go.Ab


namespace Go.Ab
mutual
theorem forceV_eq {R : Type} : ∀ (x : KV) (K : KV → R), forceV x K = K x
  | .un, _ | .sk, _ | .nils, _ | .cv _, _ | .yld _, _ => rfl
  | .lit b, K => by cases b <;> rfl
  | .ref nm _, _ | .aref nm _ _ _, _ | .arr nm _ _ _, _ | .mp nm, _ | .it nm, _ | .wit nm, _ => by cases nm; rfl
  | .agg cs, K => by simp only [forceV]; rw [forceL_eq cs]
  | .iface t x, K => by simp only [forceV]; rw [forceV_eq x]
  | .fn f cap, K => by simp only [forceV]; rw [forceL_eq cap]
  | .tup xs, K => by simp only [forceV]; rw [forceL_eq xs]
theorem forceL_eq {R : Type} : ∀ (xs : List KV) (K : List KV → R), forceL xs K = K xs
  | [], _ => rfl
  | x :: xs, K => by simp only [forceL]; rw [forceV_eq x, forceL_eq xs]
end
theorem forceOb_eq {R : Type} (x : KOb) (K : KOb → R) : forceOb x K = K x := by cases x <;> simp [forceOb, forceL_eq]
theorem forceObL_eq {R : Type} : ∀ (xs : List KOb) (K : List KOb → R), forceObL xs K = K xs
  | [], _ => rfl
  | x :: xs, K => by simp only [forceObL]; rw [forceOb_eq x, forceObL_eq xs]
theorem forceSp_eq {R : Type} : ∀ (xs : Sp) (K : Sp → R), forceSp xs K = K xs
  | [], _ => rfl
  | (j, x) :: xs, K => by simp only [forceSp]; rw [forceV_eq x, forceSp_eq xs]
theorem forceSo_eq {R : Type} : ∀ (xs : SpO) (K : SpO → R), forceSo xs K = K xs
  | [], _ => rfl
  | (j, x) :: xs, K => by simp only [forceSo]; rw [forceObL_eq x, forceSo_eq xs]
theorem forceKp_eq {R : Type} : ∀ (xs : List Sp) (K : List Sp → R), forceKp xs K = K xs
  | [], _ => rfl
  | x :: xs, K => by simp only [forceKp]; rw [forceSp_eq x, forceKp_eq xs]
theorem force_eq {R : Type} (ks : KSt) (K : KSt → R) : force ks K = K ks := by
  cases ks; simp only [force]; rw [forceSp_eq, forceSo_eq, forceKp_eq]
structure KSt.Ok (ks : KSt) : Prop where
  tm : SpWf ks.nt ks.tmps
  ob : SoWf ks.nt ks.objs
  kp : ∀ sp ∈ ks.keep, SpWf ks.nt sp
theorem cstK_pv (v : PV) : (cstK v).pv = v := by
  unfold cstK
  split <;> simp [KV.pv, pvL]
theorem cstK_ok {v : PV} (h : okV v = true) : (cstK v).ok := by
  unfold cstK
  split
  · trivial
  · trivial
  · trivial
  · exact h
variable {ks : KSt}
theorem st_ev (h : ks.Ok) (x : RX) : x.ev ks.st.tmps = (x.kv ks.tmps).pv := by
  cases x with
  | t i => exact dense_getD h.tm i
  | c v => exact (cstK_pv v).symm
theorem kv_ok (h : ks.Ok) {x : RX} (hx : okX x = true) : (x.kv ks.tmps).ok := by
  cases x with
  | t i => exact h.tm.get_ok i
  | c v => exact cstK_ok hx
theorem st_look (h : ks.Ok) (nm : Nm) : look ks.st.objs nm = (klook ks.objs nm).map KOb.ob := denseO_look h.ob nm
theorem st_lookF (h : ks.Ok) : look ks.st.objs = fun nm => (klook ks.objs nm).map KOb.ob := funext (st_look h)
theorem KOb.off_ob (p : Nm → Bool) {o : KOb} (h : o.ok) : (o.off p).ob = o.ob.sub (subOff p) := by
  cases o with
  | cells ty cs => simp [KOb.off, KOb.ob, Ob.sub, offL_pv p h]
  | whole ty v =>
    have := (okVL_names (okV_cells h)).1
    simp only [KOb.off, KOb.ob, Ob.sub, cellsP]
    rw [subL_none this]
  | _ => rfl
where
  subL_none {xs : List PV} (h : namesL xs = []) : subL (subOff p) xs = xs := by
    induction xs with
    | nil => rfl
    | cons x xs ih =>
      simp [namesL] at h
      simp [subL, sub_none h.1, ih h.2]
theorem KOb.off_ok (p : Nm → Bool) {o : KOb} (h : o.ok) : (o.off p).ok := by
  cases o with
  | cells ty cs => exact offL_ok p h
  | _ => exact h
theorem subL_append (f : Nm → Option (Option Ob)) (xs ys : List PV) : subL f (xs ++ ys) = subL f xs ++ subL f ys := by
  induction xs with
  | nil => rfl
  | cons x xs ih => simp [subL, ih]
theorem flat_map {nt : Nat} {l : List Sp} {f : KV → KV} {g : List PV → List PV} (hg : g [] = []) (ha : ∀ xs ys, g (xs ++ ys) = g xs ++ g ys) (h : ∀ sp ∈ l, dense nt (spMap f sp) = g (dense nt sp)) :
    (l.map (spMap f)).flatMap (dense nt) = g (l.flatMap (dense nt)) := by
  induction l with
  | nil => simp [hg]
  | cons x l ih =>
    simp only [List.map_cons, List.flatMap_cons, ha]
    rw [h x (by simp), ih fun sp hsp => h sp (by simp [hsp])]
theorem koff_st (p : Nm → Bool) (h : ks.Ok) : (koffSt p ks).st = subSt (subOff p) ks.st := by
  unfold koffSt KSt.st subSt
  simp only
  rw [dense_map h.tm (by simp [KV.off]) (fun x hx => KV.off_pv p hx), denseO_map h.ob (fun o ho => KOb.off_ob p ho),
    flat_map (g := subL (subOff p)) rfl (subL_append _) fun sp hsp => dense_map (h.kp sp hsp) (by simp [KV.off]) fun x hx => KV.off_pv p hx]
theorem koff_ok (p : Nm → Bool) (h : ks.Ok) : (koffSt p ks).Ok where
  tm := h.tm.map fun x hx => KV.off_ok p hx
  ob := h.ob.map fun x hx => KOb.off_ok p hx
  kp sp hsp := by
    obtain ⟨q, hq, rfl⟩ := List.mem_map.1 hsp
    exact (h.kp q hq).map fun x hx => KV.off_ok p hx
theorem KOb.close_ob (g : Nm → Option Ob) {o : KOb} (h : o.ok) : o.close g = o.ob.sub (subCl g) := by
  cases o with
  | cells ty cs => simp [KOb.close, KOb.ob, Ob.sub, closeL_pv g h]
  | whole ty v =>
    have := (okVL_names (okV_cells h)).1
    simp only [KOb.close, KOb.ob, Ob.sub, cellsP]
    rw [subL_none this]
  | _ => rfl
where
  subL_none {xs : List PV} (h : namesL xs = []) : subL (subCl g) xs = xs := by
    induction xs with
    | nil => rfl
    | cons x xs ih =>
      simp [namesL] at h
      simp [subL, sub_none h.1, ih h.2]
theorem kclosed_eq {σ : Nm → Option KOb} (hσ : ∀ nm o, σ nm = some o → o.ok) : ∀ (d : Nat) (nm : Nm), kclosed σ d nm = (σ nm).map fun o => closeOb (fun nm => (σ nm).map KOb.ob) d o.ob := by
  intro d
  induction d with
  | zero =>
    intro nm
    unfold kclosed
    cases h : σ nm with
    | none => rfl
    | some o => simp only [Option.map_some]; rw [KOb.close_ob _ (hσ _ _ h)]; rfl
  | succ d ih =>
    intro nm
    unfold kclosed
    cases h : σ nm with
    | none => rfl
    | some o =>
      simp only [Option.map_some]
      rw [KOb.close_ob _ (hσ _ _ h)]
      congr 1
      unfold closeOb
      congr 1
      funext m
      unfold subCl
      rw [ih m, Option.map_map]
      rfl
def quietO (σ : Nm → Option KOb) : Prop := ∀ nm ty cs, σ nm = some (.cells ty cs) → khasYL cs = false
theorem kclosed_shut {σ : Nm → Option KOb} (hσ : ∀ nm o, σ nm = some o → o.ok) (hq : quietO σ) : ∀ (d : Nat) (nm : Nm) (ob : Ob), kclosed σ d nm = some ob → ob.shut := by
  intro d
  induction d with
  | zero =>
    intro nm ob h
    unfold kclosed at h
    cases ho : σ nm with
    | none => rw [ho] at h; cases h
    | some o =>
      rw [ho] at h; cases h
      have hok := hσ _ _ ho
      cases o with
      | cells ty cs => exact (closeL_ok (fun _ _ h => by cases h) hok (hq _ _ _ ho))
      | whole ty v => exact (okV_cells hok)
      | arr k kt xs => exact hok
      | map es => exact hok
      | siter s pos => trivial
  | succ d ih =>
    intro nm ob h
    unfold kclosed at h
    cases ho : σ nm with
    | none => rw [ho] at h; cases h
    | some o =>
      rw [ho] at h; cases h
      have hok := hσ _ _ ho
      cases o with
      | cells ty cs => exact (closeL_ok ih hok (hq _ _ _ ho))
      | whole ty v => exact (okV_cells hok)
      | arr k kt xs => exact hok
      | map es => exact hok
      | siter s pos => trivial
theorem KOb.frz_ob (p : Nm → Bool) (g : Nm → Option Ob) {o : KOb} (h : o.ok) : (o.frz p g).ob = o.ob.sub (subFrz p g) := by
  cases o with
  | cells ty cs => simp [KOb.frz, KOb.ob, Ob.sub, frzL_pv p g h]
  | whole ty v =>
    have := (okVL_names (okV_cells h)).1
    simp only [KOb.frz, KOb.ob, Ob.sub, cellsP]
    rw [subL_none this]
  | _ => rfl
where
  subL_none {xs : List PV} (h : namesL xs = []) : subL (subFrz p g) xs = xs := by
    induction xs with
    | nil => rfl
    | cons x xs ih =>
      simp [namesL] at h
      simp [subL, sub_none h.1, ih h.2]
theorem KOb.frz_ok {p : Nm → Bool} {g : Nm → Option Ob} (hg : ∀ nm ob, g nm = some ob → ob.shut) {o : KOb} (h : o.ok) : (o.frz p g).ok := by
  cases o with
  | cells ty cs => exact frzL_ok hg h
  | _ => exact h
theorem kputs_ok {nt : Nat} : ∀ (R : List Nm) {l : SpO}, SoWf nt l → SoWf nt (R.foldl (fun objs nm => kput objs nm kdead) l) := by
  intro R
  induction R with
  | nil => intro l h; exact h
  | cons nm R ih => intro l h; exact ih (h.kput nm (o := kdead) rfl)
theorem kputs_st {nt : Nat} : ∀ (R : List Nm) {l : SpO}, SoWf nt l → denseO nt (R.foldl (fun objs nm => kput objs nm kdead) l) = R.foldl (fun objs nm => putOb objs nm dead) (denseO nt l) := by
  intro R
  induction R with
  | nil => intro l _; rfl
  | cons nm R ih =>
    intro l h
    simp only [List.foldl_cons]
    rw [ih (h.kput nm (o := kdead) rfl), denseO_kput h]
    rfl
theorem klook_okF (h : ks.Ok) : ∀ nm o, klook ks.objs nm = some o → o.ok := fun _ _ ho => klook_ok h.ob ho
theorem kclosed_st (h : ks.Ok) (nm : Nm) : subCl (kclosed (klook ks.objs) deepest) nm = closed (look ks.st.objs) nm := by
  unfold subCl closed
  rw [kclosed_eq (klook_okF h), st_lookF h, Option.map_map]
  rfl
theorem kquiet_ok {l : SpO} (h : kquiet l = true) : ∀ p ∈ l, ∀ ty cs, KOb.cells ty cs ∈ p.2 → khasYL cs = false := by
  induction l with
  | nil => intro p hp; cases hp
  | cons q l ih =>
    obtain ⟨k, u⟩ := q
    simp only [kquiet, Bool.and_eq_true] at h
    intro p hp ty cs hcs
    rcases List.mem_cons.1 hp with rfl | hp
    · have := List.all_eq_true.1 h.1 _ hcs
      simpa using this
    · exact ih h.2 p hp ty cs hcs
theorem quiet_look {l : SpO} (h : kquiet l = true) : quietO (klook l) := by
  intro nm ty cs ho
  have hm : soGet l nm.1 ≠ [] := by intro h1; unfold klook at ho; rw [h1] at ho; cases ho
  exact kquiet_ok h _ (soGet_mem hm) ty cs (List.mem_of_getElem? ho)
theorem kfreeze_gen {l : KSt} (hl : l.Ok) {σ : Nm → Option KOb} (hσ : ∀ nm o, σ nm = some o → o.ok) (hq : quietO σ) (R : List Nm) :
    (kfreeze σ R l).st = freezeAll (fun nm => (σ nm).map KOb.ob) R l.st := by
  have hf : subFrz (fun m => R.contains m) (kclosed σ deepest) = fun m => if R.contains m = true then closed (fun nm => (σ nm).map KOb.ob) m else none := by
    funext m
    unfold subFrz closed
    rw [kclosed_eq hσ, Option.map_map]
    rfl
  unfold kfreeze freezeAll subSt KSt.st
  simp only
  rw [dense_map hl.tm (g := subFrz (fun m => R.contains m) (kclosed σ deepest)) (by simp [KV.frz]) (fun x hx => KV.frz_pv _ _ hx),
    kputs_st R (hl.ob.map fun x hx => KOb.frz_ok (kclosed_shut hσ hq deepest) hx), denseO_map hl.ob (fun o ho => KOb.frz_ob _ _ ho),
    flat_map (g := subL (subFrz (fun m => R.contains m) (kclosed σ deepest))) rfl (subL_append _) fun sp hsp => dense_map (hl.kp sp hsp) (by simp [KV.frz]) fun x hx => KV.frz_pv _ _ hx, hf]
theorem kfreeze_ok {l : KSt} (hl : l.Ok) {σ : Nm → Option KOb} (hσ : ∀ nm o, σ nm = some o → o.ok) (hq : quietO σ) (R : List Nm) : (kfreeze σ R l).Ok where
  tm := hl.tm.map fun x hx => KV.frz_ok (kclosed_shut hσ hq deepest) hx
  ob := kputs_ok R (hl.ob.map fun x hx => KOb.frz_ok (kclosed_shut hσ hq deepest) hx)
  kp sp hsp := by
    obtain ⟨q, hq', rfl⟩ := List.mem_map.1 hsp
    exact (hl.kp q hq').map fun x hx => KV.frz_ok (kclosed_shut hσ hq deepest) hx
structure KOut.Ok (o : KOut) : Prop where
  v : o.v.ok
  new : ∀ x ∈ o.new, x.ok
  upd : ∀ nm x, o.upd = some (nm, x) → x.ok
  ups : ∀ p ∈ o.ups, p.2.ok := by simp
def KOut.out (o : KOut) : Out := { v := o.v.pv, new := o.new.map KOb.ob, upd := o.upd.map fun p => (p.1, p.2.ob), kill := o.kill, frz := o.frz, gone := o.gone, ups := o.ups.map fun p => (p.1, p.2.ob), io := o.io, slot := o.slot }
def bupd (u : Option (Nm × Ob)) (st : St) : St :=
  match u with
  | some (nm, ob) => { st with objs := putOb st.objs nm ob }
  | none => st
def bkill (k : Option Nm) (st : St) : St :=
  match k with
  | some nm => subSt (fun m => if m = nm then some none else none) st
  | none => st
def bset (dst : Option Nat) (v : PV) (new : List Ob) (st : St) : St :=
  match dst with
  | some d => { st with tmps := st.tmps.set d v, objs := if new.isEmpty then st.objs else st.objs.set d new }
  | none => st
def bgone (l : List Nm) (st : St) : St := if l.isEmpty then st else subSt (fun m => if l.contains m then some none else none) st
def bturn (l : List (Nm × Ob)) (st : St) : St := if l.isEmpty then st else { st with objs := putObs l st.objs }
def bext (sl : Option Nat) (new : List Ob) (st : St) : St :=
  match sl with
  | some r => { st with objs := st.objs.set r (st.objs.getD r [] ++ new) }
  | none => st
def newAtO (sl : Option Nat) (new : List Ob) : List Ob :=
  match sl with
  | some _ => []
  | none => new
theorem apply_eq (st : St) (dst : Option Nat) (o : Out) : apply st dst o = bset dst o.v (newAtO o.slot o.new) (bext o.slot o.new <| bturn o.ups (bgone o.gone (if o.frz.isEmpty then bkill o.kill (bupd o.upd st) else freezeAll (look st.objs) o.frz (bkill o.kill (bupd o.upd st))))) := by
  unfold apply bset bkill bupd bgone bturn bext newAtO
  cases dst <;> cases o.upd <;> cases o.kill <;> cases o.slot <;> rfl
theorem kups_ok {nt : Nat} : ∀ (l : List (Nm × KOb)) {σ : SpO}, (∀ p ∈ l, p.2.ok) → SoWf nt σ → SoWf nt (kups l σ) := by
  intro l
  induction l with
  | nil => intro σ _ h; exact h
  | cons p l ih =>
    obtain ⟨nm, o⟩ := p
    intro σ hl h
    exact ih (fun q hq => hl q (List.mem_cons_of_mem _ hq)) (h.kput nm (hl (nm, o) List.mem_cons_self))
theorem kups_st {nt : Nat} : ∀ (l : List (Nm × KOb)) {σ : SpO}, (∀ p ∈ l, p.2.ok) → SoWf nt σ → denseO nt (kups l σ) = putObs (l.map fun p => (p.1, p.2.ob)) (denseO nt σ) := by
  intro l
  induction l with
  | nil => intro σ _ h; rfl
  | cons p l ih =>
    obtain ⟨nm, o⟩ := p
    intro σ hl h
    show denseO nt (kups l (kput σ nm o)) = putObs (l.map fun p => (p.1, p.2.ob)) (putOb (denseO nt σ) nm o.ob)
    rw [ih (fun q hq => hl q (List.mem_cons_of_mem _ hq)) (h.kput nm (hl (nm, o) List.mem_cons_self)), denseO_kput h]
theorem kapply_both (h : ks.Ok) (hq : kquiet ks.objs = true) (dst : Option Nat) {o : KOut} (ho : o.Ok) : (kapply ks dst o).st = apply ks.st dst o.out ∧ (kapply ks dst o).Ok := by
  rw [apply_eq]
  unfold kapply KOut.out
  simp only
  have h1 : (kupd o.upd ks).Ok ∧ (kupd o.upd ks).st = bupd (o.upd.map fun p => (p.1, p.2.ob)) ks.st := by
    cases hu : o.upd with
    | none => exact ⟨h, rfl⟩
    | some p =>
      obtain ⟨nm, ob⟩ := p
      refine ⟨⟨h.tm, h.ob.kput nm (ho.upd _ _ hu), h.kp⟩, ?_⟩
      simp only [Option.map_some, kupd, bupd, KSt.st]
      rw [denseO_kput h.ob]
  rw [← h1.2]
  generalize kupd o.upd ks = k1 at h1 ⊢
  have h2 : (kkill o.kill k1).Ok ∧ (kkill o.kill k1).st = bkill o.kill k1.st := by
    cases hu : o.kill with
    | none => exact ⟨h1.1, rfl⟩
    | some nm =>
      refine ⟨koff_ok _ h1.1, ?_⟩
      simp only [kkill, bkill]
      rw [koff_st _ h1.1]
      congr 1
      funext m
      unfold subOff
      by_cases hm : m = nm
      · simp [hm]
      · simp [hm]
  rw [← h2.2]
  generalize kkill o.kill k1 = k2 at h2 ⊢
  have h3 : (kfrzs (klook ks.objs) o.frz k2).Ok ∧ (kfrzs (klook ks.objs) o.frz k2).st = (if o.frz.isEmpty = true then k2.st else freezeAll (look ks.st.objs) o.frz k2.st) := by
    cases hf : o.frz with
    | nil => exact ⟨h2.1, rfl⟩
    | cons nm R =>
      refine ⟨kfreeze_ok h2.1 (klook_okF h) (quiet_look hq) _, ?_⟩
      rw [st_lookF h]
      exact kfreeze_gen h2.1 (klook_okF h) (quiet_look hq) _
  rw [← h3.2]
  generalize kfrzs (klook ks.objs) o.frz k2 = k4 at h3 ⊢
  have h5 : (kgone o.gone k4).Ok ∧ (kgone o.gone k4).st = bgone o.gone k4.st := by
    cases hg : o.gone with
    | nil => exact ⟨h3.1, rfl⟩
    | cons nm l =>
      refine ⟨koff_ok _ h3.1, ?_⟩
      simp only [kgone, bgone, List.isEmpty_cons, Bool.false_eq_true, if_false]
      rw [koff_st _ h3.1]
      congr 1
  rw [← h5.2]
  generalize kgone o.gone k4 = k5 at h5 ⊢
  have h6 : (kturn o.ups k5).Ok ∧ (kturn o.ups k5).st = bturn (o.ups.map fun p => (p.1, p.2.ob)) k5.st := by
    refine ⟨⟨h5.1.tm, kups_ok _ ho.ups h5.1.ob, h5.1.kp⟩, ?_⟩
    have : ∀ (l : List (Nm × Ob)) (s : St), bturn l s = { s with objs := putObs l s.objs } := by
      intro l s
      unfold bturn
      split
      · rename_i hl; rw [List.isEmpty_iff.1 hl]; rfl
      · rfl
    rw [this]
    simp only [kturn, KSt.st]
    rw [kups_st _ ho.ups h5.1.ob]
  rw [← h6.2]
  generalize kturn o.ups k5 = k6 at h6 ⊢
  have h7 : (kext o.slot o.new k6).Ok ∧ (kext o.slot o.new k6).st = bext o.slot (o.new.map KOb.ob) k6.st := by
    cases hs : o.slot with
    | none => exact ⟨h6.1, rfl⟩
    | some r =>
      simp only [kext, bext]
      cases hr : Nat.blt r k6.nt with
      | true =>
        have hr' : r < k6.nt := by simpa [Nat.blt_eq] using hr
        refine ⟨⟨h6.1.tm, h6.1.ob.put hr' fun x hx => ?_, h6.1.kp⟩, ?_⟩
        · rcases List.mem_append.1 hx with hx | hx
          · exact h6.1.ob.get_ok hx
          · exact ho.new x hx
        · unfold KSt.st
          simp only
          rw [denseO_put, List.map_append]
          congr 3
          rw [List.getD_eq_getElem?_getD, denseO_get?, if_pos hr']
          rfl
      | false =>
        have hr' : ¬ r < k6.nt := by intro h; rw [show Nat.blt r k6.nt = true by simpa [Nat.blt_eq] using h] at hr; cases hr
        refine ⟨h6.1, ?_⟩
        unfold KSt.st
        simp only
        rw [List.set_eq_of_length_le (by rw [denseO_length]; omega)]
  rw [← h7.2]
  have hnew2 : newAtO o.slot (o.new.map KOb.ob) = (newAt o.slot o.new).map KOb.ob := by cases o.slot <;> rfl
  rw [hnew2]
  have honew : ∀ x ∈ newAt o.slot o.new, x.ok := by
    cases o.slot with
    | none => exact ho.new
    | some r => intro x hx; cases hx
  generalize newAt o.slot o.new = nw at honew ⊢
  generalize kext o.slot o.new k6 = k3 at h7 ⊢
  obtain ⟨ok3, _⟩ := h7
  cases dst with
  | none => exact ⟨rfl, ok3⟩
  | some d =>
    simp only [kset, bset]
    cases hd : Nat.blt d k3.nt with
    | true =>
      have hd' : d < k3.nt := by simpa [Nat.blt_eq] using hd
      refine ⟨?_, ?_⟩
      · unfold KSt.st
        simp only
        rw [dense_set]
        cases hn : nw with
        | nil => simp
        | cons x xs => simp [denseO_put]
      · refine ⟨ok3.tm.set hd' ho.v, ?_, ok3.kp⟩
        simp only
        cases hn : nw with
        | nil => exact ok3.ob
        | cons x xs => rw [hn] at honew; exact ok3.ob.put hd' honew
    | false =>
      have hd' : ¬ d < k3.nt := by intro h; rw [show Nat.blt d k3.nt = true by simpa [Nat.blt_eq] using h] at hd; cases hd
      refine ⟨?_, ok3⟩
      unfold KSt.st
      simp only
      rw [List.set_eq_of_length_le (by rw [dense_length]; omega)]
      split
      · rfl
      · rw [List.set_eq_of_length_le (by rw [denseO_length]; omega)]
end Go.Ab


namespace Go.Ab
theorem fill_map (T : List PV) : ∀ (ps : List (Nat × Nat × RX)) (z : List PV), fillPV [] z (ps.map fun p => (p.1, p.2.1, .c (p.2.2.ev T))) = fillPV T z ps := by
  intro ps
  induction ps with
  | nil => intro z; rfl
  | cons p ps ih =>
    obtain ⟨off, n, x⟩ := p
    intro z
    simp only [List.map_cons, fillPV]
    rw [ih]
    rfl
theorem evO_map (T : List PV) (x : Option RX) : evO [] (x.map fun y => .c (y.ev T)) = evO T x := by cases x <;> rfl
theorem exec_inst (d : Nat) (σ : Nm → Option Ob) (T : List PV) (op : ROp) (hg : isG op = true) : exec d σ [] (op.mapX fun x => .c (x.ev T)) = exec d σ T op := by
  cases op with
  | build z ps => simp only [ROp.mapX, exec]; rw [fill_map T]
  | slice k x lo hi mx => simp only [ROp.mapX, exec]; rw [evO_map, evO_map, evO_map]; rfl
  | strSlice x lo hi => simp only [ROp.mapX, exec]; rw [evO_map, evO_map]; rfl
  | minmax mx xs => simp only [ROp.mapX, exec, List.map_map]; rfl
  | mov | pick | box | alloc | mkSl | store | mkI | mkF | mkMap | insert | mkS | append | copy | call | iter | next | bad => simp [isG] at hg
  | _ => rfl
theorem optmap_congr {f g : RX → RX} {o : Option RX} (h : ∀ a ∈ o.toList, f a = g a) : o.map f = o.map g := by
  cases o with
  | none => rfl
  | some a => simp [h a (by simp)]
theorem mapX_congr {f g : RX → RX} (op : ROp) (hg : isG op = true) (h : ∀ x ∈ op.xs, f x = g x) : op.mapX f = op.mapX g := by
  cases op with
  | build z ps =>
    simp only [ROp.mapX]
    congr 1
    apply List.map_congr_left
    intro p hp
    rw [h p.2.2 (List.mem_map.2 ⟨p, hp, rfl⟩)]
  | slice k x lo hi mx =>
    simp only [ROp.mapX, ROp.xs] at h ⊢
    rw [h x (by simp), optmap_congr (o := lo) fun a ha => h a (by simp [ha]), optmap_congr (o := hi) fun a ha => h a (by simp [ha]), optmap_congr (o := mx) fun a ha => h a (by simp [ha])]
  | strSlice x lo hi =>
    simp only [ROp.mapX, ROp.xs] at h ⊢
    rw [h x (by simp), optmap_congr (o := lo) fun a ha => h a (by simp [ha]), optmap_congr (o := hi) fun a ha => h a (by simp [ha])]
  | minmax mx xs => simp only [ROp.mapX]; congr 1; exact List.map_congr_left h
  | mov | pick | box | alloc | mkSl | store | mkI | mkF | mkMap | insert | mkS | append | copy | call | iter | next | bad => simp [isG] at hg
  | bin op c cst x y => simp only [ROp.mapX, ROp.xs] at h ⊢; rw [h x (by simp), h y (by simp)]
  | lookup c z ok x k => simp only [ROp.mapX, ROp.xs] at h ⊢; rw [h x (by simp), h k (by simp)]
  | idxAddr k x i => simp only [ROp.mapX, ROp.xs] at h ⊢; rw [h x (by simp), h i (by simp)]
  | idxAddrA k l x i => simp only [ROp.mapX, ROp.xs] at h ⊢; rw [h x (by simp), h i (by simp)]
  | strIdx x i => simp only [ROp.mapX, ROp.xs] at h ⊢; rw [h x (by simp), h i (by simp)]
  | load n ag x | nilck x | un op x | conv k x | toBytes x | ofBytes x | ofRune x | strId x | fieldAddr off x | field off n ag x | extract j x | len c x | tassert t z ok x => simp only [ROp.mapX, ROp.xs] at h ⊢; rw [h x (by simp)]
theorem reach_nil' (σ : Nm → Option Ob) : ∀ d, reach σ d [] = [] := by
  intro d; induction d with
  | zero => rfl
  | succ d ih => simp [reach, ih]
theorem exec_g_local {d : Nat} {σ : Nm → Option Ob} {T : List PV} {op : ROp} (hg : isG op = true) (hx : ∀ x ∈ op.xs, okV (x.ev T) = true) : exec d σ T op = exec 0 (fun _ => none) T op := by
  have h1 : exec d σ T op = exec 0 σ T op := by cases op <;> simp [isG] at hg <;> rfl
  rw [h1]
  refine exec_congr op (fun _ _ => rfl) ?_
  have : namesL (op.xs.map (RX.ev T)) = [] := (okVL_names (okVL_iff.2 fun v hv => by
    obtain ⟨x, hx', rfl⟩ := List.mem_map.1 hv
    exact hx x hx')).1
  rw [this]
  intro nm hnm
  rw [reach_nil'] at hnm; cases hnm
theorem okV_fill {T : List PV} : ∀ (ps : List (Nat × Nat × RX)) (z cs : List PV), okVL z = true → (∀ x ∈ ps.map (·.2.2), okV (x.ev T) = true) → fillPV T z ps = some cs → okVL cs = true := by
  intro ps
  induction ps with
  | nil => intro z cs hz _ h; simp [fillPV] at h; subst h; exact hz
  | cons p ps ih =>
    obtain ⟨off, n, y⟩ := p
    intro z cs hz hp h
    simp only [fillPV] at h
    obtain ⟨_, h⟩ := chk_inv h
    refine ih _ cs ?_ (fun x hx => hp x (by simp only [List.map_cons, List.mem_cons]; exact .inr hx)) h
    exact okVL_append (okVL_append (okVL_take hz _) (okV_cells (hp y (by simp)))) (okVL_drop hz _)
theorem okV_sel {cs : List PV} (h : okVL cs = true) {o n : Nat} {ag : Bool} {v : PV} (hs : sel cs o n ag = some v) : okV v = true := by
  unfold sel at hs
  split at hs
  · obtain ⟨_, hs⟩ := chk_inv hs
    cases hs
    simpa [okV] using okVL_take (okVL_drop h o) n
  · exact okVL_get h hs
theorem okV_find {k : PV} : ∀ {es : List PV} {v : PV}, findE k es = some (some v) → okVL es = true → okV v = true
  | [], v, h, _ => by simp [findE] at h
  | [_], v, h, _ => by simp [findE] at h
  | a :: u :: es, v, h, he => by
    simp only [okVL, Bool.and_eq_true] at he
    simp only [findE] at h
    split at h
    · cases h; exact he.2.1
    · exact okV_find h he.2.2
    · cases h
theorem okV_sliceOf {k : Nat} {x v : PV} {lo hi mx : Option PV} (hx : okV x = true) (h : sliceOf k x lo hi mx = some v) : okV v = true := by
  cases x with
  | sl k' xs full =>
    simp only [sliceOf] at h
    split at h
    · cases h
    split at h
    · cases h
    split at h
    · cases h
    obtain ⟨_, h⟩ := chk_inv h
    cases h
    simp only [okV] at hx ⊢
    exact okVL_drop (okVL_take hx _) _
  | nilS =>
    simp only [sliceOf] at h
    split at h
    · cases h
    split at h
    · cases h
    split at h
    · cases h
    obtain ⟨_, h⟩ := chk_inv h
    cases h; rfl
  | arr nm k' o n => simp [okV] at hx
  | _ => simp [sliceOf] at h
theorem okV_bytes (s : List UInt8) : okVL (byteList s) = true := okVL_iff.2 fun x hx => by
  obtain ⟨b, _, rfl⟩ := List.mem_map.1 hx
  rfl
theorem okV_binPV {op : BinOp} {c : TC} {cst : Bool} {x y v : PV} (h : binPV op c cst x y = some v) : okV v = true := by
  have hI : ∀ {op k a b v}, binInt op k a b = some v → okV v = true := by
    intro op k a b v h
    unfold binInt at h
    split at h
    all_goals first
      | (cases h; rfl)
      | (obtain ⟨_, h⟩ := chk_inv h; cases h; rfl)
      | (obtain ⟨b, _, rfl⟩ := Option.map_eq_some_iff.1 h; rfl)
  have hS : ∀ {op a b v}, binStr op a b = some v → okV v = true := by
    intro op a b v h
    unfold binStr at h
    split at h
    all_goals first
      | (cases h; rfl)
      | (obtain ⟨_, h⟩ := chk_inv h; cases h; rfl)
      | cases h
  unfold binPV at h
  split at h
  · split at h
    · obtain ⟨_, h⟩ := chk_inv h; cases h; rfl
    · obtain ⟨_, h⟩ := chk_inv h; cases h; rfl
    · obtain ⟨_, h⟩ := chk_inv h; exact hI h
  · exact hS h
  · split at h
    · obtain ⟨b, _, rfl⟩ := Option.map_eq_some_iff.1 h; rfl
    · obtain ⟨b, _, rfl⟩ := Option.map_eq_some_iff.1 h; rfl
    · cases h
structure Plain (o : Out) : Prop where
  eq : o = { v := o.v }
  ok : okV o.v = true
theorem Plain.mk' {v : PV} (h : okV v = true) : Plain { v := v } := ⟨rfl, h⟩
theorem plain_map {x : Option PV} {out : Out} (h : (x.map fun v => ({ v := v } : Out)) = some out) (hv : ∀ v, x = some v → okV v = true) : Plain out := by
  obtain ⟨v, hx, rfl⟩ := Option.map_eq_some_iff.1 h
  exact .mk' (hv v hx)
theorem exec_plain {T : List PV} {op : ROp} (hg : isG op = true) (hx : ∀ x ∈ op.xs, okV (x.ev T) = true) (hz : ∀ z ps, op = .build z ps → okVL z = true) (hl : ∀ c z ok x k, op = .lookup c z ok x k → okV z = true)
    (ht : ∀ t z ok x, op = .tassert t z ok x → okV z = true) {out : Out} (h : exec 0 (fun _ => none) T op = some out) : Plain out := by
  cases op with
  | mov | pick | box | alloc | mkSl | store | mkI | mkF | mkMap | insert | mkS | append | copy | call | iter | next | bad => simp [isG] at hg
  | build z ps =>
    simp only [exec] at h
    split at h
    · rename_i cs hc
      cases h
      exact .mk' (by simpa [okV] using okV_fill ps z cs (hz z ps rfl) hx hc)
    · cases h
  | load n ag x =>
    have hv := hx x (by simp [ROp.xs])
    simp only [exec] at h
    split at h
    · rename_i e; rw [e] at hv; simp [okV] at hv
    · rename_i e; rw [e] at hv
      exact plain_map h fun v hs => okV_sel (by simpa [okV] using hv) hs
    · rename_i e; rw [e] at hv; simp [okV] at hv
    · cases h
  | nilck x =>
    have hv := hx x (by simp [ROp.xs])
    simp only [exec] at h
    split at h
    all_goals first
      | (rename_i e; rw [e] at hv; cases h; exact .mk' hv)
      | cases h
  | bin op c cst x y => simp only [exec] at h; exact plain_map h fun v => okV_binPV
  | un op x =>
    simp only [exec] at h
    split at h
    · cases h; exact .mk' rfl
    · cases h; exact .mk' rfl
    · cases h
  | conv k x => simp only [exec] at h; split at h; (cases h; exact .mk' rfl); cases h
  | toBytes x =>
    simp only [exec] at h; split at h
    · obtain ⟨_, h⟩ := chk_inv h; cases h; exact .mk' (by simpa [okV] using okV_bytes _)
    · cases h
  | ofBytes x =>
    simp only [exec] at h; split at h
    · split at h
      · cases h; exact .mk' rfl
      · cases h
    · cases h
  | ofRune x => simp only [exec] at h; split at h; (cases h; exact .mk' rfl); cases h
  | strId x => simp only [exec] at h; split at h; (cases h; exact .mk' rfl); cases h
  | lookup c z ok x k =>
    have hv := hx x (by simp [ROp.xs])
    have hz := hl c z ok x k rfl
    simp only [exec] at h
    have hes : ∀ es, (match x.ev T with | .mp nm => (none : Option (List PV)) | .imap es => some es | .nilM => some [] | _ => none) = some es → okVL es = true := by
      intro es he
      cases hq : x.ev T <;> rw [hq] at he hv <;> simp only [reduceCtorEq, Option.some.injEq] at he
      · subst he; rfl
      · subst he; simpa [okV] using hv
    split at h
    · cases h
    · rename_i es he
      split at h
      · cases h
      · rename_i r hr
        obtain ⟨_, h⟩ := chk_inv h
        cases h
        have hes' : okVL es = true := hes es (by revert he; cases x.ev T <;> exact id)
        have hrz : okV (r.getD z) = true := by
          cases r with
          | none => exact hz
          | some v => exact okV_find hr hes'
        refine .mk' ?_
        split
        · simp [okV, okVL, hrz]
        · exact hrz
  | slice k x lo hi mx => simp only [exec] at h; exact plain_map h fun v hs => okV_sliceOf (hx x (by simp [ROp.xs])) hs
  | strSlice x lo hi =>
    simp only [exec] at h
    split at h
    · split at h
      · cases h
      · split at h
        · cases h
        · cases h; exact .mk' rfl
    · cases h
  | fieldAddr off x =>
    have hv := hx x (by simp [ROp.xs])
    simp only [exec] at h
    split at h
    · rename_i e; rw [e] at hv; simp [okV] at hv
    · rename_i e; rw [e] at hv; obtain ⟨_, h⟩ := chk_inv h; cases h; exact .mk' (by simpa [okV] using hv)
    · rename_i e; rw [e] at hv; simp [okV] at hv
    · cases h
  | field off n ag x =>
    have hv := hx x (by simp [ROp.xs])
    simp only [exec] at h
    split at h
    · rename_i e; rw [e] at hv; exact plain_map h fun v hs => okV_sel (by simpa [okV] using hv) hs
    · cases h
  | idxAddr k x i =>
    have hv := hx x (by simp [ROp.xs])
    simp only [exec] at h
    split at h
    · rename_i e; rw [e] at hv
      split at h
      · rename_i y hy
        obtain ⟨_, h⟩ := chk_inv h; cases h
        exact .mk' (by simpa [okV] using okV_cells (okVL_get (by simpa [okV] using hv) hy))
      · cases h
    · rename_i e; rw [e] at hv; simp [okV] at hv
    · cases h
  | idxAddrA k l x i =>
    have hv := hx x (by simp [ROp.xs])
    simp only [exec] at h
    split at h
    · rename_i e; rw [e] at hv; obtain ⟨_, h⟩ := chk_inv h; cases h; exact .mk' (by simpa [okV] using hv)
    · rename_i e; rw [e] at hv; simp [okV] at hv
    · cases h
  | strIdx x i =>
    simp only [exec] at h
    split at h
    · split at h
      · cases h; exact .mk' rfl
      · cases h
    · cases h
  | extract j x =>
    have hv := hx x (by simp [ROp.xs])
    simp only [exec] at h
    split at h
    · rename_i e; rw [e] at hv
      split at h
      · rename_i v hg'
        cases h; exact .mk' (okVL_get (by simpa [okV] using hv) hg')
      · cases h
    · cases h
  | len c x => simp only [exec] at h; obtain ⟨n, _, rfl⟩ := Option.map_eq_some_iff.1 h; exact .mk' rfl
  | minmax mx xs =>
    simp only [exec] at h
    split at h
    · obtain ⟨n, _, rfl⟩ := Option.map_eq_some_iff.1 h; exact .mk' rfl
    · cases h
  | tassert t z ok x =>
    have hv := hx x (by simp [ROp.xs])
    have hz := ht t z ok x rfl
    simp only [exec] at h
    split at h
    · rename_i e; rw [e] at hv
      split at h
      · cases h
        refine .mk' ?_
        simp only [okV] at hv
        split
        · simp [okV, okVL, hv]
        · exact hv
      · obtain ⟨_, h⟩ := chk_inv h; cases h; exact .mk' (by simp [okV, okVL, hz])
    · obtain ⟨_, h⟩ := chk_inv h; cases h; exact .mk' (by simp [okV, okVL, hz])
    · cases h
end Go.Ab


namespace Go.Ab
theorem bindO_some {α β : Type} {x : Option α} {f : α → Option β} {r : β} (h : bindO x f = some r) : ∃ a, x = some a ∧ f a = some r := by
  cases x with
  | none => cases h
  | some a => exact ⟨a, rfl, h⟩
theorem chkO_some {β : Type} {b : Bool} {a : Option β} {r : β} (h : chkO b a = some r) : b = true ∧ a = some r := by
  cases b with
  | false => cases h
  | true => exact ⟨rfl, h⟩
theorem iteB_some {β : Type} {b : Bool} {x y : Option β} {r : β} (h : iteB b x y = some r) : (b = true ∧ x = some r) ∨ (b = false ∧ y = some r) := by
  cases b with
  | false => exact .inr ⟨rfl, h⟩
  | true => exact .inl ⟨rfl, h⟩
theorem iteP_some {β : Type} {v : PV} {x y : Option β} {r : β} (h : iteP v x y = some r) : (v = .bool true ∧ x = some r) ∨ (v = .bool false ∧ y = some r) := by
  unfold iteP at h
  split at h
  · exact .inl ⟨rfl, h⟩
  · exact .inr ⟨rfl, h⟩
  · cases h
theorem leN_iff {a b : Nat} : leN a b = true ↔ a ≤ b := by unfold leN; rw [Nat.ble_eq]
theorem ltN_iff {a b : Nat} : ltN a b = true ↔ a < b := by unfold ltN; rw [Nat.blt_eq]
theorem eqN_iff {a b : Nat} : eqN a b = true ↔ a = b := by unfold eqN; rw [Nat.beq_eq]
def Tells {R : Type} (K : KOut → Option R) (r : R) (x : Option Out) : Prop := ∃ out : KOut, K out = some r ∧ out.Ok ∧ x = some out.out
theorem KOut.plain {v : KV} (h : v.ok) : KOut.Ok { v } := ⟨h, by simp, by simp, by simp⟩
theorem KOut.one {v : KV} {o : KOb} (h : v.ok) (ho : o.ok) : KOut.Ok { v, new := [o] } := ⟨h, by simpa using ho, by simp, by simp⟩
theorem KOut.turn {v : KV} {nm : Nm} {o : KOb} (h : v.ok) (ho : o.ok) : KOut.Ok { v, upd := some (nm, o) } := ⟨h, by simp, fun _ _ e => (by cases e; exact ho), by simp⟩
variable {ks : KSt} {d : Nat} {R : Type} {K : KOut → Option R} {r : R}
theorem ops_ok (h : ks.Ok) {xs : List RX} (hx : xs.all okX = true) {x : RX} (hm : x ∈ xs) : (x.kv ks.tmps).ok := kv_ok h (List.all_eq_true.1 hx x hm)
theorem cl_ev (h : ks.Ok) {x : RX} {v : PV} (hv : (x.kv ks.tmps).cl = some v) : x.ev ks.st.tmps = v := by rw [st_ev h, KV.cl_pv hv]
theorem gO_ok (h : ks.Ok) {op : ROp} (hx : op.xs.all okX = true) (hk : gO ks.tmps op K = some r) : Tells K r (exec d (look ks.st.objs) ks.st.tmps op) := by
  unfold gO at hk
  split at hk
  · rename_i hc
    simp only [Bool.and_eq_true] at hc
    obtain ⟨⟨hg, hop⟩, hcl⟩ := hc
    obtain ⟨z, hz, hk⟩ := bindO_some hk
    have hall : ∀ x ∈ op.xs, ∃ v, (x.kv ks.tmps).cl = some v := fun x hm => Option.isSome_iff_exists.1 (List.all_eq_true.1 hcl x hm)
    have hev : ∀ x ∈ op.xs, okV (x.ev ks.st.tmps) = true := fun x hm => by
      obtain ⟨v, hv⟩ := hall x hm
      rw [cl_ev h hv]; exact KV.cl_ok (ops_ok h hx hm) hv
    have hmap : op.mapX (instX ks.tmps) = op.mapX (fun x => .c (x.ev ks.st.tmps)) := mapX_congr op hg fun x hm => by
      obtain ⟨v, hv⟩ := hall x hm
      unfold instX; rw [hv, cl_ev h hv]; rfl
    unfold pureO at hz
    rw [hmap, exec_inst _ _ _ _ hg] at hz
    split at hz
    · rename_i out ho
      cases hz
      have hp := exec_plain hg hev (fun z ps e => by subst e; exact hop) (fun c z ok x k e => by subst e; exact hop) (fun t z ok x e => by subst e; exact hop) ho
      refine ⟨{ v := .cv out.v }, hk, KOut.plain hp.ok, ?_⟩
      rw [exec_g_local hg hev, ho, hp.eq]
      rfl
    · cases hz
  · cases hk
theorem cellsK_ok {n : Nat} {x : KV} (hx : x.ok) {K : List KV → Option R} (hk : cellsK n x K = some r) : ∃ cs, K cs = some r ∧ okKL cs ∧ pvL cs = x.pv.cells ∧ cs.length = n ∧ x.pv.isVal = true := by
  unfold cellsK at hk
  split at hk
  · split at hk
    · rename_i hn; exact ⟨_, hk, hx, rfl, hn, rfl⟩
    · cases hk
  · rename_i v
    obtain ⟨h1, h2⟩ := chkO_some hk
    unfold okCells at h1
    simp only [Bool.and_eq_true, beq_iff_eq] at h1
    refine ⟨_, h2, ?_, ?_, by simp, h1.1⟩
    · refine okKL_mem.2 fun y hy => ?_
      obtain ⟨i, hi, rfl⟩ := List.mem_map.1 hy
      have hv : okV v = true := hx
      show okV (cellP v i) = true
      unfold cellP
      rw [List.getD_eq_getElem?_getD]
      cases hg : v.cells[i]? with
      | none => rfl
      | some c => exact okVL_get (okV_cells hv) hg
    · rw [pvL_map, List.map_map]
      show _ = v.cells
      apply List.ext_getElem?
      intro i
      rw [List.getElem?_map]
      by_cases hi : i < n
      · rw [List.getElem?_range hi]
        show some (cellP v i) = _
        unfold cellP
        rw [List.getD_eq_getElem?_getD]
        have : i < v.cells.length := by omega
        simp [List.getElem?_eq_getElem this]
      · rw [List.getElem?_eq_none (by simpa using hi), List.getElem?_eq_none (by omega)]; rfl
  · cases hk
  · cases hk
  · cases hk
  · rename_i h1 h2 h3 h4 h5
    split at hk
    · rename_i hn
      refine ⟨_, hk, ⟨hx, trivial⟩, ?_, by simp [hn], ?_⟩
      · simp only [pvL]
        cases x <;> simp_all [KV.pv, PV.cells]
      · cases x <;> simp_all [KV.pv, PV.isVal]
    · cases hk
theorem okKL_take {l : List KV} (h : okKL l) (n : Nat) : okKL (l.take n) := okKL_mem.2 fun x hx => okKL_mem.1 h x (List.mem_of_mem_take hx)
theorem okKL_drop {l : List KV} (h : okKL l) (n : Nat) : okKL (l.drop n) := okKL_mem.2 fun x hx => okKL_mem.1 h x (List.mem_of_mem_drop hx)
theorem okKL_append {l m : List KV} (h : okKL l) (h' : okKL m) : okKL (l ++ m) := okKL_mem.2 fun x hx => (List.mem_append.1 hx).elim (okKL_mem.1 h x) (okKL_mem.1 h' x)
theorem pvL_take (l : List KV) (n : Nat) : pvL (l.take n) = (pvL l).take n := by rw [pvL_map, pvL_map, List.map_take]
theorem pvL_drop (l : List KV) (n : Nat) : pvL (l.drop n) = (pvL l).drop n := by rw [pvL_map, pvL_map, List.map_drop]
theorem pvL_append (l m : List KV) : pvL (l ++ m) = pvL l ++ pvL m := by rw [pvL_map, pvL_map, pvL_map, List.map_append]
theorem pvL_length (l : List KV) : (pvL l).length = l.length := by rw [pvL_map, List.length_map]
theorem pvL_get? (l : List KV) (i : Nat) : (pvL l)[i]? = (l[i]?).map KV.pv := by rw [pvL_map, List.getElem?_map]
theorem kfill_ok (h : ks.Ok) : ∀ (ps : List (Nat × Nat × RX)) {z : List KV} {K : List KV → Option R}, (∀ x ∈ ps.map (·.2.2), okX x = true) → okKL z → kfill ks.tmps z ps K = some r → ∃ cs, K cs = some r ∧ okKL cs ∧ fillPV ks.st.tmps (pvL z) ps = some (pvL cs) := by
  intro ps
  induction ps with
  | nil => intro z K _ hz hk; exact ⟨z, hk, hz, rfl⟩
  | cons p ps ih =>
    obtain ⟨off, n, x⟩ := p
    intro z K hx hz hk
    simp only [kfill] at hk
    obtain ⟨cs, hk, hcs, hpv, hlen, hval⟩ := cellsK_ok (kv_ok h (hx x (by simp))) hk
    split at hk
    · rename_i hle
      obtain ⟨cs', h1, h2, h3⟩ := ih (fun y hy => hx y (by simp only [List.map_cons, List.mem_cons]; exact .inr hy)) (okKL_append (okKL_append (okKL_take hz _) hcs) (okKL_drop hz _)) hk
      refine ⟨cs', h1, h2, ?_⟩
      have hl2 : (pvL cs).length = n := by rw [pvL_length, hlen]
      have hval' : (x.ev ks.st.tmps).isVal = true := by rw [st_ev h]; exact hval
      have hcl' : (x.ev ks.st.tmps).cells = pvL cs := by rw [st_ev h]; exact hpv.symm
      simp only [fillPV]
      rw [hcl']
      unfold chk splice
      simp only [hval', hl2, pvL_length, decide_true, Bool.and_self, Bool.true_and, hle, if_true]
      rw [pvL_append, pvL_append, pvL_take, pvL_drop] at h3
      exact h3
    · cases hk
theorem elemsK_ok (h : ks.Ok) {k : Nat} {x : KV} (hx : x.ok) {K : List PV → Option R} (hk : elemsK (klook ks.objs) k x K = some r) : ∃ ys, K ys = some r ∧ okVL ys = true ∧ elems (look ks.st.objs) k x.pv = some ys := by
  unfold elemsK at hk
  split at hk
  · rename_i nm k' o n
    split at hk
    · rename_i k'' kt xs hl
      split at hk
      · rename_i hkk
        obtain ⟨h1, h2⟩ := chkO_some hk
        rw [leN_iff] at h1
        have hok : okVL xs = true := klook_ok h.ob hl
        refine ⟨_, h2, okVL_take (okVL_drop hok _) _, ?_⟩
        have hl' : look ks.st.objs nm = some (.arr k'' kt xs) := by rw [st_look h, hl]; rfl
        unfold addN lenL at h1
        simp [KV.pv, elems, hl', chk, hkk.1, hkk.2, h1, takeL, dropL]
      · cases hk
    · cases hk
  · split at hk
    · rename_i v hv
      obtain ⟨ys, h1, h2⟩ := bindO_some hk
      have hok := KV.cl_ok hx hv
      have hpv := KV.cl_pv hv
      unfold elemsO at h1
      have h3 : elems (look ks.st.objs) k v = some ys := by
        rw [← h1]
        exact elems_congr (by rw [(okV_iff hok).1]; simp)
      refine ⟨ys, h2, ?_, by rw [hpv]; exact h3⟩
      cases v with
      | sl k' xs f => simp only [elems] at h1; obtain ⟨_, h1⟩ := chk_inv h1; cases h1; simpa [okV] using hok
      | nilS => cases h1; rfl
      | str s => simp only [elems] at h1; obtain ⟨_, h1⟩ := chk_inv h1; cases h1; exact okV_bytes _
      | arr nm k' o n => simp [okV] at hok
      | _ => simp [elems] at h1
    · cases hk
theorem dst_names {xs : List KV} (hx : okKL xs) : (namesL (pvL xs)).isEmpty = (knamesL xs).isEmpty := by rw [pvL_names hx]
theorem kreach_eq {σ : Nm → Option KOb} (hσ : ∀ nm o, σ nm = some o → o.ok) : ∀ (d : Nat) (l : List Nm), kreach σ d l = reach (fun nm => (σ nm).map KOb.ob) d l := by
  intro d
  induction d with
  | zero => intro l; rfl
  | succ d ih =>
    intro l
    simp only [kreach, reach]
    have e : (l.flatMap fun nm => ((σ nm).map KOb.names).getD []) = l.flatMap fun nm => (((σ nm).map KOb.ob).map Ob.names).getD [] := by
      congr 1
      funext nm
      cases ho : σ nm with
      | none => rfl
      | some o => simp [KOb.ob_names (hσ _ _ ho)]
    rw [ih, e]
theorem names_eq {σ : Nm → Option KOb} (hσ : ∀ nm o, σ nm = some o → o.ok) (nm : Nm) : ((σ nm).map KOb.names).getD [] = (((σ nm).map KOb.ob).map Ob.names).getD [] := by
  cases ho : σ nm with
  | none => rfl
  | some o => simp [KOb.ob_names (hσ _ _ ho)]
theorem kshut_eq {σ : Nm → Option KOb} (hσ : ∀ nm o, σ nm = some o → o.ok) (R : List Nm) : kshut σ R = shutR (fun nm => (σ nm).map KOb.ob) R := by
  unfold kshut shutR
  congr 1
  funext nm
  simp only
  rw [names_eq hσ]
theorem closeL_st (h : ks.Ok) {xs : List KV} (hx : okKL xs) : closeL (kclosed (klook ks.objs) deepest) xs = subL (closed (look ks.st.objs)) (pvL xs) := by
  rw [closeL_pv _ hx]
  congr 1
  funext nm
  exact kclosed_st h nm
theorem map_ev (h : ks.Ok) (ps : List RX) : ps.map (RX.ev ks.st.tmps) = pvL (ps.map (RX.kv ks.tmps)) := by
  rw [pvL_map, List.map_map]
  exact List.map_congr_left fun x _ => st_ev h x
theorem map_ok (h : ks.Ok) {ps : List RX} (hx : ps.all okX = true) : okKL (ps.map (RX.kv ks.tmps)) := okKL_mem.2 fun v hv => by
  obtain ⟨x, hm, rfl⟩ := List.mem_map.1 hv
  exact ops_ok h hx hm
theorem okVL_replicate {z : PV} (hz : okV z = true) (n : Nat) : okVL (List.replicate n z) = true := okVL_iff.2 fun x hx => by rw [(List.mem_replicate.1 hx).2]; exact hz
theorem okKL_cst {z : List PV} (hz : okVL z = true) : okKL (z.map cstK) := okKL_mem.2 fun v hv => by
  obtain ⟨x, hm, rfl⟩ := List.mem_map.1 hv
  exact cstK_ok (okVL_iff.1 hz x hm)
theorem pvL_cst (z : List PV) : pvL (z.map cstK) = z := by
  rw [pvL_map, List.map_map]
  have : KV.pv ∘ cstK = id := funext fun v => cstK_pv v
  rw [this, List.map_id]
theorem okVL_setE {k v : PV} : ∀ {es es' : List PV}, setE k v es = some es' → okVL es = true → okV k = true → okV v = true → okVL es' = true
  | [], es', h, _, hk, hv => by simp [setE] at h; subst h; simp [okVL, hk, hv]
  | [_], es', h, _, _, _ => by simp [setE] at h
  | a :: u :: es, es', h, he, hk, hv => by
    simp only [okVL, Bool.and_eq_true] at he
    simp only [setE] at h
    split at h
    · cases h; simp [okVL, hk, hv, he.2.2]
    · obtain ⟨l, hl, rfl⟩ := Option.map_eq_some_iff.1 h
      simp [okVL, he.1, he.2.1, okVL_setE hl he.2.2 hk hv]
    · cases h
end Go.Ab


namespace Go.Ab
variable {ks : KSt} {d : Nat} {R : Type} {K : KOut → Option R} {r : R}
theorem cells_agg (cs : List PV) : (PV.agg cs).cells = cs := rfl
theorem execK_ok (h : ks.Ok) (hq : kquiet ks.objs = true) {op : ROp} (hx : op.xs.all okX = true) (hk : execK d (klook ks.objs) ks.tmps op K = some r) : Tells K r (exec d (look ks.st.objs) ks.st.tmps op) := by
  have ev := st_ev h
  have lk := st_look h
  have hkv : ∀ {x : RX}, x ∈ op.xs → (x.kv ks.tmps).ok := fun hm => ops_ok h hx hm
  cases op with
  | mov x =>
    refine ⟨_, hk, KOut.plain (hkv (by simp [ROp.xs])), ?_⟩
    simp [exec, KOut.out, ev]
  | pick c a b =>
    have ha := hkv (x := a) (by simp [ROp.xs])
    have hb := hkv (x := b) (by simp [ROp.xs])
    simp only [execK] at hk
    split at hk
    · rename_i hc
      exact ⟨_, hk, KOut.plain ha, by simp [exec, KOut.out, ev, hc, KV.pv]⟩
    · rename_i hc
      exact ⟨_, hk, KOut.plain hb, by simp [exec, KOut.out, ev, hc, KV.pv]⟩
    · rename_i v hc
      rcases iteP_some hk with ⟨rfl, hk⟩ | ⟨rfl, hk⟩
      · exact ⟨_, hk, KOut.plain ha, by simp [exec, KOut.out, ev, hc, KV.pv]⟩
      · exact ⟨_, hk, KOut.plain hb, by simp [exec, KOut.out, ev, hc, KV.pv]⟩
    · cases hk
  | box x =>
    have ha := hkv (x := x) (by simp [ROp.xs])
    simp only [execK] at hk
    split at hk
    · rename_i v hv
      obtain ⟨h1, hk⟩ := chkO_some hk
      rw [hv] at ha
      unfold valO at h1
      exact ⟨_, hk, KOut.one (o := .whole 0 v) trivial ha, by simp [exec, KOut.out, ev, hv, KV.pv, chk, h1, KOb.ob, cellsP]⟩
    · rename_i cs hv
      rw [hv] at ha
      exact ⟨_, hk, KOut.one (o := .cells 0 cs) trivial ha, by simp [exec, KOut.out, ev, hv, KV.pv, chk, PV.isVal, KOb.ob, PV.cells]⟩
    · cases hk
    · cases hk
    · cases hk
    · refine ⟨_, hk, KOut.one (v := .ref (d, 0) 0) (o := .cells 0 [x.kv ks.tmps]) trivial ⟨ha, trivial⟩, ?_⟩
      simp only [exec, KOut.out, ev]
      cases hy : x.kv ks.tmps <;> simp_all [KV.pv, chk, PV.isVal, KOb.ob, PV.cells, pvL]
  | alloc ty z =>
    simp only [execK] at hk
    split at hk
    · rename_i hz
      exact ⟨_, hk, KOut.one (o := .cells _ (z.map cstK)) trivial (okKL_cst hz), by simp [exec, KOut.out, KV.pv, KOb.ob, pvL_cst]⟩
    · cases hk
  | build z ps =>
    simp only [execK] at hk
    split at hk
    · exact gO_ok h hx hk
    · split at hk
      · rename_i hz
        obtain ⟨cs, h1, h2, h3⟩ := kfill_ok h ps (fun x hm => List.all_eq_true.1 hx x hm) (okKL_cst hz) hk
        rw [pvL_cst] at h3
        exact ⟨_, h1, KOut.plain (v := .agg cs) h2, by simp [exec, KOut.out, h3, KV.pv]⟩
      · cases hk
  | mkSl k ps =>
    have hok := map_ok h (ps := ps) hx
    simp only [execK] at hk
    split at hk
    · rename_i vs hv
      obtain ⟨h1, hk⟩ := chkO_some hk
      have hpv := clL_pv hv
      refine ⟨_, hk, KOut.one (o := .arr k 0 vs) trivial (clL_ok hok hv), ?_⟩
      have hn : (namesL vs).isEmpty = true := by rw [(okVL_names (clL_ok hok hv)).1]; rfl
      unfold okSls at h1
      simp only [exec, map_ev h, hpv, hn, if_true, KOut.out, KV.pv, KOb.ob, chk, h1, lenL, List.map_cons, List.map_nil, Option.map_none]
    · split at hk
      · cases hk
      · rename_i hne
        split at hk
        · rename_i hc
          obtain ⟨h1, hk⟩ := chkO_some hk
          refine ⟨_, hk, ⟨trivial, ?_, by simp, by simp⟩, ?_⟩
          · intro o ho
            simp only [List.mem_singleton] at ho
            subst ho
            exact closeL_ok (kclosed_shut (klook_okF h) (quiet_look hq) deepest) hok hc.2
          · have hne' : (namesL (pvL (ps.map (RX.kv ks.tmps)))).isEmpty = false := by rw [dst_names hok]; simpa using hne
            unfold okSls at h1
            rw [closeL_st h hok] at h1
            have hsh := hc.1
            rw [kreach_eq (klook_okF h), kshut_eq (klook_okF h), ← st_lookF h, ← pvL_names hok] at hsh
            simp only [exec, map_ev h, hne', Bool.false_eq_true, if_false, KOut.out, KV.pv, KOb.ob, lenL, List.map_cons, List.map_nil, Option.map_none]
            rw [closeL_st h hok, kreach_eq (klook_okF h), ← st_lookF h, ← pvL_names hok]
            unfold chk
            rw [h1, hsh]
            rfl
        · cases hk
  | load n ag x =>
    have ha := hkv (x := x) (by simp [ROp.xs])
    simp only [execK] at hk
    split at hk
    · rename_i nm o hv
      split at hk
      · rename_i cs hl
        have hcs : okKL cs := klook_ok h.ob hl
        split at hk
        · rename_i hag
          split at hk
          · rename_i hle
            refine ⟨_, hk, KOut.plain (v := .agg ((cs.drop o).take n)) (okKL_take (okKL_drop hcs _) _), ?_⟩
            simp [exec, ev, hv, KV.pv, lk, hl, KOb.ob, sel, hag, chk, pvL_length, hle, KOut.out, pvL_take, pvL_drop]
          · cases hk
        · rename_i hag
          split at hk
          · rename_i c hc
            refine ⟨_, hk, KOut.plain (okKL_mem.1 hcs c (List.mem_of_getElem? hc)), ?_⟩
            simp [exec, ev, hv, KV.pv, lk, hl, KOb.ob, sel, hag, pvL_get?, hc, KOut.out]
          · cases hk
      · rename_i v hl
        obtain ⟨z, hz, hk⟩ := bindO_some hk
        have hv' : okV v = true := klook_ok h.ob hl
        unfold selO at hz
        refine ⟨_, hk, KOut.plain (v := .cv z) (okV_sel (okV_cells hv') hz), ?_⟩
        simp [exec, ev, hv, KV.pv, lk, hl, KOb.ob, cellsP, hz, KOut.out]
      · cases hk
    · rename_i nm k i o hv
      split at hk
      · rename_i k' kt xs hl
        split at hk
        · rename_i hkk
          obtain ⟨z, hz, hk⟩ := bindO_some hk
          have hxs : okVL xs = true := klook_ok h.ob hl
          unfold elemO at hz
          split at hz
          · rename_i e he
            refine ⟨_, hk, KOut.plain (v := .cv z) (okV_sel (okV_cells (okVL_get hxs he)) hz), ?_⟩
            simp [exec, ev, hv, KV.pv, lk, hl, KOb.ob, he, hz, chk, hkk, KOut.out]
          · cases hz
        · cases hk
      · cases hk
    · exact gO_ok h hx hk
  | store n x v =>
    have ha := hkv (x := x) (by simp [ROp.xs])
    have hb := hkv (x := v) (by simp [ROp.xs])
    simp only [execK] at hk
    split at hk
    · rename_i nm o hv
      split at hk
      · rename_i cs hl
        have hcs : okKL cs := klook_ok h.ob hl
        obtain ⟨vs, hk, hvs, hpv, hlen, hval⟩ := cellsK_ok hb hk
        split at hk
        · rename_i hle
          refine ⟨_, hk, KOut.turn (o := .cells _ (cs.take o ++ vs ++ cs.drop (o + n))) trivial (okKL_append (okKL_append (okKL_take hcs _) hvs) (okKL_drop hcs _)), ?_⟩
          have hl2 : (pvL vs).length = n := by rw [pvL_length, hlen]
          simp [exec, ev, hv, KV.pv, lk, hl, KOb.ob, ← hpv, hval, hl2, chk, pvL_length, hle, KOut.out, splice, pvL_append, pvL_take, pvL_drop]
        · cases hk
      · rename_i w hl
        split at hk
        · rename_i u hu
          obtain ⟨h1, hk⟩ := chkO_some hk
          have hw : okV w = true := klook_ok h.ob hl
          have huo := KV.cl_ok hb hu
          unfold okSto at h1
          simp only [Bool.and_eq_true, decide_eq_true_eq] at h1
          refine ⟨_, hk, KOut.turn (o := .whole _ (stoP u w o)) trivial ?_, ?_⟩
          · show okV (stoP u w o) = true
            simpa [stoP, okV, splice] using okVL_append (okVL_take (okV_cells hw) o) (okVL_append (okV_cells huo) (okVL_drop (okV_cells hw) _))
          · have hpv := KV.cl_pv hu
            simp [exec, ev, hv, KV.pv, lk, hl, KOb.ob, cellsP, hpv, h1.1.1, h1.1.2, h1.2, chk, KOut.out, stoP, cells_agg]
        · cases hk
      · cases hk
    · rename_i nm k i o hv
      split at hk
      · rename_i k' kt xs hl
        split at hk
        · rename_i u hu
          split at hk
          · rename_i hkk
            obtain ⟨ys, hys, hk⟩ := bindO_some hk
            have hxs : okVL xs = true := klook_ok h.ob hl
            have huo := KV.cl_ok hb hu
            have hpv := KV.cl_pv hu
            unfold setO at hys
            split at hys
            · rename_i es he
              obtain ⟨h1, h2⟩ := chkO_some hys
              cases h2
              simp only [Bool.and_eq_true, decide_eq_true_eq] at h1
              have heo : okVL es = true := by simpa [okV] using okVL_get hxs he
              refine ⟨_, hk, KOut.turn (o := .arr k kt _) trivial ?_, ?_⟩
              · refine okVL_set hxs i ?_
                simpa [okV, splice] using okVL_append (okVL_take heo o) (okVL_append (okV_cells huo) (okVL_drop heo _))
              · have hn : (namesL u.cells).isEmpty = true := by rw [(okVL_names (okV_cells huo)).1]; rfl
                simp [exec, ev, hv, KV.pv, lk, hl, KOb.ob, he, hpv, h1.1.1, h1.1.2, h1.2, chk, hkk, KOut.out]
                rw [(okVL_names (okV_cells huo)).1]
            · rename_i e hne he
              obtain ⟨h1, h2⟩ := chkO_some hys
              cases h2
              simp only [Bool.and_eq_true, beq_iff_eq] at h1
              refine ⟨_, hk, KOut.turn (o := .arr k kt _) trivial (okVL_set hxs i huo), ?_⟩
              have hn : u.names = [] := (okV_iff huo).1
              simp only [exec, ev, hv, KV.pv, lk, hl, Option.map_some, KOb.ob, he, hpv]
              subst hkk
              simp [chk, h1.1.1.1, h1.1.1.2, h1.1.2, h1.2, hn, KOut.out, KOb.ob, KV.pv]
            · cases hys
          · cases hk
        · cases hk
      · cases hk
    · cases hk
  | nilck x =>
    have ha := hkv (x := x) (by simp [ROp.xs])
    simp only [execK] at hk
    split at hk
    · rename_i hv; exact ⟨_, hk, KOut.plain (by trivial), by simp [exec, ev, hv, KV.pv, KOut.out]⟩
    · rename_i hv; exact ⟨_, hk, KOut.plain (by trivial), by simp [exec, ev, hv, KV.pv, KOut.out]⟩
    · rename_i hv; rw [hv] at ha; exact ⟨_, hk, KOut.plain ha, by simp [exec, ev, hv, KV.pv, KOut.out]⟩
    · rename_i hv; exact ⟨_, hk, KOut.plain (by trivial), by simp [exec, ev, hv, KV.pv, KOut.out]⟩
    · exact gO_ok h hx hk
  | bin o c cst x y =>
    simp only [execK] at hk
    split at hk
    · rename_i nm o' v h1 h2
      split at hk
      · rcases iteB_some hk with ⟨hc, hk⟩ | ⟨_, hk⟩
        · split at hc
          · refine ⟨_, hk, KOut.plain (v := .lit false) trivial, ?_⟩
            simp [exec, ev, h1, h2, KV.pv, binPV, eqNil, KOut.out]
          · cases hc
        · cases hk
      · rcases iteB_some hk with ⟨hc, hk⟩ | ⟨_, hk⟩
        · split at hc
          · refine ⟨_, hk, KOut.plain (v := .lit true) trivial, ?_⟩
            simp [exec, ev, h1, h2, KV.pv, binPV, eqNil, KOut.out]
          · cases hc
        · cases hk
      · cases hk
    · exact gO_ok h hx hk
  | un o x =>
    cases o with
    | not =>
      simp only [execK] at hk
      split at hk
      · rename_i b hv
        exact ⟨_, hk, KOut.plain (v := .lit (!b)) trivial, by simp [exec, ev, hv, KV.pv, KOut.out]⟩
      · exact gO_ok h hx hk
    | _ => exact gO_ok h hx hk
  | mkI t x =>
    have ha := hkv (x := x) (by simp [ROp.xs])
    simp only [execK] at hk
    split at hk
    · rename_i v hv
      refine ⟨_, hk, KOut.plain (v := .cv (.iface t v)) ?_, ?_⟩
      · show okV (.iface t v) = true
        simpa [okV] using KV.cl_ok ha hv
      · simp [exec, ev, KV.cl_pv hv, KV.pv, KOut.out]
    · split at hk
      · cases hk
      · cases hk
      · cases hk
      · cases hk
      · exact ⟨_, hk, KOut.plain (v := .iface t (x.kv ks.tmps)) ha, by simp [exec, ev, KV.pv, KOut.out]⟩
  | mkF f cap =>
    simp only [execK] at hk
    split at hk
    · refine ⟨_, hk, KOut.plain (v := .fn f (cap.map (RX.kv ks.tmps))) (map_ok h hx), ?_⟩
      simp [exec, KOut.out, KV.pv, map_ev h]
    · cases hk
  | mkMap => exact ⟨_, hk, KOut.one (o := .map []) trivial rfl, by simp [exec, KOut.out, KV.pv, KOb.ob]⟩
  | insert c x k v =>
    have hb := hkv (x := k) (by simp [ROp.xs])
    have hc := hkv (x := v) (by simp [ROp.xs])
    simp only [execK] at hk
    split at hk
    · rename_i nm hv
      split at hk
      · rename_i es kk vv hl h1 h2
        obtain ⟨es', he, hk⟩ := bindO_some hk
        have hes : okVL es = true := klook_ok h.ob hl
        have hko := KV.cl_ok hb h1
        have hvo := KV.cl_ok hc h2
        unfold insO at he
        split at he
        · rename_i es2 hs
          obtain ⟨h3, h4⟩ := chkO_some he
          cases h4
          simp only [Bool.and_eq_true] at h3
          refine ⟨_, hk, KOut.turn (o := .map es') trivial (okVL_setE hs hes hko hvo), ?_⟩
          have hn : vv.names = [] := (okV_iff hvo).1
          simp [exec, ev, hv, KV.pv, lk, hl, KOb.ob, KV.cl_pv h1, KV.cl_pv h2, hs, chk, h3.1, h3.2, hn, KOut.out]
        · cases he
      · rename_i es kk hl h1 h2
        split at hk
        · cases hk
        · rename_i hne
          split at hk
          · rename_i hcond
            obtain ⟨hsh, hy, hcn⟩ := hcond
            obtain ⟨es', he, hk⟩ := bindO_some hk
            have hes : okVL es = true := klook_ok h.ob hl
            have hko := KV.cl_ok hb h1
            have hok1 : okKL [v.kv ks.tmps] := ⟨hc, trivial⟩
            have hcl := closeL_st h hok1
            have hclo := closeL_ok (kclosed_shut (klook_okF h) (quiet_look hq) deepest) hok1 hy
            have e1 : nth (closeL (kclosed (klook ks.objs) deepest) [v.kv ks.tmps]) 0 = ((v.kv ks.tmps).pv).sub (closed (look ks.st.objs)) := by
              rw [hcl]; simp [pvL, subL, nth]
            have hvo : okV (((v.kv ks.tmps).pv).sub (closed (look ks.st.objs))) = true := by
              rw [← e1]
              rw [hcl] at hclo ⊢
              exact (Bool.and_eq_true_iff.1 hclo).1
            rw [e1] at he
            have hn2 : ((v.kv ks.tmps).pv).names.isEmpty = false := by
              rw [KV.pv_names hc]; simpa [knamesL] using hne
            have hrch : kreach (klook ks.objs) deepest (knamesL [v.kv ks.tmps]) = reach (look ks.st.objs) deepest ((v.kv ks.tmps).pv).names := by
              rw [kreach_eq (klook_okF h), ← st_lookF h, KV.pv_names hc]; simp [knamesL]
            rw [hrch, kshut_eq (klook_okF h), ← st_lookF h] at hsh
            rw [hrch] at hcn hk
            have hcn' : ¬ nm ∈ reach (look ks.st.objs) deepest ((v.kv ks.tmps).pv).names := fun hm => by rw [List.contains_iff_mem.2 hm] at hcn; cases hcn
            unfold insO at he
            split at he
            · rename_i es2 hs
              obtain ⟨h3, h4⟩ := chkO_some he
              cases h4
              simp only [Bool.and_eq_true] at h3
              refine ⟨_, hk, ⟨trivial, by simp, fun m o' e => by cases e; exact okVL_setE hs hes hko hvo, by simp⟩, ?_⟩
              simp [exec, ev, hv, KV.pv, lk, hl, KOb.ob, KV.cl_pv h1, hn2, hs, chk, h3.1, h3.2, hsh, hcn', KOut.out]
            · cases he
          · cases hk
      · cases hk
    · cases hk
  | lookup c z ok x k =>
    have hb := hkv (x := k) (by simp [ROp.xs])
    simp only [execK] at hk
    split at hk
    · rename_i nm hv
      split at hk
      · rename_i es kk hl h1
        split at hk
        case isFalse => cases hk
        rename_i hz
        obtain ⟨u, hu, hk⟩ := bindO_some hk
        have hes : okVL es = true := klook_ok h.ob hl
        unfold lookO at hu
        split at hu
        · cases hu
        · rename_i r' hr
          obtain ⟨h3, h4⟩ := chkO_some hu
          cases h4
          have hrz : okV (r'.getD z) = true := by
            cases r' with
            | none => exact hz
            | some v => exact okV_find hr hes
          refine ⟨_, hk, KOut.plain (v := .cv _) ?_, ?_⟩
          · show okV _ = true
            split
            · simp [okV, okVL, hrz]
            · exact hrz
          · simp [exec, ev, hv, KV.pv, lk, hl, KOb.ob, KV.cl_pv h1, hr, chk, h3, KOut.out]
      · cases hk
    · exact gO_ok h hx hk
  | mkS k z l c =>
    simp only [execK] at hk
    split at hk
    · rename_i lv cv hl hc
      split at hk
      · rename_i hz
        obtain ⟨n, hn, hk⟩ := bindO_some hk
        unfold mkSO at hn
        split at hn
        · rename_i a b h1 h2
          obtain ⟨h3, h4⟩ := chkO_some hn
          cases h4
          refine ⟨_, hk, KOut.one (o := .arr k 0 (replL _ z)) trivial (okVL_replicate hz.2 _), ?_⟩
          simp only [Bool.and_eq_true, decide_eq_true_eq] at h3
          simp [exec, ev, KV.cl_pv hl, KV.cl_pv hc, h1, h2, chk, h3.1, h3.2, hz.1, KOut.out, KV.pv, KOb.ob, replL]
        · cases hn
      · cases hk
    · cases hk
  | slice k x lo hi mx =>
    simp only [execK] at hk
    split at hk
    · rename_i nm k' o n hv
      split at hk
      · rename_i hc
        obtain ⟨hkk, hmx, hall⟩ := hc
        obtain ⟨m, hm, hk⟩ := bindO_some hk
        obtain ⟨hh, hhi, hk⟩ := bindO_some hk
        have hev : ∀ (y : Option RX), (∀ z ∈ y.toList, z ∈ lo.toList ++ hi.toList ++ mx.toList) → (y.map fun z => ((z.kv ks.tmps).cl).getD .undef) = evO ks.st.tmps y := by
          intro y hy
          cases y with
          | none => rfl
          | some z =>
            have := List.all_eq_true.1 hall z (hy z (by simp))
            obtain ⟨v, hv⟩ := Option.isSome_iff_exists.1 this
            simp [evO, hv, ev, KV.cl_pv hv]
        rw [hev mx (fun z hz => by simp only [List.mem_append]; exact .inr hz)] at hm
        rw [hev hi (fun z hz => by simp only [List.mem_append]; exact .inl (.inr hz))] at hhi
        unfold boundO at hm hhi
        subst hkk
        have hmx' : ((mx.map (RX.ev ks.st.tmps)).isNone || (hi.map (RX.ev ks.st.tmps)).isSome) = true := by
          rcases hmx with e | e
          · cases mx with
            | none => rfl
            | some _ => cases e
          · cases hi with
            | none => cases e
            | some _ => simp
        have hevO : ∀ y : Option RX, evO ks.st.tmps y = y.map (RX.ev ks.st.tmps) := fun y => by cases y <;> rfl
        rw [hevO] at hm hhi
        cases lo with
        | none =>
          refine ⟨_, hk, KOut.plain (v := .arr nm k o hh) trivial, ?_⟩
          have hb0 : bound (none : Option PV) 0 hh = some 0 := rfl
          simp only [exec, ev, hv, KV.pv, sliceOf, hevO, hm, hhi, Option.map_none, hb0, chk, beq_self_eq_true, Bool.true_and, hmx', if_true, KOut.out]
          simp
        | some lo' =>
          obtain ⟨l, hl, hk⟩ := bindO_some hk
          have hlo := hev (some lo') (by simp)
          simp only [Option.map_some] at hlo
          rw [hlo] at hl
          unfold boundO at hl
          rw [hevO] at hl
          rcases iteB_some hk with ⟨h1, hk⟩ | ⟨h1, hk⟩
          · unfold andB at h1
            simp only [Bool.and_eq_true, eqN_iff, ltN_iff] at h1
            refine ⟨_, hk, KOut.plain (v := .cv (.sl k [] false)) rfl, ?_⟩
            have h2 : hh = l ∧ 0 < l := h1
            simp only [exec, ev, hv, KV.pv, sliceOf, hevO, hm, hhi, hl, chk, beq_self_eq_true, Bool.true_and, hmx', if_true, KOut.out, if_pos h2]
            rfl
          · unfold andB at h1
            simp only [Bool.and_eq_false_iff] at h1
            have h2 : ¬ (hh = l ∧ 0 < l) := by
              rintro ⟨a, b⟩
              rcases h1 with h1 | h1
              · rw [show eqN hh l = true from eqN_iff.2 a] at h1; cases h1
              · rw [show ltN 0 l = true from ltN_iff.2 b] at h1; cases h1
            refine ⟨_, hk, KOut.plain (v := .arr nm k (addN o l) (subN hh l)) trivial, ?_⟩
            simp only [exec, ev, hv, KV.pv, sliceOf, hevO, hm, hhi, hl, chk, beq_self_eq_true, Bool.true_and, hmx', if_true, KOut.out, if_neg h2, addN, subN]
            rfl
      · cases hk
    · exact gO_ok h hx hk
  | fieldAddr off x =>
    simp only [execK] at hk
    split at hk
    · rename_i hv; exact ⟨_, hk, KOut.plain (by trivial), by simp [exec, ev, hv, KV.pv, KOut.out]⟩
    · rename_i hv; exact ⟨_, hk, KOut.plain (by trivial), by simp [exec, ev, hv, KV.pv, KOut.out]⟩
    · exact gO_ok h hx hk
  | field off n ag x =>
    have ha := hkv (x := x) (by simp [ROp.xs])
    simp only [execK] at hk
    split at hk
    · rename_i cs hv
      rw [hv] at ha
      have hcs : okKL cs := ha
      split at hk
      · rename_i hag
        split at hk
        · rename_i hle
          refine ⟨_, hk, KOut.plain (v := .agg ((cs.drop off).take n)) (okKL_take (okKL_drop hcs _) _), ?_⟩
          simp [exec, ev, hv, KV.pv, sel, hag, chk, pvL_length, hle, KOut.out, pvL_take, pvL_drop]
        · cases hk
      · rename_i hag
        split at hk
        · rename_i c hc
          refine ⟨_, hk, KOut.plain (okKL_mem.1 hcs c (List.mem_of_getElem? hc)), ?_⟩
          simp [exec, ev, hv, KV.pv, sel, hag, pvL_get?, hc, KOut.out]
        · cases hk
    · exact gO_ok h hx hk
  | idxAddr k x i =>
    simp only [execK] at hk
    split at hk
    · rename_i nm k' o n hv
      split at hk
      · rename_i iv hi
        split at hk
        · rename_i hkk
          obtain ⟨j, hj, hk⟩ := bindO_some hk
          obtain ⟨h1, hk⟩ := chkO_some hk
          rw [ltN_iff] at h1
          unfold natO at hj
          refine ⟨_, hk, KOut.plain (v := .aref nm k (addN o j) 0) trivial, ?_⟩
          simp [exec, ev, hv, KV.pv, KV.cl_pv hi, hj, chk, hkk, h1, KOut.out, addN]
        · cases hk
      · cases hk
    · exact gO_ok h hx hk
  | extract j x =>
    have ha := hkv (x := x) (by simp [ROp.xs])
    simp only [execK] at hk
    split at hk
    · rename_i xs hv
      rw [hv] at ha
      have hxs : okKL xs := ha
      split at hk
      · rename_i v hj
        refine ⟨_, hk, KOut.plain (okKL_mem.1 hxs v (List.mem_of_getElem? hj)), ?_⟩
        simp [exec, ev, hv, KV.pv, pvL_get?, hj, KOut.out]
      · cases hk
    · exact gO_ok h hx hk
  | len c x =>
    simp only [execK] at hk
    split at hk
    · rename_i nm k o n hv
      split at hk
      · exact ⟨_, hk, KOut.plain (v := .cv (nI n)) rfl, by simp [exec, ev, hv, KV.pv, lenPV, KOut.out, nI]⟩
      · cases hk
    · rename_i nm hv
      split at hk
      · rename_i es hl
        exact ⟨_, hk, KOut.plain (v := .cv (nI (halfN (lenL es)))) rfl, by simp [exec, ev, hv, KV.pv, lenPV, lk, hl, KOb.ob, KOut.out, nI, halfN, lenL]⟩
      · cases hk
    · exact gO_ok h hx hk
  | append k ty s x =>
    have ha := hkv (x := s) (by simp [ROp.xs])
    have hb := hkv (x := x) (by simp [ROp.xs])
    simp only [execK] at hk
    obtain ⟨ys, hk, hyo, hys⟩ := elemsK_ok h hb hk
    split at hk
    · rename_i nm k' o n hv
      split at hk
      · rename_i k'' kt xs hl
        split at hk
        · rename_i hkk
          obtain ⟨rfl, rfl, rfl⟩ := hkk
          obtain ⟨h1, hk⟩ := chkO_some hk
          unfold andB at h1
          simp only [Bool.and_eq_true, leN_iff, lenL, addN] at h1
          have hxs : okVL xs = true := klook_ok h.ob hl
          refine ⟨_, hk, ⟨trivial, by simp, ?_, by simp⟩, ?_⟩
          · intro m o' e; cases e; exact okVL_append (okVL_take hxs n) hyo
          · simp [exec, ev, hys, hv, KV.pv, lk, hl, KOb.ob, chk, h1.1, h1.2, KOut.out, addN, lenL, catL, takeL]
        · cases hk
      · cases hk
    · rename_i hv
      obtain ⟨h1, hk⟩ := chkO_some hk
      simp only [leN_iff, lenL] at h1
      exact ⟨_, hk, KOut.one (o := .arr k ty ys) trivial hyo, by simp [exec, ev, hys, hv, KV.pv, chk, h1, KOut.out, KOb.ob, lenL]⟩
    · rename_i v hv
      obtain ⟨zs, hz, hk2⟩ := bindO_some hk
      rw [hv] at ha
      have hvo : okV v = true := ha
      unfold appO at hz
      split at hz
      · obtain ⟨h1, h2⟩ := chkO_some hz
        cases h2
        exact ⟨_, hk2, KOut.one (o := .arr k ty ys) trivial hyo, by simp at h1; simp [exec, ev, hys, hv, KV.pv, chk, h1, KOut.out, KOb.ob, lenL]⟩
      · rename_i k' xs
        split at hz
        · cases hz
        · rename_i y ys'
          obtain ⟨h1, h2⟩ := chkO_some hz
          cases h2
          simp only [Bool.and_eq_true, beq_iff_eq, decide_eq_true_eq] at h1
          obtain ⟨rfl, h1⟩ := h1
          refine ⟨_, hk2, KOut.one (o := .arr k ty (xs ++ y :: ys')) trivial (okVL_append (by simpa [okV] using hvo) hyo), ?_⟩
          simp [exec, ev, hys, hv, KV.pv, chk, h1, KOut.out, KOb.ob, lenL]
      · cases hz
    · cases hk
  | copy k x s =>
    have ha := hkv (x := x) (by simp [ROp.xs])
    have hb := hkv (x := s) (by simp [ROp.xs])
    simp only [execK] at hk
    obtain ⟨ys, hk, hyo, hys⟩ := elemsK_ok h hb hk
    split at hk
    · rename_i nm k' o n hv
      split at hk
      · rename_i k'' kt xs hl
        split at hk
        · rename_i hkk
          obtain ⟨rfl, rfl⟩ := hkk
          obtain ⟨h1, hk⟩ := chkO_some hk
          simp only [leN_iff, lenL, addN] at h1
          have hxs : okVL xs = true := klook_ok h.ob hl
          refine ⟨_, hk, KOut.turn (o := .arr k kt _) rfl (okVL_append (okVL_append (okVL_take hxs o) (okVL_take hyo n)) (okVL_drop hxs _)), ?_⟩
          simp [exec, ev, hys, hv, KV.pv, lk, hl, KOb.ob, chk, h1, KOut.out, addN, lenL, catL, takeL, dropL, nI, minN]
          omega
        · cases hk
      · cases hk
    · rename_i hv
      exact ⟨_, hk, KOut.plain (v := .cv (nI 0)) rfl, by simp [exec, ev, hys, hv, KV.pv, KOut.out, nI]⟩
    · cases hk
  | iter x =>
    simp only [execK] at hk
    split at hk
    · rename_i v hv
      obtain ⟨s, hs, hk⟩ := bindO_some hk
      unfold strO at hs
      split at hs
      · cases hs
        exact ⟨_, hk, KOut.one (o := .siter s 0) trivial trivial, by simp [exec, ev, KV.cl_pv hv, KOut.out, KV.pv, KOb.ob]⟩
      · cases hs
    · cases hk
  | next x =>
    simp only [execK] at hk
    split at hk
    · rename_i nm hv
      split at hk
      · rename_i s pos hl
        rcases iteB_some hk with ⟨h1, hk⟩ | ⟨h1, hk⟩
        · rw [ltN_iff] at h1
          unfold lenS at h1
          refine ⟨_, hk, KOut.turn (o := .siter s (addN pos (runeN s pos))) (v := .tup [.lit true, .cv (nI pos), .cv (runeP s pos)]) ⟨trivial, rfl, rfl, trivial⟩ trivial, ?_⟩
          simp [exec, ev, hv, KV.pv, lk, hl, KOb.ob, h1, KOut.out, pvL, nI, runeP, runeN, addN]
        · have h2 : ¬ pos < s.length := by
            intro h3; rw [show ltN pos (lenS s) = true from ltN_iff.2 h3] at h1; cases h1
          refine ⟨_, hk, KOut.plain (v := .tup [.lit false]) ⟨trivial, trivial⟩, ?_⟩
          simp [exec, ev, hv, KV.pv, lk, hl, KOb.ob, h2, KOut.out, pvL]
      · cases hk
    · cases hk
  | tassert t z ok x =>
    have ha := hkv (x := x) (by simp [ROp.xs])
    simp only [execK] at hk
    split at hk
    · rename_i u y hv
      rw [hv] at ha
      have hy : y.ok := ha
      split at hk
      · rename_i hut
        refine ⟨_, hk, KOut.plain ?_, ?_⟩
        · split
          · exact ⟨hy, trivial, trivial⟩
          · exact hy
        · simp only [exec, ev, hv, KV.pv, hut, if_true, KOut.out]
          cases ok <;> simp [KV.pv, pvL]
      · rename_i hut
        split at hk
        · rename_i hz
          refine ⟨_, hk, KOut.plain (v := .tup [.cv z, .lit false]) ⟨hz.2, trivial, trivial⟩, ?_⟩
          simp [exec, ev, hv, KV.pv, hut, chk, hz.1, KOut.out, pvL]
        · cases hk
    · exact gO_ok h hx hk
  | call f args => cases hk
  | bad => cases hk
  | conv k x => exact gO_ok h hx hk
  | toBytes x => exact gO_ok h hx hk
  | ofBytes x => exact gO_ok h hx hk
  | ofRune x => exact gO_ok h hx hk
  | strId x => exact gO_ok h hx hk
  | strSlice x lo hi => exact gO_ok h hx hk
  | idxAddrA k l x i => exact gO_ok h hx hk
  | strIdx x i => exact gO_ok h hx hk
  | minmax mx xs => exact gO_ok h hx hk
end Go.Ab


namespace Go.Ab
theorem KOb.ren_ob (f : Nm → Nm) {o : KOb} (h : o.ok) : (o.ren f).ob = o.ob.ren f := by
  cases o with
  | cells ty cs => simp [KOb.ren, KOb.ob, Ob.ren, renL_pv f h]
  | whole ty v =>
    have := (okVL_names (okV_cells h)).1
    simp only [KOb.ren, KOb.ob, Ob.ren, cellsP]
    rw [renL_none this]
  | _ => rfl
theorem KOb.ren_ok (f : Nm → Nm) {o : KOb} (h : o.ok) : (o.ren f).ok := by
  cases o with
  | cells ty cs => exact krenL_ok f h
  | _ => exact h
theorem renL_append (f : Nm → Nm) (xs ys : List PV) : renL f (xs ++ ys) = renL f xs ++ renL f ys := by
  induction xs with
  | nil => rfl
  | cons x xs ih => simp [renL, ih]
def Seg (vs : List PV) (i : Nat) (l : List PV) : Prop := ∀ m v, l[m]? = some v → nth vs (i + m) = v
theorem Seg.left {vs : List PV} {i : Nat} {a b : List PV} (h : Seg vs i (a ++ b)) : Seg vs i a := fun m v hm => h m v (by
  rw [List.getElem?_append_left (List.getElem?_eq_some_iff.1 hm).1]; exact hm)
theorem Seg.right {vs : List PV} {i : Nat} {a b : List PV} (h : Seg vs i (a ++ b)) : Seg vs (i + a.length) b := fun m v hm => by
  have := h (a.length + m) v (by rw [List.getElem?_append_right (by omega)]; simpa using hm)
  rw [← this, Nat.add_assoc]
theorem Seg.head {vs : List PV} {i : Nat} {x : PV} {l : List PV} (h : Seg vs i (x :: l)) : nth vs i = x := h 0 x rfl
theorem Seg.all (vs : List PV) : Seg vs 0 vs := fun m v hm => by
  unfold nth; rw [List.getD_eq_getElem?_getD, Nat.zero_add, hm]; rfl
theorem leaf_ok {x : KV} (hx : x.ok) (hf : x.cl.isSome = true) {vs : List PV} {i : Nat} (h : Seg vs i [x.cl.getD .undef]) : (KV.cv (nth vs i)).pv = x.pv ∧ (KV.cv (nth vs i)).ok := by
  obtain ⟨v, hv⟩ := Option.isSome_iff_exists.1 hf
  have := h.head
  rw [hv] at this
  simp only [Option.getD_some] at this
  rw [this]
  exact ⟨(KV.cl_pv hv).symm, KV.cl_ok hx hv⟩
theorem un_fill {p : KV} {vs : List PV} {i : Nat} (h : isUnK p = false) : isUnK (fill p vs i).1 = false := by
  cases p <;> simp [isUnK] at h <;> simp only [fill] <;> first | rfl | (split <;> rfl)
mutual
theorem fill_ok : ∀ (p x : KV), fitV p x = true → x.ok → ∀ (vs : List PV) (i : Nat), Seg vs i (leaves p x) → (fill p vs i).1.pv = x.pv ∧ (fill p vs i).1.ok ∧ (fill p vs i).2 = i + (leaves p x).length
  | .un, x, h, _, vs, i, _ => by cases x <;> simp [fitV] at h; exact ⟨rfl, trivial, rfl⟩
  | .sk, x, h, _, vs, i, _ => by cases x <;> simp [fitV] at h; exact ⟨rfl, trivial, rfl⟩
  | .yld d, x, h, _, vs, i, hs => by
    cases x with
    | yld d' =>
      have h1 : nth vs i = nI d' := hs.head
      simp [fill, KV.pv, h1, nI, natP, KV.ok, leaves]
    | _ => simp [fitV] at h
  | .ref nm o, x, h, _, vs, i, _ => by cases x <;> simp [fitV] at h; obtain ⟨rfl, rfl⟩ := h; exact ⟨rfl, trivial, rfl⟩
  | .aref _ _ _ _, x, h, _, vs, i, _ => by simp [fitV] at h
  | .mp nm, x, h, _, vs, i, _ => by cases x <;> simp [fitV] at h; subst h; exact ⟨rfl, trivial, rfl⟩
  | .it nm, x, h, _, vs, i, _ => by cases x <;> simp [fitV] at h; subst h; exact ⟨rfl, trivial, rfl⟩
  | .wit nm, x, h, _, vs, i, _ => by cases x <;> simp [fitV] at h; subst h; exact ⟨rfl, trivial, rfl⟩
  | .arr nm k o n, x, h, _, vs, i, hs => by
    cases x with
    | arr nm' k' o' n' =>
      simp only [fitV, Bool.and_eq_true, beq_iff_eq] at h
      obtain ⟨⟨rfl, rfl⟩, ho⟩ := h
      have := Nat.eq_of_beq_eq_true ho
      subst this
      have h1 : nth vs i = nI n' := hs.head
      simp [fill, KV.pv, h1, nI, natP, KV.ok, leaves]
    | _ => simp [fitV] at h
  | .lit b, x, h, hx, vs, i, hs => by
    have := leaf_ok hx (by simpa [fitV] using h) (by simpa [leaves] using hs)
    exact ⟨this.1, this.2, by simp [fill, leaves]⟩
  | .nils, x, h, hx, vs, i, hs => by
    have := leaf_ok hx (by simpa [fitV] using h) (by simpa [leaves] using hs)
    exact ⟨this.1, this.2, by simp [fill, leaves]⟩
  | .cv v, x, h, hx, vs, i, hs => by
    have := leaf_ok hx (by simpa [fitV] using h) (by simpa [leaves] using hs)
    exact ⟨this.1, this.2, by simp [fill, leaves]⟩
  | .fn f cap, x, h, hx, vs, i, hs => by
    cases x with
    | fn f' cap' =>
      simp only [fitV, Bool.and_eq_true, beq_iff_eq] at h
      obtain ⟨rfl, h⟩ := h
      obtain ⟨a, b, c⟩ := fillL_ok cap cap' h hx vs i (by simpa [leaves] using hs)
      exact ⟨by simp [fill, KV.pv, a], b, by simp [fill, leaves, c]⟩
    | _ => simp [fitV] at h
  | .tup xs, x, h, hx, vs, i, hs => by
    cases x with
    | tup ys =>
      simp only [fitV] at h
      obtain ⟨a, b, c⟩ := fillL_ok xs ys h hx vs i (by simpa [leaves] using hs)
      exact ⟨by simp [fill, KV.pv, a], b, by simp [fill, leaves, c]⟩
    | _ => simp [fitV] at h
  | .agg cs, x, h, hx, vs, i, hs => by
    simp only [fitV] at h
    simp only [leaves] at hs
    by_cases hc : (clL cs).isSome = true
    · rw [if_pos hc] at h hs
      have := leaf_ok hx h hs
      simp only [fill, hc, if_true]
      exact ⟨this.1, this.2, by simp [leaves, hc]⟩
    · rw [if_neg hc] at h hs
      cases x with
      | agg cs' =>
        obtain ⟨a, b, c⟩ := fillL_ok cs cs' h hx vs i hs
        simp only [fill, if_neg hc]
        exact ⟨by simp [KV.pv, a], b, by simp [leaves, hc, c]⟩
      | _ => simp at h
  | .iface t y, x, h, hx, vs, i, hs => by
    simp only [fitV] at h
    simp only [leaves] at hs
    by_cases hc : y.cl.isSome = true
    · rw [if_pos hc] at h hs
      have := leaf_ok hx h hs
      simp only [fill, hc, if_true]
      exact ⟨this.1, this.2, by simp [leaves, hc]⟩
    · rw [if_neg hc] at h hs
      cases x with
      | iface t' y' =>
        simp only [Bool.and_eq_true, beq_iff_eq] at h
        obtain ⟨rfl, h⟩ := h
        obtain ⟨a, b, c⟩ := fill_ok y y' h hx vs i hs
        simp only [fill, if_neg hc]
        exact ⟨by simp [KV.pv, a], b, by simp [leaves, hc, c]⟩
      | _ => simp at h
theorem fillL_ok : ∀ (ps xs : List KV), fitL ps xs = true → okKL xs → ∀ (vs : List PV) (i : Nat), Seg vs i (leavesL ps xs) → pvL (fillL ps vs i).1 = pvL xs ∧ okKL (fillL ps vs i).1 ∧ (fillL ps vs i).2 = i + (leavesL ps xs).length
  | [], xs, h, _, vs, i, _ => by cases xs <;> simp [fitL] at h; exact ⟨rfl, trivial, rfl⟩
  | p :: ps, xs, h, hx, vs, i, hs => by
    cases xs with
    | nil => simp [fitL] at h
    | cons x xs =>
      simp only [fitL, Bool.and_eq_true] at h
      simp only [leavesL] at hs
      obtain ⟨a, b, c⟩ := fill_ok p x h.1 hx.1 vs i hs.left
      obtain ⟨a', b', c'⟩ := fillL_ok ps xs h.2 hx.2 vs (fill p vs i).2 (by rw [c]; exact hs.right)
      refine ⟨by simp [fillL, pvL, a, a'], ⟨b, b'⟩, ?_⟩
      simp only [fillL, leavesL, List.length_append]
      rw [c', c]
      omega
end
theorem fillOb_ok (p x : KOb) (h : fitOb p x = true) (hx : x.ok) (vs : List PV) (i : Nat) (hs : Seg vs i (leavesOb p x)) : (fillOb p vs i).1.ob = x.ob ∧ (fillOb p vs i).1.ok ∧ (fillOb p vs i).2 = i + (leavesOb p x).length := by
  cases p with
  | cells ty cs =>
    cases x with
    | cells ty' cs' =>
      simp only [fitOb, Bool.and_eq_true, beq_iff_eq] at h
      obtain ⟨rfl, h⟩ := h
      obtain ⟨a, b, c⟩ := fillL_ok cs cs' h hx vs i (by simpa [leavesOb] using hs)
      exact ⟨by simp [fillOb, KOb.ob, a], b, by simp [fillOb, leavesOb, c]⟩
    | _ => simp [fitOb] at h
  | whole ty w =>
    cases x with
    | whole ty' v =>
      simp only [fitOb, beq_iff_eq] at h
      subst h
      have : nth vs i = v := hs.head
      exact ⟨by simp [fillOb, KOb.ob, this], by simp only [fillOb, this]; exact hx, by simp [fillOb, leavesOb]⟩
    | _ => simp [fitOb] at h
  | arr k kt ws =>
    cases x with
    | arr k' kt' xs =>
      simp only [fitOb, Bool.and_eq_true, beq_iff_eq] at h
      obtain ⟨rfl, rfl⟩ := h
      have : nth vs i = .sl k xs false := hs.head
      exact ⟨by simp [fillOb, KOb.ob, this, itemsP], by simp only [fillOb, this, itemsP]; exact hx, by simp [fillOb, leavesOb]⟩
    | _ => simp [fitOb] at h
  | map ws =>
    cases x with
    | map es =>
      have : nth vs i = .imap es := hs.head
      exact ⟨by simp [fillOb, KOb.ob, this, entsP], by simp only [fillOb, this, entsP]; exact hx, by simp [fillOb, leavesOb]⟩
    | _ => simp [fitOb] at h
  | siter s0 p0 =>
    cases x with
    | siter s pos =>
      have h1 : nth vs i = .str s := hs.head
      have h2 : nth vs (i + 1) = nI pos := hs 1 _ rfl
      exact ⟨by simp [fillOb, KOb.ob, h1, h2, strP, natP, nI], trivial, by simp [fillOb, leavesOb]⟩
    | _ => simp [fitOb] at h
theorem fillObL_ok : ∀ (ps xs : List KOb), fitObL ps xs = true → (∀ o ∈ xs, o.ok) → ∀ (vs : List PV) (i : Nat), Seg vs i (leavesObL ps xs) → (fillObL ps vs i).1.map KOb.ob = xs.map KOb.ob ∧ (∀ o ∈ (fillObL ps vs i).1, o.ok) ∧ (fillObL ps vs i).2 = i + (leavesObL ps xs).length
  | [], [], _, _, vs, i, _ => ⟨rfl, by simp [fillObL], rfl⟩
  | [], _ :: _, h, _, _, _, _ => by simp [fitObL] at h
  | _ :: _, [], h, _, _, _, _ => by simp [fitObL] at h
  | p :: ps, x :: xs, h, hx, vs, i, hs => by
    simp only [fitObL, Bool.and_eq_true] at h
    simp only [leavesObL] at hs
    obtain ⟨a, b, c⟩ := fillOb_ok p x h.1 (hx x (by simp)) vs i hs.left
    obtain ⟨a', b', c'⟩ := fillObL_ok ps xs h.2 (fun o ho => hx o (by simp [ho])) vs (fillOb p vs i).2 (by rw [c]; exact hs.right)
    refine ⟨by simp [fillObL, a, a'], ?_, ?_⟩
    · intro o ho
      simp only [fillObL, List.mem_cons] at ho
      rcases ho with rfl | ho
      · exact b
      · exact b' o ho
    · simp only [fillObL, leavesObL, List.length_append]
      rw [c', c]
      omega
mutual
theorem fitP_fill : ∀ (p : KV) (x : PV) {l : List PV}, fitP p x = some l → ∀ (vs : List PV) (i : Nat), Seg vs i l → (fill p vs i).1.pv = x ∧ (fill p vs i).1.ok ∧ (fill p vs i).2 = i + l.length
  | .un, x, l, h, vs, i, _ => by cases x <;> simp [fitP] at h; subst h; exact ⟨rfl, trivial, rfl⟩
  | .sk, x, l, h, vs, i, _ => by
    simp only [fitP] at h
    split at h
    · cases h; exact ⟨rfl, trivial, rfl⟩
    · cases h
  | .yld d, x, l, h, vs, i, hs => by
    cases x with
    | yld d' =>
      simp only [fitP] at h
      cases h
      have h1 : nth vs i = nI d' := hs.head
      simp [fill, KV.pv, h1, nI, natP, KV.ok]
    | _ => simp [fitP] at h
  | .aref _ _ _ _, x, l, h, vs, i, _ => by simp [fitP] at h
  | .wit nm, x, l, h, vs, i, _ => by
    simp only [fitP] at h
    split at h
    · obtain ⟨h1, h2⟩ := chkO_some h
      simp at h1 h2; subst h1; subst h2; exact ⟨rfl, trivial, rfl⟩
    · cases h
  | .ref nm o, x, l, h, vs, i, _ => by
    cases x <;> simp [fitP] at h
    obtain ⟨h1, h2⟩ := chkO_some h
    simp at h1 h2; obtain ⟨rfl, rfl⟩ := h1; subst h2; exact ⟨rfl, trivial, rfl⟩
  | .mp nm, x, l, h, vs, i, _ => by
    cases x <;> simp [fitP] at h
    obtain ⟨h1, h2⟩ := chkO_some h
    simp at h1 h2; subst h1; subst h2; exact ⟨rfl, trivial, rfl⟩
  | .it nm, x, l, h, vs, i, _ => by
    cases x <;> simp [fitP] at h
    obtain ⟨h1, h2⟩ := chkO_some h
    simp at h1 h2; subst h1; subst h2; exact ⟨rfl, trivial, rfl⟩
  | .arr nm k o n, x, l, h, vs, i, hs => by
    cases x with
    | arr nm' k' o' n' =>
      simp only [fitP] at h
      obtain ⟨h1, h2⟩ := chkO_some h
      cases h2
      simp only [Bool.and_eq_true, beq_iff_eq] at h1
      obtain ⟨⟨rfl, rfl⟩, ho⟩ := h1
      have := Nat.eq_of_beq_eq_true ho
      subst this
      have h1 : nth vs i = nI n' := hs.head
      simp [fill, KV.pv, h1, nI, natP, KV.ok]
    | _ => simp [fitP] at h
  | .lit b, x, l, h, vs, i, hs => by
    simp only [fitP] at h
    obtain ⟨h1, h2⟩ := chkO_some h
    cases h2
    have := hs.head
    exact ⟨this, by simp only [fill, KV.ok, this]; exact h1, rfl⟩
  | .nils, x, l, h, vs, i, hs => by
    simp only [fitP] at h
    obtain ⟨h1, h2⟩ := chkO_some h
    cases h2
    have := hs.head
    exact ⟨this, by simp only [fill, KV.ok, this]; exact h1, rfl⟩
  | .cv v, x, l, h, vs, i, hs => by
    simp only [fitP] at h
    obtain ⟨h1, h2⟩ := chkO_some h
    cases h2
    have := hs.head
    exact ⟨this, by simp only [fill, KV.ok, this]; exact h1, rfl⟩
  | .fn f cap, x, l, h, vs, i, hs => by
    cases x with
    | fn f' cap' =>
      simp only [fitP] at h
      split at h
      · rename_i hf
        subst hf
        obtain ⟨a, b, c⟩ := fitPL_fill cap cap' h vs i hs
        exact ⟨by simp [fill, KV.pv, a], b, c⟩
      · cases h
    | _ => simp [fitP] at h
  | .tup xs, x, l, h, vs, i, hs => by
    cases x with
    | tup ys =>
      simp only [fitP] at h
      obtain ⟨a, b, c⟩ := fitPL_fill xs ys h vs i hs
      exact ⟨by simp [fill, KV.pv, a], b, c⟩
    | _ => simp [fitP] at h
  | .agg cs, x, l, h, vs, i, hs => by
    simp only [fitP] at h
    by_cases hc : (clL cs).isSome = true
    · rw [if_pos hc] at h
      obtain ⟨h1, h2⟩ := chkO_some h
      cases h2
      have := hs.head
      simp only [fill, hc, if_true]
      exact ⟨this, by simp only [KV.ok, this]; exact h1, rfl⟩
    · rw [if_neg hc] at h
      cases x with
      | agg cs' =>
        obtain ⟨a, b, c⟩ := fitPL_fill cs cs' h vs i hs
        simp only [fill, if_neg hc]
        exact ⟨by simp [KV.pv, a], b, c⟩
      | _ => simp at h
  | .iface t y, x, l, h, vs, i, hs => by
    simp only [fitP] at h
    by_cases hc : y.cl.isSome = true
    · rw [if_pos hc] at h
      obtain ⟨h1, h2⟩ := chkO_some h
      cases h2
      have := hs.head
      simp only [fill, hc, if_true]
      exact ⟨this, by simp only [KV.ok, this]; exact h1, rfl⟩
    · rw [if_neg hc] at h
      cases x with
      | iface t' y' =>
        simp only at h
        split at h
        · rename_i ht
          subst ht
          obtain ⟨a, b, c⟩ := fitP_fill y y' h vs i hs
          simp only [fill, if_neg hc]
          exact ⟨by simp [KV.pv, a], b, c⟩
        · cases h
      | _ => simp at h
theorem fitPL_fill : ∀ (ps : List KV) (xs : List PV) {l : List PV}, fitPL ps xs = some l → ∀ (vs : List PV) (i : Nat), Seg vs i l → pvL (fillL ps vs i).1 = xs ∧ okKL (fillL ps vs i).1 ∧ (fillL ps vs i).2 = i + l.length
  | [], xs, l, h, vs, i, _ => by cases xs <;> simp [fitPL] at h; subst h; exact ⟨rfl, trivial, rfl⟩
  | p :: ps, xs, l, h, vs, i, hs => by
    cases xs with
    | nil => simp [fitPL] at h
    | cons y ys =>
      simp only [fitPL] at h
      split at h
      · rename_i a b ha hb
        cases h
        obtain ⟨a1, a2, a3⟩ := fitP_fill p y ha vs i hs.left
        obtain ⟨b1, b2, b3⟩ := fitPL_fill ps ys hb vs (fill p vs i).2 (by rw [a3]; exact hs.right)
        refine ⟨by simp [fillL, pvL, a1, b1], ⟨a2, b2⟩, ?_⟩
        simp only [fillL, List.length_append]
        rw [b3, a3]; omega
      · cases h
end
theorem fitPOb_fill (p : KOb) (x : Ob) {l : List PV} (h : fitPOb p x = some l) (vs : List PV) (i : Nat) (hs : Seg vs i l) : (fillOb p vs i).1.ob = x ∧ (fillOb p vs i).1.ok ∧ (fillOb p vs i).2 = i + l.length := by
  cases p with
  | cells ty cs =>
    cases x with
    | cells ty' cs' =>
      simp only [fitPOb] at h
      split at h
      case isFalse => cases h
      rename_i hty
      subst hty
      obtain ⟨a, b, c⟩ := fitPL_fill cs cs' h vs i hs
      exact ⟨by simp [fillOb, KOb.ob, a], b, c⟩
    | _ => simp [fitPOb] at h
  | whole ty w =>
    cases x with
    | cells ty' cs' =>
      simp only [fitPOb] at h
      obtain ⟨h1, h2⟩ := chkO_some h
      cases h2
      simp only [Bool.and_eq_true, beq_iff_eq] at h1
      obtain ⟨rfl, h1⟩ := h1
      have : nth vs i = .agg cs' := hs.head
      exact ⟨by simp [fillOb, KOb.ob, this, cellsP, PV.cells], by simp only [fillOb, this]; simpa [KOb.ok, okV] using h1, rfl⟩
    | _ => simp [fitPOb] at h
  | arr k kt ws =>
    cases x with
    | arr k' kt' xs =>
      simp only [fitPOb] at h
      obtain ⟨h1, h2⟩ := chkO_some h
      cases h2
      simp only [Bool.and_eq_true, beq_iff_eq] at h1
      obtain ⟨⟨rfl, rfl⟩, h1⟩ := h1
      have : nth vs i = .sl k xs false := hs.head
      exact ⟨by simp [fillOb, KOb.ob, this, itemsP], by simp only [fillOb, this, itemsP]; exact h1, rfl⟩
    | _ => simp [fitPOb] at h
  | map ws =>
    cases x with
    | map es =>
      simp only [fitPOb] at h
      obtain ⟨h1, h2⟩ := chkO_some h
      cases h2
      have : nth vs i = .imap es := hs.head
      exact ⟨by simp [fillOb, KOb.ob, this, entsP], by simp only [fillOb, this, entsP]; exact h1, rfl⟩
    | _ => simp [fitPOb] at h
  | siter s0 p0 =>
    cases x with
    | siter s pos =>
      simp only [fitPOb] at h
      cases h
      have h1 : nth vs i = .str s := hs.head
      have h2 : nth vs (i + 1) = nI pos := hs 1 _ rfl
      exact ⟨by simp [fillOb, KOb.ob, h1, h2, strP, natP, nI], trivial, rfl⟩
    | _ => simp [fitPOb] at h
theorem fitPObL_fill : ∀ (ps : List KOb) (xs : List Ob) {l : List PV}, fitPObL ps xs = some l → ∀ (vs : List PV) (i : Nat), Seg vs i l → (fillObL ps vs i).1.map KOb.ob = xs ∧ (∀ o ∈ (fillObL ps vs i).1, o.ok) ∧ (fillObL ps vs i).2 = i + l.length
  | [], xs, l, h, vs, i, _ => by cases xs <;> simp [fitPObL] at h; subst h; exact ⟨rfl, by simp [fillObL], rfl⟩
  | p :: ps, xs, l, h, vs, i, hs => by
    cases xs with
    | nil => simp [fitPObL] at h
    | cons y ys =>
      simp only [fitPObL] at h
      split at h
      · rename_i a b ha hb
        cases h
        obtain ⟨a1, a2, a3⟩ := fitPOb_fill p y ha vs i hs.left
        obtain ⟨b1, b2, b3⟩ := fitPObL_fill ps ys hb vs (fillOb p vs i).2 (by rw [a3]; exact hs.right)
        refine ⟨by simp [fillObL, a1, b1], ?_, ?_⟩
        · intro o ho
          simp only [fillObL, List.mem_cons] at ho
          rcases ho with rfl | ho
          · exact a2
          · exact b2 o ho
        · simp only [fillObL, List.length_append]
          rw [b3, a3]; omega
      · cases h
mutual
theorem ren_ren (f g : Nm → Nm) : ∀ (x : PV), (x.ren f).ren g = x.ren fun m => g (f m)
  | .agg cs => by simp [PV.ren, renL_renL f g cs]
  | .iface t x => by simp [PV.ren, ren_ren f g x]
  | .fn h cap => by simp [PV.ren, renL_renL f g cap]
  | .tup xs => by simp [PV.ren, renL_renL f g xs]
  | .undef | .bool _ | .int _ _ | .str _ | .nilS | .nilP | .nilF | .nilI | .nilM | .sl _ _ _ | .ptr _ _ | .yld _ | .imap _ | .glob _ _ | .ref _ _ | .aref _ _ _ _ | .arr _ _ _ _ | .mp _ | .it _ => by simp [PV.ren]
theorem renL_renL (f g : Nm → Nm) : ∀ (xs : List PV), renL g (renL f xs) = renL (fun m => g (f m)) xs
  | [] => rfl
  | x :: xs => by simp [renL, ren_ren f g x, renL_renL f g xs]
end
mutual
theorem ren_congr {f g : Nm → Nm} : ∀ {x : PV}, (∀ m ∈ x.names, f m = g m) → x.ren f = x.ren g
  | .agg cs, h => by simp only [PV.ren]; rw [renL_congr (xs := cs) h]
  | .iface t x, h => by simp only [PV.ren]; rw [ren_congr (x := x) h]
  | .fn _ cap, h => by simp only [PV.ren]; rw [renL_congr (xs := cap) h]
  | .tup xs, h => by simp only [PV.ren]; rw [renL_congr (xs := xs) h]
  | .ref nm _, h | .aref nm _ _ _, h | .arr nm _ _ _, h | .mp nm, h | .it nm, h => by simp only [PV.ren]; rw [h nm (by simp [PV.names])]
  | .undef, _ | .bool _, _ | .int _ _, _ | .str _, _ | .nilS, _ | .nilP, _ | .nilF, _ | .nilI, _ | .nilM, _ | .sl _ _ _, _ | .ptr _ _, _ | .yld _, _ | .imap _, _ | .glob _ _, _ => by simp [PV.ren]
theorem renL_congr {f g : Nm → Nm} : ∀ {xs : List PV}, (∀ m ∈ namesL xs, f m = g m) → renL f xs = renL g xs
  | [], _ => rfl
  | x :: xs, h => by
    simp only [renL]
    rw [ren_congr (x := x) fun m hm => h m (List.mem_append_left _ hm), renL_congr (xs := xs) fun m hm => h m (List.mem_append_right _ hm)]
end
mutual
theorem cut_names {p : Nm → Bool} : ∀ {x : PV} {m : Nm}, m ∈ (x.sub fun m => if p m then none else some none).names → p m = true
  | .agg cs, m, h => cutL_names (xs := cs) (by simpa [PV.sub, PV.names] using h)
  | .iface t x, m, h => cut_names (x := x) (by simpa [PV.sub, PV.names] using h)
  | .fn _ cap, m, h => cutL_names (xs := cap) (by simpa [PV.sub, PV.names] using h)
  | .tup xs, m, h => cutL_names (xs := xs) (by simpa [PV.sub, PV.names] using h)
  | .ref nm _, m, h | .aref nm _ _ _, m, h | .arr nm _ _ _, m, h | .mp nm, m, h | .it nm, m, h => by
    simp only [PV.sub] at h
    cases hp : p nm with
    | true => simp [hp, PV.names] at h; rw [h]; exact hp
    | false => simp [hp, PV.names] at h
  | .undef, m, h | .bool _, m, h | .int _ _, m, h | .str _, m, h | .nilS, m, h | .nilP, m, h | .nilF, m, h | .nilI, m, h | .nilM, m, h | .sl _ _ _, m, h | .ptr _ _, m, h | .yld _, m, h | .imap _, m, h | .glob _ _, m, h => by simp [PV.sub, PV.names] at h
theorem cutL_names {p : Nm → Bool} : ∀ {xs : List PV} {m : Nm}, m ∈ namesL (subL (fun m => if p m then none else some none) xs) → p m = true
  | [], m, h => by simp [subL, namesL] at h
  | x :: xs, m, h => by
    simp only [subL, namesL] at h
    rcases List.mem_append.1 h with h | h
    · exact cut_names h
    · exact cutL_names h
end
theorem Ob.ren_ren (f g : Nm → Nm) (o : Ob) : (o.ren f).ren g = o.ren fun m => g (f m) := by
  cases o <;> simp [Ob.ren, renL_renL]
theorem Ob.ren_congr {f g : Nm → Nm} {o : Ob} (h : ∀ m ∈ o.names, f m = g m) : o.ren f = o.ren g := by
  cases o with
  | cells ty cs => simp only [Ob.ren]; rw [renL_congr h]
  | _ => rfl
theorem Ob.cut_names {p : Nm → Bool} {o : Ob} {m : Nm} (h : m ∈ (o.sub fun m => if p m then none else some none).names) : p m = true := by
  cases o with
  | cells ty cs => exact cutL_names h
  | _ => simp [Ob.sub, Ob.names] at h
theorem lookup_map2 (g : Nm → Nm) : ∀ (B : List (Nm × Nm)) (m : Nm), (B.map fun p => (p.1, g p.2)).lookup m = (B.lookup m).map g := by
  intro B
  induction B with
  | nil => intro m; rfl
  | cons p B ih =>
    obtain ⟨a, b⟩ := p
    intro m
    simp only [List.map_cons, List.lookup_cons]
    split <;> simp_all
theorem lookup_some {B : List (Nm × Nm)} : ∀ {m : Nm}, (B.map (·.1)).contains m = true → ∃ t, B.lookup m = some t := by
  induction B with
  | nil => intro m h; simp at h
  | cons p B ih =>
    obtain ⟨a, b⟩ := p
    intro m h
    rw [List.lookup_cons]
    split
    · exact ⟨_, rfl⟩
    · rename_i hne
      refine ih ?_
      simp only [List.map_cons, List.contains_cons, hne, Bool.false_or] at h
      exact h
theorem ioEnd_ren {R : List Nm} {sl : Option Nat} {d i0 : Nat} {st : St} {v : PV} {out : Out} (h : ioEnd none 1 0 (canonR R.length) st v = some out) :
    ioEnd sl d i0 R st v = some { v := out.v.ren (ioNm R d i0), new := out.new.map (Ob.ren (ioNm R d i0)), gone := out.gone.map (ioNm R d i0), ups := R.zip (out.ups.map fun p => p.2.ren (ioNm R d i0)), io := true, slot := sl } := by
  have hcl : (canonR R.length).length = R.length := by simp [canonR]
  have hA : ioPairs R st.keep = (ioPairs (canonR R.length) st.keep).map fun p => (p.1, ioNm R d i0 p.2) := by
    apply List.ext_getElem?
    intro i
    simp only [ioPairs, List.getElem?_map, List.getElem?_zipIdx, Nat.zero_add, canonR]
    by_cases hi : i < R.length
    · rw [List.getElem?_eq_getElem hi, List.getElem?_range hi]
      simp [ioNm, List.getD_eq_getElem?_getD, List.getElem?_eq_getElem hi]
    · rw [List.getElem?_eq_none_iff.2 (by omega), List.getElem?_eq_none_iff.2 (by simp; omega)]
      rfl
  have hF : (ioPairs R st.keep).map (·.1) = (ioPairs (canonR R.length) st.keep).map (·.1) := by
    rw [hA, List.map_map]; rfl
  have hN : ioNews (look st.objs) (ioPairs R st.keep) v = ioNews (look st.objs) (ioPairs (canonR R.length) st.keep) v := by
    unfold ioNews
    rw [hF]
    have : ∀ A A' : List (Nm × Nm), A.map (·.1) = A'.map (·.1) → (A.flatMap fun p => ((look st.objs p.1).map Ob.names).getD []) = A'.flatMap fun p => ((look st.objs p.1).map Ob.names).getD [] := by
      intro A A' h
      have e : ∀ A : List (Nm × Nm), (A.flatMap fun p => ((look st.objs p.1).map Ob.names).getD []) = (A.map (·.1)).flatMap fun m => ((look st.objs m).map Ob.names).getD [] := by
        intro A; rw [List.flatMap_map]
      rw [e, e, h]
    rw [this _ _ hF]
  unfold ioEnd at h ⊢
  simp only at h ⊢
  rw [hN]
  generalize ioNews (look st.objs) (ioPairs (canonR R.length) st.keep) v = N at h ⊢
  generalize hA0 : ioPairs (canonR R.length) st.keep = A0 at h hA
  generalize hB0 : (A0 ++ N.zipIdx.map fun p => (p.1, (1, 0 + p.2))) = B0 at h
  have hB : ioPairs R st.keep ++ N.zipIdx.map (fun p => (p.1, (d, i0 + p.2))) = B0.map fun p => (p.1, ioNm R d i0 p.2) := by
    rw [← hB0, List.map_append, hA, List.map_map]
    congr 1
    exact List.map_congr_left fun p _ => by simp [ioNm]
  rw [hB]
  have hBf : (B0.map fun p => (p.1, ioNm R d i0 p.2)).map (·.1) = B0.map (·.1) := by rw [List.map_map]; rfl
  rw [hBf]
  obtain ⟨h1, h2⟩ := chk_inv h
  cases h2
  have hnm : ∀ m, (B0.map (·.1)).contains m = true → ((B0.map fun p => (p.1, ioNm R d i0 p.2)).lookup m).getD m = ioNm R d i0 ((B0.lookup m).getD m) := by
    intro m hm
    obtain ⟨t, ht⟩ := lookup_some hm
    rw [lookup_map2, ht]; rfl
  have hob : ∀ nm, ioOb (look st.objs) (B0.map fun p => (p.1, ioNm R d i0 p.2)) nm = (ioOb (look st.objs) B0 nm).ren (ioNm R d i0) := by
    intro nm
    unfold ioOb
    rw [hBf, Ob.ren_ren]
    exact Ob.ren_congr fun m hm => hnm m (Ob.cut_names hm)
  simp only [chk, h1, if_true, Option.some.injEq, Out.mk.injEq, true_and, and_true]
  refine ⟨?_, ?_, ?_, ?_⟩
  · rw [ren_ren]
    exact ren_congr fun m hm => hnm m (cut_names hm)
  · rw [List.map_map]
    exact List.map_congr_left fun m _ => hob m
  · simp only [ioGone]
    apply List.ext_getElem?
    intro i
    have e : (R.zipIdx.filter fun p => (witNm (st.keep.getD p.2 .undef)).isNone).map (·.1) = (((canonR R.length).zipIdx.filter fun p => (witNm (st.keep.getD p.2 .undef)).isNone).map (·.1)).map (ioNm R d i0) := by
      have hz : R.zipIdx = (canonR R.length).zipIdx.map fun p => (ioNm R d i0 p.1, p.2) := by
        apply List.ext_getElem?
        intro i
        simp only [List.getElem?_map, List.getElem?_zipIdx, Nat.zero_add, canonR]
        by_cases hi : i < R.length
        · rw [List.getElem?_eq_getElem hi, List.getElem?_range hi]
          simp [ioNm, List.getD_eq_getElem?_getD, List.getElem?_eq_getElem hi]
        · rw [List.getElem?_eq_none_iff.2 (by omega), List.getElem?_eq_none_iff.2 (by simp; omega)]
          rfl
      rw [hz, List.filter_map, List.map_map, List.map_map]
      rfl
    rw [e]
  · have hR2 : A0.map (fun p => ioNm R d i0 p.2) = R := by
      rw [← hA0]
      apply List.ext_getElem?
      intro i
      simp only [ioPairs, List.getElem?_map, List.getElem?_zipIdx, Nat.zero_add, canonR]
      by_cases hi : i < R.length
      · rw [List.getElem?_eq_getElem hi, List.getElem?_range hi]
        simp [ioNm, List.getD_eq_getElem?_getD, List.getElem?_eq_getElem hi]
      · rw [List.getElem?_eq_none_iff.2 (by omega : R.length ≤ i), List.getElem?_eq_none_iff.2 (by simp; omega)]
        rfl
    have hz : ∀ (l : List (Nm × Nm)) (f : Nm × Nm → Nm) (g : Nm × Nm → Ob), l.map (fun p => (f p, g p)) = (l.map f).zip (l.map g) := by
      intro l f g
      induction l with
      | nil => rfl
      | cons p l ih => simp [ih]
    have e1 : (A0.map fun p => (p.1, ioNm R d i0 p.2)).map (fun p => (p.2, ioOb (look st.objs) (B0.map fun p => (p.1, ioNm R d i0 p.2)) p.1)) = A0.map fun p => (ioNm R d i0 p.2, (ioOb (look st.objs) B0 p.1).ren (ioNm R d i0)) := by
      rw [List.map_map]
      exact List.map_congr_left fun p _ => by simp only [Function.comp, hob]
    rw [hA, e1, hz, hR2, List.map_map]
    rfl
end Go.Ab


namespace Go.Ab
noncomputable def limCall (sp : FuncId → (Nm → Option Ob) → List PV → Option Out) (tab : FuncId → Option RFn) : CallT := fun E h dep g args e => lim fun n => evalFn sp tab n E h dep g args e
def machN (sp : FuncId → (Nm → Option Ob) → List PV → Option Out) (tab : FuncId → Option RFn) (n : Nat) : Mach := evalM sp tab n
theorem machN_sp (sp : FuncId → (Nm → Option Ob) → List PV → Option Out) (tab : FuncId → Option RFn) (n : Nat) : (machN sp tab n).sp = sp := evalM_sp sp tab n
theorem machN_isIo (sp : FuncId → (Nm → Option Ob) → List PV → Option Out) (tab : FuncId → Option RFn) (n : Nat) : (machN sp tab n).isIo = ioFlag tab := evalM_isIo sp tab n
theorem machN_leans (sp : FuncId → (Nm → Option Ob) → List PV → Option Out) (tab : FuncId → Option RFn) (n : Nat) : (machN sp tab n).leans = leanFlag tab := evalM_leans sp tab n
theorem machN_call (sp : FuncId → (Nm → Option Ob) → List PV → Option Out) (tab : FuncId → Option RFn) (n : Nat) : (machN sp tab n).call = evalFn sp tab n := rfl
noncomputable def limIo (sp : FuncId → (Nm → Option Ob) → List PV → Option Out) (tab : FuncId → Option RFn) (g : FuncId) (ins : List Ob) (vs : List PV) : Option (St × PV) :=
  match tab g with
  | some fn => lim fun n => ioRaw (machN sp tab n) n fn ins vs
  | none => none
structure CfgOK (cfg : KCfg) (tab : FuncId → Option RFn) : Prop where
  L : cfg.b.L = limCall cfg.b.sp tab
  I : cfg.b.I = limIo cfg.b.sp tab
  isIo : cfg.b.isIo = ioFlag tab
  leans : cfg.b.leans = leanFlag tab
  ioF : ∀ g, (cfg.ioF g).isSome = ioFlag tab g
  ioP : ∀ g P, cfg.ioF g = some P → ∃ fn, tab g = some fn ∧ P.args.length ≤ fn.nt ∧ P.ins.length ≤ fn.nt ∧ 0 < fn.nt
  spF : ∀ g, cfg.spF g = false → ∀ σ vs, cfg.b.sp g σ vs = none
  loc : ∀ g σ vs, okVL vs = true → cfg.b.sp g σ vs = cfg.b.sp g (fun _ => none) vs
  asOk : ∀ g p t n, cfg.asT g p = some (t, n) → ∀ σ nm ty cs, σ nm = some (.cells ty cs) → cs.length = n → cfg.b.sp g σ [.nilI, .iface p (.ref nm 0)] = some { v := .bool false } ∧
    ∀ x, okCells x n = true → cfg.b.sp g σ [.iface t x, .iface p (.ref nm 0)] = some { v := .bool true, upd := some (nm, .cells ty x.cells) }
def HOk {E : Type} (h : Handler E) (hn : Nat → Handler E) : Prop := ∀ l args e r, h l args e = some r → Evl fun n => hn n l args e = some r
mutual
theorem convR_put (d : Nat) {obs : List Ob} : ∀ (sh : RSh) (j : Nat) (v : PV) {u : PV} {j' : Nat}, sh.fix = true → convR obs sh j v = some (u, j') →
    (putR d sh j u).1.pv = v.ren (renNew d) ∧ (putR d sh j u).2.1.map KOb.ob = (obs.drop j).take (j' - j) ∧ (putR d sh j u).2.2 = j' ∧ (putR d sh j u).1.ok ∧ (∀ o ∈ (putR d sh j u).2.1, o.ok) ∧ j ≤ j'
  | .opt k, j, v, u, j', hf, h => by cases hf
  | .cl, j, v, u, j', _, h => by
    simp only [convR] at h
    obtain ⟨h1, h2⟩ := chkO_some h
    cases h2
    refine ⟨?_, by simp [putR], rfl, h1, by simp [putR], Nat.le_refl _⟩
    simp only [putR, KV.pv]
    rw [ren_none (okV_iff h1).1]
  | .own k, j, v, u, j', _, h => by
    simp only [convR] at h
    split at h
    · rename_i nm k' o n k'' kt xs hj
      obtain ⟨h1, h2⟩ := chkO_some h
      cases h2
      simp only [Bool.and_eq_true, beq_iff_eq] at h1
      obtain ⟨⟨⟨⟨⟨⟨rfl, rfl⟩, rfl⟩, rfl⟩, rfl⟩, rfl⟩, hok⟩ := h1
      refine ⟨by simp [putR, KV.pv, PV.ren, renNew, lenL, itemsP], ?_, rfl, trivial, ?_, by omega⟩
      · have hlt := (List.getElem?_eq_some_iff.1 hj).1
        have hd : obs.drop j = .arr k 0 xs :: obs.drop (j + 1) := by
          obtain ⟨hi, he⟩ := List.getElem?_eq_some_iff.1 hj
          rw [← he]; exact List.drop_eq_getElem_cons hi
        rw [hd, show j + 1 - j = 1 by omega]
        simp [putR, KOb.ob, itemsP]
      · intro o ho
        simp only [putR, List.mem_singleton] at ho
        subst ho; exact hok
    · cases h
  | .tup l, j, v, u, j', hf, h => by
    simp only [convR] at h
    split at h
    · rename_i vs
      obtain ⟨p, hp, he⟩ := Option.map_eq_some_iff.1 h
      cases he
      obtain ⟨h1, h2, h3, h4, h5, h6⟩ := convRL_put d l j vs (us := p.1) (j' := p.2) hf hp (.tup p.1) 0 (by intro i _; simp [prjP])
      simp only [putR]
      exact ⟨by simp [KV.pv, PV.ren, h1], h2, h3, h4, h5, h6⟩
    · cases h
  | .agg l, j, v, u, j', hf, h => by
    simp only [convR] at h
    split at h
    · rename_i vs
      obtain ⟨p, hp, he⟩ := Option.map_eq_some_iff.1 h
      cases he
      obtain ⟨h1, h2, h3, h4, h5, h6⟩ := convRL_put d l j vs (us := p.1) (j' := p.2) hf hp (.agg p.1) 0 (by intro i _; simp [prjP])
      simp only [putR]
      exact ⟨by simp [KV.pv, PV.ren, h1], h2, h3, h4, h5, h6⟩
    · cases h
theorem convRL_put (d : Nat) {obs : List Ob} : ∀ (l : List RSh) (j : Nat) (vs : List PV) {us : List PV} {j' : Nat}, fixL l = true → convRL obs l j vs = some (us, j') → ∀ (r : PV) (i : Nat), (∀ m, m < us.length → prjP r (i + m) = us.getD m .undef) →
    pvL (putRL d l j r i).1 = renL (renNew d) vs ∧ (putRL d l j r i).2.1.map KOb.ob = (obs.drop j).take (j' - j) ∧ (putRL d l j r i).2.2 = j' ∧ okKL (putRL d l j r i).1 ∧ (∀ o ∈ (putRL d l j r i).2.1, o.ok) ∧ j ≤ j'
  | [], j, vs, us, j', _, h, r, i, _ => by
    cases vs with
    | nil => simp only [convRL] at h; cases h; simp [putRL, pvL, renL, okKL]
    | cons v vs => simp [convRL] at h
  | s :: l, j, vs, us, j', hf, h, r, i, hr => by
    simp only [fixL, Bool.and_eq_true] at hf
    cases vs with
    | nil => simp [convRL] at h
    | cons v vs =>
      simp only [convRL] at h
      split at h
      · rename_i u j1 hu
        obtain ⟨p, hp, he⟩ := Option.map_eq_some_iff.1 h
        obtain ⟨us', j2⟩ := p
        cases he
        have h0 : prjP r i = u := by have := hr 0 (by simp); simpa using this
        obtain ⟨a1, a2, a3, a4, a5, a6⟩ := convR_put d s j v hf.1 hu
        obtain ⟨b1, b2, b3, b4, b5, b6⟩ := convRL_put d l j1 vs hf.2 hp r (i + 1) (fun m hm => by
          have := hr (m + 1) (by simp; omega)
          rw [show i + (m + 1) = i + 1 + m by omega] at this
          simpa using this)
        simp only [putRL, h0, a3]
        refine ⟨by simp [pvL, renL, a1, b1], ?_, b3, ⟨a4, b4⟩, ?_, by omega⟩
        · rw [List.map_append, a2, b2]
          have e1 : obs.drop j1 = (obs.drop j).drop (j1 - j) := by rw [List.drop_drop]; congr 1; omega
          rw [e1, show j2 - j = (j1 - j) + (j2 - j1) by omega, List.take_add]
        · intro o ho
          rcases List.mem_append.1 ho with ho | ho
          · exact a5 o ho
          · exact b5 o ho
      · cases h
end
theorem convO_put (d : Nat) {obs : List Ob} {sh : RSh} {v u : PV} (hf : sh.fix = true) (h : convO sh v obs = some u) : (putR d sh 0 u).1.pv = v.ren (renNew d) ∧ (putR d sh 0 u).2.1.map KOb.ob = obs ∧ (putR d sh 0 u).1.ok ∧ ∀ o ∈ (putR d sh 0 u).2.1, o.ok := by
  unfold convO at h
  split at h
  · rename_i r j hr
    obtain ⟨h1, h2⟩ := chkO_some h
    cases h2
    simp only [beq_iff_eq] at h1
    obtain ⟨a1, a2, a3, a4, a5, a6⟩ := convR_put d sh 0 v hf hr
    refine ⟨a1, ?_, a4, a5⟩
    rw [a2, h1]; simp
  · cases h
mutual
theorem splitSh_ok {R : Type} {r : R} : ∀ (sh : RSh) (u : PV) {K : RSh → Option R}, splitSh sh u K = some r →
    ∃ sh', sh'.fix = true ∧ K sh' = some r ∧ ∀ obs j v j', convR obs sh j v = some (u, j') → convR obs sh' j v = some (u, j')
  | .cl, u, K, h => ⟨.cl, rfl, h, fun _ _ _ _ h => h⟩
  | .own k, u, K, h => ⟨.own k, rfl, h, fun _ _ _ _ h => h⟩
  | .opt k, u, K, h => by
    simp only [splitSh] at h
    unfold nilB at h
    split at h
    · refine ⟨.cl, rfl, h, fun obs j v j' hc => ?_⟩
      simp only [convR] at hc
      split at hc
      · cases hc; rfl
      · obtain ⟨_, hc⟩ := chkO_some hc
        cases hc
      · cases hc
    · rename_i hu
      refine ⟨.own k, rfl, h, fun obs j v j' hc => ?_⟩
      simp only [convR] at hc
      split at hc
      · cases hc; exact absurd rfl hu
      · rename_i hj
        simp only [convR, hj]; exact hc
      · cases hc
  | .tup l, u, K, h => by
    simp only [splitSh] at h
    obtain ⟨l', h1, h2, h3⟩ := splitShL_ok l u 0 h
    refine ⟨.tup l', h1, h2, fun obs j v j' hc => ?_⟩
    simp only [convR] at hc ⊢
    split at hc
    · obtain ⟨p, hp, he⟩ := Option.map_eq_some_iff.1 hc
      cases he
      rw [h3 obs j _ p.1 p.2 hp (by intro i _; simp [prjP])]
      rfl
    · cases hc
  | .agg l, u, K, h => by
    simp only [splitSh] at h
    obtain ⟨l', h1, h2, h3⟩ := splitShL_ok l u 0 h
    refine ⟨.agg l', h1, h2, fun obs j v j' hc => ?_⟩
    simp only [convR] at hc ⊢
    split at hc
    · obtain ⟨p, hp, he⟩ := Option.map_eq_some_iff.1 hc
      cases he
      rw [h3 obs j _ p.1 p.2 hp (by intro i _; simp [prjP])]
      rfl
    · cases hc
theorem splitShL_ok {R : Type} {r : R} : ∀ (l : List RSh) (u : PV) (i : Nat) {K : List RSh → Option R}, splitShL l u i K = some r →
    ∃ l', fixL l' = true ∧ K l' = some r ∧ ∀ obs j vs us j', convRL obs l j vs = some (us, j') → (∀ m, m < us.length → prjP u (i + m) = us.getD m .undef) → convRL obs l' j vs = some (us, j')
  | [], u, i, K, h => ⟨[], rfl, h, fun _ _ _ _ _ h _ => h⟩
  | s :: l, u, i, K, h => by
    simp only [splitShL] at h
    obtain ⟨s', h1, h, h3⟩ := splitSh_ok s (prjP u i) h
    obtain ⟨l', g1, h, g3⟩ := splitShL_ok l u (i + 1) h
    refine ⟨s' :: l', by simp [fixL, h1, g1], h, fun obs j vs us j' hc hu => ?_⟩
    cases vs with
    | nil => simp [convRL] at hc
    | cons v vs =>
      simp only [convRL] at hc ⊢
      split at hc
      · rename_i w j1 hw
        obtain ⟨p, hp, he⟩ := Option.map_eq_some_iff.1 hc
        obtain ⟨us', j2⟩ := p
        cases he
        have h0 : prjP u i = w := by have := hu 0 (by simp); simpa using this
        rw [h3 obs j v j1 (by rw [h0]; exact hw)]
        simp only
        rw [g3 obs j1 vs us' j2 hp (fun m hm => by
          have := hu (m + 1) (by simp; omega)
          rw [show i + (m + 1) = i + 1 + m by omega] at this
          simpa using this)]
        simp only [Option.map_some, h0]
      · cases hc
end
theorem splitO_ok {R : Type} {r : R} {sh : RSh} {u : PV} {K : RSh → Option R} (h : splitSh sh u K = some r) :
    ∃ sh', sh'.fix = true ∧ K sh' = some r ∧ ∀ v obs, convO sh v obs = some u → convO sh' v obs = some u := by
  obtain ⟨sh', h1, h2, h3⟩ := splitSh_ok sh u h
  refine ⟨sh', h1, h2, fun v obs hc => ?_⟩
  unfold convO at hc ⊢
  split at hc
  · rename_i w j hw
    obtain ⟨c1, c2⟩ := chkO_some hc
    cases c2
    rw [h3 obs 0 v j hw]
    simp only [c1, chkO]
  · cases hc
section
variable {cfg : KCfg} {tab : FuncId → Option RFn} {ks : KSt} {E R : Type} {h : Handler E} {hn : Nat → Handler E} {K : KOut → E → Option R} {r : R} {e : E} {d dep : Nat}
theorem spO_ok (hc : CfgOK cfg tab) {g : FuncId} {vs : List PV} (hvs : okVL vs = true) {x : Option (PV × List Ob)} (h : spO cfg.b.sp g vs = some x) (σ : Nm → Option Ob) :
    match x with | some p => cfg.b.sp g σ vs = some { v := p.1, new := p.2 } | none => cfg.b.sp g σ vs = none := by
  unfold spO at h
  rw [hc.loc g σ vs hvs]
  split at h
  · rename_i out ho
    obtain ⟨h1, h2⟩ := chkO_some h
    cases h2
    simp only [Bool.and_eq_true, List.isEmpty_iff, Option.isNone_iff_eq_none, Bool.not_eq_true'] at h1
    obtain ⟨⟨⟨⟨⟨⟨b, c⟩, f⟩, a2⟩, a3⟩, a4⟩, a5⟩ := h1
    simp only
    rw [ho]
    obtain ⟨v, new, upd, kill, frz, gone, ups, io, slot⟩ := out
    simp only at b c f a2 a3 a4 a5
    subst b; subst c; subst f; subst a2; subst a3; subst a4; subst a5
    rfl
  · rename_i ho; cases h; exact ho
theorem callO_sh {sh sh' : RSh} {f : PV} {vs : List PV} {u : PV} (hs : ∀ v obs, convO sh v obs = some u → convO sh' v obs = some u) (h : callO cfg.b sh f vs = some u) : callO cfg.b sh' f vs = some u := by
  unfold callO at h ⊢
  split at h
  · split at h
    · exact hs _ _ h
    · split at h
      · cases h
      · rename_i hio
        rw [if_neg hio]
        split at h
        · exact hs _ _ h
        · cases h
    · cases h
  · cases h
theorem lendO_sh {sh sh' : RSh} {fr : Bool} {g : FuncId} {vs : List PV} {u : PV} (hs : ∀ v obs, convO sh v obs = some u → convO sh' v obs = some u) (h : lendO cfg.b sh fr g vs = some u) : lendO cfg.b sh' fr g vs = some u := by
  unfold lendO at h ⊢
  split at h
  · cases h
  · rename_i hy
    rw [if_neg hy]
    split at h
    · obtain ⟨h1, h2⟩ := chkO_some h
      simp only [h1, chkO]
      exact hs _ _ h2
    · cases h
theorem callO_ok (hc : CfgOK cfg tab) {sh : RSh} (hfix : sh.fix = true) {f : PV} {vs : List PV} (hvs : okVL vs = true) (hf : okV f = true) {u : PV} (hu : callO cfg.b sh f vs = some u) (σ : Nm → Option Ob) (T : List PV) (fx : RX) (args : List RX) (hfx : fx.ev T = f) (hargs : args.map (RX.ev T) = vs) :
    ∃ out : KOut, out.Ok ∧ out = { v := (putR d sh 0 u).1, new := (putR d sh 0 u).2.1 } ∧ Evl fun n => execCall (machN cfg.b.sp tab n) (hn n) dep d σ T fx args e = some (out.out, e) := by
  unfold callO at hu
  split at hu
  · rename_i g cap
    have hcap : okVL cap = true := by simpa [okV] using hf
    have hall : okVL (vs ++ cap) = true := okVL_append hvs hcap
    have hnm : (namesL (vs ++ cap)).isEmpty = true := by rw [(okVL_names hall).1]; rfl
    have hy : hasYL (vs ++ cap) = false := (okVL_names hall).2
    split at hu
    · rename_i v obs hs
      have h1 := spO_ok hc hall hs σ
      simp only at h1
      obtain ⟨a1, a2, a3, a4⟩ := convO_put d hfix hu
      refine ⟨_, ⟨a3, a4, by simp, by simp⟩, rfl, .of fun n => ?_⟩
      simp only [execCall, hfx, hargs, machN_sp, h1, KOut.out, a1, a2, Option.map_none, List.map_nil]
    · rename_i hs
      have h1 := spO_ok hc hall hs σ
      split at hu
      · cases hu
      rename_i hio
      have hio : ioFlag tab g = false := by rw [← hc.isIo]; simpa using hio
      split at hu
      · rename_i rr obs hL
        rw [hc.L] at hL
        have hev := lim_some hL
        obtain ⟨a1, a2, a3, a4⟩ := convO_put d hfix hu
        refine ⟨_, ⟨a3, a4, by simp, by simp⟩, rfl, hev.mono fun n hn' => ?_⟩
        simp only at h1
        simp only [execCall, hfx, hargs, machN_sp, machN_isIo, machN_call, hio, h1, hnm, if_true, hy, Bool.false_eq_true, if_false, hn', KOut.out, a1, a2, Option.map_none, List.map_nil]
      · cases hu
    · cases hu
  · cases hu
theorem mapM_mem {α : Type} {σ : Nm → Option α} : ∀ {S : List Nm} {l : List α}, S.mapM σ = some l → l.length = S.length ∧ ∀ x ∈ l, ∃ nm, σ nm = some x := by
  intro S
  induction S with
  | nil => intro l h; simp at h; subst h; exact ⟨rfl, fun x h => by cases h⟩
  | cons y S ih =>
    intro l h
    rw [List.mapM_cons] at h
    simp only [Option.bind_eq_bind, Option.bind_eq_some_iff, Option.pure_def, Option.some.injEq] at h
    obtain ⟨o, ho, l', hl, rfl⟩ := h
    obtain ⟨q1, q2⟩ := ih hl
    refine ⟨by simp [q1], fun x hx => ?_⟩
    rcases List.mem_cons.1 hx with rfl | hx
    · exact ⟨y, ho⟩
    · exact q2 x hx
theorem mapM_map' {α β : Type} {σ : Nm → Option α} (g : α → β) : ∀ {S : List Nm} {l : List α}, S.mapM σ = some l → S.mapM (fun nm => (σ nm).map g) = some (l.map g) := by
  intro S
  induction S with
  | nil => intro l h; simp at h; subst h; rfl
  | cons y S ih =>
    intro l h
    rw [List.mapM_cons] at h
    simp only [Option.bind_eq_bind, Option.bind_eq_some_iff, Option.pure_def, Option.some.injEq] at h
    obtain ⟨o, ho, l', hl, rfl⟩ := h
    rw [List.mapM_cons, ih hl, ho]
    rfl
theorem fitObL_len : ∀ {ps xs : List KOb}, fitObL ps xs = true → ps.length = xs.length
  | [], [], _ => rfl
  | [], _ :: _, h => by simp [fitObL] at h
  | _ :: _, [], h => by simp [fitObL] at h
  | p :: ps, x :: xs, h => by
    simp only [fitObL, Bool.and_eq_true] at h
    simp [fitObL_len h.2]
theorem fitL_len : ∀ {ps xs : List KV}, fitL ps xs = true → ps.length = xs.length
  | [], [], _ => rfl
  | [], _ :: _, h => by simp [fitL] at h
  | _ :: _, [], h => by simp [fitL] at h
  | p :: ps, x :: xs, h => by
    simp only [fitL, Bool.and_eq_true] at h
    simp [fitL_len h.2]
theorem ob_noY {o : KOb} (h : o.ok) (hq : ∀ ty cs, o = .cells ty cs → khasYL cs = false) : o.ob.hasY = false := by
  cases o with
  | cells ty cs =>
    have h' : okKL cs := h
    show hasYL (pvL cs) = false
    rw [pvL_hasY h']; exact hq ty cs rfl
  | whole ty v => exact (okVL_names (okV_cells h)).2
  | arr k kt xs => exact (okVL_names h).2
  | map es => exact (okVL_names h).2
  | siter s p => rfl
theorem kcallIo_ok (hc : CfgOK cfg tab) (hk : ks.Ok) (hq : kquiet ks.objs = true) {g : FuncId} {cap : List PV} {f : RX} {args : List RX} {xs : List KV} (hxs : okKL xs) (hfe : f.ev ks.st.tmps = .fn g cap) (hvs : args.map (RX.ev ks.st.tmps) ++ cap = pvL xs)
    {P : IoSh} (hP : cfg.ioF g = some P) (hr : kcallIo cfg P g d (klook ks.objs) xs (fun out => K out e) = some r) :
    ∃ out e', K out e' = some r ∧ out.Ok ∧ Evl fun n => execCall (machN cfg.b.sp tab n) (hn n) dep d (look ks.st.objs) ks.st.tmps f args e = some (out.out, e') := by
  unfold kcallIo at hr
  simp only at hr
  generalize hS : dedupN (kreach (klook ks.objs) deepest (knamesL xs)) = S at hr
  split at hr
  · cases hr
  rename_i ins hins
  split at hr
  case isFalse => cases hr
  rename_i hcond
  obtain ⟨hsh, hy, hsp, hfit⟩ := hcond
  simp only [Bool.and_eq_true] at hfit
  obtain ⟨hfa, hfo⟩ := hfit
  obtain ⟨rs, hio, hr⟩ := bindO_some hr
  have hplace : ∃ sl d1 i1, K (ioOut P S sl d1 i1 rs) e = some r ∧ ∀ st v out, ioEnd sl d1 i1 S st v = some out → ioEndAt (look ks.st.objs) d S st v = some out := by
    unfold ioEndAt
    cases S with
    | nil => exact ⟨none, d, 0, hr, fun st v out h => h⟩
    | cons s ss =>
      simp only at hr
      split at hr
      · rename_i i1 hi1
        refine ⟨some s.1, s.1, i1, hr, fun st v out h => ?_⟩
        have : slotLen (look ks.st.objs) s.1 = some i1 := by
          rw [st_lookF hk, ← hi1]
          unfold slotLen
          congr 1
          funext j
          show ((klook ks.objs (s.1, j)).map KOb.ob).isNone = _
          cases klook ks.objs (s.1, j) <;> rfl
        simp only [this]
        exact h
      · cases hr
  obtain ⟨sl, d1, i1, hr, hplace⟩ := hplace
  have hflag : ioFlag tab g = true := by rw [← hc.ioF, hP]; rfl
  obtain ⟨fn, htab, hla, hli, hnt⟩ := hc.ioP g P hP
  obtain ⟨m1, m2⟩ := mapM_mem hins
  have hinok : ∀ o ∈ ins, o.ok := fun o ho => let ⟨nm, h⟩ := m2 o ho; klook_okF hk nm o h
  have hS' : dedupN (reach (look ks.st.objs) deepest (namesL (pvL xs))) = S := by rw [← hS, kreach_eq (klook_okF hk), st_lookF hk, pvL_names hxs]
  have hmap : S.mapM (look ks.st.objs) = some (ins.map KOb.ob) := by rw [st_lookF hk]; exact mapM_map' KOb.ob hins
  have hysok : okKL (krenL (fun m => (0, S.idxOf m)) xs) := krenL_ok _ hxs
  have hosok : ∀ o ∈ ins.map (KOb.ren fun m => (0, S.idxOf m)), o.ok := by
    intro o ho
    obtain ⟨o0, h0, rfl⟩ := List.mem_map.1 ho
    exact KOb.ren_ok _ (hinok o0 h0)
  have hlen : P.ins.length = S.length := by rw [fitObL_len hfo, List.length_map, m1]
  have hlx : ∀ l : List KV, (krenL (fun m => (0, S.idxOf m)) l).length = l.length := by
    intro l; induction l with | nil => rfl | cons x l ih => simp [krenL, ih]
  have hlena : (pvL xs).length ≤ fn.nt := by
    have h1 := fitL_len hfa
    rw [hlx] at h1
    have h2 : (pvL xs).length = xs.length := by rw [pvL_map, List.length_map]
    omega
  generalize hlv : leavesL P.args (krenL (fun m => (0, S.idxOf m)) xs) ++ leavesObL P.ins (ins.map (KOb.ren fun m => (0, S.idxOf m))) = lv at hio
  have hseg : Seg lv 0 (leavesL P.args (krenL (fun m => (0, S.idxOf m)) xs) ++ leavesObL P.ins (ins.map (KOb.ren fun m => (0, S.idxOf m)))) := by rw [hlv]; exact Seg.all lv
  obtain ⟨p1, p2, p3⟩ := fillL_ok _ _ hfa hysok lv 0 hseg.left
  obtain ⟨q1, q2, q3⟩ := fillObL_ok _ _ hfo hosok lv (fillL P.args lv 0).2 (by rw [p3]; exact hseg.right)
  have hvs2 : pvL (krenL (fun m => (0, S.idxOf m)) xs) = renL (fun m => (0, S.idxOf m)) (pvL xs) := renL_pv _ hxs
  have hos2 : (ins.map (KOb.ren fun m => (0, S.idxOf m))).map KOb.ob = (ins.map KOb.ob).map (Ob.ren fun m => (0, S.idxOf m)) := by
    rw [List.map_map, List.map_map]
    exact List.map_congr_left fun o ho => KOb.ren_ob _ (hinok o ho)
  unfold ioO at hio
  rw [p1, q1, hvs2, hos2] at hio
  split at hio
  case h_2 => cases hio
  rename_i st v hI
  rw [hc.I] at hI
  unfold limIo at hI
  rw [htab] at hI
  have hev := lim_some hI
  split at hio
  case h_2 => cases hio
  rename_i out0 hend
  rw [hlen] at hend
  have hend2 := ioEnd_ren (sl := sl) (d := d1) (i0 := i1) hend
  unfold ioFit at hio
  split at hio
  case isFalse => cases hio
  rename_i hgone
  split at hio
  case h_2 => cases hio
  rename_i a b c ha hb hcc
  cases hio
  have hsr := Seg.all (a ++ (b ++ c))
  obtain ⟨a1, a2, a3⟩ := fitP_fill P.res out0.v ha _ 0 hsr.left
  obtain ⟨b1, b2, b3⟩ := fitPObL_fill P.outs _ hb (a ++ (b ++ c)) (fill P.res (a ++ (b ++ c)) 0).2 (by rw [a3]; exact hsr.right.left)
  obtain ⟨c1, c2, c3⟩ := fitPObL_fill P.news _ hcc (a ++ (b ++ c)) (fillObL P.outs (a ++ (b ++ c)) (fill P.res (a ++ (b ++ c)) 0).2).2 (by rw [b3, a3]; exact hsr.right.right)
  have hout : (ioOut P S sl d1 i1 (a ++ (b ++ c))).out = { v := out0.v.ren (ioNm S d1 i1), new := out0.new.map (Ob.ren (ioNm S d1 i1)), gone := out0.gone.map (ioNm S d1 i1), ups := S.zip (out0.ups.map fun p => p.2.ren (ioNm S d1 i1)), io := true, slot := sl } := by
    simp only [ioOut, KOut.out, Option.map_none, Out.mk.injEq, true_and, and_true]
    refine ⟨?_, ?_, ?_, ?_⟩
    · rw [KV.ren_pv _ a2, a1]
    · rw [List.map_map, ← c1, List.map_map]
      exact List.map_congr_left fun o ho => KOb.ren_ob _ (c2 o ho)
    · rw [hgone, List.map_map]
      exact List.map_congr_left fun j _ => by simp [ioNm]
    · have e1 : out0.ups.map (fun p => p.2.ren (ioNm S d1 i1)) = (out0.ups.map (·.2)).map (Ob.ren (ioNm S d1 i1)) := by rw [List.map_map]; rfl
      rw [e1, ← b1, List.map_map]
      have key : ∀ (T : List Nm) (l : List KOb), (∀ o ∈ l, o.ok) → (T.zip (l.map (KOb.ren (ioNm S d1 i1)))).map (fun p => (p.1, p.2.ob)) = T.zip (l.map (Ob.ren (ioNm S d1 i1) ∘ KOb.ob)) := by
        intro T
        induction T with
        | nil => intro l _; rfl
        | cons s T ih =>
          intro l hl
          cases l with
          | nil => rfl
          | cons o l =>
            simp only [List.map_cons, List.zip_cons_cons, List.map_cons, Function.comp]
            rw [KOb.ren_ob _ (hl o List.mem_cons_self), ih l fun o ho => hl o (List.mem_cons_of_mem _ ho)]
      exact key S _ b2
  refine ⟨_, e, hr, ⟨KV.ren_ok _ a2, ?_, by simp [ioOut], ?_⟩, hev.shift.mono ?_⟩
  · intro o ho
    obtain ⟨o0, h0, rfl⟩ := List.mem_map.1 ho
    exact KOb.ren_ok _ (c2 o0 h0)
  · rintro ⟨s, o⟩ ho
    have := (List.of_mem_zip ho).2
    obtain ⟨o0, h0, rfl⟩ := List.mem_map.1 this
    exact KOb.ren_ok _ (b2 o0 h0)
  · rintro k ⟨j, rfl, hj⟩
    have hioE : (machN cfg.b.sp tab (j + 1)).io g d (look ks.st.objs) (pvL xs) = some (ioOut P S sl d1 i1 (a ++ (b ++ c))).out := by
      show ioOf (evalM cfg.b.sp tab j) j tab g d (look ks.st.objs) (pvL xs) = _
      unfold ioOf
      rw [htab]
      simp only
      rw [hS', hmap]
      have hcd : (!hasYL (pvL xs) && shutR (look ks.st.objs) S && (ins.map KOb.ob).all (fun o => !o.hasY) && (decide ((pvL xs).length ≤ fn.nt) && decide (S.length ≤ fn.nt) && decide (0 < fn.nt))) = true := by
        simp only [Bool.and_eq_true, Bool.not_eq_true', decide_eq_true_eq]
        refine ⟨⟨⟨by rw [pvL_hasY hxs]; exact hy, ?_⟩, ?_⟩, ⟨hlena, by omega⟩, hnt⟩
        · rw [st_lookF hk, ← kshut_eq (klook_okF hk)]; exact hsh
        · rw [List.all_eq_true]
          intro o ho
          obtain ⟨o0, h0, rfl⟩ := List.mem_map.1 ho
          obtain ⟨nm, hnm⟩ := m2 o0 h0
          have := ob_noY (hinok o0 h0) fun ty cs hcs => quiet_look hq nm ty cs (by rw [hnm, hcs])
          simp [this]
      simp only [chk, hcd, if_true]
      have hj' : ioRaw (evalM cfg.b.sp tab j) j fn ((ins.map KOb.ob).map (Ob.ren fun m => (0, S.idxOf m))) (renL (fun m => (0, S.idxOf m)) (pvL xs)) = some (st, v) := hj
      rw [hj']
      simp only
      rw [hout]
      exact hplace _ _ _ hend2
    simp only [execCall, hfe, hvs, machN_sp, machN_isIo, hc.spF g hsp, hflag, if_true, hioE]
theorem kcall_ok (hc : CfgOK cfg tab) (hh : HOk h hn) (hk : ks.Ok) (hq : kquiet ks.objs = true) {f : RX} {args : List RX} (hx : (f :: args).all okX = true)
    (hr : kcall cfg h d (klook ks.objs) ks.tmps f args e K = some r) :
    ∃ out e', K out e' = some r ∧ out.Ok ∧ Evl fun n => execCall (machN cfg.b.sp tab n) (hn n) dep d (look ks.st.objs) ks.st.tmps f args e = some (out.out, e') := by
  have hxf : okX f = true := List.all_eq_true.1 hx f (by simp)
  have hxa : args.all okX = true := List.all_eq_true.2 fun x hm => List.all_eq_true.1 hx x (by simp [hm])
  have hfo := kv_ok hk hxf
  have hao := map_ok hk hxa
  unfold kcall at hr
  split at hr
  · rename_i l hf
    have hfe : f.ev ks.st.tmps = .yld l := by rw [st_ev hk, hf]; rfl
    simp only at hr
    split at hr
    · rename_i vs hv
      obtain ⟨p, hp, hr⟩ := bindO_some hr
      have hok := clL_ok hao hv
      have hnm : (namesL vs).isEmpty = true := by rw [(okVL_names hok).1]; rfl
      refine ⟨_, _, hr, KOut.plain (v := .cv (.bool p.1)) rfl, (hh _ _ _ _ hp).mono fun n hn' => ?_⟩
      simp [execCall, hfe, map_ev hk, clL_pv hv, hnm, (okVL_names hok).2, chk, hn', KOut.out, KV.pv]
    · split at hr
      · cases hr
      · rename_i hne
        split at hr
        · rename_i hsh
          obtain ⟨h1, hr⟩ := chkO_some hr
          obtain ⟨p, hp, hr⟩ := bindO_some hr
          have hne' : (namesL (pvL (args.map (RX.kv ks.tmps)))).isEmpty = false := by rw [dst_names hao]; simpa using hne
          rw [kreach_eq (klook_okF hk), kshut_eq (klook_okF hk), ← st_lookF hk, ← pvL_names hao] at hsh
          rw [closeL_st hk hao] at h1 hp
          unfold noYL at h1
          refine ⟨_, _, hr, ⟨rfl, by simp, by simp, by simp⟩, (hh _ _ _ _ hp).mono fun n hn' => ?_⟩
          simp only [execCall, hfe, map_ev hk, hne', Bool.false_eq_true, if_false, hsh, h1, Bool.and_self, chk, if_true, hn', KOut.out, KV.pv]
          rw [kreach_eq (klook_okF hk), ← st_lookF hk, ← pvL_names hao]
          rfl
        · cases hr
  · rename_i g caps hf
    rw [hf] at hfo
    have hcaps : okKL caps := hfo
    have hfe : f.ev ks.st.tmps = .fn g (pvL caps) := by rw [st_ev hk, hf]; rfl
    have hxs : okKL (args.map (RX.kv ks.tmps) ++ caps) := okKL_append hao hcaps
    have hvs : args.map (RX.ev ks.st.tmps) ++ pvL caps = pvL (args.map (RX.kv ks.tmps) ++ caps) := by rw [pvL_append, map_ev hk]
    simp only at hr
    split at hr
    · rename_i P hP
      exact kcallIo_ok hc hk hq hxs hfe hvs hP hr
    rename_i hP
    have hio : ioFlag tab g = false := by rw [← hc.ioF, hP]; rfl
    split at hr
    · rename_i ex p nm hxe
      rw [hxe] at hxs hvs
      split at hr
      · rename_i t n err ty cs ht herr hlk
        have hq := chkO_some hr
        clear hr
        obtain ⟨hcs, hr⟩ := hq
        have hcs : cs.length = n := Nat.eq_of_beq_eq_true hcs
        have hlk' : look ks.st.objs nm = some (.cells ty (pvL cs)) := by rw [st_look hk, hlk]; rfl
        have hcs' : (pvL cs).length = n := by rw [← hcs, pvL_length]
        have hero := KV.cl_ok hxs.1 herr
        have hpv : pvL [ex, .iface p (.ref nm 0)] = [err, .iface p (.ref nm 0)] := by simp [pvL, KV.pv, KV.cl_pv herr]
        rw [hpv] at hvs
        obtain ⟨s1, s2⟩ := hc.asOk g p t n ht (look ks.st.objs) nm _ _ hlk' hcs'
        unfold asP at hr
        split at hr
        · refine ⟨_, _, hr, KOut.plain (v := .lit false) trivial, .of fun n => ?_⟩
          simp only [execCall, hfe, hvs, machN_sp, s1]
          rfl
        · rename_i t' x
          split at hr
          · rename_i htt
            subst htt
            have hq := chkO_some hr
            clear hr
            obtain ⟨hx1, hr⟩ := hq
            refine ⟨_, _, hr, KOut.turn (v := .lit true) (o := .whole _ x) trivial (show okV x = true by simpa [okV] using hero), .of fun n => ?_⟩
            simp only [execCall, hfe, hvs, machN_sp, s2 x hx1]
            rfl
          · cases hr
        · cases hr
      · cases hr
    · split at hr
      · rename_i vs hv
        obtain ⟨u, hu, hr⟩ := bindO_some hr
        have hok := clL_ok hxs hv
        rw [clL_pv hv] at hvs
        have hu' : callO cfg.b (cfg.rsh g).1 (.fn g []) (args.map (RX.ev ks.st.tmps) ++ pvL caps) = some u := by rw [hvs]; exact hu
        have hcv : okVL (pvL caps) = true := okVL_of (ys := pvL caps) hok fun y hy => by rw [← hvs]; exact List.mem_append_right _ hy
        have hav : okVL (args.map (RX.ev ks.st.tmps)) = true := okVL_of hok fun y hy => by rw [← hvs]; exact List.mem_append_left _ hy
        have hu2 : callO cfg.b (cfg.rsh g).1 (.fn g (pvL caps)) (args.map (RX.ev ks.st.tmps)) = some u := by
          unfold callO at hu' ⊢
          simpa using hu'
        obtain ⟨sh', hfix, hr, hsh⟩ := splitO_ok hr
        have hu2 := callO_sh hsh hu2
        obtain ⟨out, h1, h2, h3⟩ := callO_ok (d := d) (dep := dep) (e := e) (hn := hn) hc hfix hav (by simpa [okV] using hcv) hu2 (look ks.st.objs) ks.st.tmps f args hfe rfl
        subst h2
        exact ⟨_, _, hr, h1, h3⟩
      · split at hr
        · cases hr
        · rename_i hne
          split at hr
          · rename_i hsh
            obtain ⟨u, hu, hr⟩ := bindO_some hr
            have hne1 : (knamesL (args.map (RX.kv ks.tmps) ++ caps)).isEmpty = false := by
              cases hq : (knamesL (args.map (RX.kv ks.tmps) ++ caps)).isEmpty with
              | false => rfl
              | true => exact absurd (.inl hq) hne
            have hsp : cfg.spF g = false := by
              cases hq : cfg.spF g with
              | false => rfl
              | true => exact absurd (.inr hq) hne
            have hne' : (namesL (pvL (args.map (RX.kv ks.tmps) ++ caps))).isEmpty = false := by rw [dst_names hxs]; exact hne1
            rw [kreach_eq (klook_okF hk), kshut_eq (klook_okF hk), ← st_lookF hk, ← pvL_names hxs] at hsh
            rw [closeL_st hk hxs] at hu
            obtain ⟨sh', hfix, hr, hshs⟩ := splitO_ok hr
            have hu := lendO_sh hshs hu
            unfold lendO at hu
            split at hu
            · cases hu
            · rename_i hy
              split at hu
              · rename_i rr obs hL
                obtain ⟨hfr, hu⟩ := chkO_some hu
                rw [hc.L] at hL
                have hev := lim_some hL
                obtain ⟨a1, a2, a3, a4⟩ := convO_put d hfix hu
                refine ⟨_, _, hr, ⟨a3, a4, by simp, by simp⟩, hev.mono fun n hn' => ?_⟩
                simp only [beq_iff_eq] at hfr
                rw [hc.leans] at hfr
                have hy' : hasYL (subL (closed (look ks.st.objs)) (pvL (args.map (RX.kv ks.tmps) ++ caps))) = false := by simpa using hy
                simp only [execCall, hfe, hvs, machN_sp, machN_isIo, machN_leans, machN_call, hio, hc.spF g hsp, hne', Bool.false_eq_true, if_false, hsh, hy', Bool.not_false, Bool.and_self, chk, if_true, hn', KOut.out, a1, a2, hfr, Option.map_none, List.map_nil]
                rw [kreach_eq (klook_okF hk), ← st_lookF hk, ← pvL_names hxs]
              · cases hu
          · cases hr
  · rename_i v hf
    rw [hf] at hfo
    have hfe : f.ev ks.st.tmps = v := by rw [st_ev hk, hf]; rfl
    split at hr
    · rename_i vs hv
      obtain ⟨u, hu, hr⟩ := bindO_some hr
      obtain ⟨sh', hfix, hr, hsh⟩ := splitO_ok hr
      obtain ⟨out, h1, h2, h3⟩ := callO_ok (d := d) (dep := dep) (e := e) (hn := hn) hc hfix (clL_ok hao hv) hfo (callO_sh hsh hu) (look ks.st.objs) ks.st.tmps f args hfe (by rw [map_ev hk, clL_pv hv])
      subst h2
      exact ⟨_, _, hr, h1, h3⟩
    · cases hr
  · cases hr
end
end Go.Ab


namespace Go.Ab
variable {cfg : KCfg} {tab : FuncId → Option RFn} {ks : KSt} {E R : Type} {h : Handler E} {hn : Nat → Handler E} {r : R} {e : E} {d dep : Nat}
theorem kfresh_ok (hk : ks.Ok) {o : ROper} (hf : kfresh o ks = true) : freshAt o ks.st = true := by
  unfold kfresh at hf
  unfold freshAt
  split
  · rename_i hm
    rw [if_pos hm] at hf
    split
    · rename_i d' hd
      rw [hd] at hf
      simp only [Bool.and_eq_true, Nat.blt_eq, List.isEmpty_iff] at hf
      have : ks.st.objs[d']? = some [] := by
        show (denseO ks.nt ks.objs)[d']? = _
        rw [denseO_get?, if_pos hf.1, hf.2]; rfl
      rw [this]
    · rename_i hd
      rw [hd] at hf
      exact hf
  · rfl
theorem koutOf_ok (hc : CfgOK cfg tab) (hh : HOk h hn) (hk : ks.Ok) {o : ROper} {K : KOut → E → Option R} (hr : koutOf cfg h o ks e K = some r) :
    kquiet ks.objs = true ∧ ∃ out e', K out e' = some r ∧ out.Ok ∧ Evl fun n => outOf (machN cfg.b.sp tab n) (hn n) dep o ks.st e = some (out.out, e') := by
  unfold koutOf at hr
  split at hr
  · rename_i hcond
    obtain ⟨h1, h2, h3⟩ := hcond
    refine ⟨h3, ?_⟩
    have hf := kfresh_ok hk h1
    split at hr
    · rename_i f args hop
      rw [hop] at h2
      obtain ⟨out, e', a1, a2, a3⟩ := kcall_ok (dep := dep) hc hh hk h3 h2 hr
      split at a1
      case isFalse => cases a1
      rename_i hg
      have hgd : goodDst o.dst out.out = true := by
        simp only [goodDst, KOut.out]
        have : (out.new.map KOb.ob).isEmpty = out.new.isEmpty := by cases out.new <;> rfl
        rw [this]; exact hg
      refine ⟨out, e', a1, a2, a3.mono fun n hn' => ?_⟩
      simp only [outOf, chk, hf, if_true, hop, hn', hgd]
    · rename_i hop
      obtain ⟨out, a1, a2, a3⟩ := execK_ok hk h3 h2 hr
      refine ⟨out, e, a1, a2, .of fun n => ?_⟩
      simp only [outOf, chk, hf, if_true]
      cases hq : o.op with
      | call f args => exact (hop f args hq).elim
      | _ => rw [hq] at a3; simp only [a3]
  · cases hr
theorem spPut_same_pv {i : Nat} {v : PV} {b : Bool} (hk : ks.Ok) (hg : spGet ks.tmps i = .cv v) (hv : v = .bool b) : ({ ks with tmps := spPut i (.lit b) ks.tmps } : KSt).st = ks.st ∧ ({ ks with tmps := spPut i (.lit b) ks.tmps } : KSt).Ok := by
  have hlt : i < ks.nt := by
    apply Classical.byContradiction
    intro hlt
    rw [hk.tm.get_ge (by omega)] at hg; cases hg
  refine ⟨?_, hk.tm.put hlt trivial rfl, hk.ob, hk.kp⟩
  unfold KSt.st
  simp only
  rw [dense_put]
  congr 1
  apply List.ext_getElem?
  intro j
  rw [List.getElem?_set, dense_length]
  by_cases hj : i = j
  · subst hj
    simp only [if_true]
    rw [if_pos hlt, dense_get?, if_pos hlt, hg, hv]
    rfl
  · rw [if_neg hj]
theorem kwants_ok (hk : ks.Ok) {ops : List ROper} {o : ROper} {K : Bool → KSt → Option R} (hr : kwants ops o ks K = some r) : ∃ b k', K b k' = some r ∧ k'.Ok ∧ k'.st = ks.st ∧ wants ops o ks.st.tmps = some b ∧
    k'.objs = ks.objs ∧ (∀ x : RX, (x.kv k'.tmps).names = (x.kv ks.tmps).names ∧ (x.kv k'.tmps).hasY = (x.kv ks.tmps).hasY) := by
  unfold kwants at hr
  unfold wants
  split at hr
  · rename_i hg; rw [hg]; exact ⟨_, _, hr, hk, rfl, rfl, rfl, fun _ => ⟨rfl, rfl⟩⟩
  · rename_i j want hg
    rw [hg]
    split at hr
    · rename_i p hp
      split at hr
      · rename_i d' hd
        have hget : ks.st.tmps.getD d' .undef = (spGet ks.tmps d').pv := dense_getD hk.tm d'
        simp only [hp, hd, hget]
        split at hr
        · rename_i b hb; rw [hb]; exact ⟨_, _, hr, hk, rfl, rfl, rfl, fun _ => ⟨rfl, rfl⟩⟩
        · rename_i hb; rw [hb]; exact ⟨_, _, hr, hk, rfl, rfl, rfl, fun _ => ⟨rfl, rfl⟩⟩
        · rename_i v hb
          rw [hb]
          have hsame : ∀ b, ∀ x : RX, (x.kv (spPut d' (.lit b) ks.tmps)).names = (x.kv ks.tmps).names ∧ (x.kv (spPut d' (.lit b) ks.tmps)).hasY = (x.kv ks.tmps).hasY := by
            intro b x
            cases x with
            | c v => exact ⟨rfl, rfl⟩
            | t i =>
              simp only [RX.kv, spGet_put]
              by_cases hi : i = d'
              · subst hi; rw [if_pos rfl, hb]; exact ⟨rfl, rfl⟩
              · rw [if_neg hi]; exact ⟨rfl, rfl⟩
          rcases iteP_some hr with ⟨hv, hr⟩ | ⟨hv, hr⟩
          · obtain ⟨s1, s2⟩ := spPut_same_pv hk hb hv
            subst hv
            exact ⟨_, _, hr, s2, s1, rfl, rfl, hsame true⟩
          · obtain ⟨s1, s2⟩ := spPut_same_pv hk hb hv
            subst hv
            exact ⟨_, _, hr, s2, s1, rfl, rfl, hsame false⟩
        · cases hr
      · cases hr
    · cases hr
theorem kstep_ok (hc : CfgOK cfg tab) (hh : HOk h hn) (hk : ks.Ok) {ops : List ROper} {o : ROper} {K : KSt → E → Option R} (hr : kstep cfg h ops o ks e K = some r) :
    ∃ k' e', K k' e' = some r ∧ k'.Ok ∧ Evl fun n => stepG (machN cfg.b.sp tab n) (hn n) dep ops o ks.st e = some (k'.st, e') := by
  unfold kstep at hr
  obtain ⟨b, k1, hr, hk1, hst, hw, _, _⟩ := kwants_ok hk hr
  cases b with
  | true =>
    simp only at hr
    obtain ⟨hq, out, e', h1, h2, h3⟩ := koutOf_ok (dep := dep) hc hh hk1 hr
    rw [force_eq] at h1
    obtain ⟨s1, s2⟩ := kapply_both hk1 hq o.dst h2
    refine ⟨_, _, h1, s2, h3.mono fun n hn' => ?_⟩
    rw [hst] at hn' s1
    simp only [stepG, hw, stepOp, hn', s1]
  | false =>
    simp only at hr
    rw [force_eq] at hr
    have : (kapply k1 o.dst { v := .sk }).st = apply k1.st o.dst { v := .tup [] } ∧ (kapply k1 o.dst { v := .sk }).Ok := by
      by_cases hq : kquiet k1.objs = true
      · exact kapply_both hk1 hq o.dst (o := { v := .sk }) ⟨trivial, by simp, by simp, by simp⟩
      · exact kapply_sk hk1 o.dst
    refine ⟨_, _, hr, this.2, .of fun n => ?_⟩
    simp only [stepG, hw, this.1, hst]
where
  kapply_sk {ks : KSt} (hk : ks.Ok) (dst : Option Nat) : (kapply ks dst { v := .sk }).st = apply ks.st dst { v := .tup [] } ∧ (kapply ks dst { v := .sk }).Ok := by
    unfold kapply
    rw [apply_eq]
    simp only [kupd, kkill, kfrzs, bupd, bkill, List.isEmpty_nil, if_true, bgone, bturn, kgone]
    have hkt : kturn [] ks = ks := rfl
    have hke : kext none [] ks = ks := rfl
    have hkn : newAt none [] = [] := rfl
    rw [hkt, hke, hkn]
    simp only [bext, newAtO]
    cases dst with
    | none => exact ⟨rfl, hk⟩
    | some d =>
      simp only [kset, bset]
      cases hd : Nat.blt d ks.nt with
      | true =>
        have hd' : d < ks.nt := by simpa [Nat.blt_eq] using hd
        refine ⟨?_, hk.tm.set (v := .sk) hd' trivial, hk.ob, hk.kp⟩
        unfold KSt.st
        simp only
        rw [dense_set]
        rfl
      | false =>
        have hd' : ¬ d < ks.nt := by intro h; rw [show Nat.blt d ks.nt = true by simpa [Nat.blt_eq] using h] at hd; cases hd
        refine ⟨?_, hk⟩
        unfold KSt.st
        simp only
        rw [List.set_eq_of_length_le (by rw [dense_length]; omega)]
        rfl
theorem kruns_ok (hc : CfgOK cfg tab) (hh : HOk h hn) {ops : List ROper} : ∀ (l : List ROper) {ks : KSt} {e : E} {K : KSt → E → Option R}, ks.Ok → kruns cfg h ops l ks e K = some r →
    ∃ k' e', K k' e' = some r ∧ k'.Ok ∧ Evl fun n => runOps (machN cfg.b.sp tab n) (hn n) dep ops l ks.st e = some (k'.st, e') := by
  intro l
  induction l with
  | nil => intro ks e K hk hr; exact ⟨ks, e, hr, hk, .of fun n => rfl⟩
  | cons o rest ih =>
    intro ks e K hk hr
    simp only [kruns] at hr
    obtain ⟨k1, e1, hr, hk1, h1⟩ := kstep_ok (dep := dep) hc hh hk hr
    obtain ⟨k2, e2, hr, hk2, h2⟩ := ih hk1 hr
    exact ⟨k2, e2, hr, hk2, h1.mono2 h2 fun n a b => by simp only [runOps, a, b]⟩
theorem kstays_ok (o : KOut) : kstays o = outStays o.out := by
  unfold kstays outStays KOut.out
  cases o.upd <;> cases o.ups <;> rfl
theorem kturns_ok (o : KOut) : kturns o = outTurns o.out := by
  unfold kturns outTurns KOut.out
  cases o.ups <;> rfl
theorem kupdNames_ok (o : KOut) : kupdNames o = updNames o.out := by
  unfold kupdNames updNames KOut.out
  cases o.upd with
  | none => rfl
  | some p => rfl
theorem kinfo_ok (hk : ks.Ok) {ops : List ROper} {i : Nat} {o : ROper} (hx : o.op.xs.all okX = true) {out : KOut} (ho : out.Ok) : kinfo ops i o ks out = infoOf ops i o ks.st out.out := by
  unfold kinfo infoOf
  have hok := map_ok hk hx
  simp only
  have hn : out.out.new.flatMap Ob.names = out.new.flatMap KOb.names := by
    show (out.new.map KOb.ob).flatMap Ob.names = _
    rw [List.flatMap_map]
    have : ∀ l : List KOb, (∀ x ∈ l, x.ok) → l.flatMap (fun a => a.ob.names) = l.flatMap KOb.names := by
      intro l
      induction l with
      | nil => intro _; rfl
      | cons x l ih =>
        intro h
        rw [List.flatMap_cons, List.flatMap_cons, KOb.ob_names (h x List.mem_cons_self), ih fun y hy => h y (List.mem_cons_of_mem _ hy)]
    exact this _ ho.new
  have hv : out.out.v.names = out.v.names := KV.pv_names ho.v
  rw [map_ev hk, kreach_eq (klook_okF hk), ← st_lookF hk, ← pvL_names hok, ← pvL_hasY hok, kstays_ok, kturns_ok, kupdNames_ok, hn, hv]
  rfl
theorem koutOf_x {o : ROper} {K : KOut → E → Option R} (hr : koutOf cfg h o ks e K = some r) : o.op.xs.all okX = true := by
  unfold koutOf at hr
  split at hr
  · rename_i hcond; exact hcond.2.1
  · cases hr
theorem kstepD_ok (hc : CfgOK cfg tab) (hh : HOk h hn) (hk : ks.Ok) {ops : List ROper} {i : Nat} {o : ROper} {K : KSt → E → Info → Option R} (hr : kstepD cfg h ops i o ks e K = some r) :
    ∃ k' e' inf, K k' e' inf = some r ∧ k'.Ok ∧ Evl fun n => stepD (machN cfg.b.sp tab n) (hn n) dep ops i o ks.st e = some (k'.st, e', inf) := by
  unfold kstepD at hr
  obtain ⟨b, k1, hr, hk1, hst, hw, _, _⟩ := kwants_ok hk hr
  cases b with
  | true =>
    simp only at hr
    have hxs := koutOf_x hr
    obtain ⟨hq, out, e', h1, h2, h3⟩ := koutOf_ok (dep := dep) hc hh hk1 hr
    rw [force_eq] at h1
    obtain ⟨s1, s2⟩ := kapply_both hk1 hq o.dst h2
    refine ⟨_, _, _, h1, s2, h3.mono fun n hn' => ?_⟩
    rw [hst] at hn' s1
    simp only [stepD, outD, hw, hn', s1]
    rw [kinfo_ok hk1 hxs h2, hst]
  | false =>
    simp only at hr
    rw [force_eq] at hr
    have := kstep_ok.kapply_sk hk1 o.dst
    refine ⟨_, _, _, hr, this.2, .of fun n => ?_⟩
    simp only [stepD, outD, hw, this.1, hst]
theorem krunsD_ok (hc : CfgOK cfg tab) (hh : HOk h hn) {ops : List ROper} : ∀ (l : List (Nat × Nat)) (infos : List Info) {ks : KSt} {e : E} {K : KSt → E → Option R}, ks.Ok → krunsD cfg h ops l infos ks e K = some r →
    ∃ k' e', K k' e' = some r ∧ k'.Ok ∧ Evl fun n => runD (machN cfg.b.sp tab n) (hn n) dep ops l infos ks.st e = some (k'.st, e') := by
  intro l
  induction l with
  | nil => intro infos ks e K hk hr; exact ⟨ks, e, hr, hk, .of fun n => rfl⟩
  | cons p rest ih =>
    obtain ⟨i, bef⟩ := p
    intro infos ks e K hk hr
    simp only [krunsD] at hr
    split at hr
    · rename_i o ho
      obtain ⟨k1, e1, inf, hr, hk1, h1⟩ := kstepD_ok (dep := dep) hc hh hk hr
      split at hr
      · rename_i hall
        obtain ⟨k2, e2, hr, hk2, h2⟩ := ih _ hk1 hr
        exact ⟨k2, e2, hr, hk2, h1.mono2 h2 fun n a b => by simp only [runD, ho, a, chk, hall, if_true, b]⟩
      · cases hr
    · cases hr
end Go.Ab


namespace Go.Ab
variable {ks : KSt}
theorem denseO_getD {nt : Nat} {l : SpO} (h : SoWf nt l) (d : Nat) : (denseO nt l).getD d [] = (soGet l d).map KOb.ob := by
  rw [List.getD_eq_getElem?_getD, denseO_get?]
  split
  · rfl
  · rw [h.get_ge (by omega)]; rfl
theorem kclean_st (h : ks.Ok) (ds : List Nat) : (kclean ds ks).st = clean ds ks.st ∧ (kclean ds ks).Ok ∧ (kclean ds ks).nt = ks.nt := by
  have hall : (ds.all fun d => (ks.st.objs.getD d []).isEmpty) = ds.all fun d => (soGet ks.objs d).isEmpty := by
    congr 1
    funext d
    show ((denseO ks.nt ks.objs).getD d []).isEmpty = _
    rw [denseO_getD h.ob]
    cases soGet ks.objs d <;> rfl
  unfold kclean clean
  rw [hall]
  split
  · exact ⟨rfl, h, rfl⟩
  · have h1 := koff_ok (fun m => ds.contains m.1) h
    have h2 := koff_st (fun m => ds.contains m.1) h
    refine ⟨?_, ⟨h1.tm, h1.ob.sub (soKeep_sub _ _), h1.kp⟩, rfl⟩
    have e : subOff (fun m => ds.contains m.1) = fun m => if ds.contains m.1 = true then some none else none := rfl
    rw [e] at h2
    simp only
    rw [← h2]
    unfold KSt.st
    simp only
    congr 1
    refine denseO_ext (by simp [denseO_length]) fun i hi => ?_
    rw [List.getElem?_map, List.getElem?_zipIdx, denseO_get?, if_pos hi, soGet_keep]
    simp only [Option.map_some, Nat.zero_add]
    cases ds.contains i <;> simp
theorem clean_congr {ds ds' : List Nat} (h : ∀ d, d ∈ ds ↔ d ∈ ds') (st : St) : clean ds st = clean ds' st := by
  have h1 : ∀ p : Nat → Bool, ds.all p = ds'.all p := fun p => by
    rw [Bool.eq_iff_iff, List.all_eq_true, List.all_eq_true]
    exact ⟨fun a x hx => a x ((h x).2 hx), fun a x hx => a x ((h x).1 hx)⟩
  have h2 : ∀ i, ds.contains i = ds'.contains i := fun i => by
    rw [Bool.eq_iff_iff, List.contains_iff_mem, List.contains_iff_mem]
    exact h i
  unfold clean
  simp only [h1, h2]
theorem namesL_flat {nm : Nm} {xs : List PV} : nm ∈ namesL xs ↔ ∃ x ∈ xs, nm ∈ x.names := by
  induction xs with
  | nil => simp [namesL]
  | cons x xs ih => simp [namesL, ih]
theorem keep_names (h : ks.Ok) (nm : Nm) : nm ∈ namesL ks.st.keep ↔ nm ∈ ks.keep.flatMap spNames := by
  rw [namesL_flat]
  show (∃ x ∈ ks.keep.flatMap (dense ks.nt), nm ∈ x.names) ↔ _
  simp only [List.mem_flatMap]
  constructor
  · rintro ⟨x, ⟨sp, hsp, hx⟩, hn⟩
    exact ⟨sp, hsp, (dense_names (h.kp sp hsp) nm).1 (namesL_flat.2 ⟨x, hx, hn⟩)⟩
  · rintro ⟨sp, hsp, hn⟩
    obtain ⟨x, hx, hn⟩ := namesL_flat.1 ((dense_names (h.kp sp hsp) nm).2 hn)
    exact ⟨x, ⟨sp, hsp, hx⟩, hn⟩
theorem kunnamed_iff (h : ks.Ok) (d : Nat) : d ∈ unnamed ks.st ↔ d ∈ kunnamed ks := by
  have hR : ∀ p : Nm → Bool, (namesL ks.st.tmps ++ namesL ks.st.keep ++ ks.st.objs.flatMap fun l => l.flatMap Ob.names).all p = (spNames ks.tmps ++ ks.keep.flatMap spNames ++ soNames ks.objs).all p := by
    intro p
    have e1 : ∀ nm, nm ∈ namesL ks.st.tmps ↔ nm ∈ spNames ks.tmps := fun nm => dense_names h.tm nm
    have e2 := keep_names h
    have e3 : ∀ nm, nm ∈ (ks.st.objs.flatMap fun l => l.flatMap Ob.names) ↔ nm ∈ soNames ks.objs := fun nm => denseO_names h.ob nm
    rw [Bool.eq_iff_iff, List.all_eq_true, List.all_eq_true]
    refine ⟨fun a x hx => a x ?_, fun a x hx => a x ?_⟩
    · simp only [List.mem_append] at hx ⊢
      rw [e1, e2, e3]; exact hx
    · simp only [List.mem_append] at hx ⊢
      rw [← e1, ← e2, ← e3]; exact hx
  unfold unnamed kunnamed
  simp only [List.mem_filter, List.mem_range, List.mem_map, hR, Bool.and_eq_true]
  have hget : ks.st.objs.getD d [] = (soGet ks.objs d).map KOb.ob := denseO_getD h.ob d
  rw [hget]
  constructor
  · rintro ⟨_, h1, h2⟩
    have hne : soGet ks.objs d ≠ [] := by intro e; rw [e] at h1; simp at h1
    refine ⟨_, ⟨soGet_mem hne, ?_, h2⟩, rfl⟩
    simpa using hne
  · rintro ⟨p, ⟨hp, h1, h2⟩, rfl⟩
    have := h.ob.get_mem hp
    have hlt := h.ob.lt p hp
    refine ⟨?_, ?_, h2⟩
    · show p.1 < (denseO ks.nt ks.objs).length
      rw [denseO_length]; exact hlt
    · rw [this]; simpa using h1
theorem kkeep_st (h : ks.Ok) (p : Nat → Bool) : ({ ks with tmps := spKeep p ks.tmps } : KSt).st = { ks.st with tmps := ks.st.tmps.zipIdx.map fun (v, i) => if p i then v else .undef } ∧ ({ ks with tmps := spKeep p ks.tmps } : KSt).Ok := by
  refine ⟨?_, h.tm.sub (spKeep_sub _ _), h.ob, h.kp⟩
  unfold KSt.st
  simp only
  congr 1
  refine dense_ext (by simp [dense_length]) fun i hi => ?_
  rw [List.getElem?_map, List.getElem?_zipIdx, dense_get?, if_pos hi, spGet_keep]
  simp only [Option.map_some, Nat.zero_add]
  cases p i <;> rfl
theorem ktidy_st (h : ks.Ok) (lv : Option (List Nat)) : (ktidy lv ks).st = tidy lv ks.st ∧ (ktidy lv ks).Ok := by
  cases lv with
  | none => exact ⟨rfl, h⟩
  | some l =>
    unfold ktidy tidy keepOnly
    simp only
    obtain ⟨h1, h2⟩ := kkeep_st h (fun i => l.contains i)
    obtain ⟨h3, h4, _⟩ := kclean_st h2 (kunnamed { ks with tmps := spKeep (fun i => l.contains i) ks.tmps })
    refine ⟨?_, h4⟩
    rw [h3, ← h1]
    exact clean_congr (fun d => (kunnamed_iff h2 d).symm) _
theorem leaves_self_cv {v : PV} : leaves (.cv v) (.cv v) = [v] := rfl
theorem noUndef_mem {l : Sp} (h : noUndef (leavesSp l l) = true) {i : Nat} {v : PV} (hm : (i, KV.cv v) ∈ l) : isUndef v = false := by
  unfold noUndef at h
  induction l with
  | nil => cases hm
  | cons p l ih =>
    obtain ⟨k, u⟩ := p
    simp only [leavesSp, List.all_append, Bool.and_eq_true] at h
    rcases List.mem_cons.1 hm with e | hm
    · cases e
      have := h.1
      rw [leaves_self_cv] at this
      simpa using this
    · exact ih h.2 hm
theorem undefs_iff {k0 : KSt} (h0 : k0.Ok) (hu : noUndef (leavesSp k0.tmps k0.tmps) = true) {i : Nat} (hi : i < k0.nt) : (undefs k0.st).contains i = !spHas k0.tmps i := by
  have hmem : i ∈ undefs k0.st ↔ isUndef (spGet k0.tmps i).pv = true := by
    unfold undefs
    simp only [List.mem_map, List.mem_filter]
    constructor
    · rintro ⟨⟨v, j⟩, ⟨hv, hq⟩, rfl⟩
      have := List.mem_zipIdx hv
      rw [List.mem_zipIdx_iff_getElem?] at hv
      simp only at hv
      have e : (dense k0.nt k0.tmps)[j]? = some v := hv
      rw [dense_get?, if_pos hi] at e
      cases e
      exact hq
    · intro hq
      refine ⟨((spGet k0.tmps i).pv, i), ⟨?_, hq⟩, rfl⟩
      rw [List.mem_zipIdx_iff_getElem?]
      show (dense k0.nt k0.tmps)[i]? = _
      rw [dense_get?, if_pos hi]
  rw [Bool.eq_iff_iff, List.contains_iff_mem, hmem]
  cases hh : spHas k0.tmps i with
  | false =>
    have : spGet k0.tmps i = .un := by
      apply Classical.byContradiction
      intro hne
      rw [(h0.tm.has_iff i).2 hne] at hh; cases hh
    simp [this, KV.pv, isUndef]
  | true =>
    have hne := (h0.tm.has_iff i).1 hh
    have hm := spGet_mem hne
    simp only [Bool.not_true, Bool.false_eq_true, iff_false]
    intro hq
    cases hg : spGet k0.tmps i with
    | un => exact hne hg
    | cv v =>
      rw [hg] at hm hq
      have := noUndef_mem hu hm
      simp only [KV.pv] at hq
      rw [this] at hq; cases hq
    | _ => rw [hg] at hq; simp [KV.pv, isUndef] at hq
theorem kdrop_st {k0 : KSt} (h0 : k0.Ok) (hu : noUndef (leavesSp k0.tmps k0.tmps) = true) (h : ks.Ok) (hnt : ks.nt = k0.nt) : (kdrop k0 ks).st = drop (undefs k0.st) ks.st ∧ (kdrop k0 ks).Ok ∧ (kdrop k0 ks).nt = ks.nt := by
  unfold kdrop drop
  simp only
  obtain ⟨h1, h2⟩ := kkeep_st h (spHas k0.tmps)
  obtain ⟨h3, h4, h5⟩ := kclean_st h2 (kunnamed { ks with tmps := spKeep (spHas k0.tmps) ks.tmps })
  refine ⟨?_, h4, h5⟩
  have h6 : undefAt (undefs k0.st) ks.st = ({ ks with tmps := spKeep (spHas k0.tmps) ks.tmps } : KSt).st := by
    rw [h1]
    unfold undefAt
    congr 1
    apply List.map_congr_left
    rintro ⟨v, i⟩ hm
    have hi : i < k0.nt := by
      rw [List.mem_zipIdx_iff_getElem?] at hm
      have e : (dense ks.nt ks.tmps)[i]? = some v := hm
      rw [dense_get?] at e
      split at e
      · omega
      · cases e
    simp only [undefs_iff h0 hu hi]
    cases spHas k0.tmps i <;> rfl
  rw [h3, h6]
  exact clean_congr (fun d => (kunnamed_iff h2 d).symm) _
theorem kempty_ok (h : ks.Ok) (t : Nat) : emptyAt ks.st t = kempty ks t := by
  unfold emptyAt kempty
  show (match (denseO ks.nt ks.objs)[t]? with | some [] => true | _ => false) = _
  rw [denseO_get?]
  by_cases ht : t < ks.nt
  · rw [if_pos ht]
    have : Nat.blt t ks.nt = true := by simpa [Nat.blt_eq] using ht
    rw [this]
    cases soGet ks.objs t <;> rfl
  · rw [if_neg ht]
    have : Nat.blt t ks.nt = false := by
      cases hb : Nat.blt t ks.nt with
      | false => rfl
      | true => exact absurd (by simpa [Nat.blt_eq] using hb) ht
    rw [this]; rfl
theorem kempty_lt {t : Nat} (h : kempty ks t = true) : t < ks.nt := by
  unfold kempty at h
  simp only [Bool.and_eq_true, Nat.blt_eq] at h
  exact h.1
theorem krehomeTo_st (h : ks.Ok) (t : Nat) (nm : Nm) : (krehomeTo t ks nm).st = (if nm ≠ (t, 0) ∧ emptyAt ks.st t = true then
      match look ks.st.objs nm with
      | some ob =>
        let f : Nm → Nm := fun m => if m = nm then (t, 0) else m
        let objs := ks.st.objs.map (·.map (Ob.ren f))
        { tmps := renL f ks.st.tmps, objs := (putOb objs nm dead).set t [ob.ren f], keep := renL f ks.st.keep }
      | none => ks.st
    else ks.st) ∧ (krehomeTo t ks nm).Ok ∧ (krehomeTo t ks nm).nt = ks.nt := by
  unfold krehomeTo
  rw [kempty_ok h]
  by_cases hc : nm ≠ (t, 0) ∧ kempty ks t = true
  · rw [if_pos hc, if_pos hc, st_look h]
    cases hl : klook ks.objs nm with
    | none => exact ⟨rfl, h, rfl⟩
    | some ob =>
      simp only [Option.map_some]
      have hoo := klook_ok h.ob hl
      have ht := kempty_lt hc.2
      let f : Nm → Nm := fun m => if m = nm then (t, 0) else m
      have hm : SoWf ks.nt (soMap (KOb.ren f) ks.objs) := h.ob.map fun x hx => KOb.ren_ok f hx
      refine ⟨?_, ⟨h.tm.map fun x hx => KV.ren_ok f hx, (hm.kput nm (o := kdead) rfl).put ht fun o ho => by
        simp only [List.mem_singleton] at ho; subst ho; exact KOb.ren_ok f hoo, fun sp hsp => ?_⟩, by trivial⟩
      · unfold KSt.st
        simp only
        rw [dense_ren h.tm, denseO_put, denseO_kput hm, denseO_map h.ob (fun o ho => KOb.ren_ob f ho),
          flat_map (g := renL f) rfl (renL_append f) fun sp hsp => dense_ren (h.kp sp hsp) f]
        have hren := KOb.ren_ob (fun m => if m = nm then (t, 0) else m) hoo
        simp only [List.map_cons, List.map_nil, hren]
        rfl
      · obtain ⟨q, hq, rfl⟩ := List.mem_map.1 hsp
        exact (h.kp q hq).map fun x hx => KV.ren_ok f hx
  · rw [if_neg hc, if_neg hc]; exact ⟨rfl, h, rfl⟩
theorem krehome_st (h : ks.Ok) (t : Nat) : (krehome1 t ks).st = rehome1 t ks.st ∧ (krehome1 t ks).Ok ∧ (krehome1 t ks).nt = ks.nt := by
  have hget : ks.st.tmps.getD t .undef = (spGet ks.tmps t).pv := dense_getD h.tm t
  have hokt := h.tm.get_ok t
  unfold krehome1 rehome1
  rw [hget]
  cases hg : spGet ks.tmps t with
  | arr nm k o n => exact krehomeTo_st h t nm
  | wit nm => exact krehomeTo_st h t nm
  | cv v =>
    rw [hg] at hokt
    have hv : okV v = true := hokt
    simp only [KV.pv]
    cases v <;> first | (simp [okV] at hv; done) | exact ⟨rfl, h, trivial⟩ 
  | _ => exact ⟨rfl, h, rfl⟩
theorem st_objs_getD (h : ks.Ok) (d : Nat) : ks.st.objs.getD d [] = (soGet ks.objs d).map KOb.ob := denseO_getD h.ob d
theorem kgrown_st (h : ks.Ok) {nm : Nm} {ty : Nat} {cs : List KV} (hl : klook ks.objs nm = some (.cells ty cs)) (i k : Nat) : (kgrown nm ty cs i k ks).Ok ∧ (kgrown nm ty cs i k ks).nt = ks.nt ∧ (kgrown nm ty cs i k ks).st = { ks.st with objs := ks.st.objs.set nm.1 ((ks.st.objs.getD nm.1 []).set nm.2 (.cells ty ((pvL cs).set i (.arr (nm.1, (ks.st.objs.getD nm.1 []).length) k 0 0))) ++ [.arr k 0 []]) } := by
  have hlt := klook_lt h.ob hl
  have hcs : okKL cs := klook_ok h.ob hl
  have hset : okKL (cs.set i (.arr (nm.1, (soGet ks.objs nm.1).length) k 0 0)) := okKL_mem.2 fun x hx => by
    rcases List.mem_or_eq_of_mem_set hx with hx | hx
    · exact okKL_mem.1 hcs x hx
    · subst hx; trivial
  unfold kgrown
  refine ⟨⟨h.tm, h.ob.put hlt fun o ho => ?_, h.kp⟩, rfl, ?_⟩
  · rcases List.mem_append.1 ho with ho | ho
    · rcases List.mem_or_eq_of_mem_set ho with ho | ho
      · exact h.ob.get_ok ho
      · subst ho; exact hset
    · simp only [List.mem_singleton] at ho; subst ho; rfl
  · rw [st_objs_getD h]
    unfold KSt.st
    simp only
    rw [denseO_put, List.map_append, List.map_set]
    simp only [List.map_cons, List.map_nil, KOb.ob, pvL_map, List.map_set, KV.pv, List.length_map]
theorem kgrowMove_st (h : ks.Ok) (nm m : Nm) (hlt : nm.1 < ks.nt) : (kgrowMove nm m ks).Ok ∧ (kgrowMove nm m ks).nt = ks.nt ∧ (kgrowMove nm m ks).st = (if m.1 ≠ nm.1 then
      match look ks.st.objs m with
      | some ob =>
        let f : Nm → Nm := fun x => if x = m then (nm.1, (ks.st.objs.getD nm.1 []).length) else x
        let objs := putOb (ks.st.objs.map (·.map (Ob.ren f))) m dead
        { tmps := renL f ks.st.tmps, objs := objs.set nm.1 (objs.getD nm.1 [] ++ [ob.ren f]), keep := renL f ks.st.keep }
      | none => ks.st
    else ks.st) := by
  unfold kgrowMove
  by_cases hm : m.1 ≠ nm.1
  · rw [if_pos hm, if_pos hm, st_look h]
    cases hl : klook ks.objs m with
    | none => exact ⟨h, rfl, rfl⟩
    | some ob =>
      simp only [Option.map_some]
      have hoo := klook_ok h.ob hl
      rw [st_objs_getD h, List.length_map]
      generalize hf : (fun x : Nm => if x = m then (nm.1, (soGet ks.objs nm.1).length) else x) = f
      have hmp : SoWf ks.nt (soMap (KOb.ren f) ks.objs) := h.ob.map fun x hx => KOb.ren_ok f hx
      have hkp : SoWf ks.nt (kput (soMap (KOb.ren f) ks.objs) m kdead) := hmp.kput m (o := kdead) rfl
      refine ⟨⟨h.tm.map fun x hx => KV.ren_ok f hx, hkp.put hlt fun o ho => ?_, fun sp hsp => ?_⟩, by trivial, ?_⟩
      · rcases List.mem_append.1 ho with ho | ho
        · exact hkp.get_ok ho
        · simp only [List.mem_singleton] at ho; subst ho; exact KOb.ren_ok f hoo
      · obtain ⟨q, hq, rfl⟩ := List.mem_map.1 hsp
        exact (h.kp q hq).map fun x hx => KV.ren_ok f hx
      · have hobj : denseO ks.nt (kput (soMap (KOb.ren f) ks.objs) m kdead) = putOb (ks.st.objs.map (·.map (Ob.ren f))) m dead := by
          rw [denseO_kput hmp, denseO_map h.ob (fun o ho => KOb.ren_ob f ho)]
          rfl
        rw [← hobj, denseO_getD hkp]
        unfold KSt.st
        simp only
        rw [dense_ren h.tm, denseO_put, flat_map (g := renL f) rfl (renL_append f) fun sp hsp => dense_ren (h.kp sp hsp) f]
        have hren := KOb.ren_ob f hoo
        simp only [List.map_append, List.map_cons, List.map_nil, hren]
  · rw [if_neg hm, if_neg hm]; exact ⟨h, rfl, rfl⟩
theorem kgrowCell_st {R : Type} {r : R} (h : ks.Ok) {nm : Nm} {ty : Nat} {cs : List KV} (hl : klook ks.objs nm = some (.cells ty cs)) {i k : Nat} {K : KSt → Option R} (hr : kgrowCell nm ty cs i k ks K = some r) : ∃ k', K k' = some r ∧ k'.Ok ∧ k'.nt = ks.nt ∧ k'.st = growCell nm ty (pvL cs) i k ks.st := by
  have hlt := klook_lt h.ob hl
  have hcs : okKL cs := klook_ok h.ob hl
  unfold kgrowCell at hr
  unfold growCell
  simp only [pvL_get?]
  cases hc : cs[i]? with
  | none => rw [hc] at hr; exact ⟨_, hr, h, rfl, rfl⟩
  | some x =>
    rw [hc] at hr
    cases x with
    | nils =>
      obtain ⟨a, b, c⟩ := kgrown_st h hl i k
      exact ⟨_, hr, a, b, c⟩
    | arr m _ _ _ =>
      obtain ⟨a, b, c⟩ := kgrowMove_st h nm m hlt
      exact ⟨_, hr, a, b, c⟩
    | wit m =>
      obtain ⟨a, b, c⟩ := kgrowMove_st h nm m hlt
      exact ⟨_, hr, a, b, c⟩
    | cv v =>
      have hv : okV v = true := okKL_mem.1 hcs _ (List.mem_of_getElem? hc)
      simp only [Option.map_some, KV.pv]
      unfold nilO at hr
      obtain ⟨a, b, c⟩ := kgrown_st h hl i k
      cases v <;> first | (simp [okV] at hv; done) | exact ⟨_, hr, a, b, c⟩ | (cases hr; done)
    | _ => exact ⟨_, hr, h, rfl, rfl⟩
theorem kgrowC_st {R : Type} {r : R} (h : ks.Ok) {x off k : Nat} {K : KSt → Option R} (hr : kgrowC x off k ks K = some r) : ∃ k', K k' = some r ∧ k'.Ok ∧ k'.nt = ks.nt ∧ k'.st = growC x off k ks.st := by
  have hget : ks.st.tmps.getD x .undef = (spGet ks.tmps x).pv := dense_getD h.tm x
  have hokt := h.tm.get_ok x
  unfold kgrowC at hr
  unfold growC
  rw [hget]
  cases hg : spGet ks.tmps x with
  | ref nm o =>
    rw [hg] at hr
    simp only [KV.pv] at hr ⊢
    rw [st_look h]
    cases hl : klook ks.objs nm with
    | none => rw [hl] at hr; exact ⟨_, hr, h, rfl, rfl⟩
    | some ob =>
      rw [hl] at hr
      cases ob with
      | cells ty cs => exact kgrowCell_st h hl hr
      | whole ty v =>
        have hv : okV v = true := klook_ok h.ob hl
        have hvl : okVL (cellsP v) = true := okV_cells hv
        simp only [Option.map_some, KOb.ob] at hr ⊢
        unfold chkO at hr
        cases hn : notNilAt v (o + off) with
        | false => rw [hn] at hr; cases hr
        | true =>
          rw [hn] at hr
          refine ⟨_, hr, h, rfl, ?_⟩
          unfold notNilAt at hn
          unfold growCell
          show ks.st = match (cellsP v)[o + off]? with | some .nilS => _ | some (.arr m _ _ _) => _ | _ => _
          have e : cellsP v = v.cells := rfl
          rw [e] at hvl ⊢
          cases hc : v.cells[o + off]? with
          | none => rfl
          | some y =>
            rw [hc] at hn
            have hy := okVL_get hvl hc
            cases y <;> first | (simp at hn; done) | (simp [okV] at hy; done) | rfl
      | _ => exact ⟨_, hr, h, rfl, rfl⟩
  | cv v =>
    rw [hg] at hr hokt
    have hv : okV v = true := hokt
    simp only [KV.pv]
    cases v <;> first | (simp [okV] at hv; done) | exact ⟨_, hr, h, rfl, rfl⟩
  | _ => rw [hg] at hr; exact ⟨_, hr, h, rfl, rfl⟩
theorem kgrow_st {R : Type} {r : R} (h : ks.Ok) {t k : Nat} {K : KSt → Option R} (hr : kgrow1 t k ks K = some r) : ∃ k', K k' = some r ∧ k'.Ok ∧ k'.nt = ks.nt ∧ k'.st = grow1 t k ks.st := by
  have hget : ks.st.tmps.getD t .undef = (spGet ks.tmps t).pv := dense_getD h.tm t
  unfold kgrow1 at hr
  unfold grow1
  by_cases hb : gcBase ≤ t
  · rw [if_pos hb] at hr ⊢
    exact kgrowC_st h hr
  rw [if_neg hb] at hr ⊢
  rw [hget]
  cases hg : spGet ks.tmps t with
  | nils =>
    rw [hg] at hr
    simp only [KV.pv]
    rw [kempty_ok h]
    by_cases hc : kempty ks t = true
    · rw [if_pos hc] at hr
      rw [if_pos hc]
      have ht := kempty_lt hc
      refine ⟨_, hr, ⟨h.tm.put ht trivial rfl, h.ob.put ht fun o ho => ?_, h.kp⟩, rfl, ?_⟩
      · simp only [List.mem_singleton] at ho; subst ho; rfl
      · unfold KSt.st
        simp only
        rw [dense_put, denseO_put]
        rfl
    · rw [if_neg hc] at hr
      rw [if_neg hc]
      exact ⟨_, hr, h, rfl, rfl⟩
  | cv v =>
    rw [hg] at hr
    simp only at hr
    unfold notNil at hr
    simp only [KV.pv]
    cases v <;> first | exact ⟨_, hr, h, rfl, rfl⟩ | cases hr
  | _ => rw [hg] at hr; exact ⟨_, hr, h, rfl, rfl⟩
theorem kgrows_st {R : Type} {r : R} : ∀ (l : List (Nat × Nat)) {ks : KSt} {K : KSt → Option R}, ks.Ok → kgrows l ks K = some r → ∃ k', K k' = some r ∧ k'.Ok ∧ k'.nt = ks.nt ∧ k'.st = l.foldl (fun st (p : Nat × Nat) => grow1 p.1 p.2 st) ks.st := by
  intro l
  induction l with
  | nil => intro ks K h hr; exact ⟨ks, hr, h, rfl, rfl⟩
  | cons p l ih =>
    obtain ⟨t, k⟩ := p
    intro ks K h hr
    simp only [kgrows] at hr
    obtain ⟨k1, hr, h1, n1, s1⟩ := kgrow_st h hr
    obtain ⟨k2, hr, h2, n2, s2⟩ := ih h1 hr
    exact ⟨k2, hr, h2, n2.trans n1, by rw [s2, s1]; rfl⟩
theorem krehomes_st : ∀ (l : List Nat) {ks : KSt}, ks.Ok → (l.foldl (fun ks t => krehome1 t ks) ks).Ok ∧ (l.foldl (fun ks t => krehome1 t ks) ks).nt = ks.nt ∧ (l.foldl (fun ks t => krehome1 t ks) ks).st = l.foldl (fun st t => rehome1 t st) ks.st := by
  intro l
  induction l with
  | nil => intro ks h; exact ⟨h, rfl, rfl⟩
  | cons t l ih =>
    intro ks h
    simp only [List.foldl_cons]
    obtain ⟨a, b, c⟩ := krehome_st h t
    obtain ⟨d, e, f⟩ := ih b
    exact ⟨d, e.trans c, by rw [f, a]⟩
theorem undefAt_self (st : St) : undefAt (undefs st) st = st := by
  obtain ⟨t, o, k⟩ := st
  unfold undefAt
  congr 1
  apply List.ext_getElem?
  intro i
  rw [List.getElem?_map, List.getElem?_zipIdx]
  cases hg : t[i]? with
  | none => rfl
  | some v =>
    simp only [Option.map_some, Nat.zero_add, Option.some.injEq]
    split
    · rename_i hc
      rw [List.contains_iff_mem] at hc
      unfold undefs at hc
      simp only [List.mem_map, List.mem_filter] at hc
      obtain ⟨⟨u, j⟩, ⟨hm, hu⟩, he⟩ := hc
      rw [List.mem_zipIdx_iff_getElem?] at hm
      simp only at he hm hu
      subst he
      rw [hg] at hm
      cases hm
      cases v <;> simp_all [isUndef]
    · rfl
theorem knorm_st {R : Type} {r : R} (h : ks.Ok) {asg : List Nat} {grow : List (Nat × Nat)} {K : KSt → Option R} (hr : knorm asg grow ks K = some r) : ∃ k', K k' = some r ∧ k'.Ok ∧ k'.nt = ks.nt ∧ k'.st = norm asg grow ks.st := by
  unfold knorm at hr
  obtain ⟨a, b, c⟩ := krehomes_st asg h
  obtain ⟨k', hr, h1, n1, s1⟩ := kgrows_st grow a hr
  obtain ⟨d1, d2, d3⟩ := kclean_st h1 (kunnamed k')
  refine ⟨_, hr, d2, d3.trans (n1.trans b), ?_⟩
  have e : k'.st = norm0 asg grow ks.st := by rw [s1, c]; rfl
  unfold norm drop
  rw [d1, ← e, undefAt_self]
  exact clean_congr (fun d => (kunnamed_iff h1 d).symm) _
theorem fillSp_ok : ∀ {nt : Nat} (ps xs : Sp), fitSp ps xs = true → SpWf nt ps → SpWf nt xs → ∀ (vs : List PV) (i : Nat), Seg vs i (leavesSp ps xs) →
    (∀ j, (spGet (fillSp ps vs i).1 j).pv = (spGet xs j).pv) ∧ SpWf nt (fillSp ps vs i).1 ∧ (fillSp ps vs i).1.map (·.1) = ps.map (·.1) ∧ (fillSp ps vs i).2 = i + (leavesSp ps xs).length
  | nt, [], [], _, _, _, vs, i, _ => ⟨fun _ => rfl, .nil nt, rfl, rfl⟩
  | _, [], _ :: _, h, _, _, _, _, _ => by simp [fitSp] at h
  | _, _ :: _, [], h, _, _, _, _, _ => by simp [fitSp] at h
  | nt, (j1, p) :: ps, (j2, x) :: xs, h, hp, hx, vs, i, hs => by
    simp only [fitSp, Bool.and_eq_true] at h
    simp only [leavesSp] at hs
    have hj := Nat.eq_of_beq_eq_true h.1
    subst hj
    obtain ⟨a, b, c⟩ := fill_ok p x h.2.1 (hx.ok (j1, x) (by simp)) vs i hs.left
    obtain ⟨a', b', k', c'⟩ := fillSp_ok ps xs h.2.2 hp.tail hx.tail vs (fill p vs i).2 (by rw [c]; exact hs.right)
    refine ⟨?_, ⟨?_, ?_, ?_, ?_⟩, by simp [fillSp, k'], ?_⟩
    · intro j
      simp only [fillSp, spGet]
      cases Nat.beq j j1 with
      | true => exact a
      | false => exact a' j
    · simp only [fillSp, List.map_cons]
      rw [k']
      exact hp.srt
    · intro q hq
      simp only [fillSp, List.mem_cons] at hq
      rcases hq with rfl | hq
      · exact hp.lt (j1, p) (by simp)
      · exact b'.lt q hq
    · intro q hq
      simp only [fillSp, List.mem_cons] at hq
      rcases hq with rfl | hq
      · exact b
      · exact b'.ok q hq
    · intro q hq
      simp only [fillSp, List.mem_cons] at hq
      rcases hq with rfl | hq
      · exact un_fill (hp.nu (j1, p) (by simp))
      · exact b'.nu q hq
    · simp only [fillSp, leavesSp, List.length_append]
      rw [c', c]
      omega
theorem fillSo_ok : ∀ {nt : Nat} (ps xs : SpO), fitSo ps xs = true → SoWf nt ps → SoWf nt xs → ∀ (vs : List PV) (i : Nat), Seg vs i (leavesSo ps xs) →
    (∀ j, (soGet (fillSo ps vs i).1 j).map KOb.ob = (soGet xs j).map KOb.ob) ∧ SoWf nt (fillSo ps vs i).1 ∧ (fillSo ps vs i).1.map (·.1) = ps.map (·.1) ∧ (fillSo ps vs i).2 = i + (leavesSo ps xs).length
  | nt, [], [], _, _, _, vs, i, _ => ⟨fun _ => rfl, .nil nt, rfl, rfl⟩
  | _, [], _ :: _, h, _, _, _, _, _ => by simp [fitSo] at h
  | _, _ :: _, [], h, _, _, _, _, _ => by simp [fitSo] at h
  | nt, (j1, p) :: ps, (j2, x) :: xs, h, hp, hx, vs, i, hs => by
    simp only [fitSo, Bool.and_eq_true] at h
    simp only [leavesSo] at hs
    have hj := Nat.eq_of_beq_eq_true h.1
    subst hj
    obtain ⟨a, b, c⟩ := fillObL_ok p x h.2.1 (hx.ok (j1, x) (by simp)) vs i hs.left
    obtain ⟨a', b', k', c'⟩ := fillSo_ok ps xs h.2.2 hp.tail hx.tail vs (fillObL p vs i).2 (by rw [c]; exact hs.right)
    refine ⟨?_, ⟨?_, ?_, ?_⟩, by simp [fillSo, k'], ?_⟩
    · intro j
      simp only [fillSo, soGet]
      cases Nat.beq j j1 with
      | true => exact a
      | false => exact a' j
    · simp only [fillSo, List.map_cons]
      rw [k']
      exact hp.srt
    · intro q hq
      simp only [fillSo, List.mem_cons] at hq
      rcases hq with rfl | hq
      · exact hp.lt (j1, p) (by simp)
      · exact b'.lt q hq
    · intro q hq
      simp only [fillSo, List.mem_cons] at hq
      rcases hq with rfl | hq
      · exact b
      · exact b'.ok q hq
    · simp only [fillSo, leavesSo, List.length_append]
      rw [c', c]
      omega
theorem fillKp_ok : ∀ {nt : Nat} (ps xs : List Sp), fitKp ps xs = true → (∀ p ∈ ps, SpWf nt p) → (∀ x ∈ xs, SpWf nt x) → ∀ (vs : List PV) (i : Nat), Seg vs i (leavesKp ps xs) →
    (fillKp ps vs i).1.flatMap (dense nt) = xs.flatMap (dense nt) ∧ (∀ p ∈ (fillKp ps vs i).1, SpWf nt p)
  | nt, [], [], _, _, _, vs, i, _ => ⟨rfl, by simp [fillKp]⟩
  | _, [], _ :: _, h, _, _, _, _, _ => by simp [fitKp] at h
  | _, _ :: _, [], h, _, _, _, _, _ => by simp [fitKp] at h
  | nt, p :: ps, x :: xs, h, hp, hx, vs, i, hs => by
    simp only [fitKp, Bool.and_eq_true] at h
    simp only [leavesKp] at hs
    obtain ⟨a, b, _, c⟩ := fillSp_ok p x h.1 (hp p (by simp)) (hx x (by simp)) vs i hs.left
    obtain ⟨a', b'⟩ := fillKp_ok ps xs h.2 (fun q hq => hp q (by simp [hq])) (fun q hq => hx q (by simp [hq])) vs (fillSp p vs i).2 (by rw [c]; exact hs.right)
    refine ⟨?_, ?_⟩
    · simp only [fillKp, List.flatMap_cons, a']
      congr 1
      unfold dense
      exact List.map_congr_left fun j _ => a j
    · intro q hq
      simp only [fillKp, List.mem_cons] at hq
      rcases hq with rfl | hq
      · exact b
      · exact b' q hq
theorem fillSt_ok {p x : KSt} (h : fitSt p x = true) (hp : p.Ok) (hx : x.Ok) : (fillSt p (leavesSt p x)).st = x.st ∧ (fillSt p (leavesSt p x)).Ok ∧ (fillSt p (leavesSt p x)).nt = p.nt ∧ p.nt = x.nt := by
  unfold fitSt at h
  simp only [Bool.and_eq_true] at h
  obtain ⟨h0, h1, h2, h3⟩ := h
  have hnt := Nat.eq_of_beq_eq_true h0
  have hs := Seg.all (leavesSt p x)
  unfold leavesSt at hs
  have hx1 : SpWf p.nt x.tmps := hnt ▸ hx.tm
  have hx2 : SoWf p.nt x.objs := hnt ▸ hx.ob
  have hx3 : ∀ sp ∈ x.keep, SpWf p.nt sp := hnt ▸ hx.kp
  obtain ⟨a1, b1, _, c1⟩ := fillSp_ok p.tmps x.tmps h1 hp.tm hx1 _ 0 hs.left.left
  have hs2 := hs.left.right
  obtain ⟨a2, b2, _, c2⟩ := fillSo_ok p.objs x.objs h2 hp.ob hx2 (leavesSt p x) (fillSp p.tmps (leavesSt p x) 0).2 (by unfold leavesSt; rw [c1]; exact hs2)
  have hs3 := hs.right
  obtain ⟨a3, b3⟩ := fillKp_ok p.keep x.keep h3 hp.kp hx3 (leavesSt p x) (fillSo p.objs (leavesSt p x) (fillSp p.tmps (leavesSt p x) 0).2).2 (by
    unfold leavesSt at c2 ⊢
    rw [c2, c1]
    simp only [List.length_append] at hs3
    rw [Nat.zero_add] at hs3 ⊢
    exact hs3)
  refine ⟨?_, ⟨b1, b2, b3⟩, rfl, hnt⟩
  unfold KSt.st fillSt
  simp only
  rw [← hnt, a3]
  congr 1
  · unfold dense; exact List.map_congr_left fun j _ => a1 j
  · unfold denseO; exact List.map_congr_left fun j _ => a2 j
end Go.Ab

