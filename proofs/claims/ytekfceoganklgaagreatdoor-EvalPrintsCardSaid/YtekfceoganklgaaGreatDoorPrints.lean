/-
  EvalPrints: results print as the document has it, and which are the same is so.
  For every input the law returns true, and leaves its arguments as they were. Conditions: the package variables of the library that the row lists hold at the start what the text of the library lays (the card ties them).
-/
import Derived.Test.YtekfceoganklgaaGreatDoorK46
import Derived.Test.YtekfceoganklgaaGreatDoorK47
import Derived.Test.YtekfceoganklgaaGreatDoorK48
import Derived.Test.YtekfceoganklgaaGreatDoorK49
import Derived.Test.YtekfceoganklgaaGreatDoorK50
import Derived.Test.YtekfceoganklgaaGreatDoorK51
import Derived.Test.YtekfceoganklgaaGreatDoorCards
import Derived.Test.YtekfceoganklgaaGreatDoorTie
import Derived.SevenTiedAt
set_option linter.all false
namespace Go.Proofs.YtekfceoganklgaaGreatDoor
open Go Go.Ab Go.Ab.mm Go.Proofs Go.ChangeShapes Go.WideShapes Go.RowKit

set_option maxRecDepth 100000 in
theorem sz (os : Os) (started : os.Started) (zzb : Type) (BC : TypeId × Value → zzb) :
    ReturnsInHanded {} Tryz.checked os 3 .any (fun w args => (Rows.evalPrintsSpec.pre BC Tryz.prog Tryz.f3 [] false w args ∧ laidMetH Tryz.prog Rows.evalPrintsRow.laid w) ∧ sizedMet BC Tryz.prog Tryz.f3 (OpenSpec.ofChange Rows.evalPrintsSpec) false w args)
      (Rows.evalPrintsSpec.post BC Tryz.prog Tryz.f3 false true false false) := by
  refine cW (C := Tryz.checked) (X := fun w _ => laidMetH Tryz.prog Rows.evalPrintsRow.laid w) (fun _ _ _ hh h => h.of_heap hh) p_own started (by kernel_rfl) Tryz.func3
    (ChangeSpec.witness_at (enc := BC) (C := Tryz.checked) (os := os) (X := fun w _ => laidMetH Tryz.prog Rows.evalPrintsRow.laid w) false (YM os) #[.slice none 0 0, .slice none 0 0] 8 rfl (by kernel_rfl) (by kernel_rfl) (by kernel_rfl) (by kernel_rfl) (by kernel_rfl) (dn os _)) ?_
  intro W base args ds gs before hval0 hW hL hSh
  have qj : ∀ (j : Nat) t v, Tryz.f3.params[j]? = some t → args[j]? = some v → Value.okWide Tryz.prog W .any base t v := hval0
  have hW' := hW
  obtain ⟨p, q, hA0, hV, rfl, tq, pj⟩ := hW
  have hA : DataW.TrodAll BC Tryz.prog W 0 (fun _ => true) true Tryz.f3.params.toList args.toList ds p := hA0
  rw [Tryz.params3] at hA qj
  have hA2 := hA
  obtain ⟨v0, v1, d0, d1, p0, p1, rfl, rfl, rfl, g0, g1⟩ := trodAll_two hA
  obtain ⟨rfl, rfl⟩ := trodVars_none hV
  clear hA0 hval0
  simp only [List.append_nil] at hW'
  obtain ⟨us, tw, mG⟩ := ay (lp := fun _ => none) (I := fun b => b < W.heap.size) (fun _ h => h) (m := 12) (base := base) [.slice J4, .slice J4] [22, 22] _ _ _ (by kernel_rfl) (fun j t v U H => qj j t v (by simpa using U) (by simpa using H)) hA2
  obtain ⟨ha, hl, hr⟩ := dT us tw
  have hc := zcN (g := 3) rfl ha hl hr (w := W) (fun _ h => h) (eM hSh hL) mG
  refine hc.mono fun e W' ⟨he, hw⟩ => ?_
  subst he
  refine ⟨_, rfl, _, _, _, [], _, [], hW', trodAll_mk1 (shut_bool Tryz.underlying4 true), Zj hw.same (fun b hb => by simpa using hb) (m := 12) [.slice J4, .slice J4] [22, 22] _ _ _ (by kernel_rfl) hA2, rfl, cY hw.os hw.output hw.same, fun h => by cases h⟩
set_option maxRecDepth 100000
theorem sA : joinedFacts Tryz.prog 3 Tryz.f3 Rows.evalPrintsSpec Rows.evalPrintsRow = true := by
  unfold joinedFacts
  exact BK (BK (BK (BK (BK (BK (BK (BK (BK (BK (BK (BK (BK (BK (BK (BK (BK (BK (BK (BK (BK (BK (BK (BK (BK (BK (BK (BK (BK (BK (BK yn jp_1) jp_2) yo) yp) yq) jp_6) yr) jp_8) yu) gF) gE) gD) gC) gB) gA) gz) gy) gx) gw) gv) gr) gq) gp) jp_24) jp_25) gk) gj) gi) gh) gg) gf
set_option maxRecDepth 100000 in
theorem uM : Rows.EvalPrintsSaid :=
  OpenClaim.holds_of_wide 3 Tryz.f3 rfl rfl rfl rfl rfl rfl rfl ⟨rfl, rfl, rfl, rfl, rfl⟩ rfl rfl rfl rfl rfl (by kernel_rfl) Tryz.func3 sA
    (of_decide_eq_true (by kernel_rfl)) (by unfold Func.isWrapper; rw [if_neg (of_decide_eq_false (by kernel_rfl))]; exact ⟨rfl, rfl⟩)
    (fun os started zzb BC _ => sz os started zzb BC)
set_option maxRecDepth 100000 in
theorem prints_holds : Rows.EvalPrintsCardSaid :=
  Claim7.holds_tied_plain_at .later [] [.data, .data, .data, .data, .handle, .sentinel, .sentinel, .sentinel, .sentinel, .sentinel, .sentinel, .sentinel, .sentinel, .sentinel, .sentinel, .pinned] true (true, "fbfe4df6334c4b5246b8f337415e6f2e949d37f566d81ff75acf5d28b4e25bdd") true
    uM (fun _ h => by cases h) hg_wf (fun _ h => by cases h) evalPrints_row_tie rfl ⟨rfl, rfl⟩ hg_main rfl
    (fun f fn hf pY => by
      obtain rfl : f = 3 := Option.some.inj (hg_fn.symm.trans hf) |>.symm
      obtain rfl : fn = Tryz.f3 := (Option.some.inj (Tryz.func3.symm.trans pY)).symm
      exact ⟨zfT, fun j t ht => by
        rw [Tryz.params3] at ht
        match j, ht with
        | 0, ht =>
          obtain rfl : t = 22 := by simpa using ht.symm
          exact br
        | 1, ht =>
          obtain rfl : t = 22 := by simpa using ht.symm
          exact br
        | i + 2, ht => simp at ht⟩)
    hg_goes
#print axioms prints_holds
end Go.Proofs.YtekfceoganklgaaGreatDoor
