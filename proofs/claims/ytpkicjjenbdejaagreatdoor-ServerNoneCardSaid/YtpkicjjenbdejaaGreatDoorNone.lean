/-
  ServerNone: a nil server tells nothing.
  For every input the law returns true, and leaves its arguments as they were. Conditions: the package variables of the library that the row lists hold at the start what the text of the library lays (the card ties them).
-/
import Derived.Test.YtpkicjjenbdejaaGreatDoorK27
import Derived.Test.YtpkicjjenbdejaaGreatDoorK28
import Derived.Test.YtpkicjjenbdejaaGreatDoorK29
import Derived.Test.YtpkicjjenbdejaaGreatDoorK30
import Derived.Test.YtpkicjjenbdejaaGreatDoorK31
import Derived.Test.YtpkicjjenbdejaaGreatDoorK32
import Derived.Test.YtpkicjjenbdejaaGreatDoorCards
import Derived.Test.YtpkicjjenbdejaaGreatDoorK36
import Derived.SevenTiedAt
set_option linter.all false
namespace Go.Proofs.YtpkicjjenbdejaaGreatDoor
open Go Go.Ab Go.Ab.fC Go.Proofs Go.ChangeShapes Go.WideShapes Go.RowKit

set_option maxRecDepth 100000 in
theorem oJ (os : Os) (started : os.Started) (zzd : Type) (enc : TypeId × Value → zzd) :
    ReturnsInHanded {} Tryz.checked os 3 .any (fun w args => (Rows.serverNoneSpec.pre enc Tryz.prog Tryz.f3 [] false w args ∧ laidMetH Tryz.prog Rows.serverNoneRow.laid w) ∧ sizedMet enc Tryz.prog Tryz.f3 (OpenSpec.ofChange Rows.serverNoneSpec) false w args)
      (Rows.serverNoneSpec.post enc Tryz.prog Tryz.f3 false true false false) := by
  refine YO (C := Tryz.checked) (X := fun w _ => laidMetH Tryz.prog Rows.serverNoneRow.laid w) (fun _ _ _ hh h => h.of_heap hh) p_own started (by kernel_rfl) Tryz.func3
    (ChangeSpec.witness_at (enc := enc) (C := Tryz.checked) (os := os) (X := fun w _ => laidMetH Tryz.prog Rows.serverNoneRow.laid w) false (Ww os) #[.string ⟨#[]⟩] 8 rfl (by kernel_rfl) (by kernel_rfl) (by kernel_rfl) (by kernel_rfl) (by kernel_rfl) (Y2 os _)) ?_
  intro W base args ds gs before hval0 hW hL hSh
  have kz : ∀ (j : Nat) t v, Tryz.f3.params[j]? = some t → args[j]? = some v → Value.okWide Tryz.prog W .any base t v := hval0
  have hW' := hW
  obtain ⟨p, q, hA0, hV, rfl, nS, jB⟩ := hW
  have hA : DataW.TrodAll enc Tryz.prog W 0 (fun _ => true) true Tryz.f3.params.toList args.toList ds p := hA0
  rw [Tryz.params3] at hA kz
  have hA2 := hA
  obtain ⟨v0, d0, rfl, rfl, g0⟩ := trodAll_one hA
  obtain ⟨rfl, rfl⟩ := trodVars_none hV
  clear hA0 hval0
  simp only [List.append_nil] at hW'
  obtain ⟨us, hus, fX⟩ := XY (lp := fun _ => none) (I := fun b => b < W.heap.size) (fun _ h => h) (m := 12) (base := base) [.str] [9] _ _ _ (by kernel_rfl) (fun j t v U O => kz j t v (by simpa using U) (by simpa using O)) hA2
  obtain ⟨ha, hl, hr⟩ := told_none us hus
  have hc := yE (g := 3) rfl ha hl hr (w := W) (fun _ h => h) (Z0 hSh hL) fX
  refine hc.mono fun e W' ⟨he, hw⟩ => ?_
  subst he
  refine ⟨_, rfl, _, _, _, [], _, [], hW', trodAll_mk1 (shut_bool Tryz.underlying4 true), W1 hw.same (fun b hb => by simpa using hb) (m := 12) [.str] [9] _ _ _ (by kernel_rfl) hA2, rfl, YQ hw.os hw.output hw.same, fun h => by cases h⟩
set_option maxRecDepth 100000
theorem oK : joinedFacts Tryz.prog 3 Tryz.f3 Rows.serverNoneSpec Rows.serverNoneRow = true := by
  unfold joinedFacts
  exact Bv (Bv (Bv (Bv (Bv (Bv (Bv (Bv (Bv (Bv (Bv (Bv (Bv (Bv (Bv (Bv (Bv (Bv (Bv (Bv (Bv (Bv (Bv (Bv (Bv (Bv (Bv (Bv (Bv (Bv (Bv jnone_0 jp_1) jp_2) jnone_3) jnone_4) jnone_5) jp_6) jnone_7) jp_8) jnone_9) zZ) z1) z6) z7) z8) zaa) zab) zac) zad) zae) zaf) zag) zah) zai) jp_24) jp_25) zaj) zak) zal) zam) zan) zao
set_option maxRecDepth 100000 in
theorem zar : Rows.ServerNoneSaid :=
  OpenClaim.holds_of_wide 3 Tryz.f3 rfl rfl rfl rfl rfl rfl rfl ⟨rfl, rfl, rfl, rfl, rfl⟩ rfl rfl rfl rfl rfl (by kernel_rfl) Tryz.func3 oK
    (of_decide_eq_true (by kernel_rfl)) (by unfold Func.isWrapper; rw [if_neg (of_decide_eq_false (by kernel_rfl))]; exact ⟨rfl, rfl⟩)
    (fun os started zzd enc _ => oJ os started zzd enc)
set_option maxRecDepth 100000 in
theorem none_holds : Rows.ServerNoneCardSaid :=
  Claim7.holds_tied_plain_at .later [] [.pinned, .data, .sentinel, .sentinel, .sentinel, .data, .data, .data, .handle, .sentinel, .sentinel, .sentinel, .sentinel, .sentinel, .sentinel, .sentinel, .sentinel, .sentinel, .sentinel, .sentinel, .sentinel, .sentinel] true (true, "d173d4e6fee26f23d29c88e18a172a3b95ed07b804eb056ac780e092814bde47") true
    zar (fun _ h => by cases h) hg_wf (fun _ h => by cases h) YN rfl ⟨rfl, rfl⟩ hg_main rfl
    (fun f fn hf kV => by
      obtain rfl : f = 3 := Option.some.inj (hg_fn.symm.trans hf) |>.symm
      obtain rfl : fn = Tryz.f3 := (Option.some.inj (Tryz.func3.symm.trans kV)).symm
      exact ⟨zap, fun j t ht => by
        rw [Tryz.params3] at ht
        match j, ht with
        | 0, ht =>
          obtain rfl : t = 9 := by simpa using ht.symm
          exact hg_want
        | i + 1, ht => simp at ht⟩)
    hg_goes
#print axioms none_holds
end Go.Proofs.YtpkicjjenbdejaaGreatDoor
