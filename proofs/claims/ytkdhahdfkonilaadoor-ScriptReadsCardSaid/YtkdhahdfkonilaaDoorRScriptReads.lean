/- The row of ScriptReads (printed by rows.py): over the walk 'law24_ScriptReads.calls' and the plain law 'law24_ScriptReads.plain'. -/
import Derived.Test.YtkdhahdfkonilaaDoorRows
import Derived.Test.YtkdhahdfkonilaaDoorE18
import Derived.Test.YtkdhahdfkonilaaDoorLScriptReads
namespace Go.Proofs.YtkdhahdfkonilaaDoor
open Go Go.RowKit Go.ChangeShapes Go.WideShapes Go.ChangeAt
set_option linter.unusedSimpArgs false
set_option linter.unusedVariables false

theorem law24_ScriptReads.own : ownKnob Tryd.prog.godebug = none := by kernel_rfl
theorem law24_ScriptReads.laidOut : laidOutB Tryd.prog = true := by kernel_rfl
set_option maxRecDepth 100000 in
theorem law24_ScriptReads.lifted (plain : ∀ (x0 : (List UInt8)) (o0 : x0.length ≤ 9223372036854775807), law24_ScriptReads.f x0 = some true) (os : Os) (started : os.Started) (H : Type) (enc : TypeId × Value → H) :
    ReturnsInHanded {} Tryd.checked os 4 .any (fun w args => (Rows.scriptReadsSpec.pre enc Tryd.prog Tryd.f4 [] false w args ∧ laidMetH Tryd.prog LD w) ∧ sizedMet enc Tryd.prog Tryd.f4 (OpenSpec.ofChange Rows.scriptReadsSpec) false w args) (Rows.scriptReadsSpec.post enc Tryd.prog Tryd.f4 false true false false) := by
  refine change_and_shaped (C := Tryd.checked) (X := fun w _ => laidMetH Tryd.prog LD w) (fun _ _ _ hh h => h.of_heap hh) law24_ScriptReads.own started (by kernel_rfl) Tryd.func4
    (ChangeSpec.witness_shaped (enc := enc) (C := Tryd.checked) (os := os) (X := fun w _ => laidMetH Tryd.prog LD w) false (World.laidAll Tryd.prog os LD) #[.string (bs [])] 8 (World.laidAll_os _ _ _) (World.shaped_of_ZipB (by kernel_rfl) (by kernel_rfl)) (by kernel_rfl) (by kernel_rfl) (by kernel_rfl) (laid_met os _)) ?_
  intro W base args ds gs before hval0 hW hS hL
  have hG := glob_of_laid hL hS
  have hval : ∀ (j : Nat) t v, Tryd.f4.params[j]? = some t → args[j]? = some v → Value.okWide Tryd.prog W .any base t v := hval0
  have hW' := hW
  obtain ⟨p, q, hA0, hV, rfl, hfz, hnd⟩ := hW
  have hA : DataW.TrodAll enc Tryd.prog W 0 (fun _ => true) true Tryd.f4.params.toList args.toList ds p := hA0
  rw [Tryd.params4] at hA hval
  obtain ⟨v0, d0, rfl, rfl, h0⟩ := trodAll_one hA
  obtain ⟨x0, rfl, o0⟩ := argStr Tryd.underlying9 (hval 0 9 v0 rfl rfl) h0
  have hmem : Mem [] [] W [] W := by
    refine Mem.start rfl (fun f hf => ?_)
    cases hf
  refine (law24_ScriptReads.calls [] W x0 hmem true (plain x0 o0) hG).mono fun e W' ⟨v, he, hv, hm⟩ => ?_
  subst he; subst hv
  exact ⟨_, rfl, postTrue (tb := 4) law24_ScriptReads.laidOut rfl hW' hm.below (by rw [Tryd.params4]; decide +kernel) rfl Tryd.underlying4 rfl⟩

theorem law24_ScriptReads.row (plain : ∀ (x0 : (List UInt8)) (o0 : x0.length ≤ 9223372036854775807), law24_ScriptReads.f x0 = some true) : Rows.ScriptReadsSaid :=
  OpenClaim.holds_of_wide 4 Tryd.f4 rfl rfl rfl rfl rfl rfl rfl ⟨rfl, rfl, rfl, rfl, rfl⟩ rfl rfl rfl rfl rfl (by kernel_rfl) Tryd.func4 (by kernel_rfl)
    (of_decide_eq_true (by kernel_rfl)) (by unfold Func.isWrapper; first | (rw [if_pos (by decide +kernel)]; kernel_rfl) | (rw [if_neg (by decide +kernel)]; exact ⟨rfl, rfl⟩))
    (fun os started H enc _ => law24_ScriptReads.lifted plain os started H enc)
end Go.Proofs.YtkdhahdfkonilaaDoor
