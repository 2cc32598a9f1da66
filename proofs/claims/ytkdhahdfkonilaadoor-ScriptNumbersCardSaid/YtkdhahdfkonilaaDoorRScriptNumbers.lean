/- The row of ScriptNumbers (printed by rows.py): over the walk 'law24_ScriptNumbers.calls' and the plain law 'law24_ScriptNumbers.plain'. -/
import Derived.Test.YtkdhahdfkonilaaDoorRows
import Derived.Test.YtkdhahdfkonilaaDoorE18
import Derived.Test.YtkdhahdfkonilaaDoorLScriptNumbers
namespace Go.Proofs.YtkdhahdfkonilaaDoor
open Go Go.RowKit Go.ChangeShapes Go.WideShapes Go.ChangeAt
set_option linter.unusedSimpArgs false
set_option linter.unusedVariables false

theorem law24_ScriptNumbers.own : ownKnob Tryd.prog.godebug = none := by kernel_rfl
theorem law24_ScriptNumbers.laidOut : laidOutB Tryd.prog = true := by kernel_rfl
set_option maxRecDepth 100000 in
theorem law24_ScriptNumbers.lifted (plain : ∀ (x0 : Nat) (o0 : (x0 < 2 ^ 64 ∧ canon x0 = x0)) (x1 : Int) (o1 : (Lit.int .u64 x1).wf = true) (x2 : (List UInt8)) (o2 : x2.length ≤ 9223372036854775807), law24_ScriptNumbers.f x0 x1 x2 = some true) (os : Os) (started : os.Started) (H : Type) (enc : TypeId × Value → H) :
    ReturnsInHanded {} Tryd.checked os 5 .any (fun w args => (Rows.scriptNumbersSpec.pre enc Tryd.prog Tryd.f5 [] false w args ∧ laidMetH Tryd.prog LD w) ∧ sizedMet enc Tryd.prog Tryd.f5 (OpenSpec.ofChange Rows.scriptNumbersSpec) false w args) (Rows.scriptNumbersSpec.post enc Tryd.prog Tryd.f5 false true false false) := by
  refine change_and_shaped (C := Tryd.checked) (X := fun w _ => laidMetH Tryd.prog LD w) (fun _ _ _ hh h => h.of_heap hh) law24_ScriptNumbers.own started (by kernel_rfl) Tryd.func5
    (ChangeSpec.witness_shaped (enc := enc) (C := Tryd.checked) (os := os) (X := fun w _ => laidMetH Tryd.prog LD w) false (World.laidAll Tryd.prog os LD) #[.float .f64 0, .int .u64 0, .string (bs [])] 8 (World.laidAll_os _ _ _) (World.shaped_of_ZipB (by kernel_rfl) (by kernel_rfl)) (by kernel_rfl) (by kernel_rfl) (by kernel_rfl) (laid_met os _)) ?_
  intro W base args ds gs before hval0 hW hS hL
  have hG := glob_of_laid hL hS
  have hval : ∀ (j : Nat) t v, Tryd.f5.params[j]? = some t → args[j]? = some v → Value.okWide Tryd.prog W .any base t v := hval0
  have hW' := hW
  obtain ⟨p, q, hA0, hV, rfl, hfz, hnd⟩ := hW
  have hA : DataW.TrodAll enc Tryd.prog W 0 (fun _ => true) true Tryd.f5.params.toList args.toList ds p := hA0
  rw [Tryd.params5] at hA hval
  obtain ⟨v0, v1, v2, d0, d1, d2, p0, p1, p2, rfl, rfl, rfl, h0, h1, h2⟩ := trodAll_three hA
  obtain ⟨b0, rfl, _, _, w0⟩ := open_float Tryd.underlying35 (hval 0 35 v0 rfl rfl) h0
  have o0 := And.intro (canon_lt (lt_of_wf w0)) (canon_canon b0)
  obtain ⟨x1, rfl, _, _, o1⟩ := open_int Tryd.underlying36 (hval 1 36 v1 rfl rfl) h1
  obtain ⟨x2, rfl, o2⟩ := argStr Tryd.underlying9 (hval 2 9 v2 rfl rfl) h2
  have hmem : Mem [] [] W [] W := by
    refine Mem.start rfl (fun f hf => ?_)
    cases hf
  refine (law24_ScriptNumbers.calls [] W (canon b0) b0 ⟨lt_of_wf w0, rfl⟩ x1 x2 hmem true (plain (canon b0) o0 x1 o1 x2 o2) hG).mono fun e W' ⟨v, he, hv, hm⟩ => ?_
  subst he; subst hv
  exact ⟨_, rfl, postTrue (tb := 4) law24_ScriptNumbers.laidOut rfl hW' hm.below (by rw [Tryd.params5]; decide +kernel) rfl Tryd.underlying4 rfl⟩

theorem law24_ScriptNumbers.row (plain : ∀ (x0 : Nat) (o0 : (x0 < 2 ^ 64 ∧ canon x0 = x0)) (x1 : Int) (o1 : (Lit.int .u64 x1).wf = true) (x2 : (List UInt8)) (o2 : x2.length ≤ 9223372036854775807), law24_ScriptNumbers.f x0 x1 x2 = some true) : Rows.ScriptNumbersSaid :=
  OpenClaim.holds_of_wide 5 Tryd.f5 rfl rfl rfl rfl rfl rfl rfl ⟨rfl, rfl, rfl, rfl, rfl⟩ rfl rfl rfl rfl rfl (by kernel_rfl) Tryd.func5 (by kernel_rfl)
    (of_decide_eq_true (by kernel_rfl)) (by unfold Func.isWrapper; first | (rw [if_pos (by decide +kernel)]; kernel_rfl) | (rw [if_neg (by decide +kernel)]; exact ⟨rfl, rfl⟩))
    (fun os started H enc _ => law24_ScriptNumbers.lifted plain os started H enc)
end Go.Proofs.YtkdhahdfkonilaaDoor
