/- The row of TensorKnown (printed by rows.py): over the walk 'law3_TensorKnown.calls' and the plain law 'law3_TensorKnown.plain'. -/
import Derived.Test.YtkcgiolledmbnabRows
import Derived.Test.YtkcgiolledmbnabE9
import Derived.Test.YtkcgiolledmbnabLTensorKnown
namespace Go.Proofs.Ytkcgiolledmbnab
open Go Go.RowKit Go.ChangeShapes Go.WideShapes Go.ChangeAt
set_option linter.unusedSimpArgs false
set_option linter.unusedVariables false

theorem law3_TensorKnown.own : ownKnob Try.prog.godebug = none := by kernel_rfl
theorem law3_TensorKnown.laidOut : laidOutB Try.prog = true := by kernel_rfl
set_option maxRecDepth 100000 in
theorem law3_TensorKnown.lifted (plain : law3_TensorKnown.f  = some true) (os : Os) (started : os.Started) (H : Type) (enc : TypeId × Value → H) :
    ReturnsInHanded {} Try.checked os 10 .any (Rows.tensorKnownSpec.pre6 enc Try.prog Try.f10 Rows.tensorKnownRow.domain false) (Rows.tensorKnownSpec.post enc Try.prog Try.f10 false true false false) := by
  refine returnsInHanded_of_change (C := Try.checked) law3_TensorKnown.own started (by kernel_rfl) Try.func10
    (ChangeSpec.witness6 (enc := enc) (C := Try.checked) false ⟨#[], #[], []⟩ 8 (by kernel_rfl) (by kernel_rfl) (by kernel_rfl) (by kernel_rfl)) ?_
  intro W base args ds gs before hval0 hW hcnd _
  have hval : ∀ (j : Nat) t v, Try.f10.params[j]? = some t → args[j]? = some v → Value.okWide Try.prog W .any base t v := hval0
  have hW' := hW
  obtain ⟨p, q, hA0, hV, rfl, hfz, hnd⟩ := hW
  have hA : DataW.TrodAll enc Try.prog W 0 (fun _ => true) true Try.f10.params.toList args.toList ds p := hA0
  rw [Try.params10] at hA hval
  obtain ⟨rfl, rfl, rfl⟩ := trodAll_none hA
  have hmem : Mem [] [] W [] W := by
    refine Mem.start rfl (fun f hf => ?_)
    cases hf
  refine (law3_TensorKnown.calls [] W  hmem true (plain )).mono fun e W' ⟨v, he, hv, hm⟩ => ?_
  subst he; subst hv
  exact ⟨_, rfl, postTrue (tb := 4) law3_TensorKnown.laidOut rfl hW' hm.below (by rw [Try.params10]; decide +kernel) rfl Try.underlying4 rfl⟩

theorem law3_TensorKnown.row (plain : law3_TensorKnown.f  = some true) : Rows.TensorKnownSaid :=
  OpenClaim.holds_of_wide 10 Try.f10 rfl rfl rfl rfl rfl rfl rfl ⟨rfl, rfl, rfl, rfl, rfl⟩ rfl rfl rfl rfl rfl (by kernel_rfl) Try.func10 (by kernel_rfl)
    (of_decide_eq_true (by kernel_rfl)) (by unfold Func.isWrapper; first | (rw [if_pos (by decide +kernel)]; kernel_rfl) | (rw [if_neg (by decide +kernel)]; exact ⟨rfl, rfl⟩))
    (fun os started H enc _ => law3_TensorKnown.lifted plain os started H enc)
end Go.Proofs.Ytkcgiolledmbnab
