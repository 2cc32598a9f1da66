/- The row of ShapeKnown (printed by rows.py): over the walk 'law1_ShapeKnown.calls' and the plain law 'law1_ShapeKnown.plain'. -/
import Derived.Test.YtgekodhpkhdanaaRows
import Derived.Test.YtgekodhpkhdanaaE9
import Derived.Test.YtgekodhpkhdanaaLShapeKnown
namespace Go.Proofs.Ytgekodhpkhdanaa
open Go Go.RowKit Go.ChangeShapes Go.WideShapes Go.ChangeAt
set_option linter.unusedSimpArgs false
set_option linter.unusedVariables false

theorem law1_ShapeKnown.own : ownKnob Try.prog.godebug = none := by kernel_rfl
theorem law1_ShapeKnown.laidOut : laidOutB Try.prog = true := by kernel_rfl
set_option maxRecDepth 100000 in
theorem law1_ShapeKnown.lifted (plain : law1_ShapeKnown.f  = some true) (os : Os) (started : os.Started) (H : Type) (enc : TypeId × Value → H) :
    ReturnsInHanded {} Try.checked os 4 .any (Rows.shapeKnownSpec.pre6 enc Try.prog Try.f4 Rows.shapeKnownRow.domain false) (Rows.shapeKnownSpec.post enc Try.prog Try.f4 false true false false) := by
  refine returnsInHanded_of_change (C := Try.checked) law1_ShapeKnown.own started (by kernel_rfl) Try.func4
    (ChangeSpec.witness6 (enc := enc) (C := Try.checked) false ⟨#[], #[], []⟩ 8 (by kernel_rfl) (by kernel_rfl) (by kernel_rfl) (by kernel_rfl)) ?_
  intro W base args ds gs before hval0 hW hcnd _
  have hval : ∀ (j : Nat) t v, Try.f4.params[j]? = some t → args[j]? = some v → Value.okWide Try.prog W .any base t v := hval0
  have hW' := hW
  obtain ⟨p, q, hA0, hV, rfl, hfz, hnd⟩ := hW
  have hA : DataW.TrodAll enc Try.prog W 0 (fun _ => true) true Try.f4.params.toList args.toList ds p := hA0
  rw [Try.params4] at hA hval
  obtain ⟨rfl, rfl, rfl⟩ := trodAll_none hA
  have hmem : Mem [] [] W [] W := by
    refine Mem.start rfl (fun f hf => ?_)
    cases hf
  refine (law1_ShapeKnown.calls [] W  hmem true (plain )).mono fun e W' ⟨v, he, hv, hm⟩ => ?_
  subst he; subst hv
  exact ⟨_, rfl, postTrue (tb := 4) law1_ShapeKnown.laidOut rfl hW' hm.below (by rw [Try.params4]; decide +kernel) rfl Try.underlying4 rfl⟩

theorem law1_ShapeKnown.row (plain : law1_ShapeKnown.f  = some true) : Rows.ShapeKnownSaid :=
  OpenClaim.holds_of_wide 4 Try.f4 rfl rfl rfl rfl rfl rfl rfl ⟨rfl, rfl, rfl, rfl, rfl⟩ rfl rfl rfl rfl rfl (by kernel_rfl) Try.func4 (by kernel_rfl)
    (of_decide_eq_true (by kernel_rfl)) (by unfold Func.isWrapper; first | (rw [if_pos (by decide +kernel)]; kernel_rfl) | (rw [if_neg (by decide +kernel)]; exact ⟨rfl, rfl⟩))
    (fun os started H enc _ => law1_ShapeKnown.lifted plain os started H enc)
end Go.Proofs.Ytgekodhpkhdanaa
