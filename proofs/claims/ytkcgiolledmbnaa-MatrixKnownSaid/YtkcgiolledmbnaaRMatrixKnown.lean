/- The row of MatrixKnown (printed by rows.py): over the walk 'law5_MatrixKnown.calls' and the plain law 'law5_MatrixKnown.plain'. -/
import Derived.Test.YtkcgiolledmbnaaRows
import Derived.Test.YtkcgiolledmbnaaE9
import Derived.Test.YtkcgiolledmbnaaLMatrixKnown
namespace Go.Proofs.Ytkcgiolledmbnaa
open Go Go.RowKit Go.ChangeShapes Go.WideShapes Go.ChangeAt
set_option linter.unusedSimpArgs false
set_option linter.unusedVariables false

theorem law5_MatrixKnown.own : ownKnob Try.prog.godebug = none := by kernel_rfl
theorem law5_MatrixKnown.laidOut : laidOutB Try.prog = true := by kernel_rfl
set_option maxRecDepth 100000 in
theorem law5_MatrixKnown.lifted (plain : law5_MatrixKnown.f  = some true) (os : Os) (started : os.Started) (H : Type) (enc : TypeId × Value → H) :
    ReturnsInHanded {} Try.checked os 14 .any (Rows.matrixKnownSpec.pre6 enc Try.prog Try.f14 Rows.matrixKnownRow.domain false) (Rows.matrixKnownSpec.post enc Try.prog Try.f14 false true false false) := by
  refine returnsInHanded_of_change (C := Try.checked) law5_MatrixKnown.own started (by kernel_rfl) Try.func14
    (ChangeSpec.witness6 (enc := enc) (C := Try.checked) false ⟨#[], #[], []⟩ 8 (by kernel_rfl) (by kernel_rfl) (by kernel_rfl) (by kernel_rfl)) ?_
  intro W base args ds gs before hval0 hW hcnd _
  have hval : ∀ (j : Nat) t v, Try.f14.params[j]? = some t → args[j]? = some v → Value.okWide Try.prog W .any base t v := hval0
  have hW' := hW
  obtain ⟨p, q, hA0, hV, rfl, hfz, hnd⟩ := hW
  have hA : DataW.TrodAll enc Try.prog W 0 (fun _ => true) true Try.f14.params.toList args.toList ds p := hA0
  rw [Try.params14] at hA hval
  obtain ⟨rfl, rfl, rfl⟩ := trodAll_none hA
  have hmem : Mem [] [] W [] W := by
    refine Mem.start rfl (fun f hf => ?_)
    cases hf
  refine (law5_MatrixKnown.calls [] W  hmem true (plain )).mono fun e W' ⟨v, he, hv, hm⟩ => ?_
  subst he; subst hv
  exact ⟨_, rfl, postTrue (tb := 4) law5_MatrixKnown.laidOut rfl hW' hm.below (by rw [Try.params14]; decide +kernel) rfl Try.underlying4 rfl⟩

theorem law5_MatrixKnown.row (plain : law5_MatrixKnown.f  = some true) : Rows.MatrixKnownSaid :=
  OpenClaim.holds_of_wide 14 Try.f14 rfl rfl rfl rfl rfl rfl rfl ⟨rfl, rfl, rfl, rfl, rfl⟩ rfl rfl rfl rfl rfl (by kernel_rfl) Try.func14 (by kernel_rfl)
    (of_decide_eq_true (by kernel_rfl)) (by unfold Func.isWrapper; first | (rw [if_pos (by decide +kernel)]; kernel_rfl) | (rw [if_neg (by decide +kernel)]; exact ⟨rfl, rfl⟩))
    (fun os started H enc _ => law5_MatrixKnown.lifted plain os started H enc)
end Go.Proofs.Ytkcgiolledmbnaa
