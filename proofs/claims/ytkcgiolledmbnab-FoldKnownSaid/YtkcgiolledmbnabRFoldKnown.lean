/- The row of FoldKnown (printed by rows.py): over the walk 'law8_FoldKnown.calls' and the plain law 'law8_FoldKnown.plain'. -/
import Derived.Test.YtkcgiolledmbnabRows
import Derived.Test.YtkcgiolledmbnabE9
import Derived.Test.YtkcgiolledmbnabLFoldKnown
namespace Go.Proofs.Ytkcgiolledmbnab
open Go Go.RowKit Go.ChangeShapes Go.WideShapes Go.ChangeAt
set_option linter.unusedSimpArgs false
set_option linter.unusedVariables false

theorem law8_FoldKnown.own : ownKnob Try.prog.godebug = none := by kernel_rfl
theorem law8_FoldKnown.laidOut : laidOutB Try.prog = true := by kernel_rfl
set_option maxRecDepth 100000 in
theorem law8_FoldKnown.lifted (plain : law8_FoldKnown.f  = some true) (os : Os) (started : os.Started) (H : Type) (enc : TypeId × Value → H) :
    ReturnsInHanded {} Try.checked os 5 .any (Rows.foldKnownSpec.pre6 enc Try.prog Try.f5 Rows.foldKnownRow.domain false) (Rows.foldKnownSpec.post enc Try.prog Try.f5 false true false false) := by
  refine returnsInHanded_of_change (C := Try.checked) law8_FoldKnown.own started (by kernel_rfl) Try.func5
    (ChangeSpec.witness6 (enc := enc) (C := Try.checked) false ⟨#[], #[], []⟩ 8 (by kernel_rfl) (by kernel_rfl) (by kernel_rfl) (by kernel_rfl)) ?_
  intro W base args ds gs before hval0 hW hcnd _
  have hval : ∀ (j : Nat) t v, Try.f5.params[j]? = some t → args[j]? = some v → Value.okWide Try.prog W .any base t v := hval0
  have hW' := hW
  obtain ⟨p, q, hA0, hV, rfl, hfz, hnd⟩ := hW
  have hA : DataW.TrodAll enc Try.prog W 0 (fun _ => true) true Try.f5.params.toList args.toList ds p := hA0
  rw [Try.params5] at hA hval
  obtain ⟨rfl, rfl, rfl⟩ := trodAll_none hA
  have hmem : Mem [] [] W [] W := by
    refine Mem.start rfl (fun f hf => ?_)
    cases hf
  refine (law8_FoldKnown.calls [] W  hmem true (plain )).mono fun e W' ⟨v, he, hv, hm⟩ => ?_
  subst he; subst hv
  exact ⟨_, rfl, postTrue (tb := 4) law8_FoldKnown.laidOut rfl hW' hm.below (by rw [Try.params5]; decide +kernel) rfl Try.underlying4 rfl⟩

theorem law8_FoldKnown.row (plain : law8_FoldKnown.f  = some true) : Rows.FoldKnownSaid :=
  OpenClaim.holds_of_wide 5 Try.f5 rfl rfl rfl rfl rfl rfl rfl ⟨rfl, rfl, rfl, rfl, rfl⟩ rfl rfl rfl rfl rfl (by kernel_rfl) Try.func5 (by kernel_rfl)
    (of_decide_eq_true (by kernel_rfl)) (by unfold Func.isWrapper; first | (rw [if_pos (by decide +kernel)]; kernel_rfl) | (rw [if_neg (by decide +kernel)]; exact ⟨rfl, rfl⟩))
    (fun os started H enc _ => law8_FoldKnown.lifted plain os started H enc)
end Go.Proofs.Ytkcgiolledmbnab
