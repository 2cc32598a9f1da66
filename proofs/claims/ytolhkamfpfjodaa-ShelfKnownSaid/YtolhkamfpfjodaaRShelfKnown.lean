/- The row of ShelfKnown (printed by rows.py): over the walk 'law19_ShelfKnown.calls' and the plain law 'law19_ShelfKnown.plain'. -/
import Derived.Test.YtolhkamfpfjodaaRows
import Derived.Test.YtolhkamfpfjodaaE9
import Derived.Test.YtolhkamfpfjodaaLShelfKnown
namespace Go.Proofs.Ytolhkamfpfjodaa
open Go Go.RowKit Go.ChangeShapes Go.WideShapes Go.ChangeAt
set_option linter.unusedSimpArgs false
set_option linter.unusedVariables false

theorem law19_ShelfKnown.own : ownKnob Try.prog.godebug = none := by kernel_rfl
theorem law19_ShelfKnown.laidOut : laidOutB Try.prog = true := by kernel_rfl
set_option maxRecDepth 100000 in
theorem law19_ShelfKnown.lifted (plain : law19_ShelfKnown.f  = some true) (os : Os) (started : os.Started) (H : Type) (enc : TypeId × Value → H) :
    ReturnsInHanded {} Try.checked os 7 .any (Rows.shelfKnownSpec.pre6 enc Try.prog Try.f7 Rows.shelfKnownRow.domain false) (Rows.shelfKnownSpec.post enc Try.prog Try.f7 false true false false) := by
  refine returnsInHanded_of_change (C := Try.checked) law19_ShelfKnown.own started (by kernel_rfl) Try.func7
    (ChangeSpec.witness6 (enc := enc) (C := Try.checked) false ⟨#[], #[], []⟩ 8 (by kernel_rfl) (by kernel_rfl) (by kernel_rfl) (by kernel_rfl)) ?_
  intro W base args ds gs before hval0 hW hcnd _
  have hval : ∀ (j : Nat) t v, Try.f7.params[j]? = some t → args[j]? = some v → Value.okWide Try.prog W .any base t v := hval0
  have hW' := hW
  obtain ⟨p, q, hA0, hV, rfl, hfz, hnd⟩ := hW
  have hA : DataW.TrodAll enc Try.prog W 0 (fun _ => true) true Try.f7.params.toList args.toList ds p := hA0
  rw [Try.params7] at hA hval
  obtain ⟨rfl, rfl, rfl⟩ := trodAll_none hA
  have hmem : Mem [] [] W [] W := by
    refine Mem.start rfl (fun f hf => ?_)
    cases hf
  refine (law19_ShelfKnown.calls [] W  hmem true (plain )).mono fun e W' ⟨v, he, hv, hm⟩ => ?_
  subst he; subst hv
  exact ⟨_, rfl, postTrue (tb := 4) law19_ShelfKnown.laidOut rfl hW' hm.below (by rw [Try.params7]; decide +kernel) rfl Try.underlying4 rfl⟩

theorem law19_ShelfKnown.row (plain : law19_ShelfKnown.f  = some true) : Rows.ShelfKnownSaid :=
  OpenClaim.holds_of_wide 7 Try.f7 rfl rfl rfl rfl rfl rfl rfl ⟨rfl, rfl, rfl, rfl, rfl⟩ rfl rfl rfl rfl rfl (by kernel_rfl) Try.func7 (by kernel_rfl)
    (of_decide_eq_true (by kernel_rfl)) (by unfold Func.isWrapper; first | (rw [if_pos (by decide +kernel)]; kernel_rfl) | (rw [if_neg (by decide +kernel)]; exact ⟨rfl, rfl⟩))
    (fun os started H enc _ => law19_ShelfKnown.lifted plain os started H enc)
end Go.Proofs.Ytolhkamfpfjodaa
