/- The row of ShapePlaces (printed by rows.py): over the walk 'law1_ShapePlaces.calls' and the plain law 'law1_ShapePlaces.plain'. -/
import Derived.Test.YtgekodhpkhdanaaRows
import Derived.Test.YtgekodhpkhdanaaE9
import Derived.Test.YtgekodhpkhdanaaLShapePlaces
namespace Go.Proofs.Ytgekodhpkhdanaa
open Go Go.RowKit Go.ChangeShapes Go.WideShapes Go.ChangeAt
set_option linter.unusedSimpArgs false
set_option linter.unusedVariables false

theorem law1_ShapePlaces.own : ownKnob Try.prog.godebug = none := by kernel_rfl
theorem law1_ShapePlaces.laidOut : laidOutB Try.prog = true := by kernel_rfl
theorem law1_ShapePlaces.reads0 : ReadsAs Try.prog 22 (Kd.slice (Kd.int .i64)) (fun x => x.length ≤ 9223372036854775807 ∧ ∀ y ∈ x, (Lit.int .i64 y).wf = true) := (ReadsAs.slice (P := Try.prog) (t := 22) Try.underlying22 (by kernel_rfl) (of_decide_eq_true (by kernel_rfl)) (ReadsAs.int (P := Try.prog) (t := 3) Try.underlying3))
set_option maxRecDepth 100000 in
theorem law1_ShapePlaces.lifted (plain : ∀ (x0 : (List Int)) (o0 : x0.length ≤ 9223372036854775807 ∧ ∀ y ∈ x0, (Lit.int .i64 y).wf = true), law1_ShapePlaces.f x0 = some true) (os : Os) (started : os.Started) (H : Type) (enc : TypeId × Value → H) :
    ReturnsInHanded {} Try.checked os 8 .any (Rows.shapePlacesSpec.pre6 enc Try.prog Try.f8 Rows.shapePlacesRow.domain false) (Rows.shapePlacesSpec.post enc Try.prog Try.f8 false true false false) := by
  refine returnsInHanded_of_change (C := Try.checked) law1_ShapePlaces.own started (by kernel_rfl) Try.func8
    (ChangeSpec.witness6 (enc := enc) (C := Try.checked) false ⟨#[], #[.slice none 0 0], []⟩ 8 (by kernel_rfl) (by kernel_rfl) (by kernel_rfl) (by kernel_rfl)) ?_
  intro W base args ds gs before hval0 hW hcnd _
  have hval : ∀ (j : Nat) t v, Try.f8.params[j]? = some t → args[j]? = some v → Value.okWide Try.prog W .any base t v := hval0
  have hW' := hW
  obtain ⟨p, q, hA0, hV, rfl, hfz, hnd⟩ := hW
  have hA : DataW.TrodAll enc Try.prog W 0 (fun _ => true) true Try.f8.params.toList args.toList ds p := hA0
  rw [Try.params8] at hA hval
  obtain ⟨v0, d0, rfl, rfl, h0⟩ := trodAll_one hA
  obtain ⟨A0, c0, x0, rfl, hc0, hs0, o0⟩ := argSlice Try.underlying22 law1_ShapePlaces.reads0 (hval 0 22 v0 rfl rfl) h0
  have hmem : Mem [] [] W [.sl (Kd.int .i64) A0 c0 x0] W := by
    refine Mem.start rfl (fun f hf => ?_)
    simp only [List.mem_cons, List.not_mem_nil, or_false] at hf
    rcases hf with rfl
    · exact ⟨hc0, hs0⟩
  refine (law1_ShapePlaces.calls [] W x0 A0 x0.length c0 rfl hmem true (plain x0 o0)).mono fun e W' ⟨v, he, hv, hm⟩ => ?_
  subst he; subst hv
  exact ⟨_, rfl, postTrue (tb := 4) law1_ShapePlaces.laidOut rfl hW' hm.below (by rw [Try.params8]; decide +kernel) rfl Try.underlying4 rfl⟩

theorem law1_ShapePlaces.row (plain : ∀ (x0 : (List Int)) (o0 : x0.length ≤ 9223372036854775807 ∧ ∀ y ∈ x0, (Lit.int .i64 y).wf = true), law1_ShapePlaces.f x0 = some true) : Rows.ShapePlacesSaid :=
  OpenClaim.holds_of_wide 8 Try.f8 rfl rfl rfl rfl rfl rfl rfl ⟨rfl, rfl, rfl, rfl, rfl⟩ rfl rfl rfl rfl rfl (by kernel_rfl) Try.func8 (by kernel_rfl)
    (of_decide_eq_true (by kernel_rfl)) (by unfold Func.isWrapper; first | (rw [if_pos (by decide +kernel)]; kernel_rfl) | (rw [if_neg (by decide +kernel)]; exact ⟨rfl, rfl⟩))
    (fun os started H enc _ => law1_ShapePlaces.lifted plain os started H enc)
end Go.Proofs.Ytgekodhpkhdanaa
