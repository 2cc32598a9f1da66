/- The row of ShelfZeros (printed by rows.py): over the walk 'law19_ShelfZeros.calls' and the plain law 'law19_ShelfZeros.plain'. -/
import Derived.Test.YtolhkamfpfjodaaRows
import Derived.Test.YtolhkamfpfjodaaE9
import Derived.Test.YtolhkamfpfjodaaLShelfZeros
namespace Go.Proofs.Ytolhkamfpfjodaa
open Go Go.RowKit Go.ChangeShapes Go.WideShapes Go.ChangeAt
set_option linter.unusedSimpArgs false
set_option linter.unusedVariables false

theorem law19_ShelfZeros.own : ownKnob Try.prog.godebug = none := by kernel_rfl
theorem law19_ShelfZeros.laidOut : laidOutB Try.prog = true := by kernel_rfl
set_option maxRecDepth 100000 in
theorem law19_ShelfZeros.reads0 : ReadsAs Try.prog 22 (Kd.slice (Kd.int .i16)) (fun x => x.length ≤ 9223372036854775807 ∧ ∀ y ∈ x, (Lit.int .i16 y).wf = true) := (ReadsAs.slice (P := Try.prog) (t := 22) Try.underlying22 (by kernel_rfl) (of_decide_eq_true (by kernel_rfl)) (ReadsAs.int (P := Try.prog) (t := 30) Try.underlying30))
set_option maxRecDepth 100000 in
theorem law19_ShelfZeros.lifted (plain : ∀ (x0 : (List Int)) (o0 : x0.length ≤ 9223372036854775807 ∧ ∀ y ∈ x0, (Lit.int .i16 y).wf = true) (x1 : Int) (o1 : (Lit.int .u8 x1).wf = true), law19_ShelfZeros.f x0 x1 = some true) (os : Os) (started : os.Started) (H : Type) (enc : TypeId × Value → H) :
    ReturnsInHanded {} Try.checked os 3 .any (Rows.shelfZerosSpec.pre6 enc Try.prog Try.f3 Rows.shelfZerosRow.domain false) (Rows.shelfZerosSpec.post enc Try.prog Try.f3 false true false false) := by
  refine returnsInHanded_of_change (C := Try.checked) law19_ShelfZeros.own started (by kernel_rfl) Try.func3
    (ChangeSpec.witness6 (enc := enc) (C := Try.checked) false ⟨#[], #[.slice none 0 0, .int .u8 0], []⟩ 8 (by kernel_rfl) (by kernel_rfl) (by kernel_rfl) (by kernel_rfl)) ?_
  intro W base args ds gs before hval0 hW hcnd _
  have hval : ∀ (j : Nat) t v, Try.f3.params[j]? = some t → args[j]? = some v → Value.okWide Try.prog W .any base t v := hval0
  have hW' := hW
  obtain ⟨p, q, hA0, hV, rfl, hfz, hnd⟩ := hW
  have hA : DataW.TrodAll enc Try.prog W 0 (fun _ => true) true Try.f3.params.toList args.toList ds p := hA0
  rw [Try.params3] at hA hval
  obtain ⟨v0, v1, d0, d1, p0, p1, rfl, rfl, rfl, h0, h1⟩ := trodAll_two hA
  obtain ⟨A0, c0, x0, rfl, hc0, hs0, o0⟩ := argSlice Try.underlying22 law19_ShelfZeros.reads0 (hval 0 22 v0 rfl rfl) h0
  obtain ⟨x1, rfl, _, _, o1⟩ := open_int Try.underlying5 (hval 1 5 v1 rfl rfl) h1
  have hmem : Mem [] [] W [.sl (Kd.int .i16) A0 c0 x0] W := by
    refine Mem.start rfl (fun f hf => ?_)
    simp only [List.mem_cons, List.not_mem_nil, or_false] at hf
    rcases hf with rfl
    · exact ⟨hc0, hs0⟩
  refine (law19_ShelfZeros.calls [] W x0 A0 x0.length c0 rfl x1 hmem true (plain x0 o0 x1 o1)).mono fun e W' ⟨v, he, hv, hm⟩ => ?_
  subst he; subst hv
  exact ⟨_, rfl, postTrue (tb := 4) law19_ShelfZeros.laidOut rfl hW' hm.below (by rw [Try.params3]; decide +kernel) rfl Try.underlying4 rfl⟩

theorem law19_ShelfZeros.row (plain : ∀ (x0 : (List Int)) (o0 : x0.length ≤ 9223372036854775807 ∧ ∀ y ∈ x0, (Lit.int .i16 y).wf = true) (x1 : Int) (o1 : (Lit.int .u8 x1).wf = true), law19_ShelfZeros.f x0 x1 = some true) : Rows.ShelfZerosSaid :=
  OpenClaim.holds_of_wide 3 Try.f3 rfl rfl rfl rfl rfl rfl rfl ⟨rfl, rfl, rfl, rfl, rfl⟩ rfl rfl rfl rfl rfl (by kernel_rfl) Try.func3 (by kernel_rfl)
    (of_decide_eq_true (by kernel_rfl)) (by unfold Func.isWrapper; first | (rw [if_pos (by decide +kernel)]; kernel_rfl) | (rw [if_neg (by decide +kernel)]; exact ⟨rfl, rfl⟩))
    (fun os started H enc _ => law19_ShelfZeros.lifted plain os started H enc)
end Go.Proofs.Ytolhkamfpfjodaa
