/- The row of FoldTrees (printed by rows.py): over the walk 'law8_FoldTrees.calls' and the plain law 'law8_FoldTrees.plain'. -/
import Derived.Test.YtkcgiolledmbnabRows
import Derived.Test.YtkcgiolledmbnabE9
import Derived.Test.YtkcgiolledmbnabLFoldTrees
namespace Go.Proofs.Ytkcgiolledmbnab
open Go Go.RowKit Go.ChangeShapes Go.WideShapes Go.ChangeAt
set_option linter.unusedSimpArgs false
set_option linter.unusedVariables false

theorem law8_FoldTrees.own : ownKnob Try.prog.godebug = none := by kernel_rfl
theorem law8_FoldTrees.laidOut : laidOutB Try.prog = true := by kernel_rfl
theorem law8_FoldTrees.reads0 : ReadsAs Try.prog 22 (Kd.slice kTensor) (fun x => x.length ≤ 9223372036854775807 ∧ ∀ y ∈ x, (y.Shape.length ≤ 9223372036854775807 ∧ ∀ y1 ∈ y.Shape, (Lit.int .i64 y1).wf = true) ∧ (y.Data.length ≤ 9223372036854775807 ∧ ∀ y1 ∈ y.Data, (y1 < 2 ^ 64 ∧ canon y1 = y1))) := (ReadsAs.slice (P := Try.prog) (t := 22) Try.underlying22 (by kernel_rfl) (of_decide_eq_true (by kernel_rfl)) (ReadsAs.struct (P := Try.prog) (t := 28) (fun v => ⟨v.1, v.2⟩) (fun _ => rfl) Try.underlying28 (by kernel_rfl) (ReadsAt.cons (P := Try.prog) (i := 0) rfl rfl (by kernel_rfl) (ReadsAs.slice (P := Try.prog) (t := 25) Try.underlying25 (by kernel_rfl) (of_decide_eq_true (by kernel_rfl)) (ReadsAs.int (P := Try.prog) (t := 3) Try.underlying3)) (ReadsAt.last (P := Try.prog) (i := 1) rfl rfl (by kernel_rfl) (ReadsAs.slice (P := Try.prog) (t := 26) Try.underlying26 (by kernel_rfl) (of_decide_eq_true (by kernel_rfl)) (ReadsAs.float (P := Try.prog) (t := 44) Try.underlying44))))))
set_option maxRecDepth 100000 in
theorem law8_FoldTrees.lifted (plain : ∀ (x0 : (List Tensor)) (o0 : x0.length ≤ 9223372036854775807 ∧ ∀ y ∈ x0, (y.Shape.length ≤ 9223372036854775807 ∧ ∀ y1 ∈ y.Shape, (Lit.int .i64 y1).wf = true) ∧ (y.Data.length ≤ 9223372036854775807 ∧ ∀ y1 ∈ y.Data, (y1 < 2 ^ 64 ∧ canon y1 = y1))), law8_FoldTrees.f x0 = some true) (os : Os) (started : os.Started) (H : Type) (enc : TypeId × Value → H) :
    ReturnsInHanded {} Try.checked os 3 .any (Rows.foldTreesSpec.pre6 enc Try.prog Try.f3 Rows.foldTreesRow.domain false) (Rows.foldTreesSpec.post enc Try.prog Try.f3 false true false false) := by
  refine returnsInHanded_of_change (C := Try.checked) law8_FoldTrees.own started (by kernel_rfl) Try.func3
    (ChangeSpec.witness6 (enc := enc) (C := Try.checked) false ⟨#[], #[.slice none 0 0], []⟩ 8 (by kernel_rfl) (by kernel_rfl) (by kernel_rfl) (by kernel_rfl)) ?_
  intro W base args ds gs before hval0 hW hcnd _
  have hval : ∀ (j : Nat) t v, Try.f3.params[j]? = some t → args[j]? = some v → Value.okWide Try.prog W .any base t v := hval0
  have hW' := hW
  obtain ⟨p, q, hA0, hV, rfl, hfz, hnd⟩ := hW
  have hA : DataW.TrodAll enc Try.prog W 0 (fun _ => true) true Try.f3.params.toList args.toList ds p := hA0
  rw [Try.params3] at hA hval
  obtain ⟨v0, d0, rfl, rfl, h0⟩ := trodAll_one hA
  obtain ⟨A0, c0, x0, rfl, hc0, hs0, o0⟩ := argSlice Try.underlying22 law8_FoldTrees.reads0 (hval 0 22 v0 rfl rfl) h0
  have hmem : Mem [] [] W [.sl kTensor A0 c0 x0] W := by
    refine Mem.start rfl (fun f hf => ?_)
    simp only [List.mem_cons, List.not_mem_nil, or_false] at hf
    rcases hf with rfl
    · exact ⟨hc0, hs0⟩
  refine (law8_FoldTrees.calls [] W x0 A0 x0.length c0 rfl hmem true (plain x0 o0)).mono fun e W' ⟨v, he, hv, hm⟩ => ?_
  subst he; subst hv
  exact ⟨_, rfl, postTrue (tb := 4) law8_FoldTrees.laidOut rfl hW' hm.below (by rw [Try.params3]; decide +kernel) rfl Try.underlying4 rfl⟩

theorem law8_FoldTrees.row (plain : ∀ (x0 : (List Tensor)) (o0 : x0.length ≤ 9223372036854775807 ∧ ∀ y ∈ x0, (y.Shape.length ≤ 9223372036854775807 ∧ ∀ y1 ∈ y.Shape, (Lit.int .i64 y1).wf = true) ∧ (y.Data.length ≤ 9223372036854775807 ∧ ∀ y1 ∈ y.Data, (y1 < 2 ^ 64 ∧ canon y1 = y1))), law8_FoldTrees.f x0 = some true) : Rows.FoldTreesSaid :=
  OpenClaim.holds_of_wide 3 Try.f3 rfl rfl rfl rfl rfl rfl rfl ⟨rfl, rfl, rfl, rfl, rfl⟩ rfl rfl rfl rfl rfl (by kernel_rfl) Try.func3 (by kernel_rfl)
    (of_decide_eq_true (by kernel_rfl)) (by unfold Func.isWrapper; first | (rw [if_pos (by decide +kernel)]; kernel_rfl) | (rw [if_neg (by decide +kernel)]; exact ⟨rfl, rfl⟩))
    (fun os started H enc _ => law8_FoldTrees.lifted plain os started H enc)
end Go.Proofs.Ytkcgiolledmbnab
