/- The row of FoldOrders (printed by rows.py): over the walk 'law8_FoldOrders.calls' and the plain law 'law8_FoldOrders.plain'. -/
import Derived.Test.YtkcgiolledmbnabRows
import Derived.Test.YtkcgiolledmbnabE9
import Derived.Test.YtkcgiolledmbnabLFoldOrders
namespace Go.Proofs.Ytkcgiolledmbnab
open Go Go.RowKit Go.ChangeShapes Go.WideShapes Go.ChangeAt
set_option linter.unusedSimpArgs false
set_option linter.unusedVariables false

theorem law8_FoldOrders.own : ownKnob Try.prog.godebug = none := by kernel_rfl
theorem law8_FoldOrders.laidOut : laidOutB Try.prog = true := by kernel_rfl
set_option maxRecDepth 100000 in
theorem law8_FoldOrders.reads0 : ReadsAs Try.prog 22 (Kd.slice kTensor) (fun x => x.length ≤ 9223372036854775807 ∧ ∀ y ∈ x, (y.Shape.length ≤ 9223372036854775807 ∧ ∀ y1 ∈ y.Shape, (Lit.int .i64 y1).wf = true) ∧ (y.Data.length ≤ 9223372036854775807 ∧ ∀ y1 ∈ y.Data, (y1 < 2 ^ 64 ∧ canon y1 = y1))) := (ReadsAs.slice (P := Try.prog) (t := 22) Try.underlying22 (by kernel_rfl) (of_decide_eq_true (by kernel_rfl)) (ReadsAs.struct (P := Try.prog) (t := 28) (fun v => ⟨v.1, v.2⟩) (fun _ => rfl) Try.underlying28 (by kernel_rfl) (ReadsAt.cons (P := Try.prog) (i := 0) rfl rfl (by kernel_rfl) (ReadsAs.slice (P := Try.prog) (t := 25) Try.underlying25 (by kernel_rfl) (of_decide_eq_true (by kernel_rfl)) (ReadsAs.int (P := Try.prog) (t := 3) Try.underlying3)) (ReadsAt.last (P := Try.prog) (i := 1) rfl rfl (by kernel_rfl) (ReadsAs.slice (P := Try.prog) (t := 26) Try.underlying26 (by kernel_rfl) (of_decide_eq_true (by kernel_rfl)) (ReadsAs.float (P := Try.prog) (t := 44) Try.underlying44))))))
set_option maxRecDepth 100000 in
theorem law8_FoldOrders.reads1 : ReadsAs Try.prog 35 (Kd.slice (Kd.int .u8)) (fun x => x.length ≤ 9223372036854775807 ∧ ∀ y ∈ x, (Lit.int .u8 y).wf = true) := (ReadsAs.slice (P := Try.prog) (t := 35) Try.underlying35 (by kernel_rfl) (of_decide_eq_true (by kernel_rfl)) (ReadsAs.int (P := Try.prog) (t := 5) Try.underlying5))
set_option maxRecDepth 100000 in
theorem law8_FoldOrders.lifted (plain : ∀ (x0 : (List Tensor)) (o0 : x0.length ≤ 9223372036854775807 ∧ ∀ y ∈ x0, (y.Shape.length ≤ 9223372036854775807 ∧ ∀ y1 ∈ y.Shape, (Lit.int .i64 y1).wf = true) ∧ (y.Data.length ≤ 9223372036854775807 ∧ ∀ y1 ∈ y.Data, (y1 < 2 ^ 64 ∧ canon y1 = y1))) (x1 : (List Int)) (o1 : x1.length ≤ 9223372036854775807 ∧ ∀ y ∈ x1, (Lit.int .u8 y).wf = true), law8_FoldOrders.f x0 x1 = some true) (os : Os) (started : os.Started) (H : Type) (enc : TypeId × Value → H) :
    ReturnsInHanded {} Try.checked os 4 .any (Rows.foldOrdersSpec.pre6 enc Try.prog Try.f4 Rows.foldOrdersRow.domain false) (Rows.foldOrdersSpec.post enc Try.prog Try.f4 false true false false) := by
  refine returnsInHanded_of_change (C := Try.checked) law8_FoldOrders.own started (by kernel_rfl) Try.func4
    (ChangeSpec.witness6 (enc := enc) (C := Try.checked) false ⟨#[], #[.slice none 0 0, .slice none 0 0], []⟩ 8 (by kernel_rfl) (by kernel_rfl) (by kernel_rfl) (by kernel_rfl)) ?_
  intro W base args ds gs before hval0 hW hcnd _
  have hval : ∀ (j : Nat) t v, Try.f4.params[j]? = some t → args[j]? = some v → Value.okWide Try.prog W .any base t v := hval0
  have hW' := hW
  obtain ⟨p, q, hA0, hV, rfl, hfz, hnd⟩ := hW
  have hA : DataW.TrodAll enc Try.prog W 0 (fun _ => true) true Try.f4.params.toList args.toList ds p := hA0
  rw [Try.params4] at hA hval
  obtain ⟨v0, v1, d0, d1, p0, p1, rfl, rfl, rfl, h0, h1⟩ := trodAll_two hA
  obtain ⟨A0, c0, x0, rfl, hc0, hs0, o0⟩ := argSlice Try.underlying22 law8_FoldOrders.reads0 (hval 0 22 v0 rfl rfl) h0
  obtain ⟨A1, c1, x1, rfl, hc1, hs1, o1⟩ := argSlice Try.underlying35 law8_FoldOrders.reads1 (hval 1 35 v1 rfl rfl) h1
  have hmem : Mem [] [] W [.sl kTensor A0 c0 x0, .sl (Kd.int .u8) A1 c1 x1] W := by
    refine Mem.start rfl (fun f hf => ?_)
    simp only [List.mem_cons, List.not_mem_nil, or_false] at hf
    rcases hf with rfl | rfl
    · exact ⟨hc0, hs0⟩
    · exact ⟨hc1, hs1⟩
  refine (law8_FoldOrders.calls [] W x0 A0 x0.length c0 rfl x1 A1 x1.length c1 rfl hmem true (plain x0 o0 x1 o1)).mono fun e W' ⟨v, he, hv, hm⟩ => ?_
  subst he; subst hv
  exact ⟨_, rfl, postTrue (tb := 4) law8_FoldOrders.laidOut rfl hW' hm.below (by rw [Try.params4]; decide +kernel) rfl Try.underlying4 rfl⟩

theorem law8_FoldOrders.row (plain : ∀ (x0 : (List Tensor)) (o0 : x0.length ≤ 9223372036854775807 ∧ ∀ y ∈ x0, (y.Shape.length ≤ 9223372036854775807 ∧ ∀ y1 ∈ y.Shape, (Lit.int .i64 y1).wf = true) ∧ (y.Data.length ≤ 9223372036854775807 ∧ ∀ y1 ∈ y.Data, (y1 < 2 ^ 64 ∧ canon y1 = y1))) (x1 : (List Int)) (o1 : x1.length ≤ 9223372036854775807 ∧ ∀ y ∈ x1, (Lit.int .u8 y).wf = true), law8_FoldOrders.f x0 x1 = some true) : Rows.FoldOrdersSaid :=
  OpenClaim.holds_of_wide 4 Try.f4 rfl rfl rfl rfl rfl rfl rfl ⟨rfl, rfl, rfl, rfl, rfl⟩ rfl rfl rfl rfl rfl (by kernel_rfl) Try.func4 (by kernel_rfl)
    (of_decide_eq_true (by kernel_rfl)) (by unfold Func.isWrapper; first | (rw [if_pos (by decide +kernel)]; kernel_rfl) | (rw [if_neg (by decide +kernel)]; exact ⟨rfl, rfl⟩))
    (fun os started H enc _ => law8_FoldOrders.lifted plain os started H enc)
end Go.Proofs.Ytkcgiolledmbnab
