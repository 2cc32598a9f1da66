/- The row of TensorAsks (printed by rows.py): over the walk 'law3_TensorAsks.calls' and the plain law 'law3_TensorAsks.plain'. -/
import Derived.Test.YtkcgiolledmbnabRows
import Derived.Test.YtkcgiolledmbnabE9
import Derived.Test.YtkcgiolledmbnabLTensorAsks
namespace Go.Proofs.Ytkcgiolledmbnab
open Go Go.RowKit Go.ChangeShapes Go.WideShapes Go.ChangeAt
set_option linter.unusedSimpArgs false
set_option linter.unusedVariables false

theorem law3_TensorAsks.own : ownKnob Try.prog.godebug = none := by kernel_rfl
theorem law3_TensorAsks.laidOut : laidOutB Try.prog = true := by kernel_rfl
theorem law3_TensorAsks.reads0 : ReadsAs Try.prog 28 kTensor (fun x => (x.Shape.length ≤ 9223372036854775807 ∧ ∀ y ∈ x.Shape, (Lit.int .i64 y).wf = true) ∧ (x.Data.length ≤ 9223372036854775807 ∧ ∀ y ∈ x.Data, (y < 2 ^ 64 ∧ canon y = y))) := (ReadsAs.struct (P := Try.prog) (t := 28) (fun v => ⟨v.1, v.2⟩) (fun _ => rfl) Try.underlying28 (by kernel_rfl) (ReadsAt.cons (P := Try.prog) (i := 0) rfl rfl (by kernel_rfl) (ReadsAs.slice (P := Try.prog) (t := 25) Try.underlying25 (by kernel_rfl) (of_decide_eq_true (by kernel_rfl)) (ReadsAs.int (P := Try.prog) (t := 3) Try.underlying3)) (ReadsAt.last (P := Try.prog) (i := 1) rfl rfl (by kernel_rfl) (ReadsAs.slice (P := Try.prog) (t := 26) Try.underlying26 (by kernel_rfl) (of_decide_eq_true (by kernel_rfl)) (ReadsAs.float (P := Try.prog) (t := 44) Try.underlying44)))))
theorem law3_TensorAsks.reads1 : ReadsAs Try.prog 28 kTensor (fun x => (x.Shape.length ≤ 9223372036854775807 ∧ ∀ y ∈ x.Shape, (Lit.int .i64 y).wf = true) ∧ (x.Data.length ≤ 9223372036854775807 ∧ ∀ y ∈ x.Data, (y < 2 ^ 64 ∧ canon y = y))) := (ReadsAs.struct (P := Try.prog) (t := 28) (fun v => ⟨v.1, v.2⟩) (fun _ => rfl) Try.underlying28 (by kernel_rfl) (ReadsAt.cons (P := Try.prog) (i := 0) rfl rfl (by kernel_rfl) (ReadsAs.slice (P := Try.prog) (t := 25) Try.underlying25 (by kernel_rfl) (of_decide_eq_true (by kernel_rfl)) (ReadsAs.int (P := Try.prog) (t := 3) Try.underlying3)) (ReadsAt.last (P := Try.prog) (i := 1) rfl rfl (by kernel_rfl) (ReadsAs.slice (P := Try.prog) (t := 26) Try.underlying26 (by kernel_rfl) (of_decide_eq_true (by kernel_rfl)) (ReadsAs.float (P := Try.prog) (t := 44) Try.underlying44)))))
theorem law3_TensorAsks.reads2 : ReadsAs Try.prog 25 (Kd.slice (Kd.int .i64)) (fun x => x.length ≤ 9223372036854775807 ∧ ∀ y ∈ x, (Lit.int .i64 y).wf = true) := (ReadsAs.slice (P := Try.prog) (t := 25) Try.underlying25 (by kernel_rfl) (of_decide_eq_true (by kernel_rfl)) (ReadsAs.int (P := Try.prog) (t := 3) Try.underlying3))
set_option maxRecDepth 100000 in
theorem law3_TensorAsks.lifted (plain : ∀ (x0 : Tensor) (o0 : (x0.Shape.length ≤ 9223372036854775807 ∧ ∀ y ∈ x0.Shape, (Lit.int .i64 y).wf = true) ∧ (x0.Data.length ≤ 9223372036854775807 ∧ ∀ y ∈ x0.Data, (y < 2 ^ 64 ∧ canon y = y))) (x1 : Tensor) (o1 : (x1.Shape.length ≤ 9223372036854775807 ∧ ∀ y ∈ x1.Shape, (Lit.int .i64 y).wf = true) ∧ (x1.Data.length ≤ 9223372036854775807 ∧ ∀ y ∈ x1.Data, (y < 2 ^ 64 ∧ canon y = y))) (x2 : (List Int)) (o2 : x2.length ≤ 9223372036854775807 ∧ ∀ y ∈ x2, (Lit.int .i64 y).wf = true), law3_TensorAsks.f x0 x1 x2 = some true) (os : Os) (started : os.Started) (H : Type) (enc : TypeId × Value → H) :
    ReturnsInHanded {} Try.checked os 9 .any (Rows.tensorAsksSpec.pre6 enc Try.prog Try.f9 Rows.tensorAsksRow.domain false) (Rows.tensorAsksSpec.post enc Try.prog Try.f9 false true false false) := by
  refine returnsInHanded_of_change (C := Try.checked) law3_TensorAsks.own started (by kernel_rfl) Try.func9
    (ChangeSpec.witness6 (enc := enc) (C := Try.checked) false ⟨#[], #[.agg #[.slice none 0 0, .slice none 0 0], .agg #[.slice none 0 0, .slice none 0 0], .slice none 0 0], []⟩ 8 (by kernel_rfl) (by kernel_rfl) (by kernel_rfl) (by kernel_rfl)) ?_
  intro W base args ds gs before hval0 hW hcnd _
  have hval : ∀ (j : Nat) t v, Try.f9.params[j]? = some t → args[j]? = some v → Value.okWide Try.prog W .any base t v := hval0
  have hW' := hW
  obtain ⟨p, q, hA0, hV, rfl, hfz, hnd⟩ := hW
  have hA : DataW.TrodAll enc Try.prog W 0 (fun _ => true) true Try.f9.params.toList args.toList ds p := hA0
  rw [Try.params9] at hA hval
  obtain ⟨v0, v1, v2, d0, d1, d2, p0, p1, p2, rfl, rfl, rfl, h0, h1, h2⟩ := trodAll_three hA
  obtain ⟨us0, x0, rfl, hr0, o0⟩ := argStruct Try.underlying28 law3_TensorAsks.reads0 (hval 0 28 v0 rfl rfl) h0
  obtain ⟨A0_0, c0_0, A0_1, c0_1, eu0, ⟨hc0_0, hs0_0⟩, ⟨hc0_1, hs0_1⟩⟩ := kTensor.open hr0
  obtain rfl : us0 = #[.slice A0_0 x0.Shape.length c0_0, .slice A0_1 x0.Data.length c0_1] := by apply Array.toList_inj.1; simpa using eu0
  obtain ⟨us1, x1, rfl, hr1, o1⟩ := argStruct Try.underlying28 law3_TensorAsks.reads1 (hval 1 28 v1 rfl rfl) h1
  obtain ⟨A1_0, c1_0, A1_1, c1_1, eu1, ⟨hc1_0, hs1_0⟩, ⟨hc1_1, hs1_1⟩⟩ := kTensor.open hr1
  obtain rfl : us1 = #[.slice A1_0 x1.Shape.length c1_0, .slice A1_1 x1.Data.length c1_1] := by apply Array.toList_inj.1; simpa using eu1
  obtain ⟨A2, c2, x2, rfl, hc2, hs2, o2⟩ := argSlice Try.underlying25 law3_TensorAsks.reads2 (hval 2 25 v2 rfl rfl) h2
  have hmem : Mem [] [] W [.sl (Kd.int .i64) A0_0 c0_0 x0.Shape, .sl Kd.float A0_1 c0_1 x0.Data, .sl (Kd.int .i64) A1_0 c1_0 x1.Shape, .sl Kd.float A1_1 c1_1 x1.Data, .sl (Kd.int .i64) A2 c2 x2] W := by
    refine Mem.start rfl (fun f hf => ?_)
    simp only [List.mem_cons, List.not_mem_nil, or_false] at hf
    rcases hf with rfl | rfl | rfl | rfl | rfl
    · exact ⟨hc0_0, hs0_0⟩
    · exact ⟨hc0_1, hs0_1⟩
    · exact ⟨hc1_0, hs1_0⟩
    · exact ⟨hc1_1, hs1_1⟩
    · exact ⟨hc2, hs2⟩
  refine (law3_TensorAsks.calls [] W x0 A0_0 x0.Shape.length c0_0 rfl A0_1 x0.Data.length c0_1 rfl x1 A1_0 x1.Shape.length c1_0 rfl A1_1 x1.Data.length c1_1 rfl x2 A2 x2.length c2 rfl hmem true (plain x0 o0 x1 o1 x2 o2)).mono fun e W' ⟨v, he, hv, hm⟩ => ?_
  subst he; subst hv
  exact ⟨_, rfl, postTrue (tb := 4) law3_TensorAsks.laidOut rfl hW' hm.below (by rw [Try.params9]; decide +kernel) rfl Try.underlying4 rfl⟩

theorem law3_TensorAsks.row (plain : ∀ (x0 : Tensor) (o0 : (x0.Shape.length ≤ 9223372036854775807 ∧ ∀ y ∈ x0.Shape, (Lit.int .i64 y).wf = true) ∧ (x0.Data.length ≤ 9223372036854775807 ∧ ∀ y ∈ x0.Data, (y < 2 ^ 64 ∧ canon y = y))) (x1 : Tensor) (o1 : (x1.Shape.length ≤ 9223372036854775807 ∧ ∀ y ∈ x1.Shape, (Lit.int .i64 y).wf = true) ∧ (x1.Data.length ≤ 9223372036854775807 ∧ ∀ y ∈ x1.Data, (y < 2 ^ 64 ∧ canon y = y))) (x2 : (List Int)) (o2 : x2.length ≤ 9223372036854775807 ∧ ∀ y ∈ x2, (Lit.int .i64 y).wf = true), law3_TensorAsks.f x0 x1 x2 = some true) : Rows.TensorAsksSaid :=
  OpenClaim.holds_of_wide 9 Try.f9 rfl rfl rfl rfl rfl rfl rfl ⟨rfl, rfl, rfl, rfl, rfl⟩ rfl rfl rfl rfl rfl (by kernel_rfl) Try.func9 (by kernel_rfl)
    (of_decide_eq_true (by kernel_rfl)) (by unfold Func.isWrapper; first | (rw [if_pos (by decide +kernel)]; kernel_rfl) | (rw [if_neg (by decide +kernel)]; exact ⟨rfl, rfl⟩))
    (fun os started H enc _ => law3_TensorAsks.lifted plain os started H enc)
end Go.Proofs.Ytkcgiolledmbnab
