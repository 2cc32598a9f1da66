/- The row of MatrixRows (printed by rows.py): over the walk 'law5_MatrixRows.calls' and the plain law 'law5_MatrixRows.plain'. -/
import Derived.Test.YtkcgiolledmbnaaRows
import Derived.Test.YtkcgiolledmbnaaE9
import Derived.Test.YtkcgiolledmbnaaLMatrixRows
namespace Go.Proofs.Ytkcgiolledmbnaa
open Go Go.RowKit Go.ChangeShapes Go.WideShapes Go.ChangeAt
set_option linter.unusedSimpArgs false
set_option linter.unusedVariables false

theorem law5_MatrixRows.own : ownKnob Try.prog.godebug = none := by kernel_rfl
theorem law5_MatrixRows.laidOut : laidOutB Try.prog = true := by kernel_rfl
theorem law5_MatrixRows.reads0 : ReadsAs Try.prog 42 kTensor (fun x => (x.Shape.length ≤ 9223372036854775807 ∧ ∀ y ∈ x.Shape, (Lit.int .i64 y).wf = true) ∧ (x.Data.length ≤ 9223372036854775807 ∧ ∀ y ∈ x.Data, (y < 2 ^ 64 ∧ canon y = y))) := (ReadsAs.struct (P := Try.prog) (t := 42) (fun v => ⟨v.1, v.2⟩) (fun _ => rfl) Try.underlying42 (by kernel_rfl) (ReadsAt.cons (P := Try.prog) (i := 0) rfl rfl (by kernel_rfl) (ReadsAs.slice (P := Try.prog) (t := 22) Try.underlying22 (by kernel_rfl) (of_decide_eq_true (by kernel_rfl)) (ReadsAs.int (P := Try.prog) (t := 3) Try.underlying3)) (ReadsAt.last (P := Try.prog) (i := 1) rfl rfl (by kernel_rfl) (ReadsAs.slice (P := Try.prog) (t := 40) Try.underlying40 (by kernel_rfl) (of_decide_eq_true (by kernel_rfl)) (ReadsAs.float (P := Try.prog) (t := 47) Try.underlying47)))))
theorem law5_MatrixRows.reads1 : ReadsAs Try.prog 42 kTensor (fun x => (x.Shape.length ≤ 9223372036854775807 ∧ ∀ y ∈ x.Shape, (Lit.int .i64 y).wf = true) ∧ (x.Data.length ≤ 9223372036854775807 ∧ ∀ y ∈ x.Data, (y < 2 ^ 64 ∧ canon y = y))) := (ReadsAs.struct (P := Try.prog) (t := 42) (fun v => ⟨v.1, v.2⟩) (fun _ => rfl) Try.underlying42 (by kernel_rfl) (ReadsAt.cons (P := Try.prog) (i := 0) rfl rfl (by kernel_rfl) (ReadsAs.slice (P := Try.prog) (t := 22) Try.underlying22 (by kernel_rfl) (of_decide_eq_true (by kernel_rfl)) (ReadsAs.int (P := Try.prog) (t := 3) Try.underlying3)) (ReadsAt.last (P := Try.prog) (i := 1) rfl rfl (by kernel_rfl) (ReadsAs.slice (P := Try.prog) (t := 40) Try.underlying40 (by kernel_rfl) (of_decide_eq_true (by kernel_rfl)) (ReadsAs.float (P := Try.prog) (t := 47) Try.underlying47)))))
theorem law5_MatrixRows.reads2 : ReadsAs Try.prog 43 (Kd.pair (Kd.int .u8) (Kd.int .u8)) (fun x => ((Lit.int .u8 x.1).wf = true) ∧ ((Lit.int .u8 x.2).wf = true)) := (ReadsAs.array (P := Try.prog) (t := 43) (n := 2) Try.underlying43 (by kernel_rfl) (ReadsEl.cons (P := Try.prog) (e := 5) (n := 2) (i := 0) (by decide) (by kernel_rfl) (ReadsAs.int (P := Try.prog) (t := 5) Try.underlying5) (ReadsEl.last (P := Try.prog) (e := 5) (n := 2) (i := 1) (by decide) (by kernel_rfl) (ReadsAs.int (P := Try.prog) (t := 5) Try.underlying5))))
set_option maxRecDepth 100000 in
theorem law5_MatrixRows.lifted (plain : ∀ (x0 : Tensor) (o0 : (x0.Shape.length ≤ 9223372036854775807 ∧ ∀ y ∈ x0.Shape, (Lit.int .i64 y).wf = true) ∧ (x0.Data.length ≤ 9223372036854775807 ∧ ∀ y ∈ x0.Data, (y < 2 ^ 64 ∧ canon y = y))) (x1 : Tensor) (o1 : (x1.Shape.length ≤ 9223372036854775807 ∧ ∀ y ∈ x1.Shape, (Lit.int .i64 y).wf = true) ∧ (x1.Data.length ≤ 9223372036854775807 ∧ ∀ y ∈ x1.Data, (y < 2 ^ 64 ∧ canon y = y))) (x2 : (Int × Int)) (o2 : ((Lit.int .u8 x2.1).wf = true) ∧ ((Lit.int .u8 x2.2).wf = true)), law5_MatrixRows.f x0 x1 x2 = some true) (os : Os) (started : os.Started) (H : Type) (enc : TypeId × Value → H) :
    ReturnsInHanded {} Try.checked os 9 .any (Rows.matrixRowsSpec.pre6 enc Try.prog Try.f9 Rows.matrixRowsRow.domain false) (Rows.matrixRowsSpec.post enc Try.prog Try.f9 false true false false) := by
  refine returnsInHanded_of_change (C := Try.checked) law5_MatrixRows.own started (by kernel_rfl) Try.func9
    (ChangeSpec.witness6 (enc := enc) (C := Try.checked) false ⟨#[], #[.agg #[.slice none 0 0, .slice none 0 0], .agg #[.slice none 0 0, .slice none 0 0], .agg #[.int .u8 0, .int .u8 0]], []⟩ 8 (by kernel_rfl) (by kernel_rfl) (by kernel_rfl) (by kernel_rfl)) ?_
  intro W base args ds gs before hval0 hW hcnd _
  have hval : ∀ (j : Nat) t v, Try.f9.params[j]? = some t → args[j]? = some v → Value.okWide Try.prog W .any base t v := hval0
  have hW' := hW
  obtain ⟨p, q, hA0, hV, rfl, hfz, hnd⟩ := hW
  have hA : DataW.TrodAll enc Try.prog W 0 (fun _ => true) true Try.f9.params.toList args.toList ds p := hA0
  rw [Try.params9] at hA hval
  obtain ⟨v0, v1, v2, d0, d1, d2, p0, p1, p2, rfl, rfl, rfl, h0, h1, h2⟩ := trodAll_three hA
  obtain ⟨us0, x0, rfl, hr0, o0⟩ := argStruct Try.underlying42 law5_MatrixRows.reads0 (hval 0 42 v0 rfl rfl) h0
  obtain ⟨A0_0, c0_0, A0_1, c0_1, eu0, ⟨hc0_0, hs0_0⟩, ⟨hc0_1, hs0_1⟩⟩ := kTensor.open hr0
  obtain rfl : us0 = #[.slice A0_0 x0.Shape.length c0_0, .slice A0_1 x0.Data.length c0_1] := by apply Array.toList_inj.1; simpa using eu0
  obtain ⟨us1, x1, rfl, hr1, o1⟩ := argStruct Try.underlying42 law5_MatrixRows.reads1 (hval 1 42 v1 rfl rfl) h1
  obtain ⟨A1_0, c1_0, A1_1, c1_1, eu1, ⟨hc1_0, hs1_0⟩, ⟨hc1_1, hs1_1⟩⟩ := kTensor.open hr1
  obtain rfl : us1 = #[.slice A1_0 x1.Shape.length c1_0, .slice A1_1 x1.Data.length c1_1] := by apply Array.toList_inj.1; simpa using eu1
  obtain ⟨us2, x2, rfl, hr2, o2⟩ := argArray Try.underlying43 law5_MatrixRows.reads2 (hval 2 43 v2 rfl rfl) h2
  obtain ⟨_, _, eu2, ha2_1, hb2_1⟩ := hr2
  obtain rfl := ha2_1
  obtain rfl := hb2_1
  obtain rfl : us2 = #[.int .u8 x2.1, .int .u8 x2.2] := by apply Array.toList_inj.1; simpa using eu2
  have hmem : Mem [] [] W [.sl (Kd.int .i64) A0_0 c0_0 x0.Shape, .sl Kd.float A0_1 c0_1 x0.Data, .sl (Kd.int .i64) A1_0 c1_0 x1.Shape, .sl Kd.float A1_1 c1_1 x1.Data] W := by
    refine Mem.start rfl (fun f hf => ?_)
    simp only [List.mem_cons, List.not_mem_nil, or_false] at hf
    rcases hf with rfl | rfl | rfl | rfl
    · exact ⟨hc0_0, hs0_0⟩
    · exact ⟨hc0_1, hs0_1⟩
    · exact ⟨hc1_0, hs1_0⟩
    · exact ⟨hc1_1, hs1_1⟩
  refine (law5_MatrixRows.calls [] W x0 A0_0 x0.Shape.length c0_0 rfl A0_1 x0.Data.length c0_1 rfl x1 A1_0 x1.Shape.length c1_0 rfl A1_1 x1.Data.length c1_1 rfl x2  hmem true (plain x0 o0 x1 o1 x2 o2)).mono fun e W' ⟨v, he, hv, hm⟩ => ?_
  subst he; subst hv
  exact ⟨_, rfl, postTrue (tb := 4) law5_MatrixRows.laidOut rfl hW' hm.below (by rw [Try.params9]; decide +kernel) rfl Try.underlying4 rfl⟩

theorem law5_MatrixRows.row (plain : ∀ (x0 : Tensor) (o0 : (x0.Shape.length ≤ 9223372036854775807 ∧ ∀ y ∈ x0.Shape, (Lit.int .i64 y).wf = true) ∧ (x0.Data.length ≤ 9223372036854775807 ∧ ∀ y ∈ x0.Data, (y < 2 ^ 64 ∧ canon y = y))) (x1 : Tensor) (o1 : (x1.Shape.length ≤ 9223372036854775807 ∧ ∀ y ∈ x1.Shape, (Lit.int .i64 y).wf = true) ∧ (x1.Data.length ≤ 9223372036854775807 ∧ ∀ y ∈ x1.Data, (y < 2 ^ 64 ∧ canon y = y))) (x2 : (Int × Int)) (o2 : ((Lit.int .u8 x2.1).wf = true) ∧ ((Lit.int .u8 x2.2).wf = true)), law5_MatrixRows.f x0 x1 x2 = some true) : Rows.MatrixRowsSaid :=
  OpenClaim.holds_of_wide 9 Try.f9 rfl rfl rfl rfl rfl rfl rfl ⟨rfl, rfl, rfl, rfl, rfl⟩ rfl rfl rfl rfl rfl (by kernel_rfl) Try.func9 (by kernel_rfl)
    (of_decide_eq_true (by kernel_rfl)) (by unfold Func.isWrapper; first | (rw [if_pos (by decide +kernel)]; kernel_rfl) | (rw [if_neg (by decide +kernel)]; exact ⟨rfl, rfl⟩))
    (fun os started H enc _ => law5_MatrixRows.lifted plain os started H enc)
end Go.Proofs.Ytkcgiolledmbnaa
