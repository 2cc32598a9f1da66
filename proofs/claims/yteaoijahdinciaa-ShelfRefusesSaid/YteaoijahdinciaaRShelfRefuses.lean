/- The row of ShelfRefuses (printed by rows.py): over the walk 'law19_ShelfRefuses.calls' and the plain law 'law19_ShelfRefuses.plain'. -/
import Derived.Test.YteaoijahdinciaaRows
import Derived.Test.YteaoijahdinciaaE9
import Derived.Test.YteaoijahdinciaaLShelfRefuses
namespace Go.Proofs.Yteaoijahdinciaa
open Go Go.RowKit Go.ChangeShapes Go.WideShapes Go.ChangeAt
set_option linter.unusedSimpArgs false
set_option linter.unusedVariables false

theorem law19_ShelfRefuses.own : ownKnob Try.prog.godebug = none := by kernel_rfl
theorem law19_ShelfRefuses.laidOut : laidOutB Try.prog = true := by kernel_rfl
set_option maxRecDepth 100000 in
theorem law19_ShelfRefuses.reads0 : ReadsAs Try.prog 24 (Kd.slice kTensor) (fun x => x.length ≤ 9223372036854775807 ∧ ∀ y ∈ x, (y.Shape.length ≤ 9223372036854775807 ∧ ∀ y1 ∈ y.Shape, (Lit.int .i64 y1).wf = true) ∧ (y.Data.length ≤ 9223372036854775807 ∧ ∀ y1 ∈ y.Data, (y1 < 2 ^ 64 ∧ canon y1 = y1))) := (ReadsAs.slice (P := Try.prog) (t := 24) Try.underlying24 (by kernel_rfl) (of_decide_eq_true (by kernel_rfl)) (ReadsAs.struct (P := Try.prog) (t := 29) (fun v => ⟨v.1, v.2⟩) (fun _ => rfl) Try.underlying29 (by kernel_rfl) (ReadsAt.cons (P := Try.prog) (i := 0) rfl rfl (by kernel_rfl) (ReadsAs.slice (P := Try.prog) (t := 25) Try.underlying25 (by kernel_rfl) (of_decide_eq_true (by kernel_rfl)) (ReadsAs.int (P := Try.prog) (t := 3) Try.underlying3)) (ReadsAt.last (P := Try.prog) (i := 1) rfl rfl (by kernel_rfl) (ReadsAs.slice (P := Try.prog) (t := 27) Try.underlying27 (by kernel_rfl) (of_decide_eq_true (by kernel_rfl)) (ReadsAs.float (P := Try.prog) (t := 26) Try.underlying26))))))
set_option maxRecDepth 100000 in
theorem law19_ShelfRefuses.reads1 : ReadsAs Try.prog 29 kTensor (fun x => (x.Shape.length ≤ 9223372036854775807 ∧ ∀ y ∈ x.Shape, (Lit.int .i64 y).wf = true) ∧ (x.Data.length ≤ 9223372036854775807 ∧ ∀ y ∈ x.Data, (y < 2 ^ 64 ∧ canon y = y))) := (ReadsAs.struct (P := Try.prog) (t := 29) (fun v => ⟨v.1, v.2⟩) (fun _ => rfl) Try.underlying29 (by kernel_rfl) (ReadsAt.cons (P := Try.prog) (i := 0) rfl rfl (by kernel_rfl) (ReadsAs.slice (P := Try.prog) (t := 25) Try.underlying25 (by kernel_rfl) (of_decide_eq_true (by kernel_rfl)) (ReadsAs.int (P := Try.prog) (t := 3) Try.underlying3)) (ReadsAt.last (P := Try.prog) (i := 1) rfl rfl (by kernel_rfl) (ReadsAs.slice (P := Try.prog) (t := 27) Try.underlying27 (by kernel_rfl) (of_decide_eq_true (by kernel_rfl)) (ReadsAs.float (P := Try.prog) (t := 26) Try.underlying26)))))
set_option maxRecDepth 100000 in
theorem law19_ShelfRefuses.lifted (plain : ∀ (x0 : (List Tensor)) (o0 : x0.length ≤ 9223372036854775807 ∧ ∀ y ∈ x0, (y.Shape.length ≤ 9223372036854775807 ∧ ∀ y1 ∈ y.Shape, (Lit.int .i64 y1).wf = true) ∧ (y.Data.length ≤ 9223372036854775807 ∧ ∀ y1 ∈ y.Data, (y1 < 2 ^ 64 ∧ canon y1 = y1))) (x1 : Tensor) (o1 : (x1.Shape.length ≤ 9223372036854775807 ∧ ∀ y ∈ x1.Shape, (Lit.int .i64 y).wf = true) ∧ (x1.Data.length ≤ 9223372036854775807 ∧ ∀ y ∈ x1.Data, (y < 2 ^ 64 ∧ canon y = y))) (x2 : Int) (o2 : (Lit.int .i64 x2).wf = true), law19_ShelfRefuses.f x0 x1 x2 = some true) (os : Os) (started : os.Started) (H : Type) (enc : TypeId × Value → H) :
    ReturnsInHanded {} Try.checked os 6 .any (Rows.shelfRefusesSpec.pre6 enc Try.prog Try.f6 Rows.shelfRefusesRow.domain false) (Rows.shelfRefusesSpec.post enc Try.prog Try.f6 false true false false) := by
  refine returnsInHanded_of_change (C := Try.checked) law19_ShelfRefuses.own started (by kernel_rfl) Try.func6
    (ChangeSpec.witness6 (enc := enc) (C := Try.checked) false ⟨#[], #[.slice none 0 0, .agg #[.slice none 0 0, .slice none 0 0], .int .i64 0], []⟩ 8 (by kernel_rfl) (by kernel_rfl) (by kernel_rfl) (by kernel_rfl)) ?_
  intro W base args ds gs before hval0 hW hcnd _
  have hval : ∀ (j : Nat) t v, Try.f6.params[j]? = some t → args[j]? = some v → Value.okWide Try.prog W .any base t v := hval0
  have hW' := hW
  obtain ⟨p, q, hA0, hV, rfl, hfz, hnd⟩ := hW
  have hA : DataW.TrodAll enc Try.prog W 0 (fun _ => true) true Try.f6.params.toList args.toList ds p := hA0
  rw [Try.params6] at hA hval
  obtain ⟨v0, v1, v2, d0, d1, d2, p0, p1, p2, rfl, rfl, rfl, h0, h1, h2⟩ := trodAll_three hA
  obtain ⟨A0, c0, x0, rfl, hc0, hs0, o0⟩ := argSlice Try.underlying24 law19_ShelfRefuses.reads0 (hval 0 24 v0 rfl rfl) h0
  obtain ⟨us1, x1, rfl, hr1, o1⟩ := argStruct Try.underlying29 law19_ShelfRefuses.reads1 (hval 1 29 v1 rfl rfl) h1
  obtain ⟨A1_0, c1_0, A1_1, c1_1, eu1, ⟨hc1_0, hs1_0⟩, ⟨hc1_1, hs1_1⟩⟩ := kTensor.open hr1
  obtain rfl : us1 = #[.slice A1_0 x1.Shape.length c1_0, .slice A1_1 x1.Data.length c1_1] := by apply Array.toList_inj.1; simpa using eu1
  obtain ⟨x2, rfl, _, _, o2⟩ := open_int Try.underlying3 (hval 2 3 v2 rfl rfl) h2
  have hmem : Mem [] [] W [.sl kTensor A0 c0 x0, .sl (Kd.int .i64) A1_0 c1_0 x1.Shape, .sl Kd.float A1_1 c1_1 x1.Data] W := by
    refine Mem.start rfl (fun f hf => ?_)
    simp only [List.mem_cons, List.not_mem_nil, or_false] at hf
    rcases hf with rfl | rfl | rfl
    · exact ⟨hc0, hs0⟩
    · exact ⟨hc1_0, hs1_0⟩
    · exact ⟨hc1_1, hs1_1⟩
  refine (law19_ShelfRefuses.calls [] W x0 A0 x0.length c0 rfl x1 A1_0 x1.Shape.length c1_0 rfl A1_1 x1.Data.length c1_1 rfl x2 hmem true (plain x0 o0 x1 o1 x2 o2)).mono fun e W' ⟨v, he, hv, hm⟩ => ?_
  subst he; subst hv
  exact ⟨_, rfl, postTrue (tb := 4) law19_ShelfRefuses.laidOut rfl hW' hm.below (by rw [Try.params6]; decide +kernel) rfl Try.underlying4 rfl⟩

theorem law19_ShelfRefuses.row (plain : ∀ (x0 : (List Tensor)) (o0 : x0.length ≤ 9223372036854775807 ∧ ∀ y ∈ x0, (y.Shape.length ≤ 9223372036854775807 ∧ ∀ y1 ∈ y.Shape, (Lit.int .i64 y1).wf = true) ∧ (y.Data.length ≤ 9223372036854775807 ∧ ∀ y1 ∈ y.Data, (y1 < 2 ^ 64 ∧ canon y1 = y1))) (x1 : Tensor) (o1 : (x1.Shape.length ≤ 9223372036854775807 ∧ ∀ y ∈ x1.Shape, (Lit.int .i64 y).wf = true) ∧ (x1.Data.length ≤ 9223372036854775807 ∧ ∀ y ∈ x1.Data, (y < 2 ^ 64 ∧ canon y = y))) (x2 : Int) (o2 : (Lit.int .i64 x2).wf = true), law19_ShelfRefuses.f x0 x1 x2 = some true) : Rows.ShelfRefusesSaid :=
  OpenClaim.holds_of_wide 6 Try.f6 rfl rfl rfl rfl rfl rfl rfl ⟨rfl, rfl, rfl, rfl, rfl⟩ rfl rfl rfl rfl rfl (by kernel_rfl) Try.func6 (by kernel_rfl)
    (of_decide_eq_true (by kernel_rfl)) (by unfold Func.isWrapper; first | (rw [if_pos (by decide +kernel)]; kernel_rfl) | (rw [if_neg (by decide +kernel)]; exact ⟨rfl, rfl⟩))
    (fun os started H enc _ => law19_ShelfRefuses.lifted plain os started H enc)
end Go.Proofs.Yteaoijahdinciaa
