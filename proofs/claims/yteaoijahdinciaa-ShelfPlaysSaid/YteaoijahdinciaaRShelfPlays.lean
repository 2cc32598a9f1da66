/- The row of ShelfPlays (printed by rows.py): over the walk 'law19_ShelfPlays.calls' and the plain law 'law19_ShelfPlays.plain'. -/
import Derived.Test.YteaoijahdinciaaRows
import Derived.Test.YteaoijahdinciaaE9
import Derived.Test.YteaoijahdinciaaLShelfPlays
namespace Go.Proofs.Yteaoijahdinciaa
open Go Go.RowKit Go.ChangeShapes Go.WideShapes Go.ChangeAt
set_option linter.unusedSimpArgs false
set_option linter.unusedVariables false

theorem law19_ShelfPlays.own : ownKnob Try.prog.godebug = none := by kernel_rfl
theorem law19_ShelfPlays.laidOut : laidOutB Try.prog = true := by kernel_rfl
set_option maxRecDepth 100000 in
theorem law19_ShelfPlays.reads0 : ReadsAs Try.prog 24 (Kd.slice kTensor) (fun x => x.length ≤ 9223372036854775807 ∧ ∀ y ∈ x, (y.Shape.length ≤ 9223372036854775807 ∧ ∀ y1 ∈ y.Shape, (Lit.int .i64 y1).wf = true) ∧ (y.Data.length ≤ 9223372036854775807 ∧ ∀ y1 ∈ y.Data, (y1 < 2 ^ 64 ∧ canon y1 = y1))) := (ReadsAs.slice (P := Try.prog) (t := 24) Try.underlying24 (by kernel_rfl) (of_decide_eq_true (by kernel_rfl)) (ReadsAs.struct (P := Try.prog) (t := 29) (fun v => ⟨v.1, v.2⟩) (fun _ => rfl) Try.underlying29 (by kernel_rfl) (ReadsAt.cons (P := Try.prog) (i := 0) rfl rfl (by kernel_rfl) (ReadsAs.slice (P := Try.prog) (t := 25) Try.underlying25 (by kernel_rfl) (of_decide_eq_true (by kernel_rfl)) (ReadsAs.int (P := Try.prog) (t := 3) Try.underlying3)) (ReadsAt.last (P := Try.prog) (i := 1) rfl rfl (by kernel_rfl) (ReadsAs.slice (P := Try.prog) (t := 27) Try.underlying27 (by kernel_rfl) (of_decide_eq_true (by kernel_rfl)) (ReadsAs.float (P := Try.prog) (t := 26) Try.underlying26))))))
set_option maxRecDepth 100000 in
theorem law19_ShelfPlays.reads1 : ReadsAs Try.prog 59 (Kd.slice kDeed) (fun x => x.length ≤ 9223372036854775807 ∧ ∀ y ∈ x, ((Lit.int .i64 y.Do).wf = true) ∧ ((Lit.int .i64 y.I).wf = true) ∧ ((y.T.Shape.length ≤ 9223372036854775807 ∧ ∀ y1 ∈ y.T.Shape, (Lit.int .i64 y1).wf = true) ∧ (y.T.Data.length ≤ 9223372036854775807 ∧ ∀ y1 ∈ y.T.Data, (y1 < 2 ^ 64 ∧ canon y1 = y1))) ∧ (y.L.length ≤ 9223372036854775807 ∧ ∀ y1 ∈ y.L, (y1.Shape.length ≤ 9223372036854775807 ∧ ∀ y2 ∈ y1.Shape, (Lit.int .i64 y2).wf = true) ∧ (y1.Data.length ≤ 9223372036854775807 ∧ ∀ y2 ∈ y1.Data, (y2 < 2 ^ 64 ∧ canon y2 = y2)))) := (ReadsAs.slice (P := Try.prog) (t := 59) Try.underlying59 (by kernel_rfl) (of_decide_eq_true (by kernel_rfl)) (ReadsAs.struct (P := Try.prog) (t := 62) (fun v => ⟨v.1, v.2.1, v.2.2.1, v.2.2.2⟩) (fun _ => rfl) Try.underlying62 (by kernel_rfl) (ReadsAt.cons (P := Try.prog) (i := 0) rfl rfl (by kernel_rfl) (ReadsAs.int (P := Try.prog) (t := 3) Try.underlying3) (ReadsAt.cons (P := Try.prog) (i := 1) rfl rfl (by kernel_rfl) (ReadsAs.int (P := Try.prog) (t := 3) Try.underlying3) (ReadsAt.cons (P := Try.prog) (i := 2) rfl rfl (by kernel_rfl) (ReadsAs.struct (P := Try.prog) (t := 29) (fun v => ⟨v.1, v.2⟩) (fun _ => rfl) Try.underlying29 (by kernel_rfl) (ReadsAt.cons (P := Try.prog) (i := 0) rfl rfl (by kernel_rfl) (ReadsAs.slice (P := Try.prog) (t := 25) Try.underlying25 (by kernel_rfl) (of_decide_eq_true (by kernel_rfl)) (ReadsAs.int (P := Try.prog) (t := 3) Try.underlying3)) (ReadsAt.last (P := Try.prog) (i := 1) rfl rfl (by kernel_rfl) (ReadsAs.slice (P := Try.prog) (t := 27) Try.underlying27 (by kernel_rfl) (of_decide_eq_true (by kernel_rfl)) (ReadsAs.float (P := Try.prog) (t := 26) Try.underlying26))))) (ReadsAt.last (P := Try.prog) (i := 3) rfl rfl (by kernel_rfl) (ReadsAs.slice (P := Try.prog) (t := 24) Try.underlying24 (by kernel_rfl) (of_decide_eq_true (by kernel_rfl)) (ReadsAs.struct (P := Try.prog) (t := 29) (fun v => ⟨v.1, v.2⟩) (fun _ => rfl) Try.underlying29 (by kernel_rfl) (ReadsAt.cons (P := Try.prog) (i := 0) rfl rfl (by kernel_rfl) (ReadsAs.slice (P := Try.prog) (t := 25) Try.underlying25 (by kernel_rfl) (of_decide_eq_true (by kernel_rfl)) (ReadsAs.int (P := Try.prog) (t := 3) Try.underlying3)) (ReadsAt.last (P := Try.prog) (i := 1) rfl rfl (by kernel_rfl) (ReadsAs.slice (P := Try.prog) (t := 27) Try.underlying27 (by kernel_rfl) (of_decide_eq_true (by kernel_rfl)) (ReadsAs.float (P := Try.prog) (t := 26) Try.underlying26))))))))))))
set_option maxRecDepth 100000 in
theorem law19_ShelfPlays.lifted (plain : ∀ (x0 : (List Tensor)) (o0 : x0.length ≤ 9223372036854775807 ∧ ∀ y ∈ x0, (y.Shape.length ≤ 9223372036854775807 ∧ ∀ y1 ∈ y.Shape, (Lit.int .i64 y1).wf = true) ∧ (y.Data.length ≤ 9223372036854775807 ∧ ∀ y1 ∈ y.Data, (y1 < 2 ^ 64 ∧ canon y1 = y1))) (x1 : (List Deed)) (o1 : x1.length ≤ 9223372036854775807 ∧ ∀ y ∈ x1, ((Lit.int .i64 y.Do).wf = true) ∧ ((Lit.int .i64 y.I).wf = true) ∧ ((y.T.Shape.length ≤ 9223372036854775807 ∧ ∀ y1 ∈ y.T.Shape, (Lit.int .i64 y1).wf = true) ∧ (y.T.Data.length ≤ 9223372036854775807 ∧ ∀ y1 ∈ y.T.Data, (y1 < 2 ^ 64 ∧ canon y1 = y1))) ∧ (y.L.length ≤ 9223372036854775807 ∧ ∀ y1 ∈ y.L, (y1.Shape.length ≤ 9223372036854775807 ∧ ∀ y2 ∈ y1.Shape, (Lit.int .i64 y2).wf = true) ∧ (y1.Data.length ≤ 9223372036854775807 ∧ ∀ y2 ∈ y1.Data, (y2 < 2 ^ 64 ∧ canon y2 = y2)))), law19_ShelfPlays.f x0 x1 = some true) (os : Os) (started : os.Started) (H : Type) (enc : TypeId × Value → H) :
    ReturnsInHanded {} Try.checked os 8 .any (Rows.shelfPlaysSpec.pre6 enc Try.prog Try.f8 Rows.shelfPlaysRow.domain false) (Rows.shelfPlaysSpec.post enc Try.prog Try.f8 false true false false) := by
  refine returnsInHanded_of_change (C := Try.checked) law19_ShelfPlays.own started (by kernel_rfl) Try.func8
    (ChangeSpec.witness6 (enc := enc) (C := Try.checked) false ⟨#[], #[.slice none 0 0, .slice none 0 0], []⟩ 8 (by kernel_rfl) (by kernel_rfl) (by kernel_rfl) (by kernel_rfl)) ?_
  intro W base args ds gs before hval0 hW hcnd _
  have hval : ∀ (j : Nat) t v, Try.f8.params[j]? = some t → args[j]? = some v → Value.okWide Try.prog W .any base t v := hval0
  have hW' := hW
  obtain ⟨p, q, hA0, hV, rfl, hfz, hnd⟩ := hW
  have hA : DataW.TrodAll enc Try.prog W 0 (fun _ => true) true Try.f8.params.toList args.toList ds p := hA0
  rw [Try.params8] at hA hval
  obtain ⟨v0, v1, d0, d1, p0, p1, rfl, rfl, rfl, h0, h1⟩ := trodAll_two hA
  obtain ⟨A0, c0, x0, rfl, hc0, hs0, o0⟩ := argSlice Try.underlying24 law19_ShelfPlays.reads0 (hval 0 24 v0 rfl rfl) h0
  obtain ⟨A1, c1, x1, rfl, hc1, hs1, o1⟩ := argSlice Try.underlying59 law19_ShelfPlays.reads1 (hval 1 59 v1 rfl rfl) h1
  have hmem : Mem [] [] W [.sl kTensor A0 c0 x0, .sl kDeed A1 c1 x1] W := by
    refine Mem.start rfl (fun f hf => ?_)
    simp only [List.mem_cons, List.not_mem_nil, or_false] at hf
    rcases hf with rfl | rfl
    · exact ⟨hc0, hs0⟩
    · exact ⟨hc1, hs1⟩
  refine (law19_ShelfPlays.calls [] W x0 A0 x0.length c0 rfl x1 A1 x1.length c1 rfl hmem true (plain x0 o0 x1 o1)).mono fun e W' ⟨v, he, hv, hm⟩ => ?_
  subst he; subst hv
  exact ⟨_, rfl, postTrue (tb := 4) law19_ShelfPlays.laidOut rfl hW' hm.below (by rw [Try.params8]; decide +kernel) rfl Try.underlying4 rfl⟩

theorem law19_ShelfPlays.row (plain : ∀ (x0 : (List Tensor)) (o0 : x0.length ≤ 9223372036854775807 ∧ ∀ y ∈ x0, (y.Shape.length ≤ 9223372036854775807 ∧ ∀ y1 ∈ y.Shape, (Lit.int .i64 y1).wf = true) ∧ (y.Data.length ≤ 9223372036854775807 ∧ ∀ y1 ∈ y.Data, (y1 < 2 ^ 64 ∧ canon y1 = y1))) (x1 : (List Deed)) (o1 : x1.length ≤ 9223372036854775807 ∧ ∀ y ∈ x1, ((Lit.int .i64 y.Do).wf = true) ∧ ((Lit.int .i64 y.I).wf = true) ∧ ((y.T.Shape.length ≤ 9223372036854775807 ∧ ∀ y1 ∈ y.T.Shape, (Lit.int .i64 y1).wf = true) ∧ (y.T.Data.length ≤ 9223372036854775807 ∧ ∀ y1 ∈ y.T.Data, (y1 < 2 ^ 64 ∧ canon y1 = y1))) ∧ (y.L.length ≤ 9223372036854775807 ∧ ∀ y1 ∈ y.L, (y1.Shape.length ≤ 9223372036854775807 ∧ ∀ y2 ∈ y1.Shape, (Lit.int .i64 y2).wf = true) ∧ (y1.Data.length ≤ 9223372036854775807 ∧ ∀ y2 ∈ y1.Data, (y2 < 2 ^ 64 ∧ canon y2 = y2)))), law19_ShelfPlays.f x0 x1 = some true) : Rows.ShelfPlaysSaid :=
  OpenClaim.holds_of_wide 8 Try.f8 rfl rfl rfl rfl rfl rfl rfl ⟨rfl, rfl, rfl, rfl, rfl⟩ rfl rfl rfl rfl rfl (by kernel_rfl) Try.func8 (by kernel_rfl)
    (of_decide_eq_true (by kernel_rfl)) (by unfold Func.isWrapper; first | (rw [if_pos (by decide +kernel)]; kernel_rfl) | (rw [if_neg (by decide +kernel)]; exact ⟨rfl, rfl⟩))
    (fun os started H enc _ => law19_ShelfPlays.lifted plain os started H enc)
end Go.Proofs.Yteaoijahdinciaa
