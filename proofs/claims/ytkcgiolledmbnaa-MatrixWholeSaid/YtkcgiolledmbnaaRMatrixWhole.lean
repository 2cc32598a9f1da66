/- The row of MatrixWhole (printed by rows.py): over the walk 'law5_MatrixWhole.calls' and the plain law 'law5_MatrixWhole.plain'. -/
import Derived.Test.YtkcgiolledmbnaaRows
import Derived.Test.YtkcgiolledmbnaaE9
import Derived.Test.YtkcgiolledmbnaaLMatrixWhole
namespace Go.Proofs.Ytkcgiolledmbnaa
open Go Go.RowKit Go.ChangeShapes Go.WideShapes Go.ChangeAt
set_option linter.unusedSimpArgs false
set_option linter.unusedVariables false

theorem law5_MatrixWhole.own : ownKnob Try.prog.godebug = none := by kernel_rfl
theorem law5_MatrixWhole.laidOut : laidOutB Try.prog = true := by kernel_rfl
theorem law5_MatrixWhole.reads0 : ReadsAs Try.prog 50 (Kd.pair (Kd.int .u8) (Kd.pair (Kd.int .u8) (Kd.pair (Kd.int .u8) (Kd.int .u8)))) (fun x => ((Lit.int .u8 x.1).wf = true) ∧ ((Lit.int .u8 x.2.1).wf = true) ∧ ((Lit.int .u8 x.2.2.1).wf = true) ∧ ((Lit.int .u8 x.2.2.2).wf = true)) := (ReadsAs.array (P := Try.prog) (t := 50) (n := 4) Try.underlying50 (by kernel_rfl) (ReadsEl.cons (P := Try.prog) (e := 5) (n := 4) (i := 0) (by decide) (by kernel_rfl) (ReadsAs.int (P := Try.prog) (t := 5) Try.underlying5) (ReadsEl.cons (P := Try.prog) (e := 5) (n := 4) (i := 1) (by decide) (by kernel_rfl) (ReadsAs.int (P := Try.prog) (t := 5) Try.underlying5) (ReadsEl.cons (P := Try.prog) (e := 5) (n := 4) (i := 2) (by decide) (by kernel_rfl) (ReadsAs.int (P := Try.prog) (t := 5) Try.underlying5) (ReadsEl.last (P := Try.prog) (e := 5) (n := 4) (i := 3) (by decide) (by kernel_rfl) (ReadsAs.int (P := Try.prog) (t := 5) Try.underlying5))))))
theorem law5_MatrixWhole.reads1 : ReadsAs Try.prog 51 (Kd.slice (Kd.int .i8)) (fun x => x.length ≤ 9223372036854775807 ∧ ∀ y ∈ x, (Lit.int .i8 y).wf = true) := (ReadsAs.slice (P := Try.prog) (t := 51) Try.underlying51 (by kernel_rfl) (of_decide_eq_true (by kernel_rfl)) (ReadsAs.int (P := Try.prog) (t := 74) Try.underlying74))
set_option maxRecDepth 100000 in
theorem law5_MatrixWhole.lifted (plain : ∀ (x0 : (Int × Int × Int × Int)) (o0 : ((Lit.int .u8 x0.1).wf = true) ∧ ((Lit.int .u8 x0.2.1).wf = true) ∧ ((Lit.int .u8 x0.2.2.1).wf = true) ∧ ((Lit.int .u8 x0.2.2.2).wf = true)) (x1 : (List Int)) (o1 : x1.length ≤ 9223372036854775807 ∧ ∀ y ∈ x1, (Lit.int .i8 y).wf = true), law5_MatrixWhole.f x0 x1 = some true) (os : Os) (started : os.Started) (H : Type) (enc : TypeId × Value → H) :
    ReturnsInHanded {} Try.checked os 10 .any (Rows.matrixWholeSpec.pre6 enc Try.prog Try.f10 Rows.matrixWholeRow.domain false) (Rows.matrixWholeSpec.post enc Try.prog Try.f10 false true false false) := by
  refine returnsInHanded_of_change (C := Try.checked) law5_MatrixWhole.own started (by kernel_rfl) Try.func10
    (ChangeSpec.witness6 (enc := enc) (C := Try.checked) false ⟨#[], #[.agg #[.int .u8 0, .int .u8 0, .int .u8 0, .int .u8 0], .slice none 0 0], []⟩ 8 (by kernel_rfl) (by kernel_rfl) (by kernel_rfl) (by kernel_rfl)) ?_
  intro W base args ds gs before hval0 hW hcnd _
  have hval : ∀ (j : Nat) t v, Try.f10.params[j]? = some t → args[j]? = some v → Value.okWide Try.prog W .any base t v := hval0
  have hW' := hW
  obtain ⟨p, q, hA0, hV, rfl, hfz, hnd⟩ := hW
  have hA : DataW.TrodAll enc Try.prog W 0 (fun _ => true) true Try.f10.params.toList args.toList ds p := hA0
  rw [Try.params10] at hA hval
  obtain ⟨v0, v1, d0, d1, p0, p1, rfl, rfl, rfl, h0, h1⟩ := trodAll_two hA
  obtain ⟨us0, x0, rfl, hr0, o0⟩ := argArray Try.underlying50 law5_MatrixWhole.reads0 (hval 0 50 v0 rfl rfl) h0
  obtain ⟨_, _, eu0, ha0_1, hb0_1⟩ := hr0
  obtain rfl := ha0_1
  obtain ⟨_, _, rfl, ha0_2, hb0_2⟩ := hb0_1
  obtain rfl := ha0_2
  obtain ⟨_, _, rfl, ha0_3, hb0_3⟩ := hb0_2
  obtain rfl := ha0_3
  obtain rfl := hb0_3
  obtain rfl : us0 = #[.int .u8 x0.1, .int .u8 x0.2.1, .int .u8 x0.2.2.1, .int .u8 x0.2.2.2] := by apply Array.toList_inj.1; simpa using eu0
  obtain ⟨A1, c1, x1, rfl, hc1, hs1, o1⟩ := argSlice Try.underlying51 law5_MatrixWhole.reads1 (hval 1 51 v1 rfl rfl) h1
  have hmem : Mem [] [] W [.sl (Kd.int .i8) A1 c1 x1] W := by
    refine Mem.start rfl (fun f hf => ?_)
    simp only [List.mem_cons, List.not_mem_nil, or_false] at hf
    rcases hf with rfl
    · exact ⟨hc1, hs1⟩
  refine (law5_MatrixWhole.calls [] W x0  x1 A1 x1.length c1 rfl hmem true (plain x0 o0 x1 o1)).mono fun e W' ⟨v, he, hv, hm⟩ => ?_
  subst he; subst hv
  exact ⟨_, rfl, postTrue (tb := 4) law5_MatrixWhole.laidOut rfl hW' hm.below (by rw [Try.params10]; decide +kernel) rfl Try.underlying4 rfl⟩

theorem law5_MatrixWhole.row (plain : ∀ (x0 : (Int × Int × Int × Int)) (o0 : ((Lit.int .u8 x0.1).wf = true) ∧ ((Lit.int .u8 x0.2.1).wf = true) ∧ ((Lit.int .u8 x0.2.2.1).wf = true) ∧ ((Lit.int .u8 x0.2.2.2).wf = true)) (x1 : (List Int)) (o1 : x1.length ≤ 9223372036854775807 ∧ ∀ y ∈ x1, (Lit.int .i8 y).wf = true), law5_MatrixWhole.f x0 x1 = some true) : Rows.MatrixWholeSaid :=
  OpenClaim.holds_of_wide 10 Try.f10 rfl rfl rfl rfl rfl rfl rfl ⟨rfl, rfl, rfl, rfl, rfl⟩ rfl rfl rfl rfl rfl (by kernel_rfl) Try.func10 (by kernel_rfl)
    (of_decide_eq_true (by kernel_rfl)) (by unfold Func.isWrapper; first | (rw [if_pos (by decide +kernel)]; kernel_rfl) | (rw [if_neg (by decide +kernel)]; exact ⟨rfl, rfl⟩))
    (fun os started H enc _ => law5_MatrixWhole.lifted plain os started H enc)
end Go.Proofs.Ytkcgiolledmbnaa
