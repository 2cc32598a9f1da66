/- The row of ShelfHands (printed by rows.py): over the walk 'law19_ShelfHands.calls' and the plain law 'law19_ShelfHands.plain'. -/
import Derived.Test.YteaoijahdinciaaRows
import Derived.Test.YteaoijahdinciaaE9
import Derived.Test.YteaoijahdinciaaLShelfHands
namespace Go.Proofs.Yteaoijahdinciaa
open Go Go.RowKit Go.ChangeShapes Go.WideShapes Go.ChangeAt
set_option linter.unusedSimpArgs false
set_option linter.unusedVariables false

theorem law19_ShelfHands.own : ownKnob Try.prog.godebug = none := by kernel_rfl
theorem law19_ShelfHands.laidOut : laidOutB Try.prog = true := by kernel_rfl
set_option maxRecDepth 100000 in
theorem law19_ShelfHands.reads0 : ReadsAs Try.prog 24 (Kd.slice kTensor) (fun x => x.length ≤ 9223372036854775807 ∧ ∀ y ∈ x, (y.Shape.length ≤ 9223372036854775807 ∧ ∀ y1 ∈ y.Shape, (Lit.int .i64 y1).wf = true) ∧ (y.Data.length ≤ 9223372036854775807 ∧ ∀ y1 ∈ y.Data, (y1 < 2 ^ 64 ∧ canon y1 = y1))) := (ReadsAs.slice (P := Try.prog) (t := 24) Try.underlying24 (by kernel_rfl) (of_decide_eq_true (by kernel_rfl)) (ReadsAs.struct (P := Try.prog) (t := 29) (fun v => ⟨v.1, v.2⟩) (fun _ => rfl) Try.underlying29 (by kernel_rfl) (ReadsAt.cons (P := Try.prog) (i := 0) rfl rfl (by kernel_rfl) (ReadsAs.slice (P := Try.prog) (t := 25) Try.underlying25 (by kernel_rfl) (of_decide_eq_true (by kernel_rfl)) (ReadsAs.int (P := Try.prog) (t := 3) Try.underlying3)) (ReadsAt.last (P := Try.prog) (i := 1) rfl rfl (by kernel_rfl) (ReadsAs.slice (P := Try.prog) (t := 27) Try.underlying27 (by kernel_rfl) (of_decide_eq_true (by kernel_rfl)) (ReadsAs.float (P := Try.prog) (t := 26) Try.underlying26))))))
set_option maxRecDepth 100000 in
theorem law19_ShelfHands.lifted (plain : ∀ (x0 : (List Tensor)) (o0 : x0.length ≤ 9223372036854775807 ∧ ∀ y ∈ x0, (y.Shape.length ≤ 9223372036854775807 ∧ ∀ y1 ∈ y.Shape, (Lit.int .i64 y1).wf = true) ∧ (y.Data.length ≤ 9223372036854775807 ∧ ∀ y1 ∈ y.Data, (y1 < 2 ^ 64 ∧ canon y1 = y1))) (x1 : Nat) (o1 : (x1 < 2 ^ 64 ∧ canon x1 = x1)), law19_ShelfHands.f x0 x1 = some true) (os : Os) (started : os.Started) (H : Type) (enc : TypeId × Value → H) :
    ReturnsInHanded {} Try.checked os 4 .any (Rows.shelfHandsSpec.pre6 enc Try.prog Try.f4 Rows.shelfHandsRow.domain false) (Rows.shelfHandsSpec.post enc Try.prog Try.f4 false true false false) := by
  refine returnsInHanded_of_change (C := Try.checked) law19_ShelfHands.own started (by kernel_rfl) Try.func4
    (ChangeSpec.witness6 (enc := enc) (C := Try.checked) false ⟨#[], #[.slice none 0 0, .float .f64 0], []⟩ 8 (by kernel_rfl) (by kernel_rfl) (by kernel_rfl) (by kernel_rfl)) ?_
  intro W base args ds gs before hval0 hW hcnd _
  have hval : ∀ (j : Nat) t v, Try.f4.params[j]? = some t → args[j]? = some v → Value.okWide Try.prog W .any base t v := hval0
  have hW' := hW
  obtain ⟨p, q, hA0, hV, rfl, hfz, hnd⟩ := hW
  have hA : DataW.TrodAll enc Try.prog W 0 (fun _ => true) true Try.f4.params.toList args.toList ds p := hA0
  rw [Try.params4] at hA hval
  obtain ⟨v0, v1, d0, d1, p0, p1, rfl, rfl, rfl, h0, h1⟩ := trodAll_two hA
  obtain ⟨A0, c0, x0, rfl, hc0, hs0, o0⟩ := argSlice Try.underlying24 law19_ShelfHands.reads0 (hval 0 24 v0 rfl rfl) h0
  obtain ⟨b1, rfl, _, _, w1⟩ := open_float Try.underlying26 (hval 1 26 v1 rfl rfl) h1
  have o1 := And.intro (canon_lt (lt_of_wf w1)) (canon_canon b1)
  have hmem : Mem [] [] W [.sl kTensor A0 c0 x0] W := by
    refine Mem.start rfl (fun f hf => ?_)
    simp only [List.mem_cons, List.not_mem_nil, or_false] at hf
    rcases hf with rfl
    · exact ⟨hc0, hs0⟩
  refine (law19_ShelfHands.calls [] W x0 A0 x0.length c0 rfl (canon b1) b1 ⟨lt_of_wf w1, rfl⟩ hmem true (plain x0 o0 (canon b1) o1)).mono fun e W' ⟨v, he, hv, hm⟩ => ?_
  subst he; subst hv
  exact ⟨_, rfl, postTrue (tb := 4) law19_ShelfHands.laidOut rfl hW' hm.below (by rw [Try.params4]; decide +kernel) rfl Try.underlying4 rfl⟩

theorem law19_ShelfHands.row (plain : ∀ (x0 : (List Tensor)) (o0 : x0.length ≤ 9223372036854775807 ∧ ∀ y ∈ x0, (y.Shape.length ≤ 9223372036854775807 ∧ ∀ y1 ∈ y.Shape, (Lit.int .i64 y1).wf = true) ∧ (y.Data.length ≤ 9223372036854775807 ∧ ∀ y1 ∈ y.Data, (y1 < 2 ^ 64 ∧ canon y1 = y1))) (x1 : Nat) (o1 : (x1 < 2 ^ 64 ∧ canon x1 = x1)), law19_ShelfHands.f x0 x1 = some true) : Rows.ShelfHandsSaid :=
  OpenClaim.holds_of_wide 4 Try.f4 rfl rfl rfl rfl rfl rfl rfl ⟨rfl, rfl, rfl, rfl, rfl⟩ rfl rfl rfl rfl rfl (by kernel_rfl) Try.func4 (by kernel_rfl)
    (of_decide_eq_true (by kernel_rfl)) (by unfold Func.isWrapper; first | (rw [if_pos (by decide +kernel)]; kernel_rfl) | (rw [if_neg (by decide +kernel)]; exact ⟨rfl, rfl⟩))
    (fun os started H enc _ => law19_ShelfHands.lifted plain os started H enc)
end Go.Proofs.Yteaoijahdinciaa
