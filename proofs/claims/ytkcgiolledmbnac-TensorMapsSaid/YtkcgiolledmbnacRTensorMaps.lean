/- The row of TensorMaps (printed by rows.py): over the walk 'law3_TensorMaps.calls' and the plain law 'law3_TensorMaps.plain'. -/
import Derived.Test.YtkcgiolledmbnacRows
import Derived.Test.YtkcgiolledmbnacE9
import Derived.Test.YtkcgiolledmbnacLTensorMaps
namespace Go.Proofs.Ytkcgiolledmbnac
open Go Go.RowKit Go.ChangeShapes Go.WideShapes Go.ChangeAt
set_option linter.unusedSimpArgs false
set_option linter.unusedVariables false

theorem law3_TensorMaps.own : ownKnob Try.prog.godebug = none := by kernel_rfl
theorem law3_TensorMaps.laidOut : laidOutB Try.prog = true := by kernel_rfl
set_option maxRecDepth 100000 in
theorem law3_TensorMaps.reads0 : ReadsAs Try.prog 25 kTensor (fun x => (x.Shape.length ≤ 9223372036854775807 ∧ ∀ y ∈ x.Shape, (Lit.int .i64 y).wf = true) ∧ (x.Data.length ≤ 9223372036854775807 ∧ ∀ y ∈ x.Data, (y < 2 ^ 64 ∧ canon y = y))) := (ReadsAs.struct (P := Try.prog) (t := 25) (fun v => ⟨v.1, v.2⟩) (fun _ => rfl) Try.underlying25 (by kernel_rfl) (ReadsAt.cons (P := Try.prog) (i := 0) rfl rfl (by kernel_rfl) (ReadsAs.slice (P := Try.prog) (t := 22) Try.underlying22 (by kernel_rfl) (of_decide_eq_true (by kernel_rfl)) (ReadsAs.int (P := Try.prog) (t := 3) Try.underlying3)) (ReadsAt.last (P := Try.prog) (i := 1) rfl rfl (by kernel_rfl) (ReadsAs.slice (P := Try.prog) (t := 23) Try.underlying23 (by kernel_rfl) (of_decide_eq_true (by kernel_rfl)) (ReadsAs.float (P := Try.prog) (t := 26) Try.underlying26)))))
set_option maxRecDepth 100000 in
theorem law3_TensorMaps.lifted (plain : ∀ (x0 : Tensor) (o0 : (x0.Shape.length ≤ 9223372036854775807 ∧ ∀ y ∈ x0.Shape, (Lit.int .i64 y).wf = true) ∧ (x0.Data.length ≤ 9223372036854775807 ∧ ∀ y ∈ x0.Data, (y < 2 ^ 64 ∧ canon y = y))) (x1 : Nat) (o1 : (x1 < 2 ^ 64 ∧ canon x1 = x1)), law3_TensorMaps.f x0 x1 = some true) (os : Os) (started : os.Started) (H : Type) (enc : TypeId × Value → H) :
    ReturnsInHanded {} Try.checked os 3 .any (Rows.tensorMapsSpec.pre6 enc Try.prog Try.f3 Rows.tensorMapsRow.domain false) (Rows.tensorMapsSpec.post enc Try.prog Try.f3 false true false false) := by
  refine returnsInHanded_of_change (C := Try.checked) law3_TensorMaps.own started (by kernel_rfl) Try.func3
    (ChangeSpec.witness6 (enc := enc) (C := Try.checked) false ⟨#[], #[.agg #[.slice none 0 0, .slice none 0 0], .float .f64 0], []⟩ 8 (by kernel_rfl) (by kernel_rfl) (by kernel_rfl) (by kernel_rfl)) ?_
  intro W base args ds gs before hval0 hW hcnd _
  have hval : ∀ (j : Nat) t v, Try.f3.params[j]? = some t → args[j]? = some v → Value.okWide Try.prog W .any base t v := hval0
  have hW' := hW
  obtain ⟨p, q, hA0, hV, rfl, hfz, hnd⟩ := hW
  have hA : DataW.TrodAll enc Try.prog W 0 (fun _ => true) true Try.f3.params.toList args.toList ds p := hA0
  rw [Try.params3] at hA hval
  obtain ⟨v0, v1, d0, d1, p0, p1, rfl, rfl, rfl, h0, h1⟩ := trodAll_two hA
  obtain ⟨us0, x0, rfl, hr0, o0⟩ := argStruct Try.underlying25 law3_TensorMaps.reads0 (hval 0 25 v0 rfl rfl) h0
  obtain ⟨A0_0, c0_0, A0_1, c0_1, eu0, ⟨hc0_0, hs0_0⟩, ⟨hc0_1, hs0_1⟩⟩ := kTensor.open hr0
  obtain rfl : us0 = #[.slice A0_0 x0.Shape.length c0_0, .slice A0_1 x0.Data.length c0_1] := by apply Array.toList_inj.1; simpa using eu0
  obtain ⟨b1, rfl, _, _, w1⟩ := open_float Try.underlying26 (hval 1 26 v1 rfl rfl) h1
  have o1 := And.intro (canon_lt (lt_of_wf w1)) (canon_canon b1)
  have hmem : Mem [] [] W [.sl (Kd.int .i64) A0_0 c0_0 x0.Shape, .sl Kd.float A0_1 c0_1 x0.Data] W := by
    refine Mem.start rfl (fun f hf => ?_)
    simp only [List.mem_cons, List.not_mem_nil, or_false] at hf
    rcases hf with rfl | rfl
    · exact ⟨hc0_0, hs0_0⟩
    · exact ⟨hc0_1, hs0_1⟩
  refine (law3_TensorMaps.calls [] W x0 A0_0 x0.Shape.length c0_0 rfl A0_1 x0.Data.length c0_1 rfl (canon b1) b1 ⟨lt_of_wf w1, rfl⟩ hmem true (plain x0 o0 (canon b1) o1)).mono fun e W' ⟨v, he, hv, hm⟩ => ?_
  subst he; subst hv
  exact ⟨_, rfl, postTrue (tb := 4) law3_TensorMaps.laidOut rfl hW' hm.below (by rw [Try.params3]; decide +kernel) rfl Try.underlying4 rfl⟩

theorem law3_TensorMaps.row (plain : ∀ (x0 : Tensor) (o0 : (x0.Shape.length ≤ 9223372036854775807 ∧ ∀ y ∈ x0.Shape, (Lit.int .i64 y).wf = true) ∧ (x0.Data.length ≤ 9223372036854775807 ∧ ∀ y ∈ x0.Data, (y < 2 ^ 64 ∧ canon y = y))) (x1 : Nat) (o1 : (x1 < 2 ^ 64 ∧ canon x1 = x1)), law3_TensorMaps.f x0 x1 = some true) : Rows.TensorMapsSaid :=
  OpenClaim.holds_of_wide 3 Try.f3 rfl rfl rfl rfl rfl rfl rfl ⟨rfl, rfl, rfl, rfl, rfl⟩ rfl rfl rfl rfl rfl (by kernel_rfl) Try.func3 (by kernel_rfl)
    (of_decide_eq_true (by kernel_rfl)) (by unfold Func.isWrapper; first | (rw [if_pos (by decide +kernel)]; kernel_rfl) | (rw [if_neg (by decide +kernel)]; exact ⟨rfl, rfl⟩))
    (fun os started H enc _ => law3_TensorMaps.lifted plain os started H enc)
end Go.Proofs.Ytkcgiolledmbnac
