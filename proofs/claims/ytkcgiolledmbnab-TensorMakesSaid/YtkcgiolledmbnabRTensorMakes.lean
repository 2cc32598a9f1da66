/- The row of TensorMakes (printed by rows.py): over the walk 'law3_TensorMakes.calls' and the plain law 'law3_TensorMakes.plain'. -/
import Derived.Test.YtkcgiolledmbnabRows
import Derived.Test.YtkcgiolledmbnabE9
import Derived.Test.YtkcgiolledmbnabLTensorMakes
namespace Go.Proofs.Ytkcgiolledmbnab
open Go Go.RowKit Go.ChangeShapes Go.WideShapes Go.ChangeAt
set_option linter.unusedSimpArgs false
set_option linter.unusedVariables false

theorem law3_TensorMakes.own : ownKnob Try.prog.godebug = none := by kernel_rfl
theorem law3_TensorMakes.laidOut : laidOutB Try.prog = true := by kernel_rfl
theorem law3_TensorMakes.reads0 : ReadsAs Try.prog 25 (Kd.slice (Kd.int .i64)) (fun x => x.length ≤ 9223372036854775807 ∧ ∀ y ∈ x, (Lit.int .i64 y).wf = true) := (ReadsAs.slice (P := Try.prog) (t := 25) Try.underlying25 (by kernel_rfl) (of_decide_eq_true (by kernel_rfl)) (ReadsAs.int (P := Try.prog) (t := 3) Try.underlying3))
theorem law3_TensorMakes.reads2 : ReadsAs Try.prog 26 (Kd.slice Kd.float) (fun x => x.length ≤ 9223372036854775807 ∧ ∀ y ∈ x, (y < 2 ^ 64 ∧ canon y = y)) := (ReadsAs.slice (P := Try.prog) (t := 26) Try.underlying26 (by kernel_rfl) (of_decide_eq_true (by kernel_rfl)) (ReadsAs.float (P := Try.prog) (t := 44) Try.underlying44))
set_option maxRecDepth 100000 in
theorem law3_TensorMakes.lifted (plain : ∀ (x0 : (List Int)) (o0 : x0.length ≤ 9223372036854775807 ∧ ∀ y ∈ x0, (Lit.int .i64 y).wf = true) (x1 : Nat) (o1 : (x1 < 2 ^ 64 ∧ canon x1 = x1)) (x2 : (List Nat)) (o2 : x2.length ≤ 9223372036854775807 ∧ ∀ y ∈ x2, (y < 2 ^ 64 ∧ canon y = y)), law3_TensorMakes.f x0 x1 x2 = some true) (os : Os) (started : os.Started) (H : Type) (enc : TypeId × Value → H) :
    ReturnsInHanded {} Try.checked os 8 .any (Rows.tensorMakesSpec.pre6 enc Try.prog Try.f8 Rows.tensorMakesRow.domain false) (Rows.tensorMakesSpec.post enc Try.prog Try.f8 false true false false) := by
  refine returnsInHanded_of_change (C := Try.checked) law3_TensorMakes.own started (by kernel_rfl) Try.func8
    (ChangeSpec.witness6 (enc := enc) (C := Try.checked) false ⟨#[], #[.slice none 0 0, .float .f64 0, .slice none 0 0], []⟩ 8 (by kernel_rfl) (by kernel_rfl) (by kernel_rfl) (by kernel_rfl)) ?_
  intro W base args ds gs before hval0 hW hcnd _
  have hval : ∀ (j : Nat) t v, Try.f8.params[j]? = some t → args[j]? = some v → Value.okWide Try.prog W .any base t v := hval0
  have hW' := hW
  obtain ⟨p, q, hA0, hV, rfl, hfz, hnd⟩ := hW
  have hA : DataW.TrodAll enc Try.prog W 0 (fun _ => true) true Try.f8.params.toList args.toList ds p := hA0
  rw [Try.params8] at hA hval
  obtain ⟨v0, v1, v2, d0, d1, d2, p0, p1, p2, rfl, rfl, rfl, h0, h1, h2⟩ := trodAll_three hA
  obtain ⟨A0, c0, x0, rfl, hc0, hs0, o0⟩ := argSlice Try.underlying25 law3_TensorMakes.reads0 (hval 0 25 v0 rfl rfl) h0
  obtain ⟨b1, rfl, _, _, w1⟩ := open_float Try.underlying44 (hval 1 44 v1 rfl rfl) h1
  have o1 := And.intro (canon_lt (lt_of_wf w1)) (canon_canon b1)
  obtain ⟨A2, c2, x2, rfl, hc2, hs2, o2⟩ := argSlice Try.underlying26 law3_TensorMakes.reads2 (hval 2 26 v2 rfl rfl) h2
  have hmem : Mem [] [] W [.sl (Kd.int .i64) A0 c0 x0, .sl Kd.float A2 c2 x2] W := by
    refine Mem.start rfl (fun f hf => ?_)
    simp only [List.mem_cons, List.not_mem_nil, or_false] at hf
    rcases hf with rfl | rfl
    · exact ⟨hc0, hs0⟩
    · exact ⟨hc2, hs2⟩
  refine (law3_TensorMakes.calls [] W x0 A0 x0.length c0 rfl (canon b1) b1 ⟨lt_of_wf w1, rfl⟩ x2 A2 x2.length c2 rfl hmem true (plain x0 o0 (canon b1) o1 x2 o2)).mono fun e W' ⟨v, he, hv, hm⟩ => ?_
  subst he; subst hv
  exact ⟨_, rfl, postTrue (tb := 4) law3_TensorMakes.laidOut rfl hW' hm.below (by rw [Try.params8]; decide +kernel) rfl Try.underlying4 rfl⟩

theorem law3_TensorMakes.row (plain : ∀ (x0 : (List Int)) (o0 : x0.length ≤ 9223372036854775807 ∧ ∀ y ∈ x0, (Lit.int .i64 y).wf = true) (x1 : Nat) (o1 : (x1 < 2 ^ 64 ∧ canon x1 = x1)) (x2 : (List Nat)) (o2 : x2.length ≤ 9223372036854775807 ∧ ∀ y ∈ x2, (y < 2 ^ 64 ∧ canon y = y)), law3_TensorMakes.f x0 x1 x2 = some true) : Rows.TensorMakesSaid :=
  OpenClaim.holds_of_wide 8 Try.f8 rfl rfl rfl rfl rfl rfl rfl ⟨rfl, rfl, rfl, rfl, rfl⟩ rfl rfl rfl rfl rfl (by kernel_rfl) Try.func8 (by kernel_rfl)
    (of_decide_eq_true (by kernel_rfl)) (by unfold Func.isWrapper; first | (rw [if_pos (by decide +kernel)]; kernel_rfl) | (rw [if_neg (by decide +kernel)]; exact ⟨rfl, rfl⟩))
    (fun os started H enc _ => law3_TensorMakes.lifted plain os started H enc)
end Go.Proofs.Ytkcgiolledmbnab
