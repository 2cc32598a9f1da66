/- The row of KernelGathers (printed by rows.py): over the walk 'law4_KernelGathers.calls' and the plain law 'law4_KernelGathers.plain'. -/
import Derived.Test.YtkcgiolledmbnabRows
import Derived.Test.YtkcgiolledmbnabE9
import Derived.Test.YtkcgiolledmbnabLKernelGathers
namespace Go.Proofs.Ytkcgiolledmbnab
open Go Go.RowKit Go.ChangeShapes Go.WideShapes Go.ChangeAt
set_option linter.unusedSimpArgs false
set_option linter.unusedVariables false

theorem law4_KernelGathers.own : ownKnob Try.prog.godebug = none := by kernel_rfl
theorem law4_KernelGathers.laidOut : laidOutB Try.prog = true := by kernel_rfl
set_option maxRecDepth 100000 in
theorem law4_KernelGathers.reads0 : ReadsAs Try.prog 28 kTensor (fun x => (x.Shape.length ≤ 9223372036854775807 ∧ ∀ y ∈ x.Shape, (Lit.int .i64 y).wf = true) ∧ (x.Data.length ≤ 9223372036854775807 ∧ ∀ y ∈ x.Data, (y < 2 ^ 64 ∧ canon y = y))) := (ReadsAs.struct (P := Try.prog) (t := 28) (fun v => ⟨v.1, v.2⟩) (fun _ => rfl) Try.underlying28 (by kernel_rfl) (ReadsAt.cons (P := Try.prog) (i := 0) rfl rfl (by kernel_rfl) (ReadsAs.slice (P := Try.prog) (t := 25) Try.underlying25 (by kernel_rfl) (of_decide_eq_true (by kernel_rfl)) (ReadsAs.int (P := Try.prog) (t := 3) Try.underlying3)) (ReadsAt.last (P := Try.prog) (i := 1) rfl rfl (by kernel_rfl) (ReadsAs.slice (P := Try.prog) (t := 26) Try.underlying26 (by kernel_rfl) (of_decide_eq_true (by kernel_rfl)) (ReadsAs.float (P := Try.prog) (t := 44) Try.underlying44)))))
set_option maxRecDepth 100000 in
theorem law4_KernelGathers.lifted (plain : ∀ (x0 : Tensor) (o0 : (x0.Shape.length ≤ 9223372036854775807 ∧ ∀ y ∈ x0.Shape, (Lit.int .i64 y).wf = true) ∧ (x0.Data.length ≤ 9223372036854775807 ∧ ∀ y ∈ x0.Data, (y < 2 ^ 64 ∧ canon y = y))) (x1 : Int) (o1 : (Lit.int .u8 x1).wf = true), law4_KernelGathers.f x0 x1 = some true) (os : Os) (started : os.Started) (H : Type) (enc : TypeId × Value → H) :
    ReturnsInHanded {} Try.checked os 14 .any (Rows.kernelGathersSpec.pre6 enc Try.prog Try.f14 Rows.kernelGathersRow.domain false) (Rows.kernelGathersSpec.post enc Try.prog Try.f14 false true false false) := by
  refine returnsInHanded_of_change (C := Try.checked) law4_KernelGathers.own started (by kernel_rfl) Try.func14
    (ChangeSpec.witness6 (enc := enc) (C := Try.checked) false ⟨#[], #[.agg #[.slice none 0 0, .slice none 0 0], .int .u8 0], []⟩ 8 (by kernel_rfl) (by kernel_rfl) (by kernel_rfl) (by kernel_rfl)) ?_
  intro W base args ds gs before hval0 hW hcnd _
  have hval : ∀ (j : Nat) t v, Try.f14.params[j]? = some t → args[j]? = some v → Value.okWide Try.prog W .any base t v := hval0
  have hW' := hW
  obtain ⟨p, q, hA0, hV, rfl, hfz, hnd⟩ := hW
  have hA : DataW.TrodAll enc Try.prog W 0 (fun _ => true) true Try.f14.params.toList args.toList ds p := hA0
  rw [Try.params14] at hA hval
  obtain ⟨v0, v1, d0, d1, p0, p1, rfl, rfl, rfl, h0, h1⟩ := trodAll_two hA
  obtain ⟨us0, x0, rfl, hr0, o0⟩ := argStruct Try.underlying28 law4_KernelGathers.reads0 (hval 0 28 v0 rfl rfl) h0
  obtain ⟨A0_0, c0_0, A0_1, c0_1, eu0, ⟨hc0_0, hs0_0⟩, ⟨hc0_1, hs0_1⟩⟩ := kTensor.open hr0
  obtain rfl : us0 = #[.slice A0_0 x0.Shape.length c0_0, .slice A0_1 x0.Data.length c0_1] := by apply Array.toList_inj.1; simpa using eu0
  obtain ⟨x1, rfl, _, _, o1⟩ := open_int Try.underlying5 (hval 1 5 v1 rfl rfl) h1
  have hmem : Mem [] [] W [.sl (Kd.int .i64) A0_0 c0_0 x0.Shape, .sl Kd.float A0_1 c0_1 x0.Data] W := by
    refine Mem.start rfl (fun f hf => ?_)
    simp only [List.mem_cons, List.not_mem_nil, or_false] at hf
    rcases hf with rfl | rfl
    · exact ⟨hc0_0, hs0_0⟩
    · exact ⟨hc0_1, hs0_1⟩
  refine (law4_KernelGathers.calls [] W x0 A0_0 x0.Shape.length c0_0 rfl A0_1 x0.Data.length c0_1 rfl x1 hmem true (plain x0 o0 x1 o1)).mono fun e W' ⟨v, he, hv, hm⟩ => ?_
  subst he; subst hv
  exact ⟨_, rfl, postTrue (tb := 4) law4_KernelGathers.laidOut rfl hW' hm.below (by rw [Try.params14]; decide +kernel) rfl Try.underlying4 rfl⟩

theorem law4_KernelGathers.row (plain : ∀ (x0 : Tensor) (o0 : (x0.Shape.length ≤ 9223372036854775807 ∧ ∀ y ∈ x0.Shape, (Lit.int .i64 y).wf = true) ∧ (x0.Data.length ≤ 9223372036854775807 ∧ ∀ y ∈ x0.Data, (y < 2 ^ 64 ∧ canon y = y))) (x1 : Int) (o1 : (Lit.int .u8 x1).wf = true), law4_KernelGathers.f x0 x1 = some true) : Rows.KernelGathersSaid :=
  OpenClaim.holds_of_wide 14 Try.f14 rfl rfl rfl rfl rfl rfl rfl ⟨rfl, rfl, rfl, rfl, rfl⟩ rfl rfl rfl rfl rfl (by kernel_rfl) Try.func14 (by kernel_rfl)
    (of_decide_eq_true (by kernel_rfl)) (by unfold Func.isWrapper; first | (rw [if_pos (by decide +kernel)]; kernel_rfl) | (rw [if_neg (by decide +kernel)]; exact ⟨rfl, rfl⟩))
    (fun os started H enc _ => law4_KernelGathers.lifted plain os started H enc)
end Go.Proofs.Ytkcgiolledmbnab
