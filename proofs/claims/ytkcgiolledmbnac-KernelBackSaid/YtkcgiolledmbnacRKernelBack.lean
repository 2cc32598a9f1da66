/- The row of KernelBack (printed by rows.py): over the walk 'law4_KernelBack.calls' and the plain law 'law4_KernelBack.plain'. -/
import Derived.Test.YtkcgiolledmbnacRows
import Derived.Test.YtkcgiolledmbnacE9
import Derived.Test.YtkcgiolledmbnacLKernelBack
namespace Go.Proofs.Ytkcgiolledmbnac
open Go Go.RowKit Go.ChangeShapes Go.WideShapes Go.ChangeAt
set_option linter.unusedSimpArgs false
set_option linter.unusedVariables false

theorem law4_KernelBack.own : ownKnob Try.prog.godebug = none := by kernel_rfl
theorem law4_KernelBack.laidOut : laidOutB Try.prog = true := by kernel_rfl
set_option maxRecDepth 100000 in
theorem law4_KernelBack.reads0 : ReadsAs Try.prog 36 (Kd.slice (Kd.int .i8)) (fun x => x.length ≤ 9223372036854775807 ∧ ∀ y ∈ x, (Lit.int .i8 y).wf = true) := (ReadsAs.slice (P := Try.prog) (t := 36) Try.underlying36 (by kernel_rfl) (of_decide_eq_true (by kernel_rfl)) (ReadsAs.int (P := Try.prog) (t := 39) Try.underlying39))
set_option maxRecDepth 100000 in
theorem law4_KernelBack.reads1 : ReadsAs Try.prog 22 (Kd.slice (Kd.int .i64)) (fun x => x.length ≤ 9223372036854775807 ∧ ∀ y ∈ x, (Lit.int .i64 y).wf = true) := (ReadsAs.slice (P := Try.prog) (t := 22) Try.underlying22 (by kernel_rfl) (of_decide_eq_true (by kernel_rfl)) (ReadsAs.int (P := Try.prog) (t := 3) Try.underlying3))
set_option maxRecDepth 100000 in
theorem law4_KernelBack.lifted (plain : ∀ (x0 : (List Int)) (o0 : x0.length ≤ 9223372036854775807 ∧ ∀ y ∈ x0, (Lit.int .i8 y).wf = true) (x1 : (List Int)) (o1 : x1.length ≤ 9223372036854775807 ∧ ∀ y ∈ x1, (Lit.int .i64 y).wf = true) (x2 : Int) (o2 : (Lit.int .u8 x2).wf = true), law4_KernelBack.f x0 x1 x2 = some true) (os : Os) (started : os.Started) (H : Type) (enc : TypeId × Value → H) :
    ReturnsInHanded {} Try.checked os 4 .any (Rows.kernelBackSpec.pre6 enc Try.prog Try.f4 Rows.kernelBackRow.domain false) (Rows.kernelBackSpec.post enc Try.prog Try.f4 false true false false) := by
  refine returnsInHanded_of_change (C := Try.checked) law4_KernelBack.own started (by kernel_rfl) Try.func4
    (ChangeSpec.witness6 (enc := enc) (C := Try.checked) false ⟨#[], #[.slice none 0 0, .slice none 0 0, .int .u8 0], []⟩ 8 (by kernel_rfl) (by kernel_rfl) (by kernel_rfl) (by kernel_rfl)) ?_
  intro W base args ds gs before hval0 hW hcnd _
  have hval : ∀ (j : Nat) t v, Try.f4.params[j]? = some t → args[j]? = some v → Value.okWide Try.prog W .any base t v := hval0
  have hW' := hW
  obtain ⟨p, q, hA0, hV, rfl, hfz, hnd⟩ := hW
  have hA : DataW.TrodAll enc Try.prog W 0 (fun _ => true) true Try.f4.params.toList args.toList ds p := hA0
  rw [Try.params4] at hA hval
  obtain ⟨v0, v1, v2, d0, d1, d2, p0, p1, p2, rfl, rfl, rfl, h0, h1, h2⟩ := trodAll_three hA
  obtain ⟨A0, c0, x0, rfl, hc0, hs0, o0⟩ := argSlice Try.underlying36 law4_KernelBack.reads0 (hval 0 36 v0 rfl rfl) h0
  obtain ⟨A1, c1, x1, rfl, hc1, hs1, o1⟩ := argSlice Try.underlying22 law4_KernelBack.reads1 (hval 1 22 v1 rfl rfl) h1
  obtain ⟨x2, rfl, _, _, o2⟩ := open_int Try.underlying5 (hval 2 5 v2 rfl rfl) h2
  have hmem : Mem [] [] W [.sl (Kd.int .i8) A0 c0 x0, .sl (Kd.int .i64) A1 c1 x1] W := by
    refine Mem.start rfl (fun f hf => ?_)
    simp only [List.mem_cons, List.not_mem_nil, or_false] at hf
    rcases hf with rfl | rfl
    · exact ⟨hc0, hs0⟩
    · exact ⟨hc1, hs1⟩
  refine (law4_KernelBack.calls [] W x0 A0 x0.length c0 rfl x1 A1 x1.length c1 rfl x2 hmem true (plain x0 o0 x1 o1 x2 o2)).mono fun e W' ⟨v, he, hv, hm⟩ => ?_
  subst he; subst hv
  exact ⟨_, rfl, postTrue (tb := 4) law4_KernelBack.laidOut rfl hW' hm.below (by rw [Try.params4]; decide +kernel) rfl Try.underlying4 rfl⟩

theorem law4_KernelBack.row (plain : ∀ (x0 : (List Int)) (o0 : x0.length ≤ 9223372036854775807 ∧ ∀ y ∈ x0, (Lit.int .i8 y).wf = true) (x1 : (List Int)) (o1 : x1.length ≤ 9223372036854775807 ∧ ∀ y ∈ x1, (Lit.int .i64 y).wf = true) (x2 : Int) (o2 : (Lit.int .u8 x2).wf = true), law4_KernelBack.f x0 x1 x2 = some true) : Rows.KernelBackSaid :=
  OpenClaim.holds_of_wide 4 Try.f4 rfl rfl rfl rfl rfl rfl rfl ⟨rfl, rfl, rfl, rfl, rfl⟩ rfl rfl rfl rfl rfl (by kernel_rfl) Try.func4 (by kernel_rfl)
    (of_decide_eq_true (by kernel_rfl)) (by unfold Func.isWrapper; first | (rw [if_pos (by decide +kernel)]; kernel_rfl) | (rw [if_neg (by decide +kernel)]; exact ⟨rfl, rfl⟩))
    (fun os started H enc _ => law4_KernelBack.lifted plain os started H enc)
end Go.Proofs.Ytkcgiolledmbnac
