/- The row of ShelfSums (printed by rows.py): over the walk 'law19_ShelfSums.calls' and the plain law 'law19_ShelfSums.plain'. -/
import Derived.Test.YtolhkamfpfjodaaRows
import Derived.Test.YtolhkamfpfjodaaE9
import Derived.Test.YtolhkamfpfjodaaLShelfSums
namespace Go.Proofs.Ytolhkamfpfjodaa
open Go Go.RowKit Go.ChangeShapes Go.WideShapes Go.ChangeAt
set_option linter.unusedSimpArgs false
set_option linter.unusedVariables false

theorem law19_ShelfSums.own : ownKnob Try.prog.godebug = none := by kernel_rfl
theorem law19_ShelfSums.laidOut : laidOutB Try.prog = true := by kernel_rfl
set_option maxRecDepth 100000 in
theorem law19_ShelfSums.reads0 : ReadsAs Try.prog 50 (Kd.slice (Kd.pair (Kd.int .i16) (Kd.int .i16))) (fun x => x.length ≤ 9223372036854775807 ∧ ∀ y ∈ x, ((Lit.int .i16 y.1).wf = true) ∧ ((Lit.int .i16 y.2).wf = true)) := (ReadsAs.slice (P := Try.prog) (t := 50) Try.underlying50 (by kernel_rfl) (of_decide_eq_true (by kernel_rfl)) (ReadsAs.array (P := Try.prog) (t := 51) (n := 2) Try.underlying51 (by kernel_rfl) (ReadsEl.cons (P := Try.prog) (e := 30) (n := 2) (i := 0) (by decide) (by kernel_rfl) (ReadsAs.int (P := Try.prog) (t := 30) Try.underlying30) (ReadsEl.last (P := Try.prog) (e := 30) (n := 2) (i := 1) (by decide) (by kernel_rfl) (ReadsAs.int (P := Try.prog) (t := 30) Try.underlying30)))))
set_option maxRecDepth 100000 in
theorem law19_ShelfSums.lifted (plain : ∀ (x0 : (List (Int × Int))) (o0 : x0.length ≤ 9223372036854775807 ∧ ∀ y ∈ x0, ((Lit.int .i16 y.1).wf = true) ∧ ((Lit.int .i16 y.2).wf = true)), law19_ShelfSums.f x0 = some true) (os : Os) (started : os.Started) (H : Type) (enc : TypeId × Value → H) :
    ReturnsInHanded {} Try.checked os 5 .any (Rows.shelfSumsSpec.pre6 enc Try.prog Try.f5 Rows.shelfSumsRow.domain false) (Rows.shelfSumsSpec.post enc Try.prog Try.f5 false true false false) := by
  refine returnsInHanded_of_change (C := Try.checked) law19_ShelfSums.own started (by kernel_rfl) Try.func5
    (ChangeSpec.witness6 (enc := enc) (C := Try.checked) false ⟨#[], #[.slice none 0 0], []⟩ 8 (by kernel_rfl) (by kernel_rfl) (by kernel_rfl) (by kernel_rfl)) ?_
  intro W base args ds gs before hval0 hW hcnd _
  have hval : ∀ (j : Nat) t v, Try.f5.params[j]? = some t → args[j]? = some v → Value.okWide Try.prog W .any base t v := hval0
  have hW' := hW
  obtain ⟨p, q, hA0, hV, rfl, hfz, hnd⟩ := hW
  have hA : DataW.TrodAll enc Try.prog W 0 (fun _ => true) true Try.f5.params.toList args.toList ds p := hA0
  rw [Try.params5] at hA hval
  obtain ⟨v0, d0, rfl, rfl, h0⟩ := trodAll_one hA
  obtain ⟨A0, c0, x0, rfl, hc0, hs0, o0⟩ := argSlice Try.underlying50 law19_ShelfSums.reads0 (hval 0 50 v0 rfl rfl) h0
  have hmem : Mem [] [] W [.sl (Kd.pair (Kd.int .i16) (Kd.int .i16)) A0 c0 x0] W := by
    refine Mem.start rfl (fun f hf => ?_)
    simp only [List.mem_cons, List.not_mem_nil, or_false] at hf
    rcases hf with rfl
    · exact ⟨hc0, hs0⟩
  refine (law19_ShelfSums.calls [] W x0 A0 x0.length c0 rfl hmem true (plain x0 o0)).mono fun e W' ⟨v, he, hv, hm⟩ => ?_
  subst he; subst hv
  exact ⟨_, rfl, postTrue (tb := 4) law19_ShelfSums.laidOut rfl hW' hm.below (by rw [Try.params5]; decide +kernel) rfl Try.underlying4 rfl⟩

theorem law19_ShelfSums.row (plain : ∀ (x0 : (List (Int × Int))) (o0 : x0.length ≤ 9223372036854775807 ∧ ∀ y ∈ x0, ((Lit.int .i16 y.1).wf = true) ∧ ((Lit.int .i16 y.2).wf = true)), law19_ShelfSums.f x0 = some true) : Rows.ShelfSumsSaid :=
  OpenClaim.holds_of_wide 5 Try.f5 rfl rfl rfl rfl rfl rfl rfl ⟨rfl, rfl, rfl, rfl, rfl⟩ rfl rfl rfl rfl rfl (by kernel_rfl) Try.func5 (by kernel_rfl)
    (of_decide_eq_true (by kernel_rfl)) (by unfold Func.isWrapper; first | (rw [if_pos (by decide +kernel)]; kernel_rfl) | (rw [if_neg (by decide +kernel)]; exact ⟨rfl, rfl⟩))
    (fun os started H enc _ => law19_ShelfSums.lifted plain os started H enc)
end Go.Proofs.Ytolhkamfpfjodaa
