/- The row of FoldWhole (printed by rows.py): over the walk 'law8_FoldWhole.calls' and the plain law 'law8_FoldWhole.plain'. -/
import Derived.Test.YtkcgiolledmbnabRows
import Derived.Test.YtkcgiolledmbnabE9
import Derived.Test.YtkcgiolledmbnabLFoldWhole
namespace Go.Proofs.Ytkcgiolledmbnab
open Go Go.RowKit Go.ChangeShapes Go.WideShapes Go.ChangeAt
set_option linter.unusedSimpArgs false
set_option linter.unusedVariables false

theorem law8_FoldWhole.own : ownKnob Try.prog.godebug = none := by kernel_rfl
theorem law8_FoldWhole.laidOut : laidOutB Try.prog = true := by kernel_rfl
set_option maxRecDepth 100000 in
theorem law8_FoldWhole.reads0 : ReadsAs Try.prog 45 (Kd.slice (Kd.pair (Kd.int .i16) (Kd.pair (Kd.int .i16) (Kd.pair (Kd.int .i16) (Kd.int .i16))))) (fun x => x.length ≤ 9223372036854775807 ∧ ∀ y ∈ x, ((Lit.int .i16 y.1).wf = true) ∧ ((Lit.int .i16 y.2.1).wf = true) ∧ ((Lit.int .i16 y.2.2.1).wf = true) ∧ ((Lit.int .i16 y.2.2.2).wf = true)) := (ReadsAs.slice (P := Try.prog) (t := 45) Try.underlying45 (by kernel_rfl) (of_decide_eq_true (by kernel_rfl)) (ReadsAs.array (P := Try.prog) (t := 49) (n := 4) Try.underlying49 (by kernel_rfl) (ReadsEl.cons (P := Try.prog) (e := 48) (n := 4) (i := 0) (by decide) (by kernel_rfl) (ReadsAs.int (P := Try.prog) (t := 48) Try.underlying48) (ReadsEl.cons (P := Try.prog) (e := 48) (n := 4) (i := 1) (by decide) (by kernel_rfl) (ReadsAs.int (P := Try.prog) (t := 48) Try.underlying48) (ReadsEl.cons (P := Try.prog) (e := 48) (n := 4) (i := 2) (by decide) (by kernel_rfl) (ReadsAs.int (P := Try.prog) (t := 48) Try.underlying48) (ReadsEl.last (P := Try.prog) (e := 48) (n := 4) (i := 3) (by decide) (by kernel_rfl) (ReadsAs.int (P := Try.prog) (t := 48) Try.underlying48)))))))
set_option maxRecDepth 100000 in
theorem law8_FoldWhole.reads1 : ReadsAs Try.prog 46 (Kd.pair Kd.float (Kd.pair Kd.float (Kd.pair Kd.float Kd.float))) (fun x => ((x.1 < 2 ^ 64 ∧ canon x.1 = x.1)) ∧ ((x.2.1 < 2 ^ 64 ∧ canon x.2.1 = x.2.1)) ∧ ((x.2.2.1 < 2 ^ 64 ∧ canon x.2.2.1 = x.2.2.1)) ∧ ((x.2.2.2 < 2 ^ 64 ∧ canon x.2.2.2 = x.2.2.2))) := (ReadsAs.array (P := Try.prog) (t := 46) (n := 4) Try.underlying46 (by kernel_rfl) (ReadsEl.cons (P := Try.prog) (e := 44) (n := 4) (i := 0) (by decide) (by kernel_rfl) (ReadsAs.float (P := Try.prog) (t := 44) Try.underlying44) (ReadsEl.cons (P := Try.prog) (e := 44) (n := 4) (i := 1) (by decide) (by kernel_rfl) (ReadsAs.float (P := Try.prog) (t := 44) Try.underlying44) (ReadsEl.cons (P := Try.prog) (e := 44) (n := 4) (i := 2) (by decide) (by kernel_rfl) (ReadsAs.float (P := Try.prog) (t := 44) Try.underlying44) (ReadsEl.last (P := Try.prog) (e := 44) (n := 4) (i := 3) (by decide) (by kernel_rfl) (ReadsAs.float (P := Try.prog) (t := 44) Try.underlying44))))))
set_option maxRecDepth 100000 in
theorem law8_FoldWhole.lifted (plain : ∀ (x0 : (List (Int × Int × Int × Int))) (o0 : x0.length ≤ 9223372036854775807 ∧ ∀ y ∈ x0, ((Lit.int .i16 y.1).wf = true) ∧ ((Lit.int .i16 y.2.1).wf = true) ∧ ((Lit.int .i16 y.2.2.1).wf = true) ∧ ((Lit.int .i16 y.2.2.2).wf = true)) (x1 : (Nat × Nat × Nat × Nat)) (o1 : ((x1.1 < 2 ^ 64 ∧ canon x1.1 = x1.1)) ∧ ((x1.2.1 < 2 ^ 64 ∧ canon x1.2.1 = x1.2.1)) ∧ ((x1.2.2.1 < 2 ^ 64 ∧ canon x1.2.2.1 = x1.2.2.1)) ∧ ((x1.2.2.2 < 2 ^ 64 ∧ canon x1.2.2.2 = x1.2.2.2))), law8_FoldWhole.f x0 x1 = some true) (os : Os) (started : os.Started) (H : Type) (enc : TypeId × Value → H) :
    ReturnsInHanded {} Try.checked os 6 .any (Rows.foldWholeSpec.pre6 enc Try.prog Try.f6 Rows.foldWholeRow.domain false) (Rows.foldWholeSpec.post enc Try.prog Try.f6 false true false false) := by
  refine returnsInHanded_of_change (C := Try.checked) law8_FoldWhole.own started (by kernel_rfl) Try.func6
    (ChangeSpec.witness6 (enc := enc) (C := Try.checked) false ⟨#[], #[.slice none 0 0, .agg #[.float .f64 0, .float .f64 0, .float .f64 0, .float .f64 0]], []⟩ 8 (by kernel_rfl) (by kernel_rfl) (by kernel_rfl) (by kernel_rfl)) ?_
  intro W base args ds gs before hval0 hW hcnd _
  have hval : ∀ (j : Nat) t v, Try.f6.params[j]? = some t → args[j]? = some v → Value.okWide Try.prog W .any base t v := hval0
  have hW' := hW
  obtain ⟨p, q, hA0, hV, rfl, hfz, hnd⟩ := hW
  have hA : DataW.TrodAll enc Try.prog W 0 (fun _ => true) true Try.f6.params.toList args.toList ds p := hA0
  rw [Try.params6] at hA hval
  obtain ⟨v0, v1, d0, d1, p0, p1, rfl, rfl, rfl, h0, h1⟩ := trodAll_two hA
  obtain ⟨A0, c0, x0, rfl, hc0, hs0, o0⟩ := argSlice Try.underlying45 law8_FoldWhole.reads0 (hval 0 45 v0 rfl rfl) h0
  obtain ⟨us1, x1, rfl, hr1, o1⟩ := argArray Try.underlying46 law8_FoldWhole.reads1 (hval 1 46 v1 rfl rfl) h1
  obtain ⟨_, _, eu1, ha1_1, hb1_1⟩ := hr1
  obtain ⟨b1_0, rfl, h1_0⟩ := ha1_1
  obtain ⟨_, _, rfl, ha1_2, hb1_2⟩ := hb1_1
  obtain ⟨b1_1, rfl, h1_1⟩ := ha1_2
  obtain ⟨_, _, rfl, ha1_3, hb1_3⟩ := hb1_2
  obtain ⟨b1_2, rfl, h1_2⟩ := ha1_3
  obtain ⟨b1_3, rfl, h1_3⟩ := hb1_3
  obtain rfl : us1 = #[.float .f64 b1_0, .float .f64 b1_1, .float .f64 b1_2, .float .f64 b1_3] := by apply Array.toList_inj.1; simpa using eu1
  have hmem : Mem [] [] W [.sl (Kd.pair (Kd.int .i16) (Kd.pair (Kd.int .i16) (Kd.pair (Kd.int .i16) (Kd.int .i16)))) A0 c0 x0] W := by
    refine Mem.start rfl (fun f hf => ?_)
    simp only [List.mem_cons, List.not_mem_nil, or_false] at hf
    rcases hf with rfl
    · exact ⟨hc0, hs0⟩
  refine (law8_FoldWhole.calls [] W x0 A0 x0.length c0 rfl x1 b1_0 h1_0 b1_1 h1_1 b1_2 h1_2 b1_3 h1_3 hmem true (plain x0 o0 x1 o1)).mono fun e W' ⟨v, he, hv, hm⟩ => ?_
  subst he; subst hv
  exact ⟨_, rfl, postTrue (tb := 4) law8_FoldWhole.laidOut rfl hW' hm.below (by rw [Try.params6]; decide +kernel) rfl Try.underlying4 rfl⟩

theorem law8_FoldWhole.row (plain : ∀ (x0 : (List (Int × Int × Int × Int))) (o0 : x0.length ≤ 9223372036854775807 ∧ ∀ y ∈ x0, ((Lit.int .i16 y.1).wf = true) ∧ ((Lit.int .i16 y.2.1).wf = true) ∧ ((Lit.int .i16 y.2.2.1).wf = true) ∧ ((Lit.int .i16 y.2.2.2).wf = true)) (x1 : (Nat × Nat × Nat × Nat)) (o1 : ((x1.1 < 2 ^ 64 ∧ canon x1.1 = x1.1)) ∧ ((x1.2.1 < 2 ^ 64 ∧ canon x1.2.1 = x1.2.1)) ∧ ((x1.2.2.1 < 2 ^ 64 ∧ canon x1.2.2.1 = x1.2.2.1)) ∧ ((x1.2.2.2 < 2 ^ 64 ∧ canon x1.2.2.2 = x1.2.2.2))), law8_FoldWhole.f x0 x1 = some true) : Rows.FoldWholeSaid :=
  OpenClaim.holds_of_wide 6 Try.f6 rfl rfl rfl rfl rfl rfl rfl ⟨rfl, rfl, rfl, rfl, rfl⟩ rfl rfl rfl rfl rfl (by kernel_rfl) Try.func6 (by kernel_rfl)
    (of_decide_eq_true (by kernel_rfl)) (by unfold Func.isWrapper; first | (rw [if_pos (by decide +kernel)]; kernel_rfl) | (rw [if_neg (by decide +kernel)]; exact ⟨rfl, rfl⟩))
    (fun os started H enc _ => law8_FoldWhole.lifted plain os started H enc)
end Go.Proofs.Ytkcgiolledmbnab
