/- The row of ScriptTexts (printed by rows.py): over the walk 'law24_ScriptTexts.calls' and the plain law 'law24_ScriptTexts.plain'. -/
import Derived.Test.YtkdhahdfkonilaaDoorRows
import Derived.Test.YtkdhahdfkonilaaDoorE18
import Derived.Test.YtkdhahdfkonilaaDoorLScriptTexts
namespace Go.Proofs.YtkdhahdfkonilaaDoor
open Go Go.RowKit Go.ChangeShapes Go.WideShapes Go.ChangeAt
set_option linter.unusedSimpArgs false
set_option linter.unusedVariables false

theorem law24_ScriptTexts.own : ownKnob Tryd.prog.godebug = none := by kernel_rfl
theorem law24_ScriptTexts.laidOut : laidOutB Tryd.prog = true := by kernel_rfl
set_option maxRecDepth 100000 in
theorem law24_ScriptTexts.reads0 : WReads Tryd.prog 24 kGraph (fun x => (x.L.length ≤ 140737488351232 ∧ ∀ y ∈ x.L, ((Lit.int .i64 y.Op).wf = true) ∧ (y.In.length ≤ 140737488351232 ∧ ∀ y1 ∈ y.In, (Lit.int .i64 y1).wf = true) ∧ (y.To.length ≤ 140737488351232 ∧ ∀ y1 ∈ y.To, (Lit.int .i64 y1).wf = true) ∧ ((Lit.int .i64 y.No).wf = true) ∧ ((y.Val.Shape.length ≤ 140737488351232 ∧ ∀ y1 ∈ y.Val.Shape, (Lit.int .i64 y1).wf = true) ∧ (y.Val.Data.length ≤ 140737488351232 ∧ ∀ y1 ∈ y.Val.Data, (y1 < 2 ^ 64 ∧ canon y1 = y1))) ∧ (y.Hooks.length ≤ 140737488351232 ∧ ∀ y1 ∈ y.Hooks, ((Lit.int .i64 y1.Do).wf = true) ∧ ((y1.X < 2 ^ 64 ∧ canon y1.X = y1.X))))) := (WReads.struct (P := Tryd.prog) (t := 24) (fun v => ⟨v⟩) (fun _ => rfl) Tryd.underlying24 (by kernel_rfl) (WReadsAt.last (P := Tryd.prog) (i := 0) rfl rfl (by kernel_rfl) (WReads.slice (P := Tryd.prog) (t := 22) Tryd.underlying22 (by kernel_rfl) (of_decide_eq_true (by kernel_rfl)) (of_decide_eq_true (by kernel_rfl)) (WReads.struct (P := Tryd.prog) (t := 49) (fun v => ⟨v.1, v.2.1, v.2.2.1, v.2.2.2.1, v.2.2.2.2.1, v.2.2.2.2.2⟩) (fun _ => rfl) Tryd.underlying49 (by kernel_rfl) (WReadsAt.cons (P := Tryd.prog) (i := 0) rfl rfl (by kernel_rfl) (ReadsAs.int (P := Tryd.prog) (t := 3) Tryd.underlying3).w (WReadsAt.cons (P := Tryd.prog) (i := 1) rfl rfl (by kernel_rfl) (WReads.slice (P := Tryd.prog) (t := 43) Tryd.underlying43 (by kernel_rfl) (of_decide_eq_true (by kernel_rfl)) (of_decide_eq_true (by kernel_rfl)) (ReadsAs.int (P := Tryd.prog) (t := 3) Tryd.underlying3).w) (WReadsAt.cons (P := Tryd.prog) (i := 2) rfl rfl (by kernel_rfl) (WReads.slice (P := Tryd.prog) (t := 43) Tryd.underlying43 (by kernel_rfl) (of_decide_eq_true (by kernel_rfl)) (of_decide_eq_true (by kernel_rfl)) (ReadsAs.int (P := Tryd.prog) (t := 3) Tryd.underlying3).w) (WReadsAt.cons (P := Tryd.prog) (i := 3) rfl rfl (by kernel_rfl) (ReadsAs.int (P := Tryd.prog) (t := 3) Tryd.underlying3).w (WReadsAt.cons (P := Tryd.prog) (i := 4) rfl rfl (by kernel_rfl) (WReads.struct (P := Tryd.prog) (t := 46) (fun v => ⟨v.1, v.2⟩) (fun _ => rfl) Tryd.underlying46 (by kernel_rfl) (WReadsAt.cons (P := Tryd.prog) (i := 0) rfl rfl (by kernel_rfl) (WReads.slice (P := Tryd.prog) (t := 43) Tryd.underlying43 (by kernel_rfl) (of_decide_eq_true (by kernel_rfl)) (of_decide_eq_true (by kernel_rfl)) (ReadsAs.int (P := Tryd.prog) (t := 3) Tryd.underlying3).w) (WReadsAt.last (P := Tryd.prog) (i := 1) rfl rfl (by kernel_rfl) (WReads.slice (P := Tryd.prog) (t := 44) Tryd.underlying44 (by kernel_rfl) (of_decide_eq_true (by kernel_rfl)) (of_decide_eq_true (by kernel_rfl)) (ReadsAs.float (P := Tryd.prog) (t := 35) Tryd.underlying35).w)))) (WReadsAt.last (P := Tryd.prog) (i := 5) rfl rfl (by kernel_rfl) (WReads.slice (P := Tryd.prog) (t := 47) Tryd.underlying47 (by kernel_rfl) (of_decide_eq_true (by kernel_rfl)) (of_decide_eq_true (by kernel_rfl)) (WReads.struct (P := Tryd.prog) (t := 51) (fun v => ⟨v.1, v.2⟩) (fun _ => rfl) Tryd.underlying51 (by kernel_rfl) (WReadsAt.cons (P := Tryd.prog) (i := 0) rfl rfl (by kernel_rfl) (ReadsAs.int (P := Tryd.prog) (t := 3) Tryd.underlying3).w (WReadsAt.last (P := Tryd.prog) (i := 1) rfl rfl (by kernel_rfl) (ReadsAs.float (P := Tryd.prog) (t := 35) Tryd.underlying35).w))))))))))))))
set_option maxRecDepth 100000 in
theorem law24_ScriptTexts.lifted (plain : ∀ (x0 : Graph) (o0 : (x0.L.length ≤ 140737488351232 ∧ ∀ y ∈ x0.L, ((Lit.int .i64 y.Op).wf = true) ∧ (y.In.length ≤ 140737488351232 ∧ ∀ y1 ∈ y.In, (Lit.int .i64 y1).wf = true) ∧ (y.To.length ≤ 140737488351232 ∧ ∀ y1 ∈ y.To, (Lit.int .i64 y1).wf = true) ∧ ((Lit.int .i64 y.No).wf = true) ∧ ((y.Val.Shape.length ≤ 140737488351232 ∧ ∀ y1 ∈ y.Val.Shape, (Lit.int .i64 y1).wf = true) ∧ (y.Val.Data.length ≤ 140737488351232 ∧ ∀ y1 ∈ y.Val.Data, (y1 < 2 ^ 64 ∧ canon y1 = y1))) ∧ (y.Hooks.length ≤ 140737488351232 ∧ ∀ y1 ∈ y.Hooks, ((Lit.int .i64 y1.Do).wf = true) ∧ ((y1.X < 2 ^ 64 ∧ canon y1.X = y1.X))))), law24_ScriptTexts.f x0 = some true) (os : Os) (started : os.Started) (H : Type) (enc : TypeId × Value → H) :
    ReturnsInHanded {} Tryd.checked os 3 .any (fun w args => (Rows.scriptTextsSpec.pre enc Tryd.prog Tryd.f3 [] false w args ∧ laidMetH Tryd.prog LD w) ∧ sizedMet enc Tryd.prog Tryd.f3 (OpenSpec.ofChange Rows.scriptTextsSpec) false w args) (Rows.scriptTextsSpec.post enc Tryd.prog Tryd.f3 false true false false) := by
  refine change_and_shaped_sized (C := Tryd.checked) (X := fun w _ => laidMetH Tryd.prog LD w) (fun _ _ _ hh h => h.of_heap hh) law24_ScriptTexts.own started (by kernel_rfl) Tryd.func3
    (ChangeSpec.witness_shaped (enc := enc) (C := Tryd.checked) (os := os) (X := fun w _ => laidMetH Tryd.prog LD w) false (World.laidAll Tryd.prog os LD) #[.agg #[.slice none 0 0]] 8 (World.laidAll_os _ _ _) (World.shaped_of_ZipB (by kernel_rfl) (by kernel_rfl)) (by kernel_rfl) (by kernel_rfl) (by kernel_rfl) (laid_met os _)) ?_
  intro W base args ds gs before hval0 hW hS hL hZ
  have hG := glob_of_laid hL hS
  have hval : ∀ (j : Nat) t v, Tryd.f3.params[j]? = some t → args[j]? = some v → Value.okWide Tryd.prog W .any base t v := hval0
  have hW' := hW
  obtain ⟨p, q, hA0, hV, rfl, hfz, hnd⟩ := hW
  have hA : DataW.TrodAll enc Tryd.prog W 0 (fun _ => true) true Tryd.f3.params.toList args.toList ds p := hA0
  rw [Tryd.params3] at hA hval hZ
  obtain ⟨v0, d0, rfl, rfl, h0⟩ := trodAll_one hA
  obtain ⟨us0, x0, rfl, hr0, o0⟩ := argStructW Tryd.underlying24 law24_ScriptTexts.reads0 (hval 0 24 v0 rfl rfl) h0 (arg_weights (j := 0) hZ rfl rfl rfl)
  obtain ⟨A0_0, c0_0, eu0, ⟨hc0_0, hs0_0⟩⟩ := kGraph.open hr0
  obtain rfl : us0 = #[.slice A0_0 x0.L.length c0_0] := by apply Array.toList_inj.1; simpa using eu0
  have hmem : Mem [] [] W [.sl kNode A0_0 c0_0 x0.L] W := by
    refine Mem.start rfl (fun f hf => ?_)
    simp only [List.mem_cons, List.not_mem_nil, or_false] at hf
    rcases hf with rfl
    · exact ⟨hc0_0, hs0_0⟩
  refine (law24_ScriptTexts.calls [] W x0 A0_0 x0.L.length c0_0 rfl hmem true (plain x0 o0) hG).mono fun e W' ⟨v, he, hv, hm⟩ => ?_
  subst he; subst hv
  exact ⟨_, rfl, postTrue (tb := 4) law24_ScriptTexts.laidOut rfl hW' hm.below (by rw [Tryd.params3]; decide +kernel) rfl Tryd.underlying4 rfl⟩

theorem law24_ScriptTexts.row (plain : ∀ (x0 : Graph) (o0 : (x0.L.length ≤ 140737488351232 ∧ ∀ y ∈ x0.L, ((Lit.int .i64 y.Op).wf = true) ∧ (y.In.length ≤ 140737488351232 ∧ ∀ y1 ∈ y.In, (Lit.int .i64 y1).wf = true) ∧ (y.To.length ≤ 140737488351232 ∧ ∀ y1 ∈ y.To, (Lit.int .i64 y1).wf = true) ∧ ((Lit.int .i64 y.No).wf = true) ∧ ((y.Val.Shape.length ≤ 140737488351232 ∧ ∀ y1 ∈ y.Val.Shape, (Lit.int .i64 y1).wf = true) ∧ (y.Val.Data.length ≤ 140737488351232 ∧ ∀ y1 ∈ y.Val.Data, (y1 < 2 ^ 64 ∧ canon y1 = y1))) ∧ (y.Hooks.length ≤ 140737488351232 ∧ ∀ y1 ∈ y.Hooks, ((Lit.int .i64 y1.Do).wf = true) ∧ ((y1.X < 2 ^ 64 ∧ canon y1.X = y1.X))))), law24_ScriptTexts.f x0 = some true) : Rows.ScriptTextsSaid :=
  OpenClaim.holds_of_wide 3 Tryd.f3 rfl rfl rfl rfl rfl rfl rfl ⟨rfl, rfl, rfl, rfl, rfl⟩ rfl rfl rfl rfl rfl (by kernel_rfl) Tryd.func3 (by kernel_rfl)
    (of_decide_eq_true (by kernel_rfl)) (by unfold Func.isWrapper; first | (rw [if_pos (by decide +kernel)]; kernel_rfl) | (rw [if_neg (by decide +kernel)]; exact ⟨rfl, rfl⟩))
    (fun os started H enc _ => law24_ScriptTexts.lifted plain os started H enc)
end Go.Proofs.YtkdhahdfkonilaaDoor
