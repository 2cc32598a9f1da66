/- The law ScriptNumbers answers true at every input, and leaves its arguments as they were, where the library's listed variables hold what its text lays: the row, and the tied card. -/
import Derived.Test.YtkdhahdfkonilaaDoorRScriptNumbers
import Derived.Test.YtkdhahdfkonilaaDoorQScriptNumbers
import Derived.Test.YtkdhahdfkonilaaDoorTie
import Derived.Test.YtkdhahdfkonilaaDoorCards
import Derived.SevenTiedAt
namespace Go.Proofs.YtkdhahdfkonilaaDoor
open Go Go.RowKit
theorem scriptNumbers_row : Rows.ScriptNumbersSaid := law24_ScriptNumbers.row (fun x0 o0 x1 o1 x2 _ => law24_ScriptNumbers.plain x0 x1 x2 o0 (wf_u64 o1))
theorem scriptNumbers_holds : Rows.ScriptNumbersCardSaid :=
  Claim7.holds_tied_plain_at .later [] [.data, .data, .data, .data, .sentinel, .sentinel, .listed, .data, .pinned] true (true, "d17eaef9e7f7677cfb74e6ab10a3ea3233353c6e35764094ad23eef32053022b") true scriptNumbers_row (fun _ h => by cases h) (by kernel_rfl) (fun _ h => by cases h) scriptNumbers_row_tie rfl ⟨rfl, rfl⟩ (by kernel_rfl) rfl
    (fun f fn hf hfn => by
      obtain rfl : f = 5 := Option.some.inj ((show Tryd.prog.funcNamed "backstitch/backstitchlaw24.ScriptNumbers" = some 5 by kernel_rfl).symm.trans hf) |>.symm
      obtain rfl : fn = Tryd.f5 := (Option.some.inj (Tryd.func5.symm.trans hfn)).symm
      exact ⟨by kernel_rfl, fun j t ht => by
        rw [Tryd.params5] at ht
        have hm : t ∈ [35, 36, 9] := by simpa using Array.mem_of_getElem? ht
        have hall : ([35, 36, 9].all fun u => !Tryd.prog.wantsStandIn u) = true := by kernel_rfl
        exact (show Tryd.prog.wantsStandIn t = false by simpa using List.all_eq_true.1 hall t hm)⟩)
    (by kernel_rfl)
end Go.Proofs.YtkdhahdfkonilaaDoor
