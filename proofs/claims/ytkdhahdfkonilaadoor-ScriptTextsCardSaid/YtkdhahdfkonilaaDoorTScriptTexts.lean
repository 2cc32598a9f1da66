/- The law ScriptTexts answers true at every input, and leaves its arguments as they were, where the library's listed variables hold what its text lays: the row, and the tied card. -/
import Derived.Test.YtkdhahdfkonilaaDoorRScriptTexts
import Derived.Test.YtkdhahdfkonilaaDoorQScriptTexts
import Derived.Test.YtkdhahdfkonilaaDoorTie
import Derived.Test.YtkdhahdfkonilaaDoorCards
import Derived.SevenTiedAt
namespace Go.Proofs.YtkdhahdfkonilaaDoor
open Go Go.RowKit
theorem scriptTexts_row : Rows.ScriptTextsSaid := law24_ScriptTexts.row (fun x0 o0 => law24_ScriptTexts.plain x0 o0)
theorem scriptTexts_holds : Rows.ScriptTextsCardSaid :=
  Claim7.holds_tied_plain_at .later [] [.data, .data, .data, .data, .sentinel, .sentinel, .listed, .data, .pinned] true (true, "d17eaef9e7f7677cfb74e6ab10a3ea3233353c6e35764094ad23eef32053022b") true scriptTexts_row (fun _ h => by cases h) (by kernel_rfl) (fun _ h => by cases h) scriptTexts_row_tie rfl ⟨rfl, rfl⟩ (by kernel_rfl) rfl
    (fun f fn hf hfn => by
      obtain rfl : f = 3 := Option.some.inj ((show Tryd.prog.funcNamed "backstitch/backstitchlaw24.ScriptTexts" = some 3 by kernel_rfl).symm.trans hf) |>.symm
      obtain rfl : fn = Tryd.f3 := (Option.some.inj (Tryd.func3.symm.trans hfn)).symm
      exact ⟨by kernel_rfl, fun j t ht => by
        rw [Tryd.params3] at ht
        have hm : t ∈ [24] := by simpa using Array.mem_of_getElem? ht
        have hall : ([24].all fun u => !Tryd.prog.wantsStandIn u) = true := by kernel_rfl
        exact (show Tryd.prog.wantsStandIn t = false by simpa using List.all_eq_true.1 hall t hm)⟩)
    (by kernel_rfl)
end Go.Proofs.YtkdhahdfkonilaaDoor
