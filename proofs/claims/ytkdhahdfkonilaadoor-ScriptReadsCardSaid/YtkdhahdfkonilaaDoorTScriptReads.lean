/- The law ScriptReads answers true at every input, and leaves its arguments as they were, where the library's listed variables hold what its text lays: the row, and the tied card. -/
import Derived.Test.YtkdhahdfkonilaaDoorRScriptReads
import Derived.Test.YtkdhahdfkonilaaDoorQScriptReads
import Derived.Test.YtkdhahdfkonilaaDoorTie
import Derived.Test.YtkdhahdfkonilaaDoorCards
import Derived.SevenTiedAt
namespace Go.Proofs.YtkdhahdfkonilaaDoor
open Go Go.RowKit
theorem scriptReads_row : Rows.ScriptReadsSaid := law24_ScriptReads.row (fun x0 _ => law24_ScriptReads.plain x0)
theorem scriptReads_holds : Rows.ScriptReadsCardSaid :=
  Claim7.holds_tied_plain_at .later [] [.data, .data, .data, .data, .sentinel, .sentinel, .listed, .data, .pinned] true (true, "d17eaef9e7f7677cfb74e6ab10a3ea3233353c6e35764094ad23eef32053022b") true scriptReads_row (fun _ h => by cases h) (by kernel_rfl) (fun _ h => by cases h) scriptReads_row_tie rfl ⟨rfl, rfl⟩ (by kernel_rfl) rfl
    (fun f fn hf hfn => by
      obtain rfl : f = 4 := Option.some.inj ((show Tryd.prog.funcNamed "backstitch/backstitchlaw24.ScriptReads" = some 4 by kernel_rfl).symm.trans hf) |>.symm
      obtain rfl : fn = Tryd.f4 := (Option.some.inj (Tryd.func4.symm.trans hfn)).symm
      exact ⟨by kernel_rfl, fun j t ht => by
        rw [Tryd.params4] at ht
        have hm : t ∈ [9] := by simpa using Array.mem_of_getElem? ht
        have hall : ([9].all fun u => !Tryd.prog.wantsStandIn u) = true := by kernel_rfl
        exact (show Tryd.prog.wantsStandIn t = false by simpa using List.all_eq_true.1 hall t hm)⟩)
    (by kernel_rfl)
end Go.Proofs.YtkdhahdfkonilaaDoor
