/- The law ScriptKnown answers true at every input, and leaves its arguments as they were, where the library's listed variables hold what its text lays: the row, and the tied card. -/
import Derived.Test.YtkdhahdfkonilaaDoorRScriptKnown
import Derived.Test.YtkdhahdfkonilaaDoorQScriptKnown
import Derived.Test.YtkdhahdfkonilaaDoorTie
import Derived.Test.YtkdhahdfkonilaaDoorCards
import Derived.SevenTiedAt
namespace Go.Proofs.YtkdhahdfkonilaaDoor
open Go Go.RowKit
theorem scriptKnown_row : Rows.ScriptKnownSaid := law24_ScriptKnown.row law24_ScriptKnown.plain
theorem scriptKnown_holds : Rows.ScriptKnownCardSaid :=
  Claim7.holds_tied_plain_at .later [] [.data, .data, .data, .data, .sentinel, .sentinel, .listed, .data, .pinned] true (true, "d17eaef9e7f7677cfb74e6ab10a3ea3233353c6e35764094ad23eef32053022b") true scriptKnown_row (fun _ h => by cases h) (by kernel_rfl) (fun _ h => by cases h) scriptKnown_row_tie rfl ⟨rfl, rfl⟩ (by kernel_rfl) rfl
    (fun f fn hf hfn => by
      obtain rfl : f = 6 := Option.some.inj ((show Tryd.prog.funcNamed "backstitch/backstitchlaw24.ScriptKnown" = some 6 by kernel_rfl).symm.trans hf) |>.symm
      obtain rfl : fn = Tryd.f6 := (Option.some.inj (Tryd.func6.symm.trans hfn)).symm
      exact ⟨by kernel_rfl, fun j t ht => by
        rw [Tryd.params6] at ht
        simp at ht⟩)
    (by kernel_rfl)
end Go.Proofs.YtkdhahdfkonilaaDoor
