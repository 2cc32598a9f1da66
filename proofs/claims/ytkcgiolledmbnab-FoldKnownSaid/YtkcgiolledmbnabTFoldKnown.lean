/- The law FoldKnown answers true at every input, and leaves its arguments as they were. No condition. -/
import Derived.Test.YtkcgiolledmbnabRFoldKnown
import Derived.Test.YtkcgiolledmbnabQFoldKnown
namespace Go.Proofs.Ytkcgiolledmbnab
open Go Go.RowKit
theorem foldKnown_holds : Rows.FoldKnownSaid := law8_FoldKnown.row law8_FoldKnown.plain
end Go.Proofs.Ytkcgiolledmbnab
