/- The law FoldParts answers true at every input, and leaves its arguments as they were. No condition. -/
import Derived.Test.YtkcgiolledmbnabRFoldParts
import Derived.Test.YtkcgiolledmbnabQFoldParts
namespace Go.Proofs.Ytkcgiolledmbnab
open Go Go.RowKit
theorem foldParts_holds : Rows.FoldPartsSaid := law8_FoldParts.row (fun x0 o0 => law8_FoldParts.plain x0 o0.1)
end Go.Proofs.Ytkcgiolledmbnab
