/- The law FoldTrees answers true at every input, and leaves its arguments as they were. No condition. -/
import Derived.Test.YtkcgiolledmbnabRFoldTrees
import Derived.Test.YtkcgiolledmbnabQFoldTrees
namespace Go.Proofs.Ytkcgiolledmbnab
open Go Go.RowKit
theorem foldTrees_holds : Rows.FoldTreesSaid := law8_FoldTrees.row (fun x0 o0 => law8_FoldTrees.plain x0 o0.1)
end Go.Proofs.Ytkcgiolledmbnab
