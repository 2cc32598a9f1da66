/- The law FoldOrders answers true at every input, and leaves its arguments as they were. No condition. -/
import Derived.Test.YtkcgiolledmbnabRFoldOrders
import Derived.Test.YtkcgiolledmbnabQFoldOrders
namespace Go.Proofs.Ytkcgiolledmbnab
open Go Go.RowKit
theorem foldOrders_holds : Rows.FoldOrdersSaid := law8_FoldOrders.row (fun x0 o0 x1 o1 => law8_FoldOrders.plain x0 x1 o0.1 (fun y h => wf_u8 (o1.2 y h)))
end Go.Proofs.Ytkcgiolledmbnab
