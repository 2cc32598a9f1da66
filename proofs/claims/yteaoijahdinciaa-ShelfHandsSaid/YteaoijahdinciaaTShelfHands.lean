/- The law ShelfHands answers true at every input, and leaves its arguments as they were. No condition. -/
import Derived.Test.YteaoijahdinciaaRShelfHands
import Derived.Test.YteaoijahdinciaaQShelfHands
namespace Go.Proofs.Yteaoijahdinciaa
open Go Go.RowKit
theorem shelfHands_holds : Rows.ShelfHandsSaid := law19_ShelfHands.row (fun x0 o0 x1 _ => law19_ShelfHands.plain x0 x1 o0.1)
end Go.Proofs.Yteaoijahdinciaa
