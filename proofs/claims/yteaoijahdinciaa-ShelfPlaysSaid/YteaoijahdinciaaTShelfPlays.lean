/- The law ShelfPlays answers true at every input, and leaves its arguments as they were. No condition. -/
import Derived.Test.YteaoijahdinciaaRShelfPlays
import Derived.Test.YteaoijahdinciaaQShelfPlays
namespace Go.Proofs.Yteaoijahdinciaa
open Go Go.RowKit
theorem shelfPlays_holds : Rows.ShelfPlaysSaid := law19_ShelfPlays.row (fun x0 o0 x1 o1 => law19_ShelfPlays.plain x0 x1 o0.1 o1.1 (fun y h => (o1.2 y h).2.2.2.1))
end Go.Proofs.Yteaoijahdinciaa
