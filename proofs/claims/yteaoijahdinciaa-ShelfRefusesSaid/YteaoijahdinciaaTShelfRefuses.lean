/- The law ShelfRefuses answers true at every input, and leaves its arguments as they were. No condition. -/
import Derived.Test.YteaoijahdinciaaRShelfRefuses
import Derived.Test.YteaoijahdinciaaQShelfRefuses
namespace Go.Proofs.Yteaoijahdinciaa
open Go Go.RowKit
theorem shelfRefuses_holds : Rows.ShelfRefusesSaid := law19_ShelfRefuses.row (fun x0 o0 x1 _ x2 _ => law19_ShelfRefuses.plain x0 x1 x2 o0.1)
end Go.Proofs.Yteaoijahdinciaa
