/- Plain law: the document's example of layer 19, by evaluation. -/
import Derived.Test.YteaoijahdinciaaVA19
namespace Go.Proofs.Yteaoijahdinciaa
open Go Go.RowKit
set_option maxRecDepth 100000
theorem law19_awake_ev : law19_awake.f = some true := law19_awake.e_le 5000 true (by kernel_rfl)
end Go.Proofs.Yteaoijahdinciaa
