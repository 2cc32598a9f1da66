/- Plain law: the document's example of layer 3, by evaluation. -/
import Derived.Test.YtkcgiolledmbnacVA3
namespace Go.Proofs.Ytkcgiolledmbnac
open Go Go.RowKit
set_option maxRecDepth 100000
theorem law3_awake_ev : law3_awake.f = some true := law3_awake.e_le 5000 true (by kernel_rfl)
end Go.Proofs.Ytkcgiolledmbnac
