/- Plain law: the document's example of layer 24, by evaluation. -/
import Derived.Test.YtkdhahdfkonilaaDoorVA24
namespace Go.Proofs.YtkdhahdfkonilaaDoor
open Go Go.RowKit
set_option maxRecDepth 100000
theorem law24_awake_ev : law24_awake.f = some true := law24_awake.e_le 5000 true (by kernel_rfl)
end Go.Proofs.YtkdhahdfkonilaaDoor
