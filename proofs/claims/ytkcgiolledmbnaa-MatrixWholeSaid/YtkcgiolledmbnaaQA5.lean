/- Plain law: the document's example of layer 5, by evaluation. -/
import Derived.Test.YtkcgiolledmbnaaVA5
namespace Go.Proofs.Ytkcgiolledmbnaa
open Go Go.RowKit
set_option maxRecDepth 100000
theorem law5_awake_ev : law5_awake.f = some true := law5_awake.e_le 5000 true (by kernel_rfl)
end Go.Proofs.Ytkcgiolledmbnaa
