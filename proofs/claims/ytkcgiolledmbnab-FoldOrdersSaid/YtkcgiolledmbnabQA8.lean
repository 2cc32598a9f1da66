/- Plain law: the document's example of layer 8, by evaluation. -/
import Derived.Test.YtkcgiolledmbnabVA8
namespace Go.Proofs.Ytkcgiolledmbnab
open Go Go.RowKit
set_option maxRecDepth 100000
theorem law8_awake_ev : law8_awake.f = some true := law8_awake.e_le 5000 true (by kernel_rfl)
end Go.Proofs.Ytkcgiolledmbnab
