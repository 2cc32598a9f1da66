/- Plain law: the document's example of layer 4, by evaluation. -/
import Derived.Test.YtkcgiolledmbnabVA4
namespace Go.Proofs.Ytkcgiolledmbnab
open Go Go.RowKit
set_option maxRecDepth 100000
theorem law4_awake_ev : law4_awake.f = some true := law4_awake.e_le 5000 true (by kernel_rfl)
end Go.Proofs.Ytkcgiolledmbnab
