/- Plain law of FoldKnown: by evaluation. -/
import Derived.Test.YtkcgiolledmbnabVFoldKnown
namespace Go.Proofs.Ytkcgiolledmbnab
open Go Go.RowKit
set_option maxRecDepth 100000
theorem law8_FoldKnown.plain : law8_FoldKnown.f = some true := law8_FoldKnown.e_le 5000 true (by kernel_rfl)
end Go.Proofs.Ytkcgiolledmbnab
