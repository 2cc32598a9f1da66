/- Plain law of TensorKnown: by evaluation. -/
import Derived.Test.YtkcgiolledmbnabVTensorKnown
namespace Go.Proofs.Ytkcgiolledmbnab
open Go Go.RowKit
set_option maxRecDepth 100000
theorem law3_TensorKnown.plain : law3_TensorKnown.f = some true := law3_TensorKnown.e_le 5000 true (by kernel_rfl)
end Go.Proofs.Ytkcgiolledmbnab
