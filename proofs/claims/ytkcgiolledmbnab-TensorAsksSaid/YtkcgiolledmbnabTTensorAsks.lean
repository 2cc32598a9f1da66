/- The law TensorAsks answers true at every input, and leaves its arguments as they were. No condition. -/
import Derived.Test.YtkcgiolledmbnabRTensorAsks
import Derived.Test.YtkcgiolledmbnabQTensorAsks
namespace Go.Proofs.Ytkcgiolledmbnab
open Go Go.RowKit
theorem tensorAsks_holds : Rows.TensorAsksSaid := law3_TensorAsks.row (fun x0 _ x1 _ x2 _ => law3_TensorAsks.plain x0 x1 x2)
end Go.Proofs.Ytkcgiolledmbnab
