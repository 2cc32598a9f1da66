/- The law TensorHands answers true at every input, and leaves its arguments as they were. No condition. -/
import Derived.Test.YtkcgiolledmbnabRTensorHands
import Derived.Test.YtkcgiolledmbnabQTensorHands
namespace Go.Proofs.Ytkcgiolledmbnab
open Go Go.RowKit
theorem tensorHands_holds : Rows.TensorHandsSaid := law3_TensorHands.row (fun x0 _ x1 _ => law3_TensorHands.plain x0 x1)
end Go.Proofs.Ytkcgiolledmbnab
