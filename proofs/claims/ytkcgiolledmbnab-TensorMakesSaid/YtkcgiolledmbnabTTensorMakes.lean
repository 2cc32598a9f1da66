/- The law TensorMakes answers true at every input, and leaves its arguments as they were. No condition. -/
import Derived.Test.YtkcgiolledmbnabRTensorMakes
import Derived.Test.YtkcgiolledmbnabQTensorMakes
namespace Go.Proofs.Ytkcgiolledmbnab
open Go Go.RowKit
theorem tensorMakes_holds : Rows.TensorMakesSaid := law3_TensorMakes.row (fun x0 _ x1 _ x2 _ => law3_TensorMakes.plain x0 x1 x2)
end Go.Proofs.Ytkcgiolledmbnab
