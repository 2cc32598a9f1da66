/- The law TensorMaps answers true at every input, and leaves its arguments as they were. No condition. -/
import Derived.Test.YtkcgiolledmbnacRTensorMaps
import Derived.Test.YtkcgiolledmbnacQTensorMaps
namespace Go.Proofs.Ytkcgiolledmbnac
open Go Go.RowKit
theorem tensorMaps_holds : Rows.TensorMapsSaid := law3_TensorMaps.row (fun x0 _ x1 _ => law3_TensorMaps.plain x0 x1)
end Go.Proofs.Ytkcgiolledmbnac
