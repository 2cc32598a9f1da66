/- The law TensorKnown answers true at every input, and leaves its arguments as they were. No condition. -/
import Derived.Test.YtkcgiolledmbnabRTensorKnown
import Derived.Test.YtkcgiolledmbnabQTensorKnown
namespace Go.Proofs.Ytkcgiolledmbnab
open Go Go.RowKit
theorem tensorKnown_holds : Rows.TensorKnownSaid := law3_TensorKnown.row law3_TensorKnown.plain
end Go.Proofs.Ytkcgiolledmbnab
