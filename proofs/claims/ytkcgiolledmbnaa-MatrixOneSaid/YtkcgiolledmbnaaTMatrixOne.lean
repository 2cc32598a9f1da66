/- The law MatrixOne answers true at every input, and leaves its arguments as they were. No condition. -/
import Derived.Test.YtkcgiolledmbnaaRMatrixOne
import Derived.Test.YtkcgiolledmbnaaQMatrixOne
namespace Go.Proofs.Ytkcgiolledmbnaa
open Go Go.RowKit
theorem matrixOne_holds : Rows.MatrixOneSaid := law5_MatrixOne.row (fun x0 o0 => law5_MatrixOne.plain x0 (fun x h => (o0.2.2 x h).1))
end Go.Proofs.Ytkcgiolledmbnaa
