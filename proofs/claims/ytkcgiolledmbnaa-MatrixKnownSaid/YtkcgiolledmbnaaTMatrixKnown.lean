/- The law MatrixKnown answers true at every input, and leaves its arguments as they were. No condition. -/
import Derived.Test.YtkcgiolledmbnaaRMatrixKnown
import Derived.Test.YtkcgiolledmbnaaQMatrixKnown
namespace Go.Proofs.Ytkcgiolledmbnaa
open Go Go.RowKit
theorem matrixKnown_holds : Rows.MatrixKnownSaid := law5_MatrixKnown.row law5_MatrixKnown.plain
end Go.Proofs.Ytkcgiolledmbnaa
