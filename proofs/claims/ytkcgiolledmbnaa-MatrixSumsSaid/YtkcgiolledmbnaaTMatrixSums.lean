/- The law MatrixSums answers true at every input, and leaves its arguments as they were. No condition. -/
import Derived.Test.YtkcgiolledmbnaaRMatrixSums
import Derived.Test.YtkcgiolledmbnaaQMatrixSums
namespace Go.Proofs.Ytkcgiolledmbnaa
open Go Go.RowKit
theorem matrixSums_holds : Rows.MatrixSumsSaid := law5_MatrixSums.row law5_MatrixSums.plain
end Go.Proofs.Ytkcgiolledmbnaa
