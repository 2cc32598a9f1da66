/- The law MatrixMuls answers true at every input, and leaves its arguments as they were. No condition. -/
import Derived.Test.YtkcgiolledmbnaaRMatrixMuls
import Derived.Test.YtkcgiolledmbnaaQMatrixMuls
namespace Go.Proofs.Ytkcgiolledmbnaa
open Go Go.RowKit
theorem matrixMuls_holds : Rows.MatrixMulsSaid := law5_MatrixMuls.row (fun x0 _ x1 _ => law5_MatrixMuls.plain x0 x1)
end Go.Proofs.Ytkcgiolledmbnaa
