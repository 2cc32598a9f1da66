/- The law MatrixRows answers true at every input, and leaves its arguments as they were. No condition. -/
import Derived.Test.YtkcgiolledmbnaaRMatrixRows
import Derived.Test.YtkcgiolledmbnaaQMatrixRows
namespace Go.Proofs.Ytkcgiolledmbnaa
open Go Go.RowKit
theorem matrixRows_holds : Rows.MatrixRowsSaid := law5_MatrixRows.row (fun x0 _ x1 _ x2 o2 => law5_MatrixRows.plain x0 x1 x2 (wf_u8 o2.1) (wf_u8 o2.2))
end Go.Proofs.Ytkcgiolledmbnaa
