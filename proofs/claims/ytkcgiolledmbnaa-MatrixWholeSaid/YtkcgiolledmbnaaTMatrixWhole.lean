/- The law MatrixWhole answers true at every input, and leaves its arguments as they were. No condition. -/
import Derived.Test.YtkcgiolledmbnaaRMatrixWhole
import Derived.Test.YtkcgiolledmbnaaQMatrixWhole
namespace Go.Proofs.Ytkcgiolledmbnaa
open Go Go.RowKit
theorem matrixWhole_holds : Rows.MatrixWholeSaid := law5_MatrixWhole.row (fun x0 o0 x1 o1 => law5_MatrixWhole.plain x0 x1 (wf_u8 o0.1) (wf_u8 o0.2.1) (wf_u8 o0.2.2.1) (wf_u8 o0.2.2.2) o1.1 (fun y h => wf_i8 (o1.2 y h)))
end Go.Proofs.Ytkcgiolledmbnaa
