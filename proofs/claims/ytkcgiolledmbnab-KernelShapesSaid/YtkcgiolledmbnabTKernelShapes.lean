/- The law KernelShapes answers true at every input, and leaves its arguments as they were. No condition. -/
import Derived.Test.YtkcgiolledmbnabRKernelShapes
import Derived.Test.YtkcgiolledmbnabQKernelShapes
namespace Go.Proofs.Ytkcgiolledmbnab
open Go Go.RowKit
theorem kernelShapes_holds : Rows.KernelShapesSaid := law4_KernelShapes.row (fun x0 _ x1 _ x2 _ => law4_KernelShapes.plain x0 x1 x2)
end Go.Proofs.Ytkcgiolledmbnab
