/- The law KernelSpreads answers true at every input, and leaves its arguments as they were. No condition. -/
import Derived.Test.YtkcgiolledmbnacRKernelSpreads
import Derived.Test.YtkcgiolledmbnacQKernelSpreads
namespace Go.Proofs.Ytkcgiolledmbnac
open Go Go.RowKit
theorem kernelSpreads_holds : Rows.KernelSpreadsSaid := law4_KernelSpreads.row (fun x0 _ x1 _ => law4_KernelSpreads.plain x0 x1)
end Go.Proofs.Ytkcgiolledmbnac
