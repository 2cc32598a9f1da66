/- The law KernelGathers answers true at every input, and leaves its arguments as they were. No condition. -/
import Derived.Test.YtkcgiolledmbnabRKernelGathers
import Derived.Test.YtkcgiolledmbnabQKernelGathers
namespace Go.Proofs.Ytkcgiolledmbnab
open Go Go.RowKit
theorem kernelGathers_holds : Rows.KernelGathersSaid := law4_KernelGathers.row (fun x0 _ x1 o1 => law4_KernelGathers.plain x0 x1 (wf_u8 o1))
end Go.Proofs.Ytkcgiolledmbnab
