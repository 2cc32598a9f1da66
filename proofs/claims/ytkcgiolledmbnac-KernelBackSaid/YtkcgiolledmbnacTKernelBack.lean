/- The law KernelBack answers true at every input, and leaves its arguments as they were. No condition. -/
import Derived.Test.YtkcgiolledmbnacRKernelBack
import Derived.Test.YtkcgiolledmbnacQKernelBack
namespace Go.Proofs.Ytkcgiolledmbnac
open Go Go.RowKit
theorem kernelBack_holds : Rows.KernelBackSaid := law4_KernelBack.row (fun x0 o0 x1 _ x2 o2 => law4_KernelBack.plain x0 x1 x2 (fun y h => wf_i8 (o0.2 y h)) (wf_u8 o2))
end Go.Proofs.Ytkcgiolledmbnac
