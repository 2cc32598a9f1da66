/- The law KernelPlaces answers true at every input, and leaves its arguments as they were. No condition. -/
import Derived.Test.YtkcgiolledmbnabRKernelPlaces
import Derived.Test.YtkcgiolledmbnabQKernelPlaces
namespace Go.Proofs.Ytkcgiolledmbnab
open Go Go.RowKit
theorem kernelPlaces_holds : Rows.KernelPlacesSaid := law4_KernelPlaces.row (fun x0 _ x1 _ => law4_KernelPlaces.plain x0 x1)
end Go.Proofs.Ytkcgiolledmbnab
