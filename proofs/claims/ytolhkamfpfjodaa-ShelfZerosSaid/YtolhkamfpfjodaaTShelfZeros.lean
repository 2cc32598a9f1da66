/- The law ShelfZeros answers true at every input, and leaves its arguments as they were. No condition. -/
import Derived.Test.YtolhkamfpfjodaaRShelfZeros
import Derived.Test.YtolhkamfpfjodaaQShelfZeros
namespace Go.Proofs.Ytolhkamfpfjodaa
open Go Go.RowKit
theorem shelfZeros_holds : Rows.ShelfZerosSaid := law19_ShelfZeros.row (fun x0 o0 x1 o1 => law19_ShelfZeros.plain x0 x1 (fun y h => wf_i16 (o0.2 y h)) (wf_u8 o1))
end Go.Proofs.Ytolhkamfpfjodaa
