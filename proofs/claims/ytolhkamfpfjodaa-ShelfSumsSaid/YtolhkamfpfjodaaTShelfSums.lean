/- The law ShelfSums answers true at every input, and leaves its arguments as they were. No condition. -/
import Derived.Test.YtolhkamfpfjodaaRShelfSums
import Derived.Test.YtolhkamfpfjodaaQShelfSums
namespace Go.Proofs.Ytolhkamfpfjodaa
open Go Go.RowKit
theorem shelfSums_holds : Rows.ShelfSumsSaid := law19_ShelfSums.row (fun x0 o0 => law19_ShelfSums.plain x0 (fun r h => ⟨wf_i16 (o0.2 r h).1, wf_i16 (o0.2 r h).2⟩))
end Go.Proofs.Ytolhkamfpfjodaa
