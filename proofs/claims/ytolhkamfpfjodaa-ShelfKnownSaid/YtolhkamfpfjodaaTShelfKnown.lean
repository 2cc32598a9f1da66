/- The law ShelfKnown answers true at every input, and leaves its arguments as they were. No condition. -/
import Derived.Test.YtolhkamfpfjodaaRShelfKnown
import Derived.Test.YtolhkamfpfjodaaQShelfKnown
namespace Go.Proofs.Ytolhkamfpfjodaa
open Go Go.RowKit
theorem shelfKnown_holds : Rows.ShelfKnownSaid := law19_ShelfKnown.row law19_ShelfKnown.plain
end Go.Proofs.Ytolhkamfpfjodaa
