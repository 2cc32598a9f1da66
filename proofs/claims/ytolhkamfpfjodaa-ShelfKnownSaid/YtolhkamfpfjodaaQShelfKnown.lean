/- Plain law of ShelfKnown: by evaluation. -/
import Derived.Test.YtolhkamfpfjodaaVShelfKnown
namespace Go.Proofs.Ytolhkamfpfjodaa
open Go Go.RowKit
set_option maxRecDepth 100000
theorem law19_ShelfKnown.plain : law19_ShelfKnown.f = some true := law19_ShelfKnown.e_le 5000 true (by kernel_rfl)
end Go.Proofs.Ytolhkamfpfjodaa
