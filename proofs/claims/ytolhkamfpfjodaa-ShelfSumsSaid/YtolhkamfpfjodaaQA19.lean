/- Plain law: the document's example of layer 19, by evaluation. -/
import Derived.Test.YtolhkamfpfjodaaVA19
namespace Go.Proofs.Ytolhkamfpfjodaa
open Go Go.RowKit
set_option maxRecDepth 100000
theorem law19_awake_ev : law19_awake.f = some true := law19_awake.e_le 5000 true (by kernel_rfl)
end Go.Proofs.Ytolhkamfpfjodaa
