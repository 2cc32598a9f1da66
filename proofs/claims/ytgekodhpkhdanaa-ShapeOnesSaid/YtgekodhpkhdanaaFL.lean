/- Printed by gen.py. -/
import Derived.Test.YtgekodhpkhdanaaF1
namespace Go.Proofs.Ytgekodhpkhdanaa
open Go Go.RowKit
set_option linter.unusedSimpArgs false
set_option linter.unusedVariables false
set_option linter.unnecessarySimpa false

end Go.Proofs.Ytgekodhpkhdanaa
