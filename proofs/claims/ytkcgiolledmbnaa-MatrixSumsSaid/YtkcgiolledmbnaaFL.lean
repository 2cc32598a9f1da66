/- Printed by gen.py. -/
import Derived.Test.YtkcgiolledmbnaaF5
namespace Go.Proofs.Ytkcgiolledmbnaa
open Go Go.RowKit
set_option linter.unusedSimpArgs false
set_option linter.unusedVariables false
set_option linter.unnecessarySimpa false

end Go.Proofs.Ytkcgiolledmbnaa
