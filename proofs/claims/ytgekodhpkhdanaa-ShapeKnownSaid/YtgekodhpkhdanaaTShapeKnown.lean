/- The law ShapeKnown answers true at every input, and leaves its arguments as they were. No condition. -/
import Derived.Test.YtgekodhpkhdanaaRShapeKnown
import Derived.Test.YtgekodhpkhdanaaQShapeKnown
namespace Go.Proofs.Ytgekodhpkhdanaa
open Go Go.RowKit
theorem shapeKnown_holds : Rows.ShapeKnownSaid := law1_ShapeKnown.row law1_ShapeKnown.plain
end Go.Proofs.Ytgekodhpkhdanaa
