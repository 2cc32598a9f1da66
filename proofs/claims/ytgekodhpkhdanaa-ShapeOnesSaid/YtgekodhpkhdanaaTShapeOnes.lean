/- The law ShapeOnes answers true at every input, and leaves its arguments as they were. No condition. -/
import Derived.Test.YtgekodhpkhdanaaRShapeOnes
import Derived.Test.YtgekodhpkhdanaaQShapeOnes
namespace Go.Proofs.Ytgekodhpkhdanaa
open Go Go.RowKit
theorem shapeOnes_holds : Rows.ShapeOnesSaid := law1_ShapeOnes.row (fun x0 _ x1 _ => law1_ShapeOnes.plain x0 x1)
end Go.Proofs.Ytgekodhpkhdanaa
