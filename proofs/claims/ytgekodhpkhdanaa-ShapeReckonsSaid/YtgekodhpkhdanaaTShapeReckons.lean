/- The law ShapeReckons answers true at every input, and leaves its arguments as they were. No condition. -/
import Derived.Test.YtgekodhpkhdanaaRShapeReckons
import Derived.Test.YtgekodhpkhdanaaQShapeReckons
namespace Go.Proofs.Ytgekodhpkhdanaa
open Go Go.RowKit
theorem shapeReckons_holds : Rows.ShapeReckonsSaid := law1_ShapeReckons.row (fun x0 _ x1 _ x2 _ => law1_ShapeReckons.plain x0 x1 x2)
end Go.Proofs.Ytgekodhpkhdanaa
