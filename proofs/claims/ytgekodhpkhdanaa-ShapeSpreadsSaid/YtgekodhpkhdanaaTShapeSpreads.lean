/- The law ShapeSpreads answers true at every input, and leaves its arguments as they were. No condition. -/
import Derived.Test.YtgekodhpkhdanaaRShapeSpreads
import Derived.Test.YtgekodhpkhdanaaQShapeSpreads
namespace Go.Proofs.Ytgekodhpkhdanaa
open Go Go.RowKit
theorem shapeSpreads_holds : Rows.ShapeSpreadsSaid := law1_ShapeSpreads.row (fun x0 _ x1 _ => law1_ShapeSpreads.plain x0 x1)
end Go.Proofs.Ytgekodhpkhdanaa
