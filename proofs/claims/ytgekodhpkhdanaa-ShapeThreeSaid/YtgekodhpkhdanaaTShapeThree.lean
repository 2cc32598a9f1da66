/- The law ShapeThree answers true at every input, and leaves its arguments as they were. No condition. -/
import Derived.Test.YtgekodhpkhdanaaRShapeThree
import Derived.Test.YtgekodhpkhdanaaQShapeThree
namespace Go.Proofs.Ytgekodhpkhdanaa
open Go Go.RowKit
theorem shapeThree_holds : Rows.ShapeThreeSaid := law1_ShapeThree.row (fun x0 _ x1 _ x2 _ => law1_ShapeThree.plain x0 x1 x2)
end Go.Proofs.Ytgekodhpkhdanaa
