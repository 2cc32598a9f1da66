/- The law ShapePlaces answers true at every input, and leaves its arguments as they were. No condition. -/
import Derived.Test.YtgekodhpkhdanaaRShapePlaces
import Derived.Test.YtgekodhpkhdanaaQShapePlaces
namespace Go.Proofs.Ytgekodhpkhdanaa
open Go Go.RowKit
theorem shapePlaces_holds : Rows.ShapePlacesSaid := law1_ShapePlaces.row (fun x0 _ => law1_ShapePlaces.plain x0)
end Go.Proofs.Ytgekodhpkhdanaa
