/- The law FoldWhole answers true at every input, and leaves its arguments as they were. No condition. -/
import Derived.Test.YtkcgiolledmbnabRFoldWhole
import Derived.Test.YtkcgiolledmbnabQFoldWhole
namespace Go.Proofs.Ytkcgiolledmbnab
open Go Go.RowKit
theorem foldWhole_holds : Rows.FoldWholeSaid := law8_FoldWhole.row (fun x0 o0 x1 _ => law8_FoldWhole.plain x0 x1 (fun r h => ⟨wf_i16 (o0.2 r h).1, wf_i16 (o0.2 r h).2.1, wf_i16 (o0.2 r h).2.2.1, wf_i16 (o0.2 r h).2.2.2⟩))
end Go.Proofs.Ytkcgiolledmbnab
