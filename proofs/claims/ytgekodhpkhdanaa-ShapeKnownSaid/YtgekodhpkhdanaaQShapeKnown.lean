/- The plain law of ShapeKnown. -/
import Derived.Test.YtgekodhpkhdanaaQ1
import Derived.Test.YtgekodhpkhdanaaLShapeKnown
namespace Go.Proofs.Ytgekodhpkhdanaa
open Go Go.RowKit
set_option linter.unusedSimpArgs false
set_option linter.unusedVariables false

theorem law1_ShapeKnown.plain : law1_ShapeKnown.f = some true := by
  unfold law1_ShapeKnown.f
  rw [law1_awake_eq, obind, if_pos rfl]
  simp only [shape_Size_eq, shape_Spread_eq, shape_Index_eq, shape_Into_eq, obind]
  rw [show size [] = (1, 0) by decide +kernel, show size [64, 64] = (4096, 0) by decide +kernel, show size [64, 65] = (0, 3) by decide +kernel, show size [1, 1, 1, 1, 1] = (0, 2) by decide +kernel,
    show size [1099511627776, 1099511627776, 0] = (0, 2) by decide +kernel, show spread [2, 1, 3] [4, 1] = ([2, 4, 3], 0) by decide +kernel, show spread [2] [3] = ([], 2) by decide +kernel, show spread [4096] [2, 1] = ([], 3) by decide +kernel,
    show spread [] [] = ([], 0) by decide +kernel, show index [] [] = 0 by decide +kernel, show spread [1] [5] = ([5], 0) by decide +kernel, show spread [5] [1] = ([5], 0) by decide +kernel, show spread [] [2, 2] = ([2, 2], 0) by decide +kernel,
    show spread [1] [] = ([1], 0) by decide +kernel]
  rw [shape_Same_eq _ _ (by decide)]
  simp [obind]

end Go.Proofs.Ytgekodhpkhdanaa
