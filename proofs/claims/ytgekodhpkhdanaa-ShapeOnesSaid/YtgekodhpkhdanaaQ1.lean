/- Plain laws of layer 1: the document's example; ShapeSpreads, ShapeKnown, ShapeReckons. -/
import Derived.Test.YtgekodhpkhdanaaP3
namespace Go.Proofs.Ytgekodhpkhdanaa
open Go Go.RowKit
set_option linter.unusedSimpArgs false
set_option linter.unusedVariables false

theorem law1_awake_eq : law1_awake.f = some true := by
  unfold law1_awake.f
  simp only [shape_Spread_eq, shape_May_eq, shape_Index_eq, shape_Strides_eq, obind]
  rw [show spread [3, 1] [2] = ([3, 2], 0) by decide +kernel]
  simp only [obind, if_true]
  rw [shape_Same_eq _ _ (by decide)]
  simp only [obind]
  rw [show may [3, 2] = true by decide +kernel, show index [3, 2] [2, 1] = 5 by decide +kernel, show strides [3, 2] = [2, 1] by decide +kernel]
  simp only [obind, if_true, decide_true]
  rw [ref1_SameInts_eq _ _ (by decide)]
  rfl

end Go.Proofs.Ytgekodhpkhdanaa
