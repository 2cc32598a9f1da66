/- The plain law of ShapeSpreads. -/
import Derived.Test.YtgekodhpkhdanaaQ1
import Derived.Test.YtgekodhpkhdanaaLShapeSpreads
namespace Go.Proofs.Ytgekodhpkhdanaa
open Go Go.RowKit
set_option linter.unusedSimpArgs false
set_option linter.unusedVariables false

theorem law1_ShapeSpreads.plain (a b : List Int) : law1_ShapeSpreads.f a b = some true := by
  unfold law1_ShapeSpreads.f
  rw [law1_awake_eq, obind, if_pos rfl]
  split
  · rfl
  split
  · rfl
  have h1 := spread_len a b
  have h2 := spread_len b a
  simp only [shape_Spread_eq, ref1_Spread_eq, obind, spread_comm b a, if_true]
  rw [ref1_SameInts_eq _ _ (by omega)]
  simp only [obind, decide_true, if_true, shape_Into_eq, ref1_Into_eq]
  split <;> rfl

end Go.Proofs.Ytgekodhpkhdanaa
