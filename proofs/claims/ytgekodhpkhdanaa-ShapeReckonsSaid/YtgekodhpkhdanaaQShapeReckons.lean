/- The plain law of ShapeReckons. -/
import Derived.Test.YtgekodhpkhdanaaQ1
import Derived.Test.YtgekodhpkhdanaaLShapeReckons
namespace Go.Proofs.Ytgekodhpkhdanaa
open Go Go.RowKit
set_option linter.unusedSimpArgs false
set_option linter.unusedVariables false

theorem law1_ShapeReckons.plain (a b : List Int) (i : Int) : law1_ShapeReckons.f a b i = some true := by
  unfold law1_ShapeReckons.f
  rw [law1_awake_eq, obind, if_pos rfl]
  by_cases ha : 40 < (a.length : Int)
  · rw [if_pos ha]
  rw [if_neg ha]
  by_cases hb : 40 < (b.length : Int)
  · rw [if_pos hb]
  rw [if_neg hb]
  have h1 := strides_len a
  have h2 := place_len a i
  rw [shape_Size_eq, obind, ref1_Size_eq, obind, if_pos rfl, if_pos rfl, shape_May_eq, obind, ref1_May_eq, obind]
  by_cases h : may a = true
  · rw [if_pos h, if_pos h, shape_Strides_eq, obind, ref1_Strides_eq, obind, ref1_SameInts_eq (strides a) _ (by omega), obind, if_pos (by simp), shape_Index_eq, obind, ref1_Index_eq, obind, if_pos rfl,
      shape_Place_eq, obind, ref1_Place_eq, obind, ref1_SameInts_eq (place a i) _ (by omega), obind, if_pos (by simp), shape_Same_eq a b (by omega), obind, ref1_SameInts_eq a b (by omega), obind]
    split <;> rfl
  · rw [if_neg h, if_neg h, shape_Strides_eq, obind, ref1_Strides_eq, obind, ref1_SameInts_eq (strides a) _ (by omega), obind, if_pos (by simp), shape_Index_eq, obind, ref1_Index_eq, obind, if_pos rfl,
      shape_Place_eq, obind, ref1_Place_eq, obind, ref1_SameInts_eq (place a i) _ (by omega), obind, if_pos (by simp), shape_Same_eq a b (by omega), obind, ref1_SameInts_eq a b (by omega), obind]
    split <;> rfl

end Go.Proofs.Ytgekodhpkhdanaa
