/- The plain law of MatrixMuls. -/
import Derived.Test.YtkcgiolledmbnaaQ5
import Derived.Test.YtkcgiolledmbnaaLMatrixMuls
namespace Go.Proofs.Ytkcgiolledmbnaa
open Go Go.RowKit
set_option linter.unusedSimpArgs false
set_option linter.unusedVariables false

theorem law5_same_eq {t : Tensor} {e : Int} (h : smallT t) : law5_same.f t e t e = some true := by
  unfold law5_same.f
  rw [if_pos rfl, same_refl h, obind]

theorem law5_MatrixMuls.plain (a b : Tensor) : law5_MatrixMuls.f a b = some true := by
  unfold law5_MatrixMuls.f
  rw [law5_awake_eq, obind, if_pos rfl, law3_Small_eq, obind]
  by_cases h1 : decide (a.Shape.length ≤ 40 ∧ a.Data.length ≤ 8192) = true
  · rw [if_pos h1, law3_Small_eq, obind]
    by_cases h2 : decide (b.Shape.length ≤ 40 ∧ b.Data.length ≤ 8192) = true
    · rw [if_pos h2, matrix_Mul_eq, obind, ref1_Matmul_eq, obind, matrix_Turn_eq, obind, ref1_Turn_eq, obind, matrix_Sum_eq, obind, ref1_Sum_eq, obind, law5_same_eq (mulT_small a b), obind, if_pos rfl, law5_same_eq (turnT_small a), obind, if_pos rfl, law5_same_eq (sumT_small a), obind]
    · rw [if_neg h2]
  · rw [if_neg h1]

end Go.Proofs.Ytkcgiolledmbnaa
