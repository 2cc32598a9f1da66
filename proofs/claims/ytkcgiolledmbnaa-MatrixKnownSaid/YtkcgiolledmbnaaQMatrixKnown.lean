/- The plain law of MatrixKnown. -/
import Derived.Test.YtkcgiolledmbnaaQ5
import Derived.Test.YtkcgiolledmbnaaLMatrixKnown
namespace Go.Proofs.Ytkcgiolledmbnaa
open Go Go.RowKit
set_option linter.unusedSimpArgs false
set_option linter.unusedVariables false

theorem known_of (r n : Int) (d : List Nat) : law5_MatrixKnown_1.f r n d = some ⟨[r, n], d⟩ := rfl

theorem law5_MatrixKnown.plain : law5_MatrixKnown.f = some true := by
  unfold law5_MatrixKnown.f
  rw [law5_awake_eq, obind, if_pos rfl]
  simp only [known_of, obind, matrix_Mul_eq, matrix_Turn_eq, matrix_Sum_eq, ref1_New_eq]
  have e1 : mulT ⟨[2, 2], [4607182418800017408, 4611686018427387904, 4613937818241073152, 4616189618054758400]⟩ ⟨[2, 2], [4617315517961601024, 4618441417868443648, 4619567317775286272, 4620693217682128896]⟩ = (⟨[2, 2], [4626041242239631360, 4626885667169763328, 4631248529308778496, 4632233691727265792]⟩, 0) := by kernel_rfl
  have e2 : mulT ⟨[1, 2], [4607182418800017408, 4611686018427387904]⟩ ⟨[1, 2], [4607182418800017408, 4611686018427387904]⟩ = (⟨[], []⟩, 2) := by kernel_rfl
  have e3 : mulT ⟨[2], [4607182418800017408, 4611686018427387904]⟩ ⟨[2, 1], [4607182418800017408, 4611686018427387904]⟩ = (⟨[], []⟩, 2) := by kernel_rfl
  have e4 : mulT (newT [100, 1] 4607182418800017408).1 (newT [1, 100] 4607182418800017408).1 = (⟨[], []⟩, 3) := by kernel_rfl
  have e5 : turnT ⟨[2, 3], [4607182418800017408, 4611686018427387904, 4613937818241073152, 4616189618054758400, 4617315517961601024, 4618441417868443648]⟩ = (⟨[3, 2], [4607182418800017408, 4616189618054758400, 4611686018427387904, 4617315517961601024, 4613937818241073152, 4618441417868443648]⟩, 0) := by kernel_rfl
  have e6 : turnT ⟨[1], [4607182418800017408]⟩ = (⟨[], []⟩, 2) := by kernel_rfl
  have e7 : sumT ⟨[], [4616189618054758400]⟩ = (⟨[1], [4616189618054758400]⟩, 0) := by kernel_rfl
  rw [e1, e2, e3, e4, e5, e6, e7]
  have s1 : smallT ⟨[2, 2], [4626041242239631360, 4626885667169763328, 4631248529308778496, 4632233691727265792]⟩ := ⟨by simp, by simp⟩
  have s2 : smallT ⟨[3, 2], [4607182418800017408, 4616189618054758400, 4611686018427387904, 4617315517961601024, 4613937818241073152, 4618441417868443648]⟩ := ⟨by simp, by simp⟩
  have s3 : smallT ⟨[1], [4616189618054758400]⟩ := ⟨by simp, by simp⟩
  simp only [same_refl s1, same_refl s2, same_refl s3, obind, if_true]

end Go.Proofs.Ytkcgiolledmbnaa
