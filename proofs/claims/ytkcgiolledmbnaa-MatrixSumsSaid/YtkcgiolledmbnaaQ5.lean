/- Plain laws of layer 5: the document's example. -/
import Derived.Test.YtkcgiolledmbnaaP6
namespace Go.Proofs.Ytkcgiolledmbnaa
open Go Go.RowKit
set_option linter.unusedSimpArgs false
set_option linter.unusedVariables false

theorem law5_awake_eq : law5_awake.f = some true := by
  unfold law5_awake.f
  rw [matrix_Mul_eq, obind]
  have e : mulT ⟨[1, 2], [4607182418800017408, 4611686018427387904]⟩ ⟨[2, 1], [4613937818241073152, 4616189618054758400]⟩ = (⟨[1, 1], [4622382067542392832]⟩, 0) := by kernel_rfl
  rw [e]
  have e2 : feq 4622382067542392832 4622382067542392832 = true := by kernel_rfl
  rw [if_pos rfl, if_pos (by simp), if_pos (by simp)]
  exact if_pos e2

theorem law3_Small_eq (t : Tensor) : law3_Small.f t = some (decide (t.Shape.length ≤ 40 ∧ t.Data.length ≤ 8192)) := by
  unfold law3_Small.f
  by_cases h1 : t.Shape.length ≤ 40
  · rw [if_pos (by omega)]
    by_cases h2 : t.Data.length ≤ 8192
    · rw [if_pos (by omega), decide_eq_true ⟨h1, h2⟩]
    · rw [if_neg (by omega), decide_eq_false (fun c => h2 c.2)]
  · rw [if_neg (by omega), decide_eq_false (fun c => h1 c.1)]

/-- what comes of an operation is small enough to be held against another -/
def smallT (t : Tensor) : Prop := t.Shape.length ≤ 4096 ∧ t.Data.length ≤ 4096

theorem mulT_small (a b : Tensor) : smallT (mulT a b).1 := by
  unfold mulT
  split
  · rename_i h
    split
    · rename_i hs
      obtain ⟨k1, k2, _, k4⟩ := size_fits hs
      refine ⟨by simp, ?_⟩
      obtain ⟨r, n, sa, r1, n1, la, ba⟩ := two_dims h.1 h.2.2.1
      obtain ⟨m, c, sb, m1, c1, lb, bb⟩ := two_dims h.2.1 h.2.2.2.1
      have ea0 : rd a.Shape 0 = r := by rw [sa]; rfl
      have eb1 : rd b.Shape 1 = c := by rw [sb]; rfl
      rw [ea0, eb1] at k2 k4
      have e : prodL [(r : Int), (c : Int)] = ((r * c : Nat) : Int) := by simp [prodL]
      simp only [mulData, List.length_map, List.length_range, ea0, eb1, Int.toNat_natCast]
      omega
    · exact ⟨by simp, by simp⟩
  · exact ⟨by simp, by simp⟩

theorem turnT_small (a : Tensor) : smallT (turnT a).1 := by
  unfold turnT
  split
  · rename_i h
    refine ⟨by simp, ?_⟩
    obtain ⟨r, n, sa, r1, n1, la, ba⟩ := two_dims h.1 h.2
    have ea0 : rd a.Shape 0 = r := by rw [sa]; rfl
    have ea1 : rd a.Shape 1 = n := by rw [sa]; rfl
    simp only [turnData, List.length_map, List.length_range, ea0, ea1, Int.toNat_natCast]
    rw [Nat.mul_comm]; exact ba
  · exact ⟨by simp, by simp⟩

theorem sumT_small (a : Tensor) : smallT (sumT a).1 := by
  unfold sumT
  split
  · exact ⟨by simp, by simp⟩
  · exact ⟨by simp, by simp⟩

theorem same_refl {t : Tensor} (h : smallT t) : ref1_SameTensor.f t t = some true := by
  rw [ref1_SameTensor_eq _ _ (by have := h.1; omega) (by have := h.2; omega), sameT_refl]

end Go.Proofs.Ytkcgiolledmbnaa
