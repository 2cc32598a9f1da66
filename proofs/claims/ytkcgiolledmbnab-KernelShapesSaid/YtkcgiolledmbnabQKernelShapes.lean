/- Plain law of KernelShapes: reshaped there and back. -/
import Derived.Test.YtkcgiolledmbnabQA4
import Derived.Test.YtkcgiolledmbnabP9
import Derived.Test.YtkcgiolledmbnabLKernelShapes
namespace Go.Proofs.Ytkcgiolledmbnab
open Go Go.RowKit
set_option linter.unusedSimpArgs false

theorem reshape_small (a : Tensor) (s : List Int) : (reshapeT a s).1.Shape.length ≤ 4 ∧ (reshapeT a s).1.Data.length ≤ 4096 := by
  unfold reshapeT
  split
  · rename_i ha
    split
    · rename_i hs
      split
      · obtain ⟨_, _, h3, _⟩ := size_fits hs
        have := (tmay_fits ha).2.2.2.1
        exact ⟨h3, this⟩
      · simp [noT]
    · simp [noT]
  · simp [noT]

theorem law4_KernelShapes.plain (a : Tensor) (s t : List Int) : law4_KernelShapes.f a s t = some true := by
  unfold law4_KernelShapes.f
  rw [law4_awake_ev, obind, if_pos rfl, law3_Small_ex, obind]
  by_cases c0 : smallP a
  rotate_left
  · rw [if_neg (by simpa using c0)]
  rw [if_pos (by simpa using c0)]
  by_cases c1 : 40 < (s.length : Int)
  · rw [if_pos c1]
  rw [if_neg c1]
  by_cases c2 : 40 < (t.length : Int)
  · rw [if_pos c2]
  rw [if_neg c2, kernel_Reshape_eq, obind]
  by_cases he : (reshapeT a s).2 = 0
  · have key : tmay a = true ∧ (size s).2 = 0 ∧ (size s).1 = (a.Data.length : Int) ∧ reshapeT a s = (⟨s, a.Data⟩, 0) := by
      unfold reshapeT at he ⊢
      split at he
      · rename_i h1
        split at he
        · rename_i h2
          split at he
          · rename_i h3
            rw [if_pos h1, if_pos h2, if_pos h3]
            exact ⟨h1, h2, h3, rfl⟩
          · simp at he
        · rename_i h2; exact absurd he h2
      · simp at he
    obtain ⟨k1, k2, k3, k4⟩ := key
    have hb : tmay ⟨s, a.Data⟩ = true := by unfold tmay; simp [k2, k3]
    have ha := of_decide_eq_true k1
    have h1 : reshapeT ⟨s, a.Data⟩ a.Shape = (a, 0) := by
      unfold reshapeT
      rw [if_pos hb, if_pos ha.1, if_pos ha.2]
    have h2 : reshapeT ⟨s, a.Data⟩ t = reshapeT a t := by
      unfold reshapeT
      rw [if_pos hb, if_pos k1]
    have hs := reshape_small a t
    have hm := tmay_fits k1
    rw [if_pos he, kernel_Reshape_eq, obind, kernel_Reshape_eq, obind, kernel_Reshape_eq, obind, k4]
    simp only
    rw [h1, h2, if_pos rfl, ref1_SameTensor_eq _ _ (by simp only; omega) (by simp only; omega), obind, sameT_refl, if_pos rfl, if_pos rfl, ref1_SameTensor_eq _ _ (by omega) (by omega), obind, sameT_refl]
  · rw [if_neg he]
    have : (reshapeT a s).1.Data.length = 0 := by
      unfold reshapeT at he ⊢
      split
      · rename_i h1
        rw [if_pos h1] at he
        split
        · rename_i h2
          rw [if_pos h2] at he
          split
          · rename_i h3; rw [if_pos h3] at he; exact absurd rfl he
          · rfl
        · rfl
      · rfl
    rw [if_pos (by omega)]

end Go.Proofs.Ytkcgiolledmbnab
