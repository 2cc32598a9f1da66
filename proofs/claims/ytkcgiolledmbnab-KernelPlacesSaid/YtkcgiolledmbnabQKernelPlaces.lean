/- Plain law of KernelPlaces: each number of what comes of two is that of the two that fall on its place. -/
import Derived.Test.YtkcgiolledmbnabQA4
import Derived.Test.YtkcgiolledmbnabP16
import Derived.Test.YtkcgiolledmbnabP14
import Derived.Test.YtkcgiolledmbnabP11
import Derived.Test.YtkcgiolledmbnabLKernelPlaces
namespace Go.Proofs.Ytkcgiolledmbnab
open Go Go.RowKit
set_option linter.unusedSimpArgs false

theorem law4_KernelPlaces.plain (a b : Tensor) : law4_KernelPlaces.f a b = some true := by
  unfold law4_KernelPlaces.f
  rw [law4_awake_ev, obind, if_pos rfl, law3_Small_ex, obind]
  by_cases c0 : smallP a
  rotate_left
  · rw [if_neg (by simpa using c0)]
  rw [if_pos (by simpa using c0), law3_Small_ex, obind]
  by_cases c1 : smallP b
  rotate_left
  · rw [if_neg (by simpa using c1)]
  rw [if_pos (by simpa using c1), kernel_Two_eq, obind]
  by_cases he : (twoT 4 a b).2 = 0
  · have key : tmay a = true ∧ tmay b = true ∧ (spread a.Shape b.Shape).2 = 0 ∧ twoT 4 a b = (⟨(spread a.Shape b.Shape).1, twoD 4 a b (spread a.Shape b.Shape).1⟩, 0) := by
      unfold twoT at he ⊢
      rw [if_pos (by decide)] at he ⊢
      split at he
      · rename_i h1
        split at he
        · rename_i h2
          rw [if_pos h1, if_pos h2]
          exact ⟨h1.1, h1.2, h2, rfl⟩
        · rename_i h2; exact absurd he h2
      · simp at he
    obtain ⟨k1, k2, k3, k4⟩ := key
    have s1 := spread_sub k3
    have s2 := spread_sub' k3
    rw [if_pos he, kernel_Spread_eq, obind, kernel_Spread_eq, obind, k4]
    simp only
    generalize (spread a.Shape b.Shape).1 = s at s1 s2
    have e1 : spreadT a s = (⟨s, (List.range (prodL s).toNat).map (pick a s)⟩, 0) := by unfold spreadT; rw [if_pos ⟨k1, into_iff.2 s1⟩]
    have e2 : spreadT b s = (⟨s, (List.range (prodL s).toNat).map (pick b s)⟩, 0) := by unfold spreadT; rw [if_pos ⟨k2, into_iff.2 s2⟩]
    have hle := may_le s1.2.1
    rw [e1, e2, if_pos rfl, if_pos rfl, if_pos (by simp [twoD]), if_pos (by simp [twoD])]
    generalize hn : (prodL s).toNat = n at *
    rw [same_loop n (by omega) (fun j hj => ?_) ?_, obind]; rfl
    · unfold law4_KernelPlaces.l0
      simp only [twoD, List.length_map, List.length_range, hn]
      rw [if_neg (by omega)]
    · unfold law4_KernelPlaces.l0
      simp only [twoD, List.length_map, List.length_range, hn]
      rw [if_pos (by omega), if_pos (by omega), rd_nat _ j (by simp; omega), rd_nat _ j (by simp; omega), rd_nat _ j (by simp; omega), ref1_Same_eq]
      simp [bindS, opF, hj]
  · rw [if_neg he]
    have : (twoT 4 a b).1.Data.length = 0 := by
      unfold twoT at he ⊢
      rw [if_pos (by decide)] at he ⊢
      split
      · rename_i h1
        rw [if_pos h1] at he
        split
        · rename_i h2; rw [if_pos h2] at he; exact absurd rfl he
        · rfl
      · rfl
    rw [if_pos (by omega)]

end Go.Proofs.Ytkcgiolledmbnab
