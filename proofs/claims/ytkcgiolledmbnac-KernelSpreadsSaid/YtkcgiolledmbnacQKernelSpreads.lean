/- Plain law of KernelSpreads: broadcast, what undoes it, another shape: as the reference does. -/
import Derived.Test.YtkcgiolledmbnacQA4
import Derived.Test.YtkcgiolledmbnacP16
import Derived.Test.YtkcgiolledmbnacP17
import Derived.Test.YtkcgiolledmbnacLKernelSpreads
namespace Go.Proofs.Ytkcgiolledmbnac
open Go Go.RowKit
set_option linter.unusedSimpArgs false

theorem same4 (t : Tensor × Int) (h1 : t.1.Shape.length ≤ 9223372036854775806) (h2 : t.1.Data.length ≤ 9223372036854775806) : law4_same.f t.1 t.2 t.1 t.2 = some true := by
  unfold law4_same.f
  rw [if_pos rfl, ref1_SameTensor_eq _ _ h1 h2, obind, sameT_refl]

theorem law4_KernelSpreads.plain (a : Tensor) (s : List Int) : law4_KernelSpreads.f a s = some true := by
  unfold law4_KernelSpreads.f
  rw [law4_awake_ev, obind, if_pos rfl, law3_Small_ex, obind]
  by_cases c0 : smallP a
  rotate_left
  · rw [if_neg (by simpa using c0)]
  rw [if_pos (by simpa using c0)]
  by_cases c1 : 40 < (s.length : Int)
  · rw [if_pos c1]
  have b1 : (spreadT a s).1.Shape.length ≤ 40 ∧ (spreadT a s).1.Data.length ≤ 4096 := by
    unfold spreadT
    split
    · rename_i h
      have := may_le (into_iff.1 h.2).2.1
      simp; omega
    · simp [noT]
  have b2 : (gatherT a s).1.Shape.length ≤ 40 ∧ (gatherT a s).1.Data.length ≤ 4096 := by
    unfold gatherT
    split
    · rename_i h
      have := may_le (into_iff.1 h.2).1
      simp; omega
    · simp [noT]
  have b3 : (reshapeT a s).1.Shape.length ≤ 40 ∧ (reshapeT a s).1.Data.length ≤ 4096 := by
    unfold reshapeT
    split
    · rename_i h
      have := (tmay_fits h).2.2.2.1
      split
      · split
        · simp; omega
        · simp [noT]
      · simp [noT]
    · simp [noT]
  rw [if_neg c1, kernel_Spread_eq, obind, ref1_SpreadTo_eq, obind, kernel_Gather_eq, obind, ref1_Gather_eq, obind, kernel_Reshape_eq, obind, ref1_Reshape_eq, obind,
    same4 _ (by omega) (by omega), obind, if_pos rfl, same4 _ (by omega) (by omega), obind, if_pos rfl, same4 _ (by omega) (by omega), obind]

end Go.Proofs.Ytkcgiolledmbnac
