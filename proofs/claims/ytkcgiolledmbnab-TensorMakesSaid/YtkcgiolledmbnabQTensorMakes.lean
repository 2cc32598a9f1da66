/- Plain law of TensorMakes. -/
import Derived.Test.YtkcgiolledmbnabQA3
import Derived.Test.YtkcgiolledmbnabP11
import Derived.Test.YtkcgiolledmbnabLTensorMakes
namespace Go.Proofs.Ytkcgiolledmbnab
open Go Go.RowKit
set_option linter.unusedSimpArgs false

theorem newT_small (s : List Int) (x : Nat) : (newT s x).1.Shape.length ≤ 4 ∧ (newT s x).1.Data.length ≤ 4096 := by
  unfold newT
  split
  · rename_i h
    obtain ⟨h1, h2, h3, _⟩ := size_fits h
    simp; omega
  · simp

theorem law3_TensorMakes.plain (s : List Int) (x : Nat) (d : List Nat) : law3_TensorMakes.f s x d = some true := by
  unfold law3_TensorMakes.f
  rw [law3_awake_ev, obind, if_pos rfl]
  by_cases c1 : 40 < (s.length : Int)
  · rw [if_pos c1]
  rw [if_neg c1]
  by_cases c2 : 8192 < (d.length : Int)
  · rw [if_pos c2]
  have hn := newT_small s x
  rw [if_neg c2, tensor_New_eq, obind, ref1_New_eq, obind, tensor_Of_eq, obind, if_pos rfl, ref1_SameTensor_eq _ _ (by omega) (by omega), obind, sameT_refl, if_pos rfl, ref1_Size_eq, obind]
  by_cases h : (size s).2 = 0
  · rw [if_pos h]
    by_cases hd : (size s).1 = (d.length : Int)
    · have e : ofT s d = (⟨s, d⟩, 0) := by unfold ofT; rw [if_pos h, if_pos hd.symm]
      rw [if_pos hd, e, if_pos rfl, ref1_SameTensor_eq _ _ (by simp only; omega) (by simp only; omega), obind, sameT_refl]
    · have e : ofT s d = (noT, 1) := by unfold ofT; rw [if_pos h, if_neg (fun c => hd c.symm)]
      rw [if_neg hd, e, if_pos rfl, if_pos (by simp [noT])]
  · have e : ofT s d = (noT, (size s).2) := by unfold ofT; rw [if_neg h]
    rw [if_neg h, e, if_pos rfl]

end Go.Proofs.Ytkcgiolledmbnab
