/- The plain law of ShapeOnes. -/
import Derived.Test.YtgekodhpkhdanaaQShapeThree
import Derived.Test.YtgekodhpkhdanaaLShapeOnes
namespace Go.Proofs.Ytgekodhpkhdanaa
open Go Go.RowKit
set_option linter.unusedSimpArgs false
set_option linter.unusedVariables false

theorem size_one (s : List Int) (h : s.length < 4) : size (1 :: s) = size s := by
  unfold size
  rw [if_neg (by simp; omega : ¬ 4 < (1 :: s).length), if_neg (by omega : ¬ 4 < s.length)]
  have ha : (1 :: s).any (fun x => decide (x < 1)) = s.any (fun x => decide (x < 1)) := by simp
  have hg : sizeGo (1 :: s) 1 = sizeGo s 1 := by rw [sizeGo_cons, if_neg (by decide), show (1 : Int) * 1 = 1 by decide]
  rw [ha, hg]

theorem may_one (s : List Int) (h : s.length < 4) : may (1 :: s) = may s := by unfold may; rw [size_one s h]

theorem nm_one (s : List Int) (k : Nat) : nm (1 :: s) k = nm s k := by
  unfold nm
  by_cases h : k < s.length
  · rw [dif_pos (by simp; omega), dif_pos h]
    have : (1 :: s).length - 1 - k = (s.length - 1 - k) + 1 := by simp; omega
    simp only [this, List.getElem_cons_succ]
  · rw [dif_neg h]
    by_cases h2 : k < (1 :: s).length
    · rw [dif_pos h2]
      have : (1 :: s).length - 1 - k = 0 := by simp at h2 ⊢; omega
      simp only [this, List.getElem_cons_zero]
    · rw [dif_neg h2]

theorem outN_succ (n : Nat) (f : Nat → Int) : outN (n + 1) f = f n :: outN n f := by
  apply List.ext_getElem
  · simp
  · intro i h1 h2
    rw [outN_get]
    cases i with
    | zero => simp
    | succ i =>
      rw [List.getElem_cons_succ, outN_get]
      congr 1
      omega

theorem law1_ShapeOnes.plain (s t : List Int) : law1_ShapeOnes.f s t = some true := by
  unfold law1_ShapeOnes.f
  rw [law1_awake_eq, obind, if_pos rfl]
  by_cases g1 : 4 ≤ (s.length : Int)
  · rw [if_pos g1]
  rw [if_neg g1]
  by_cases g2 : 40 < (t.length : Int)
  · rw [if_pos g2]
  have hl : s.length < 4 := by omega
  rw [if_neg g2, if_pos (by omega), List.singleton_append, shape_Size_eq, obind, shape_Size_eq, obind, size_one s hl, if_pos rfl, if_pos rfl, shape_Spread_eq, obind, shape_Spread_eq, obind]
  have hmx : mx (1 :: s) t = mx s t := by funext k; unfold mx; rw [nm_one]
  have hfit : fitAt (1 :: s) t = fitAt s t := by funext k; unfold fitAt; rw [nm_one]
  have hfits : fits (1 :: s) t = fits s t := by
    rw [Bool.eq_iff_iff]
    constructor
    · intro h; exact fits_iff.2 fun k _ => by rw [← hfit]; exact fits_all h k
    · intro h; exact fits_iff.2 fun k _ => by rw [hfit]; exact fits_all h k
  have hone := spread_len (1 :: s) t
  have hlen := spread_len s t
  by_cases hc : may s = true ∧ may t = true ∧ fits s t = true
  · have e1 := spread_mk hc.1 hc.2.1 hc.2.2
    have e2 : spread (1 :: s) t = sealOut (outN (max (s.length + 1) t.length) (mx s t)) := by
      rw [spread_mk (by rw [may_one s hl]; exact hc.1) hc.2.1 (by rw [hfits]; exact hc.2.2), hmx]; rfl
    by_cases ht : t.length ≤ s.length
    · have e3 : outN (max (s.length + 1) t.length) (mx s t) = 1 :: outN (max s.length t.length) (mx s t) := by
        rw [show max (s.length + 1) t.length = max s.length t.length + 1 by omega, outN_succ, mx_beyond (Nat.le_refl _)]
      have e4 : size (1 :: outN (max s.length t.length) (mx s t)) = size (outN (max s.length t.length) (mx s t)) := size_one _ (by simp; omega)
      have hq : (spread s t).2 = (spread (1 :: s) t).2 := by
        rw [e1, e2, e3]
        unfold sealOut
        rw [e4]
        split <;> rfl
      rw [if_pos hq, if_pos (by omega), shape_Into_eq, obind, if_neg]
      intro h
      have h := of_decide_eq_true h
      have h5 : (spread (1 :: s) t).1.length = max (s.length + 1) t.length := by
        have := h.1
        rw [e2] at this ⊢
        unfold sealOut at this ⊢
        split
        · simp
        · rename_i hz; rw [if_neg hz] at this; exact absurd this hz
      rw [h.2] at h5
      omega
    · have e3 : spread (1 :: s) t = spread s t := by rw [e1, e2, show max (s.length + 1) t.length = max s.length t.length by omega]
      rw [e3, if_pos rfl, if_neg (by omega), shape_Same_eq _ _ (by omega), obind, if_pos (by simp), shape_Into_eq, obind, e3]
      split
      · rename_i h; rw [shape_Into_eq, obind, h]
      · rfl
  · have e1 : spread s t = ([], 2) := by unfold spread; rw [if_neg hc]
    have e2 : spread (1 :: s) t = ([], 2) := by unfold spread; rw [may_one s hl, hfits, if_neg hc]
    rw [e1, e2, if_pos rfl, shape_Into_eq, e2]
    simp only [obind]
    rw [shape_Same_eq _ _ (by simp)]
    simp [obind]

end Go.Proofs.Ytgekodhpkhdanaa
