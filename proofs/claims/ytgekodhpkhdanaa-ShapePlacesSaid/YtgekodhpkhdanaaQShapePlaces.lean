/- The plain law of ShapePlaces. -/
import Derived.Test.YtgekodhpkhdanaaQ1
import Derived.Test.YtgekodhpkhdanaaLShapePlaces
namespace Go.Proofs.Ytgekodhpkhdanaa
open Go Go.RowKit
set_option linter.unusedSimpArgs false
set_option linter.unusedVariables false

theorem placeAt_get {s : List Int} (i : Int) {q : Nat} (hq : q < s.length) : placeAt s i q = (i / prodL (s.drop (q + 1))) % s[q] := by
  unfold placeAt
  rw [List.getD, List.getElem?_eq_getElem hq]; rfl

theorem horner {s : List Int} (hp : ∀ x ∈ s, 1 ≤ x) (i : Int) {j : Nat} (hj : j < s.length) : i / prodL (s.drop j) * s[j] + placeAt s i j = i / prodL (s.drop (j + 1)) ∧ 0 ≤ placeAt s i j ∧ placeAt s i j < s[j] := by
  have hx := hp s[j] (List.getElem_mem hj)
  have h2 := prodL_pos (drop_pos hp (j + 1))
  rw [placeAt_get i hj]
  refine ⟨?_, Int.emod_nonneg _ (by omega), Int.emod_lt_of_pos _ (by omega)⟩
  have hd : i / prodL (s.drop j) = i / prodL (s.drop (j + 1)) / s[j] := by
    rw [Int.ediv_ediv_of_nonneg (by omega), drop_at hj, prodL_cons, Int.mul_comm]
  rw [hd, Int.mul_comm]
  exact Int.mul_ediv_add_emod _ _

theorem drop_fill {n : Nat} {f : Nat → Int} {j : Nat} (h : j < n) : (fillN n 0 f).drop j = f j :: (fillN n 0 f).drop (j + 1) := by
  rw [drop_at (by simpa using h), fillN_get, if_pos (Nat.zero_le _)]

theorem idxGo_place {s : List Int} (hp : ∀ x ∈ s, 1 ≤ x) (i : Int) : ∀ (k j : Nat), k + j = s.length → idxGo (s.drop j) ((fillN s.length 0 (placeAt s i)).drop j) (i / prodL (s.drop j)) = some i
  | 0, j, h => by
    have hj : j = s.length := by omega
    subst hj
    rw [List.drop_length, show (fillN s.length 0 (placeAt s i)).drop s.length = [] from List.drop_of_length_le (by simp)]
    simp [idxGo, prodL]
  | k + 1, j, h => by
    have hj : j < s.length := by omega
    obtain ⟨h1, h2, h3⟩ := horner hp i hj
    have ih := idxGo_place hp i k (j + 1) (by omega)
    rw [drop_fill hj]
    conv => lhs; arg 1; rw [drop_at hj]
    rw [idxGo_cons, if_neg (by omega), if_neg (by omega), h1]
    exact ih

theorem index_place {s : List Int} {i : Int} (hm : may s = true) (h0 : 0 ≤ i) (h1 : i < prodL s) : index s (place s i) = i := by
  have ep : place s i = fillN s.length 0 (placeAt s i) := by unfold place; rw [if_pos ⟨hm, h0, h1⟩]
  unfold index
  rw [ep, if_pos ⟨hm, by simp⟩]
  have := idxGo_place (may_pos hm) i s.length 0 (by omega)
  rw [List.drop_zero, List.drop_zero, Int.ediv_eq_zero_of_lt h0 h1] at this
  rw [this]; rfl

theorem sum_loop {s : List Int} {i : Int} (hm : may s = true) (h0 : 0 ≤ i) (h1 : i < prodL s) : ∃ r, loop (law1_ShapePlaces.l1 (place s i) (strides s)) (0, 0) = some r ∧ r.1 = i := by
  have h4 := may_len hm
  have hp := may_pos hm
  have hle := may_le hm
  have ep : place s i = fillN s.length 0 (placeAt s i) := by unfold place; rw [if_pos ⟨hm, h0, h1⟩]
  have es : strides s = fillN s.length 0 (fun q => prodL (s.drop (q + 1))) := by unfold strides; rw [if_pos hm]
  refine loop_ex (fun (r : Int × Int) => r.1 = i) (fun k st => ∃ j : Nat, k + j = s.length ∧ st = (i / prodL (s.drop j) * prodL (s.drop j), (j : Int))) ?_ s.length _ ⟨0, rfl, by rw [List.drop_zero, Int.ediv_eq_zero_of_lt h0 h1, Int.zero_mul]; rfl⟩
  rintro k _ ⟨j, hk, rfl⟩
  unfold law1_ShapePlaces.l1
  rw [ep, es]
  simp only [fillN_length]
  by_cases hj : j < s.length
  · right
    obtain ⟨e1, e2, e3⟩ := horner hp i hj
    have hP := prodL_pos (drop_pos hp (j + 1))
    have hP0 := prodL_pos (drop_pos hp j)
    have g1 : rd (fillN s.length 0 (placeAt s i)) (j : Int) = placeAt s i j := by rw [rd_nat _ j (by simpa using hj), fillN_get, if_pos (Nat.zero_le _)]
    have g2 : rd (fillN s.length 0 (fun q => prodL (s.drop (q + 1)))) (j : Int) = prodL (s.drop (j + 1)) := by rw [rd_nat _ j (by simpa using hj), fillN_get, if_pos (Nat.zero_le _)]
    have e4 : i / prodL (s.drop j) * prodL (s.drop j) + placeAt s i j * prodL (s.drop (j + 1)) = i / prodL (s.drop (j + 1)) * prodL (s.drop (j + 1)) := by
      rw [← e1, Int.add_mul]
      conv => lhs; arg 1; arg 2; rw [drop_at hj, prodL_cons]
      rw [Int.mul_assoc]
    have b1 : i / prodL (s.drop (j + 1)) * prodL (s.drop (j + 1)) ≤ i := Int.ediv_mul_le _ (by omega)
    have b2 : 0 ≤ i / prodL (s.drop j) * prodL (s.drop j) := Int.mul_nonneg (Int.ediv_nonneg h0 (by omega)) (by omega)
    have b3 : 0 ≤ placeAt s i j * prodL (s.drop (j + 1)) := Int.mul_nonneg e2 (by omega)
    rw [if_pos (by omega), if_pos (by omega), if_pos (by omega), g1, g2]
    refine ⟨_, k - 1, rfl, by omega, j + 1, by omega, ?_⟩
    rw [w64_id (x := placeAt s i j * _) (by omega) (by omega), e4, w64_id (by omega) (by omega), w64_id (by omega) (by omega)]
    rfl
  · left
    have hz : j = s.length := by omega
    subst hz
    rw [if_neg (by omega)]
    exact ⟨_, rfl, by simp [prodL]⟩

theorem law1_ShapePlaces.plain (s : List Int) : law1_ShapePlaces.f s = some true := by
  unfold law1_ShapePlaces.f
  rw [law1_awake_eq, obind, if_pos rfl]
  by_cases g1 : 40 < (s.length : Int)
  · rw [if_pos g1]
  rw [if_neg g1, shape_Size_eq, obind]
  by_cases hm : may s = true
  · have hs := size_may hm
    have hle := may_le hm
    have hp := prodL_pos (may_pos hm)
    rw [hs]
    simp only
    rw [if_pos trivial, shape_Strides_eq, obind]
    have key : loop (law1_ShapePlaces.l0 (prodL s, 0) s (strides s)) 0 = some (.go (prodL s)) := by
      refine loop_to _ (fun k st => ∃ j : Nat, (k : Int) + j = prodL s ∧ st = (j : Int)) ?_ (prodL s).toNat _ ⟨0, by omega, rfl⟩
      rintro k _ ⟨j, hk, rfl⟩
      unfold law1_ShapePlaces.l0
      simp only
      by_cases hj : (j : Int) < prodL s
      · right
        obtain ⟨r, hr1, hr2⟩ := sum_loop hm (by omega : 0 ≤ (j : Int)) hj
        have hl : (place s j).length = s.length := by unfold place; rw [if_pos ⟨hm, by omega, hj⟩]; simp
        rw [if_pos hj, shape_Place_eq]
        simp only [bindS]
        rw [shape_Index_eq]
        simp only
        rw [index_place hm (by omega) hj, if_pos rfl, if_pos (by omega), hr1]
        simp only
        rw [if_pos hr2]
        exact ⟨_, k - 1, rfl, by omega, j + 1, by omega, by rw [w64_id (by omega) (by omega)]; rfl⟩
      · left
        rw [if_neg hj]
        congr 2
        omega
    rw [key, obind]
    simp only [Out2.on]
    rw [shape_Place_eq, obind]
    have e1 : place s (prodL s) = [] := by unfold place; rw [if_neg (by omega)]
    have e2 : place s (-1) = [] := by unfold place; rw [if_neg (by omega)]
    rw [e1, if_pos (by simp), shape_Place_eq, obind, e2, if_pos (by simp)]
  · have hn : ¬ (size s).2 = 0 := by unfold may at hm; simpa using hm
    rw [if_neg hn]
    have : (size s).1 = 0 := by
      unfold size at hn ⊢
      split
      · rfl
      · rename_i h1
        rw [if_neg h1] at hn
        split
        · rfl
        · rename_i h2
          rw [if_neg h2] at hn
          rcases sizeGo_or s 1 with ⟨m, h⟩ | h
          · rw [h] at hn; exact absurd rfl hn
          · rw [h]
    rw [if_pos this]

end Go.Proofs.Ytgekodhpkhdanaa
