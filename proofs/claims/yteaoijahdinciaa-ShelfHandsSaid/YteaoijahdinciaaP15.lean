/- Plain laws, part 15: the document's operators on two. -/
import Derived.Test.YteaoijahdinciaaP14
namespace Go.Proofs.Yteaoijahdinciaa
open Go Go.RowKit
set_option linter.unusedSimpArgs false
set_option linter.unusedVariables false

theorem placeAt_get {s : List Int} (i : Int) {q : Nat} (hq : q < s.length) : placeAt s i q = (i / prodL (s.drop (q + 1))) % s[q] := by
  unfold placeAt
  rw [List.getD, List.getElem?_eq_getElem hq]; rfl

theorem horner {s : List Int} (hp : ∀ x ∈ s, 1 ≤ x) (i : Int) {j : Nat} (hj : j < s.length) : i / prodL (s.drop j) * s[j] + placeAt s i j = i / prodL (s.drop (j + 1)) ∧ 0 ≤ placeAt s i j ∧ placeAt s i j < s[j] := by
  have hx := hp s[j] (List.getElem_mem hj)
  have h2 := prodL_pos (drop_pos hp (j + 1))
  rw [placeAt_get i hj]
  refine ⟨?_, Int.emod_nonneg _ (by omega), Int.emod_lt_of_pos _ (by omega)⟩
  have hd : i / prodL (s.drop j) = i / prodL (s.drop (j + 1)) / s[j] := by
    rw [Int.ediv_ediv_of_nonneg (by omega), drop_at hj, prodL_cons, Int.mul_comm]
  rw [hd, Int.mul_comm]
  exact Int.mul_ediv_add_emod _ _

theorem drop_fill {n : Nat} {f : Nat → Int} {j : Nat} (h : j < n) : (fillN n 0 f).drop j = f j :: (fillN n 0 f).drop (j + 1) := by
  rw [drop_at (by simpa using h), fillN_get, if_pos (Nat.zero_le _)]

theorem idxGo_place {s : List Int} (hp : ∀ x ∈ s, 1 ≤ x) (i : Int) : ∀ (k j : Nat), k + j = s.length → idxGo (s.drop j) ((fillN s.length 0 (placeAt s i)).drop j) (i / prodL (s.drop j)) = some i
  | 0, j, h => by
    have hj : j = s.length := by omega
    subst hj
    rw [List.drop_length, show (fillN s.length 0 (placeAt s i)).drop s.length = [] from List.drop_of_length_le (by simp)]
    simp [idxGo, prodL]
  | k + 1, j, h => by
    have hj : j < s.length := by omega
    obtain ⟨h1, h2, h3⟩ := horner hp i hj
    have ih := idxGo_place hp i k (j + 1) (by omega)
    rw [drop_fill hj]
    conv => lhs; arg 1; rw [drop_at hj]
    rw [idxGo_cons, if_neg (by omega), if_neg (by omega), h1]
    exact ih

theorem index_place {s : List Int} {i : Int} (hm : may s = true) (h0 : 0 ≤ i) (h1 : i < prodL s) : index s (place s i) = i := by
  have ep : place s i = fillN s.length 0 (placeAt s i) := by unfold place; rw [if_pos ⟨hm, h0, h1⟩]
  unfold index
  rw [ep, if_pos ⟨hm, by simp⟩]
  have := idxGo_place (may_pos hm) i s.length 0 (by omega)
  rw [List.drop_zero, List.drop_zero, Int.ediv_eq_zero_of_lt h0 h1] at this
  rw [this]; rfl


theorem under_self {s : List Int} {i : Int} (hm : may s = true) (h0 : 0 ≤ i) (h1 : i < prodL s) : under s (place s i) = i := by
  obtain ⟨p1, p2⟩ := place_in hm h0 h1
  have e : maskP s (place s i) = place s i := by
    apply List.ext_getElem
    · simp [maskP, p1]
    · intro q h2 h3
      have hq : q < s.length := by omega
      simp only [maskP, List.getElem_map, List.getElem_range]
      unfold maskF
      rw [getD_get s 0 q hq, p1, Nat.sub_self, Nat.zero_add, getD_get _ _ _ h3]
      have := p2 q hq h3
      split <;> omega
  unfold under
  rw [e, index_place hm h0 h1]

theorem pick_self {a : Tensor} (ha : tmay a = true) (i : Nat) (h : i < a.Data.length) : pick a a.Shape i = a.Data.getD i 0 := by
  obtain ⟨hm, _, hd, _, _⟩ := tmay_fits ha
  unfold pick
  rw [under_self hm (by omega) (by omega), Int.toNat_natCast]

theorem sub_self {s : List Int} (h : may s = true) : Sub s s := ⟨h, h, Nat.le_refl _, fun _ _ => .inl rfl⟩

/-! ### the document's operators -/
theorem twoT_same {op : Int} {a b : Tensor} (ho : 4 ≤ op ∧ op ≤ 7) (ha : tmay a = true) (hb : tmay b = true) (hs : a.Shape = b.Shape) :
    twoT op a b = (⟨a.Shape, (List.range a.Data.length).map (fun i => opF op (a.Data.getD i 0) (b.Data.getD i 0))⟩, 0) := by
  obtain ⟨hm, _, hd, _, _⟩ := tmay_fits ha
  obtain ⟨hm', _, hd', _, _⟩ := tmay_fits hb
  have e : spread a.Shape b.Shape = (a.Shape, 0) := by rw [← hs]; exact sub_spread (sub_self hm)
  unfold twoT
  rw [if_pos ho, if_pos ⟨ha, hb⟩, e]
  simp only [if_true]
  unfold twoD
  have hn : (prodL a.Shape).toNat = a.Data.length := by omega
  rw [hn]
  congr 2
  apply List.map_congr_left
  intro i hi
  have hi' := List.mem_range.1 hi
  rw [pick_self ha i hi', show pick b a.Shape i = pick b b.Shape i by rw [hs], pick_self hb i (by rw [hs] at hd; omega)]

end Go.Proofs.Yteaoijahdinciaa
