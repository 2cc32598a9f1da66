/- Plain laws, part 2: the document's own shapes; what the first three laws say. -/
import Derived.Test.YteaoijahdinciaaP1
import Derived.Test.YteaoijahdinciaaF9
import Derived.Test.YteaoijahdinciaaF13
namespace Go.Proofs.Yteaoijahdinciaa
open Go Go.RowKit
set_option linter.unusedSimpArgs false
set_option linter.unusedVariables false

theorem ref1_Size_first (s : List Int) (hl : s.length ≤ 9223372036854775806) : loop (ref1_Size.l0 s) 0 = some (if s.any (fun x => decide (x < 1)) = true then .ret (0, 2) else .go (s.length : Int)) := by
  refine loop_to _ (fun k st => ∃ j : Nat, k + j = s.length ∧ st = (j : Int) ∧ s.any (fun x => decide (x < 1)) = (s.drop j).any (fun x => decide (x < 1))) ?_ s.length _ ⟨0, rfl, rfl, rfl⟩
  rintro k _ ⟨j, hk, rfl, h3⟩
  unfold ref1_Size.l0
  by_cases hj : j < s.length
  · rw [if_pos (by omega), if_pos (by omega), rd_nat s j hj]
    rw [drop_at hj, List.any_cons] at h3
    by_cases hc : s[j] < 1
    · left
      rw [if_pos hc, h3]
      simp [hc]
    · right
      rw [if_neg hc]
      refine ⟨_, k - 1, rfl, by omega, j + 1, by omega, by rw [w64_id (by omega) (by omega)]; rfl, by rw [h3]; simp [hc]⟩
  · left
    have hz : j = s.length := by omega
    subst hz
    rw [if_neg (by omega), h3, List.drop_length]
    simp

theorem ref1_Size_l1 : ref1_Size.l1 = sizeL := rfl

theorem ref1_Size_eq (s : List Int) : ref1_Size.f s = some (size s) := by
  unfold ref1_Size.f size
  by_cases h4 : 4 < s.length
  · rw [if_pos (by omega), if_pos h4]
  rw [if_neg (by omega), if_neg h4, ref1_Size_first s (by omega), obind]
  cases ha : s.any (fun x => decide (x < 1)) with
  | true => simp [Out2.on]
  | false =>
    simp only [Bool.false_eq_true, if_false, Out2.on]
    rw [ref1_Size_l1, shape_Size_loop s (pos_of_any ha) (by omega), obind]
    unfold sizeEnd
    rcases sizeGo_or s 1 with ⟨m, h⟩ | h
    · rw [h]; rfl
    · rw [h]; rfl

theorem ref1_SameInts_eq (a b : List Int) (hl : a.length ≤ 9223372036854775806) : ref1_SameInts.f a b = some (decide (a = b)) := sameF_eq a b hl

theorem nm_at (s : List Int) (j : Nat) (hj : j < s.length) (hl : s.length ≤ 4) : 0 ≤ w64 ((s.length : Int) - ((j : Int) + 1)) ∧ w64 ((s.length : Int) - ((j : Int) + 1)) < (s.length : Int) ∧ rd s (w64 ((s.length : Int) - ((j : Int) + 1))) = nm s j := by
  rw [w64_id (by omega) (by omega)]
  refine ⟨by omega, by omega, ?_⟩
  unfold nm
  rw [dif_pos hj, rd_at s _ (s.length - 1 - j) (by omega) (by omega)]

/-! ### which of two comes first does not matter -/
theorem mx_comm (a b : List Int) (k : Nat) : mx a b k = mx b a k := by unfold mx; split <;> split <;> omega

theorem fitAt_comm (a b : List Int) (k : Nat) : fitAt a b k = fitAt b a k := by
  unfold fitAt
  congr 1
  apply propext
  constructor <;> (intro h; rcases h with h | h | h) <;> simp [h]

theorem spread_comm (a b : List Int) : spread a b = spread b a := by
  have h1 : fits a b = fits b a := by
    unfold fits
    rw [Nat.max_comm]
    congr 1
    funext k
    exact fitAt_comm a b k
  have h2 : mx a b = mx b a := by funext k; exact mx_comm a b k
  unfold spread
  rw [h1, h2, Nat.max_comm]
  by_cases ha : may a = true <;> by_cases hb : may b = true <;> simp [ha, hb]

end Go.Proofs.Yteaoijahdinciaa
