/- Plain laws, part 2: the document's own shapes; what the first three laws say. -/
import Derived.Test.YtolhkamfpfjodaaP1
namespace Go.Proofs.Ytolhkamfpfjodaa
open Go Go.RowKit
set_option linter.unusedSimpArgs false
set_option linter.unusedVariables false


theorem nm_at (s : List Int) (j : Nat) (hj : j < s.length) (hl : s.length ≤ 4) : 0 ≤ w64 ((s.length : Int) - ((j : Int) + 1)) ∧ w64 ((s.length : Int) - ((j : Int) + 1)) < (s.length : Int) ∧ rd s (w64 ((s.length : Int) - ((j : Int) + 1))) = nm s j := by
  rw [w64_id (by omega) (by omega)]
  refine ⟨by omega, by omega, ?_⟩
  unfold nm
  rw [dif_pos hj, rd_at s _ (s.length - 1 - j) (by omega) (by omega)]

/-! ### which of two comes first does not matter -/
theorem mx_comm (a b : List Int) (k : Nat) : mx a b k = mx b a k := by unfold mx; split <;> split <;> omega

theorem fitAt_comm (a b : List Int) (k : Nat) : fitAt a b k = fitAt b a k := by
  unfold fitAt
  congr 1
  apply propext
  constructor <;> (intro h; rcases h with h | h | h) <;> simp [h]

theorem spread_comm (a b : List Int) : spread a b = spread b a := by
  have h1 : fits a b = fits b a := by
    unfold fits
    rw [Nat.max_comm]
    congr 1
    funext k
    exact fitAt_comm a b k
  have h2 : mx a b = mx b a := by funext k; exact mx_comm a b k
  unfold spread
  rw [h1, h2, Nat.max_comm]
  by_cases ha : may a = true <;> by_cases hb : may b = true <;> simp [ha, hb]

end Go.Proofs.Ytolhkamfpfjodaa
