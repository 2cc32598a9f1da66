/- Plain laws, part 7: sums of small whole numbers by halves. -/
import Derived.Test.YtkcgiolledmbnabP4
namespace Go.Proofs.Ytkcgiolledmbnab
open Go Go.RowKit
set_option linter.unusedSimpArgs false
set_option linter.unusedVariables false

def isum (l : List Int) : Int := l.foldr (· + ·) 0
theorem isum_append (a b : List Int) : isum (a ++ b) = isum a + isum b := by
  induction a with
  | nil => simp [isum]
  | cons x a ih => simp only [List.cons_append, isum, List.foldr_cons] at ih ⊢; rw [ih]; omega

theorem isum_abs {B : Nat} : ∀ {l : List Int}, (∀ x ∈ l, x.natAbs ≤ B) → (isum l).natAbs ≤ l.length * B
  | [], _ => by simp [isum]
  | x :: l, h => by
    have h1 := h x (by simp)
    have h2 := isum_abs (l := l) (fun y hy => h y (by simp [hy]))
    have h3 := Int.natAbs_add_le x (isum l)
    show (x + isum l).natAbs ≤ (l.length + 1) * B
    rw [Nat.add_mul, Nat.one_mul]
    omega

/-- a row of whole numbers -/
def Wholes (xs : List Nat) (l : List Int) : Prop := xs.length = l.length ∧ ∀ i (h : i < xs.length) (k : i < l.length), Whole xs[i] l[i]

theorem Wholes.take {xs : List Nat} {l : List Int} (h : Wholes xs l) (n : Nat) : Wholes (xs.take n) (l.take n) := by
  refine ⟨by simp [h.1], fun i h1 h2 => ?_⟩
  rw [List.getElem_take, List.getElem_take]
  exact h.2 i _ _
theorem Wholes.drop {xs : List Nat} {l : List Int} (h : Wholes xs l) (n : Nat) : Wholes (xs.drop n) (l.drop n) := by
  refine ⟨by simp [h.1], fun i h1 h2 => ?_⟩
  rw [List.getElem_drop, List.getElem_drop]
  exact h.2 _ _ _

theorem tree_whole {B : Nat} : ∀ (n : Nat) (xs : List Nat) (l : List Int), xs.length ≤ n → Wholes xs l → (∀ x ∈ l, x.natAbs ≤ B) → l.length * B < 2 ^ 53 → Whole (tree xs) (isum l)
  | n, xs, l, hn, h, hb, hs => by
    by_cases h1 : xs.length ≤ 1
    · rw [tree_small h1]
      match xs, l, h with
      | [], [], _ => exact Whole.zero
      | [x], [y], h =>
        have := h.2 0 (by simp) (by simp)
        simpa [isum] using this
      | [], _ :: _, h => exact absurd h.1 (by simp)
      | [x], [], h => exact absurd h.1 (by simp)
      | [x], _ :: _ :: _, h => exact absurd h.1 (by simp)
    · rw [tree_halves (by omega)]
      have hl := h.1
      obtain ⟨m, rfl⟩ : ∃ m, n = m + 1 := ⟨n - 1, by omega⟩
      have e : isum l = isum (l.take ((xs.length + 1) / 2)) + isum (l.drop ((xs.length + 1) / 2)) := by rw [← isum_append, List.take_append_drop]
      have hlen1 : (l.take ((xs.length + 1) / 2)).length ≤ l.length := by rw [List.length_take]; omega
      have hlen2 : (l.drop ((xs.length + 1) / 2)).length ≤ l.length := by rw [List.length_drop]; omega
      have t1 := tree_whole m _ _ (by rw [List.length_take]; omega) (h.take ((xs.length + 1) / 2)) (fun x hx => hb x (List.mem_of_mem_take hx)) (Nat.lt_of_le_of_lt (Nat.mul_le_mul_right _ hlen1) hs)
      have t2 := tree_whole m _ _ (by rw [List.length_drop]; omega) (h.drop ((xs.length + 1) / 2)) (fun x hx => hb x (List.mem_of_mem_drop hx)) (Nat.lt_of_le_of_lt (Nat.mul_le_mul_right _ hlen2) hs)
      have := isum_abs hb
      rw [e] at this ⊢
      exact t1.add t2 (by omega)

end Go.Proofs.Ytkcgiolledmbnab
