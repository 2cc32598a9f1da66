/- Plain laws, part 0: loops, whole numbers of 64 bits, places of lists. -/
import Derived.Test.YtkdhahdfkonilaaDoorE8
import Derived.IntWalk
namespace Go.Proofs.YtkdhahdfkonilaaDoor
open Go Go.RowKit
set_option linter.unusedSimpArgs false
set_option linter.unusedVariables false

theorem w64_id {x : Int} (h1 : -9223372036854775808 ≤ x) (h2 : x ≤ 9223372036854775807) : w64 x = x := IntWalk.i64_in x ⟨h1, h2⟩

/-- A LOOP, RECKONED: an order n on the states that falls, a word I that is kept, and what stands at the end. -/
theorem loop_ex {σ ρ : Type} {body : σ → Step σ ρ} (Post : ρ → Prop) (I : Nat → σ → Prop)
    (h : ∀ n s, I n s → (∃ r, body s = .done r ∧ Post r) ∨ ∃ s' m, body s = .next s' ∧ m < n ∧ I m s') :
    ∀ n s, I n s → ∃ r, loop body s = some r ∧ Post r := by
  intro n
  induction n using Nat.strongRecOn with
  | _ n ih =>
    intro s hs
    rcases h n s hs with ⟨r, h1, h2⟩ | ⟨s', m, h1, h2, h3⟩
    · exact ⟨r, by rw [loop_eq, h1]; rfl, h2⟩
    · obtain ⟨r, h4, h5⟩ := ih m h2 s' h3
      exact ⟨r, by rw [loop_eq, h1]; exact h4, h5⟩

theorem loop_to {σ ρ : Type} {body : σ → Step σ ρ} (T : ρ) (I : Nat → σ → Prop)
    (h : ∀ n s, I n s → body s = .done T ∨ ∃ s' m, body s = .next s' ∧ m < n ∧ I m s') (n : Nat) (s : σ) (hs : I n s) : loop body s = some T := by
  obtain ⟨r, h1, h2⟩ := loop_ex (· = T) I (fun n s hi => by
    rcases h n s hi with h1 | h1
    · exact .inl ⟨T, h1, rfl⟩
    · exact .inr h1) n s hs
  rw [h1, h2]

theorem rd_nat {α : Type} [Inhabited α] (xs : List α) (j : Nat) (h : j < xs.length) : rd xs (j : Int) = xs[j] := by
  simp [rd, List.getD, List.getElem?_eq_getElem h]

theorem rd_at {α : Type} [Inhabited α] (xs : List α) (i : Int) (j : Nat) (hi : i = j) (h : j < xs.length) : rd xs i = xs[j] := by
  subst hi; exact rd_nat xs j h

theorem put_at {α : Type} (xs : List α) (i : Int) (j : Nat) (x : α) (hi : i = j) : put xs i x = xs.set j x := by
  subst hi; simp [put]

theorem drop_at {α : Type} {xs : List α} {j : Nat} (h : j < xs.length) : xs.drop j = xs[j] :: xs.drop (j + 1) := List.drop_eq_getElem_cons h

theorem obind {α β : Type} (x : α) (f : α → Option β) : (some x).bind f = f x := rfl

end Go.Proofs.YtkdhahdfkonilaaDoor
