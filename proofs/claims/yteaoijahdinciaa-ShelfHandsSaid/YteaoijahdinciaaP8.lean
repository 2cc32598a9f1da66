/- Plain laws, part 8: places that fall on places; operators on tensors, number by number. -/
import Derived.Test.YteaoijahdinciaaP4
import Derived.Test.YteaoijahdinciaaF1
namespace Go.Proofs.Yteaoijahdinciaa
open Go Go.RowKit
set_option linter.unusedSimpArgs false
set_option linter.unusedVariables false

/-! ### loops that fill a row -/
theorem fill_loop {ρ : Type} {body : Int × List Nat → Step (Int × List Nat) ρ} (n : Nat) (f : Nat → Nat) (fin : Int × List Nat → ρ) (hn : n ≤ 9223372036854775806)
    (hb : ∀ (j : Nat) (ys : List Nat), j < n → ys.length = n → body ((j : Int), ys) = .next (w64 ((j : Int) + 1), put ys (j : Int) (f j)))
    (he : ∀ (ys : List Nat), ys.length = n → body ((n : Int), ys) = .done (fin ((n : Int), ys))) (ys : List Nat) (hl : ys.length = n) :
    loop body (0, ys) = some (fin ((n : Int), (List.range n).map f)) := by
  refine loop_to _ (fun k st => ∃ j : Nat, k + j = n ∧ st = ((j : Int), upN n j f (fun t => ys.getD t 0))) ?_ n _ ⟨0, rfl, ?_⟩
  · rintro k _ ⟨j, hk, rfl⟩
    by_cases hj : j < n
    · right
      rw [hb j _ hj (by simp)]
      refine ⟨_, k - 1, rfl, by omega, j + 1, by omega, ?_⟩
      rw [put_at _ _ j _ rfl, upN_set n j f _ hj, w64_id (by omega) (by omega)]; rfl
    · left
      have hz : j = n := by omega
      subst hz
      rw [he _ (by simp), upN_full]
  · congr 1
    apply List.ext_getElem
    · simp [hl]
    · intro i h1 h2
      rw [upN_get]
      simp [List.getElem?_eq_getElem h1]

theorem getD_get {α : Type} (xs : List α) (d : α) (j : Nat) (h : j < xs.length) : xs.getD j d = xs[j] := by
  simp [List.getD, List.getElem?_eq_getElem h]

def noT : Tensor := ⟨[], []⟩

theorem newT_may {s : List Int} (h : may s = true) (x : Nat) : newT s x = (⟨s, List.replicate (prodL s).toNat x⟩, 0) := by
  unfold newT
  rw [size_may h]
  simp

theorem slices_Clone_float64_eq (x : List Nat) (h : x.length ≤ 549755813888) : slices_Clone_float64.f x = some x := by
  unfold slices_Clone_float64.f
  rw [if_pos (by omega), List.nil_append]

theorem tensor_Copy_eq (a : Tensor) (h1 : a.Shape.length ≤ 549755813888) (h2 : a.Data.length ≤ 549755813888) : tensor_Copy.f a = some a := by
  unfold tensor_Copy.f
  rw [slices_Clone_int_eq _ h1, obind, slices_Clone_float64_eq _ h2, obind]

def reshapeT (a : Tensor) (s : List Int) : Tensor × Int :=
  if tmay a = true then if (size s).2 = 0 then if (size s).1 = (a.Data.length : Int) then (⟨s, a.Data⟩, 0) else (noT, 3) else (noT, (size s).2) else (noT, 2)

end Go.Proofs.Yteaoijahdinciaa
