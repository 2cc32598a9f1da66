/- Plain laws, part 11: tensors made, changed, asked. -/
import Derived.Test.YtkcgiolledmbnabP8
namespace Go.Proofs.Ytkcgiolledmbnab
open Go Go.RowKit
set_option linter.unusedSimpArgs false
set_option linter.unusedVariables false

def ofT (s : List Int) (d : List Nat) : Tensor × Int := if (size s).2 = 0 then if (d.length : Int) = (size s).1 then (⟨s, d⟩, 0) else (noT, 1) else (noT, (size s).2)
def mapT (g : Nat → Nat) (t : Tensor) : Tensor := if tmay t = true then ⟨t.Shape, t.Data.map g⟩ else noT

theorem map_loop {body : Int × List Nat → Step (Int × List Nat) (Int × List Nat)} (xs : List Nat) (g : Nat → Nat) (hn : xs.length ≤ 9223372036854775806)
    (hb : ∀ (j : Nat) (ys : List Nat) (h : j < ys.length), ys.length = xs.length → body ((j : Int), ys) = .next (w64 ((j : Int) + 1), put ys (j : Int) (g ys[j])))
    (he : ∀ (ys : List Nat), ys.length = xs.length → body ((xs.length : Int), ys) = .done ((xs.length : Int), ys)) : loop body (0, xs) = some ((xs.length : Int), xs.map g) := by
  refine loop_to _ (fun k st => ∃ (j : Nat) (ys : List Nat), k + j = xs.length ∧ st = ((j : Int), ys) ∧ ys.length = xs.length ∧ ∀ q (h : q < ys.length) (h' : q < xs.length), ys[q] = if q < j then g xs[q] else xs[q]) ?_ xs.length _ ⟨0, xs, rfl, rfl, rfl, fun q h h' => by rw [if_neg (by omega)]⟩
  rintro k _ ⟨j, ys, hk, rfl, hy, hv⟩
  by_cases hj : j < xs.length
  · right
    rw [hb j ys (by omega) hy]
    refine ⟨_, k - 1, rfl, by omega, j + 1, put ys (j : Int) (g ys[j]), by omega, by rw [w64_id (by omega) (by omega)]; rfl, by simp [hy], fun q h h' => ?_⟩
    simp only [put_at ys _ j _ rfl, List.length_set] at h ⊢
    rw [List.getElem_set]
    by_cases hq : j = q
    · subst hq; rw [if_pos rfl, if_pos (by omega), hv j h h', if_neg (by omega)]
    · rw [if_neg hq, hv q h h']
      by_cases hq2 : q < j
      · rw [if_pos hq2, if_pos (by omega)]
      · rw [if_neg hq2, if_neg (by omega)]
  · left
    have hz : j = xs.length := by omega
    subst hz
    rw [he ys hy]
    congr 2
    apply List.ext_getElem
    · simp [hy]
    · intro q h1 h2
      rw [hv q h1 (by omega), if_pos (by omega)]; simp

theorem same_loop {body : Int → Step Int (Out2 Int Bool)} (n : Nat) (hn : n ≤ 9223372036854775806) (hb : ∀ j : Nat, j < n → body (j : Int) = .next (w64 ((j : Int) + 1))) (he : body (n : Int) = .done (.go (n : Int))) : loop body 0 = some (.go (n : Int)) := by
  refine loop_to _ (fun k st => ∃ j : Nat, k + j = n ∧ st = (j : Int)) ?_ n _ ⟨0, rfl, rfl⟩
  rintro k _ ⟨j, hk, rfl⟩
  by_cases hj : j < n
  · right
    rw [hb j hj]
    exact ⟨_, k - 1, rfl, by omega, j + 1, by omega, by rw [w64_id (by omega) (by omega)]; rfl⟩
  · left
    have hz : j = n := by omega
    subst hz
    exact he

end Go.Proofs.Ytkcgiolledmbnab
