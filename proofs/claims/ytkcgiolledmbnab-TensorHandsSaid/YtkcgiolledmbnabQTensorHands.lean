/- Plain law of TensorHands: what is handed out can be changed; nothing handed in is. -/
import Derived.Test.YtkcgiolledmbnabQA3
import Derived.Test.YtkcgiolledmbnabP16
import Derived.Test.YtkcgiolledmbnabP11
import Derived.Test.YtkcgiolledmbnabLTensorHands
namespace Go.Proofs.Ytkcgiolledmbnab
open Go Go.RowKit
set_option linter.unusedSimpArgs false

theorem hands_loop {α : Type} (n : Nat) (x : α) {body : Int × List α × List α → Step (Int × List α × List α) (Int × List α × List α)} (hn : n ≤ 9223372036854775806)
    (hb : ∀ (j : Nat) (ys zs : List α), j < n → ys.length = n → zs.length = n → body ((j : Int), ys, zs) = .next (w64 ((j : Int) + 1), put ys (j : Int) x, put zs (j : Int) x))
    (he : ∀ (ys zs : List α), ys.length = n → zs.length = n → body ((n : Int), ys, zs) = .done ((n : Int), ys, zs)) (ys zs : List α) (h1 : ys.length = n) (h2 : zs.length = n) : ∃ r, loop body (0, ys, zs) = some r := by
  obtain ⟨r, h, _⟩ := loop_ex (body := body) (fun _ => True) (fun k st => ∃ (j : Nat) (ys zs : List α), k + j = n ∧ st = ((j : Int), ys, zs) ∧ ys.length = n ∧ zs.length = n) (fun k st ⟨j, ys, zs, hk, hst, l1, l2⟩ => by
    subst hst
    by_cases hj : j < n
    · right
      rw [hb j ys zs hj l1 l2]
      exact ⟨_, k - 1, rfl, by omega, j + 1, _, _, by omega, by rw [w64_id (by omega) (by omega)]; rfl, by simp [l1], by simp [l2]⟩
    · left
      have hz : j = n := by omega
      subst hz
      rw [he ys zs l1 l2]
      exact ⟨_, rfl, trivial⟩) n _ ⟨0, ys, zs, rfl, rfl, h1, h2⟩
  exact ⟨r, h⟩

theorem law3_TensorHands.plain (t : Tensor) (x : Nat) : law3_TensorHands.f t x = some true := by
  unfold law3_TensorHands.f
  rw [law3_awake_ev, obind, if_pos rfl, law3_Small_ex, obind]
  by_cases c0 : smallP t
  rotate_left
  · rw [if_neg (by simpa using c0)]
  rw [if_pos (by simpa using c0), ref1_TensorMay_eq, obind]
  by_cases hm : tmay t = true
  rotate_left
  · rw [if_neg hm]
  obtain ⟨_, k2, _, k4, _⟩ := tmay_fits hm
  have hd := of_decide_eq_true hm
  have e1 : ofT t.Shape t.Data = (t, 0) := by unfold ofT; rw [if_pos hd.1, if_pos hd.2.symm]
  have e2 : mapT fabs t = ⟨t.Shape, t.Data.map fabs⟩ := by unfold mapT; rw [if_pos hm]
  obtain ⟨r1, h1⟩ := hands_loop t.Data.length x (body := law3_TensorHands.l0 x) (by omega) (fun j ys zs hj l1 l2 => by
    unfold law3_TensorHands.l0
    simp only [l1, l2]
    rw [if_pos (by omega), if_pos (by omega), if_pos (by omega)]) (fun ys zs l1 l2 => by
    unfold law3_TensorHands.l0
    simp only [l1, l2]
    rw [if_neg (by omega)]) (t.Data.map fabs) t.Data (by simp) rfl
  obtain ⟨r2, h2⟩ := hands_loop t.Shape.length 77 (body := law3_TensorHands.l1) (by omega) (fun j ys zs hj l1 l2 => by
    unfold law3_TensorHands.l1
    simp only [l1, l2]
    rw [if_pos (by omega), if_pos (by omega), if_pos (by omega)]) (fun ys zs l1 l2 => by
    unfold law3_TensorHands.l1
    simp only [l1, l2]
    rw [if_neg (by omega)]) t.Shape t.Shape rfl rfl
  rw [if_pos hm, if_pos (by omega), if_pos (by omega), tensor_Of_eq, obind, tensor_Map_Abs_eq, obind, e1, e2, if_pos rfl]
  simp only
  rw [h1, obind, h2, obind, List.nil_append, List.nil_append, ref1_SameTensor_eq _ _ (by omega) (by omega), obind, sameT_refl]

end Go.Proofs.Ytkcgiolledmbnab
