/- Plain laws, part 17: what is gathered. -/
import Derived.Test.YtkcgiolledmbnabP14
import Derived.Test.YtkcgiolledmbnabP15
import Derived.Test.YtkcgiolledmbnabF7
namespace Go.Proofs.Ytkcgiolledmbnab
open Go Go.RowKit
set_option linter.unusedSimpArgs false
set_option linter.unusedVariables false

/-- where the j-th number of a goes, and which numbers have gone to the k-th place by the i-th -/
def gAt (a : Tensor) (s : List Int) (j : Nat) : Nat := (under s (place a.Shape (j : Int))).toNat
def gRow (a : Tensor) (s : List Int) (i k : Nat) : List Nat := ((List.range i).filter (fun j => decide (gAt a s j = k))).map (fun j => a.Data.getD j 0)
def gRows (a : Tensor) (s : List Int) (i : Nat) : List (List Nat) := (List.range (prodL s).toNat).map (gRow a s i)
def gatherT (a : Tensor) (s : List Int) : Tensor × Int := if tmay a = true ∧ into s a.Shape = true then (⟨s, (List.range (prodL s).toNat).map (fun k => tree (gRow a s a.Data.length k))⟩, 0) else (noT, 2)

theorem gRow_len (a : Tensor) (s : List Int) (i k : Nat) : (gRow a s i k).length ≤ i := by
  unfold gRow
  rw [List.length_map]
  exact Nat.le_trans (List.length_filter_le _ _) (by simp)

theorem gRow_succ (a : Tensor) (s : List Int) (i k : Nat) : gRow a s (i + 1) k = if gAt a s i = k then gRow a s i k ++ [a.Data.getD i 0] else gRow a s i k := by
  unfold gRow
  rw [List.range_succ, List.filter_append, List.map_append]
  by_cases h : gAt a s i = k
  · rw [if_pos h]
    simp [h]
  · rw [if_neg h]
    simp [h]

theorem gRows_put {a : Tensor} {s : List Int} (j : Nat) {u : Int} (hu : u = ((gAt a s j : Nat) : Int)) (h : gAt a s j < (prodL s).toNat) : put (gRows a s j) u (rd (gRows a s j) u ++ [a.Data.getD j 0]) = gRows a s (j + 1) := by
  subst hu
  have hl : (gRows a s j).length = (prodL s).toNat := by simp [gRows]
  rw [put_at _ _ (gAt a s j) _ rfl, rd_nat _ _ (by omega)]
  apply List.ext_getElem
  · simp [gRows]
  · intro q h1 h2
    rw [List.getElem_set]
    simp only [gRows, List.getElem_map, List.getElem_range]
    rw [gRow_succ]
    by_cases c : gAt a s j = q
    · rw [if_pos c, if_pos c, c]
    · rw [if_neg c, if_neg c]

theorem gather_loop {a : Tensor} {s : List Int} (ha : tmay a = true) (hs : Sub s a.Shape) {body : Int × List (List Nat) → Step (Int × List (List Nat)) (Int × List (List Nat))}
    (hb : ∀ (j : Nat) (ys : List (List Nat)), j < a.Data.length → ys.length = (prodL s).toNat → (rd ys (under s (place a.Shape (j : Int)))).length ≤ j →
      0 ≤ under s (place a.Shape (j : Int)) ∧ under s (place a.Shape (j : Int)) < (ys.length : Int) →
      body ((j : Int), ys) = .next (w64 ((j : Int) + 1), put ys (under s (place a.Shape (j : Int))) (rd ys (under s (place a.Shape (j : Int))) ++ [a.Data.getD j 0])))
    (he : ∀ ys, body ((a.Data.length : Int), ys) = .done ((a.Data.length : Int), ys)) :
    loop body (0, List.replicate (prodL s).toNat []) = some ((a.Data.length : Int), gRows a s a.Data.length) := by
  obtain ⟨m1, m2, m3, m4, m5⟩ := tmay_fits ha
  refine loop_to _ (fun k st => ∃ j : Nat, k + j = a.Data.length ∧ st = ((j : Int), gRows a s j)) ?_ a.Data.length _ ⟨0, rfl, ?_⟩
  · rintro k _ ⟨j, hk, rfl⟩
    by_cases hj : j < a.Data.length
    · right
      obtain ⟨u1, u2, u3⟩ := under_in hs (i := (j : Int)) (by omega) (by omega)
      have hg : under s (place a.Shape (j : Int)) = ((gAt a s j : Nat) : Int) := by unfold gAt; omega
      have hlt : gAt a s j < (prodL s).toNat := by omega
      have hl : (gRows a s j).length = (prodL s).toNat := by simp [gRows]
      have hr : (rd (gRows a s j) (under s (place a.Shape (j : Int)))).length ≤ j := by
        rw [hg, rd_nat _ _ (by omega)]
        simp only [gRows, List.getElem_map, List.getElem_range]
        exact gRow_len _ _ _ _
      rw [hb j _ hj hl hr (by omega), gRows_put j hg hlt]
      exact ⟨_, k - 1, rfl, by omega, j + 1, by omega, by rw [w64_id (by omega) (by omega)]; rfl⟩
    · left
      have hz : j = a.Data.length := by omega
      rw [hz]
      exact he _
  · have e : gRows a s 0 = List.replicate (prodL s).toNat [] := by
      apply List.ext_getElem
      · simp [gRows]
      · intro i h1 h2
        simp [gRows, gRow]
    rw [e]
    rfl

theorem kernel_Gather_eq (a : Tensor) (s : List Int) : kernel_Gather.f a s = some (gatherT a s) := by
  unfold kernel_Gather.f gatherT
  rw [tensor_May_eq, obind]
  by_cases ha : tmay a = true
  · rw [if_pos ha, shape_Into_is, obind]
    by_cases hi : into s a.Shape = true
    · have h1 := into_iff.1 hi
      obtain ⟨m1, m2, m3, m4, m5⟩ := tmay_fits ha
      have hle := may_le h1.1
      have hlen := h1.2.2.1
      have g1 : loop (kernel_Gather.l0 a s) (0, List.replicate (prodL s).toNat []) = some ((a.Data.length : Int), gRows a s a.Data.length) := by
        refine gather_loop ha h1 (fun j ys hj hy hr hu => ?_) (fun ys => ?_)
        · unfold kernel_Gather.l0
          simp only
          rw [if_pos (by omega), if_pos (by omega), shape_Place_eq]
          simp only [bindS]
          rw [kernel_from_eq _ _ (by have := (under_in h1 (i := (j : Int)) (by omega) (by omega)).1; omega) (by have := (under_in h1 (i := (j : Int)) (by omega) (by omega)).1; omega)]
          simp only
          rw [if_pos hu, if_pos (by omega), rd_nat _ j hj, getD_get _ _ _ hj]
        · unfold kernel_Gather.l0
          simp only
          rw [if_neg (by omega)]
      have g2 : loop (kernel_Gather.l1 ((a.Data.length : Int), gRows a s a.Data.length)) (0, List.replicate (prodL s).toNat 0) = some (((prodL s).toNat : Int), (List.range (prodL s).toNat).map (fun k => tree (gRow a s a.Data.length k))) := by
        refine fill_loop (prodL s).toNat (fun k => tree (gRow a s a.Data.length k)) id (by omega) (fun j ys hj hy => ?_) (fun ys hy => ?_) _ (by simp)
        · have hl : (gRows a s a.Data.length).length = (prodL s).toNat := by simp [gRows]
          have hx : rd (gRows a s a.Data.length) (j : Int) = gRow a s a.Data.length j := by
            rw [rd_nat _ j (by omega)]; simp [gRows]
          have hr := gRow_len a s a.Data.length j
          unfold kernel_Gather.l1
          simp only [hl, hy]
          rw [if_pos (by omega), if_pos (by omega), hx, real_Fold_eq _ (by omega)]
          simp only [bindS]
          rw [if_pos (by omega)]
        · have hl : (gRows a s a.Data.length).length = (prodL s).toNat := by simp [gRows]
          unfold kernel_Gather.l1
          simp only [hl]
          rw [if_neg (by omega)]
          rfl
      rw [if_pos hi, if_pos ⟨ha, hi⟩, tensor_New_eq, newT_may h1.1, obind]
      simp only [List.length_replicate]
      rw [if_pos (by omega), show (((prodL s).toNat : Nat) : Int).toNat = (prodL s).toNat from by omega, g1, obind, g2, obind]
    · rw [if_neg hi, if_neg (fun c => hi c.2)]; rfl
  · rw [if_neg ha, if_neg (fun c => ha c.1)]; rfl

end Go.Proofs.Ytkcgiolledmbnab
