/- Plain laws, part 20: the reference's shelf; all of a shelf; what is refused. -/
import Derived.Test.YteaoijahdinciaaP18
import Derived.Test.YteaoijahdinciaaP16
import Derived.Test.YteaoijahdinciaaF7
import Derived.Test.YteaoijahdinciaaF11
import Derived.Test.YteaoijahdinciaaF13
import Derived.Test.YteaoijahdinciaaF15
namespace Go.Proofs.Yteaoijahdinciaa
open Go Go.RowKit
set_option linter.unusedSimpArgs false
set_option linter.unusedVariables false

theorem ref19_New_ok (l : List Tensor) (hl : l.length ≤ 32) (hm : ∀ t ∈ l, tmay t = true) : ref19_New.f l = some (some ⟨l, l.map nought, List.replicate l.length 0⟩, 0) := by
  have key : loop (ref19_New.l0 l) (0, [], [], []) = some (.go ((l.length : Int), List.replicate l.length 0, l.map nought, l)) := by
    refine loop_to _ (fun k st => ∃ j : Nat, k + j = l.length ∧ st = ((j : Int), List.replicate j 0, (l.take j).map nought, l.take j)) ?_ l.length _ ⟨0, rfl, rfl⟩
    rintro k _ ⟨j, hk, rfl⟩
    unfold ref19_New.l0
    simp only
    by_cases hj : j < l.length
    · right
      have hmj := hm l[j] (List.getElem_mem hj)
      rw [if_pos (by omega), if_pos (by omega), rd_nat l j hj, ref1_TensorMay_eq]
      simp only [bindS]
      rw [if_pos hmj, ref1_New_eq]
      simp only
      rw [if_pos (by rw [List.length_take]; omega), if_pos (by rw [List.length_map, List.length_take]; omega), if_pos (by rw [List.length_replicate]; omega)]
      refine ⟨_, k - 1, rfl, by omega, j + 1, by omega, ?_⟩
      rw [w64_id (by omega) (by omega), List.take_succ_eq_append_getElem hj, List.map_append, List.replicate_succ']
      rfl
    · left
      have hz : j = l.length := by omega
      subst hz
      rw [if_neg (by omega), List.take_length]
  unfold ref19_New.f
  rw [if_neg (by omega), key, obind]
  rfl

theorem ref19_New_no (l : List Tensor) (h : ¬ (l.length ≤ 32 ∧ ∀ t ∈ l, tmay t = true)) : ref19_New.f l = some (none, if 32 < l.length then 13 else 2) := by
  unfold ref19_New.f
  by_cases h1 : 32 < (l.length : Int)
  · rw [if_pos h1, if_pos (by omega)]
  · have h2 : ¬ 32 < l.length := by omega
    obtain ⟨r, e, hr⟩ := loop_ex (body := ref19_New.l0 l) (fun r => r = .ret (none, 2)) (fun k st => ∃ j : Nat, k + j = l.length ∧ st = ((j : Int), List.replicate j 0, (l.take j).map nought, l.take j) ∧ ∀ i (h : i < l.length), i < j → tmay l[i] = true) (fun k st ⟨j, hk, hst, hi⟩ => by
      subst hst
      unfold ref19_New.l0
      simp only
      by_cases hj : j < l.length
      · rw [if_pos (by omega), if_pos (by omega), rd_nat l j hj, ref1_TensorMay_eq]
        simp only [bindS]
        by_cases hmj : tmay l[j] = true
        · right
          rw [if_pos hmj, ref1_New_eq]
          simp only
          rw [if_pos (by rw [List.length_take]; omega), if_pos (by rw [List.length_map, List.length_take]; omega), if_pos (by rw [List.length_replicate]; omega)]
          refine ⟨_, k - 1, rfl, by omega, j + 1, by omega, ?_, fun i h hij => ?_⟩
          · rw [w64_id (by omega) (by omega), List.take_succ_eq_append_getElem hj, List.map_append, List.replicate_succ']
            rfl
          · by_cases e : i = j
            · subst e; exact hmj
            · exact hi i h (by omega)
        · left
          have hmj' : ¬ tmay (⟨l[j].Shape, l[j].Data⟩ : Tensor) = true := hmj
          rw [if_neg hmj']
          exact ⟨_, rfl, rfl⟩
      · exfalso
        apply h
        refine ⟨by omega, fun t ht => ?_⟩
        obtain ⟨i, hi', rfl⟩ := List.mem_iff_getElem.1 ht
        exact hi i hi' (by omega)) l.length _ ⟨0, by omega, rfl, fun i h h0 => absurd h0 (by omega)⟩
    rw [if_neg h1, if_neg h2, show loop (ref19_New.l0 l) (0, [], [], []) = some r from e, obind, hr]
    rfl

theorem All_in {s : Shelf} (hs : Sound s) : shelf_Shelf_All.f s = some (s.l, s.vers) := by
  have hle := hs.le
  have key : loop (shelf_Shelf_All.l0 s) (0, []) = some ((s.l.length : Int), s.l) := by
    refine loop_to _ (fun k st => ∃ j : Nat, k + j = s.l.length ∧ st = ((j : Int), s.l.take j)) ?_ s.l.length _ ⟨0, rfl, rfl⟩
    rintro k _ ⟨j, hk, rfl⟩
    unfold shelf_Shelf_All.l0
    simp only
    by_cases hj : j < s.l.length
    · right
      have hmj := hs.ml j hj
      rw [if_pos (by omega), if_pos (by omega), rd_nat s.l j hj, tensor_Copy_eq _ (tmay_len hmj).1 (tmay_len hmj).2]
      simp only [bindS]
      rw [if_pos (by rw [List.length_take]; omega)]
      refine ⟨_, k - 1, rfl, by omega, j + 1, by omega, ?_⟩
      rw [w64_id (by omega) (by omega), List.take_succ_eq_append_getElem hj]
      rfl
    · left
      have hz : j = s.l.length := by omega
      subst hz
      rw [if_neg (by omega), List.take_length]
  unfold shelf_Shelf_All.f
  rw [key, obind, slices_Clone_int_eq _ (by rw [hs.lv]; omega), obind]

theorem Same_in {s : Shelf} (hs : Sound s) : law19_Same.f s ⟨s.l, s.grads, s.vers⟩ = some true := by
  have hle := hs.le
  have key : loop (law19_Same.l0 (s.l, s.vers) s ⟨s.l, s.grads, s.vers⟩) 0 = some (.go (s.l.length : Int)) := by
    refine loop_to _ (fun k st => ∃ j : Nat, k + j = s.l.length ∧ st = (j : Int)) ?_ s.l.length _ ⟨0, rfl, rfl⟩
    rintro k _ ⟨j, hk, rfl⟩
    unfold law19_Same.l0
    simp only
    by_cases hj : j < s.l.length
    · right
      have hv : j < s.vers.length := by rw [hs.lv]; exact hj
      have hg : j < s.grads.length := by rw [hs.lg]; exact hj
      have m1 := tmay_len (hs.ml j hj)
      have m2 := tmay_len (hs.mg j hg hj).1
      rw [if_pos (by omega), Grad_in hs hj]
      simp only [bindS]
      rw [if_pos trivial, if_pos (by omega), if_pos (by omega), if_pos trivial, if_pos (by omega), if_pos (by omega), rd_nat _ j hj, ref1_SameTensor_eq _ _ (by simp only; omega) (by simp only; omega), sameT_refl]
      simp only
      rw [if_pos trivial, if_pos (by omega), rd_nat _ j hg, getD_get _ _ _ hg, ref1_SameTensor_eq _ _ (by omega) (by omega)]
      have e : sameT s.grads[j] (⟨s.grads[j].Shape, s.grads[j].Data⟩ : Tensor) = true := sameT_refl _
      rw [e]
      simp only
      rw [if_pos trivial]
      exact ⟨_, k - 1, rfl, by omega, j + 1, by omega, by rw [w64_id (by omega) (by omega)]; rfl⟩
    · left
      have hz : j = s.l.length := by omega
      subst hz
      rw [if_neg (by omega)]
  unfold law19_Same.f
  rw [All_in hs, obind, if_pos rfl, if_pos rfl, key, obind]
  rfl

theorem Commit_len {s : Shelf} {x : List Tensor} (h : ¬ x.length = s.l.length) : shelf_Shelf_Commit.f s x = some (s.grads, 1) := by
  unfold shelf_Shelf_Commit.f
  rw [if_neg (by omega)]

theorem Commit_no {s : Shelf} (hs : Sound s) {x : List Tensor} (hl : x.length = s.l.length) (h : ¬ ∀ i (h : i < x.length) (h' : i < s.l.length), tmay x[i] = true ∧ x[i].Shape = s.l[i].Shape) : shelf_Shelf_Commit.f s x = some (s.grads, 2) := by
  have hle := hs.le
  obtain ⟨r, e, hr⟩ := loop_ex (body := shelf_Shelf_Commit.l0 x s) (fun r => r = .ret (s.grads, 2)) (fun k st => ∃ j : Nat, k + j = x.length ∧ st = (j : Int) ∧ ∀ i (h : i < x.length) (h' : i < s.l.length), i < j → tmay x[i] = true ∧ x[i].Shape = s.l[i].Shape) (fun k st ⟨j, hk, hst, hi⟩ => by
    subst hst
    unfold shelf_Shelf_Commit.l0
    by_cases hj : j < x.length
    · have hj' : j < s.l.length := by omega
      rw [if_pos (by omega), if_pos (by omega), rd_nat x j hj, tensor_May_eq]
      simp only [bindS]
      by_cases m1 : tmay x[j] = true
      · rw [if_pos m1, if_pos (by omega), rd_nat s.l j hj', shape_Same_eq _ _ (by have := (tmay_fits m1).2.1; omega)]
        simp only
        by_cases m2 : x[j].Shape = s.l[j].Shape
        · right
          rw [if_pos (decide_eq_true m2)]
          refine ⟨_, k - 1, rfl, by omega, j + 1, by omega, by rw [w64_id (by omega) (by omega)]; rfl, fun i h h' hij => ?_⟩
          by_cases e : i = j
          · subst e; exact ⟨m1, m2⟩
          · exact hi i h h' (by omega)
        · left
          rw [if_neg (by simpa using m2)]
          exact ⟨_, rfl, rfl⟩
      · left
        have m1' : ¬ tmay (⟨x[j].Shape, x[j].Data⟩ : Tensor) = true := m1
        rw [if_neg m1']
        exact ⟨_, rfl, rfl⟩
    · exfalso
      exact h (fun i h h' => hi i h h' (by omega))) x.length _ ⟨0, by omega, rfl, fun i h h' h0 => absurd h0 (by omega)⟩
  unfold shelf_Shelf_Commit.f
  rw [if_pos (by omega), show loop (shelf_Shelf_Commit.l0 x s) 0 = some r from e, obind, hr]
  rfl

end Go.Proofs.Yteaoijahdinciaa
