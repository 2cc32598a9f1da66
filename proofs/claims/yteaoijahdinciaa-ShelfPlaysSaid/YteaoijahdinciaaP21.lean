/- Plain laws, part 21: the reference's shelf goes with the program's, whatever is done. -/
import Derived.Test.YteaoijahdinciaaP20
import Derived.Test.YteaoijahdinciaaF7
import Derived.Test.YteaoijahdinciaaF8
import Derived.Test.YteaoijahdinciaaF12
import Derived.Test.YteaoijahdinciaaF13
import Derived.Test.YteaoijahdinciaaF16
import Derived.Test.YteaoijahdinciaaF20
import Derived.Test.YteaoijahdinciaaF21
namespace Go.Proofs.Yteaoijahdinciaa
open Go Go.RowKit
set_option linter.unusedSimpArgs false
set_option linter.unusedVariables false

/-- the reference's shelf of the same leaves -/
def ofS (s : Shelf) : Shelf65 := ⟨s.l, s.grads, s.vers⟩

theorem rin_in {s : Shelf} {i : Int} (h : 0 ≤ i ∧ i < (s.l.length : Int)) : ref19_Shelf_in.f (ofS s) i = some true := by
  unfold ref19_Shelf_in.f
  rw [if_pos h.1, if_pos (show i < ((ofS s).T.length : Int) from h.2)]
theorem rin_out {s : Shelf} {i : Int} (h : ¬ (0 ≤ i ∧ i < (s.l.length : Int))) : ref19_Shelf_in.f (ofS s) i = some false := by
  unfold ref19_Shelf_in.f
  by_cases h1 : 0 ≤ i
  · rw [if_pos h1, if_neg (show ¬ i < ((ofS s).T.length : Int) from fun c => h ⟨h1, c⟩)]
  · rw [if_neg h1]
theorem Set_both {s : Shelf} (hs : Sound s) (i : Int) (t : Tensor) : ∃ (l' : List Tensor) (v' : List Int) (c : Int), shelf_Shelf_Set.f s i t = some (l', v', c) ∧ ref19_Shelf_Set.f (ofS s) i t = some (l', v', c) ∧ Sound ⟨l', v', s.grads⟩ ∧ l'.length = s.l.length := by
  by_cases h1 : 0 ≤ i ∧ i < (s.l.length : Int)
  rotate_left
  · refine ⟨s.l, s.vers, 7, ?_, ?_, hs, rfl⟩
    · unfold shelf_Shelf_Set.f
      rw [there_out h1, obind, if_neg (by decide)]
    · unfold ref19_Shelf_Set.f
      rw [rin_out h1, obind, if_neg (by decide)]
      rfl
  obtain ⟨j, rfl⟩ : ∃ j : Nat, i = (j : Int) := ⟨i.toNat, by omega⟩
  have hj : j < s.l.length := by omega
  have hv : j < s.vers.length := by rw [hs.lv]; exact hj
  have h1' : 0 ≤ (j : Int) ∧ (j : Int) < ((ofS s).T.length : Int) := h1
  have hv' : 0 ≤ (j : Int) ∧ (j : Int) < ((ofS s).V.length : Int) := by show _ ∧ _ < (s.vers.length : Int); omega
  by_cases h2 : tmay t = true
  rotate_left
  · refine ⟨s.l, s.vers, 2, ?_, ?_, hs, rfl⟩
    · unfold shelf_Shelf_Set.f
      rw [there_in hj, obind, if_pos rfl, tensor_May_eq, obind, if_neg h2]
    · unfold ref19_Shelf_Set.f
      rw [rin_in h1, obind, if_pos rfl, ref1_TensorMay_eq, obind, if_neg h2]
      rfl
  have hlen : t.Shape.length ≤ 9223372036854775806 := by have := (tmay_fits h2).2.1; omega
  by_cases h3 : t.Shape = s.l[j].Shape
  · refine ⟨_, _, _, Set_in hs hj h2 (by rw [getD_get _ _ _ hj]; exact h3), ?_, hs.put hj h2 (by rw [getD_get _ _ _ hj]; exact h3) _, by simp⟩
    unfold ref19_Shelf_Set.f
    rw [rin_in h1, obind, if_pos rfl, ref1_TensorMay_eq, obind, if_pos h2, if_pos h1', show rd (ofS s).T (j : Int) = s.l[j] from rd_nat s.l j hj, ref1_SameInts_eq _ _ hlen, obind, if_pos (decide_eq_true h3), if_pos hv', put_at _ _ j _ rfl, put_at _ _ j _ rfl,
      show rd (ofS s).V (j : Int) = s.vers[j] from rd_nat s.vers j hv, getD_get _ _ _ hv]
    rfl
  · refine ⟨s.l, s.vers, 2, ?_, ?_, hs, rfl⟩
    · unfold shelf_Shelf_Set.f
      rw [there_in hj, obind, if_pos rfl, tensor_May_eq, obind, if_pos h2, if_pos h1, rd_nat _ j hj, shape_Same_eq _ _ hlen, obind, if_neg (by simpa using h3)]
    · unfold ref19_Shelf_Set.f
      rw [rin_in h1, obind, if_pos rfl, ref1_TensorMay_eq, obind, if_pos h2, if_pos h1', show rd (ofS s).T (j : Int) = s.l[j] from rd_nat s.l j hj, ref1_SameInts_eq _ _ hlen, obind, if_neg (by simpa using h3)]
      rfl
theorem Zero_both {s : Shelf} (hs : Sound s) (i : Int) : ∃ (g' : List Tensor) (c : Int), shelf_Shelf_Zero.f s i = some (g', c) ∧ ref19_Shelf_Zero.f (ofS s) i = some (g', c) ∧ Sound ⟨s.l, s.vers, g'⟩ := by
  by_cases h1 : 0 ≤ i ∧ i < (s.l.length : Int)
  rotate_left
  · refine ⟨s.grads, 7, ?_, ?_, hs⟩
    · unfold shelf_Shelf_Zero.f
      rw [there_out h1, obind, if_neg (by decide)]
    · unfold ref19_Shelf_Zero.f
      rw [rin_out h1, obind, if_neg (by decide)]
      rfl
  obtain ⟨j, rfl⟩ : ∃ j : Nat, i = (j : Int) := ⟨i.toNat, by omega⟩
  have hj : j < s.l.length := by omega
  refine ⟨_, _, Zero_in hs hj, ?_, hs.zero hj⟩
  unfold ref19_Shelf_Zero.f
  rw [rin_in h1, obind, if_pos rfl, if_pos (show 0 ≤ (j : Int) ∧ (j : Int) < ((ofS s).T.length : Int) from h1), show rd (ofS s).T (j : Int) = s.l[j] from rd_nat s.l j hj, ref1_New_eq, obind,
    if_pos (show 0 ≤ (j : Int) ∧ (j : Int) < ((ofS s).G.length : Int) by show _ ∧ _ < (s.grads.length : Int); rw [hs.lg]; exact h1), put_at _ _ j _ rfl, getD_get _ _ _ hj]
  rfl
theorem RCommit_in {s : Shelf} (hs : Sound s) {x : List Tensor} (hl : x.length = s.l.length) (hx : ∀ i (h : i < x.length) (h' : i < s.l.length), tmay x[i] = true ∧ x[i].Shape = s.l[i].Shape) :
    ref19_Shelf_Commit.f (ofS s) x = some ((List.range s.l.length).map (fun i => addT (s.grads.getD i default) (x.getD i default)), 0) := by
  have hle := hs.le
  have k0 : loop (ref19_Shelf_Commit.l0 x (ofS s)) 0 = some (.go (x.length : Int)) := by
    refine loop_to _ (fun k st => ∃ j : Nat, k + j = x.length ∧ st = (j : Int)) ?_ x.length _ ⟨0, rfl, rfl⟩
    rintro k _ ⟨j, hk, rfl⟩
    unfold ref19_Shelf_Commit.l0
    by_cases hj : j < x.length
    · right
      have hj' : j < s.l.length := by omega
      obtain ⟨m1, m2⟩ := hx j hj hj'
      rw [if_pos (by omega), if_pos (by omega), rd_nat x j hj, ref1_TensorMay_eq]
      simp only [bindS]
      rw [if_pos m1, if_pos (show 0 ≤ (j : Int) ∧ (j : Int) < ((ofS s).T.length : Int) by show _ ∧ _ < (s.l.length : Int); omega), show rd (ofS s).T (j : Int) = s.l[j] from rd_nat s.l j hj', ref1_SameInts_eq _ _ (by have := (tmay_fits m1).2.1; omega)]
      simp only
      rw [if_pos (decide_eq_true m2)]
      exact ⟨_, k - 1, rfl, by omega, j + 1, by omega, by rw [w64_id (by omega) (by omega)]; rfl⟩
    · left
      have hz : j = x.length := by omega
      subst hz
      rw [if_neg (by omega)]
  have k1 : loop (ref19_Shelf_Commit.l1 x) (0, s.grads) = some ((x.length : Int), (List.range s.l.length).map (fun i => addT (s.grads.getD i default) (x.getD i default))) := by
    refine loop_to _ (fun k st => ∃ (j : Nat) (gs : List Tensor), k + j = x.length ∧ st = ((j : Int), gs) ∧ gs.length = s.l.length ∧ ∀ i (h : i < gs.length), gs[i] = if i < j then addT (s.grads.getD i default) (x.getD i default) else s.grads.getD i default) ?_ x.length _ ⟨0, s.grads, rfl, rfl, hs.lg, fun i h => by rw [if_neg (by omega), getD_get _ _ _ h]⟩
    rintro k _ ⟨j, gs, hk, rfl, hg, hv⟩
    unfold ref19_Shelf_Commit.l1
    simp only
    by_cases hj : j < x.length
    · right
      have hjg : j < gs.length := by omega
      rw [if_pos (by omega), if_pos (by omega), if_pos (by omega), rd_nat x j hj, rd_nat gs j hjg, ref1_Two_eq]
      simp only [bindS]
      refine ⟨_, k - 1, rfl, by omega, j + 1, _, by omega, by rw [w64_id (by omega) (by omega)]; rfl, by simp [hg], fun i h => ?_⟩
      simp only [put_at gs _ j _ rfl, List.length_set] at h ⊢
      rw [List.getElem_set]
      by_cases hij : j = i
      · subst hij
        rw [if_pos rfl, if_pos (by omega), hv j h, if_neg (by omega), getD_get x _ _ hj]
        rfl
      · rw [if_neg hij, hv i h]
        by_cases hlt : i < j
        · rw [if_pos hlt, if_pos (by omega)]
        · rw [if_neg hlt, if_neg (by omega)]
    · left
      have hz : j = x.length := by omega
      subst hz
      rw [if_neg (by omega)]
      congr 2
      apply List.ext_getElem
      · simp [hg]
      · intro i h1 h2
        rw [hv i h1, if_pos (by omega)]; simp
  unfold ref19_Shelf_Commit.f
  rw [if_pos (show (x.length : Int) = ((ofS s).T.length : Int) by show _ = (s.l.length : Int); omega), k0, obind]
  simp only [Out2.on]
  rw [show (ofS s).G = s.grads from rfl, k1, obind]

theorem RCommit_no {s : Shelf} (hs : Sound s) {x : List Tensor} (hl : x.length = s.l.length) (h : ¬ ∀ i (h : i < x.length) (h' : i < s.l.length), tmay x[i] = true ∧ x[i].Shape = s.l[i].Shape) : ref19_Shelf_Commit.f (ofS s) x = some (s.grads, 2) := by
  have hle := hs.le
  obtain ⟨r, e, hr⟩ := loop_ex (body := ref19_Shelf_Commit.l0 x (ofS s)) (fun r => r = .ret (s.grads, 2)) (fun k st => ∃ j : Nat, k + j = x.length ∧ st = (j : Int) ∧ ∀ i (h : i < x.length) (h' : i < s.l.length), i < j → tmay x[i] = true ∧ x[i].Shape = s.l[i].Shape) (fun k st ⟨j, hk, hst, hi⟩ => by
    subst hst
    unfold ref19_Shelf_Commit.l0
    by_cases hj : j < x.length
    · have hj' : j < s.l.length := by omega
      rw [if_pos (by omega), if_pos (by omega), rd_nat x j hj, ref1_TensorMay_eq]
      simp only [bindS]
      by_cases m1 : tmay x[j] = true
      · rw [if_pos m1, if_pos (show 0 ≤ (j : Int) ∧ (j : Int) < ((ofS s).T.length : Int) by show _ ∧ _ < (s.l.length : Int); omega), show rd (ofS s).T (j : Int) = s.l[j] from rd_nat s.l j hj', ref1_SameInts_eq _ _ (by have := (tmay_fits m1).2.1; omega)]
        simp only
        by_cases m2 : x[j].Shape = s.l[j].Shape
        · right
          rw [if_pos (decide_eq_true m2)]
          refine ⟨_, k - 1, rfl, by omega, j + 1, by omega, by rw [w64_id (by omega) (by omega)]; rfl, fun i h h' hij => ?_⟩
          by_cases e : i = j
          · subst e; exact ⟨m1, m2⟩
          · exact hi i h h' (by omega)
        · left
          rw [if_neg (by simpa using m2)]
          exact ⟨_, rfl, rfl⟩
      · left
        have m1' : ¬ tmay (⟨x[j].Shape, x[j].Data⟩ : Tensor) = true := m1
        rw [if_neg m1']
        exact ⟨_, rfl, rfl⟩
    · exfalso
      exact h (fun i h h' => hi i h h' (by omega))) x.length _ ⟨0, by omega, rfl, fun i h h' h0 => absurd h0 (by omega)⟩
  unfold ref19_Shelf_Commit.f
  rw [if_pos (show (x.length : Int) = ((ofS s).T.length : Int) by show _ = (s.l.length : Int); omega), show loop (ref19_Shelf_Commit.l0 x (ofS s)) 0 = some r from e, obind, hr]
  rfl

theorem Commit_both {s : Shelf} (hs : Sound s) (x : List Tensor) : ∃ (g' : List Tensor) (c : Int), shelf_Shelf_Commit.f s x = some (g', c) ∧ ref19_Shelf_Commit.f (ofS s) x = some (g', c) ∧ Sound ⟨s.l, s.vers, g'⟩ := by
  by_cases hl : x.length = s.l.length
  · by_cases hx : ∀ i (h : i < x.length) (h' : i < s.l.length), tmay x[i] = true ∧ x[i].Shape = s.l[i].Shape
    · exact ⟨_, _, Commit_in hs hl hx, RCommit_in hs hl hx, hs.commit hl hx⟩
    · exact ⟨_, _, Commit_no hs hl hx, RCommit_no hs hl hx, hs⟩
  · refine ⟨_, _, Commit_len hl, ?_, hs⟩
    unfold ref19_Shelf_Commit.f
    rw [if_neg (show ¬ (x.length : Int) = ((ofS s).T.length : Int) by show ¬ _ = (s.l.length : Int); omega)]
    rfl
theorem Get_out {s : Shelf} {i : Int} (h : ¬ (0 ≤ i ∧ i < (s.l.length : Int))) : shelf_Shelf_Get.f s i = some (⟨[], []⟩, 0, 7) := by
  unfold shelf_Shelf_Get.f
  rw [there_out h, obind, if_neg (by decide)]
theorem Grad_out {s : Shelf} {i : Int} (h : ¬ (0 ≤ i ∧ i < (s.l.length : Int))) : shelf_Shelf_Grad.f s i = some (⟨[], []⟩, 7) := by
  unfold shelf_Shelf_Grad.f
  rw [there_out h, obind, if_neg (by decide)]
end Go.Proofs.Yteaoijahdinciaa
