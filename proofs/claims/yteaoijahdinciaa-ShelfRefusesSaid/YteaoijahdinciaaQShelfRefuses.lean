/- Plain law of ShelfRefuses (its walk printed with JOIN=law19_ShelfRefuses): what is refused changes nothing. -/
import Derived.Test.YteaoijahdinciaaQA19
import Derived.Test.YteaoijahdinciaaP20
import Derived.Test.YteaoijahdinciaaLShelfRefuses
namespace Go.Proofs.Yteaoijahdinciaa
open Go Go.RowKit
set_option linter.unusedSimpArgs false
set_option linter.unusedVariables false

theorem law12_Small_ex (l : List Tensor) (hl : l.length ≤ 9223372036854775807) : ∃ b, law12_Small.f l = some b ∧ (b = true → l.length ≤ 41) := by
  obtain ⟨r, e, hr⟩ := loop_ex (body := law12_Small.l0 l) (fun r => r = .ret false ∨ (∃ y, r = .go y) ∧ l.length ≤ 41) (fun k st => ∃ j : Nat, k + j = l.length ∧ j ≤ 41 ∧ st = (j : Int)) (fun k st ⟨j, hk, hj41, hst⟩ => by
    subst hst
    unfold law12_Small.l0
    by_cases hj : j < l.length
    · by_cases c : 40 < (j : Int)
      · left
        rw [if_pos (by omega), if_pos c]
        exact ⟨_, rfl, .inl rfl⟩
      · rw [if_pos (by omega), if_neg c, if_pos (by omega), law3_Small_ex]
        simp only [bindS]
        by_cases d : decide (smallP (⟨(rd l (j : Int)).Shape, (rd l (j : Int)).Data⟩ : Tensor)) = true
        · right
          rw [if_pos d]
          exact ⟨_, k - 1, rfl, by omega, j + 1, by omega, by omega, by rw [w64_id (by omega) (by omega)]; rfl⟩
        · left
          rw [if_neg d]
          exact ⟨_, rfl, .inl rfl⟩
    · left
      rw [if_neg (by omega)]
      exact ⟨_, rfl, .inr ⟨⟨_, rfl⟩, by omega⟩⟩) l.length _ ⟨0, by omega, by omega, rfl⟩
  unfold law12_Small.f
  rw [show loop (law12_Small.l0 l) 0 = some r from e, obind]
  rcases hr with rfl | ⟨⟨y, rfl⟩, h⟩
  · exact ⟨_, rfl, fun h => by cases h⟩
  · exact ⟨_, rfl, fun _ => h⟩

theorem law19_ShelfRefuses.plain (l : List Tensor) (t : Tensor) (i : Int) (hl : l.length ≤ 9223372036854775807) : law19_ShelfRefuses.f l t i = some true := by
  obtain ⟨b, hb, hb41⟩ := law12_Small_ex l hl
  unfold law19_ShelfRefuses.f
  rw [law19_awake_ev, obind, if_pos rfl, hb, obind, law3_Small_ex]
  by_cases c0 : b = true ∧ decide (smallP t) = true
  rotate_left
  · by_cases c1 : b = true
    · rw [if_pos c1, obind, if_neg (fun d => c0 ⟨c1, d⟩), obind, if_neg (by decide)]
    · rw [if_neg c1, obind, if_neg (by decide)]
  rw [if_pos c0.1, obind, if_pos c0.2, obind, if_pos rfl]
  replace hl := hb41 c0.1
  by_cases hg : l.length ≤ 32 ∧ ∀ t ∈ l, tmay t = true
  rotate_left
  · rw [shelf_New_no l (by omega) hg, obind, ref19_New_no l hg, obind]
    simp only [onPtr]
    split <;> simp
  obtain ⟨h32, hm⟩ := hg
  rw [shelf_New_ok l h32 hm, obind]
  simp only [onPtr]
  rw [ref19_New_ok l h32 hm, obind]
  have S0 := Sound.new h32 hm
  simp only
  rw [if_pos trivial]
  by_cases hA : (0 ≤ i ∧ i < (l.length : Int)) ∧ tmay t = true ∧ t.Shape = (rd l i).Shape
  · obtain ⟨h1, h2, h3⟩ := hA
    obtain ⟨j, rfl⟩ : ∃ j : Nat, i = (j : Int) := ⟨i.toNat, by omega⟩
    have hj : j < l.length := by omega
    rw [if_pos h1.1, if_pos h1.2, ref1_TensorMay_eq, obind, if_pos h2, if_pos h1, ref1_SameInts_eq _ _ (by have := (tmay_fits h2).2.1; omega), obind, if_pos (decide_eq_true h3), obind, if_pos rfl,
      Set_in S0 (i := j) hj h2 (by rw [h3, rd_nat l j hj, getD_get _ _ _ hj]), obind]
    rfl
  · have hB : (if 0 ≤ i then (if i < (l.length : Int) then ((ref1_TensorMay.f t).bind fun r => if r = true then (if 0 ≤ i ∧ i < (l.length : Int) then ((ref1_SameInts.f t.Shape ((rd l i).Shape)).bind fun r => if r = true then (some 0) else (some 1)) else none) else (some 1)) else (some 1)) else (some 1) : Option Nat) = some 1 := by
      by_cases c1 : 0 ≤ i
      · by_cases c2 : i < (l.length : Int)
        · rw [if_pos c1, if_pos c2, ref1_TensorMay_eq, obind]
          by_cases c3 : tmay t = true
          · rw [if_pos c3, if_pos ⟨c1, c2⟩, ref1_SameInts_eq _ _ (by have := (tmay_fits c3).2.1; omega), obind, if_neg (by simp; exact fun e => hA ⟨⟨c1, c2⟩, c3, e⟩)]
          · rw [if_neg c3]
        · rw [if_pos c1, if_neg c2]
      · rw [if_neg c1]
    obtain ⟨c, e1, hc⟩ := Set_no S0 (i := i) (t := t) hA
    rw [hB, obind, if_neg (by decide), e1, obind]
    simp only [List.nil_append]
    have s1 := Same_in S0
    simp only at s1
    rw [if_pos (by omega), if_pos (by omega), Commit_len (by simp), obind]
    simp only
    by_cases hz : 0 < (l.length : Int)
    · have hlast : w64 ((l.length : Int) - 1) = ((l.length - 1 : Nat) : Int) := by rw [w64_id (by omega) (by omega)]; omega
      have hk : l.length - 1 < l.length := by omega
      rw [hlast, if_pos hz, if_pos (by omega), if_pos (by omega), rd_nat l _ hk]
      have hmk := hm l[l.length - 1] (List.getElem_mem hk)
      rw [ref1_SameInts_eq _ _ (by have := (tmay_fits hmk).2.1; omega), obind]
      by_cases hs : l[l.length - 1].Shape = [3, 3, 3]
      · rw [if_pos (decide_eq_true hs), if_neg hc, if_pos trivial, s1, obind]
      · rw [if_neg (by simpa using hs), put_at l _ (l.length - 1) _ rfl, Commit_no S0 (by simp) (fun h => ?_), obind]
        · simp only
          rw [if_neg hc, if_pos trivial, if_neg (by decide), s1, obind]
        · have := (h (l.length - 1) (by simpa using hk) hk).2
          simp only [List.getElem_set_self] at this
          exact hs this.symm
    · rw [if_neg hz, if_neg hc, if_pos trivial, s1, obind]

end Go.Proofs.Yteaoijahdinciaa
