/- Plain law of ShelfHands (its walk printed with GHOST=law19_ShelfHands:shelf_Shelf_All:9:GHOST19.txt CONST=kernel_Two): what is handed out can be changed; the shelf hears nothing of it. -/
import Derived.Test.YteaoijahdinciaaQA19
import Derived.Test.YteaoijahdinciaaP20
import Derived.Test.YteaoijahdinciaaLShelfHands
namespace Go.Proofs.Yteaoijahdinciaa
open Go Go.RowKit
set_option linter.unusedSimpArgs false
set_option linter.unusedVariables false

theorem law12_Small_ex (l : List Tensor) (hl : l.length ≤ 9223372036854775807) : ∃ b, law12_Small.f l = some b ∧ (b = true → l.length ≤ 41) := by
  obtain ⟨r, e, hr⟩ := loop_ex (body := law12_Small.l0 l) (fun r => r = .ret false ∨ (∃ y, r = .go y) ∧ l.length ≤ 41) (fun k st => ∃ j : Nat, k + j = l.length ∧ j ≤ 41 ∧ st = (j : Int)) (fun k st ⟨j, hk, hj41, hst⟩ => by
    subst hst
    unfold law12_Small.l0
    by_cases hj : j < l.length
    · by_cases c : 40 < (j : Int)
      · left
        rw [if_pos (by omega), if_pos c]
        exact ⟨_, rfl, .inl rfl⟩
      · rw [if_pos (by omega), if_neg c, if_pos (by omega), law3_Small_ex]
        simp only [bindS]
        by_cases d : decide (smallP (⟨(rd l (j : Int)).Shape, (rd l (j : Int)).Data⟩ : Tensor)) = true
        · right
          rw [if_pos d]
          exact ⟨_, k - 1, rfl, by omega, j + 1, by omega, by omega, by rw [w64_id (by omega) (by omega)]; rfl⟩
        · left
          rw [if_neg d]
          exact ⟨_, rfl, .inl rfl⟩
    · left
      rw [if_neg (by omega)]
      exact ⟨_, rfl, .inr ⟨⟨_, rfl⟩, by omega⟩⟩) l.length _ ⟨0, by omega, by omega, rfl⟩
  unfold law12_Small.f
  rw [show loop (law12_Small.l0 l) 0 = some r from e, obind]
  rcases hr with rfl | ⟨⟨y, rfl⟩, h⟩
  · exact ⟨_, rfl, fun h => by cases h⟩
  · exact ⟨_, rfl, fun _ => h⟩

theorem bS {α σ ρ : Type} (x : α) (f : α → Step σ ρ) : bindS (some x) f = f x := rfl

theorem hands_loop {l : List Tensor} {v : List Int} {x i n : Nat} (hi : i < l.length) (hn : l[i].Data.length = n) (hb : n ≤ 549755813888) (z b a : List Nat) (hz : z.length = n) (h2 : b.length = n) (h3 : a.length = n) :
    ∃ y, loop (law19_ShelfHands.l1 (i : Int) (l, v) x) (0, z, b, a) = some y := by
  obtain ⟨r, e, _⟩ := loop_ex (body := law19_ShelfHands.l1 (i : Int) (l, v) x) (fun _ => True) (fun k st => ∃ (j : Nat) (z b a : List Nat), k + j = n ∧ z.length = n ∧ b.length = n ∧ a.length = n ∧ st = ((j : Int), z, b, a)) (fun k st ⟨j, z, b, a, hk, hz, h2, h3, hst⟩ => by
    subst hst
    unfold law19_ShelfHands.l1
    simp only
    by_cases hj : j < n
    · right
      rw [if_pos (by omega), if_pos (by omega), if_pos (by omega), if_pos (by omega), if_pos (by rw [rd_nat l i hi]; omega), if_pos (by omega)]
      exact ⟨_, k - 1, rfl, by omega, j + 1, put z (j : Int) x, put b (j : Int) x, put a (j : Int) x, by omega, by rw [put_length]; exact hz, by rw [put_length]; exact h2, by rw [put_length]; exact h3, by rw [w64_id (by omega) (by omega)]; rfl⟩
    · left
      rw [if_neg (by omega)]
      exact ⟨_, rfl, trivial⟩) n _ ⟨0, z, b, a, by omega, hz, h2, h3, rfl⟩
  exact ⟨r, e⟩

theorem law19_ShelfHands.plain (l : List Tensor) (x : Nat) (hl : l.length ≤ 9223372036854775807) : law19_ShelfHands.f l x = some true := by
  obtain ⟨b, hb, hb41⟩ := law12_Small_ex l hl
  unfold law19_ShelfHands.f
  rw [law19_awake_ev, obind, if_pos rfl, hb, obind]
  by_cases c0 : b = true
  rotate_left
  · rw [if_neg c0]
  rw [if_pos c0]
  replace hl := hb41 c0
  by_cases hg : l.length ≤ 32 ∧ ∀ t ∈ l, tmay t = true
  rotate_left
  · have hc : ¬ (if 32 < l.length then 13 else 2 : Int) = 0 := by split <;> decide
    rw [shelf_New_no l (by omega) hg, obind]
    simp only [onPtr]
    rw [ref19_New_no l hg, obind]
    simp only
    rw [if_neg hc, if_pos trivial]
  obtain ⟨h32, hm⟩ := hg
  rw [shelf_New_ok l h32 hm, obind]
  simp only [onPtr]
  rw [ref19_New_ok l h32 hm, obind]
  simp only
  rw [if_pos trivial]
  have S0 := Sound.new h32 hm
  have key : ∃ y, loop (law19_ShelfHands.l0 l ⟨l, List.replicate l.length 0, l.map nought⟩ x) 0 = some y := by
    obtain ⟨r, e, _⟩ := loop_ex (body := law19_ShelfHands.l0 l ⟨l, List.replicate l.length 0, l.map nought⟩ x) (fun _ => True) (fun k st => ∃ j : Nat, k + j = l.length ∧ st = (j : Int)) (fun k st ⟨j, hk, hst⟩ => by
      subst hst
      unfold law19_ShelfHands.l0
      by_cases hj : j < l.length
      · right
        have hmj := hm l[j] (List.getElem_mem hj)
        obtain ⟨y, ey⟩ := hands_loop (l := l) (v := List.replicate l.length 0) (x := x) (i := j) hj rfl (tmay_len hmj).2 (gd l j) ((l.map nought).getD j default).Data (l.getD j default).Data (by unfold gd; rw [getD_get _ _ _ hj])
          (by rw [getD_get _ _ _ (by simpa using hj), List.getElem_map, (nought_may hmj).1]; simp) (by rw [getD_get _ _ _ hj])
        rw [if_pos (by omega), Get_in S0 (i := j) hj, bS, Grad_in S0 (i := j) hj, bS, All_in S0, bS]
        simp only [Int.toNat_natCast]
        rw [ey, bS, if_pos (by simp; omega)]
        exact ⟨_, k - 1, rfl, by omega, j + 1, by omega, by rw [w64_id (by omega) (by omega)]; rfl⟩
      · left
        rw [if_neg (by omega)]
        exact ⟨_, rfl, trivial⟩) l.length _ ⟨0, by omega, rfl⟩
    exact ⟨r, e⟩
  obtain ⟨y, ey⟩ := key
  have s1 := Same_in S0
  simp only at s1
  rw [ey, obind, s1, obind]

end Go.Proofs.Yteaoijahdinciaa
