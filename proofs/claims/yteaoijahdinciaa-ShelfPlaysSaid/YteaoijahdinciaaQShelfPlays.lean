/- Plain law of ShelfPlays (its walk printed with JOIN=law19_ShelfPlays@1 CONST=kernel_Two): whatever is done, the shelf has what the reference has. -/
import Derived.Test.YteaoijahdinciaaQA19
import Derived.Test.YteaoijahdinciaaP21
import Derived.Test.YteaoijahdinciaaLShelfPlays
namespace Go.Proofs.Yteaoijahdinciaa
open Go Go.RowKit
set_option linter.unusedSimpArgs false
set_option linter.unusedVariables false

theorem law12_Small_ex (l : List Tensor) (hl : l.length ≤ 9223372036854775807) : ∃ b, law12_Small.f l = some b ∧ (b = true → l.length ≤ 41) := by
  obtain ⟨r, e, hr⟩ := loop_ex (body := law12_Small.l0 l) (fun r => r = .ret false ∨ (∃ y, r = .go y) ∧ l.length ≤ 41) (fun k st => ∃ j : Nat, k + j = l.length ∧ j ≤ 41 ∧ st = (j : Int)) (fun k st ⟨j, hk, hj41, hst⟩ => by
    subst hst
    unfold law12_Small.l0
    by_cases hj : j < l.length
    · by_cases c : 40 < (j : Int)
      · left
        rw [if_pos (by omega), if_pos c]
        exact ⟨_, rfl, .inl rfl⟩
      · rw [if_pos (by omega), if_neg c, if_pos (by omega), law3_Small_ex]
        simp only [bindS]
        by_cases d : decide (smallP (⟨(rd l (j : Int)).Shape, (rd l (j : Int)).Data⟩ : Tensor)) = true
        · right
          rw [if_pos d]
          exact ⟨_, k - 1, rfl, by omega, j + 1, by omega, by omega, by rw [w64_id (by omega) (by omega)]; rfl⟩
        · left
          rw [if_neg d]
          exact ⟨_, rfl, .inl rfl⟩
    · left
      rw [if_neg (by omega)]
      exact ⟨_, rfl, .inr ⟨⟨_, rfl⟩, by omega⟩⟩) l.length _ ⟨0, by omega, by omega, rfl⟩
  unfold law12_Small.f
  rw [show loop (law12_Small.l0 l) 0 = some r from e, obind]
  rcases hr with rfl | ⟨⟨y, rfl⟩, h⟩
  · exact ⟨_, rfl, fun h => by cases h⟩
  · exact ⟨_, rfl, fun _ => h⟩

theorem law19_Small_ex (l : List Deed) (hl : l.length ≤ 9223372036854775807) (hL : ∀ d ∈ l, d.L.length ≤ 9223372036854775807) : ∃ b, law19_Small.f l = some b ∧ (b = true → l.length ≤ 61) := by
  obtain ⟨r, e, hr⟩ := loop_ex (body := law19_Small.l0 l) (fun r => r = .ret false ∨ (∃ y, r = .go y) ∧ l.length ≤ 61) (fun k st => ∃ j : Nat, k + j = l.length ∧ j ≤ 61 ∧ st = (j : Int)) (fun k st ⟨j, hk, hj41, hst⟩ => by
    subst hst
    unfold law19_Small.l0
    by_cases hj : j < l.length
    · by_cases c : 60 < (j : Int)
      · left
        rw [if_pos (by omega), if_pos c]
        exact ⟨_, rfl, .inl rfl⟩
      · obtain ⟨b, hb, _⟩ := law12_Small_ex l[j].L (hL _ (List.getElem_mem hj))
        rw [if_pos (by omega), if_neg c, if_pos (by omega), law3_Small_ex, rd_nat l j hj, hb]
        simp only [bindS]
        by_cases d : decide (smallP (⟨l[j].T.Shape, l[j].T.Data⟩ : Tensor)) = true
        · rw [if_pos d]
          by_cases d2 : b = true
          · right
            rw [if_pos d2]
            exact ⟨_, k - 1, rfl, by omega, j + 1, by omega, by omega, by rw [w64_id (by omega) (by omega)]; rfl⟩
          · left
            rw [if_neg d2]
            exact ⟨_, rfl, .inl rfl⟩
        · left
          rw [if_neg d]
          exact ⟨_, rfl, .inl rfl⟩
    · left
      rw [if_neg (by omega)]
      exact ⟨_, rfl, .inr ⟨⟨_, rfl⟩, by omega⟩⟩) l.length _ ⟨0, by omega, by omega, rfl⟩
  unfold law19_Small.f
  rw [show loop (law19_Small.l0 l) 0 = some r from e, obind]
  rcases hr with rfl | ⟨⟨y, rfl⟩, h⟩
  · exact ⟨_, rfl, fun h => by cases h⟩
  · exact ⟨_, rfl, fun _ => h⟩

theorem bS {α σ ρ : Type} (x : α) (f : α → Step σ ρ) : bindS (some x) f = f x := rfl

theorem plays_step (x1 : List Deed) (x0 : List Tensor) {s : Shelf} (hs : Sound s) (h0 : s.l.length = x0.length) {j : Nat} (hj : j < x1.length) (hb : x1.length ≤ 61) :
    ∃ s' : Shelf, Sound s' ∧ s'.l.length = x0.length ∧ law19_ShelfPlays.l2 x1 x0 ((j : Int), s.l, s.grads, s.vers, s.l, s.vers, s.grads) = .next (((j + 1 : Nat) : Int), s'.l, s'.grads, s'.vers, s'.l, s'.vers, s'.grads) := by
  have hw : w64 ((j : Int) + 1) = ((j + 1 : Nat) : Int) := by rw [w64_id (by omega) (by omega)]; rfl
  unfold law19_ShelfPlays.l2
  simp only
  rw [if_pos (by omega), bS, if_pos rfl, if_pos (by omega)]
  generalize rd x1 (j : Int) = d
  obtain ⟨l, v, g⟩ := s
  simp only at h0 ⊢
  have hin : (if 0 ≤ d.I then (if d.I < (x0.length : Int) then (some true) else (some false)) else (some false) : Option Bool) = some (decide (0 ≤ d.I ∧ d.I < (l.length : Int))) := by
    rw [h0]
    by_cases h1 : 0 ≤ d.I
    · by_cases h2 : d.I < (x0.length : Int)
      · rw [if_pos h1, if_pos h2, decide_eq_true ⟨h1, h2⟩]
      · rw [if_pos h1, if_neg h2, decide_eq_false (fun c => h2 c.2)]
    · rw [if_neg h1, decide_eq_false (fun c => h1 c.1)]
  rw [hin, bS]
  have set := Set_both hs d.I ⟨d.T.Shape, d.T.Data⟩
  obtain ⟨l', v', c, e1, e2, hs', hl'⟩ := set
  simp only [ofS] at e1 e2 hs' hl'
  have same := Same_in hs
  simp only at same
  by_cases c0 : d.Do = 0
  · have s1 := Same_in hs'
    simp only at s1
    refine ⟨_, hs', by simp only; omega, ?_⟩
    rw [if_pos c0, obind, if_pos rfl, obind, if_pos rfl, e1, obind, e2, obind]
    simp only
    rw [if_pos trivial, bS]
    simp only
    rw [if_pos trivial, s1, bS, if_pos rfl, hw]
  by_cases c1 : d.Do = 1
  · have s1 := Same_in hs'
    simp only at s1
    refine ⟨_, hs', by simp only; omega, ?_⟩
    rw [if_neg c0, obind, if_neg (by decide), if_pos c1, obind, if_pos rfl, e1, obind, e2, obind]
    simp only
    rw [if_pos trivial, bS]
    simp only
    rw [if_pos trivial, s1, bS, if_pos rfl, hw]
  clear e1 e2 hs' hl' l' v' c
  rw [if_neg c0, obind, if_neg (by decide), if_neg c1, obind, if_neg (by decide)]
  by_cases c2 : d.Do = 2
  · refine ⟨_, hs, h0, ?_⟩
    rw [if_pos c2, obind, if_pos rfl]
    by_cases hI : 0 ≤ d.I ∧ d.I < (l.length : Int)
    · obtain ⟨i, hi⟩ : ∃ i : Nat, d.I = (i : Int) := ⟨d.I.toNat, by omega⟩
      have hil : i < l.length := by omega
      have hlv := hs.lv
      simp only at hlv
      have hiv : i < v.length := by omega
      have G := Get_in hs (i := i) hil
      have m1 := tmay_len (hs.ml i hil)
      simp only at G m1
      rw [getD_get _ _ _ hil, getD_get _ _ _ hiv] at G
      rw [decide_eq_true hI, hi, G, obind, if_pos rfl]
      simp only
      rw [if_pos trivial, if_pos (by omega), rd_nat v i hiv, if_pos rfl, if_pos (by omega), rd_nat l i hil, ref1_SameTensor_eq _ _ (by omega) (by omega), show sameT l[i] (⟨l[i].Shape, l[i].Data⟩ : Tensor) = true from sameT_refl _, obind, if_pos rfl, bS]
      simp only
      rw [if_pos trivial, same, bS, if_pos rfl, hw]
    · rw [decide_eq_false hI, Get_out (s := ⟨l, v, g⟩) hI, obind, if_neg (by decide)]
      simp only
      rw [if_pos trivial, if_pos trivial, if_pos (by simp), bS]
      simp only
      rw [if_pos trivial, same, bS, if_pos rfl, hw]
  rw [if_neg c2, obind, if_neg (by decide)]
  obtain ⟨g', c, e1, e2, hs'⟩ := Commit_both hs d.L
  simp only [ofS] at e1 e2 hs'
  by_cases c3 : d.Do = 3
  · have s1 := Same_in hs'
    simp only at s1
    refine ⟨_, hs', h0, ?_⟩
    rw [if_pos c3, obind, if_pos rfl, obind, if_pos rfl, e1, obind, e2, obind]
    simp only
    rw [if_pos trivial, bS]
    simp only
    rw [if_pos trivial, s1, bS, if_pos rfl, hw]
  by_cases c4 : d.Do = 4
  · have s1 := Same_in hs'
    simp only at s1
    refine ⟨_, hs', h0, ?_⟩
    rw [if_neg c3, obind, if_neg (by decide), if_pos c4, obind, if_pos rfl, e1, obind, e2, obind]
    simp only
    rw [if_pos trivial, bS]
    simp only
    rw [if_pos trivial, s1, bS, if_pos rfl, hw]
  clear e1 e2 hs' g' c
  rw [if_neg c3, obind, if_neg (by decide), if_neg c4, obind, if_neg (by decide)]
  by_cases c5 : d.Do = 5
  · refine ⟨_, hs, h0, ?_⟩
    rw [if_pos c5, obind, if_pos rfl]
    by_cases hI : 0 ≤ d.I ∧ d.I < (l.length : Int)
    · obtain ⟨i, hi⟩ : ∃ i : Nat, d.I = (i : Int) := ⟨d.I.toNat, by omega⟩
      have hil : i < l.length := by omega
      have hlg := hs.lg
      simp only at hlg
      have hig : i < g.length := by omega
      have G := Grad_in hs (i := i) hil
      have m1 := tmay_len (hs.mg i hig hil).1
      simp only at G m1
      rw [getD_get _ _ _ hig] at G
      rw [decide_eq_true hI, hi, G, obind, if_pos rfl]
      simp only
      rw [if_pos trivial, if_pos (by omega), rd_nat g i hig, ref1_SameTensor_eq _ _ (by omega) (by omega), show sameT g[i] (⟨g[i].Shape, g[i].Data⟩ : Tensor) = true from sameT_refl _, obind, if_pos rfl, bS]
      simp only
      rw [if_pos trivial, same, bS, if_pos rfl, hw]
    · rw [decide_eq_false hI, Grad_out (s := ⟨l, v, g⟩) hI, obind, if_neg (by decide)]
      simp only
      rw [if_pos trivial, if_pos (by simp), bS]
      simp only
      rw [if_pos trivial, same, bS, if_pos rfl, hw]
  rw [if_neg c5, obind, if_neg (by decide)]
  by_cases c6 : d.Do = 6
  · obtain ⟨g', c, e1, e2, hs'⟩ := Zero_both hs d.I
    simp only [ofS] at e1 e2 hs'
    have s1 := Same_in hs'
    simp only at s1
    refine ⟨_, hs', h0, ?_⟩
    rw [if_pos c6, obind, if_pos rfl, e1, obind, e2, obind]
    simp only
    rw [if_pos trivial, bS]
    simp only
    rw [if_pos trivial, s1, bS, if_pos rfl, hw]
  · refine ⟨_, hs, h0, ?_⟩
    rw [if_neg c6, obind, if_neg (by decide), bS]
    simp only
    rw [if_pos trivial, same, bS, if_pos rfl, hw]

theorem law19_ShelfPlays.plain (l : List Tensor) (d : List Deed) (hl : l.length ≤ 9223372036854775807) (hd : d.length ≤ 9223372036854775807) (hL : ∀ x ∈ d, x.L.length ≤ 9223372036854775807) : law19_ShelfPlays.f l d = some true := by
  obtain ⟨b, hb, hb41⟩ := law12_Small_ex l hl
  obtain ⟨b', hb', hb61⟩ := law19_Small_ex d hd hL
  unfold law19_ShelfPlays.f
  rw [law19_awake_ev, obind, if_pos rfl, hb, obind]
  by_cases c0 : b = true
  rotate_left
  · rw [if_neg c0]
  rw [if_pos c0, hb', obind]
  by_cases c1 : b' = true
  rotate_left
  · rw [if_neg c1]
  rw [if_pos c1]
  replace hl := hb41 c0
  replace hd := hb61 c1
  by_cases hg : l.length ≤ 32 ∧ ∀ t ∈ l, tmay t = true
  rotate_left
  · have hc : ¬ (if 32 < l.length then 13 else 2 : Int) = 0 := by split <;> decide
    have hl0 : loop law19_ShelfPlays.l0 () = some () := loop_to _ (fun _ _ => True) (fun _ _ _ => .inl rfl) 0 _ trivial
    rw [shelf_New_no l (by omega) hg, obind]
    simp only [onPtr]
    rw [ref19_New_no l hg, obind]
    simp only
    rw [if_pos trivial, if_neg hc, hl0, obind]
  obtain ⟨h32, hm⟩ := hg
  rw [shelf_New_ok l h32 hm, obind]
  simp only [onPtr]
  rw [ref19_New_ok l h32 hm, obind]
  simp only
  rw [if_pos trivial, if_pos trivial]
  have S0 := Sound.new h32 hm
  obtain ⟨r, e, y, hr⟩ := loop_ex (body := law19_ShelfPlays.l2 d l) (fun r => ∃ y, r = .go y) (fun k st => ∃ (j : Nat) (s : Shelf), k + j = d.length ∧ Sound s ∧ s.l.length = l.length ∧ st = ((j : Int), s.l, s.grads, s.vers, s.l, s.vers, s.grads)) (fun k st ⟨j, s, hk, hs, hsl, hst⟩ => by
    subst hst
    by_cases hj : j < d.length
    · right
      obtain ⟨s', hs', hsl', e⟩ := plays_step d l hs hsl hj hd
      exact ⟨_, k - 1, e, by omega, j + 1, s', by omega, hs', hsl', rfl⟩
    · left
      unfold law19_ShelfPlays.l2
      simp only
      rw [if_neg (by omega), bS, if_neg (by decide)]
      exact ⟨_, rfl, _, rfl⟩) d.length ((0 : Int), l, l.map nought, List.replicate l.length 0, l, List.replicate l.length 0, l.map nought) ⟨0, _, by omega, S0, rfl, rfl⟩
  rw [e, obind, hr]
  rfl

end Go.Proofs.Yteaoijahdinciaa
