/- Plain laws, part 2: the document's own shapes; what the first three laws say. -/
import Derived.Test.YteaoijahdinciaaP1
import Derived.Test.YteaoijahdinciaaF9
import Derived.Test.YteaoijahdinciaaF12
import Derived.Test.YteaoijahdinciaaF16
import Derived.Test.YteaoijahdinciaaF17
namespace Go.Proofs.Yteaoijahdinciaa
open Go Go.RowKit
set_option linter.unusedSimpArgs false
set_option linter.unusedVariables false

theorem ref1_Size_first (s : List Int) (hl : s.length ≤ 9223372036854775806) : loop (ref1_Size.l0 s) 0 = some (if s.any (fun x => decide (x < 1)) = true then .ret (0, 2) else .go (s.length : Int)) := by
  refine loop_to _ (fun k st => ∃ j : Nat, k + j = s.length ∧ st = (j : Int) ∧ s.any (fun x => decide (x < 1)) = (s.drop j).any (fun x => decide (x < 1))) ?_ s.length _ ⟨0, rfl, rfl, rfl⟩
  rintro k _ ⟨j, hk, rfl, h3⟩
  unfold ref1_Size.l0
  by_cases hj : j < s.length
  · rw [if_pos (by omega), if_pos (by omega), rd_nat s j hj]
    rw [drop_at hj, List.any_cons] at h3
    by_cases hc : s[j] < 1
    · left
      rw [if_pos hc, h3]
      simp [hc]
    · right
      rw [if_neg hc]
      refine ⟨_, k - 1, rfl, by omega, j + 1, by omega, by rw [w64_id (by omega) (by omega)]; rfl, by rw [h3]; simp [hc]⟩
  · left
    have hz : j = s.length := by omega
    subst hz
    rw [if_neg (by omega), h3, List.drop_length]
    simp

theorem ref1_Size_l1 : ref1_Size.l1 = sizeL := rfl

theorem ref1_Size_eq (s : List Int) : ref1_Size.f s = some (size s) := by
  unfold ref1_Size.f size
  by_cases h4 : 4 < s.length
  · rw [if_pos (by omega), if_pos h4]
  rw [if_neg (by omega), if_neg h4, ref1_Size_first s (by omega), obind]
  cases ha : s.any (fun x => decide (x < 1)) with
  | true => simp [Out2.on]
  | false =>
    simp only [Bool.false_eq_true, if_false, Out2.on]
    rw [ref1_Size_l1, shape_Size_loop s (pos_of_any ha) (by omega), obind]
    unfold sizeEnd
    rcases sizeGo_or s 1 with ⟨m, h⟩ | h
    · rw [h]; rfl
    · rw [h]; rfl

theorem ref1_May_eq (s : List Int) : ref1_May.f s = some (may s) := by
  unfold ref1_May.f may
  rw [ref1_Size_eq, obind]
  by_cases h : (size s).2 = 0 <;> simp [h]

theorem ref1_SameInts_eq (a b : List Int) (hl : a.length ≤ 9223372036854775806) : ref1_SameInts.f a b = some (decide (a = b)) := sameF_eq a b hl

theorem nm_at (s : List Int) (j : Nat) (hj : j < s.length) (hl : s.length ≤ 4) : 0 ≤ w64 ((s.length : Int) - ((j : Int) + 1)) ∧ w64 ((s.length : Int) - ((j : Int) + 1)) < (s.length : Int) ∧ rd s (w64 ((s.length : Int) - ((j : Int) + 1))) = nm s j := by
  rw [w64_id (by omega) (by omega)]
  refine ⟨by omega, by omega, ?_⟩
  unfold nm
  rw [dif_pos hj, rd_at s _ (s.length - 1 - j) (by omega) (by omega)]

theorem ref1_Spread_loop (a b : List Int) (ha : a.length ≤ 4) (hb : b.length ≤ 4) :
    loop (ref1_Spread.l0 b a) (1, List.replicate (max a.length b.length) 0) = some (spreadEnd a b ((max a.length b.length : Nat) + 1)) := by
  have hn : max a.length b.length ≤ 4 := by omega
  generalize hN : max a.length b.length = n at hn ⊢
  refine loop_to _ (fun k st => ∃ j : Nat, k + j = n ∧ st = ((j : Int) + 1, outN n (fun k => if k < j then mx a b k else 0)) ∧ ∀ k, k < j → fitAt a b k = true) ?_ n _ ⟨0, rfl, by rw [outN_zero]; rfl, by omega⟩
  rintro k _ ⟨j, hk, rfl, hf⟩
  unfold ref1_Spread.l0
  simp only [max_cast, hN, outN_length]
  by_cases hj : j < n
  · rw [if_pos (by omega)]
    have hw : w64 ((n : Int) - ((j : Int) + 1)) = ((n - 1 - j : Nat) : Int) := by
      rw [w64_id (by omega) (by omega)]; omega
    have hb1 : (0 : Int) ≤ ((n - 1 - j : Nat) : Int) ∧ ((n - 1 - j : Nat) : Int) < (n : Int) := by omega
    have hw1 : w64 ((j : Int) + 1 + 1) = ((j + 1 : Nat) : Int) + 1 := by rw [w64_id (by omega) (by omega)]; omega
    simp only [hw, hw1, if_pos hb1, put_at _ _ (n - 1 - j) _ rfl]
    have fin : fitAt a b j = true → ∃ s' m, (Step.next (((j + 1 : Nat) : Int) + 1, (outN n (fun k => if k < j then mx a b k else 0)).set (n - 1 - j) (mx a b j)) : Step (Int × List Int) (Out2 (Int × List Int) (List Int × Int))) = .next s' ∧ m < k ∧
        ∃ j : Nat, m + j = n ∧ s' = ((j : Int) + 1, outN n (fun k => if k < j then mx a b k else 0)) ∧ ∀ k, k < j → fitAt a b k = true := by
      intro hc
      rw [outN_set n j hj]
      refine ⟨_, k - 1, rfl, by omega, j + 1, by omega, rfl, fun k hk => ?_⟩
      by_cases h : k = j
      · rw [h]; exact hc
      · exact hf k (by omega)
    have bad : ¬ fitAt a b j = true → (Step.done (Out2.ret ([], 2)) : Step (Int × List Int) (Out2 (Int × List Int) (List Int × Int))) = .done (spreadEnd a b ((n : Int) + 1)) := by
      intro hc
      rw [spreadEnd, if_neg (not_fits (by rw [hN]; exact hj) hc)]
    have hfit : fitAt a b j = decide (nm a j = nm b j ∨ nm a j = 1 ∨ nm b j = 1) := rfl
    by_cases h0 : j < a.length
    · obtain ⟨p0, p1, p2⟩ := nm_at a j h0 ha
      rw [if_pos (by omega), if_pos ⟨p0, p1⟩, p2]
      by_cases h1 : j < b.length
      · obtain ⟨q0, q1, q2⟩ := nm_at b j h1 hb
        rw [if_pos (by omega), if_pos ⟨q0, q1⟩, q2]
        simp only [show (if nm b j > nm a j then nm b j else nm a j) = mx a b j from rfl]
        by_cases e1 : nm a j = nm b j
        · rw [if_pos e1]; exact .inr (fin (by rw [hfit]; simp [e1]))
        · rw [if_neg e1]
          by_cases e2 : nm a j = 1
          · rw [if_pos e2]; exact .inr (fin (by rw [hfit]; simp [e2]))
          · rw [if_neg e2]
            by_cases e3 : nm b j = 1
            · rw [if_pos e3]; exact .inr (fin (by rw [hfit]; simp [e3]))
            · rw [if_neg e3]; exact .inl (bad (by rw [hfit]; simp [e1, e2, e3]))
      · have hb1 : nm b j = 1 := by unfold nm; rw [dif_neg h1]
        rw [if_neg (by omega)]
        have hm : (if 1 > nm a j then 1 else nm a j) = mx a b j := by unfold mx; rw [hb1]
        simp only [hm]
        refine .inr ?_
        split
        · exact fin (by rw [hfit]; simp [hb1])
        · exact fin (by rw [hfit]; simp [hb1])
    · have ha1 : nm a j = 1 := by unfold nm; rw [dif_neg h0]
      rw [if_neg (by omega)]
      have h1 : j < b.length := by omega
      obtain ⟨q0, q1, q2⟩ := nm_at b j h1 hb
      rw [if_pos (by omega), if_pos ⟨q0, q1⟩, q2]
      have hm : (if nm b j > 1 then nm b j else 1) = mx a b j := by unfold mx; rw [ha1]
      simp only [hm]
      refine .inr ?_
      split
      · exact fin (by rw [hfit]; simp [ha1])
      · exact fin (by rw [hfit]; simp [ha1])
  · left
    have hz : j = n := by omega
    subst hz
    rw [if_neg (by omega), outN_full, spreadEnd, if_pos (fits_iff.2 (by rw [hN]; exact hf)), hN]

theorem ref1_Spread_eq (a b : List Int) : ref1_Spread.f a b = some (spread a b) := by
  unfold ref1_Spread.f spread
  rw [ref1_May_eq, obind]
  by_cases ha : may a = true
  · rw [if_pos ha, ref1_May_eq, obind]
    by_cases hb : may b = true
    · have la := may_len ha
      have lb := may_len hb
      simp only [max_cast, Int.toNat_natCast]
      rw [if_pos hb, if_pos (by omega), ref1_Spread_loop a b la lb, obind]
      unfold spreadEnd
      by_cases hf : fits a b = true
      · rw [if_pos hf, if_pos ⟨ha, hb, hf⟩]
        simp only [Out2.on]
        rw [ref1_Size_eq, obind]
        unfold sealOut
        split <;> rfl
      · rw [if_neg hf, if_neg (fun c => hf c.2.2)]; rfl
    · rw [if_neg hb, if_neg (fun c => hb c.2.1)]
  · rw [if_neg ha, if_neg (fun c => ha c.1)]

/-! ### which of two comes first does not matter -/
theorem mx_comm (a b : List Int) (k : Nat) : mx a b k = mx b a k := by unfold mx; split <;> split <;> omega

theorem fitAt_comm (a b : List Int) (k : Nat) : fitAt a b k = fitAt b a k := by
  unfold fitAt
  congr 1
  apply propext
  constructor <;> (intro h; rcases h with h | h | h) <;> simp [h]

theorem spread_comm (a b : List Int) : spread a b = spread b a := by
  have h1 : fits a b = fits b a := by
    unfold fits
    rw [Nat.max_comm]
    congr 1
    funext k
    exact fitAt_comm a b k
  have h2 : mx a b = mx b a := by funext k; exact mx_comm a b k
  unfold spread
  rw [h1, h2, Nat.max_comm]
  by_cases ha : may a = true <;> by_cases hb : may b = true <;> simp [ha, hb]

end Go.Proofs.Yteaoijahdinciaa
