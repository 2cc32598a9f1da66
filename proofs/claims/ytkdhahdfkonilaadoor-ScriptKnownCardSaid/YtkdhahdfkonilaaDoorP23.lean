/- Plain laws, part 23: a text cut, split and joined at a byte; numerals. -/
import Derived.Test.YtkdhahdfkonilaaDoorP22
import Derived.Lib.IndexBytes
import Derived.Lib.SplitLaws
import Derived.Lib.ItoaLen
import Derived.Lib.AtoiBound
namespace Go.Proofs.YtkdhahdfkonilaaDoor
open Go Go.RowKit
set_option linter.unusedSimpArgs false
set_option linter.unusedVariables false

theorem iB_miss {c : UInt8} : ∀ {s : List UInt8}, c ∉ s → Lib.indexByte s c = -1
  | [], _ => rfl
  | b :: l, h => by
    have h1 : ¬ b = c := fun e => h (by simp [e])
    have h2 : c ∉ l := fun e => h (List.mem_cons_of_mem _ e)
    unfold Lib.indexByte
    rw [if_neg (by simpa using h1), iB_miss h2]
    rfl
theorem iB_hit {c : UInt8} {r : List UInt8} : ∀ {a : List UInt8}, c ∉ a → Lib.indexByte (a ++ c :: r) c = (a.length : Int)
  | [], _ => by simp [Lib.indexByte]
  | b :: l, h => by
    have h1 : ¬ b = c := fun e => h (by simp [e])
    have h2 : c ∉ l := fun e => h (List.mem_cons_of_mem _ e)
    rw [List.cons_append]
    unfold Lib.indexByte
    rw [if_neg (by simpa using h1), iB_hit h2, if_neg (by simp)]
    simp
theorem ix_miss {c : UInt8} {s : List UInt8} (h : c ∉ s) : Lib.index s [c] = -1 := by rw [Lib.index_one, iB_miss h]
theorem ix_hit {c : UInt8} {a r : List UInt8} (h : c ∉ a) : Lib.index (a ++ c :: r) [c] = (a.length : Int) := by rw [Lib.index_one, iB_hit h]
theorem drop_hit (c : UInt8) (a r : List UInt8) : (a ++ c :: r).drop (a.length + [c].length) = r := by
  rw [show a ++ c :: r = (a ++ [c]) ++ r by simp, show a.length + [c].length = (a ++ [c]).length by simp, List.drop_left]
theorem at_cases (c : UInt8) (s : List UInt8) : c ∉ s ∨ ∃ a r, s = a ++ c :: r ∧ c ∉ a := by
  by_cases h : c ∈ s
  · right
    obtain ⟨a, r, e, h⟩ := List.eq_append_cons_of_mem h
    exact ⟨a, r, e, h⟩
  · exact .inl h

theorem cut_miss {c : UInt8} {s : List UInt8} (h : c ∉ s) : Lib.cut s [c] = (s, [], false) := by
  unfold Lib.cut
  rw [ix_miss h, if_neg (by decide)]
theorem cut_hit {c : UInt8} {a r : List UInt8} (h : c ∉ a) : Lib.cut (a ++ c :: r) [c] = (a, r, true) := by
  unfold Lib.cut
  rw [ix_hit h, if_pos (by omega), Int.toNat_natCast, List.take_left, drop_hit]

theorem sp_miss {c : UInt8} {s : List UInt8} (h : c ∉ s) : Lib.split s [c] = [s] := by
  unfold Lib.split
  rw [Lib.count_miss (ix_miss h)]
  rfl
theorem sp_hit {c : UInt8} {a r : List UInt8} (h : c ∉ a) : Lib.split (a ++ c :: r) [c] = a :: Lib.split r [c] := by
  unfold Lib.split
  rw [Lib.count_hit (by simp) (ix_hit h), drop_hit, Nat.add_comm]
  conv => lhs; unfold Lib.splitK
  rw [if_neg (by rw [ix_hit h]; simp), ix_hit h, Int.toNat_natCast, Nat.add_zero, List.take_left, drop_hit]
theorem split_f (c : UInt8) (s : List UInt8) (hs : s.length < 4294967281) : strings_Split.f s [c] = some (Lib.split s [c]) := by
  unfold strings_Split.f
  rw [if_pos ⟨hs, by simp⟩, Lib.splitB_data]
  rfl
theorem join_two (a x : List UInt8) (t : List (List UInt8)) (sep : List UInt8) : Lib.join (a :: x :: t) sep = a ++ sep ++ Lib.join (x :: t) sep := by
  rw [Lib.join_cons, Lib.join_cons]
  simp [Lib.joinTail]
theorem split_spec (c : UInt8) : ∀ (n : Nat) (s : List UInt8), s.length ≤ n → ∃ x t, Lib.split s [c] = x :: t ∧ Lib.join (x :: t) [c] = s ∧ (∀ w ∈ x :: t, c ∉ w ∧ w.length ≤ s.length) ∧ t.length ≤ s.length := by
  intro n
  induction n with
  | zero =>
    intro s hs
    obtain rfl : s = [] := List.length_eq_zero_iff.1 (by omega)
    exact ⟨[], [], sp_miss (by simp), rfl, by simp, by simp⟩
  | succ n ih =>
    intro s hs
    rcases at_cases c s with h | ⟨a, r, rfl, h⟩
    · exact ⟨s, [], sp_miss h, by rw [Lib.join_one], by simpa using h, by simp⟩
    · simp only [List.length_append, List.length_cons] at hs ⊢
      obtain ⟨x, t, e1, e2, e3, e4⟩ := ih r (by omega)
      refine ⟨a, x :: t, by rw [sp_hit h, e1], by rw [join_two, e2]; simp, ?_, by simp; omega⟩
      intro w hw
      rcases List.mem_cons.1 hw with rfl | hw
      · exact ⟨h, by omega⟩
      · have := e3 w hw
        exact ⟨this.1, by omega⟩
theorem split_join (c : UInt8) : ∀ (x : List UInt8) (t : List (List UInt8)), (∀ w ∈ x :: t, c ∉ w) → Lib.split (Lib.join (x :: t) [c]) [c] = x :: t := by
  intro x t
  induction t generalizing x with
  | nil => intro h; rw [Lib.join_one, sp_miss (h x (by simp))]
  | cons y t ih =>
    intro h
    rw [join_two, show x ++ [c] ++ Lib.join (y :: t) [c] = x ++ c :: Lib.join (y :: t) [c] by simp, sp_hit (h x (by simp)), ih y (fun w hw => h w (List.mem_cons_of_mem _ hw))]

/-! ### numerals -/
def Digit (b : UInt8) : Prop := 48 ≤ b.toNat ∧ b.toNat ≤ 57
theorem digit_of {d : Nat} (h : d < 10) : Digit (UInt8.ofNat (48 + d)) := by
  have : (UInt8.ofNat (48 + d)).toNat = 48 + d := by rw [UInt8.toNat_ofNat']; omega
  unfold Digit
  rw [this]; omega
theorem digitVal_of {d : Nat} (h : d < 10) : Lib.digitVal (UInt8.ofNat (48 + d)) = some d := by
  have : (UInt8.ofNat (48 + d)).toNat = 48 + d := by rw [UInt8.toNat_ofNat']; omega
  unfold Lib.digitVal
  rw [this, if_pos (by omega)]
  congr 1; omega
theorem dec_digits : ∀ (n u : Nat), u ≤ n → (∀ b ∈ Lib.decDigits u, Digit b) ∧ Lib.decDigits u ≠ [] := by
  intro n
  induction n with
  | zero =>
    intro u hu
    obtain rfl : u = 0 := by omega
    rw [Lib.decDigits_one (by omega)]
    exact ⟨fun b hb => by simp at hb; subst hb; exact digit_of (d := 0) (by omega), by simp⟩
  | succ n ih =>
    intro u hu
    by_cases h : u < 10
    · rw [Lib.decDigits_one h]
      exact ⟨fun b hb => by rw [List.mem_singleton] at hb; subst hb; exact digit_of h, by simp⟩
    · rw [Lib.decDigits, dif_neg h]
      refine ⟨fun b hb => ?_, by simp⟩
      rcases List.mem_append.1 hb with hb | hb
      · exact (ih (u / 10) (by omega)).1 b hb
      · rw [List.mem_singleton] at hb; subst hb; exact digit_of (by omega)
theorem decFrom_append (r : List UInt8) : ∀ (l : List UInt8) (acc m : Nat), Lib.decFrom acc l = some m → Lib.decFrom acc (l ++ r) = Lib.decFrom m r := by
  intro l
  induction l with
  | nil => intro acc m h; simp [Lib.decFrom] at h; subst h; rfl
  | cons b l ih =>
    intro acc m h
    rw [List.cons_append]
    simp only [Lib.decFrom] at h ⊢
    split at h
    · rename_i d hd
      exact ih _ _ h
    · cases h
theorem decFrom_digits : ∀ (n u : Nat), u ≤ n → Lib.decFrom 0 (Lib.decDigits u) = some u := by
  intro n
  induction n with
  | zero =>
    intro u hu
    obtain rfl : u = 0 := by omega
    rw [Lib.decDigits_one (by omega)]
    rfl
  | succ n ih =>
    intro u hu
    by_cases h : u < 10
    · rw [Lib.decDigits_one h]
      simp only [Lib.decFrom, digitVal_of h]
      congr 1; omega
    · rw [Lib.decDigits, dif_neg h, decFrom_append _ _ _ _ (ih (u / 10) (by omega))]
      simp only [Lib.decFrom, digitVal_of (show u % 10 < 10 by omega)]
      congr 1; omega
theorem nDigits_le : ∀ (k u : Nat), u < 10 ^ (k + 1) → Lib.nDigits u ≤ k + 1 := by
  intro k
  induction k with
  | zero => intro u h; rw [Lib.nDigits_small (by simpa using h)]; omega
  | succ k ih =>
    intro u h
    by_cases h1 : u < 10
    · rw [Lib.nDigits_small h1]; omega
    · rw [Lib.nDigits_big h1]
      have := ih (u / 10) (by rw [Nat.pow_succ] at h; omega)
      omega
theorem itoa_nat {n : Int} (h : 0 ≤ n) : Lib.itoa n = Lib.decDigits n.toNat := by unfold Lib.itoa; rw [if_neg (by omega)]
theorem itoa_digit {n : Int} (h : 0 ≤ n) : ∀ b ∈ Lib.itoa n, Digit b := by
  rw [itoa_nat h]; exact (dec_digits _ _ (Nat.le_refl _)).1
theorem itoa_len9 {n : Int} (h : 0 ≤ n) (h2 : n ≤ 999999999) : (Lib.itoa n).length ≤ 9 := by
  rw [itoa_nat h, Lib.decDigits_length]
  exact nDigits_le 8 _ (by omega)
theorem atoi_itoa {n : Int} (h : 0 ≤ n) : Lib.atoi (Lib.itoa n) = some n := by
  have hd := itoa_digit h
  have hf := decFrom_digits _ n.toNat (Nat.le_refl _)
  rw [← itoa_nat h] at hf
  have hne : Lib.itoa n ≠ [] := by rw [itoa_nat h]; exact (dec_digits _ _ (Nat.le_refl _)).2
  cases e : Lib.itoa n with
  | nil => exact absurd e hne
  | cons b r =>
    rw [e] at hd hf
    have hb := hd b (by simp)
    unfold Digit at hb
    simp only [Lib.atoi]
    rw [if_neg (by intro c; have := beq_iff_eq.1 c; subst this; revert hb; decide), if_neg (by intro c; have := beq_iff_eq.1 c; subst this; revert hb; decide)]
    unfold Lib.decNat
    rw [if_neg (by simp), hf]
    show some ((n.toNat : Nat) : Int) = _
    congr 1; omega
theorem digit_ne {b c : UInt8} (h : Digit b) (hc : c.toNat < 48 ∨ 57 < c.toNat) : c ≠ b := by
  intro e; subst e; unfold Digit at h; omega
end Go.Proofs.YtkdhahdfkonilaaDoor
