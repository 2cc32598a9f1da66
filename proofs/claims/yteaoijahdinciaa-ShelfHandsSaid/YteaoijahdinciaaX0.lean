/- Plain laws on numbers with a point: small whole numbers are added and multiplied exactly. -/
import Derived.Test.YteaoijahdinciaaE10
import Derived.Laws.FloatBits
namespace Go.Proofs.Yteaoijahdinciaa
open Go Go.RowKit
set_option linter.unusedSimpArgs false
set_option linter.unusedVariables false

theorem dbl_binade : dbl.binade = 2 ^ 52 := by decide
theorem dbl_infRung : dbl.infRung = 2047 * 2 ^ 52 := by decide +kernel
theorem dbl_least : dbl.leastPlace = -1074 := by decide
theorem dbl_sign : dbl.signWeight = 2 ^ 63 := by decide

theorem cut_exact (neg : Bool) (M D : Nat) (hM : M ≠ 0) : Ieee.Toward.even.cut neg (M * 2 ^ D) D = M := by
  have hp : 0 < 2 ^ D := Nat.two_pow_pos D
  have hl : D ≤ (M * 2 ^ D).log2 := by
    rw [Nat.le_log2 (by have := Nat.mul_pos (Nat.pos_of_ne_zero hM) hp; omega)]
    exact Nat.le_mul_of_pos_left _ (Nat.pos_of_ne_zero hM)
  unfold Ieee.Toward.cut
  simp only [Nat.min_eq_left (by omega : D ≤ (M * 2 ^ D).log2 + 2), Nat.one_shiftLeft]
  rw [Nat.mul_div_cancel _ hp, Nat.mul_mod_left]
  have h1 : ¬ (2 ^ D < 2 * 0) := by omega
  have h2 : (2 ^ D == 2 * 0) = false := by simp
  simp [h1, h2]

theorem cut_zero (neg : Bool) (M : Nat) : Ieee.Toward.even.cut neg M 0 = M := by
  by_cases hM : M = 0
  · subst hM; rfl
  · have := cut_exact neg M 0 hM
    simpa using this

theorem log2_shift (m D : Nat) (hm : m ≠ 0) : (m * 2 ^ D).log2 = m.log2 + D := by
  have hp : 0 < 2 ^ D := Nat.two_pow_pos D
  rw [Nat.log2_eq_iff (by have := Nat.mul_pos (Nat.pos_of_ne_zero hm) hp; omega)]
  have h1 := Nat.log2_self_le hm
  have h2 := Nat.lt_log2_self (n := m)
  constructor
  · rw [Nat.pow_add]; exact Nat.mul_le_mul_right _ h1
  · rw [show m.log2 + D + 1 = (m.log2 + 1) + D by omega, Nat.pow_add]; exact Nat.mul_lt_mul_of_pos_right h2 hp

/-- what is exact, is written exactly -/
theorem near_right (s : Bool) (M D : Nat) (E : Int) (hM : M ≠ 0) (h1 : M < 2 ^ 53) (hE : -1074 ≤ E) (h2 : 2 ^ 52 ≤ M ∨ E = -1074) : dbl.nearest s (M * 2 ^ D) (E - D) = dbl.word s (min ((E + 1074).toNat * 2 ^ 52 + M) (2047 * 2 ^ 52)) := by
  have hp : 0 < 2 ^ D := Nat.two_pow_pos D
  have hlog : (M * 2 ^ D).log2 = M.log2 + D := by rw [log2_shift M D hM]
  have hl53 : M.log2 ≤ 52 := by have := (Nat.log2_lt hM (k := 53)).2 h1; omega
  unfold Ieee.Format.nearest
  rw [if_neg (by have := Nat.mul_pos (Nat.pos_of_ne_zero hM) hp; omega), hlog, dbl_least, dbl_binade, dbl_infRung]
  simp only [show dbl.fractionBits = 52 from rfl]
  have hlast : max (E - (D : Int) + ((M.log2 + D : Nat) : Int) - ((52 : Nat) : Int)) (-1074) = E := by
    rcases h2 with h2 | h2
    · have : 52 ≤ M.log2 := (Nat.le_log2 hM).2 h2
      omega
    · omega
  rw [hlast, show (E - (D : Int) - E).toNat = 0 by omega, show (E - (E - (D : Int))).toNat = D by omega, Nat.shiftLeft_zero, cut_exact s M D hM]
  rw [show (E - -1074 : Int) = E + 1074 by omega]

theorem near_left (s : Bool) (m D : Nat) (E : Int) (hM : m * 2 ^ D ≠ 0) (h1 : m * 2 ^ D < 2 ^ 53) (hE : -1074 ≤ E) (h2 : 2 ^ 52 ≤ m * 2 ^ D ∨ E = -1074) : dbl.nearest s m (E + D) = dbl.word s (min ((E + 1074).toNat * 2 ^ 52 + m * 2 ^ D) (2047 * 2 ^ 52)) := by
  have hm : m ≠ 0 := fun h => hM (by rw [h, Nat.zero_mul])
  have hlog : (m * 2 ^ D).log2 = m.log2 + D := by rw [log2_shift m D hm]
  have hl53 : (m * 2 ^ D).log2 ≤ 52 := by have := (Nat.log2_lt hM (k := 53)).2 h1; omega
  unfold Ieee.Format.nearest
  rw [if_neg hm, dbl_least, dbl_binade, dbl_infRung]
  simp only [show dbl.fractionBits = 52 from rfl]
  have hlast : max (E + (D : Int) + ((m.log2 : Nat) : Int) - ((52 : Nat) : Int)) (-1074) = E := by
    rcases h2 with h2 | h2
    · have : 52 ≤ (m * 2 ^ D).log2 := (Nat.le_log2 hM).2 h2
      omega
    · omega
  rw [hlast, show (E + (D : Int) - E).toNat = D by omega, show (E - (E + (D : Int))).toNat = 0 by omega, Nat.shiftLeft_eq, cut_zero]
  rw [show (E - -1074 : Int) = E + 1074 by omega]

theorem read_word (s : Bool) (rung : Nat) (h : rung < 2047 * 2 ^ 52) : dbl.read (dbl.word s rung) = if rung < 2 ^ 52 then .number s rung (-1074) else .number s (2 ^ 52 + rung % 2 ^ 52) (-1074 + ((rung / 2 ^ 52 - 1 : Nat) : Int)) := by
  have h63 : rung < 2 ^ 63 := by omega
  unfold Ieee.Format.read Ieee.Format.word
  rw [dbl_sign, dbl_binade, dbl_infRung, dbl_least]
  cases s
  · simp only [Bool.false_eq_true, if_false]
    rw [Nat.mod_eq_of_lt h63, Nat.div_eq_of_lt h63]
    by_cases hb : rung < 2 ^ 52
    · rw [if_pos hb, if_pos hb]; rfl
    · rw [if_neg hb, if_pos h, if_neg hb]; rfl
  · simp only [if_true]
    rw [Nat.add_mod_left, Nat.mod_eq_of_lt h63, show (2 ^ 63 + rung) / 2 ^ 63 = 1 by rw [Nat.add_div_left _ (by decide), Nat.div_eq_of_lt h63]]
    by_cases hb : rung < 2 ^ 52
    · rw [if_pos hb, if_pos hb]; rfl
    · rw [if_neg hb, if_pos h, if_neg hb]; rfl

/-! ### whole numbers -/
/-- x is the whole number n (of either sign where n is nought) -/
def Whole (x : Nat) (n : Int) : Prop := ∃ (s : Bool) (m j : Nat), dbl.read x = .number s m (-(j : Int)) ∧ m = n.natAbs * 2 ^ j ∧ (n ≠ 0 → s = decide (n < 0))

theorem signed_of (s : Bool) (m up : Nat) : Ieee.signed s m up = (if s then -((m * 2 ^ up : Nat) : Int) else ((m * 2 ^ up : Nat) : Int)) := by
  unfold Ieee.signed
  rw [Nat.shiftLeft_eq]

theorem whole_write (s : Bool) (n : Int) (j : Nat) (hn : n.natAbs < 2 ^ 53) (hs : n ≠ 0 → s = decide (n < 0)) : Whole (dbl.nearest s (n.natAbs * 2 ^ j) (-(j : Int))) n ∧ dbl.nearest s (n.natAbs * 2 ^ j) (-(j : Int)) < 2 ^ 64 := by
  refine ⟨?_, Ieee.Format.nearest_lt dbl s _ _⟩
  by_cases hz : n.natAbs = 0
  · rw [hz, Nat.zero_mul]
    have h0 : dbl.nearest s 0 (-(j : Int)) = dbl.word s 0 := by unfold Ieee.Format.nearest; rw [if_pos rfl]
    rw [h0]
    obtain ⟨J, hJ⟩ : ∃ J : Nat, J = 1074 := ⟨_, rfl⟩
    refine ⟨s, 0, J, ?_, by rw [hz, Nat.zero_mul], fun h => absurd (Int.natAbs_eq_zero.1 hz) h⟩
    rw [hJ, read_word s 0 (by decide), if_pos (by decide)]; rfl
  · have hl : n.natAbs.log2 ≤ 52 := by have := (Nat.log2_lt hz (k := 53)).2 hn; omega
    generalize hL : n.natAbs.log2 = l at hl
    have hb : n.natAbs * 2 ^ (52 - l) < 2 ^ 53 ∧ 2 ^ 52 ≤ n.natAbs * 2 ^ (52 - l) := by
      have e := log2_shift n.natAbs (52 - l) hz
      rw [hL, show l + (52 - l) = 52 by omega] at e
      have hne : n.natAbs * 2 ^ (52 - l) ≠ 0 := by have := Nat.mul_pos (Nat.pos_of_ne_zero hz) (Nat.two_pow_pos (52 - l)); omega
      exact (Nat.log2_eq_iff hne).1 e |>.symm
    have hne : n.natAbs * 2 ^ (52 - l) ≠ 0 := by omega
    have key : dbl.nearest s (n.natAbs * 2 ^ j) (-(j : Int)) = dbl.word s (min ((((l : Int) - 52) + 1074).toNat * 2 ^ 52 + n.natAbs * 2 ^ (52 - l)) (2047 * 2 ^ 52)) := by
      by_cases hj : j ≤ 52 - l
      · have e1 : n.natAbs * 2 ^ j * 2 ^ (52 - l - j) = n.natAbs * 2 ^ (52 - l) := by rw [Nat.mul_assoc, ← Nat.pow_add, show j + (52 - l - j) = 52 - l by omega]
        have := near_left s (n.natAbs * 2 ^ j) (52 - l - j) ((l : Int) - 52) (by rw [e1]; exact hne) (by rw [e1]; exact hb.1) (by omega) (by rw [e1]; exact .inl hb.2)
        rw [e1] at this
        rw [← this]
        congr 1
        omega
      · have e1 : n.natAbs * 2 ^ (52 - l) * 2 ^ (j - (52 - l)) = n.natAbs * 2 ^ j := by rw [Nat.mul_assoc, ← Nat.pow_add, show 52 - l + (j - (52 - l)) = j by omega]
        have := near_right s (n.natAbs * 2 ^ (52 - l)) (j - (52 - l)) ((l : Int) - 52) hne hb.1 (by omega) (.inl hb.2)
        rw [e1] at this
        rw [← this]
        congr 1
        omega
    rw [key]
    have hr : (((l : Int) - 52) + 1074).toNat = l + 1022 := by omega
    rw [hr]
    generalize hM : n.natAbs * 2 ^ (52 - l) = M at hb hne
    have hlt : (l + 1022) * 2 ^ 52 + M < 2047 * 2 ^ 52 := by
      have : (l + 1022 + 2) * 2 ^ 52 ≤ 2046 * 2 ^ 52 := Nat.mul_le_mul_right _ (by omega)
      omega
    rw [Nat.min_eq_left (by omega)]
    refine ⟨s, M, 52 - l, ?_, hM.symm, hs⟩
    rw [read_word s _ hlt, if_neg (by have : 1 * 2 ^ 52 ≤ (l + 1022) * 2 ^ 52 := Nat.mul_le_mul_right _ (by omega); omega)]
    have e2 : ((l + 1022) * 2 ^ 52 + M) / 2 ^ 52 = l + 1023 := by
      rw [show (l + 1022) * 2 ^ 52 + M = (M - 2 ^ 52) + (l + 1023) * 2 ^ 52 by omega, Nat.add_mul_div_right _ _ (by decide), Nat.div_eq_of_lt (by omega)]
      omega
    have e3 : ((l + 1022) * 2 ^ 52 + M) % 2 ^ 52 = M - 2 ^ 52 := by
      rw [show (l + 1022) * 2 ^ 52 + M = (M - 2 ^ 52) + (l + 1023) * 2 ^ 52 by omega, Nat.add_mul_mod_self_right, Nat.mod_eq_of_lt (by omega)]
    rw [e2, e3, show 2 ^ 52 + (M - 2 ^ 52) = M by omega, show (-1074 + ((l + 1023 - 1 : Nat) : Int)) = -((52 - l : Nat) : Int) by omega]

theorem Whole.scaled {x : Nat} {n : Int} (h : Whole x n) : ∃ (s : Bool) (m j : Nat), dbl.read x = .number s m (-(j : Int)) ∧ (n ≠ 0 → s = decide (n < 0)) ∧ m = n.natAbs * 2 ^ j ∧ ∀ up : Nat, Ieee.signed s m up = n * 2 ^ (j + up) := by
  obtain ⟨s, m, j, h1, h2, h3⟩ := h
  refine ⟨s, m, j, h1, h3, h2, fun up => ?_⟩
  rw [signed_of, h2]
  have e : ((n.natAbs * 2 ^ j * 2 ^ up : Nat) : Int) = (n.natAbs : Int) * 2 ^ (j + up) := by
    rw [Nat.mul_assoc, ← Nat.pow_add]; push_cast; rfl
  rw [e]
  by_cases hn : n = 0
  · subst hn; simp
  · rw [h3 hn]
    by_cases hlt : n < 0
    · rw [decide_eq_true hlt, if_pos rfl, ← Int.neg_mul, show (-(n.natAbs : Int)) = n by omega]
    · rw [decide_eq_false hlt, if_neg (by simp), show (n.natAbs : Int) = n by omega]

theorem Whole.ofInt {n : Int} (h : n.natAbs < 2 ^ 53) : Whole (Proofs.Yteaoijahdinciaa.ofInt n) n := by
  have := (whole_write (decide (n < 0)) n 0 h (fun _ => rfl)).1
  rw [Nat.pow_zero, Nat.mul_one] at this
  exact this

theorem Whole.zero : Whole 0 0 := by
  have := (whole_write false 0 0 (by decide) (fun h => absurd rfl h)).1
  exact this

theorem orNaN_some (r : Nat) : orNaN (some r) = r := rfl

theorem pow_pos_int (k : Nat) : (0 : Int) < 2 ^ k := Int.pow_pos (by decide)

theorem Whole.add {x y : Nat} {a b : Int} (h : Whole x a) (k : Whole y b) (hb : (a + b).natAbs < 2 ^ 53) : Whole (fadd x y) (a + b) := by
  obtain ⟨s, m, i, h1, h2, h3, h4⟩ := h.scaled
  obtain ⟨t, n, j, k1, k2, k3, k4⟩ := k.scaled
  unfold fadd Ieee.Format.add
  rw [h1, k1]
  simp only [Ieee.Datum.sum, Option.map_some, orNaN_some]
  have hm : min (-(i : Int)) (-(j : Int)) = -((max i j : Nat) : Int) := by omega
  rw [hm, show (-(i : Int) - -((max i j : Nat) : Int)).toNat = max i j - i by omega, show (-(j : Int) - -((max i j : Nat) : Int)).toNat = max i j - j by omega, h4, k4]
  rw [show i + (max i j - i) = max i j by omega, show j + (max i j - j) = max i j by omega, ← Int.add_mul]
  have hp := pow_pos_int (max i j)
  have e1 : ((a + b) * 2 ^ (max i j)).natAbs = (a + b).natAbs * 2 ^ (max i j) := by rw [Int.natAbs_mul, Int.natAbs_pow]; rfl
  rw [e1]
  refine (whole_write _ (a + b) (max i j) hb fun hne => ?_).1
  have hne2 : ¬ (a + b) * 2 ^ (max i j) = 0 := Int.mul_ne_zero hne (by omega)
  rw [if_neg hne2]
  by_cases hlt : a + b < 0
  · rw [decide_eq_true hlt, decide_eq_true (Int.mul_neg_of_neg_of_pos hlt hp)]
  · rw [decide_eq_false hlt, decide_eq_false (by have := Int.mul_nonneg (by omega : 0 ≤ a + b) (by omega : (0 : Int) ≤ 2 ^ (max i j)); omega)]

theorem Whole.mul {x y : Nat} {a b : Int} (h : Whole x a) (k : Whole y b) (hb : (a * b).natAbs < 2 ^ 53) : Whole (fmul x y) (a * b) := by
  obtain ⟨s, m, i, h1, h2, h3, _⟩ := h.scaled
  obtain ⟨t, n, j, k1, k2, k3, _⟩ := k.scaled
  unfold fmul Ieee.Format.mul
  rw [h1, k1]
  simp only [Ieee.Datum.product, Option.map_some, orNaN_some]
  have e1 : m * n = (a * b).natAbs * 2 ^ (i + j) := by
    rw [h3, k3, Int.natAbs_mul, Nat.pow_add, Nat.mul_mul_mul_comm]
  rw [e1, show (-(i : Int) + -(j : Int)) = -((i + j : Nat) : Int) by omega]
  refine (whole_write _ (a * b) (i + j) hb fun hne => ?_).1
  have ha : a ≠ 0 := fun h => hne (by rw [h, Int.zero_mul])
  have hb' : b ≠ 0 := fun h => hne (by rw [h, Int.mul_zero])
  rw [h2 ha, k2 hb']
  by_cases p : a < 0 <;> by_cases q : b < 0
  · have := Int.mul_pos_of_neg_of_neg p q
    rw [decide_eq_true p, decide_eq_true q, decide_eq_false (by omega)]; rfl
  · have := Int.mul_neg_of_neg_of_pos p (by omega : 0 < b)
    rw [decide_eq_true p, decide_eq_false q, decide_eq_true this]; rfl
  · have := Int.mul_neg_of_pos_of_neg (by omega : 0 < a) q
    rw [decide_eq_false p, decide_eq_true q, decide_eq_true this]; rfl
  · have := Int.mul_pos (by omega : 0 < a) (by omega : 0 < b)
    rw [decide_eq_false p, decide_eq_false q, decide_eq_false (by omega)]; rfl

theorem Whole.order {x y : Nat} {a b : Int} (h : Whole x a) (k : Whole y b) : ford x y = some (compare a b) := by
  obtain ⟨s, m, i, h1, h2, h3, h4⟩ := h.scaled
  obtain ⟨t, n, j, k1, k2, k3, k4⟩ := k.scaled
  unfold ford Ieee.Format.order
  rw [h1, k1]
  simp only [Ieee.Datum.order]
  have hm : min (-(i : Int)) (-(j : Int)) = -((max i j : Nat) : Int) := by omega
  rw [hm, show (-(i : Int) - -((max i j : Nat) : Int)).toNat = max i j - i by omega, show (-(j : Int) - -((max i j : Nat) : Int)).toNat = max i j - j by omega, h4, k4]
  rw [show i + (max i j - i) = max i j by omega, show j + (max i j - j) = max i j by omega]
  have hp := pow_pos_int (max i j)
  congr 1
  rcases Int.lt_trichotomy a b with hlt | heq | hgt
  · rw [Int.compare_eq_lt.2 hlt, Int.compare_eq_lt.2 (Int.mul_lt_mul_of_pos_right hlt hp)]
  · subst heq; rw [Int.compare_eq_eq.2 rfl, Int.compare_eq_eq.2 rfl]
  · rw [Int.compare_eq_gt.2 hgt, Int.compare_eq_gt.2 (Int.mul_lt_mul_of_pos_right hgt hp)]

theorem Whole.feq {x y : Nat} {a b : Int} (h : Whole x a) (k : Whole y b) : feq x y = decide (a = b) := by
  unfold Proofs.Yteaoijahdinciaa.feq
  rw [h.order k]
  rcases Int.lt_trichotomy a b with hlt | heq | hgt
  · rw [Int.compare_eq_lt.2 hlt, decide_eq_false (by omega)]; rfl
  · subst heq; rw [Int.compare_eq_eq.2 rfl, decide_eq_true rfl]; rfl
  · rw [Int.compare_eq_gt.2 hgt, decide_eq_false (by omega)]; rfl

theorem Whole.fne {x y : Nat} {a b : Int} (h : Whole x a) (k : Whole y b) : fne x y = decide (a ≠ b) := by
  have := h.feq k
  unfold Proofs.Yteaoijahdinciaa.feq at this
  unfold Proofs.Yteaoijahdinciaa.fne
  rw [bne, this]
  by_cases hab : a = b <;> simp [hab]

end Go.Proofs.Yteaoijahdinciaa
