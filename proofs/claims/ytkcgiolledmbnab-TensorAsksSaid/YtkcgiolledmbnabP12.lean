/- Plain laws, part 12: finite numbers times one, and noughts added. -/
import Derived.Test.YtkcgiolledmbnabP4
import Derived.Test.YtkcgiolledmbnabF16
import Derived.Test.YtkcgiolledmbnabF19
namespace Go.Proofs.Ytkcgiolledmbnab
open Go Go.RowKit
set_option linter.unusedSimpArgs false
set_option linter.unusedVariables false

/-- x is finite: its bits without the sign are below those of what has no end -/
def FinB (x : Nat) : Prop := x < 2 ^ 64 ∧ x % 2 ^ 63 < 2047 * 2 ^ 52

theorem fin_word {x : Nat} (h : FinB x) : ∃ s, x = dbl.word s (x % 2 ^ 63) := by
  obtain ⟨h1, h2⟩ := h
  by_cases hs : x < 2 ^ 63
  · refine ⟨false, ?_⟩
    unfold Ieee.Format.word
    rw [dbl_sign]
    simp only [Bool.false_eq_true, if_false]
    rw [Nat.mod_eq_of_lt hs]
  · refine ⟨true, ?_⟩
    unfold Ieee.Format.word
    rw [dbl_sign]
    simp only [if_true]
    omega

theorem fin_read {x : Nat} (h : FinB x) : ∃ (s : Bool) (m : Nat) (E : Int), dbl.read x = .number s m E ∧ -1074 ≤ E ∧ (m = 0 → x = dbl.word s 0) ∧ (m ≠ 0 → ∀ D : Nat, dbl.nearest s (m * 2 ^ D) (E - D) = x) := by
  obtain ⟨s, hx⟩ := fin_word h
  generalize hr : x % 2 ^ 63 = r at hx
  have h2 : r < 2047 * 2 ^ 52 := by rw [← hr]; exact h.2
  have hread := read_word s r h2
  rw [← hx] at hread
  by_cases hb : r < 2 ^ 52
  · rw [if_pos hb] at hread
    refine ⟨s, r, -1074, hread, by omega, fun h0 => by rw [hx, h0], fun hne D => ?_⟩
    rw [near_right s r D (-1074) hne (by omega) (by omega) (.inr rfl), hx]
    congr 1
    have e0 : ((-1074 : Int) + 1074).toNat = 0 := by decide
    rw [e0, Nat.zero_mul, Nat.zero_add]
    omega
  · rw [if_neg hb] at hread
    have hq := Nat.div_add_mod r (2 ^ 52)
    have hm : r % 2 ^ 52 < 2 ^ 52 := Nat.mod_lt _ (by decide)
    have hd : 1 ≤ r / 2 ^ 52 := (Nat.le_div_iff_mul_le (by decide)).2 (by omega)
    refine ⟨s, 2 ^ 52 + r % 2 ^ 52, _, hread, by omega, fun h0 => by omega, fun hne D => ?_⟩
    rw [near_right s _ D _ hne (by omega) (by omega) (.inl (by omega)), hx]
    congr 1
    have e1 : ((-1074 : Int) + ((r / 2 ^ 52 - 1 : Nat) : Int) + 1074).toNat = r / 2 ^ 52 - 1 := by omega
    rw [e1]
    generalize r / 2 ^ 52 = q at hq hd
    obtain ⟨q', rfl⟩ : ∃ q', q = q' + 1 := ⟨q - 1, by omega⟩
    rw [Nat.mul_add, Nat.mul_one] at hq
    rw [Nat.add_sub_cancel, Nat.mul_comm q' (2 ^ 52)]
    omega

theorem read_one : dbl.read 4607182418800017408 = .number false (2 ^ 52) (-52) := by decide +kernel

theorem near_zero (s : Bool) (E : Int) : dbl.nearest s 0 E = dbl.word s 0 := by unfold Ieee.Format.nearest; rw [if_pos rfl]

theorem whole_word0 (s : Bool) : Whole (dbl.word s 0) 0 := by
  have h := (whole_write s 0 0 (by decide) (fun h => absurd rfl h)).1
  rw [show (0 : Int).natAbs * 2 ^ 0 = 0 from rfl, near_zero] at h
  exact h

theorem fmul_one {x : Nat} (h : FinB x) : fmul x 4607182418800017408 = x := by
  obtain ⟨s, m, E, h1, _, h3, h4⟩ := fin_read h
  unfold fmul Ieee.Format.mul
  rw [h1, read_one]
  simp only [Ieee.Datum.product, Option.map_some, orNaN_some]
  have e : (s != false) = s := by cases s <;> rfl
  show dbl.nearest _ (m * 2 ^ 52) (E + -52) = x
  by_cases hm : m = 0
  · subst hm
    rw [Nat.zero_mul, near_zero, h3 rfl]
    first | rw [e] | (cases s <;> rfl)
  · have := h4 hm 52
    rw [show (E + -52 : Int) = E - ((52 : Nat) : Int) by omega]
    first | (rw [e]; exact this) | (cases s <;> exact this)

theorem fmul_zero {x z : Nat} (h : FinB x) (hz : Whole z 0) : Whole (fmul x z) 0 := by
  obtain ⟨s, m, E, h1, _⟩ := fin_read h
  obtain ⟨t, n, j, k1, k2, _⟩ := hz
  have hn : n = 0 := by rw [k2]; simp
  subst hn
  unfold fmul Ieee.Format.mul
  rw [h1, k1]
  simp only [Ieee.Datum.product, Option.map_some, orNaN_some, Nat.mul_zero]
  show Whole (dbl.nearest _ 0 _) 0
  rw [near_zero]
  exact whole_word0 _

theorem fadd_zero {x z : Nat} (h : FinB x) (hz : Whole z 0) (hx : ¬ Whole x 0) : fadd x z = x ∧ fadd z x = x := by
  obtain ⟨s, m, E, h1, _, h3, h4⟩ := fin_read h
  obtain ⟨t, n, j, k1, k2, _⟩ := hz
  have hn : n = 0 := by rw [k2]; simp
  subst hn
  have hm : m ≠ 0 := fun h0 => hx (by rw [h3 h0]; exact whole_word0 s)
  have key : ∀ (p : Int), p ≤ E → dbl.nearest (decide (Ieee.signed s m (E - p).toNat < 0)) (Ieee.signed s m (E - p).toNat).natAbs p = x ∧ Ieee.signed s m (E - p).toNat ≠ 0 := by
    intro p hp
    have hpos : 0 < m * 2 ^ (E - p).toNat := Nat.mul_pos (Nat.pos_of_ne_zero hm) (Nat.two_pow_pos _)
    rw [signed_of]
    have h5 := h4 hm (E - p).toNat
    rw [show (E - ((E - p).toNat : Int)) = p by omega] at h5
    cases s
    · simp only [Bool.false_eq_true, if_false]
      rw [decide_eq_false (by omega), Int.natAbs_natCast]
      exact ⟨h5, by omega⟩
    · simp only [if_true]
      rw [decide_eq_true (by omega), Int.natAbs_neg, Int.natAbs_natCast]
      exact ⟨h5, by omega⟩
  have hs0 : ∀ u, Ieee.signed t 0 u = 0 := fun u => by rw [signed_of, Nat.zero_mul]; cases t <;> rfl
  constructor
  · unfold fadd Ieee.Format.add
    rw [h1, k1]
    simp only [Ieee.Datum.sum, Option.map_some, orNaN_some, hs0, Int.add_zero]
    obtain ⟨q1, q2⟩ := key (min E (-(j : Int))) (by omega)
    rw [if_neg q2]
    exact q1
  · unfold fadd Ieee.Format.add
    rw [h1, k1]
    simp only [Ieee.Datum.sum, Option.map_some, orNaN_some, hs0, Int.zero_add]
    obtain ⟨q1, q2⟩ := key (min (-(j : Int)) E) (by omega)
    rw [if_neg q2]
    exact q1

theorem fin_self {x : Nat} (h : FinB x) : fne x x = false := by
  obtain ⟨s, m, E, h1, _⟩ := fin_read h
  have hn : isNaN x = false := by unfold isNaN; rw [h1]; rfl
  unfold fne ford
  rw [order_self hn]
  rfl

theorem whole0_lt {x : Nat} (h : FinB x) : Whole x 0 ∨ ¬ Whole x 0 := Classical.em _

def oddB (x : Nat) : Bool := fne x x || fgt (fabs x) 9218868437227405311

theorem fin_of_odd {x : Nat} (hx : x < 2 ^ 64) (h : oddB x = false) : FinB x := by
  unfold oddB at h
  rw [Bool.or_eq_false_iff] at h
  refine ⟨hx, ?_⟩
  by_cases h1 : x % 2 ^ 63 < 2047 * 2 ^ 52
  · exact h1
  exfalso
  by_cases h2 : x % 2 ^ 63 = 2047 * 2 ^ 52
  · have e : fabs x = 9218868437227405312 := by unfold fabs; rw [h2]
    have : fgt 9218868437227405312 9218868437227405311 = true := by decide +kernel
    rw [e, this] at h
    cases h.2
  · have hn : isNaN x = true := (nan_iff hx).2 (by rw [dbl_infRung]; omega)
    have h3 := h.1
    unfold fne ford at h3
    rw [order_nan hn] at h3
    cases h3

theorem math_IsInf0_eq (x : Nat) : math_IsInf.f x 0 = some (fgt (fabs x) 9218868437227405311) := by
  unfold math_IsInf.f
  rw [if_pos rfl, show math_Abs.f x = some (fabs x) from rfl, obind]
  cases fgt (fabs x) 9218868437227405311 <;> rfl

theorem ref1_Finite_eq (t : Tensor) (hl : t.Data.length ≤ 9223372036854775806) : ref1_Finite.f t = some (tmay t && t.Data.all (fun x => !oddB x)) := by
  have key : loop (ref1_Finite.l0 t) 0 = some (if t.Data.all (fun x => !oddB x) = true then .go (t.Data.length : Int) else .ret false) := by
    refine loop_to _ (fun k st => ∃ j : Nat, k + j = t.Data.length ∧ st = (j : Int) ∧ t.Data.all (fun x => !oddB x) = (t.Data.drop j).all (fun x => !oddB x)) ?_ t.Data.length _ ⟨0, rfl, rfl, rfl⟩
    rintro k _ ⟨j, hk, rfl, h3⟩
    unfold ref1_Finite.l0
    by_cases hj : j < t.Data.length
    · rw [if_pos (by omega), if_pos (by omega), rd_nat _ j hj, math_IsInf0_eq]
      rw [drop_at hj, List.all_cons] at h3
      simp only [bindS]
      by_cases c1 : fne t.Data[j] t.Data[j] = true
      · left
        rw [if_pos c1, h3]
        simp [oddB, c1]
      · rw [if_neg c1]
        by_cases c2 : fgt (fabs t.Data[j]) 9218868437227405311 = true
        · left
          rw [if_pos c2, h3]
          simp [oddB, c2]
        · right
          rw [if_neg c2]
          refine ⟨_, k - 1, rfl, by omega, j + 1, by omega, by rw [w64_id (by omega) (by omega)]; rfl, ?_⟩
          rw [h3]
          simp [oddB, c1, c2]
    · left
      have hz : j = t.Data.length := by omega
      subst hz
      rw [if_neg (by omega), h3, List.drop_length]
      simp
  unfold ref1_Finite.f
  rw [key, obind]
  cases h : t.Data.all (fun x => !oddB x)
  · simp [Out2.on]
  · simp only [if_true, Out2.on]
    rw [ref1_TensorMay_eq, obind, Bool.and_true]


open Classical in
theorem rowSum_one {xs : List Nat} {k x : Nat} (hk : k < xs.length) (hx : FinB x) (he : xs[k] = x) (hz : ∀ i (h : i < xs.length), i ≠ k → Whole xs[i] 0) : fne (rowSum xs) x = false := by
  have inv : ∀ j, j ≤ xs.length → if j ≤ k then Whole (rowSum (xs.take j)) 0 else (if Whole x 0 then Whole (rowSum (xs.take j)) 0 else rowSum (xs.take j) = x) := by
    intro j
    induction j with
    | zero => intro _; rw [if_pos (Nat.zero_le _)]; exact Whole.zero
    | succ j ih =>
      intro hj
      have ih := ih (by omega)
      rw [← rowSum_take xs j (by omega)]
      by_cases h1 : j + 1 ≤ k
      · rw [if_pos h1]
        rw [if_pos (by omega)] at ih
        exact ih.add (hz j (by omega) (by omega)) (by decide)
      · rw [if_neg h1]
        by_cases h2 : j = k
        · subst h2
          rw [if_pos (Nat.le_refl _)] at ih
          rw [he]
          by_cases hw : Whole x 0
          · rw [if_pos hw]; exact ih.add hw (by decide)
          · rw [if_neg hw]; exact (fadd_zero hx ih hw).2
        · rw [if_neg (by omega)] at ih
          have h3 := hz j (by omega) h2
          by_cases hw : Whole x 0
          · rw [if_pos hw] at ih ⊢; exact ih.add h3 (by decide)
          · rw [if_neg hw] at ih ⊢
            rw [ih]; exact (fadd_zero hx h3 hw).1
  have h := inv xs.length (Nat.le_refl _)
  rw [if_neg (by omega), List.take_length] at h
  by_cases hw : Whole x 0
  · rw [if_pos hw] at h
    rw [h.fne hw]; rfl
  · rw [if_neg hw] at h
    rw [h]; exact fin_self hx

end Go.Proofs.Ytkcgiolledmbnab
