/- Plain laws, part 19: numbers that turn out whole; sums of sums; shapes cut short. -/
import Derived.Test.YtkcgiolledmbnabP17
import Derived.Test.YtkcgiolledmbnabP7
import Derived.Test.YtkcgiolledmbnabX0
namespace Go.Proofs.Ytkcgiolledmbnab
open Go Go.RowKit
set_option linter.unusedSimpArgs false
set_option linter.unusedVariables false

/-! ### numbers held against whole ones -/
theorem signed_up (s : Bool) (m up : Nat) : Ieee.signed s m up = Ieee.signed s m 0 * 2 ^ up := by
  rw [signed_of, signed_of, Nat.pow_zero, Nat.mul_one]
  cases s
  · simp
  · simp [Int.neg_mul]

theorem signed_abs (s : Bool) (m : Nat) : (Ieee.signed s m 0).natAbs = m := by
  rw [signed_of, Nat.pow_zero, Nat.mul_one]
  cases s <;> simp

theorem compare_mul {a b p : Int} (hp : 0 < p) : compare (a * p) (b * p) = compare a b := by
  rcases Int.lt_trichotomy a b with hlt | heq | hgt
  · rw [Int.compare_eq_lt.2 hlt, Int.compare_eq_lt.2 (Int.mul_lt_mul_of_pos_right hlt hp)]
  · subst heq; rw [Int.compare_eq_eq.2 rfl, Int.compare_eq_eq.2 rfl]
  · rw [Int.compare_eq_gt.2 hgt, Int.compare_eq_gt.2 (Int.mul_lt_mul_of_pos_right hgt hp)]

theorem order_low {x y : Nat} {s : Bool} {m i : Nat} {b : Int} (h : dbl.read x = .number s m (-(i : Int))) (k : Whole y b) : ford x y = some (compare (Ieee.signed s m 0) (b * 2 ^ i)) := by
  obtain ⟨t, n, j, k1, k2, k3, k4⟩ := k.scaled
  unfold ford Ieee.Format.order
  rw [h, k1]
  simp only [Ieee.Datum.order]
  have hm : min (-(i : Int)) (-(j : Int)) = -((max i j : Nat) : Int) := by omega
  rw [hm, show (-(i : Int) - -((max i j : Nat) : Int)).toNat = max i j - i by omega, show (-(j : Int) - -((max i j : Nat) : Int)).toNat = max i j - j by omega, k4, signed_up s m]
  rw [show j + (max i j - j) = i + (max i j - i) by omega, Int.pow_add, ← Int.mul_assoc]
  congr 1
  exact compare_mul (pow_pos_int _)

theorem order_high {x y : Nat} {s : Bool} {m p : Nat} {b : Int} (h : dbl.read x = .number s m (p : Int)) (k : Whole y b) : ford x y = some (compare (Ieee.signed s m 0 * 2 ^ p) b) := by
  obtain ⟨t, n, j, k1, k2, k3, k4⟩ := k.scaled
  unfold ford Ieee.Format.order
  rw [h, k1]
  simp only [Ieee.Datum.order]
  have hm : min (p : Int) (-(j : Int)) = -(j : Int) := by omega
  rw [hm, show ((p : Int) - -(j : Int)).toNat = p + j by omega, show (-(j : Int) - -(j : Int)).toNat = 0 by omega, k4, signed_up s m, Int.pow_add, ← Int.mul_assoc]
  congr 1
  exact compare_mul (pow_pos_int _)

theorem fle_of {x y : Nat} {a b : Int} (ho : ford x y = some (compare a b)) (h : fle x y = true) : a ≤ b := by
  unfold fle at h
  rw [ho] at h
  rcases Int.lt_trichotomy a b with hlt | heq | hgt
  · omega
  · omega
  · rw [Int.compare_eq_gt.2 hgt] at h; simp at h
theorem fge_of {x y : Nat} {a b : Int} (ho : ford x y = some (compare a b)) (h : fge x y = true) : b ≤ a := by
  unfold fge at h
  rw [ho] at h
  rcases Int.lt_trichotomy a b with hlt | heq | hgt
  · rw [Int.compare_eq_lt.2 hlt] at h; simp at h
  · omega
  · omega
theorem fne_of {x y : Nat} {a b : Int} (ho : ford x y = some (compare a b)) (h : fne x y = false) : a = b := by
  unfold fne at h
  rw [ho] at h
  rcases Int.lt_trichotomy a b with hlt | heq | hgt
  · rw [Int.compare_eq_lt.2 hlt] at h; simp at h
  · exact heq
  · rw [Int.compare_eq_gt.2 hgt] at h; simp at h

/-- what a word of two ends stands for -/
theorem between {x : Nat} {lo hi : Nat} {B : Int} (hB : 0 ≤ B ∧ B < 2 ^ 52) (hlo : Whole lo (-B)) (hhi : Whole hi B) (h1 : fge x lo = true) (h2 : fle x hi = true) :
    ∃ (s : Bool) (m i : Nat), dbl.read x = .number s m (-(i : Int)) ∧ (m : Int) ≤ B * 2 ^ i := by
  cases hr : dbl.read x with
  | infinity s =>
    exfalso
    obtain ⟨t, n, j, k1, _, _⟩ := hhi.scaled
    obtain ⟨t', n', j', k1', _, _⟩ := hlo.scaled
    unfold fle ford Ieee.Format.order at h2
    unfold fge ford Ieee.Format.order at h1
    rw [hr, k1] at h2
    rw [hr, k1'] at h1
    cases s <;> simp [Ieee.Datum.order] at h1 h2
  | nan s t =>
    exfalso
    unfold fle ford Ieee.Format.order at h2
    rw [hr] at h2
    simp [Ieee.Datum.order] at h2
  | number s m e =>
    by_cases he : 0 < e
    · exfalso
      obtain ⟨p, rfl⟩ : ∃ p : Nat, e = (p : Int) := ⟨e.toNat, by omega⟩
      have a1 := fle_of (order_high hr hhi) h2
      have a2 := fge_of (order_high hr hlo) h1
      have hm : 2 ^ 52 ≤ m := by
        unfold Ieee.Format.read at hr
        simp only at hr
        split at hr
        · simp only [Ieee.Datum.number.injEq] at hr
          have : dbl.leastPlace = -1074 := by decide
          omega
        · split at hr
          · simp only [Ieee.Datum.number.injEq] at hr
            have : dbl.binade = 2 ^ 52 := by decide
            omega
          · split at hr <;> cases hr
      have a3 : (Ieee.signed s m 0 * 2 ^ p).natAbs = m * 2 ^ p := by
        rw [Int.natAbs_mul, signed_abs, Int.natAbs_pow]; rfl
      have a4 : m * 1 ≤ m * 2 ^ p := Nat.mul_le_mul_left _ (Nat.one_le_two_pow)
      omega
    · obtain ⟨i, rfl⟩ : ∃ i : Nat, e = -(i : Int) := ⟨(-e).toNat, by omega⟩
      refine ⟨s, m, i, rfl, ?_⟩
      have a1 := fle_of (order_low hr hhi) h2
      have a2 := fge_of (order_low hr hlo) h1
      have a3 := signed_abs s m
      rw [Int.neg_mul] at a2
      omega

theorem ftoi_between {x : Nat} {s : Bool} {m i : Nat} {B : Nat} (hB : B ≤ 4096) (hr : dbl.read x = .number s m (-(i : Int))) (hm : (m : Int) ≤ (B : Int) * 2 ^ i) : ∃ n : Int, ftoi x = some n ∧ n.natAbs ≤ B := by
  have hm' : m ≤ B * 2 ^ i := by
    have : ((B * 2 ^ i : Nat) : Int) = (B : Int) * 2 ^ i := by simp
    omega
  have key : ∃ q : Nat, q ≤ B ∧ (Ieee.Datum.number s m (-(i : Int))).toInt .zero = some (Ieee.signed s q 0) := by
    refine ⟨Ieee.Toward.zero.cut s (m <<< (-(i : Int)).toNat) (- -(i : Int)).toNat, ?_, rfl⟩
    rw [show (-(i : Int)).toNat = 0 by omega, show (- -(i : Int)).toNat = i by omega, Nat.shiftLeft_zero]
    unfold Ieee.Toward.cut
    simp only [Bool.toNat_false, Nat.add_zero, Nat.shiftLeft_eq, Nat.one_mul]
    rcases Nat.le_total i (m.log2 + 2) with h | h
    · rw [Nat.min_eq_left h]
      exact Nat.div_le_of_le_mul (by rw [Nat.mul_comm]; exact hm')
    · rw [Nat.min_eq_right h, Nat.div_eq_of_lt]
      · exact Nat.zero_le _
      · exact Nat.lt_trans (Nat.lt_log2_self (n := m)) (Nat.pow_lt_pow_right (by omega) (by omega))
  obtain ⟨q, hq, hk⟩ := key
  refine ⟨Ieee.signed s q 0, ?_, by rw [signed_abs]; exact hq⟩
  have ha := signed_abs s q
  unfold ftoi floatToIntVal
  show (match (dbl.read x).toInt .zero with | some n => if IntKind.i64.min ≤ n ∧ n ≤ IntKind.i64.max then some n else none | none => none) = _
  rw [hr, hk]
  have e1 : IntKind.i64.min = -9223372036854775808 := rfl
  have e2 : IntKind.i64.max = 9223372036854775807 := rfl
  simp only
  rw [if_pos (by omega)]

theorem whole_of_eq {x : Nat} {s : Bool} {m i : Nat} {n : Int} (hr : dbl.read x = .number s m (-(i : Int))) (hn : n.natAbs < 2 ^ 53) (h : fne x (ofInt n) = false) : Whole x n := by
  have e := fne_of (order_low hr (Whole.ofInt hn)) h
  have a := signed_abs s m
  refine ⟨s, m, i, hr, ?_, fun hz => ?_⟩
  · rw [e, Int.natAbs_mul, Int.natAbs_pow] at a
    exact a.symm
  · have hp : (0 : Int) < 2 ^ i := pow_pos_int _
    rw [signed_of, Nat.pow_zero, Nat.mul_one] at e
    cases s with
    | false =>
      simp only [Bool.false_eq_true, if_false] at e
      symm
      rw [decide_eq_false_iff_not]
      intro hneg
      have := Int.mul_neg_of_neg_of_pos hneg hp
      omega
    | true =>
      simp only [if_true] at e
      symm
      rw [decide_eq_true_eq]
      rcases Int.lt_trichotomy n 0 with h1 | h1 | h1
      · exact h1
      · exact absurd h1 hz
      · exfalso
        have := Int.mul_pos h1 hp
        omega

/-! ### sums of sums -/
theorem isum_filter_add (P : Nat → Bool) (g : Nat → Int) (t : Nat) (x : Int) : ∀ m : Nat, isum (((List.range m).filter P).map (fun q => if q = t then g q + x else g q)) = isum (((List.range m).filter P).map g) + (if t < m ∧ P t = true then x else 0)
  | 0 => by simp [isum]
  | m + 1 => by
    rw [List.range_succ, List.filter_append, List.map_append, List.map_append, isum_append, isum_append, isum_filter_add P g t x m]
    by_cases hP : P m = true
    · by_cases hm : m = t
      · subst hm
        rw [if_neg (by omega), if_pos ⟨by omega, hP⟩]
        simp [hP, isum]
        omega
      · simp only [List.filter_cons, hP, if_true, List.filter_nil, List.map_cons, List.map_nil, isum, List.foldr_cons, List.foldr_nil, if_neg hm]
        by_cases c : t < m ∧ P t = true
        · rw [if_pos c, if_pos ⟨by omega, c.2⟩]; omega
        · rw [if_neg c, if_neg (fun d => c ⟨by omega, d.2⟩)]; omega
    · have hP' : P m = false := by simpa using hP
      simp only [List.filter_cons, hP', Bool.false_eq_true, if_false, List.filter_nil, List.map_nil, isum, List.foldr_nil]
      by_cases c : t < m ∧ P t = true
      · rw [if_pos c, if_pos ⟨by omega, c.2⟩]; omega
      · rw [if_neg c, if_neg (fun d => c ⟨by
          have : t ≠ m := fun e => by rw [e, hP'] at d; simp at d
          omega, d.2⟩)]

theorem isum_noughts : ∀ l : List Nat, isum (l.map (fun _ => (0 : Int))) = 0
  | [] => rfl
  | x :: l => by
    show 0 + isum (l.map (fun _ => (0 : Int))) = 0
    rw [isum_noughts l]; rfl

theorem sums_of_sums (m : Nat) (f : Nat → Nat) (P : Nat → Bool) (v : Nat → Int) : ∀ N : Nat, (∀ j, j < N → f j < m) →
    isum (((List.range m).filter P).map (fun q => isum (((List.range N).filter (fun j => decide (f j = q))).map v))) = isum (((List.range N).filter (fun j => P (f j))).map v)
  | 0, _ => isum_noughts _
  | N + 1, hf => by
    have ih := sums_of_sums m f P v N (fun j hj => hf j (by omega))
    have e : (fun q => isum (((List.range (N + 1)).filter (fun j => decide (f j = q))).map v)) = fun q => if q = f N then isum (((List.range N).filter (fun j => decide (f j = q))).map v) + v N else isum (((List.range N).filter (fun j => decide (f j = q))).map v) := by
      funext q
      rw [List.range_succ, List.filter_append, List.map_append, isum_append]
      by_cases h : q = f N
      · subst h
        simp [isum]
      · have h' : ¬ f N = q := fun c => h c.symm
        simp [h, h', isum]
    rw [e, isum_filter_add, ih, List.range_succ, List.filter_append, List.map_append, isum_append]
    have hl := hf N (by omega)
    by_cases h : P (f N) = true
    · rw [if_pos ⟨hl, h⟩]
      simp [h, isum]
    · rw [if_neg (fun c => h c.2)]
      have h' : P (f N) = false := by simpa using h
      simp [h', isum]

/-! ### shapes cut short -/
theorem sizeGo_fine : ∀ (s : List Int) (n : Int), (∀ x ∈ s, 1 ≤ x) → 1 ≤ n → n * prodL s ≤ 4096 → (sizeGo s n).2 = 0
  | [], n, _, _, _ => rfl
  | x :: r, n, hp, hn, h => by
    have hx := hp x (by simp)
    have hr := prodL_pos (s := r) (fun y hy => hp y (by simp [hy]))
    rw [prodL_cons, ← Int.mul_assoc] at h
    have h1 : 1 * 1 ≤ n * x := Int.mul_le_mul hn hx (by omega) (by omega)
    have h2 : n * x * 1 ≤ n * x * prodL r := Int.mul_le_mul_of_nonneg_left hr (by omega)
    rw [sizeGo_cons, if_neg]
    · exact sizeGo_fine r (n * x) (fun y hy => hp y (by simp [hy])) (by omega) h
    · rw [tdiv_of (by omega) (by omega)]
      have := Int.le_ediv_of_mul_le (by omega : 0 < n) (show x * n ≤ 4096 by rw [Int.mul_comm]; omega)
      omega

theorem may_of {s : List Int} (h4 : s.length ≤ 4) (hp : ∀ x ∈ s, 1 ≤ x) (h : prodL s ≤ 4096) : may s = true := by
  have ha : s.any (fun x => decide (x < 1)) = false := by
    rw [List.any_eq_false]
    intro x hx
    have := hp x hx
    simp; omega
  unfold may size
  rw [if_neg (by omega), ha]
  simpa using sizeGo_fine s 1 hp (by omega) (by omega)

theorem may_drop {s : List Int} (h : may s = true) (k : Nat) : may (s.drop k) = true :=
  may_of (by have := may_len h; rw [List.length_drop]; omega) (drop_pos (may_pos h) k) (Int.le_trans (prodL_drop_le k (may_pos h)) (may_le h))

theorem may_one {x : Int} {r : List Int} (h : may (x :: r) = true) : may (1 :: r) = true := by
  have hp := may_pos h
  have hr : ∀ y ∈ r, 1 ≤ y := fun y hy => hp y (by simp [hy])
  have h1 := may_drop h 1
  have hl := may_len h
  refine may_of (by simpa using hl) (fun y hy => ?_) ?_
  · rcases List.mem_cons.1 hy with rfl | hy
    · omega
    · exact hr y hy
  · have := may_le h1
    rw [prodL_cons, Int.one_mul]
    exact this

theorem nm_drop (s : List Int) (m : Nat) {k : Nat} (h : k < (s.drop m).length) : nm (s.drop m) k = nm s k := by
  have hl := List.length_drop (l := s) (i := m)
  unfold nm
  rw [dif_pos h, dif_pos (by omega), List.getElem_drop]
  congr 1
  omega

end Go.Proofs.Ytkcgiolledmbnab
