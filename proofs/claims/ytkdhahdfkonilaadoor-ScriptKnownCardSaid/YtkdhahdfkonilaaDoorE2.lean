/- The engine, part 2: how data lie in memory; what operations that make or write memory do. -/
import Derived.Test.YtkdhahdfkonilaaDoorE1
import Derived.Laws.FloatArith
namespace Go.Proofs.YtkdhahdfkonilaaDoor
open Go Go.RowKit
set_option linter.unusedSimpArgs false
set_option linter.unusedVariables false

/-! ### numbers with a point: all NaNs are one -/
def dbl : Ieee.Format := Ieee.double
def nanB : Nat := 0x7ff8000000000001
def isNaN (b : Nat) : Bool := (dbl.read b).isNaN
def canon (b : Nat) : Nat := bif isNaN b then nanB else b
/-- the bits b are those of the number x -/
def FR (b x : Nat) : Prop := b < 2 ^ 64 ∧ canon b = x
def orNaN : Option Nat → Nat
  | some r => r
  | none => nanB
def fadd (x y : Nat) : Nat := orNaN (dbl.add x y)
def fsub (x y : Nat) : Nat := orNaN (dbl.sub x y)
def fmul (x y : Nat) : Nat := orNaN (dbl.mul x y)
def fdiv (x y : Nat) : Nat := orNaN (dbl.div x y)
def fneg (x : Nat) : Nat := canon (Op.negFloat .f64 x)
def ford (x y : Nat) : Option Ordering := dbl.order x y
def feq (x y : Nat) : Bool := ford x y == some .eq
def fne (x y : Nat) : Bool := ford x y != some .eq
def flt (x y : Nat) : Bool := ford x y == some .lt
def fle (x y : Nat) : Bool := ford x y == some .lt || ford x y == some .eq
def fgt (x y : Nat) : Bool := ford x y == some .gt
def fge (x y : Nat) : Bool := ford x y == some .gt || ford x y == some .eq
def ofInt (n : Int) : Nat := FloatKind.f64.nearest n

theorem isNaN_read {b : Nat} (h : isNaN b = true) : ∃ s t, dbl.read b = .nan s t := by
  unfold isNaN Ieee.Datum.isNaN at h
  split at h
  · rename_i s t hr; exact ⟨s, t, hr⟩
  · cases h

theorem isNaN_nanB : isNaN nanB = true := by decide +kernel

theorem canon_cases (b : Nat) : (isNaN b = false ∧ canon b = b) ∨ (isNaN b = true ∧ canon b = nanB ∧ isNaN (canon b) = true) := by
  unfold canon
  cases h : isNaN b
  · exact .inl ⟨rfl, rfl⟩
  · exact .inr ⟨rfl, rfl, isNaN_nanB⟩

theorem canon_canon (b : Nat) : canon (canon b) = canon b := by
  rcases canon_cases b with ⟨h, e⟩ | ⟨h, e, h'⟩
  · rw [e]; exact e
  · unfold canon; rw [h]; simp only [cond_true]; rw [isNaN_nanB]; rfl

theorem sum_nan_left {d e : Ieee.Datum} {s t} (h : d = .nan s t) : d.sum e = none := by subst h; cases e <;> rfl
theorem sum_nan_right {d e : Ieee.Datum} {s t} (h : e = .nan s t) : d.sum e = none := by subst h; cases d <;> rfl
theorem prod_nan_left {d e : Ieee.Datum} {s t} (h : d = .nan s t) : d.product e = none := by subst h; cases e <;> rfl
theorem prod_nan_right {d e : Ieee.Datum} {s t} (h : e = .nan s t) : d.product e = none := by subst h; cases d <;> rfl
theorem quo_nan_left {k : Nat} {d e : Ieee.Datum} {s t} (h : d = .nan s t) : d.quotient k e = none := by subst h; cases e <;> rfl
theorem quo_nan_right {k : Nat} {d e : Ieee.Datum} {s t} (h : e = .nan s t) : d.quotient k e = none := by subst h; cases d <;> rfl
theorem ord_nan_left {d e : Ieee.Datum} {s t} (h : d = .nan s t) : d.order e = none := by subst h; cases e <;> rfl
theorem ord_nan_right {d e : Ieee.Datum} {s t} (h : e = .nan s t) : d.order e = none := by subst h; cases d <;> rfl

theorem canon_two {α : Type} {f : Nat → Nat → Option α} (hl : ∀ x y, isNaN x = true → f x y = none) (hr : ∀ x y, isNaN y = true → f x y = none) (x y : Nat) : f x y = f (canon x) (canon y) := by
  rcases canon_cases x with ⟨_, e⟩ | ⟨h, _, h'⟩
  · rw [e]
    rcases canon_cases y with ⟨_, e2⟩ | ⟨h, _, h'⟩
    · rw [e2]
    · rw [hr _ _ h, hr _ _ h']
  · rw [hl _ _ h, hl _ _ h']

theorem add_canon (x y : Nat) : dbl.add x y = dbl.add (canon x) (canon y) := by
  refine canon_two (f := dbl.add) (fun x y h => ?_) (fun x y h => ?_) x y
  · obtain ⟨s, t, e⟩ := isNaN_read h; simp [Ieee.Format.add, sum_nan_left e]
  · obtain ⟨s, t, e⟩ := isNaN_read h; simp [Ieee.Format.add, sum_nan_right e]
theorem opp_nan {d : Ieee.Datum} {s t} (h : d = .nan s t) : d.opposite = .nan (!s) t := by subst h; rfl
theorem sub_canon (x y : Nat) : dbl.sub x y = dbl.sub (canon x) (canon y) := by
  refine canon_two (f := dbl.sub) (fun x y h => ?_) (fun x y h => ?_) x y
  · obtain ⟨s, t, e⟩ := isNaN_read h; simp [Ieee.Format.sub, sum_nan_left e]
  · obtain ⟨s, t, e⟩ := isNaN_read h; simp [Ieee.Format.sub, sum_nan_right (opp_nan e)]
theorem mul_canon (x y : Nat) : dbl.mul x y = dbl.mul (canon x) (canon y) := by
  refine canon_two (f := dbl.mul) (fun x y h => ?_) (fun x y h => ?_) x y
  · obtain ⟨s, t, e⟩ := isNaN_read h; simp [Ieee.Format.mul, prod_nan_left e]
  · obtain ⟨s, t, e⟩ := isNaN_read h; simp [Ieee.Format.mul, prod_nan_right e]
theorem div_canon (x y : Nat) : dbl.div x y = dbl.div (canon x) (canon y) := by
  refine canon_two (f := dbl.div) (fun x y h => ?_) (fun x y h => ?_) x y
  · obtain ⟨s, t, e⟩ := isNaN_read h; simp [Ieee.Format.div, quo_nan_left e]
  · obtain ⟨s, t, e⟩ := isNaN_read h; simp [Ieee.Format.div, quo_nan_right e]
theorem ord_canon (x y : Nat) : dbl.order x y = dbl.order (canon x) (canon y) := by
  refine canon_two (f := dbl.order) (fun x y h => ?_) (fun x y h => ?_) x y
  · obtain ⟨s, t, e⟩ := isNaN_read h; simp [Ieee.Format.order, ord_nan_left e]
  · obtain ⟨s, t, e⟩ := isNaN_read h; simp [Ieee.Format.order, ord_nan_right e]

theorem FR.ord {b x c y : Nat} (h : FR b x) (k : FR c y) : FloatKind.f64.format.order b c = ford x y := by
  rw [← h.2, ← k.2]; exact ord_canon b c

/-- the number of a valid result is never a NaN -/
theorem lt64_isNaN {b : Nat} (h : isNaN b = true) : dbl.infRung < b % dbl.signWeight := by
  unfold isNaN at h
  unfold Ieee.Format.read at h
  simp only at h
  split at h
  · cases h
  · split at h
    · cases h
    · split at h
      · cases h
      · rename_i h1 h2 h3
        omega

theorem word_mod (neg : Bool) {rung : Nat} (h : rung ≤ dbl.infRung) : dbl.word neg rung % dbl.signWeight = rung := by
  have h2 : dbl.infRung < dbl.signWeight := by decide
  unfold Ieee.Format.word
  cases neg
  · simp only [Bool.false_eq_true, if_false]; exact Nat.mod_eq_of_lt (by omega)
  · simp only [if_true]
    rw [Nat.add_mod_left]
    exact Nat.mod_eq_of_lt (by omega)

theorem word_noNaN (neg : Bool) {rung : Nat} (h : rung ≤ dbl.infRung) : isNaN (dbl.word neg rung) = false := by
  cases hn : isNaN (dbl.word neg rung)
  · rfl
  · have := lt64_isNaN hn
    rw [word_mod neg h] at this
    omega

theorem nearest_noNaN (neg : Bool) (m : Nat) (p : Int) : isNaN (dbl.nearest neg m p) = false := by
  unfold Ieee.Format.nearest
  split
  · exact word_noNaN neg (Nat.zero_le _)
  · exact word_noNaN neg (Nat.min_le_right _ _)

theorem write_noNaN {d : Ieee.Datum} (h : d.isNaN = false) : isNaN (dbl.write d) = false := by
  cases d with
  | number s m p => exact nearest_noNaN s m p
  | infinity s => exact word_noNaN s (Nat.le_refl _)
  | nan s t => cases h

theorem isNaN_false_of {d : Ieee.Datum} (h : ∀ s t, d ≠ .nan s t) : d.isNaN = false := by
  cases d with
  | nan s t => exact absurd rfl (h s t)
  | _ => rfl

theorem sum_noNaN {d e r : Ieee.Datum} (h : d.sum e = some r) : r.isNaN = false := by
  cases d <;> cases e <;> simp only [Ieee.Datum.sum, Option.some.injEq, reduceCtorEq] at h <;> first
    | (subst h; rfl)
    | (split at h <;> first | (simp only [Option.some.injEq] at h; subst h; rfl) | cases h)
theorem prod_noNaN {d e r : Ieee.Datum} (h : d.product e = some r) : r.isNaN = false := by
  cases d <;> cases e <;> simp only [Ieee.Datum.product, Option.some.injEq, reduceCtorEq] at h <;> first
    | (subst h; rfl)
    | (split at h <;> first | (simp only [Option.some.injEq] at h; subst h; rfl) | cases h)
theorem quo_noNaN {k : Nat} {d e r : Ieee.Datum} (h : d.quotient k e = some r) : r.isNaN = false := by
  cases d <;> cases e <;> simp only [Ieee.Datum.quotient, Option.some.injEq, reduceCtorEq] at h <;> first
    | (subst h; rfl)
    | (split at h <;> first | (simp only [Option.some.injEq] at h; subst h; rfl) | (split at h <;> first | (simp only [Option.some.injEq] at h; subst h; rfl) | cases h) | cases h)

theorem FR.of_noNaN {b : Nat} (h : b < 2 ^ 64) (hn : isNaN b = false) : FR b b := ⟨h, by unfold canon; rw [hn]; rfl⟩

/-- what is cut off behind the point; none: no whole number of 64 bits -/
def ftoi (x : Nat) : Option Int := floatToIntVal .f64 x .i64
theorem FR.ftoi {b x : Nat} {n : Int} (h : FR b x) (hx : Proofs.YtkdhahdfkonilaaDoor.ftoi x = some n) : floatToIntVal .f64 b .i64 = some n := by
  obtain ⟨h1, rfl⟩ := h
  rcases canon_cases b with ⟨hn, e⟩ | ⟨hn, e, hn2⟩
  · rw [e] at hx; exact hx
  · exfalso
    rw [e] at hx
    have : Proofs.YtkdhahdfkonilaaDoor.ftoi nanB = none := by decide +kernel
    rw [this] at hx
    cases hx

theorem FR_valid {o : Option Ieee.Datum} {r : Nat} (hn : ∀ d, o = some d → d.isNaN = false) (h : o.map dbl.write = some r) : FR r r := by
  obtain ⟨d, hd, rfl⟩ := Option.map_eq_some_iff.1 h
  exact FR.of_noNaN (dbl.write_lt d) (write_noNaN (hn d hd))

theorem read_ofNaN {t : Nat} (h : isNaN t = true) (hl : t < 2 ^ 64) : FR t nanB := ⟨hl, by unfold canon; rw [h]; rfl⟩

theorem nanBits_lt (t : Nat) : (t % 2) * 2 ^ 63 + 0x7ff0000000000000 + 1 + (t / 2) % (2 ^ 52 - 1) < 2 ^ 64 := by omega

theorem nanBits_nan (t : Nat) : isNaN ((t % 2) * 2 ^ 63 + 0x7ff0000000000000 + 1 + (t / 2) % (2 ^ 52 - 1)) = true := by
  have e1 : dbl.signWeight = 2 ^ 63 := by decide
  have e2 : dbl.infRung = 0x7ff0000000000000 := by decide
  have e3 : dbl.binade = 2 ^ 52 := by decide
  have h : ((t % 2) * 2 ^ 63 + 0x7ff0000000000000 + 1 + (t / 2) % (2 ^ 52 - 1)) % dbl.signWeight = 0x7ff0000000000000 + 1 + (t / 2) % (2 ^ 52 - 1) := by
    rw [e1]; omega
  unfold isNaN Ieee.Format.read
  simp only [h, e2, e3]
  rw [if_neg (by omega), if_neg (by omega), if_neg (by omega)]
  rfl

/-- what is left open of a NaN does not count -/
theorem run_arith {P : Program} {w : World} {op : BinOp} {t : TypeId} {b c x y : Nat} {f : Nat → Nat → Nat} (hb : FR b x) (hc : FR c y)
    (hop : (op = .add ∧ f = fadd) ∨ (op = .sub ∧ f = fsub) ∨ (op = .mul ∧ f = fmul) ∨ (op = .quo ∧ f = fdiv)) :
    ∃ r w', (binOp op t (.float .f64 b) (.float .f64 c)).run P w = .ok (.float .f64 r) w' ∧ FR r (f x y) ∧ w.grownBy w' none := by
  have key : ∀ (o : Option Nat) (z : Nat), orNaN o = z → (∀ r, o = some r → FR r r) → ∃ r w', ((match o with
      | some r => pure (.float .f64 r)
      | none => do pure (.float .f64 (← choose (.nanBits .f64 b c))) : Sem Value)).run P w = .ok (.float .f64 r) w' ∧ FR r z ∧ w.grownBy w' none := by
    intro o z hz hv
    cases o with
    | some r => simp only [orNaN] at hz; subst hz; exact ⟨r, w, rfl, hv r rfl, World.grownBy.refl _ _⟩
    | none =>
      simp only [orNaN] at hz; subst hz
      refine ⟨_, _, by simp [Question.forced, Question.cut]; exact ⟨rfl, rfl⟩, ?_, ?_⟩
      · exact read_ofNaN (nanBits_nan _) (nanBits_lt _)
      · exact ⟨rfl, rfl, rfl, Nat.le_refl _, fun _ _ _ => rfl⟩
  obtain ⟨_, rfl⟩ := hb
  obtain ⟨_, rfl⟩ := hc
  rcases hop with ⟨rfl, rfl⟩ | ⟨rfl, rfl⟩ | ⟨rfl, rfl⟩ | ⟨rfl, rfl⟩
  · obtain ⟨r, w', h1, h2, h3⟩ := key (dbl.add b c) (fadd (canon b) (canon c)) (by unfold fadd; rw [← add_canon]) (fun r hr => FR_valid (fun d hd => sum_noNaN hd) hr)
    exact ⟨r, w', by simp only [binOp, Op.floatArith, ne_eq, not_true, if_false]; exact h1, h2, h3⟩
  · obtain ⟨r, w', h1, h2, h3⟩ := key (dbl.sub b c) (fsub (canon b) (canon c)) (by unfold fsub; rw [← sub_canon]) (fun r hr => FR_valid (fun d hd => sum_noNaN hd) hr)
    exact ⟨r, w', by simp only [binOp, Op.floatArith, ne_eq, not_true, if_false]; exact h1, h2, h3⟩
  · obtain ⟨r, w', h1, h2, h3⟩ := key (dbl.mul b c) (fmul (canon b) (canon c)) (by unfold fmul; rw [← mul_canon]) (fun r hr => FR_valid (fun d hd => prod_noNaN hd) hr)
    exact ⟨r, w', by simp only [binOp, Op.floatArith, ne_eq, not_true, if_false]; exact h1, h2, h3⟩
  · obtain ⟨r, w', h1, h2, h3⟩ := key (dbl.div b c) (fdiv (canon b) (canon c)) (by unfold fdiv; rw [← div_canon]) (fun r hr => FR_valid (fun d hd => quo_noNaN hd) hr)
    exact ⟨r, w', by simp only [binOp, Op.floatArith, ne_eq, not_true, if_false]; exact h1, h2, h3⟩

end Go.Proofs.YtkdhahdfkonilaaDoor
