/- The engine, part 8: small words for printed texts. -/
import Derived.Test.YtkdhahdfkonilaaDoorE7
namespace Go.Proofs.YtkdhahdfkonilaaDoor
open Go Go.RowKit
set_option linter.unusedSimpArgs false
set_option linter.unusedVariables false
set_option linter.unnecessarySimpa false

def w64 (x : Int) : Int := IntKind.i64.wrap x

def Out2.on {β γ X : Type} (r : Out2 β γ) (k : β → X) (t : γ → X) : X :=
  match r with
  | .go b => k b
  | .ret c => t c

def bindS {α σ ρ : Type} (x : Option α) (k : α → Step σ ρ) : Step σ ρ :=
  match x with
  | some a => k a
  | none => .bad

section
variable {α σ ρ : Type} {r : ρ}
theorem ob_split {x : Option α} {k : α → Option ρ} (h : x.bind k = some r) : ∃ a, x = some a ∧ k a = some r := by
  cases x with
  | none => cases h
  | some a => exact ⟨a, rfl, h⟩
theorem if_split {c : Prop} [Decidable c] {x y : Option ρ} (h : (if c then x else y) = some r) : (c ∧ x = some r) ∨ (¬ c ∧ y = some r) := by
  by_cases hc : c
  · rw [if_pos hc] at h; exact .inl ⟨hc, h⟩
  · rw [if_neg hc] at h; exact .inr ⟨hc, h⟩
theorem ifb_split {c : Bool} {x y : Option ρ} (h : (if c = true then x else y) = some r) : (c = true ∧ x = some r) ∨ (c = false ∧ y = some r) := by
  cases c
  · exact .inr ⟨rfl, by simpa using h⟩
  · exact .inl ⟨rfl, by simpa using h⟩
theorem if_guard {c : Prop} [Decidable c] {x : Option ρ} (h : (if c then x else none) = some r) : c ∧ x = some r := by
  rcases if_split h with h | h
  · exact h
  · cases h.2

variable {g : σ → Option ρ}
theorem obS_split {x : Option α} {k : α → Step σ ρ} (h : (bindS x k).go g = some r) : ∃ a, x = some a ∧ (k a).go g = some r := by
  cases x with
  | none => cases h
  | some a => exact ⟨a, rfl, h⟩
theorem ifS_split {c : Prop} [Decidable c] {x y : Step σ ρ} (h : (if c then x else y).go g = some r) : (c ∧ x.go g = some r) ∨ (¬ c ∧ y.go g = some r) := by
  by_cases hc : c
  · rw [if_pos hc] at h; exact .inl ⟨hc, h⟩
  · rw [if_neg hc] at h; exact .inr ⟨hc, h⟩
theorem ifbS_split {c : Bool} {x y : Step σ ρ} (h : (if c = true then x else y).go g = some r) : (c = true ∧ x.go g = some r) ∨ (c = false ∧ y.go g = some r) := by
  cases c
  · exact .inr ⟨rfl, by simpa using h⟩
  · exact .inl ⟨rfl, by simpa using h⟩
theorem ifS_guard {c : Prop} [Decidable c] {x : Step σ ρ} (h : (if c then x else .bad).go g = some r) : c ∧ x.go g = some r := by
  rcases ifS_split h with h | h
  · exact h
  · cases h.2
end

/-! ### tests -/
theorem eqT {a b : Int} (h : a = b) : (a == b) = true := beq_iff_eq.2 h
theorem eqF {a b : Int} (h : ¬ a = b) : (a == b) = false := beq_eq_false_iff_ne.2 h
theorem neT {a b : Int} (h : ¬ a = b) : (a != b) = true := bne_iff_ne.2 h
theorem neF {a b : Int} (h : a = b) : (a != b) = false := bne_eq_false_iff_eq.2 h

section
variable {b c x y : Nat} {t : Bool} (hb : FR b x) (hc : FR c y)
include hb hc
theorem ftEq (h : feq x y = t) : (FloatKind.f64.format.order b c == some .eq) = t := by rw [hb.ord hc]; exact h
theorem ftNe (h : fne x y = t) : (FloatKind.f64.format.order b c != some .eq) = t := by rw [hb.ord hc]; exact h
theorem ftLt (h : flt x y = t) : (FloatKind.f64.format.order b c == some .lt) = t := by rw [hb.ord hc]; exact h
theorem ftLe (h : fle x y = t) : (FloatKind.f64.format.order b c == some .lt || FloatKind.f64.format.order b c == some .eq) = t := by rw [hb.ord hc]; exact h
theorem ftGt (h : fgt x y = t) : (FloatKind.f64.format.order b c == some .gt) = t := by rw [hb.ord hc]; exact h
theorem ftGe (h : fge x y = t) : (FloatKind.f64.format.order b c == some .gt || FloatKind.f64.format.order b c == some .eq) = t := by rw [hb.ord hc]; exact h
end

theorem FR.lit {b : Nat} (h : Nat.blt b 18446744073709551616 = true) (hn : isNaN b = false) : FR b b := FR.of_noNaN (Nat.le_of_ble_eq_true h) hn
theorem FR.ofInt (n : Int) : FR (FloatKind.f64.nearest n) (ofInt n) :=
  FR.of_noNaN (b := FloatKind.f64.nearest n) (dbl.write_lt (.number (n < 0) n.natAbs 0)) (write_noNaN (d := .number (n < 0) n.natAbs 0) rfl)

theorem isNaN_iff (b : Nat) : isNaN b = true ↔ dbl.infRung < b % dbl.signWeight := by
  constructor
  · exact lt64_isNaN
  · intro h
    have h1 : dbl.binade ≤ dbl.infRung := by decide
    unfold isNaN Ieee.Format.read
    simp only
    rw [if_neg (by omega), if_neg (by omega), if_neg (by omega)]
    rfl

theorem negFloat_mod (b : Nat) : Op.negFloat .f64 b % dbl.signWeight = b % dbl.signWeight := by
  have e : dbl.signWeight = 2 ^ 63 := by decide
  have e2 : Op.negFloat .f64 b = b ^^^ 2 ^ 63 := rfl
  rw [e, e2, Nat.xor_mod_two_pow]
  simp

theorem isNaN_neg (b : Nat) : isNaN (Op.negFloat .f64 b) = isNaN b := by
  rw [Bool.eq_iff_iff, isNaN_iff, isNaN_iff, negFloat_mod]

theorem negFloat_lt {b : Nat} (h : b < 2 ^ 64) : Op.negFloat .f64 b < 2 ^ 64 := by
  have e2 : Op.negFloat .f64 b = b ^^^ 2 ^ 63 := rfl
  rw [e2]
  exact Nat.xor_lt_two_pow h (by decide)

theorem FR.neg {b x : Nat} (h : FR b x) : FR (Op.negFloat .f64 b) (fneg x) := by
  obtain ⟨h1, rfl⟩ := h
  refine ⟨negFloat_lt h1, ?_⟩
  unfold fneg
  rcases canon_cases b with ⟨hn, e⟩ | ⟨hn, e, hn'⟩
  · rw [e]
  · rw [e]
    unfold canon
    rw [isNaN_neg, hn, isNaN_neg, isNaN_nanB]
    rfl

theorem endL {P : Program} {ops : Array Oper} {Q : Exit → Act → World → Prop} {l : List Oper} {a : Act} {w : World} (hl : l = []) (h : Q .normal a w) : wpList P ops Q l a w := by
  subst hl; exact h

def noRows : List Fact → Bool
  | [] => true
  | .sl .. :: r => noRows r
  | _ :: _ => false

theorem noRows_spec : ∀ {gs : List Fact}, noRows gs = true → ∀ f ∈ gs, f.row = []
  | .sl kd A c xs :: r, h, f, hf => by
    rcases List.mem_cons.1 hf with rfl | hf
    · rfl
    · exact noRows_spec (gs := r) h f hf
  | [], _, f, hf => by simp at hf

section
variable {B M : List (Option Nat)} {w0 w : World} {fs : List Fact}
theorem Mem.give (h : Mem B M w0 fs w) (is : List Nat) (gs : List Fact) (hp : pickF fs is = some gs) (hsl : noRows gs = true) : Mem [] (rows fs ++ M) w gs w := h.lend is gs hp (noRows_spec hsl)

theorem Mem.slAt {α : Type} {kd : Kd α} {A : Option Addr} {c : Nat} {xs : List α} (h : Mem B M w0 fs w) (i : Nat) (hi : fs[i]? = some (.sl kd A c xs)) : Sl kd (U (rows fs ++ M)) w A xs := (h.get i hi).2
theorem Mem.cpAt {α : Type} {kd : Kd α} {A : Option Addr} {c : Nat} {xs : List α} (h : Mem B M w0 fs w) (i : Nat) (hi : fs[i]? = some (.sl kd A c xs)) : Cp A xs.length c := (h.get i hi).1
theorem Mem.owAt {α : Type} {kd : Kd α} {E : TypeId} {A : Option Addr} {c : Nat} {xs : List α} (h : Mem B M w0 fs w) (i : Nat) (hi : fs[i]? = some (.ow kd E A c xs)) : Ow kd (U (rows fs ++ M)) 0 E w A c xs := h.get i hi
theorem Mem.bxAt {b : Nat} {cs : List Value} {T : TypeId} (h : Mem B M w0 fs w) (i : Nat) (hi : fs[i]? = some (.bx b cs T)) : Bx w b cs T := h.get i hi
theorem Mem.cell {b : Nat} {cs : List Value} {T : TypeId} (h : Mem B M w0 fs w) (i : Nat) (hi : fs[i]? = some (.bx b cs T)) {j : Nat} {v : Value} (hj : cs[j]? = some v) : w.cell? ⟨b, j, none⟩ = some v := (h.bxAt i hi).cell hj

/-- a slice of a slice -/
theorem Mem.sub {α : Type} {kd : Kd α} {A : Option Addr} {c : Nat} {xs : List α} (h : Mem B M w0 fs w) (i : Nat) (hi : fs[i]? = some (.sl kd A c xs)) {l k : Nat} (h1 : l ≤ k) (h2 : k ≤ xs.length) :
    Mem B M w0 (.sl kd (Proofs.YtkdhahdfkonilaaDoor.sub A c l kd.n) (c - l) ((xs.take k).drop l) :: fs) w := by
  have hc := h.cpAt i hi
  refine h.push (World.grownBy.refl _ _) (f := .sl kd (Proofs.YtkdhahdfkonilaaDoor.sub A c l kd.n) (c - l) ((xs.take k).drop l)) ⟨?_, ?_⟩ (fun r hr => by simp [Fact.row] at hr) (by simp [Fact.row])
  · have := hc.sub (k := kd.n) h1 (by have := hc.1; omega : k ≤ c)
    have e : ((xs.take k).drop l).length = k - l := by simp; omega
    rw [e]; exact this
  · exact (h.slAt i hi).sub hc h1 h2

/-- nil is data too -/
theorem Mem.nilSl {α : Type} (kd : Kd α) (h : Mem B M w0 fs w) : Mem B M w0 (.sl kd none 0 [] :: fs) w :=
  h.push (World.grownBy.refl _ _) (f := .sl kd none 0 []) ⟨⟨Nat.zero_le _, fun _ => rfl⟩, .inl rfl⟩ (fun r hr => by simp [Fact.row] at hr) (by simp [Fact.row])
theorem Mem.nilOw {α : Type} (kd : Kd α) (E : TypeId) (h : Mem B M w0 fs w) : Mem B M w0 (.ow kd E none 0 [] :: fs) w :=
  h.own (Ow.nil (base := w.heap.size)) (World.grownBy.refl _ _)

/-- an element that lies in a slice, itself a slice -/
theorem Mem.elem {α : Type} {kd : Kd α} (h : Mem B M w0 fs w) {A : Option Addr} {c : Nat} {xs : List α} (hc : Cp A xs.length c) (hs : Sl kd (U (rows fs ++ M)) w A xs) : Mem B M w0 (.sl kd A c xs :: fs) w :=
  h.push (World.grownBy.refl _ _) (f := .sl kd A c xs) ⟨hc, hs⟩ (fun r hr => by simp [Fact.row] at hr) (by simp [Fact.row])
end

theorem sub_cap {α : Type} {A : Option Addr} {n c : Nat} {xs : List α} {h : Int} (hn : n = xs.length) (hc : Cp A xs.length c) (hh : 0 ≤ h ∧ h ≤ (n : Int)) : 0 ≤ h ∧ h ≤ (c : Int) := by
  have := hc.1; omega

theorem len_sub {α : Type} {xs : List α} {n l k : Nat} (hn : n = xs.length) (h1 : l ≤ k) (h2 : k ≤ n) : k - l = ((xs.take k).drop l).length := by simp; omega


/-- one operation that computes or reads, as a step of its own -/
theorem aOne {P : Program} {Q : Exit → Act → World → Prop} {a : Act} {w : World} {n : Nat} {e : Env} {o : Oper} {K : Act → World → Prop} (ora : List Value) (v : Value) (ob : List Ob) (d : Tmp) (hf : Fr n a e)
    (hr : one P e o ora = some (v, [], ob)) (hdst : o.dst = some d) (hd : Nat.blt d n = true) (ho : obs w ob) (hk : ∀ a', Fr n a' ((d, v) :: e) → K a' w) : o.wp P a w K Q := by
  refine wp_val (one_sound hf hr ho) ?_
  rw [hdst]
  exact hk _ (hf.put (Nat.le_of_ble_eq_true hd))

theorem cell_bool {w : World} {a : Addr} {b c : Bool} (h : w.cell? a = some (.bool b)) (hc : b = c) : w.cell? a = some (.bool c) := by rw [h, hc]

theorem okIs {w : World} {p : Prop} (h : p) : (Ob.is p).ok w := h

/-! ### apart from rows that grow -/
theorem pickF_at {fs : List Fact} {i : Nat} : ∀ {r : List Nat} {l : List Fact}, pickF fs r = some l → r.any (Nat.beq i) = false → ∀ f ∈ l, ∃ j, j ≠ i ∧ fs[j]? = some f
  | [], l, hl, _, f, hf => by simp only [pickF, Option.some.injEq] at hl; subst hl; simp at hf
  | a :: r, l, hl, ha, f, hf => by
    simp only [pickF] at hl
    split at hl
    · rename_i g' l' k1 k2
      simp only [Option.some.injEq] at hl
      subst hl
      simp only [List.any_cons, Bool.or_eq_false_iff] at ha
      rcases List.mem_cons.1 hf with rfl | hf
      · exact ⟨a, fun hc => by subst hc; simp at ha, k1⟩
      · exact pickF_at k2 ha.2 f hf
    · cases hl

theorem Mem.bxK {B M : List (Option Nat)} {w0 w : World} {fs : List Fact} (h : Mem B M w0 fs w) (i : Nat) (js : List Nat) (gs : List Fact) {b : Nat} {cs : List Value} {T : TypeId} (hi : fs[i]? = some (.bx b cs T)) (hp : pickF fs js = some gs)
    (hd : js.any (Nat.beq i) = false) : some b ∉ rows gs := by
  intro hc
  obtain ⟨g, hg, hr⟩ := rows_mem hc
  obtain ⟨j, hj, hfj⟩ := pickF_at hp hd g hg
  rcases getElem?_inj_rows h.nd hi hfj (Ne.symm hj) (r := some b) (by simp [Fact.row]) with h1 | h1
  · cases h1
  · exact h1 hr

theorem Mem.slK {B M : List (Option Nat)} {w0 w : World} {fs : List Fact} {α : Type} {kd : Kd α} {A : Option Addr} {c : Nat} {xs : List α} (h : Mem B M w0 fs w) (i : Nat) (js : List Nat) (gs : List Fact) (hi : fs[i]? = some (.sl kd A c xs)) (hp : pickF fs js = some gs)
    {x : Int} (h0 : 0 ≤ x) (h1 : x < xs.length) : some (ad A).block ∉ rows gs := by
  rcases h.slAt i hi with hx | ⟨b, o, hA, hS, _⟩
  · subst hx; simp at h1; omega
  · subst hA
    intro hc
    refine hS (List.mem_append.2 (.inl ?_))
    obtain ⟨g, hg, hr⟩ := rows_mem hc
    exact mem_rows (pickF_mem hp g hg) hr

theorem kAdd {K : List (Option Nat)} {a : Addr} {n : Nat} (h : some a.block ∉ K) : some (a.add n).block ∉ K := by
  have e : (a.add n).block = a.block := by unfold Addr.add; split <;> rfl
  rw [e]; exact h

end Go.Proofs.YtkdhahdfkonilaaDoor
