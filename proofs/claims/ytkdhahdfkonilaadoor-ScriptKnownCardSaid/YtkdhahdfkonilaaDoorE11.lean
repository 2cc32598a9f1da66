/- The engine, part 11: calls that write what they are handed; results that share nothing with what was lent; what evaluation by a bounded number of rounds shows. -/
import Derived.Test.YtkdhahdfkonilaaDoorE10
namespace Go.Proofs.YtkdhahdfkonilaaDoor
open Go Go.RowKit
set_option linter.unusedSimpArgs false
set_option linter.unusedVariables false
set_option linter.unnecessarySimpa false

theorem Ow.trG {α : Type} {kd : Kd α} {M M' : List (Option Nat)} {base : Nat} {E : TypeId} {A : Option Addr} {c : Nat} {xs : List α} {w w' : World} (h : Ow kd (U M) base E w A c xs) (hsz : w.heap.size ≤ w'.heap.size)
    (hb : ∀ k, bk A = some k → w'.heap[k]? = w.heap[k]?) (ht : Tr M M' w w') : Ow kd (U M') base E w' A c xs := by
  obtain ⟨cs, h1, h2⟩ := h
  refine ⟨cs, ⟨h1.1, ?_⟩, h2.move ht.m hsz⟩
  rcases h1.2 with hn | ⟨g, cap, cur, hv, hbg, hg, rest⟩
  · exact .inl hn
  · refine .inr ⟨g, cap, cur, hv, hbg, ?_, rest⟩
    have e : bk A = some g := by
      simp only [Value.slice.injEq] at hv
      obtain ⟨rfl, _⟩ := hv
      rfl
    rw [hb g e]; exact hg

theorem Fact.ok_gb {M M' R : List (Option Nat)} {w w' : World} (hg : Gb R w w') (ht : Tr M M' w w') : ∀ {f : Fact}, (∀ r ∈ f.row, r = none ∨ r ∉ R) → f.ok M w → f.ok M' w'
  | .sl kd A c xs, _, h => ⟨h.1, h.2.tr ht hg.size⟩
  | .ow kd E A c xs, hr, h => by
    have h : Ow kd (U M) 0 E w A c xs := h
    refine Ow.trG h hg.size (fun k hk => hg.block k (h.base_le k hk).2 ?_) ht
    rcases hr (bk A) (by simp [Fact.row]) with e | e
    · rw [e] at hk; cases hk
    · rw [hk] at e; exact e
  | .bx b cs T, hr, h => by
    have h : Bx w b cs T := h
    show w'.heap[b]? = _
    rw [hg.block b h.lt ?_]
    · exact h
    · rcases hr (some b) (by simp [Fact.row]) with e | e
      · cases e
      · exact e

theorem pickF_append {fs : List Fact} : ∀ {a b : List Nat} {x y : List Fact}, pickF fs a = some x → pickF fs b = some y → pickF fs (a ++ b) = some (x ++ y)
  | [], b, x, y, h, k => by simp only [pickF, Option.some.injEq] at h; subst h; exact k
  | i :: a, b, x, y, h, k => by
    simp only [pickF] at h
    split at h
    · rename_i f l h1 h2
      simp only [Option.some.injEq] at h
      subst h
      have := pickF_append h2 k
      simp only [List.cons_append, pickF, h1, this]
    · cases h

theorem noRows_rows : ∀ {gs : List Fact}, noRows gs = true → rows gs = []
  | [], _ => rfl
  | .sl kd A c xs :: r, h => by simpa [rows, Fact.row] using noRows_rows (gs := r) h

section
variable {B M : List (Option Nat)} {w0 w : World} {fs : List Fact}

theorem Mem.two (h : Mem B M w0 fs w) {is js : List Nat} {own rest : List Fact} (hi : pickF fs is = some own) (hj : pickF fs js = some rest) (hd : distinct (is ++ js) = true) :
    apartRows (rows own) ∧ apartRows (rows rest) ∧ ∀ r ∈ rows own, r = none ∨ r ∉ rows rest := by
  have := apart_pick h.nd (fun f _ => row_le f) (pickF_append hi hj) hd
  rw [rows_append] at this
  exact apart_append.1 this

theorem pick_rows {is : List Nat} {own : List Fact} (hi : pickF fs is = some own) : ∀ r ∈ rows own, r ∈ rows fs := fun r hr =>
  let ⟨f, hf, hrf⟩ := rows_mem hr
  mem_rows (pickF_mem hi f hf) hrf

/-- what a callee is handed to write, and what it is lent -/
theorem Mem.giveO (h : Mem B M w0 fs w) (is js ls : List Nat) (own rest lent : List Fact) (hi : pickF fs is = some own) (hj : pickF fs js = some rest) (hl : pickF fs ls = some lent) (hd : distinct (is ++ js) = true)
    (hsl : noRows lent = true) : Mem (rows own) (rows rest ++ M) w (own ++ lent) w := by
  obtain ⟨n1, n2, n3⟩ := h.two hi hj hd
  have er : rows (own ++ lent) = rows own := by rw [rows_append, noRows_rows hsl, List.append_nil]
  refine ⟨?_, Gb.refl _ _, ?_, ?_, ?_⟩
  · intro k hk
    rcases List.mem_append.1 hk with hk | hk
    · exact (h.low k (pick_rows hj _ hk)).2.1
    · exact Nat.lt_of_lt_of_le (h.lt k hk) h.cum.size
  · rw [er]; exact n1
  · intro k hk
    rw [er] at hk
    obtain ⟨_, l2, l3⟩ := h.low k (pick_rows hi _ hk)
    refine ⟨.inr hk, l2, fun hc => ?_⟩
    rcases List.mem_append.1 hc with hc | hc
    · rcases n3 _ hk with e | e
      · cases e
      · exact e hc
    · exact l3 hc
  · intro f hf
    rw [er]
    have hm : f ∈ fs := by
      rcases List.mem_append.1 hf with hf | hf
      · exact pickF_mem hi f hf
      · exact pickF_mem hl f hf
    refine Fact.ok_mem (fun r hr => ?_) (h.ok f hm)
    simp only [List.mem_append] at hr ⊢
    rcases hr with hr | hr | hr
    · exact .inl (pick_rows hi r hr)
    · exact .inl (pick_rows hj r hr)
    · exact .inr hr

/-- and what comes back -/
theorem Mem.backO (h : Mem B M w0 fs w) (is js : List Nat) (own rest : List Fact) (hi : pickF fs is = some own) (hj : pickF fs js = some rest) (hd : distinct (is ++ js) = true) {w' : World} {gs : List Fact}
    (k : Mem (rows own) (rows rest ++ M) w gs w') : Mem B M w0 (gs ++ rest) w' := by
  obtain ⟨n1, n2, n3⟩ := h.two hi hj hd
  have hsz := h.cum.size
  have hsz' := k.cum.size
  refine ⟨h.lt, ?_, ?_, ?_, ?_⟩
  · refine ⟨k.cum.os.trans h.cum.os, k.cum.tape.trans h.cum.tape, k.cum.output.trans h.cum.output, Nat.le_trans hsz hsz', fun j hj' hB => ?_⟩
    rw [k.cum.block j (by omega) (fun hc => ?_)]
    · exact h.cum.block j hj' hB
    · rcases (h.low j (pick_rows hi _ hc)).1 with l | l
      · omega
      · exact hB l
  · rw [rows_append, apart_append]
    refine ⟨k.nd, n2, fun r hr => ?_⟩
    cases r with
    | none => exact .inl rfl
    | some j => exact .inr fun hc => (k.low j hr).2.2 (List.mem_append.2 (.inl hc))
  · intro j hj'
    rw [rows_append] at hj'
    rcases List.mem_append.1 hj' with hr | hr
    · obtain ⟨l1, l2, l3⟩ := k.low j hr
      refine ⟨?_, l2, fun hc => l3 (List.mem_append.2 (.inr hc))⟩
      rcases l1 with l1 | l1
      · exact .inl (by omega)
      · exact (h.low j (pick_rows hi _ l1)).1
    · obtain ⟨l1, l2, l3⟩ := h.low j (pick_rows hj _ hr)
      exact ⟨l1, by omega, l3⟩
  · intro f hf
    rw [rows_append]
    rcases List.mem_append.1 hf with hf | hf
    · rw [List.append_assoc]; exact k.ok f hf
    · refine Fact.ok_gb k.cum (fun j hj' hM => ⟨fun hc => ?_, k.cum.block j hj' (fun hc => hM (List.mem_append.2 (.inl (pick_rows hi _ hc))))⟩) (fun r hr => ?_) (h.ok f (pickF_mem hj f hf))
      · simp only [List.mem_append, not_or] at hc hM
        rcases hc with (hc | hc) | hc
        · obtain ⟨l1, _, _⟩ := k.low j hc
          rcases l1 with l1 | l1
          · omega
          · exact hM.1 (pick_rows hi _ l1)
        · exact hM.1 (pick_rows hj _ hc)
        · exact hM.2 hc
      · by_cases hz : r = none
        · exact .inl hz
        · right; intro hc
          rcases n3 r hc with e | e
          · exact hz e
          · exact e (mem_rows hf hr)

/-- what holds of all worlds alike -/
def Kd.Flat {α : Type} (kd : Kd α) : Prop := ∀ (S S' : Nat → Prop) (w : World) (us : List Value) (x : α), kd.rep S w us x → kd.rep S' w us x
theorem Kd.flat_int (k : IntKind) : (Kd.int k).Flat := fun _ _ _ _ _ h => h
theorem Kd.flat_bool : Kd.bool.Flat := fun _ _ _ _ _ h => h
theorem Kd.flat_float : Kd.float.Flat := fun _ _ _ _ _ h => h

def Fact.Flat : Fact → Prop
  | .sl .. => False
  | .ow kd .. => kd.Flat
  | .bx .. => True

def flats : List Fact → Prop
  | [] => True
  | f :: r => f.Flat ∧ flats r

theorem flats_mem : ∀ {fs : List Fact}, flats fs → ∀ f ∈ fs, f.Flat
  | g :: r, h, f, hf => by
    rcases List.mem_cons.1 hf with rfl | hf
    · exact h.1
    · exact flats_mem h.2 f hf

theorem Fact.ok_flat {M M' : List (Option Nat)} {w : World} : ∀ {f : Fact}, f.Flat → f.ok M w → f.ok M' w
  | .sl .., hf, _ => hf.elim
  | .ow kd E A c xs, hf, h => by
    obtain ⟨cs, h1, h2⟩ := h
    exact ⟨cs, h1, h2.1, fun i hi => let ⟨us, k1, k2⟩ := h2.2 i hi; ⟨us, hf _ _ _ _ _ k1, k2⟩⟩
  | .bx b cs T, _, h => h

/-- what comes back shares nothing with what was lent -/
theorem Mem.backF (h : Mem B M w0 fs w) {M' : List (Option Nat)} {w' : World} {gs : List Fact} (k : Mem [] M' w gs w') (hf : flats gs) : Mem B M w0 (gs ++ fs) w' := by
  have hg := k.cum.none
  have hst := h.still hg
  have new : ∀ j, some j ∈ rows gs → w.heap.size ≤ j ∧ j < w'.heap.size := fun j hj => by
    obtain ⟨l1, l2, _⟩ := k.low j hj
    rcases l1 with l1 | l1
    · exact ⟨l1, l2⟩
    · simp at l1
  refine ⟨h.lt, hst.cum, ?_, ?_, ?_⟩
  · rw [rows_append, apart_append]
    refine ⟨k.nd, h.nd, fun r hr => ?_⟩
    cases r with
    | none => exact .inl rfl
    | some j => exact .inr fun hc => by have := (new j hr).1; have := (h.low j hc).2.1; omega
  · intro j hj
    rw [rows_append] at hj
    rcases List.mem_append.1 hj with hj | hj
    · obtain ⟨n1, n2⟩ := new j hj
      have hsz := h.cum.size
      exact ⟨.inl (by omega), n2, fun hc => by have := h.lt j hc; omega⟩
    · exact hst.low j hj
  · intro f hm
    rcases List.mem_append.1 hm with hm | hm
    · exact Fact.ok_flat (flats_mem hf f hm) (k.ok f hm)
    · refine Fact.ok_tr hg (fun j hj hM => ⟨fun hc => ?_, hg.block j hj (by simp)⟩) (fun r _ => by cases r <;> simp) (h.ok f hm)
      rw [rows_append, List.append_assoc] at hc
      rcases List.mem_append.1 hc with hc | hc
      · have := (new j hc).1; omega
      · exact hM hc
end

/-! ### square roots -/
def fsqrt (x : Nat) : Nat := orNaN (dbl.sqrt x)

theorem root_noNaN {k : Nat} {d r : Ieee.Datum} (h : d.root k = some r) : r.isNaN = false := by
  cases d with
  | nan s t => simp [Ieee.Datum.root] at h
  | infinity s =>
    simp only [Ieee.Datum.root] at h
    split at h
    · cases h
    · simp only [Option.some.injEq] at h; subst h; rfl
  | number s m i =>
    simp only [Ieee.Datum.root] at h
    split at h
    · simp only [Option.some.injEq] at h; subst h; rfl
    · split at h
      · cases h
      · simp only [Option.some.injEq] at h; subst h; rfl

theorem sqrt_canon (x : Nat) : dbl.sqrt x = dbl.sqrt (canon x) := by
  rcases canon_cases x with ⟨_, e⟩ | ⟨h1, e, h2⟩
  · rw [e]
  · have nn : ∀ y, isNaN y = true → dbl.sqrt y = none := fun y hy => by
      obtain ⟨s, t, hr⟩ := isNaN_read hy
      unfold Ieee.Format.sqrt
      rw [hr]; rfl
    rw [nn x h1, nn _ h2]

theorem run_sqrt {P : Program} {w : World} {b x : Nat} (hb : FR b x) : ∃ v w', (Extern.MathSqrt.sqrt #[.float .f64 b]).run P w = .ok v w' ∧ ∃ r, v = .float .f64 r ∧ FR r (fsqrt x) ∧ w.grownBy w' none := by
  obtain ⟨_, rfl⟩ := hb
  have e : Extern.MathSqrt.sqrt #[.float .f64 b] = (match dbl.sqrt b with
      | some r => pure (.float .f64 r)
      | none => do pure (.float .f64 (← choose (.nanBits .f64 b b))) : Sem Value) := rfl
  rw [e]
  unfold fsqrt
  rw [← sqrt_canon]
  cases hs : dbl.sqrt b with
  | some r => exact ⟨_, w, rfl, r, rfl, FR_valid (fun d hd => root_noNaN hd) hs, World.grownBy.refl _ _⟩
  | none =>
    refine ⟨_, _, by simp [Question.forced, Question.cut]; exact ⟨rfl, rfl⟩, _, rfl, ?_, ?_⟩
    · exact read_ofNaN (nanBits_nan _) (nanBits_lt _)
    · exact ⟨rfl, rfl, rfl, Nat.le_refl _, fun _ _ _ => rfl⟩

theorem FR.canon {b : Nat} (h : b < 2 ^ 64) : FR b (Proofs.YtkdhahdfkonilaaDoor.canon b) := ⟨h, rfl⟩

/-! ### a pointer that may be nil -/
def onPtr {α β : Type} (o : Option α) (k : α → β) (t : β) : β :=
  match o with
  | some a => k a
  | none => t

theorem ptr_split {α ρ : Type} {r : ρ} {o : Option α} {k : α → Option ρ} {t : Option ρ} (h : onPtr o k t = some r) : (o = none ∧ t = some r) ∨ ∃ a, o = some a ∧ k a = some r := by
  cases o with
  | none => exact .inl ⟨rfl, h⟩
  | some a => exact .inr ⟨a, rfl, h⟩
theorem ptrS_split {α σ ρ : Type} {r : ρ} {g : σ → Option ρ} {o : Option α} {k : α → Step σ ρ} {t : Step σ ρ} (h : (onPtr o k t).go g = some r) : (o = none ∧ t.go g = some r) ∨ ∃ a, o = some a ∧ (k a).go g = some r := by
  cases o with
  | none => exact .inl ⟨rfl, h⟩
  | some a => exact .inr ⟨a, rfl, h⟩

/-! ### evaluation by a bounded number of rounds -/
def Le {α : Type} (a b : Option α) : Prop := ∀ r, a = some r → b = some r
def LeS {σ ρ : Type} (a b : Step σ ρ) : Prop := a = .bad ∨ a = b

theorem Le.refl {α : Type} (a : Option α) : Le a a := fun _ h => h
theorem Le.none {α : Type} (b : Option α) : Le .none b := fun _ h => by cases h
theorem Le.bind {α β : Type} {a b : Option α} {f g : α → Option β} (h : Le a b) (k : ∀ x, Le (f x) (g x)) : Le (a.bind f) (b.bind g) := by
  intro r hr
  cases a with
  | none => cases hr
  | some x => rw [h x rfl]; exact k x r hr
theorem Le.ite {α : Type} {c : Prop} [Decidable c] {x y x' y' : Option α} (h : Le x x') (k : Le y y') : Le (if c then x else y) (if c then x' else y') := by
  by_cases hc : c
  · rw [if_pos hc, if_pos hc]; exact h
  · rw [if_neg hc, if_neg hc]; exact k
theorem Le.on {β γ α : Type} {r : Out2 β γ} {k k' : β → Option α} {t t' : γ → Option α} (h : ∀ x, Le (k x) (k' x)) (h' : ∀ x, Le (t x) (t' x)) : Le (r.on k t) (r.on k' t') := by
  cases r with
  | go b => exact h b
  | ret c => exact h' c
theorem Le.ptr {α β : Type} {o : Option α} {k k' : α → Option β} {t t' : Option β} (h : ∀ x, Le (k x) (k' x)) (h' : Le t t') : Le (onPtr o k t) (onPtr o k' t') := by
  cases o with
  | none => exact h'
  | some a => exact h a

theorem LeS.refl {σ ρ : Type} (a : Step σ ρ) : LeS a a := .inr rfl
theorem LeS.bad {σ ρ : Type} (b : Step σ ρ) : LeS .bad b := .inl rfl
theorem LeS.bind {α σ ρ : Type} {a b : Option α} {f g : α → Step σ ρ} (h : Le a b) (k : ∀ x, LeS (f x) (g x)) : LeS (bindS a f) (bindS b g) := by
  cases a with
  | none => exact .inl rfl
  | some x => rw [h x rfl]; exact k x
theorem LeS.ite {σ ρ : Type} {c : Prop} [Decidable c] {x y x' y' : Step σ ρ} (h : LeS x x') (k : LeS y y') : LeS (if c then x else y) (if c then x' else y') := by
  by_cases hc : c
  · rw [if_pos hc, if_pos hc]; exact h
  · rw [if_neg hc, if_neg hc]; exact k
theorem LeS.on {β γ σ ρ : Type} {r : Out2 β γ} {k k' : β → Step σ ρ} {t t' : γ → Step σ ρ} (h : ∀ x, LeS (k x) (k' x)) (h' : ∀ x, LeS (t x) (t' x)) : LeS (r.on k t) (r.on k' t') := by
  cases r with
  | go b => exact h b
  | ret c => exact h' c
theorem LeS.ptr {α σ ρ : Type} {o : Option α} {k k' : α → Step σ ρ} {t t' : Step σ ρ} (h : ∀ x, LeS (k x) (k' x)) (h' : LeS t t') : LeS (onPtr o k t) (onPtr o k' t') := by
  cases o with
  | none => exact h'
  | some a => exact h a

theorem loopF_le_loop {σ ρ : Type} {body body' : σ → Step σ ρ} (h : ∀ s, LeS (body s) (body' s)) : ∀ (n : Nat) (s : σ), Le (loopF body n s) (loop body' s)
  | 0, s, r, hr => by simp [loopF] at hr
  | n + 1, s, r, hr => by
    rw [loopF] at hr
    rcases h s with e | e
    · rw [e] at hr; cases hr
    · rw [loop_eq, ← e]
      cases hb : body s with
      | next s' => rw [hb] at hr; exact loopF_le_loop h n s' r hr
      | done r' => rw [hb] at hr; exact hr
      | bad => rw [hb] at hr; cases hr

def loopN {σ ρ : Type} (n : Nat) (body : σ → Step σ ρ) (s : σ) : Option ρ := loopF body n s
theorem Le.loopN {σ ρ : Type} {n : Nat} {body body' : σ → Step σ ρ} {s : σ} (h : ∀ s, LeS (body s) (body' s)) : Le (Proofs.YtkdhahdfkonilaaDoor.loopN n body s) (loop body' s) := loopF_le_loop h n s
theorem Le.leaf {α : Type} (a : α) : Le (Option.some a) (Option.some a) := Le.refl _
theorem LeS.next {σ ρ : Type} (s : σ) : LeS (Step.next s : Step σ ρ) (Step.next s) := .inr rfl
theorem LeS.done {σ ρ : Type} (r : ρ) : LeS (Step.done r : Step σ ρ) (Step.done r) := .inr rfl

theorem Le.some {α : Type} {a b : Option α} (h : Le a b) {r : α} (ha : a = .some r) : b = .some r := h r ha

theorem Le.recOf {ρ : Type} {G : Nat → Option ρ} {F : Nat → Option ρ} (n : Nat) (hg : Le (G n) (F n)) (hm : ∀ k j r r', F k = .some r → F j = .some r' → r = r') : Le (G n) (recOf F) := fun r hr =>
  recOf_eq n (hg r hr) fun k r' hk => hm k n r' r hk (hg r hr)

end Go.Proofs.YtkdhahdfkonilaaDoor
