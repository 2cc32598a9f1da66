/- The engine, part 7: all that is known of memory at one point of a function, in one word: 'Mem'. -/
import Derived.Test.YtkdhahdfkonilaaDoorE6
namespace Go.Proofs.YtkdhahdfkonilaaDoor
open Go Go.RowKit
set_option linter.unusedSimpArgs false
set_option linter.unusedVariables false
set_option linter.unnecessarySimpa false

/-- a fact on memory -/
inductive Fact : Type 1 where
  | sl {α : Type} (kd : Kd α) (A : Option Addr) (c : Nat) (xs : List α)
  | ow {α : Type} (kd : Kd α) (E : TypeId) (A : Option Addr) (c : Nat) (xs : List α)
  | bx (b : Nat) (cs : List Value) (T : TypeId)

def Fact.ok (M : List (Option Nat)) (w : World) : Fact → Prop
  | .sl kd A c xs => Cp A xs.length c ∧ Sl kd (U M) w A xs
  | .ow kd E A c xs => Ow kd (U M) 0 E w A c xs
  | .bx b cs T => Bx w b cs T

/-- the row that may be written by it -/
def Fact.row : Fact → List (Option Nat)
  | .sl .. => []
  | .ow _ _ A _ _ => [bk A]
  | .bx b _ _ => [some b]

def rows : List Fact → List (Option Nat)
  | [] => []
  | f :: r => f.row ++ rows r

/-- nothing that stood in w has turned but the blocks of B -/
structure Gb (B : List (Option Nat)) (w w' : World) : Prop where
  os : w'.os = w.os
  tape : w'.tape = w.tape
  output : w'.output = w.output
  size : w.heap.size ≤ w'.heap.size
  block : ∀ k, k < w.heap.size → some k ∉ B → w'.heap[k]? = w.heap[k]?

theorem Gb.refl (B : List (Option Nat)) (w : World) : Gb B w w := ⟨rfl, rfl, rfl, Nat.le_refl _, fun _ _ _ => rfl⟩
theorem Gb.trans {B : List (Option Nat)} {a b c : World} (h : Gb B a b) (k : Gb B b c) : Gb B a c :=
  ⟨k.os.trans h.os, k.tape.trans h.tape, k.output.trans h.output, Nat.le_trans h.size k.size, fun i hi hB => (k.block i (Nat.lt_of_lt_of_le hi h.size) hB).trans (h.block i hi hB)⟩
theorem Gb.none {w w' : World} (h : Gb [] w w') : w.grownBy w' none := ⟨h.os, h.tape, h.output, h.size, fun k hk _ => h.block k hk (by simp)⟩
theorem Gb.of_still {B : List (Option Nat)} {w w' : World} (h : w.grownBy w' Option.none) : Gb B w w' := ⟨h.os, h.tape, h.output, h.size, fun k hk _ => h.block k hk (by simp)⟩

def apartRows : List (Option Nat) → Prop
  | [] => True
  | r :: l => (r = none ∨ r ∉ l) ∧ apartRows l

structure Mem (B M : List (Option Nat)) (w0 : World) (fs : List Fact) (w : World) : Prop where
  lt : ∀ k, some k ∈ M → k < w0.heap.size
  cum : Gb B w0 w
  nd : apartRows (rows fs)
  low : ∀ k, some k ∈ rows fs → (w0.heap.size ≤ k ∨ some k ∈ B) ∧ k < w.heap.size ∧ some k ∉ M
  ok : ∀ f ∈ fs, f.ok (rows fs ++ M) w

section
variable {B M : List (Option Nat)} {w0 w : World} {fs : List Fact}

theorem Fact.ok_tr {M M' : List (Option Nat)} {w w' : World} {row : Option Nat} (hg : w.grownBy w' row) (ht : Tr M M' w w') : ∀ {f : Fact}, (∀ r ∈ f.row, r = none ∨ r ≠ row) → f.ok M w → f.ok M' w'
  | .sl kd A c xs, _, h => ⟨h.1, h.2.tr ht hg.size⟩
  | .ow kd E A c xs, hr, h => Ow.tr h hg (hr _ (by simp [Fact.row])) ht
  | .bx b cs T, hr, h => Bx.tr h hg (by rcases hr (some b) (by simp [Fact.row]) with h | h; cases h; exact h)

theorem mem_rows : ∀ {fs : List Fact} {f : Fact} {r : Option Nat}, f ∈ fs → r ∈ f.row → r ∈ rows fs
  | g :: l, f, r, hf, hr => by
    rcases List.mem_cons.1 hf with rfl | hf
    · exact List.mem_append.2 (.inl hr)
    · exact List.mem_append.2 (.inr (mem_rows hf hr))

theorem rows_mem : ∀ {fs : List Fact} {r : Option Nat}, r ∈ rows fs → ∃ f ∈ fs, r ∈ f.row
  | g :: l, r, hr => by
    rcases List.mem_append.1 hr with h | h
    · exact ⟨g, List.mem_cons_self, h⟩
    · obtain ⟨f, h1, h2⟩ := rows_mem h
      exact ⟨f, List.mem_cons_of_mem _ h1, h2⟩

/-- nothing that is known has turned -/
theorem Mem.still (h : Mem B M w0 fs w) {w' : World} (hg : w.grownBy w' none) : Mem B M w0 fs w' where
  lt := h.lt
  cum := h.cum.trans (Gb.of_still hg)
  nd := h.nd
  low := fun k hk => let ⟨a, b, c⟩ := h.low k hk; ⟨a, Nat.lt_of_lt_of_le b hg.size, c⟩
  ok := fun f hf => Fact.ok_tr hg (Tr.still hg) (fun r _ => by cases r <;> simp) (h.ok f hf)

theorem Mem.get (h : Mem B M w0 fs w) (i : Nat) {f : Fact} (hi : fs[i]? = some f) : f.ok (rows fs ++ M) w := h.ok f (List.mem_of_getElem? hi)

/-- a new fact whose row, if it has one, is new -/
theorem Mem.push (h : Mem B M w0 fs w) {w' : World} (hg : w.grownBy w' none) {f : Fact} (hf : f.ok (f.row ++ (rows fs ++ M)) w') (hr : ∀ r ∈ f.row, ∀ k, r = some k → w.heap.size ≤ k ∧ k < w'.heap.size) (h1 : f.row.length ≤ 1) :
    Mem B M w0 (f :: fs) w' := by
  have hnew : ∀ k, some k ∈ f.row → w.heap.size ≤ k ∧ k < w'.heap.size := fun k hk => hr _ hk k rfl
  refine ⟨h.lt, h.cum.trans (Gb.of_still hg), ?_, ?_, ?_⟩
  · show apartRows (f.row ++ rows fs)
    match hrow : f.row, h1 with
    | [], _ => simpa using h.nd
    | [r], _ =>
      refine ⟨?_, h.nd⟩
      cases r with
      | none => exact .inl rfl
      | some k =>
        right
        intro hc
        have h2 := (hnew k (by rw [hrow]; simp)).1
        have h3 := (h.low k hc).2.1
        omega
  · intro k hk
    rcases List.mem_append.1 (show some k ∈ f.row ++ rows fs from hk) with hk | hk
    · obtain ⟨a, b⟩ := hnew k hk
      have := h.cum.size
      refine ⟨.inl (by omega), b, fun hc => ?_⟩
      have := h.lt k hc
      omega
    · obtain ⟨a, b, c⟩ := h.low k hk
      have := hg.size
      exact ⟨a, by omega, c⟩
  · intro g hgm
    have e : rows (f :: fs) ++ M = f.row ++ (rows fs ++ M) := List.append_assoc _ _ _
    rw [e]
    rcases List.mem_cons.1 hgm with rfl | hgm
    · exact hf
    · refine Fact.ok_tr hg (fun k hk hM => ⟨fun hc => ?_, hg.block k hk (by simp)⟩) (fun r _ => by cases r <;> simp) (h.ok g hgm)
      rcases List.mem_append.1 hc with hc | hc
      · have := (hnew k hc).1; omega
      · exact hM hc

theorem Mem.box (h : Mem B M w0 fs w) {w' : World} {b : Nat} {cs : List Value} {T : TypeId} (hb : b = w.heap.size) (hx : Bx w' b cs T) (hg : w.grownBy w' none) : Mem B M w0 (.bx b cs T :: fs) w' := by
  refine h.push hg hx (fun r hr k hk => ?_) (by simp [Fact.row])
  simp only [Fact.row, List.mem_singleton] at hr
  subst hr
  simp only [Option.some.injEq] at hk
  subst hk
  exact ⟨by omega, hx.lt⟩

theorem Mem.own {α : Type} {kd : Kd α} {E : TypeId} {A : Option Addr} {c : Nat} {xs : List α} (h : Mem B M w0 fs w) {w' : World} (ho : Ow kd (U (bk A :: (rows fs ++ M))) w.heap.size E w' A c xs) (hg : w.grownBy w' none) :
    Mem B M w0 (.ow kd E A c xs :: fs) w' := by
  refine h.push hg (f := .ow kd E A c xs) (ho.lower (Nat.zero_le _)) (fun r hr k hk => ?_) (by simp [Fact.row])
  simp only [Fact.row, List.mem_singleton] at hr
  subst hr
  exact ho.base_le k hk

/-! ### one fact in the list is another -/
theorem rows_append : ∀ (a b : List Fact), rows (a ++ b) = rows a ++ rows b
  | [], b => rfl
  | x :: a, b => by simp [rows, rows_append a b]

theorem at_split : ∀ {fs : List Fact} {i : Nat} {f : Fact}, fs[i]? = some f → ∃ l1 l2, fs = l1 ++ f :: l2 ∧ fs.eraseIdx i = l1 ++ l2 ∧ ∀ g, fs.set i g = l1 ++ g :: l2
  | x :: l, 0, f, h => by simp at h; subst h; exact ⟨[], l, rfl, rfl, fun _ => rfl⟩
  | x :: l, i + 1, f, h => by
    obtain ⟨l1, l2, h1, h2, h3⟩ := at_split (fs := l) (i := i) (by simpa using h)
    exact ⟨x :: l1, l2, by simp [h1], by simp [h2], fun g => by simp [h3 g]⟩

theorem Fact.ok_mem {M M' : List (Option Nat)} (hM : ∀ r, r ∈ M' → r ∈ M) : ∀ {f : Fact}, f.ok M w → f.ok M' w := fun {f} h =>
  Fact.ok_tr (row := none) (World.grownBy.refl w none) (Tr.drop hM) (fun r _ => by cases r <;> simp) h

theorem apart_append : ∀ {a b : List (Option Nat)}, apartRows (a ++ b) ↔ apartRows a ∧ apartRows b ∧ ∀ r ∈ a, r = none ∨ r ∉ b
  | [], b => by simp [apartRows]
  | r :: a, b => by
    have ih := apart_append (a := a) (b := b)
    simp only [List.cons_append, apartRows, List.mem_append, not_or, List.mem_cons, forall_eq_or_imp]
    rw [ih]
    constructor
    · rintro ⟨h1, h2, h3, h4⟩
      refine ⟨⟨h1.imp id (·.1), h2⟩, h3, h1.imp id (·.2), h4⟩
    · rintro ⟨⟨h1, h2⟩, h3, h4, h5⟩
      refine ⟨?_, h2, h3, h5⟩
      rcases h1 with h1 | h1
      · exact .inl h1
      · rcases h4 with h4 | h4
        · exact .inl h4
        · exact .inr ⟨h1, h4⟩

/-- what the i-th fact says, its own row in front -/
theorem Mem.at (h : Mem B M w0 fs w) (i : Nat) {f : Fact} (hi : fs[i]? = some f) : f.ok (f.row ++ (rows (fs.eraseIdx i) ++ M)) w := by
  obtain ⟨l1, l2, h1, h2, h3⟩ := at_split hi
  refine Fact.ok_mem (fun r hr => ?_) (h.get i hi)
  rw [h2, rows_append] at hr
  rw [h1, rows_append]
  simp only [rows, List.mem_append] at hr ⊢
  rcases hr with hr | (hr | hr) | hr <;> simp [hr]

/-- what another fact says, the i-th one's row in front -/
theorem Mem.at2 (h : Mem B M w0 fs w) (i j : Nat) {f g : Fact} (hi : fs[i]? = some f) (hj : fs[j]? = some g) : g.ok (f.row ++ (rows (fs.eraseIdx i) ++ M)) w := by
  obtain ⟨l1, l2, h1, h2, h3⟩ := at_split hi
  refine Fact.ok_mem (fun r hr => ?_) (h.get j hj)
  rw [h2, rows_append] at hr
  rw [h1, rows_append]
  simp only [rows, List.mem_append] at hr ⊢
  rcases hr with hr | (hr | hr) | hr <;> simp [hr]

/-- a row is written, or becomes a new one -/
theorem Mem.setRow (h : Mem B M w0 fs w) {w' : World} (i : Nat) {f g : Fact} {r r' : Option Nat} (hi : fs[i]? = some f) (hfr : f.row = [r]) (hgr : g.row = [r']) (hg : w.grownBy w' r)
    (hr' : r' = r ∨ r' = some w.heap.size) (hlt : ∀ k, r' = some k → k < w'.heap.size) (hok : g.ok (r' :: (rows (fs.eraseIdx i) ++ M)) w') :
    Mem B M w0 (fs.set i g) w' := by
  obtain ⟨l1, l2, h1, h2, h3⟩ := at_split hi
  rw [h3 g]
  have hrows : rows fs = rows l1 ++ (r :: rows l2) := by rw [h1, rows_append]; simp [rows, hfr]
  have hrows' : rows (l1 ++ g :: l2) = rows l1 ++ (r' :: rows l2) := by rw [rows_append]; simp [rows, hgr]
  have hnd := h.nd
  rw [hrows, apart_append] at hnd
  obtain ⟨n1, n2, n3⟩ := hnd
  simp only [apartRows] at n2
  have hrin : ∀ k, r = some k → some k ∈ rows fs := fun k hk => by rw [hrows, ← hk]; simp
  have hin : ∀ x, (x ∈ rows l1 ∨ x ∈ rows l2) → x ∈ rows fs := fun x hx => by rw [hrows]; simp; rcases hx with hx | hx <;> simp [hx]
  have hne : ∀ x, (x ∈ rows l1 ∨ x ∈ rows l2) → x = none ∨ x ≠ r := by
    intro x hx
    rcases hx with hx | hx
    · rcases n3 x hx with h | h
      · exact .inl h
      · right; intro hc; exact h (by simp [hc])
    · by_cases hxr : x = r
      · subst hxr
        rcases n2.1 with h | h
        · exact .inl h
        · exact absurd hx h
      · exact .inr hxr
  have hne' : ∀ x, (x ∈ rows l1 ∨ x ∈ rows l2) → x = none ∨ x ≠ r' := by
    intro x hx
    rcases hr' with e | e
    · rw [e]; exact hne x hx
    · cases x with
      | none => exact .inl rfl
      | some k =>
        right
        intro hc
        rw [e] at hc
        have := (h.low k (hin _ hx)).2.1
        simp at hc
        omega
  refine ⟨h.lt, ?_, ?_, ?_, ?_⟩
  · refine ⟨hg.os.trans h.cum.os, hg.tape.trans h.cum.tape, hg.output.trans h.cum.output, Nat.le_trans h.cum.size hg.size, fun k hk hB => ?_⟩
    have hsz := h.cum.size
    rw [hg.block k (by omega) (fun hc => ?_)]
    · exact h.cum.block k hk hB
    · obtain ⟨l1, l2, l3⟩ := h.low k (hrin k hc.symm)
      rcases l1 with l1 | l1
      · omega
      · exact hB l1
  · rw [hrows', apart_append]
    refine ⟨n1, ?_, ?_⟩
    · refine ⟨?_, n2.2⟩
      by_cases hz : r' = none
      · exact .inl hz
      · right; intro hc; rcases hne' r' (.inr hc) with h | h
        · exact hz h
        · exact h rfl
    · intro x hx
      rcases n3 x hx with h | h
      · exact .inl h
      · rcases hne' x (.inl hx) with h' | h'
        · exact .inl h'
        · right; intro hc
          rcases List.mem_cons.1 hc with hc | hc
          · exact h' hc
          · exact h (by simp [hc])
  · intro k hk
    rw [hrows'] at hk
    simp only [List.mem_append, List.mem_cons] at hk
    have hsz := hg.size
    have old : some k ∈ rows fs → (w0.heap.size ≤ k ∨ some k ∈ B) ∧ k < w'.heap.size ∧ some k ∉ M := fun hk => by
      obtain ⟨l1, l2, l3⟩ := h.low k hk
      exact ⟨l1, by omega, l3⟩
    rcases hk with hk | hk | hk
    · exact old (hin _ (.inl hk))
    · rcases hr' with e | e
      · exact old (hrin k (by rw [← e, hk]))
      · have hk' := hk.symm
        rw [e] at hk'
        simp at hk'
        have := h.cum.size
        refine ⟨.inl (by omega), hlt k hk.symm, fun hc => ?_⟩
        have := h.lt k hc
        omega
    · exact old (hin _ (.inr hk))
  · intro x hx
    have hmem : ∀ y, y ∈ rows (l1 ++ g :: l2) ++ M → y ∈ r' :: (rows (fs.eraseIdx i) ++ M) := by
      intro y hy
      rw [hrows'] at hy
      rw [h2, rows_append]
      simp only [List.mem_append, List.mem_cons] at hy ⊢
      rcases hy with (hy | hy | hy) | hy <;> simp [hy]
    have old : (x ∈ l1 ∨ x ∈ l2) → x.ok (rows (l1 ++ g :: l2) ++ M) w' := by
      intro hx
      have hxf : x ∈ fs := by rw [h1]; rcases hx with hx | hx <;> simp [hx]
      refine Fact.ok_tr hg (fun k hk hM => ⟨fun hc => ?_, hg.block k hk (fun hc => ?_)⟩) (fun y hy => ?_) (h.ok x hxf)
      · rw [hrows'] at hc
        rw [hrows] at hM
        simp only [List.mem_append, List.mem_cons, not_or] at hc hM
        rcases hc with (hc | hc | hc) | hc
        · exact hM.1.1 hc
        · rcases hr' with e | e
          · exact hM.1.2.1 (by rw [← e]; exact hc)
          · rw [e] at hc; simp at hc; omega
        · exact hM.1.2.2 hc
        · exact hM.2 hc
      · rw [hrows] at hM
        simp only [List.mem_append, List.mem_cons, not_or] at hM
        exact hM.1.2.1 hc
      · refine hne y ?_
        rcases hx with hx | hx
        · exact .inl (mem_rows hx hy)
        · exact .inr (mem_rows hx hy)
    rcases List.mem_append.1 hx with hx | hx
    · exact old (.inl hx)
    · rcases List.mem_cons.1 hx with rfl | hx
      · exact Fact.ok_mem hmem hok
      · exact old (.inr hx)

theorem Mem.setOwn {α : Type} {kd : Kd α} {E : TypeId} {A A' : Option Addr} {c c' : Nat} {xs xs' : List α} (h : Mem B M w0 fs w) {w' : World} (i : Nat) (fs' : List Fact) (hi : fs[i]? = some (.ow kd E A c xs))
    (hfs : fs.set i (.ow kd E A' c' xs') = fs') (ho : Ow kd (U (bk A' :: (rows (fs.eraseIdx i) ++ M))) 0 E w' A' c' xs') (hg : w.grownBy w' (bk A)) (hr : bk A' = bk A ∨ bk A' = some w.heap.size) : Mem B M w0 fs' w' := by
  subst hfs
  exact h.setRow i hi rfl rfl hg hr (fun k hk => (ho.base_le k hk).2) ho

theorem Mem.setBox {b : Nat} {cs cs' : List Value} {T : TypeId} (h : Mem B M w0 fs w) {w' : World} (i : Nat) (fs' : List Fact) (hi : fs[i]? = some (.bx b cs T))
    (hfs : fs.set i (.bx b cs' T) = fs') (ho : Bx w' b cs' T) (hg : w.grownBy w' (some b)) : Mem B M w0 fs' w' := by
  subst hfs
  exact h.setRow i hi rfl rfl hg (.inl rfl) (fun k hk => by simp only [Option.some.injEq] at hk; subst hk; exact ho.lt) ho

/-! ### less is known; more may be read -/
def pickF (fs : List Fact) : List Nat → Option (List Fact)
  | [] => some []
  | i :: r => match fs[i]?, pickF fs r with
    | some f, some l => some (f :: l)
    | _, _ => none

theorem pickF_mem : ∀ {is : List Nat} {fs' : List Fact}, pickF fs is = some fs' → ∀ f ∈ fs', f ∈ fs
  | [], fs', h, f, hf => by simp only [pickF, Option.some.injEq] at h; subst h; simp at hf
  | i :: r, fs', h, f, hf => by
    simp only [pickF] at h
    split at h
    · rename_i g l h1 h2
      simp only [Option.some.injEq] at h
      subst h
      rcases List.mem_cons.1 hf with rfl | hf
      · exact List.mem_of_getElem? h1
      · exact pickF_mem h2 f hf
    · cases h

theorem getElem?_inj_rows (h : apartRows (rows fs)) {i j : Nat} {f g : Fact} {r : Option Nat} (hi : fs[i]? = some f) (hj : fs[j]? = some g) (hne : i ≠ j) (hr : r ∈ f.row) : r = none ∨ r ∉ g.row := by
  induction fs generalizing i j with
  | nil => simp at hi
  | cons x l ih =>
    rw [show rows (x :: l) = x.row ++ rows l from rfl, apart_append] at h
    obtain ⟨h1, h2, h3⟩ := h
    cases i with
    | zero =>
      simp at hi; subst hi
      cases j with
      | zero => exact absurd rfl hne
      | succ j =>
        rcases h3 r hr with h | h
        · exact .inl h
        · exact .inr fun hc => h (mem_rows (List.mem_of_getElem? (by simpa using hj)) hc)
    | succ i =>
      cases j with
      | zero =>
        simp at hj; subst hj
        by_cases hz : r = none
        · exact .inl hz
        · right; intro hc
          rcases h3 r hc with h | h
          · exact hz h
          · exact h (mem_rows (List.mem_of_getElem? (by simpa using hi)) hr)
      | succ j => exact ih h2 (by simpa using hi) (by simpa using hj) (by omega)

def distinct : List Nat → Bool
  | [] => true
  | i :: r => !(r.any (Nat.beq i)) && distinct r

theorem apart_pick (h : apartRows (rows fs)) (hself : ∀ f ∈ fs, f.row.length ≤ 1) : ∀ {is : List Nat} {fs' : List Fact}, pickF fs is = some fs' → distinct is = true → apartRows (rows fs')
  | [], fs', hp, _ => by simp only [pickF, Option.some.injEq] at hp; subst hp; trivial
  | i :: r, fs', hp, hd => by
    simp only [pickF] at hp
    split at hp
    · rename_i g l h1 h2
      simp only [Option.some.injEq] at hp
      subst hp
      simp only [distinct, Bool.and_eq_true, Bool.not_eq_true'] at hd
      rw [show rows (g :: l) = g.row ++ rows l from rfl, apart_append]
      refine ⟨?_, apart_pick h hself h2 hd.2, fun x hx => ?_⟩
      · have := hself g (List.mem_of_getElem? h1)
        match hrow : g.row, this with
        | [], _ => trivial
        | [y], _ => exact ⟨.inr (by simp), trivial⟩
      · by_cases hz : x = none
        · exact .inl hz
        · right; intro hc
          obtain ⟨f, hf, hxf⟩ := rows_mem hc
          have key : ∀ {r : List Nat} {l : List Fact}, pickF fs r = some l → r.any (Nat.beq i) = false → ∀ f ∈ l, ∃ j, j ≠ i ∧ fs[j]? = some f := by
            intro r
            induction r with
            | nil => intro l hl _ f hf; simp only [pickF, Option.some.injEq] at hl; subst hl; simp at hf
            | cons a r ih =>
              intro l hl ha f hf
              simp only [pickF] at hl
              split at hl
              · rename_i g' l' k1 k2
                simp only [Option.some.injEq] at hl
                subst hl
                simp only [List.any_cons, Bool.or_eq_false_iff] at ha
                rcases List.mem_cons.1 hf with rfl | hf
                · exact ⟨a, fun hc => by subst hc; simp at ha, k1⟩
                · exact ih k2 ha.2 f hf
              · cases hl
          obtain ⟨j, hji, hj⟩ := key h2 hd.1 f hf
          rcases getElem?_inj_rows h h1 hj (Ne.symm hji) hx with h' | h'
          · exact hz h'
          · exact h' hxf
    · cases hp

theorem row_le (f : Fact) : f.row.length ≤ 1 := by cases f <;> simp [Fact.row]

/-- some of the facts, in some order -/
theorem Mem.sel (h : Mem B M w0 fs w) (is : List Nat) (fs' : List Fact) (hp : pickF fs is = some fs') (hd : distinct is = true) : Mem B M w0 fs' w where
  lt := h.lt
  cum := h.cum
  nd := apart_pick h.nd (fun f _ => row_le f) hp hd
  low := fun k hk => by
    obtain ⟨f, hf, hr⟩ := rows_mem hk
    exact h.low k (mem_rows (pickF_mem hp f hf) hr)
  ok := fun f hf => Fact.ok_mem (fun r hr => by
    rcases List.mem_append.1 hr with hr | hr
    · obtain ⟨g, hg, hrg⟩ := rows_mem hr
      exact List.mem_append.2 (.inl (mem_rows (pickF_mem hp g hg) hrg))
    · exact List.mem_append.2 (.inr hr)) (h.ok f (pickF_mem hp f hf))

/-- a row is written no more: it is data as any -/
theorem Mem.seal {α : Type} {kd : Kd α} {E : TypeId} {A : Option Addr} {c : Nat} {xs : List α} (h : Mem B M w0 fs w) (i : Nat) (fs' : List Fact) (hi : fs[i]? = some (.ow kd E A c xs)) (hfs : fs.set i (.sl kd A c xs) = fs') : Mem B M w0 fs' w := by
  subst hfs
  obtain ⟨l1, l2, h1, h2, h3⟩ := at_split hi
  rw [h3]
  have hrows : rows fs = rows l1 ++ (bk A :: rows l2) := by rw [h1, rows_append]; simp [rows, Fact.row]
  have hrows' : rows (l1 ++ Fact.sl kd A c xs :: l2) = rows l1 ++ rows l2 := by rw [rows_append]; simp [rows, Fact.row]
  have hnd := h.nd
  rw [hrows, apart_append] at hnd
  obtain ⟨n1, n2, n3⟩ := hnd
  have hsub : ∀ y, y ∈ rows (l1 ++ Fact.sl kd A c xs :: l2) ++ M → y ∈ rows fs ++ M := by
    intro y hy
    rw [hrows'] at hy
    rw [hrows]
    simp only [List.mem_append, List.mem_cons] at hy ⊢
    rcases hy with (hy | hy) | hy <;> simp [hy]
  refine ⟨h.lt, h.cum, ?_, ?_, ?_⟩
  · rw [hrows', apart_append]
    exact ⟨n1, n2.2, fun x hx => (n3 x hx).imp id fun hc hx2 => hc (List.mem_cons_of_mem _ hx2)⟩
  · intro k hk
    refine h.low k ?_
    rw [hrows'] at hk
    rw [hrows]
    simp only [List.mem_append, List.mem_cons] at hk ⊢
    rcases hk with hk | hk <;> simp [hk]
  · intro x hx
    rcases List.mem_append.1 hx with hx | hx
    · exact Fact.ok_mem hsub (h.ok x (by rw [h1]; simp [hx]))
    · rcases List.mem_cons.1 hx with rfl | hx
      · have ho : Ow kd (U (rows fs ++ M)) 0 E w A c xs := h.get i hi
        have ho2 : Fact.ok (rows (l1 ++ Fact.sl kd A c xs :: l2) ++ M) w (.ow kd E A c xs) := Fact.ok_mem hsub (f := .ow kd E A c xs) ho
        refine ⟨ho.cp, Ow.sl ho2 (fun k hk => ?_)⟩
        intro hc
        have hk1 : some k ∈ rows fs := by rw [hrows, hk]; simp
        obtain ⟨_, _, l3⟩ := h.low k hk1
        rcases List.mem_append.1 hc with hc | hc
        · rw [hrows'] at hc
          rcases List.mem_append.1 hc with hc | hc
          · rcases n3 _ hc with h' | h'
            · cases h'
            · exact h' (by rw [hk]; simp)
          · rcases n2.1 with h' | h'
            · rw [hk] at h'; cases h'
            · exact h' (by rw [hk]; exact hc)
        · exact l3 hc
      · exact Fact.ok_mem hsub (h.ok x (by rw [h1]; simp [hx]))

/-- a block written out is a slice of data -/
theorem Mem.lit {α : Type} {kd : Kd α} {b : Nat} {cs : List Value} {T : TypeId} {xs : List α} (h : Mem B M w0 fs w) {w' : World} (hb : b = w.heap.size) (hx : Bx w' b cs T) (hg : w.grownBy w' none)
    (hels : Els kd (U (rows fs ++ M)) w' cs xs) : Mem B M w0 (.sl kd (some ⟨b, 0, none⟩) xs.length xs :: fs) w' := by
  refine h.push hg (f := .sl kd (some ⟨b, 0, none⟩) xs.length xs) ⟨⟨Nat.le_refl _, fun hc => by cases hc⟩, ?_⟩ (fun r hr => by simp [Fact.row] at hr) (by simp [Fact.row])
  by_cases hxs : xs = []
  · exact .inl hxs
  refine .inr ⟨b, 0, rfl, ?_, hx.lt, fun i hi => ?_⟩
  · intro hc
    simp only [Fact.row, List.nil_append] at hc
    rcases List.mem_append.1 hc with hc | hc
    · have := (h.low b hc).2.1; omega
    · have := h.lt b hc; have := h.cum.size; omega
  · obtain ⟨us, h1, h2⟩ := hels.2 i hi
    exact ⟨us, h1, fun j u hu => hx.cell (by rw [Nat.zero_add]; exact h2 j u hu)⟩

theorem Mem.litOwn {α : Type} {kd : Kd α} {b : Nat} {cs : List Value} {T : TypeId} {xs : List α} (h : Mem B M w0 fs w) {w' : World} (hb : b = w.heap.size) (hx : Bx w' b cs T) (hg : w.grownBy w' none)
    (hels : Els kd (U (rows fs ++ M)) w cs xs) (hl : xs.length ≤ maxLen) : Mem B M w0 (.ow kd T (some ⟨b, 0, none⟩) xs.length xs :: fs) w' := by
  refine h.own ?_ hg
  refine ⟨cs, ⟨hels.1, .inr ⟨b, xs.length, cs.toArray, rfl, by omega, hx, Nat.le_refl _, hl, by simpa using hels.1, ?_⟩⟩, hels.move (fun k hk hlt => ⟨fun hc => ?_, hg.block k hlt (by simp)⟩) hg.size⟩
  · rw [← hels.1]; simp
  · rcases List.mem_cons.1 hc with hc | hc
    · simp [bk] at hc; omega
    · exact hk hc

/-! ### calls -/
/-- what a callee is lent: facts that are known, its own rows out of sight -/
theorem Mem.lend (h : Mem B M w0 fs w) (is : List Nat) (gs : List Fact) (hp : pickF fs is = some gs) (hsl : ∀ f ∈ gs, f.row = []) : Mem [] (rows fs ++ M) w gs w where
  lt := fun k hk => by
    rcases List.mem_append.1 hk with hk | hk
    · exact (h.low k hk).2.1
    · exact Nat.lt_of_lt_of_le (h.lt k hk) h.cum.size
  cum := Gb.refl _ _
  nd := by
    have : rows gs = [] := by
      clear hp
      induction gs with
      | nil => rfl
      | cons g l ih => simp [rows, hsl g (by simp), ih (fun f hf => hsl f (by simp [hf]))]
    rw [this]; trivial
  low := fun k hk => by
    obtain ⟨f, hf, hr⟩ := rows_mem hk
    rw [hsl f hf] at hr; simp at hr
  ok := fun f hf => by
    have hm := pickF_mem hp f hf
    refine Fact.ok_mem (fun r hr => ?_) (h.ok f hm)
    rcases List.mem_append.1 hr with hr | hr
    · obtain ⟨g, hg, hrg⟩ := rows_mem hr
      rw [hsl g hg] at hrg; simp at hrg
    · exact hr

/-- what comes back -/
theorem Mem.back (h : Mem B M w0 fs w) {w' : World} {gs : List Fact} (k : Mem [] (rows fs ++ M) w gs w') : Mem B M w0 (gs ++ fs) w' := by
  have hg := k.cum.none
  have hst := h.still hg
  refine ⟨h.lt, hst.cum, ?_, ?_, ?_⟩
  · rw [rows_append, apart_append]
    refine ⟨k.nd, h.nd, fun r hr => ?_⟩
    cases r with
    | none => exact .inl rfl
    | some j => exact .inr fun hc => (k.low j hr).2.2 (List.mem_append.2 (.inl hc))
  · intro j hj
    rw [rows_append] at hj
    rcases List.mem_append.1 hj with hj | hj
    · obtain ⟨l1, l2, l3⟩ := k.low j hj
      have := h.cum.size
      rcases l1 with l1 | l1
      · exact ⟨.inl (by omega), l2, fun hc => l3 (List.mem_append.2 (.inr hc))⟩
      · simp at l1
    · exact hst.low j hj
  · intro f hf
    rcases List.mem_append.1 hf with hf | hf
    · refine Fact.ok_mem (fun r hr => ?_) (k.ok f hf)
      rw [rows_append, List.append_assoc] at hr
      exact hr
    · refine Fact.ok_tr hg (fun j hj hM => ⟨fun hc => ?_, hg.block j hj (by simp)⟩) (fun r _ => by cases r <;> simp) (h.ok f hf)
      rw [rows_append, List.append_assoc] at hc
      rcases List.mem_append.1 hc with hc | hc
      · obtain ⟨l1, _, _⟩ := k.low j hc
        rcases l1 with l1 | l1
        · omega
        · simp at l1
      · exact hM hc

end
end Go.Proofs.YtkdhahdfkonilaaDoor
