/- The engine, part 3: how data lie in memory. -/
import Derived.Test.YtkdhahdfkonilaaDoorE2
namespace Go.Proofs.YtkdhahdfkonilaaDoor
open Go Go.RowKit
set_option linter.unusedSimpArgs false
set_option linter.unusedVariables false
set_option linter.unnecessarySimpa false

/-- all blocks but those that are being written -/
def U (M : List (Option Nat)) : Nat → Prop := fun k => some k ∉ M

/-- from a world to a later one: what avoids M avoids M' and is as it was -/
def Tr (M M' : List (Option Nat)) (w w' : World) : Prop :=
  ∀ k, k < w.heap.size → some k ∉ M → some k ∉ M' ∧ w'.heap[k]? = w.heap[k]?

theorem Tr.refl (M : List (Option Nat)) (w : World) : Tr M M w w := fun _ _ h => ⟨h, rfl⟩
theorem Tr.still {M : List (Option Nat)} {w w' : World} (h : w.grownBy w' none) : Tr M M w w' := fun k hk hM => ⟨hM, h.block k hk (by simp)⟩
theorem Tr.own {M : List (Option Nat)} {w w' : World} {r : Option Nat} (h : w.grownBy w' r) (hr : r ∈ M) : Tr M M w w' := fun k hk hM => ⟨hM, h.block k hk (fun c => hM (c ▸ hr))⟩
theorem Tr.new {M : List (Option Nat)} {w w' : World} {g : Option Nat} (h : w.grownBy w' none) (hg : ∀ k, g = some k → w.heap.size ≤ k) : Tr M (g :: M) w w' := fun k hk hM =>
  ⟨fun c => by
    rcases List.mem_cons.1 c with c | c
    · have := hg k c.symm; omega
    · exact hM c, h.block k hk (by simp)⟩
theorem Tr.drop {M M' : List (Option Nat)} {w : World} (h : ∀ r, r ∈ M' → r ∈ M) : Tr M M' w w := fun k _ hM => ⟨fun c => hM (h _ c), rfl⟩
theorem Tr.trans {M M' M'' : List (Option Nat)} {w w' w'' : World} (h : Tr M M' w w') (h' : Tr M' M'' w' w'') (hs : w.heap.size ≤ w'.heap.size) : Tr M M'' w w'' := fun k hk hM =>
  let ⟨a, b⟩ := h k hk hM
  let ⟨c, d⟩ := h' k (by omega) a
  ⟨c, d.trans b⟩

/-- how data of a kind lie in cells -/
structure Kd (α : Type) where
  n : Nat
  rep : (Nat → Prop) → World → List Value → α → Prop
  len : ∀ {S w cs x}, rep S w cs x → cs.length = n
  one : ∀ {S w cs x}, rep S w cs x → ∀ u ∈ cs, u.oneCell' = true
  move : ∀ {S S' : Nat → Prop} {w w' : World} {cs x}, (∀ k, S k → k < w.heap.size → S' k ∧ w'.heap[k]? = w.heap[k]?) → w.heap.size ≤ w'.heap.size → rep S w cs x → rep S' w' cs x

def Kd.int (k : IntKind) : Kd Int where
  n := 1
  rep := fun _ _ cs x => cs = [.int k x]
  len := by rintro S w cs x rfl; rfl
  one := by rintro S w cs x rfl u hu; simp at hu; subst hu; rfl
  move := fun _ _ h => h

def Kd.bool : Kd Bool where
  n := 1
  rep := fun _ _ cs x => cs = [.bool x]
  len := by rintro S w cs x rfl; rfl
  one := by rintro S w cs x rfl u hu; simp at hu; subst hu; rfl
  move := fun _ _ h => h

def Kd.float : Kd Nat where
  n := 1
  rep := fun _ _ cs x => ∃ b, cs = [.float .f64 b] ∧ FR b x
  len := by rintro S w cs x ⟨b, rfl, _⟩; rfl
  one := by rintro S w cs x ⟨b, rfl, _⟩ u hu; simp at hu; subst hu; rfl
  move := fun _ _ h => h

def El {α : Type} (kd : Kd α) (S : Nat → Prop) (w : World) (b o : Nat) (xs : List α) : Prop :=
  ∀ i (h : i < xs.length), ∃ us, kd.rep S w us xs[i] ∧ ∀ j u, us[j]? = some u → w.cell? ⟨b, o + i * kd.n + j, none⟩ = some u

/-- the elements of a slice -/
def Sl {α : Type} (kd : Kd α) (S : Nat → Prop) (w : World) (A : Option Addr) (xs : List α) : Prop :=
  xs = [] ∨ ∃ b o, A = some ⟨b, o, none⟩ ∧ S b ∧ b < w.heap.size ∧ El kd S w b o xs

/-- a slice's capacity -/
def Cp (A : Option Addr) (n c : Nat) : Prop := n ≤ c ∧ (A = none → c = 0)

theorem El.move {α : Type} {kd : Kd α} {S S' : Nat → Prop} {w w' : World} {b o : Nat} {xs : List α} (hm : ∀ k, S k → k < w.heap.size → S' k ∧ w'.heap[k]? = w.heap[k]?) (hsz : w.heap.size ≤ w'.heap.size)
    (hb : w'.heap[b]? = w.heap[b]?) (h : El kd S w b o xs) : El kd S' w' b o xs := by
  intro i hi
  obtain ⟨us, h1, h2⟩ := h i hi
  exact ⟨us, kd.move hm hsz h1, fun j u hu => by rw [World.cell?_of_block (w := w) hb]; exact h2 j u hu⟩

theorem Sl.move {α : Type} {kd : Kd α} {S S' : Nat → Prop} {w w' : World} {A : Option Addr} {xs : List α} (hm : ∀ k, S k → k < w.heap.size → S' k ∧ w'.heap[k]? = w.heap[k]?) (hsz : w.heap.size ≤ w'.heap.size)
    (h : Sl kd S w A xs) : Sl kd S' w' A xs := by
  rcases h with h | ⟨b, o, hA, hS, hb, he⟩
  · exact .inl h
  · exact .inr ⟨b, o, hA, (hm b hS hb).1, by omega, he.move hm hsz (hm b hS hb).2⟩

def Kd.slice {α : Type} (kd : Kd α) : Kd (List α) where
  n := 1
  rep := fun S w cs xs => ∃ A c, cs = [.slice A xs.length c] ∧ Cp A xs.length c ∧ Sl kd S w A xs
  len := by rintro S w cs x ⟨A, c, rfl, _⟩; rfl
  one := by rintro S w cs x ⟨A, c, rfl, _⟩ u hu; simp at hu; subst hu; rfl
  move := fun hm hsz ⟨A, c, h1, h2, h3⟩ => ⟨A, c, h1, h2, h3.move hm hsz⟩

def Kd.pair {α β : Type} (ka : Kd α) (kb : Kd β) : Kd (α × β) where
  n := ka.n + kb.n
  rep := fun S w cs x => ∃ c1 c2, cs = c1 ++ c2 ∧ ka.rep S w c1 x.1 ∧ kb.rep S w c2 x.2
  len := by rintro S w cs x ⟨c1, c2, rfl, h1, h2⟩; simp [ka.len h1, kb.len h2]
  one := by
    rintro S w cs x ⟨c1, c2, rfl, h1, h2⟩ u hu
    rcases List.mem_append.1 hu with h | h
    · exact ka.one h1 u h
    · exact kb.one h2 u h
  move := fun hm hsz ⟨c1, c2, h0, h1, h2⟩ => ⟨c1, c2, h0, ka.move hm hsz h1, kb.move hm hsz h2⟩

def Kd.iso {α β : Type} (ka : Kd α) (f : β → α) : Kd β where
  n := ka.n
  rep := fun S w cs x => ka.rep S w cs (f x)
  len := fun h => ka.len h
  one := fun h => ka.one h
  move := fun hm hsz h => ka.move hm hsz h

theorem Tr.m {M M' : List (Option Nat)} {w w' : World} (h : Tr M M' w w') : ∀ k, U M k → k < w.heap.size → U M' k ∧ w'.heap[k]? = w.heap[k]? := fun k hk hs => h k hs hk

theorem Sl.tr {α : Type} {kd : Kd α} {M M' : List (Option Nat)} {w w' : World} {A : Option Addr} {xs : List α} (h : Sl kd (U M) w A xs) (ht : Tr M M' w w') (hsz : w.heap.size ≤ w'.heap.size) : Sl kd (U M') w' A xs :=
  h.move ht.m hsz

/-! ### reading -/
def rd {α : Type} [Inhabited α] (xs : List α) (i : Int) : α := xs.getD i.toNat default
def ad (A : Option Addr) : Addr := A.getD ⟨0, 0, none⟩

theorem Sl.get {α : Type} [Inhabited α] {kd : Kd α} {S : Nat → Prop} {w : World} {A : Option Addr} {xs : List α} (h : Sl kd S w A xs) (i : Int) (h0 : 0 ≤ i) (h1 : i < (xs.length : Int)) :
    A.isSome = true ∧ ∃ us, kd.rep S w us (rd xs i) ∧ ∀ j u, us[j]? = some u → w.cell? (((ad A).add (i.toNat * kd.n)).add j) = some u := by
  rcases h with h | ⟨b, o, rfl, hS, hb, he⟩
  · subst h; simp at h1; omega
  · refine ⟨rfl, ?_⟩
    have hi : i.toNat < xs.length := by omega
    obtain ⟨us, h2, h3⟩ := he i.toNat hi
    refine ⟨us, ?_, fun j u hu => ?_⟩
    · simpa [rd, hi] using h2
    · have e : ((ad (some ⟨b, o, none⟩)).add (i.toNat * kd.n)).add j = ⟨b, o + i.toNat * kd.n + j, none⟩ := by
        simp only [ad, Option.getD_some, Addr.add]
        split <;> split <;> simp_all
      rw [e]; exact h3 j u hu

theorem Sl.int {k : IntKind} {S : Nat → Prop} {w : World} {A : Option Addr} {xs : List Int} (h : Sl (Kd.int k) S w A xs) (i : Int) (h0 : 0 ≤ i) (h1 : i < (xs.length : Int)) :
    A.isSome = true ∧ w.cell? ((ad A).add (i.toNat * 1)) = some (.int k (rd xs i)) := by
  obtain ⟨h2, us, h3, h4⟩ := h.get i h0 h1
  have h3 : us = [.int k (rd xs i)] := h3
  subst h3
  exact ⟨h2, h4 0 _ rfl⟩
theorem Sl.bool {S : Nat → Prop} {w : World} {A : Option Addr} {xs : List Bool} (h : Sl Kd.bool S w A xs) (i : Int) (h0 : 0 ≤ i) (h1 : i < (xs.length : Int)) :
    A.isSome = true ∧ w.cell? ((ad A).add (i.toNat * 1)) = some (.bool (rd xs i)) := by
  obtain ⟨h2, us, h3, h4⟩ := h.get i h0 h1
  have h3 : us = [.bool (rd xs i)] := h3
  subst h3
  exact ⟨h2, h4 0 _ rfl⟩
theorem Sl.float {S : Nat → Prop} {w : World} {A : Option Addr} {xs : List Nat} (h : Sl Kd.float S w A xs) (i : Int) (h0 : 0 ≤ i) (h1 : i < (xs.length : Int)) :
    A.isSome = true ∧ ∃ b, FR b (rd xs i) ∧ w.cell? ((ad A).add (i.toNat * 1)) = some (.float .f64 b) := by
  obtain ⟨h2, us, ⟨b, h3, h5⟩, h4⟩ := h.get i h0 h1
  subst h3
  exact ⟨h2, b, h5, h4 0 _ rfl⟩
theorem Sl.slice {α : Type} {kd : Kd α} {S : Nat → Prop} {w : World} {A : Option Addr} {xs : List (List α)} (h : Sl (Kd.slice kd) S w A xs) (i : Int) (h0 : 0 ≤ i) (h1 : i < (xs.length : Int)) :
    A.isSome = true ∧ ∃ B c, Cp B (rd xs i).length c ∧ Sl kd S w B (rd xs i) ∧ w.cell? ((ad A).add (i.toNat * 1)) = some (.slice B (rd xs i).length c) := by
  obtain ⟨h2, us, ⟨B, c, h3, h5, h6⟩, h4⟩ := h.get i h0 h1
  subst h3
  exact ⟨h2, B, c, h5, h6, h4 0 _ rfl⟩

/-- a slice of a slice -/
def sub (A : Option Addr) (c l k : Nat) : Option Addr := if c = l then A else A.map (·.add (l * k))

theorem Cp.sub {A : Option Addr} {n c l h k : Nat} (hc : Cp A n c) (h1 : l ≤ h) (h2 : h ≤ c) : Cp (sub A c l k) (h - l) (c - l) := by
  refine ⟨by omega, fun hn => ?_⟩
  unfold Proofs.YtkdhahdfkonilaaDoor.sub at hn
  split at hn
  · omega
  · cases A with
    | none => have := hc.2 rfl; omega
    | some a => simp at hn

theorem Sl.sub {α : Type} {kd : Kd α} {S : Nat → Prop} {w : World} {A : Option Addr} {xs : List α} (hs : Sl kd S w A xs) {c l h : Nat} (hc : Cp A xs.length c) (h1 : l ≤ h) (h2 : h ≤ xs.length) :
    Sl kd S w (sub A c l kd.n) ((xs.take h).drop l) := by
  by_cases hlh : l = h
  · left; subst hlh; rw [List.drop_eq_nil_of_le (by simp; omega)]
  · rcases hs with hs | ⟨b, o, rfl, hS, hb, he⟩
    · subst hs; simp at h2; omega
    · right
      have hcl : c ≠ l := by have := hc.1; omega
      refine ⟨b, o + l * kd.n, ?_, hS, hb, ?_⟩
      · unfold Proofs.YtkdhahdfkonilaaDoor.sub
        rw [if_neg hcl]
        simp only [Option.map_some, Option.some.injEq, Addr.add]
        split <;> simp_all
      · intro i hi
        have hi' : l + i < xs.length := by simp at hi; omega
        obtain ⟨us, h3, h4⟩ := he (l + i) hi'
        refine ⟨us, by simpa using h3, fun j u hu => ?_⟩
        rw [← h4 j u hu, Nat.add_mul]
        congr 2; omega

/-! ### what a function has made and still writes -/
def bk (A : Option Addr) : Option Nat := A.map (·.block)

def Els {α : Type} (kd : Kd α) (S : Nat → Prop) (w : World) (cs : List Value) (xs : List α) : Prop :=
  cs.length = xs.length * kd.n ∧ ∀ i (h : i < xs.length), ∃ us, kd.rep S w us xs[i] ∧ ∀ j u, us[j]? = some u → cs[i * kd.n + j]? = some u

/-- a slice of the call's own: nil, or at the head of a row from block 'base' on -/
def Ow {α : Type} (kd : Kd α) (S : Nat → Prop) (base : Nat) (E : TypeId) (w : World) (A : Option Addr) (c : Nat) (xs : List α) : Prop :=
  ∃ cs, w.ownsRow base E kd.n (.slice A xs.length c) xs.length cs ∧ Els kd S w cs xs

theorem Els.move {α : Type} {kd : Kd α} {S S' : Nat → Prop} {w w' : World} {cs : List Value} {xs : List α} (hm : ∀ k, S k → k < w.heap.size → S' k ∧ w'.heap[k]? = w.heap[k]?) (hsz : w.heap.size ≤ w'.heap.size)
    (h : Els kd S w cs xs) : Els kd S' w' cs xs :=
  ⟨h.1, fun i hi => let ⟨us, h1, h2⟩ := h.2 i hi; ⟨us, kd.move hm hsz h1, h2⟩⟩

theorem Els.nil {α : Type} {kd : Kd α} {S : Nat → Prop} {w : World} : Els kd S w [] ([] : List α) := ⟨by simp, fun i h => by simp at h⟩

theorem Els.one {α : Type} {kd : Kd α} {S : Nat → Prop} {w : World} {us : List Value} {x : α} (h : kd.rep S w us x) : Els kd S w us [x] :=
  ⟨by simp [kd.len h], fun i hi => by
    have : i = 0 := by simp at hi; omega
    subst this
    exact ⟨us, h, fun j u hu => by simpa using hu⟩⟩

theorem Els.append {α : Type} {kd : Kd α} {S : Nat → Prop} {w : World} {cs ds : List Value} {xs ys : List α} (h : Els kd S w cs xs) (k : Els kd S w ds ys) : Els kd S w (cs ++ ds) (xs ++ ys) := by
  refine ⟨by simp [h.1, k.1, Nat.add_mul], fun i hi => ?_⟩
  by_cases hx : i < xs.length
  · obtain ⟨us, h1, h2⟩ := h.2 i hx
    refine ⟨us, by rw [List.getElem_append_left hx]; exact h1, fun j u hu => ?_⟩
    rw [List.getElem?_append_left]
    · exact h2 j u hu
    · have := h2 j u hu
      exact (List.getElem?_eq_some_iff.1 this).1
  · have hy : i - xs.length < ys.length := by simp at hi; omega
    obtain ⟨us, h1, h2⟩ := k.2 (i - xs.length) hy
    refine ⟨us, by rw [List.getElem_append_right (by omega)]; exact h1, fun j u hu => ?_⟩
    have e : i * kd.n + j = cs.length + ((i - xs.length) * kd.n + j) := by
      rw [h.1, ← Nat.add_assoc, ← Nat.add_mul]; congr 2; omega
    rw [e, List.getElem?_append_right (by omega), Nat.add_sub_cancel_left]
    exact h2 j u hu

theorem Els.replicate {α : Type} {kd : Kd α} {S : Nat → Prop} {w : World} {us : List Value} {x : α} (h : kd.rep S w us x) : ∀ (n : Nat), Els kd S w (List.replicate n us).flatten (List.replicate n x)
  | 0 => Els.nil
  | n + 1 => by
    have := (Els.one h).append (Els.replicate h n)
    simpa [List.replicate_succ] using this

/-- one element is another one -/
def put {α : Type} (xs : List α) (i : Int) (x : α) : List α := xs.set i.toNat x

@[simp] theorem put_length {α : Type} (xs : List α) (i : Int) (x : α) : (put xs i x).length = xs.length := by simp [put]

theorem Els.set1 {α : Type} {kd : Kd α} (hn : kd.n = 1) {S : Nat → Prop} {w : World} {cs : List Value} {xs : List α} (h : Els kd S w cs xs) {v : Value} {x : α} (hv : kd.rep S w [v] x) (i : Nat) :
    Els kd S w (cs.set i v) (xs.set i x) := by
  refine ⟨by simp [h.1], fun k hk => ?_⟩
  have hk' : k < xs.length := by simpa using hk
  by_cases hik : i = k
  · subst hik
    refine ⟨[v], by simpa using hv, fun j u hu => ?_⟩
    have hc : i < cs.length := by rw [h.1, hn]; omega
    rw [hn]
    cases j with
    | zero => simp at hu; subst hu; simp [hc]
    | succ j => simp at hu
  · obtain ⟨us, h1, h2⟩ := h.2 k hk'
    refine ⟨us, by rw [List.getElem_set_ne hik]; exact h1, fun j u hu => ?_⟩
    have hl := kd.len h1
    have hj : j = 0 := by
      have := (List.getElem?_eq_some_iff.1 hu).1
      omega
    subst hj
    rw [hn] at h2 ⊢
    rw [List.getElem?_set_ne (by omega)]
    exact h2 0 u hu

section
variable {α : Type} {kd : Kd α} {S : Nat → Prop} {base : Nat} {E : TypeId} {w : World} {A : Option Addr} {c : Nat} {xs : List α}

theorem Ow.cp (h : Ow kd S base E w A c xs) : Cp A xs.length c := by
  obtain ⟨cs, h1, h2⟩ := h
  rcases h1.2 with ⟨hv, hn⟩ | ⟨g, cap, cur, hv, hb, hg, hnc, _⟩
  · simp only [Value.slice.injEq] at hv
    obtain ⟨rfl, h3, rfl⟩ := hv
    exact ⟨by omega, fun _ => rfl⟩
  · simp only [Value.slice.injEq] at hv
    obtain ⟨rfl, _, rfl⟩ := hv
    exact ⟨hnc, fun hc => by cases hc⟩

theorem Ow.base_le (h : Ow kd S base E w A c xs) : ∀ k, bk A = some k → base ≤ k ∧ k < w.heap.size := by
  obtain ⟨cs, h1, h2⟩ := h
  intro k hk
  exact h1.lt k (by cases A <;> simpa [bk, Value.ownBlock] using hk)

theorem Ow.lower (h : Ow kd S base E w A c xs) {b : Nat} (hb : b ≤ base) : Ow kd S b E w A c xs := by
  obtain ⟨cs, h1, h2⟩ := h
  refine ⟨cs, ⟨h1.1, ?_⟩, h2⟩
  rcases h1.2 with hv | ⟨g, cap, cur, hv, hg, r⟩
  · exact .inl hv
  · exact .inr ⟨g, cap, cur, hv, by omega, r⟩

theorem Ow.tr {M M' : List (Option Nat)} {w' : World} {row : Option Nat} (h : Ow kd (U M) base E w A c xs) (hg : w.grownBy w' row) (hne : bk A = none ∨ bk A ≠ row) (ht : Tr M M' w w') :
    Ow kd (U M') base E w' A c xs := by
  obtain ⟨cs, h1, h2⟩ := h
  refine ⟨cs, h1.kept hg ?_, h2.move ht.m hg.size⟩
  cases A <;> simpa [bk, Value.ownBlock] using hne

/-- what is no longer written is data as any -/
theorem Ow.sl (h : Ow kd S base E w A c xs) (hS : ∀ k, bk A = some k → S k) : Sl kd S w A xs := by
  obtain ⟨cs, h1, h2⟩ := h
  by_cases hx : xs = []
  · exact .inl hx
  · right
    have hA : A ≠ none := by
      rintro rfl
      rcases h1.2 with ⟨hv, hn⟩ | ⟨g, cap, cur, hv, _⟩
      · exact hx (List.eq_nil_of_length_eq_zero hn)
      · simp at hv
    rcases h1.2 with ⟨hv, hn⟩ | ⟨g, cap, cur, hv, hb, hg, hnc, hcm, hcs, htake⟩
    · exact absurd (List.eq_nil_of_length_eq_zero hn) hx
    · simp only [Value.slice.injEq] at hv
      obtain ⟨rfl, _, rfl⟩ := hv
      have hlt : g < w.heap.size := (Array.getElem?_eq_some_iff.1 hg).1
      refine ⟨g, 0, rfl, hS g rfl, hlt, fun i hi => ?_⟩
      obtain ⟨us, h3, h4⟩ := h2.2 i hi
      refine ⟨us, h3, fun j u hu => ?_⟩
      have h5 := h4 j u hu
      rw [← htake, List.getElem?_take] at h5
      split at h5
      · rw [Nat.zero_add, cell_of_row w g _ cur E (0, 0) hg]
        simpa using h5
      · cases h5

theorem Ow.cells [Inhabited α] (h : Ow kd S base E w A c xs) (i : Int) (h0 : 0 ≤ i) (h1 : i < (xs.length : Int)) :
    A.isSome = true ∧ ∃ us, kd.rep S w us (rd xs i) ∧ ∀ j u, us[j]? = some u → w.cell? (((ad A).add (i.toNat * kd.n)).add j) = some u := by
  obtain ⟨cs, h2, h3⟩ := h
  have hi : i.toNat < xs.length := by omega
  rcases h2.2 with ⟨hv, hn⟩ | ⟨g, cap, cur, hv, hb, hg, hnc, hcm, hcs, htake⟩
  · omega
  · simp only [Value.slice.injEq] at hv
    obtain ⟨rfl, _, rfl⟩ := hv
    refine ⟨rfl, ?_⟩
    obtain ⟨us, h4, h5⟩ := h3.2 i.toNat hi
    refine ⟨us, by simpa [rd, hi] using h4, fun j u hu => ?_⟩
    have h6 := h5 j u hu
    have e : ((ad (some ⟨g, 0, none⟩)).add (i.toNat * kd.n)).add j = ⟨g, i.toNat * kd.n + j, none⟩ := by
      simp only [ad, Option.getD_some, Addr.add]
      split <;> split <;> simp_all
    rw [e, cell_of_row w g _ cur E (0, 0) hg]
    rw [← htake, List.getElem?_take] at h6
    split at h6
    · simpa using h6
    · cases h6
end

theorem Ow.int {k : IntKind} {S : Nat → Prop} {base : Nat} {E : TypeId} {w : World} {A : Option Addr} {c : Nat} {xs : List Int} (h : Ow (Kd.int k) S base E w A c xs) (i : Int) (h0 : 0 ≤ i) (h1 : i < (xs.length : Int)) :
    A.isSome = true ∧ w.cell? ((ad A).add (i.toNat * 1)) = some (.int k (rd xs i)) := by
  obtain ⟨h2, us, h3, h4⟩ := h.cells i h0 h1
  have h3 : us = [.int k (rd xs i)] := h3
  subst h3
  exact ⟨h2, h4 0 _ rfl⟩
theorem Ow.bool {S : Nat → Prop} {base : Nat} {E : TypeId} {w : World} {A : Option Addr} {c : Nat} {xs : List Bool} (h : Ow Kd.bool S base E w A c xs) (i : Int) (h0 : 0 ≤ i) (h1 : i < (xs.length : Int)) :
    A.isSome = true ∧ w.cell? ((ad A).add (i.toNat * 1)) = some (.bool (rd xs i)) := by
  obtain ⟨h2, us, h3, h4⟩ := h.cells i h0 h1
  have h3 : us = [.bool (rd xs i)] := h3
  subst h3
  exact ⟨h2, h4 0 _ rfl⟩
theorem Ow.float {S : Nat → Prop} {base : Nat} {E : TypeId} {w : World} {A : Option Addr} {c : Nat} {xs : List Nat} (h : Ow Kd.float S base E w A c xs) (i : Int) (h0 : 0 ≤ i) (h1 : i < (xs.length : Int)) :
    A.isSome = true ∧ ∃ b, FR b (rd xs i) ∧ w.cell? ((ad A).add (i.toNat * 1)) = some (.float .f64 b) := by
  obtain ⟨h2, us, ⟨b, h3, h5⟩, h4⟩ := h.cells i h0 h1
  subst h3
  exact ⟨h2, b, h5, h4 0 _ rfl⟩
theorem Ow.slice {α : Type} {kd : Kd α} {S : Nat → Prop} {base : Nat} {E : TypeId} {w : World} {A : Option Addr} {c : Nat} {xs : List (List α)} (h : Ow (Kd.slice kd) S base E w A c xs) (i : Int) (h0 : 0 ≤ i) (h1 : i < (xs.length : Int)) :
    A.isSome = true ∧ ∃ B c, Cp B (rd xs i).length c ∧ Sl kd S w B (rd xs i) ∧ w.cell? ((ad A).add (i.toNat * 1)) = some (.slice B (rd xs i).length c) := by
  obtain ⟨h2, us, ⟨B, c, h3, h5, h6⟩, h4⟩ := h.cells i h0 h1
  subst h3
  exact ⟨h2, B, c, h5, h6, h4 0 _ rfl⟩

end Go.Proofs.YtkdhahdfkonilaaDoor
