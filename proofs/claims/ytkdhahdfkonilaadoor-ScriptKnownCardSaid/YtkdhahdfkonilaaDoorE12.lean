/- The engine, part 12: rows of rows of our own: the outer row holds slices, each of which heads an inner row. -/
import Derived.Test.YtkdhahdfkonilaaDoorE11
namespace Go.Proofs.YtkdhahdfkonilaaDoor
open Go Go.RowKit
set_option linter.unusedSimpArgs false
set_option linter.unusedVariables false
set_option linter.unnecessarySimpa false

/-- a slice as a value: where, how long, how far it may go -/
def Kd.hdr : Kd (Option Addr × Nat × Nat) where
  n := 1
  rep := fun _ _ cs x => cs = [.slice x.1 x.2.1 x.2.2]
  len := by rintro S w cs x rfl; rfl
  one := by rintro S w cs x rfl u hu; simp at hu; subst hu; rfl
  move := fun _ _ h => h

section
variable {α : Type}
def fam (kd : Kd α) (E : TypeId) (As : Nat → Option Addr × Nat) (xss : List (List α)) : List Fact := (List.range xss.length).map (fun i => .ow kd E (As i).1 (As i).2 (xss.getD i []))
def hdrs (As : Nat → Option Addr × Nat) (xss : List (List α)) : List (Option Addr × Nat × Nat) := (List.range xss.length).map (fun i => ((As i).1, (xss.getD i []).length, (As i).2))
def upd (As : Nat → Option Addr × Nat) (k : Nat) (p : Option Addr × Nat) : Nat → Option Addr × Nat := fun i => if i = k then p else As i

@[simp] theorem hdrs_length (As : Nat → Option Addr × Nat) (xss : List (List α)) : (hdrs As xss).length = xss.length := by simp [hdrs]
@[simp] theorem fam_length (kd : Kd α) (E : TypeId) (As : Nat → Option Addr × Nat) (xss : List (List α)) : (fam kd E As xss).length = xss.length := by simp [fam]

theorem fam_get (kd : Kd α) (E : TypeId) (As : Nat → Option Addr × Nat) (xss : List (List α)) {k : Nat} (h : k < xss.length) : (fam kd E As xss)[k]? = some (.ow kd E (As k).1 (As k).2 (xss.getD k [])) := by
  simp [fam, h]

theorem fam_set (kd : Kd α) (E : TypeId) (As : Nat → Option Addr × Nat) (xss : List (List α)) {k : Nat} (h : k < xss.length) (A : Option Addr) (c : Nat) (xs : List α) :
    (fam kd E As xss).set k (.ow kd E A c xs) = fam kd E (upd As k (A, c)) (xss.set k xs) := by
  apply List.ext_getElem
  · simp
  · intro i h1 h2
    simp only [List.length_set, fam_length] at h1
    rw [List.getElem_set]
    simp only [fam, List.getElem_map, List.getElem_range, upd]
    by_cases hk : k = i
    · subst hk
      rw [if_pos rfl]
      simp [List.getD, h]
    · rw [if_neg hk, if_neg (fun c => hk c.symm)]
      simp [List.getD, List.getElem?_set_ne hk]

theorem hdrs_set (As : Nat → Option Addr × Nat) (xss : List (List α)) (k : Nat) (A : Option Addr) (c : Nat) (xs : List α) : (hdrs As xss).set k (A, xs.length, c) = hdrs (upd As k (A, c)) (xss.set k xs) := by
  apply List.ext_getElem
  · simp
  · intro i h1 h2
    simp only [List.length_set, hdrs_length] at h1
    rw [List.getElem_set]
    simp only [hdrs, List.getElem_map, List.getElem_range, upd]
    by_cases hk : k = i
    · subst hk
      rw [if_pos rfl]
      simp [List.getD, h1]
    · rw [if_neg hk, if_neg (fun c => hk c.symm)]
      simp [List.getD, List.getElem?_set_ne hk]

theorem hdrs_put (As : Nat → Option Addr × Nat) (xss : List (List α)) (i : Int) (A : Option Addr) (c : Nat) (xs : List α) : put (hdrs As xss) i (A, xs.length, c) = hdrs (upd As i.toNat (A, c)) (put xss i xs) := hdrs_set As xss i.toNat A c xs

theorem hdrs_rd (As : Nat → Option Addr × Nat) (xss : List (List α)) (i : Int) (h : i.toNat < xss.length) : rd (hdrs As xss) i = ((As i.toNat).1, (rd xss i).length, (As i.toNat).2) := by
  simp [rd, hdrs, List.getD, h]

theorem hdrs_nil (n : Nat) : hdrs (fun _ => (none, 0)) (List.replicate n ([] : List α)) = List.replicate n (none, 0, 0) := by
  apply List.ext_getElem
  · simp
  · intro i h1 h2
    simp only [hdrs_length, List.length_replicate] at h1
    simp [hdrs, List.getD, h1]
end

theorem fam_at {α : Type} (a : List Fact) (kd : Kd α) (E : TypeId) (As : Nat → Option Addr × Nat) (xss : List (List α)) {i : Int} (h : i.toNat < xss.length) : (a ++ fam kd E As xss)[a.length + i.toNat]? = some (.ow kd E (As i.toNat).1 (As i.toNat).2 (rd xss i)) := by
  rw [List.getElem?_append_right (Nat.le_add_right _ _), Nat.add_sub_cancel_left]
  exact fam_get kd E As xss h

theorem fam_put {α : Type} (a : List Fact) (kd : Kd α) (E : TypeId) (As : Nat → Option Addr × Nat) (xss : List (List α)) {i : Int} (h : i.toNat < xss.length) (A : Option Addr) (c : Nat) (xs : List α) :
    (a ++ fam kd E As xss).set (a.length + i.toNat) (.ow kd E A c xs) = a ++ fam kd E (upd As i.toNat (A, c)) (put xss i xs) := by
  rw [List.set_append_right _ _ (Nat.le_add_right _ _), Nat.add_sub_cancel_left, fam_set kd E As xss h]
  rfl

section
variable {B M : List (Option Nat)} {w0 w : World} {a t : List Fact} {α : Type}

theorem rows_fam_nil (kd : Kd α) (E : TypeId) (n : Nat) : ∀ r ∈ rows (fam kd E (fun _ => (none, 0)) (List.replicate n ([] : List α))), r = none := by
  intro r hr
  obtain ⟨f, hf, hrf⟩ := rows_mem hr
  simp only [fam, List.mem_map] at hf
  obtain ⟨i, _, rfl⟩ := hf
  simpa [Fact.row, bk] using hrf

theorem apart_none : ∀ {l : List (Option Nat)}, (∀ r ∈ l, r = none) → apartRows l
  | [], _ => trivial
  | r :: l, h => ⟨.inl (h r (by simp)), apart_none (fun x hx => h x (by simp [hx]))⟩

/-- as many empty rows as are wanted -/
theorem Mem.famNil (h : Mem B M w0 a w) (kd : Kd α) (E : TypeId) (n : Nat) : Mem B M w0 (a ++ fam kd E (fun _ => (none, 0)) (List.replicate n [])) w := by
  have hn := rows_fam_nil kd E n
  refine ⟨h.lt, h.cum, ?_, ?_, ?_⟩
  · rw [rows_append, apart_append]
    refine ⟨h.nd, apart_none hn, fun r hr => ?_⟩
    cases r with
    | none => exact .inl rfl
    | some k => exact .inr fun hc => by cases hn _ hc
  · intro k hk
    rw [rows_append] at hk
    rcases List.mem_append.1 hk with hk | hk
    · exact h.low k hk
    · cases hn _ hk
  · intro f hf
    rcases List.mem_append.1 hf with hf | hf
    · refine Fact.ok_tr (World.grownBy.refl w none) (fun k hk hM => ⟨fun hc => hM ?_, rfl⟩) (fun r _ => by cases r <;> simp) (h.ok f hf)
      rw [rows_append, List.append_assoc] at hc
      simp only [List.mem_append] at hc ⊢
      rcases hc with hc | hc | hc
      · exact .inl hc
      · cases hn _ hc
      · exact .inr hc
    · simp only [fam, List.mem_map, List.mem_range, List.length_replicate] at hf
      obtain ⟨i, hi, rfl⟩ := hf
      have e : (List.replicate n ([] : List α)).getD i [] = [] := by simp [List.getD, hi]
      show Ow kd _ 0 E w none 0 _
      rw [e]
      exact Ow.nil

/-- some of the first facts; what stands behind them stays -/
theorem Mem.selT (h : Mem B M w0 (a ++ t) w) (is : List Nat) (a' : List Fact) (hp : pickF a is = some a') (hd : distinct is = true) : Mem B M w0 (a' ++ t) w := by
  have hnd := h.nd
  rw [rows_append, apart_append] at hnd
  obtain ⟨n1, n2, n3⟩ := hnd
  have hr : ∀ r ∈ rows a', r ∈ rows a := fun r hr => let ⟨f, hf, hrf⟩ := rows_mem hr; mem_rows (pickF_mem hp f hf) hrf
  refine ⟨h.lt, h.cum, ?_, ?_, ?_⟩
  · rw [rows_append, apart_append]
    exact ⟨apart_pick n1 (fun f _ => row_le f) hp hd, n2, fun r hr' => n3 r (hr r hr')⟩
  · intro k hk
    refine h.low k ?_
    rw [rows_append] at hk ⊢
    rcases List.mem_append.1 hk with hk | hk
    · exact List.mem_append.2 (.inl (hr _ hk))
    · exact List.mem_append.2 (.inr hk)
  · intro f hf
    have hm : f ∈ a ++ t := by
      rcases List.mem_append.1 hf with hf | hf
      · exact List.mem_append.2 (.inl (pickF_mem hp f hf))
      · exact List.mem_append.2 (.inr hf)
    refine Fact.ok_mem (fun r hr' => ?_) (h.ok f hm)
    rw [rows_append] at hr' ⊢
    simp only [List.mem_append] at hr' ⊢
    rcases hr' with (hr' | hr') | hr'
    · exact .inl (.inl (hr r hr'))
    · exact .inl (.inr hr')
    · exact .inr hr'

/-- the inner rows are written no more -/
def famX (kd : Kd α) (E : TypeId) (As : Nat → Option Addr × Nat) (xss : List (List α)) (m : Nat) : List Fact :=
  (List.range xss.length).map (fun i => if i < m then .sl kd (As i).1 (As i).2 (xss.getD i []) else .ow kd E (As i).1 (As i).2 (xss.getD i []))

theorem Mem.famX {kd : Kd α} {E : TypeId} {As : Nat → Option Addr × Nat} {xss : List (List α)} (h : Mem B M w0 (a ++ fam kd E As xss) w) : ∀ m, m ≤ xss.length → Mem B M w0 (a ++ Proofs.YtkdhahdfkonilaaDoor.famX kd E As xss m) w
  | 0, _ => by
    have e : Proofs.YtkdhahdfkonilaaDoor.famX kd E As xss 0 = fam kd E As xss := by simp [Proofs.YtkdhahdfkonilaaDoor.famX, fam]
    rw [e]; exact h
  | m + 1, hm => by
    have ih := h.famX m (by omega)
    have hlen : m < (Proofs.YtkdhahdfkonilaaDoor.famX kd E As xss m).length := by simp [Proofs.YtkdhahdfkonilaaDoor.famX]; omega
    refine ih.seal (kd := kd) (E := E) (A := (As m).1) (c := (As m).2) (xs := xss.getD m []) (a.length + m) _ ?_ ?_
    · rw [List.getElem?_append_right (by omega), Nat.add_sub_cancel_left]
      have : m < xss.length := by omega
      simp [Proofs.YtkdhahdfkonilaaDoor.famX, this]
    · rw [List.set_append_right _ _ (by omega), Nat.add_sub_cancel_left]
      congr 1
      apply List.ext_getElem
      · simp [Proofs.YtkdhahdfkonilaaDoor.famX]
      · intro i h1 h2
        rw [List.getElem_set]
        simp only [Proofs.YtkdhahdfkonilaaDoor.famX, List.getElem_map, List.getElem_range]
        by_cases hi : m = i
        · subst hi
          rw [if_pos rfl, if_pos (by omega)]
        · rw [if_neg hi]
          by_cases hlt : i < m
          · rw [if_pos hlt, if_pos (by omega)]
          · rw [if_neg hlt, if_neg (by omega)]

/-- all of it is data as any -/
theorem Mem.sealFam {kd : Kd α} {E E2 : TypeId} {A : Option Addr} {c : Nat} {As : Nat → Option Addr × Nat} {xss : List (List α)} (h : Mem B M w0 (a ++ fam kd E2 As xss) w) (j : Nat) (fs' : List Fact)
    (hj : a[j]? = some (.ow Kd.hdr E A c (hdrs As xss))) (hfs : a.set j (.sl (Kd.slice kd) A c xss) = fs') : Mem B M w0 fs' w := by
  subst hfs
  have h1 := h.famX xss.length (Nat.le_refl _)
  have hjl : j < a.length := (List.getElem?_eq_some_iff.1 hj).1
  have h2 := h1.seal (kd := Kd.hdr) (E := E) (A := A) (c := c) (xs := hdrs As xss) j _ (by rw [List.getElem?_append_left hjl]; exact hj) rfl
  rw [List.set_append_left _ _ hjl] at h2
  have hx : rows (Proofs.YtkdhahdfkonilaaDoor.famX kd E2 As xss xss.length) = [] := by
    have : ∀ f ∈ Proofs.YtkdhahdfkonilaaDoor.famX kd E2 As xss xss.length, f.row = [] := by
      intro f hf
      simp only [Proofs.YtkdhahdfkonilaaDoor.famX, List.mem_map, List.mem_range] at hf
      obtain ⟨i, hi, rfl⟩ := hf
      rw [if_pos hi]; rfl
    generalize Proofs.YtkdhahdfkonilaaDoor.famX kd E2 As xss xss.length = l at this
    induction l with
    | nil => rfl
    | cons x l ih => simp [rows, this x (by simp), ih (fun f hf => this f (by simp [hf]))]
  have hset : ∀ g : Fact, rows (a.set j g) = rows (a.take j) ++ (g.row ++ rows (a.drop (j + 1))) := by
    intro g
    rw [List.set_eq_take_append_cons_drop, if_pos hjl, rows_append]
    rfl
  have hr : rows (a.set j (.sl (Kd.slice kd) A c xss)) = rows (a.set j (.sl Kd.hdr A c (hdrs As xss)) ++ Proofs.YtkdhahdfkonilaaDoor.famX kd E2 As xss xss.length) := by
    rw [rows_append, hx, List.append_nil, hset, hset]
    rfl
  refine ⟨h2.lt, h2.cum, by rw [hr]; exact h2.nd, fun k hk => h2.low k (by rw [← hr]; exact hk), fun f hf => ?_⟩
  rw [hr]
  obtain ⟨i0, hi0, rfl⟩ := List.mem_iff_getElem.1 hf
  by_cases hij : j = i0
  rotate_left
  · have e : (a.set j (.sl (Kd.slice kd) A c xss))[i0] = a[i0]'(by simpa using hi0) := by rw [List.getElem_set_ne hij]
    rw [e]
    exact h2.ok _ (List.mem_append.2 (.inl (List.mem_iff_getElem.2 ⟨i0, by simpa using hi0, by rw [List.getElem_set_ne hij]⟩)))
  · subst hij
    have eset : (a.set j (.sl (Kd.slice kd) A c xss))[j]'hi0 = .sl (Kd.slice kd) A c xss := List.getElem_set_self _
    rw [eset]
    have hsl := h2.get j (f := .sl Kd.hdr A c (hdrs As xss)) (by rw [List.getElem?_append_left (by simpa using hjl), List.getElem?_set_self hjl])
    obtain ⟨c1, c2⟩ := hsl
    refine ⟨by simpa using c1, ?_⟩
    rcases c2 with c2 | ⟨b, o, hA, hS, hb, he⟩
    · left
      have := congrArg List.length c2
      simp at this
      exact this
    · refine .inr ⟨b, o, hA, hS, hb, fun i hi => ?_⟩
      obtain ⟨us, k1, k2⟩ := he i (by simpa using hi)
      have k1 : us = _ := k1
      have e : (hdrs As xss)[i]'(by simpa using hi) = ((As i).1, (xss.getD i []).length, (As i).2) := by simp [hdrs]
      rw [e] at k1
      have hgi := h2.get (a.length + i) (f := .sl kd (As i).1 (As i).2 (xss.getD i [])) (by
        rw [List.getElem?_append_right (by simp), List.length_set, Nat.add_sub_cancel_left]
        simp [Proofs.YtkdhahdfkonilaaDoor.famX, hi])
      obtain ⟨g1, g2⟩ := hgi
      have eg : xss.getD i [] = xss[i] := by simp [List.getD, hi]
      rw [eg] at k1 g1 g2
      exact ⟨us, ⟨(As i).1, (As i).2, k1, g1, g2⟩, k2⟩
end

/-- the ways through a block come together: what follows is said once -/
theorem wpJoin {P : Program} {Q : Exit → Act → World → Prop} {a : Act} {w : World} {c : Code} {Mid : Act → World → Prop} (h : (∀ a w, Mid a w → Q .normal a w) → c.wp P Q a w) (hk : ∀ a w, Mid a w → Q .normal a w) : c.wp P Q a w := h hk

end Go.Proofs.YtkdhahdfkonilaaDoor
