/- Plain laws, part 14: places that fall on places; operators on tensors, number by number. -/
import Derived.Test.YteaoijahdinciaaP8
import Derived.Test.YteaoijahdinciaaF0
import Derived.Test.YteaoijahdinciaaF2
import Derived.Test.YteaoijahdinciaaF4
import Derived.Test.YteaoijahdinciaaF5
import Derived.Test.YteaoijahdinciaaF6
namespace Go.Proofs.Yteaoijahdinciaa
open Go Go.RowKit
set_option linter.unusedSimpArgs false
set_option linter.unusedVariables false

/-! ### places -/
def maskF (s at_ : List Int) (q : Nat) : Int := if s.getD q 0 = 1 then 0 else at_.getD (at_.length - s.length + q) 0
def maskP (s at_ : List Int) : List Int := (List.range s.length).map (maskF s at_)
def under (s at_ : List Int) : Int := index s (maskP s at_)

theorem kernel_from_eq (s at_ : List Int) (hl : s.length ≤ at_.length) (h4 : at_.length ≤ 4) : kernel_from.f s at_ = some (under s at_) := by
  unfold kernel_from.f under
  have e1 : w64 ((at_.length : Int) - (s.length : Int)) = ((at_.length - s.length : Nat) : Int) := by rw [w64_id (by omega) (by omega)]; omega
  rw [e1, if_pos (by omega), Int.toNat_natCast, List.take_length, slices_Clone_int_eq _ (by rw [List.length_drop]; omega), obind]
  have hlen : (at_.drop (at_.length - s.length)).length = s.length := by rw [List.length_drop]; omega
  have key : loop (kernel_from.l0 (at_.drop (at_.length - s.length)) s) (0, at_.drop (at_.length - s.length)) = some ((s.length : Int), maskP s at_) := by
    refine loop_to _ (fun k st => ∃ (j : Nat) (ys : List Int), k + j = s.length ∧ st = ((j : Int), ys) ∧ ys.length = s.length ∧ ∀ q (h : q < ys.length), ys[q] = if q < j then maskF s at_ q else at_.getD (at_.length - s.length + q) 0) ?_ s.length _ ⟨0, _, rfl, rfl, hlen, ?_⟩
    · rintro k _ ⟨j, ys, hk, rfl, hy, hv⟩
      unfold kernel_from.l0
      simp only [hlen, hy]
      by_cases hj : j < s.length
      · right
        have hm : maskF s at_ j = if s[j] = 1 then 0 else at_.getD (at_.length - s.length + j) 0 := by unfold maskF; rw [getD_get s 0 j hj]
        rw [if_pos (by omega), if_pos (by omega), rd_nat s j hj]
        by_cases h1 : s[j] = 1
        · rw [if_pos h1] at hm ⊢
          rw [if_pos (by omega)]
          refine ⟨_, k - 1, rfl, by omega, j + 1, put ys j 0, by omega, by rw [w64_id (by omega) (by omega)]; rfl, by simp [hy], fun q h => ?_⟩
          simp only [put_at ys _ j _ rfl, List.length_set] at h ⊢
          rw [List.getElem_set]
          by_cases hq : j = q
          · subst hq; rw [if_pos rfl, if_pos (by omega), hm]
          · rw [if_neg hq, hv q h]
            by_cases hq2 : q < j
            · rw [if_pos hq2, if_pos (by omega)]
            · rw [if_neg hq2, if_neg (by omega)]
        · rw [if_neg h1] at hm ⊢
          refine ⟨_, k - 1, rfl, by omega, j + 1, ys, by omega, by rw [w64_id (by omega) (by omega)]; rfl, hy, fun q h => ?_⟩
          rw [hv q h]
          by_cases hq : q = j
          · subst hq; rw [if_neg (by omega), if_pos (by omega), hm]
          · by_cases hq2 : q < j
            · rw [if_pos hq2, if_pos (by omega)]
            · rw [if_neg hq2, if_neg (by omega)]
      · left
        have hz : j = s.length := by omega
        subst hz
        rw [if_neg (by omega)]
        congr 2
        apply List.ext_getElem
        · simp [maskP, hy]
        · intro q h1 h2
          rw [hv q h1, if_pos (by omega)]; simp [maskP]
    · intro q h
      rw [if_neg (by omega), List.getElem_drop, getD_get _ _ _ (by omega)]
  rw [key, obind, shape_Index_eq, obind]

/-! ### a place's number is one of those that there are -/
theorem idxGo_in : ∀ (s p : List Int) (n : Int), p.length = s.length → (∀ q (h : q < s.length) (h' : q < p.length), 0 ≤ p[q] ∧ p[q] < s[q]) → 0 ≤ n → ∃ m, idxGo s p n = some m ∧ n * prodL s ≤ m ∧ m < (n + 1) * prodL s
  | [], [], n, _, _, _ => ⟨n, rfl, by simp [prodL], by simp [prodL]; omega⟩
  | x :: s, a :: p, n, hl, hv, h0 => by
    have hl' : p.length = s.length := by simpa using hl
    obtain ⟨a0, a1⟩ := hv 0 (by simp) (by simp)
    simp only [List.getElem_cons_zero] at a0 a1
    have hnx : 0 ≤ n * x := Int.mul_nonneg h0 (by omega)
    obtain ⟨m, h1, h2, h3⟩ := idxGo_in s p (n * x + a) hl' (fun q h h' => by have := hv (q + 1) (by simpa using h) (by simpa using h'); simpa only [List.getElem_cons_succ] using this) (by omega)
    have hP : 0 ≤ prodL s := by
      have : ∀ y ∈ s, 1 ≤ y := fun y hy => by
        obtain ⟨q, hq, rfl⟩ := List.mem_iff_getElem.1 hy
        have := hv (q + 1) (by simpa using hq) (by simpa [hl'] using hq)
        simp only [List.getElem_cons_succ] at this
        omega
      have := prodL_pos this
      omega
    refine ⟨m, ?_, ?_, ?_⟩
    · rw [idxGo_cons, if_neg (by omega), if_neg (by omega)]; exact h1
    · rw [prodL_cons, ← Int.mul_assoc]
      have : n * x * prodL s ≤ (n * x + a) * prodL s := Int.mul_le_mul_of_nonneg_right (by omega) hP
      omega
    · rw [prodL_cons, ← Int.mul_assoc]
      have e : (n + 1) * x = n * x + x := by rw [Int.add_mul, Int.one_mul]
      have : (n * x + a + 1) * prodL s ≤ (n + 1) * x * prodL s := Int.mul_le_mul_of_nonneg_right (by rw [e]; omega) hP
      omega

theorem index_in {s p : List Int} (hm : may s = true) (hl : p.length = s.length) (hv : ∀ q (h : q < s.length) (h' : q < p.length), 0 ≤ p[q] ∧ p[q] < s[q]) : 0 ≤ index s p ∧ index s p < prodL s := by
  obtain ⟨m, h1, h2, h3⟩ := idxGo_in s p 0 hl hv (by omega)
  unfold index
  rw [if_pos ⟨hm, hl⟩, h1]
  simp only [Option.getD_some]
  omega

theorem place_in {s : List Int} {i : Int} (hm : may s = true) (h0 : 0 ≤ i) (h1 : i < prodL s) : (place s i).length = s.length ∧ ∀ q (h : q < s.length) (h' : q < (place s i).length), 0 ≤ (place s i)[q] ∧ (place s i)[q] < s[q] := by
  have e : place s i = fillN s.length 0 (placeAt s i) := by unfold place; rw [if_pos ⟨hm, h0, h1⟩]
  have hl : (place s i).length = s.length := by rw [e]; simp
  refine ⟨hl, fun q h h' => ?_⟩
  have hx := may_pos hm s[q] (List.getElem_mem h)
  have e2 : (place s i)[q] = (i / prodL (s.drop (q + 1))) % s[q] := by
    simp only [e, fillN_get]
    rw [if_pos (Nat.zero_le _)]
    unfold placeAt
    rw [getD_get s 1 q h]
  rw [e2]
  exact ⟨Int.emod_nonneg _ (by omega), Int.emod_lt_of_pos _ (by omega)⟩

/-- a shape that is broadcast to another one -/
def Sub (a s : List Int) : Prop := may a = true ∧ may s = true ∧ a.length ≤ s.length ∧ ∀ k, k < a.length → nm a k = nm s k ∨ nm a k = 1

theorem nm_pos {s : List Int} (h : may s = true) (k : Nat) : 1 ≤ nm s k := by
  unfold nm
  split
  · exact may_pos h _ (List.getElem_mem _)
  · omega

theorem under_in {a s : List Int} (h : Sub a s) {i : Int} (h0 : 0 ≤ i) (h1 : i < prodL s) : (place s i).length = s.length ∧ 0 ≤ under a (place s i) ∧ under a (place s i) < prodL a := by
  obtain ⟨ha, hs, hl, hk⟩ := h
  obtain ⟨p1, p2⟩ := place_in hs h0 h1
  refine ⟨p1, ?_⟩
  unfold under
  refine index_in ha (by simp [maskP]) (fun q hq hq' => ?_)
  have hx := may_pos ha a[q] (List.getElem_mem hq)
  have e : (maskP a (place s i))[q] = maskF a (place s i) q := by simp [maskP]
  rw [e]
  unfold maskF
  rw [getD_get a 0 q hq]
  split
  · omega
  · rename_i hne
    have hq2 : s.length - a.length + q < s.length := by omega
    rw [p1, getD_get _ _ _ (by omega)]
    have := p2 (s.length - a.length + q) hq2 (by omega)
    refine ⟨this.1, ?_⟩
    rcases hk (a.length - 1 - q) (by omega) with e1 | e1
    · unfold nm at e1
      rw [dif_pos (by omega), dif_pos (by omega)] at e1
      have i1 : a.length - 1 - (a.length - 1 - q) = q := by omega
      have i2 : s.length - 1 - (a.length - 1 - q) = s.length - a.length + q := by omega
      simp only [i1, i2] at e1
      rw [e1]; exact this.2
    · unfold nm at e1
      rw [dif_pos (by omega)] at e1
      have i1 : a.length - 1 - (a.length - 1 - q) = q := by omega
      simp only [i1] at e1
      exact absurd e1 hne

theorem nm_outN (n : Nat) (f : Nat → Int) (k : Nat) (h : k < n) : nm (outN n f) k = f k := by
  unfold nm
  rw [dif_pos (by simpa using h), outN_get]
  congr 1
  simp only [outN_length]
  omega

theorem spread_ok {a b : List Int} (h : (spread a b).2 = 0) : may a = true ∧ may b = true ∧ fits a b = true ∧ (spread a b).1 = outN (max a.length b.length) (mx a b) ∧ may (spread a b).1 = true := by
  unfold spread at h ⊢
  split
  · rename_i hc
    rw [if_pos hc] at h
    unfold sealOut at h ⊢
    split
    · rename_i hs
      refine ⟨hc.1, hc.2.1, hc.2.2, rfl, ?_⟩
      unfold may; simp [hs]
    · rename_i hs
      rw [if_neg hs] at h
      exact absurd h hs
  · rename_i hc
    rw [if_neg hc] at h
    simp at h

theorem mx_self_or {a b : List Int} (ha : may a = true) (hb : may b = true) {k : Nat} (hf : fitAt a b k = true) : nm a k = mx a b k ∨ nm a k = 1 := by
  have h1 := nm_pos ha k
  have h2 := nm_pos hb k
  unfold fitAt at hf
  simp only [decide_eq_true_eq] at hf
  unfold mx
  split <;> omega

theorem spread_sub {a b : List Int} (h : (spread a b).2 = 0) : Sub a (spread a b).1 := by
  obtain ⟨ha, hb, hf, e, hm⟩ := spread_ok h
  refine ⟨ha, hm, by rw [e]; simp; omega, fun k hk => ?_⟩
  rw [e, nm_outN _ _ _ (by omega)]
  exact mx_self_or ha hb (fits_iff.1 hf k (by omega))

theorem spread_sub' {a b : List Int} (h : (spread a b).2 = 0) : Sub b (spread a b).1 := by
  rw [spread_comm] at h ⊢
  exact spread_sub h

theorem outN_nm {s : List Int} (f : Nat → Int) (h : ∀ k, k < s.length → f k = nm s k) : outN s.length f = s := by
  apply List.ext_getElem
  · simp
  · intro i h1 h2
    rw [outN_get, h _ (by omega)]
    unfold nm
    rw [dif_pos (by omega)]
    congr 1
    omega

theorem may_size {s : List Int} (h : may s = true) : (size s).2 = 0 := by unfold may at h; simpa using h

theorem sub_spread {a s : List Int} (h : Sub a s) : spread a s = (s, 0) := by
  obtain ⟨ha, hs, hl, hk⟩ := h
  have hmx : ∀ k, nm a k = nm s k ∨ nm a k = 1 := fun k => by
    by_cases hlt : k < a.length
    · exact hk k hlt
    · right; unfold nm; rw [dif_neg hlt]
  have hf : fits a s = true := fits_iff.2 fun k _ => by
    unfold fitAt
    simp only [decide_eq_true_eq]
    rcases hmx k with e | e <;> simp [e]
  have hm : ∀ k, mx a s k = nm s k := fun k => by
    have h1 := nm_pos hs k
    unfold mx
    rcases hmx k with e | e <;> split <;> omega
  unfold spread
  rw [if_pos ⟨ha, hs, hf⟩, Nat.max_eq_right hl, outN_nm _ (fun k _ => hm k)]
  unfold sealOut
  rw [if_pos (may_size hs)]

def into (a b : List Int) : Bool := decide ((spread a b).2 = 0 ∧ (spread a b).1 = b)

theorem into_iff {a s : List Int} : into a s = true ↔ Sub a s := by
  unfold into
  rw [decide_eq_true_eq]
  constructor
  · rintro ⟨h1, h2⟩
    have := spread_sub h1
    rwa [h2] at this
  · intro h
    rw [sub_spread h]
    exact ⟨rfl, rfl⟩

/-! ### operators -/
def opF (op : Int) (x y : Nat) : Nat := if op = 4 then fadd x y else if op = 5 then fsub x y else if op = 6 then fmul x y else fdiv x y
def pick (a : Tensor) (s : List Int) (i : Nat) : Nat := a.Data.getD (under a.Shape (place s i)).toNat 0
def twoD (op : Int) (a b : Tensor) (s : List Int) : List Nat := (List.range (prodL s).toNat).map (fun i => opF op (pick a s i) (pick b s i))
def twoT (op : Int) (a b : Tensor) : Tensor × Int :=
  if 4 ≤ op ∧ op ≤ 7 then
    if tmay a = true ∧ tmay b = true then
      if (spread a.Shape b.Shape).2 = 0 then (⟨(spread a.Shape b.Shape).1, twoD op a b (spread a.Shape b.Shape).1⟩, 0) else (noT, (spread a.Shape b.Shape).2)
    else (noT, 2)
  else (noT, 4)

theorem pick_rd {a : Tensor} {s : List Int} (ha : tmay a = true) (h : Sub a.Shape s) {i : Nat} (hi : i < (prodL s).toNat) :
    (place s i).length = s.length ∧ (0 ≤ under a.Shape (place s i) ∧ under a.Shape (place s i) < (a.Data.length : Int)) ∧ rd a.Data (under a.Shape (place s i)) = pick a s i := by
  have hp := prodL_pos (may_pos h.2.1)
  obtain ⟨p1, p2, p3⟩ := under_in h (i := (i : Int)) (by omega) (by omega)
  have hd := (tmay_fits ha).2.2.1
  refine ⟨p1, ⟨p2, by omega⟩, ?_⟩
  obtain ⟨j, hj⟩ := Int.eq_ofNat_of_zero_le p2
  unfold pick
  rw [hj, Int.toNat_natCast, getD_get _ _ _ (by omega), rd_nat _ _ (by omega)]

section
variable {a b : Tensor} {s : List Int} {op : Int}
theorem kernel_Two_loop (ha : tmay a = true) (hb : tmay b = true) (h1 : Sub a.Shape s) (h2 : Sub b.Shape s) (ho : (List.range (prodL s).toNat).map (fun i => opF op (pick a s i) (pick b s i)) = twoD op a b s)
    {body : Int × List Nat → Step (Int × List Nat) (Int × List Nat)}
    (hbody : ∀ (j : Nat) (ys : List Nat), ys.length = (prodL s).toNat → body ((j : Int), ys) = if (j : Int) < ((prodL s).toNat : Int) then bindS (shape_Place.f s (j : Int)) (fun r134 => bindS (kernel_from.f a.Shape r134) fun r147 => if 0 ≤ r147 ∧ r147 < (a.Data.length : Int) then bindS (kernel_from.f b.Shape r134) (fun r149 => if 0 ≤ r149 ∧ r149 < (b.Data.length : Int) then (.next (w64 ((j : Int) + 1), put ys (j : Int) (opF op (rd a.Data r147) (rd b.Data r149)))) else .bad) else .bad) else .done ((j : Int), ys)) :
    loop body (0, List.replicate (prodL s).toNat 0) = some (((prodL s).toNat : Int), twoD op a b s) := by
  have hs := h1.2.1
  have h4 := may_len hs
  have hle := may_le hs
  rw [← ho]
  refine fill_loop (prodL s).toNat _ id (by omega) (fun j ys hj hy => ?_) (fun ys hy => ?_) _ (by simp)
  · obtain ⟨p1, p2, p3⟩ := pick_rd ha h1 hj
    obtain ⟨q1, q2, q3⟩ := pick_rd hb h2 hj
    rw [hbody j ys hy, if_pos (by omega), shape_Place_eq]
    simp only [bindS]
    rw [kernel_from_eq _ _ (by have := h1.2.2.1; omega) (by omega)]
    simp only
    rw [if_pos p2, kernel_from_eq _ _ (by have := h2.2.2.1; omega) (by omega)]
    simp only
    rw [if_pos q2, p3, q3]
  · rw [hbody _ ys hy, if_neg (by omega)]; rfl
end

theorem two_body0 {a b : Tensor} (s : List Int) (e : Int) (j : Nat) (ys : List Nat) (hy : ys.length = (prodL s).toNat) : kernel_Two.l0 (⟨s, List.replicate (prodL s).toNat 0⟩, 0) (s, e) a b ((j : Int), ys) = if (j : Int) < ((prodL s).toNat : Int) then bindS (shape_Place.f s (j : Int)) (fun r134 => bindS (kernel_from.f a.Shape r134) fun r147 => if 0 ≤ r147 ∧ r147 < (a.Data.length : Int) then bindS (kernel_from.f b.Shape r134) (fun r149 => if 0 ≤ r149 ∧ r149 < (b.Data.length : Int) then (.next (w64 ((j : Int) + 1), put ys (j : Int) (opF 4 (rd a.Data r147) (rd b.Data r149)))) else .bad) else .bad) else .done ((j : Int), ys) := by
  unfold kernel_Two.l0
  simp only [List.length_replicate, hy]
  by_cases hj : (j : Int) < ((prodL s).toNat : Int)
  · have hc : 0 ≤ (j : Int) ∧ (j : Int) < ((prodL s).toNat : Int) := by omega
    rw [if_pos hj, if_pos hj]
    simp only [if_pos hc]
    rfl
  · rw [if_neg hj, if_neg hj]

theorem two_body1 {a b : Tensor} (s : List Int) (e : Int) (j : Nat) (ys : List Nat) (hy : ys.length = (prodL s).toNat) : kernel_Two.l1 (⟨s, List.replicate (prodL s).toNat 0⟩, 0) (s, e) a b ((j : Int), ys) = if (j : Int) < ((prodL s).toNat : Int) then bindS (shape_Place.f s (j : Int)) (fun r134 => bindS (kernel_from.f a.Shape r134) fun r147 => if 0 ≤ r147 ∧ r147 < (a.Data.length : Int) then bindS (kernel_from.f b.Shape r134) (fun r149 => if 0 ≤ r149 ∧ r149 < (b.Data.length : Int) then (.next (w64 ((j : Int) + 1), put ys (j : Int) (opF 5 (rd a.Data r147) (rd b.Data r149)))) else .bad) else .bad) else .done ((j : Int), ys) := by
  unfold kernel_Two.l1
  simp only [List.length_replicate, hy]
  by_cases hj : (j : Int) < ((prodL s).toNat : Int)
  · have hc : 0 ≤ (j : Int) ∧ (j : Int) < ((prodL s).toNat : Int) := by omega
    rw [if_pos hj, if_pos hj]
    simp only [if_pos hc]
    rfl
  · rw [if_neg hj, if_neg hj]

theorem two_body2 {a b : Tensor} (s : List Int) (e : Int) (j : Nat) (ys : List Nat) (hy : ys.length = (prodL s).toNat) : kernel_Two.l2 (⟨s, List.replicate (prodL s).toNat 0⟩, 0) (s, e) a b ((j : Int), ys) = if (j : Int) < ((prodL s).toNat : Int) then bindS (shape_Place.f s (j : Int)) (fun r134 => bindS (kernel_from.f a.Shape r134) fun r147 => if 0 ≤ r147 ∧ r147 < (a.Data.length : Int) then bindS (kernel_from.f b.Shape r134) (fun r149 => if 0 ≤ r149 ∧ r149 < (b.Data.length : Int) then (.next (w64 ((j : Int) + 1), put ys (j : Int) (opF 6 (rd a.Data r147) (rd b.Data r149)))) else .bad) else .bad) else .done ((j : Int), ys) := by
  unfold kernel_Two.l2
  simp only [List.length_replicate, hy]
  by_cases hj : (j : Int) < ((prodL s).toNat : Int)
  · have hc : 0 ≤ (j : Int) ∧ (j : Int) < ((prodL s).toNat : Int) := by omega
    rw [if_pos hj, if_pos hj]
    simp only [if_pos hc]
    rfl
  · rw [if_neg hj, if_neg hj]

theorem two_body3 {a b : Tensor} (s : List Int) (e : Int) (j : Nat) (ys : List Nat) (hy : ys.length = (prodL s).toNat) : kernel_Two.l3 (⟨s, List.replicate (prodL s).toNat 0⟩, 0) (s, e) a b ((j : Int), ys) = if (j : Int) < ((prodL s).toNat : Int) then bindS (shape_Place.f s (j : Int)) (fun r134 => bindS (kernel_from.f a.Shape r134) fun r147 => if 0 ≤ r147 ∧ r147 < (a.Data.length : Int) then bindS (kernel_from.f b.Shape r134) (fun r149 => if 0 ≤ r149 ∧ r149 < (b.Data.length : Int) then (.next (w64 ((j : Int) + 1), put ys (j : Int) (opF 7 (rd a.Data r147) (rd b.Data r149)))) else .bad) else .bad) else .done ((j : Int), ys) := by
  unfold kernel_Two.l3
  simp only [List.length_replicate, hy]
  by_cases hj : (j : Int) < ((prodL s).toNat : Int)
  · have hc : 0 ≤ (j : Int) ∧ (j : Int) < ((prodL s).toNat : Int) := by omega
    rw [if_pos hj, if_pos hj]
    simp only [if_pos hc]
    rfl
  · rw [if_neg hj, if_neg hj]

theorem kernel_Two_eq (op : Int) (a b : Tensor) : kernel_Two.f op a b = some (twoT op a b) := by
  unfold kernel_Two.f twoT
  have tail : ∀ (o : Int) (ho : 4 ≤ o ∧ o ≤ 7) (l : Tensor × Int → List Int × Int → Tensor → Tensor → Int × List Nat → Step (Int × List Nat) (Int × List Nat))
      (hl : ∀ (s : List Int) (e : Int) (j : Nat) (ys : List Nat), ys.length = (prodL s).toNat → l (⟨s, List.replicate (prodL s).toNat 0⟩, 0) (s, e) a b ((j : Int), ys) = if (j : Int) < ((prodL s).toNat : Int) then bindS (shape_Place.f s (j : Int)) (fun r134 => bindS (kernel_from.f a.Shape r134) fun r147 => if 0 ≤ r147 ∧ r147 < (a.Data.length : Int) then bindS (kernel_from.f b.Shape r134) (fun r149 => if 0 ≤ r149 ∧ r149 < (b.Data.length : Int) then (.next (w64 ((j : Int) + 1), put ys (j : Int) (opF o (rd a.Data r147) (rd b.Data r149)))) else .bad) else .bad) else .done ((j : Int), ys)),
      ((tensor_May.f a).bind fun r56 =>
        if r56 = true then (tensor_May.f b).bind fun r58 =>
          if r58 = true then (shape_Spread.f a.Shape b.Shape).bind fun r77 =>
            if r77.2 = 0 then (tensor_New.f r77.1 0).bind fun r93 => (loop (l r93 r77 a b) (0, r93.1.Data)).bind fun r123 => some ((⟨r93.1.Shape, r123.2⟩ : Tensor), (0 : Int))
            else some ((⟨([] : List Int), ([] : List Nat)⟩ : Tensor), r77.2)
          else some ((⟨([] : List Int), ([] : List Nat)⟩ : Tensor), 2)
        else some ((⟨([] : List Int), ([] : List Nat)⟩ : Tensor), 2)) = some (twoT o a b) := by
    intro o ho l hl
    unfold twoT
    rw [if_pos ho, tensor_May_eq, obind]
    by_cases ha : tmay a = true
    · rw [if_pos ha, tensor_May_eq, obind]
      by_cases hb : tmay b = true
      · rw [if_pos hb, if_pos ⟨ha, hb⟩, shape_Spread_eq, obind]
        by_cases hs : (spread a.Shape b.Shape).2 = 0
        · have h1 := spread_sub hs
          have h2 := spread_sub' hs
          rw [if_pos hs, if_pos hs, tensor_New_eq, newT_may h1.2.1, obind]
          rw [kernel_Two_loop (op := o) ha hb h1 h2 rfl (fun j ys hy => hl _ _ j ys hy), obind]
        · rw [if_neg hs, if_neg hs]; rfl
      · rw [if_neg hb, if_neg (fun c => hb c.2)]; rfl
    · rw [if_neg ha, if_neg (fun c => ha c.1)]; rfl
  by_cases c4 : op = 4
  · subst c4
    rw [if_pos rfl]
    have := tail 4 (by decide) kernel_Two.l0 two_body0
    unfold twoT at this
    exact this
  by_cases c5 : op = 5
  · subst c5
    rw [if_neg c4, if_pos rfl]
    have := tail 5 (by decide) kernel_Two.l1 two_body1
    unfold twoT at this
    exact this
  by_cases c6 : op = 6
  · subst c6
    rw [if_neg c4, if_neg c5, if_pos rfl]
    have := tail 6 (by decide) kernel_Two.l2 two_body2
    unfold twoT at this
    exact this
  by_cases c7 : op = 7
  · subst c7
    rw [if_neg c4, if_neg c5, if_neg c6, if_pos rfl]
    have := tail 7 (by decide) kernel_Two.l3 two_body3
    unfold twoT at this
    exact this
  rw [if_neg c4, if_neg c5, if_neg c6, if_neg c7, if_neg (by omega)]; rfl

theorem kernel_Two_add (a b : Tensor) : kernel_Two.f 4 a b = some (twoT 4 a b) := kernel_Two_eq 4 a b

/-! ### broadcast, reshaped -/
def spreadT (a : Tensor) (s : List Int) : Tensor × Int := if tmay a = true ∧ into a.Shape s = true then (⟨s, (List.range (prodL s).toNat).map (pick a s)⟩, 0) else (noT, 2)

end Go.Proofs.Yteaoijahdinciaa
