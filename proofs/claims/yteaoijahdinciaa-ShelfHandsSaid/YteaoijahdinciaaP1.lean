/- Plain laws, part 1: shapes. -/
import Derived.Test.YteaoijahdinciaaP0
import Derived.Test.YteaoijahdinciaaF0
import Derived.Test.YteaoijahdinciaaF3
import Derived.Test.YteaoijahdinciaaF4
namespace Go.Proofs.Yteaoijahdinciaa
open Go Go.RowKit
set_option linter.unusedSimpArgs false
set_option linter.unusedVariables false

/-! ### how many numbers -/
def sizeGo : List Int → Int → Int × Int
  | [], n => (n, 0)
  | x :: r, n => if Int.tdiv 4096 n < x then (0, 3) else sizeGo r (n * x)

def size (s : List Int) : Int × Int :=
  if 4 < s.length then (0, 2) else if s.any (fun x => decide (x < 1)) then (0, 2) else sizeGo s 1

theorem sizeGo_cons (x : Int) (r : List Int) (n : Int) : sizeGo (x :: r) n = if Int.tdiv 4096 n < x then (0, 3) else sizeGo r (n * x) := rfl

theorem tdiv_of {a b : Int} (ha : 0 ≤ a) (hb : 0 < b) : Int.tdiv a b = a / b := Int.tdiv_eq_ediv_of_nonneg ha

theorem sizeGo_fits {n x : Int} (h1 : 1 ≤ n) (h2 : n ≤ 4096) (hx : 1 ≤ x) (h : ¬ Int.tdiv 4096 n < x) : 1 ≤ n * x ∧ n * x ≤ 4096 := by
  rw [tdiv_of (by omega) (by omega)] at h
  have h3 : n * (4096 / n) ≤ 4096 := Int.mul_ediv_self_le (by omega)
  have h4 : n * x ≤ n * (4096 / n) := Int.mul_le_mul_of_nonneg_left (by omega) (by omega)
  have h5 : 1 * 1 ≤ n * x := Int.mul_le_mul h1 hx (by omega) (by omega)
  omega

theorem tdiv_bound {n : Int} (h1 : 1 ≤ n) : 0 ≤ Int.tdiv 4096 n ∧ Int.tdiv 4096 n ≤ 4096 := by
  rw [tdiv_of (by omega) (by omega)]
  exact ⟨Int.ediv_nonneg (by omega) (by omega), Int.ediv_le_self _ (by omega)⟩

def sizeL (x0 : (List Int)) (s31 : (Int × Int)) : Step (Int × Int) (Out2 (Int × Int) (Int × Int)) :=
  if s31.2 < (x0.length : Int) then (if 0 ≤ s31.2 ∧ s31.2 < (x0.length : Int) then (if s31.1 ≠ 0 then (if (w64 (Int.tdiv 4096 s31.1)) < (rd x0 s31.2) then (.done (.ret (0, 3)))
  else (.next ((w64 (s31.1 * (rd x0 s31.2))), (w64 (s31.2 + 1)))))
  else .bad)
  else .bad)
  else (.done (.go (s31.1, s31.2)))

/-- what the loop of 'Size' hands on -/
def sizeEnd (s : List Int) : Out2 (Int × Int) (Int × Int) := if (sizeGo s 1).2 = 0 then .go ((sizeGo s 1).1, s.length) else .ret (0, 3)

theorem sizeGo_or : ∀ (s : List Int) (n : Int), (∃ m, sizeGo s n = (m, 0)) ∨ sizeGo s n = (0, 3)
  | [], n => .inl ⟨n, rfl⟩
  | x :: r, n => by
    unfold sizeGo
    split
    · exact .inr rfl
    · exact sizeGo_or r _

theorem pos_of_any {s : List Int} (h : s.any (fun x => decide (x < 1)) = false) : ∀ x ∈ s, 1 ≤ x := by
  intro x hx
  have := List.any_eq_false.1 h x hx
  simp at this
  omega

theorem shape_Size_loop (s : List Int) (hp : ∀ x ∈ s, 1 ≤ x) (hl : s.length ≤ 9223372036854775806) : loop (sizeL s) (1, 0) = some (sizeEnd s) := by
  refine loop_to (sizeEnd s) (fun k st => ∃ (n : Int) (j : Nat), k + j = s.length ∧ st = (n, (j : Int)) ∧ 1 ≤ n ∧ n ≤ 4096 ∧ sizeGo (s.drop j) n = sizeGo s 1) ?_ s.length _ ⟨1, 0, rfl, rfl, by omega, by omega, rfl⟩
  rintro k _ ⟨n, j, hk, rfl, h1, h2, h3⟩
  unfold sizeL
  simp only
  by_cases hj : j < s.length
  · have hx := hp s[j] (List.getElem_mem hj)
    have hr := rd_nat s j hj
    have ht := tdiv_bound h1
    rw [drop_at hj, sizeGo_cons] at h3
    rw [if_pos (by omega), if_pos (by omega), if_pos (by omega), hr, w64_id (by omega) (by omega)]
    by_cases hc : Int.tdiv 4096 n < s[j]
    · rw [if_pos hc] at h3 ⊢
      left
      unfold sizeEnd
      rw [← h3, if_neg (by decide)]
    · rw [if_neg hc] at h3 ⊢
      have hf := sizeGo_fits h1 h2 hx hc
      right
      refine ⟨_, k - 1, rfl, by omega, n * s[j], j + 1, by omega, ?_, hf.1, hf.2, h3⟩
      rw [w64_id (by omega) (by omega), w64_id (by omega) (by omega)]
      rfl
  · left
    have hz : j = s.length := by omega
    rw [if_neg (by omega)]
    subst hz
    rw [List.drop_length] at h3
    have h4 : sizeGo s 1 = (n, 0) := h3.symm
    unfold sizeEnd
    rw [h4, if_pos rfl]

theorem shape_Size_1_eq (x : Int) : shape_Size_1.f x = some (decide (x < 1)) := by
  unfold shape_Size_1.f
  by_cases h : x < 1 <;> simp [h]

theorem shape_Contains_eq (s : List Int) (hl : s.length ≤ 9223372036854775806) : slices_ContainsFunc_int_shape_Size_1.f s = some (s.any (fun x => decide (x < 1))) := by
  have key : ∃ r, loop (slices_IndexFunc_int_shape_Size_1.l0 s) 0 = some r ∧ ((s.any (fun x => decide (x < 1)) = false ∧ ∃ y, r = .go y) ∨ (s.any (fun x => decide (x < 1)) = true ∧ ∃ y : Int, 0 ≤ y ∧ r = .ret y)) := by
    refine loop_ex _ (fun k st => ∃ j : Nat, k + j = s.length ∧ st = (j : Int) ∧ s.any (fun x => decide (x < 1)) = (s.drop j).any (fun x => decide (x < 1))) ?_ s.length _ ⟨0, rfl, rfl, rfl⟩
    rintro k _ ⟨j, hk, rfl, h3⟩
    unfold slices_IndexFunc_int_shape_Size_1.l0
    by_cases hj : j < s.length
    · rw [if_pos (by omega), if_pos (by omega), rd_nat s j hj, shape_Size_1_eq]
      rw [drop_at hj, List.any_cons] at h3
      simp only [bindS]
      by_cases hc : s[j] < 1
      · rw [if_pos (by simpa using hc)]
        left
        exact ⟨_, rfl, .inr ⟨by rw [h3]; simp [hc], _, by omega, rfl⟩⟩
      · rw [if_neg (by simpa using hc)]
        right
        refine ⟨_, k - 1, rfl, by omega, j + 1, by omega, ?_, by rw [h3]; simp [hc]⟩
        rw [w64_id (by omega) (by omega)]; rfl
    · left
      rw [if_neg (by omega)]
      have hz : j = s.length := by omega
      subst hz
      exact ⟨_, rfl, .inl ⟨by rw [h3, List.drop_length]; rfl, _, rfl⟩⟩
  obtain ⟨r, h1, h2⟩ := key
  unfold slices_ContainsFunc_int_shape_Size_1.f slices_IndexFunc_int_shape_Size_1.f
  rw [h1]
  rcases h2 with ⟨ha, y, rfl⟩ | ⟨ha, y, hy, rfl⟩
  · rw [ha]; rfl
  · rw [ha]; simp only [obind, Out2.on]; rw [if_pos hy]

theorem shape_Size_eq (s : List Int) : shape_Size.f s = some (size s) := by
  unfold shape_Size.f size
  by_cases h4 : 4 < s.length
  · rw [if_pos (by omega), if_pos h4]
  rw [if_neg (by omega), if_neg h4, shape_Contains_eq s (by omega), obind]
  cases ha : s.any (fun x => decide (x < 1)) with
  | true => simp
  | false =>
    simp only [Bool.false_eq_true, if_false]
    rw [show shape_Size.l0 = sizeL from rfl, shape_Size_loop s (pos_of_any ha) (by omega), obind]
    unfold sizeEnd
    rcases sizeGo_or s 1 with ⟨m, h⟩ | h
    · rw [h]; rfl
    · rw [h]; rfl

def may (s : List Int) : Bool := decide ((size s).2 = 0)

theorem shape_May_eq (s : List Int) : shape_May.f s = some (may s) := by
  unfold shape_May.f may
  rw [shape_Size_eq, obind]
  by_cases h : (size s).2 = 0 <;> simp [h]

/-! ### broadcasting -/
/-- the k-th number from a shape's end; 1: there is none -/
def nm (s : List Int) (k : Nat) : Int := if h : k < s.length then s[s.length - 1 - k] else 1
def mx (a b : List Int) (k : Nat) : Int := if nm b k > nm a k then nm b k else nm a k
def fitAt (a b : List Int) (k : Nat) : Bool := decide (nm a k = nm b k ∨ nm a k = 1 ∨ nm b k = 1)
def outN (n : Nat) (f : Nat → Int) : List Int := (List.range n).map (fun j => f (n - 1 - j))
def fits (a b : List Int) : Bool := (List.range (max a.length b.length)).all (fitAt a b)

def sealOut (o : List Int) : List Int × Int := if (size o).2 = 0 then (o, 0) else ([], (size o).2)
def spread (a b : List Int) : List Int × Int :=
  if may a = true ∧ may b = true ∧ fits a b = true then sealOut (outN (max a.length b.length) (mx a b)) else ([], 2)

theorem may_len {s : List Int} (h : may s = true) : s.length ≤ 4 := by
  unfold may size at h
  by_cases h4 : 4 < s.length
  · rw [if_pos h4] at h; simp at h
  · omega

theorem may_pos {s : List Int} (h : may s = true) : ∀ x ∈ s, 1 ≤ x := by
  unfold may size at h
  have h4 := may_len h
  rw [if_neg (by omega)] at h
  cases ha : s.any (fun x => decide (x < 1)) with
  | true => rw [ha] at h; simp at h
  | false => exact pos_of_any ha

@[simp] theorem outN_length (n : Nat) (f : Nat → Int) : (outN n f).length = n := by simp [outN]

theorem outN_get (n : Nat) (f : Nat → Int) (j : Nat) (h : j < (outN n f).length) : (outN n f)[j] = f (n - 1 - j) := by simp [outN]

theorem outN_zero (n : Nat) (f : Nat → Int) : outN n (fun k => if k < 0 then f k else 0) = List.replicate n 0 := by
  apply List.ext_getElem
  · simp
  · intro i h1 h2
    rw [outN_get]; simp

theorem outN_full (n : Nat) (f : Nat → Int) : outN n (fun k => if k < n then f k else 0) = outN n f := by
  apply List.ext_getElem
  · simp
  · intro i h1 h2
    rw [outN_get, outN_get]
    simp only [outN_length] at h1
    rw [if_pos (by omega)]

theorem outN_set (n j : Nat) (hj : j < n) (f : Nat → Int) : (outN n (fun k => if k < j then f k else 0)).set (n - 1 - j) (f j) = outN n (fun k => if k < j + 1 then f k else 0) := by
  apply List.ext_getElem
  · simp
  · intro i h1 h2
    rw [List.getElem_set, outN_get, outN_get]
    simp only [List.length_set, outN_length] at h1
    split
    · rename_i h
      rw [show n - 1 - i = j by omega, if_pos (by omega)]
    · rename_i h
      by_cases hk : n - 1 - i < j
      · rw [if_pos hk, if_pos (by omega)]
      · rw [if_neg hk, if_neg (by omega)]

theorem fits_iff {a b : List Int} : fits a b = true ↔ ∀ k, k < max a.length b.length → fitAt a b k = true := by
  simp [fits, List.all_eq_true]

theorem shape_number_eq (s : List Int) (k : Nat) (hl : s.length ≤ 4) : shape_number.f s (k : Int) = some (nm s k) := by
  unfold shape_number.f nm
  by_cases h : k < s.length
  · rw [if_neg (by omega), dif_pos h, w64_id (x := (s.length : Int) - 1) (by omega) (by omega), w64_id (x := (s.length : Int) - 1 - k) (by omega) (by omega), if_pos (by omega), rd_at s _ (s.length - 1 - k) (by omega) (by omega)]
  · rw [if_pos (by omega), dif_neg h]

/-- what the loops of 'Spread' hand on: i is where they end -/
def spreadEnd (a b : List Int) (i : Int) : Out2 (Int × List Int) (List Int × Int) :=
  if fits a b = true then .go (i, outN (max a.length b.length) (mx a b)) else .ret ([], 2)

theorem not_fits {a b : List Int} {k : Nat} (hk : k < max a.length b.length) (h : ¬ fitAt a b k = true) : ¬ fits a b = true := fun c => h (fits_iff.1 c k hk)

theorem max_cast (a b : List Int) : (if (b.length : Int) > (a.length : Int) then (b.length : Int) else (a.length : Int)) = ((max a.length b.length : Nat) : Int) := by
  split <;> omega

theorem shape_Spread_loop (a b : List Int) (ha : a.length ≤ 4) (hb : b.length ≤ 4) :
    loop (shape_Spread.l0 b a) (0, List.replicate (max a.length b.length) 0) = some (spreadEnd a b (max a.length b.length : Nat)) := by
  have hn : max a.length b.length ≤ 4 := by omega
  generalize hN : max a.length b.length = n at hn ⊢
  refine loop_to _ (fun k st => ∃ j : Nat, k + j = n ∧ st = ((j : Int), outN n (fun k => if k < j then mx a b k else 0)) ∧ ∀ k, k < j → fitAt a b k = true) ?_ n _ ⟨0, rfl, by rw [outN_zero]; rfl, by omega⟩
  rintro k _ ⟨j, hk, rfl, hf⟩
  unfold shape_Spread.l0
  simp only [max_cast, hN, List.length_replicate, Int.toNat_natCast]
  by_cases hj : j < n
  · rw [if_pos (by omega), shape_number_eq a j ha, shape_number_eq b j hb]
    simp only [bindS, outN_length]
    have hw : w64 (w64 ((n : Int) - 1) - (j : Int)) = ((n - 1 - j : Nat) : Int) := by
      rw [w64_id (x := (n : Int) - 1) (by omega) (by omega), w64_id (x := (n : Int) - 1 - j) (by omega) (by omega)]; omega
    rw [hw, put_at _ _ (n - 1 - j) _ rfl, show (if nm b j > nm a j then nm b j else nm a j) = mx a b j from rfl, outN_set n j hj, w64_id (by omega) (by omega)]
    by_cases hc : fitAt a b j = true
    · right
      refine ⟨_, k - 1, ?_, by omega, j + 1, by omega, rfl, ?_⟩
      · unfold fitAt at hc
        simp only [decide_eq_true_eq] at hc
        by_cases h1 : nm a j = nm b j
        · rw [if_pos h1, if_pos (by omega)]; rfl
        · rw [if_neg h1]
          by_cases h2 : nm a j = 1
          · rw [if_pos h2, if_pos (by omega)]; rfl
          · rw [if_neg h2, if_pos (by omega), if_pos (by omega)]; rfl
      · intro k hk
        by_cases h : k = j
        · rw [h]; exact hc
        · exact hf k (by omega)
    · left
      have hnf := not_fits (by rw [hN]; exact hj) hc
      unfold fitAt at hc
      simp only [decide_eq_true_eq] at hc
      rw [if_neg (by omega), if_neg (by omega), if_neg (by omega), spreadEnd, if_neg hnf]
  · left
    have hz : j = n := by omega
    subst hz
    rw [if_neg (by omega), outN_full, spreadEnd, if_pos (fits_iff.2 (by rw [hN]; exact hf)), hN]

theorem may_false {s : List Int} (h : ¬ may s = true) : may s = false := by simpa using h

theorem shape_Spread_eq (a b : List Int) : shape_Spread.f a b = some (spread a b) := by
  unfold shape_Spread.f spread
  rw [shape_May_eq, obind]
  by_cases ha : may a = true
  · rw [if_pos ha, shape_May_eq, obind]
    by_cases hb : may b = true
    · have la := may_len ha
      have lb := may_len hb
      simp only [max_cast, Int.toNat_natCast]
      rw [if_pos hb, if_pos (by omega), shape_Spread_loop a b la lb, obind]
      unfold spreadEnd
      by_cases hf : fits a b = true
      · rw [if_pos hf, if_pos ⟨ha, hb, hf⟩]
        simp only [Out2.on]
        rw [shape_Size_eq, obind]
        unfold sealOut
        split <;> rfl
      · rw [if_neg hf, if_neg (fun c => hf c.2.2)]; rfl
    · rw [if_neg hb, if_neg (fun c => hb c.2.1)]
  · rw [if_neg ha, if_neg (fun c => ha c.1)]

theorem all_eq {a b : List Int} (hl : a.length = b.length) (h : ∀ i, (h1 : i < a.length) → (h2 : i < b.length) → a[i] = b[i]) : a = b := List.ext_getElem hl h

def sameL (x0 : (List Int)) (x1 : (List Int)) (s8 : Int) : Step Int (Out2 Int Bool) :=
  if s8 < (x0.length : Int) then (if 0 ≤ s8 ∧ s8 < (x0.length : Int) then (if 0 ≤ s8 ∧ s8 < (x1.length : Int) then (if (rd x0 s8) = (rd x1 s8) then (.next (w64 (s8 + 1)))
  else (.done (.ret false)))
  else .bad)
  else .bad)
  else (.done (.go s8))

noncomputable def sameF (x0 : (List Int)) (x1 : (List Int)) : Option Bool :=
  if (x0.length : Int) = (x1.length : Int) then ((loop (sameL x0 x1) 0).bind fun r9 =>
  r9.on (fun yr9 =>
  some true) (fun y => some y))
  else (some false)

theorem sameF_eq (a b : List Int) (hl : a.length ≤ 9223372036854775806) : sameF a b = some (decide (a = b)) := by
  unfold sameF
  by_cases he : a.length = b.length
  · rw [if_pos (by omega)]
    have key : loop (sameL a b) 0 = some (if a = b then .go (a.length : Int) else .ret false) := by
      refine loop_to _ (fun k st => ∃ j : Nat, k + j = a.length ∧ st = (j : Int) ∧ ∀ i, i < j → (h1 : i < a.length) → (h2 : i < b.length) → a[i] = b[i]) ?_ a.length _ ⟨0, rfl, rfl, fun i h => by omega⟩
      rintro k _ ⟨j, hk, rfl, h3⟩
      unfold sameL
      by_cases hj : j < a.length
      · rw [if_pos (by omega), if_pos (by omega), if_pos (by omega), rd_nat a j hj, rd_nat b j (by omega)]
        by_cases hc : a[j] = b[j]'(by omega)
        · right
          rw [if_pos hc]
          refine ⟨_, k - 1, rfl, by omega, j + 1, by omega, by rw [w64_id (by omega) (by omega)]; rfl, fun i hi h1 h2 => ?_⟩
          by_cases h : i = j
          · subst h; exact hc
          · exact h3 i (by omega) h1 h2
        · left
          rw [if_neg hc, if_neg (fun c => hc (by subst c; rfl))]
      · left
        have hz : j = a.length := by omega
        rw [if_neg (by omega), if_pos (all_eq he fun i h1 h2 => h3 i (by omega) h1 h2), hz]
    rw [key, obind]
    by_cases h : a = b
    · rw [if_pos h, decide_eq_true h]; rfl
    · rw [if_neg h, decide_eq_false h]; rfl
  · rw [if_neg (by omega), decide_eq_false (fun c => he (by rw [c]))]

theorem slices_Equal_eq (a b : List Int) (hl : a.length ≤ 9223372036854775806) : slices_Equal_int.f a b = some (decide (a = b)) := sameF_eq a b hl
theorem shape_Same_eq (a b : List Int) (hl : a.length ≤ 9223372036854775806) : shape_Same.f a b = some (decide (a = b)) := by
  unfold shape_Same.f
  rw [slices_Equal_eq a b hl, obind]

theorem spread_len (a b : List Int) : (spread a b).1.length ≤ 4 := by
  unfold spread
  split
  · rename_i h
    have := may_len h.1
    have := may_len h.2.1
    unfold sealOut
    split <;> simp
    omega
  · simp

end Go.Proofs.Yteaoijahdinciaa
