/- Plain laws, part 3: strides, the number of a place, the place of a number. -/
import Derived.Test.YteaoijahdinciaaP2
import Derived.Test.YteaoijahdinciaaF4
import Derived.Test.YteaoijahdinciaaF5
namespace Go.Proofs.Yteaoijahdinciaa
open Go Go.RowKit
set_option linter.unusedSimpArgs false
set_option linter.unusedVariables false

def prodL (s : List Int) : Int := s.foldr (· * ·) 1
theorem prodL_cons (x : Int) (r : List Int) : prodL (x :: r) = x * prodL r := rfl

theorem sizeGo_prod : ∀ (s : List Int) (n m : Int), sizeGo s n = (m, 0) → m = n * prodL s
  | [], n, m, h => by simp [sizeGo] at h; simp [prodL, h]
  | x :: r, n, m, h => by
    rw [sizeGo_cons] at h
    split at h
    · simp at h
    · rw [sizeGo_prod r _ _ h, prodL_cons, Int.mul_assoc]

theorem sizeGo_le : ∀ (s : List Int) (n m : Int), (∀ x ∈ s, 1 ≤ x) → 1 ≤ n → n ≤ 4096 → sizeGo s n = (m, 0) → 1 ≤ m ∧ m ≤ 4096
  | [], n, m, _, h1, h2, h => by simp [sizeGo] at h; omega
  | x :: r, n, m, hp, h1, h2, h => by
    rw [sizeGo_cons] at h
    split at h
    · simp at h
    · rename_i hc
      have := sizeGo_fits h1 h2 (hp x (by simp)) hc
      exact sizeGo_le r _ _ (fun y hy => hp y (by simp [hy])) this.1 this.2 h

theorem prodL_pos : ∀ {s : List Int}, (∀ x ∈ s, 1 ≤ x) → 1 ≤ prodL s
  | [], _ => by simp [prodL]
  | x :: r, hp => by
    have h1 := hp x (by simp)
    have h2 := prodL_pos (s := r) (fun y hy => hp y (by simp [hy]))
    rw [prodL_cons]
    have := Int.mul_le_mul h1 h2 (by omega) (by omega)
    omega

theorem size_may {s : List Int} (h : may s = true) : size s = (prodL s, 0) := by
  have hp := may_pos h
  unfold may size at h
  unfold size
  have h4 := may_len (s := s) (by unfold may size; exact h)
  rw [if_neg (by omega)] at h ⊢
  cases ha : s.any (fun x => decide (x < 1)) with
  | true => rw [ha] at h; simp at h
  | false =>
    rw [ha] at h
    simp only [Bool.false_eq_true, if_false, decide_eq_true_eq] at h ⊢
    rcases sizeGo_or s 1 with ⟨m, hm⟩ | hm
    · rw [hm, sizeGo_prod s 1 m hm, Int.one_mul]
    · rw [hm] at h; simp at h

theorem may_le {s : List Int} (h : may s = true) : prodL s ≤ 4096 := by
  have hp := may_pos h
  have hs := size_may h
  unfold size at hs
  have h4 := may_len h
  rw [if_neg (by omega)] at hs
  cases ha : s.any (fun x => decide (x < 1)) with
  | true => rw [ha] at hs; simp at hs
  | false =>
    rw [ha] at hs
    simp only [Bool.false_eq_true, if_false] at hs
    exact (sizeGo_le s 1 _ hp (by omega) (by omega) hs).2

theorem prodL_drop_le : ∀ {s : List Int} (j : Nat), (∀ x ∈ s, 1 ≤ x) → prodL (s.drop j) ≤ prodL s
  | s, 0, _ => by simp
  | [], j + 1, _ => by simp
  | x :: r, j + 1, hp => by
    have h1 := hp x (by simp)
    have h3 := prodL_drop_le (s := r) j (fun y hy => hp y (by simp [hy]))
    have h2 := prodL_pos (s := r) (fun y hy => hp y (by simp [hy]))
    rw [List.drop_succ_cons, prodL_cons]
    have := Int.mul_le_mul_of_nonneg_right h1 (by omega : 0 ≤ prodL r)
    omega

theorem drop_pos {s : List Int} (hp : ∀ x ∈ s, 1 ≤ x) (j : Nat) : ∀ x ∈ s.drop j, 1 ≤ x := fun x hx => hp x (List.mem_of_mem_drop hx)

/-- a list that is filled from its end on -/
def fillN (n j : Nat) (f : Nat → Int) : List Int := (List.range n).map (fun q => if j ≤ q then f q else 0)
@[simp] theorem fillN_length (n j : Nat) (f : Nat → Int) : (fillN n j f).length = n := by simp [fillN]
theorem fillN_get (n j : Nat) (f : Nat → Int) (q : Nat) (h : q < (fillN n j f).length) : (fillN n j f)[q] = if j ≤ q then f q else 0 := by simp [fillN]
theorem fillN_top (n : Nat) (f : Nat → Int) : fillN n n f = List.replicate n 0 := by
  apply List.ext_getElem
  · simp
  · intro i h1 h2
    rw [fillN_get]
    simp only [fillN_length] at h1
    rw [if_neg (by omega)]; simp
theorem fillN_set (n q : Nat) (hq : q < n) (f : Nat → Int) : (fillN n (q + 1) f).set q (f q) = fillN n q f := by
  apply List.ext_getElem
  · simp
  · intro i h1 h2
    rw [List.getElem_set, fillN_get, fillN_get]
    split
    · rename_i h; subst h; rw [if_pos (Nat.le_refl _)]
    · rename_i h
      by_cases hk : q + 1 ≤ i
      · rw [if_pos hk, if_pos (by omega)]
      · rw [if_neg hk, if_neg (by omega)]

def strides (s : List Int) : List Int := if may s = true then fillN s.length 0 (fun q => prodL (s.drop (q + 1))) else []

def stridesL (x0 : (List Int)) (s32 : (Int × Int × (List Int))) : Step (Int × Int × (List Int)) (Int × Int × (List Int)) :=
  if 0 ≤ s32.2.1 then (if 0 ≤ s32.2.1 ∧ s32.2.1 < (s32.2.2.length : Int) then (if 0 ≤ s32.2.1 ∧ s32.2.1 < (x0.length : Int) then (.next ((w64 (s32.1 * (rd x0 s32.2.1))), (w64 (s32.2.1 - 1)), (put s32.2.2 s32.2.1 s32.1)))
  else .bad)
  else .bad)
  else (.done (s32.1, s32.2.1, s32.2.2))

theorem shape_Strides_loop (s : List Int) (hm : may s = true) :
    loop (stridesL s) (1, w64 ((s.length : Int) - 1), List.replicate s.length 0) = some (prodL s, -1, fillN s.length 0 (fun q => prodL (s.drop (q + 1)))) := by
  have h4 := may_len hm
  have hp := may_pos hm
  have hle := may_le hm
  rw [w64_id (by omega) (by omega)]
  refine loop_to _ (fun k st => k ≤ s.length ∧ st = (prodL (s.drop k), (k : Int) - 1, fillN s.length k (fun q => prodL (s.drop (q + 1))))) ?_ s.length _ ⟨Nat.le_refl _, by rw [fillN_top, List.drop_length]; rfl⟩
  rintro k _ ⟨hk, rfl⟩
  unfold stridesL
  simp only [fillN_length]
  cases k with
  | zero => left; rw [if_neg (by omega)]; simp
  | succ q =>
    right
    have hq : q < s.length := by omega
    rw [if_pos (by omega), if_pos (by omega), if_pos (by omega), rd_at s _ q (by omega) hq, put_at _ _ q _ (by omega)]
    refine ⟨_, q, rfl, by omega, by omega, ?_⟩
    have hs : (fillN s.length (q + 1) (fun q => prodL (s.drop (q + 1)))).set q (prodL (s.drop (q + 1))) = fillN s.length q (fun q => prodL (s.drop (q + 1))) := fillN_set s.length q hq _
    have hd : prodL (s.drop (q + 1)) * s[q] = prodL (s.drop q) := by rw [drop_at hq, prodL_cons, Int.mul_comm]
    have h1 := prodL_drop_le q hp
    have h2 := prodL_pos (drop_pos hp q)
    rw [hs, hd, w64_id (by omega) (by omega), w64_id (by omega) (by omega)]
    congr 1
    congr 1
    omega

/-! ### a place's number -/
def idxGo : List Int → List Int → Int → Option Int
  | x :: s, a :: at_, n => if a < 0 then none else if x ≤ a then none else idxGo s at_ (n * x + a)
  | _, _, n => some n
def index (s at_ : List Int) : Int := if may s = true ∧ at_.length = s.length then (idxGo s at_ 0).getD (-1) else -1

/-- what the loop of 'Index' hands on -/
def idxEnd (s at_ : List Int) : Out2 (Int × Int) Int := match idxGo s at_ 0 with | some n => .go (n, s.length) | none => .ret (-1)

theorem idxGo_cons (x : Int) (s : List Int) (a : Int) (at_ : List Int) (n : Int) : idxGo (x :: s) (a :: at_) n = if a < 0 then none else if x ≤ a then none else idxGo s at_ (n * x + a) := rfl

theorem sizeGo_may {s : List Int} (h : may s = true) : sizeGo s 1 = (prodL s, 0) := by
  have hs := size_may h
  unfold size at hs
  have h4 := may_len h
  rw [if_neg (by omega)] at hs
  cases ha : s.any (fun x => decide (x < 1)) with
  | true => rw [ha] at hs; simp at hs
  | false => rw [ha] at hs; simpa using hs

/-- both programs' loops over a place's numbers turn alike -/
theorem idx_loop (s at_ : List Int) (hm : may s = true) (hl : at_.length = s.length) (body : Int × Int → Step (Int × Int) (Out2 (Int × Int) Int))
    (hb : ∀ (n : Int) (j : Nat) (h : j < s.length), body (n, (j : Int)) = if at_[j]'(by omega) < 0 then .done (.ret (-1)) else if s[j] ≤ at_[j]'(by omega) then .done (.ret (-1)) else .next (w64 (w64 (n * s[j]) + at_[j]'(by omega)), w64 ((j : Int) + 1)))
    (he : ∀ n : Int, body (n, (s.length : Int)) = .done (.go (n, (s.length : Int)))) : loop body (0, 0) = some (idxEnd s at_) := by
  have h4 := may_len hm
  have hp := may_pos hm
  refine loop_to _ (fun k st => ∃ (n p : Int) (j : Nat), k + j = s.length ∧ st = (n, (j : Int)) ∧ 0 ≤ n ∧ n < p ∧ p ≤ 4096 ∧ (∃ m, sizeGo (s.drop j) p = (m, 0)) ∧ idxGo (s.drop j) (at_.drop j) n = idxGo s at_ 0) ?_ s.length _
    ⟨0, 1, 0, rfl, rfl, by omega, by omega, by omega, ⟨_, sizeGo_may hm⟩, rfl⟩
  rintro k _ ⟨n, p, j, hk, rfl, h0, h1, h2, ⟨m, h3⟩, h5⟩
  by_cases hj : j < s.length
  · rw [hb n j hj]
    have hja : j < at_.length := by omega
    rw [drop_at hj, drop_at hja, idxGo_cons] at h5
    rw [drop_at hj, sizeGo_cons] at h3
    have hx := hp s[j] (List.getElem_mem hj)
    by_cases c1 : at_[j] < 0
    · left
      rw [if_pos c1] at h5 ⊢
      unfold idxEnd
      rw [← h5]
    · rw [if_neg c1] at h5 ⊢
      by_cases c2 : s[j] ≤ at_[j]
      · left
        rw [if_pos c2] at h5 ⊢
        unfold idxEnd
        rw [← h5]
      · right
        rw [if_neg c2] at h5 ⊢
        split at h3
        · simp at h3
        · rename_i hc
          have hf := sizeGo_fits (by omega : 1 ≤ p) h2 hx hc
          have hle : (n + 1) * s[j] ≤ p * s[j] := Int.mul_le_mul_of_nonneg_right (by omega) (by omega)
          rw [Int.add_mul, Int.one_mul] at hle
          have hn0 : 0 ≤ n * s[j] := Int.mul_nonneg h0 (by omega)
          refine ⟨_, k - 1, rfl, by omega, n * s[j] + at_[j], p * s[j], j + 1, by omega, ?_, by omega, by omega, hf.2, ⟨m, h3⟩, h5⟩
          rw [w64_id (x := n * s[j]) (by omega) (by omega), w64_id (by omega) (by omega), w64_id (by omega) (by omega)]
          rfl
  · left
    have hz : j = s.length := by omega
    subst hz
    rw [he n]
    unfold idxEnd
    rw [← h5, List.drop_length, show at_.drop s.length = [] by rw [← hl, List.drop_length]]
    rfl

theorem shape_Index_eq (s at_ : List Int) : shape_Index.f s at_ = some (index s at_) := by
  unfold shape_Index.f index
  rw [shape_May_eq, obind]
  by_cases h : may s = true
  · rw [if_pos h]
    by_cases hl : at_.length = s.length
    · have h4 := may_len h
      rw [if_pos (by omega), if_pos ⟨h, hl⟩, idx_loop s at_ h hl, obind]
      · unfold idxEnd
        cases idxGo s at_ 0 <;> rfl
      · intro n j hj
        unfold shape_Index.l0
        have hja : j < at_.length := by omega
        simp only
        rw [if_pos (by omega), if_pos (by omega), rd_nat at_ j hja]
        by_cases c : at_[j] < 0
        · rw [if_pos c, if_pos c]
        · rw [if_neg c, if_neg c, if_pos (by omega), rd_nat s j hj]
      · intro n
        unfold shape_Index.l0
        simp only
        rw [if_neg (by omega)]
    · rw [if_neg (by omega), if_neg (fun c => hl c.2)]
  · rw [if_neg h, if_neg (fun c => h c.1)]

/-! ### a number's place -/
def placeAt (s : List Int) (i : Int) (q : Nat) : Int := (i / prodL (s.drop (q + 1))) % (s.getD q 1)
def place (s : List Int) (i : Int) : List Int := if may s = true ∧ 0 ≤ i ∧ i < prodL s then fillN s.length 0 (placeAt s i) else []

def placeL (x0 : (List Int)) (s50 : (Int × Int × (List Int))) : Step (Int × Int × (List Int)) (Int × Int × (List Int)) :=
  if 0 ≤ s50.2.1 then (if 0 ≤ s50.2.1 ∧ s50.2.1 < (x0.length : Int) then (if (rd x0 s50.2.1) ≠ 0 then (if 0 ≤ s50.2.1 ∧ s50.2.1 < (s50.2.2.length : Int) then (.next ((w64 (Int.tdiv s50.1 (rd x0 s50.2.1))), (w64 (s50.2.1 - 1)), (put s50.2.2 s50.2.1 (Int.tmod s50.1 (rd x0 s50.2.1)))))
  else .bad)
  else .bad)
  else .bad)
  else (.done (s50.1, s50.2.1, s50.2.2))

theorem shape_Place_loop (s : List Int) (i : Int) (hm : may s = true) (h0 : 0 ≤ i) (h1 : i < prodL s) :
    loop (placeL s) (i, w64 ((s.length : Int) - 1), List.replicate s.length 0) = some (i / prodL s, -1, fillN s.length 0 (placeAt s i)) := by
  have h4 := may_len hm
  have hp := may_pos hm
  have hle := may_le hm
  rw [w64_id (by omega) (by omega)]
  refine loop_to _ (fun k st => k ≤ s.length ∧ st = (i / prodL (s.drop k), (k : Int) - 1, fillN s.length k (placeAt s i))) ?_ s.length _ ⟨Nat.le_refl _, by rw [fillN_top, List.drop_length]; simp [prodL]⟩
  rintro k _ ⟨hk, rfl⟩
  unfold placeL
  simp only [fillN_length]
  cases k with
  | zero => left; rw [if_neg (by omega)]; simp
  | succ q =>
    right
    have hq : q < s.length := by omega
    have hx := hp s[q] (List.getElem_mem hq)
    have h2 := prodL_pos (drop_pos hp (q + 1))
    have hn : 0 ≤ i / prodL (s.drop (q + 1)) := Int.ediv_nonneg h0 (by omega)
    have hn2 : i / prodL (s.drop (q + 1)) ≤ i := Int.ediv_le_self _ h0
    have hrd : rd s (((q + 1 : Nat) : Int) - 1) = s[q] := rd_at s _ q (by omega) hq
    rw [if_pos (by omega), if_pos (by omega), hrd, if_pos (by omega), if_pos (by omega), put_at _ _ q _ (by omega)]
    refine ⟨_, q, rfl, by omega, by omega, ?_⟩
    rw [Int.tmod_eq_emod_of_nonneg hn, tdiv_of hn (by omega)]
    have hpl : (i / prodL (s.drop (q + 1))) % s[q] = placeAt s i q := by
      unfold placeAt
      rw [List.getD, List.getElem?_eq_getElem hq]; rfl
    have hd : i / prodL (s.drop (q + 1)) / s[q] = i / prodL (s.drop q) := by
      rw [Int.ediv_ediv_of_nonneg (by omega), drop_at hq, prodL_cons, Int.mul_comm]
    have hb : 0 ≤ i / prodL (s.drop q) ∧ i / prodL (s.drop q) ≤ i := by
      have := prodL_pos (drop_pos hp q)
      exact ⟨Int.ediv_nonneg h0 (by omega), Int.ediv_le_self _ h0⟩
    rw [hpl, fillN_set s.length q hq, hd, w64_id (by omega) (by omega), w64_id (by omega) (by omega)]
    congr 1
    congr 1
    omega

theorem shape_Place_eq (s : List Int) (i : Int) : shape_Place.f s i = some (place s i) := by
  unfold shape_Place.f place
  rw [shape_Size_eq, obind]
  by_cases h : may s = true
  · have h4 := may_len h
    have hs := size_may h
    rw [hs]
    simp only
    rw [if_pos trivial]
    by_cases c1 : i < 0
    · rw [if_pos c1, if_neg (by omega)]
    · rw [if_neg c1]
      by_cases c2 : prodL s ≤ i
      · rw [if_pos c2, if_neg (by omega)]
      · rw [if_neg c2, if_pos (by omega), if_pos ⟨h, by omega, by omega⟩, Int.toNat_natCast, show shape_Place.l0 = placeL from rfl, shape_Place_loop s i h (by omega) (by omega)]; rfl
  · have hn : ¬ (size s).2 = 0 := by unfold may at h; simpa using h
    rw [if_neg hn, if_neg (fun c => h c.1)]

theorem place_len (s : List Int) (i : Int) : (place s i).length ≤ 4 := by
  unfold place
  split
  · rename_i h; have := may_len h.1; simpa using this
  · simp

theorem strides_len (s : List Int) : (strides s).length ≤ 4 := by
  unfold strides
  split
  · rename_i h; have := may_len h; simpa using this
  · simp

end Go.Proofs.Yteaoijahdinciaa
