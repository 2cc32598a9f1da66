/- Plain laws, part 4: rows of numbers, tensors. -/
import Derived.Test.YtkcgiolledmbnabP3
import Derived.Test.YtkcgiolledmbnabX0
import Derived.Test.YtkcgiolledmbnabF0
import Derived.Test.YtkcgiolledmbnabF1
import Derived.Test.YtkcgiolledmbnabF2
import Derived.Test.YtkcgiolledmbnabF5
import Derived.Test.YtkcgiolledmbnabF6
namespace Go.Proofs.Ytkcgiolledmbnab
open Go Go.RowKit
set_option linter.unusedSimpArgs false
set_option linter.unusedVariables false

theorem u64_id {x : Int} (h1 : 0 ≤ x) (h2 : x ≤ 18446744073709551615) : IntKind.wrap .u64 x = x := IntWalk.u64_in x ⟨h1, h2⟩

theorem fdiv_small {x : Int} (h1 : 0 ≤ x) (h2 : x < 2 ^ 32) : Int.fdiv x (2 ^ 32) = 0 := by
  rw [Int.fdiv_eq_ediv_of_nonneg _ (by decide)]
  exact Int.ediv_eq_zero_of_lt h1 h2

theorem and_small {x : Int} (h1 : 0 ≤ x) (h2 : x < 2 ^ 32) : bits .and .u64 x 4294967295 = x := by
  obtain ⟨n, rfl⟩ := Int.eq_ofNat_of_zero_le h1
  have hn : n < 2 ^ 32 := by omega
  have e : (BitVec.ofInt 64 (n : Int) &&& BitVec.ofInt 64 4294967295).toNat = n := by
    rw [BitVec.toNat_and, show (BitVec.ofInt 64 4294967295).toNat = 2 ^ 32 - 1 by decide +kernel, Nat.and_two_pow_sub_one_eq_mod]
    rw [show BitVec.ofInt 64 (n : Int) = BitVec.ofNat 64 n from rfl, BitVec.toNat_ofNat, Nat.mod_eq_of_lt (by omega : n < 2 ^ 64), Nat.mod_eq_of_lt hn]
  show IntKind.wrap .u64 (((BitVec.ofInt 64 (n : Int) &&& BitVec.ofInt 64 4294967295).toNat : Nat) : Int) = n
  rw [e]
  exact u64_id (by omega) (by omega)

theorem bits_Mul64_eq {a b : Int} (ha : 0 ≤ a) (hb : 0 ≤ b) (ha2 : a < 2 ^ 32) (hb2 : b < 2 ^ 32) (hab : a * b < 2 ^ 32) : bits_Mul64.f a b = some (0, a * b) := by
  have h0 := Int.mul_nonneg ha hb
  have k1 : IntKind.wrap .u64 0 = 0 := u64_id (by omega) (by omega)
  have k2 : Int.fdiv 0 (2 ^ 32) = 0 := fdiv_small (by omega) (by omega)
  have k3 : bits .and .u64 0 4294967295 = 0 := and_small (by omega) (by omega)
  have k4 : IntKind.wrap .u64 (a * b) = a * b := u64_id h0 (by omega)
  have k5 : Int.fdiv (a * b) (2 ^ 32) = 0 := fdiv_small h0 hab
  unfold bits_Mul64.f
  simp only [fdiv_small ha ha2, fdiv_small hb hb2, and_small ha ha2, and_small hb hb2, Int.zero_mul, Int.mul_zero, Int.zero_add, Int.add_zero, k1, k2, k3, k4, k5]

theorem bits_Mul_eq {a b : Int} (ha : 0 ≤ a) (hb : 0 ≤ b) (ha2 : a < 2 ^ 32) (hb2 : b < 2 ^ 32) (hab : a * b < 2 ^ 32) : bits_Mul.f a b = some (0, a * b) := by
  unfold bits_Mul.f
  rw [bits_Mul64_eq ha hb ha2 hb2 hab, obind]

theorem slices_Clone_int_eq (x : List Int) (h : x.length ≤ 549755813888) : slices_Clone_int.f x = some x := by
  unfold slices_Clone_int.f
  rw [if_pos (by omega), List.nil_append]

theorem take_replicate_of {α : Type} {ys : List α} {x : α} {j m : Nat} (h : ys.take j = List.replicate j x) (hm : m ≤ j) : ys.take m = List.replicate m x := by
  have : ys.take m = (ys.take j).take m := by rw [List.take_take, Nat.min_eq_left hm]
  rw [this, h, List.take_replicate, Nat.min_eq_left hm]

theorem slices_Repeat_eq (x : Nat) (n : Int) (h1 : 1 ≤ n) (h2 : n ≤ 4096) : slices_Repeat_float64.f [x] n = some (List.replicate n.toNat x) := by
  obtain ⟨m, rfl⟩ := Int.eq_ofNat_of_zero_le (by omega : 0 ≤ n)
  unfold slices_Repeat_float64.f
  rw [if_neg (by omega), u64_id (by simp) (by simp), u64_id (by omega) (by omega), bits_Mul_eq (by simp) (by omega) (by simp) (by omega) (by simp; omega), obind]
  simp only [List.length_singleton]
  have e1 : ((1 : Nat) : Int) * (m : Int) = m := by omega
  rw [if_neg (by omega), e1, if_neg (by omega), w64_id (by omega) (by omega), if_pos (by omega), Int.toNat_natCast, List.length_replicate]
  have e2 : List.take m [x] = [x] := List.take_of_length_le (by simp; omega)
  rw [e2]
  have key : loop slices_Repeat_float64.l0 ((([x] : List Nat).length : Int), cpy (List.replicate m 0) 0 [x]) = some ((m : Int), List.replicate m x) := by
    refine loop_to _ (fun k st => ∃ (j : Nat) (ys : List Nat), k + j = m ∧ st = ((j : Int), ys) ∧ 1 ≤ j ∧ ys.length = m ∧ ys.take j = List.replicate j x) ?_ (m - 1) _ ⟨1, _, by omega, rfl, by omega, ?_, ?_⟩
    · rintro k _ ⟨j, ys, hk, rfl, hj1, hl, ht⟩
      unfold slices_Repeat_float64.l0
      simp only [hl]
      by_cases hj : j < m
      · right
        rw [if_pos (by omega), if_pos (by omega)]
        have e3 : ((j : Int)).toNat = j := Int.toNat_natCast j
        rw [e3]
        generalize hM : min (j - 0) (m - j) = M
        have hM1 : 1 ≤ M := by omega
        have hM2 : M ≤ j := by omega
        have hM3 : j + M ≤ m := by omega
        have e4 : List.take M ys = List.replicate M x := take_replicate_of ht hM2
        refine ⟨_, k - M, rfl, by omega, j + M, cpy ys j (List.take M ys), by omega, ?_, by omega, ?_, ?_⟩
        · rw [e4, List.length_replicate, w64_id (by omega) (by omega)]
          rfl
        · rw [cpy_length (by rw [List.length_take]; omega)]; exact hl
        · unfold cpy
          rw [e4, ht, List.length_replicate, List.replicate_append_replicate, List.take_append_of_le_length (by simp), List.take_replicate, Nat.min_self]
      · left
        have hz : j = m := by omega
        subst hz
        rw [if_neg (by omega)]
        rw [List.take_of_length_le (by omega)] at ht
        rw [ht]
    · rw [cpy_length (by simp; omega)]; simp
    · unfold cpy
      simp
  rw [key, obind]

theorem size_fits {s : List Int} (h : (size s).2 = 0) : 1 ≤ (size s).1 ∧ (size s).1 ≤ 4096 ∧ s.length ≤ 4 ∧ (size s).1 = prodL s := by
  have hm : may s = true := by unfold may; simp [h]
  have e := size_may hm
  have h1 := prodL_pos (may_pos hm)
  have h2 := may_le hm
  have h3 := may_len hm
  rw [e]
  exact ⟨h1, h2, h3, rfl⟩

def newT (s : List Int) (x : Nat) : Tensor × Int := if (size s).2 = 0 then (⟨s, List.replicate (size s).1.toNat x⟩, 0) else (⟨[], []⟩, (size s).2)

theorem tensor_New_eq (s : List Int) (x : Nat) : tensor_New.f s x = some (newT s x) := by
  unfold tensor_New.f newT
  rw [shape_Size_eq, obind]
  by_cases h : (size s).2 = 0
  · obtain ⟨h1, h2, h3, _⟩ := size_fits h
    rw [if_pos h, if_pos h, slices_Clone_int_eq s (by omega), obind, slices_Repeat_eq x _ h1 h2, obind]
  · rw [if_neg h, if_neg h]

/-- a row that is filled from its head on -/
def upN (L q : Nat) (f : Nat → Nat) (z : Nat → Nat) : List Nat := (List.range L).map (fun t => if t < q then f t else z t)
@[simp] theorem upN_length (L q : Nat) (f z : Nat → Nat) : (upN L q f z).length = L := by simp [upN]
theorem upN_get (L q : Nat) (f z : Nat → Nat) (t : Nat) (h : t < (upN L q f z).length) : (upN L q f z)[t] = if t < q then f t else z t := by simp [upN]
theorem upN_set (L q : Nat) (f z : Nat → Nat) (hq : q < L) : (upN L q f z).set q (f q) = upN L (q + 1) f z := by
  apply List.ext_getElem
  · simp
  · intro i h1 h2
    rw [List.getElem_set, upN_get, upN_get]
    split
    · rename_i h; subst h; rw [if_pos (by omega)]
    · rename_i h
      by_cases hi : i < q
      · rw [if_pos hi, if_pos (by omega)]
      · rw [if_neg hi, if_neg (by omega)]
theorem upN_zero (xs : List Nat) (f : Nat → Nat) : xs = upN xs.length 0 f (fun t => xs.getD t 0) := by
  apply List.ext_getElem
  · simp
  · intro i h1 h2
    rw [upN_get, if_neg (by omega), List.getD, List.getElem?_eq_getElem h1]; rfl
theorem upN_full (L : Nat) (f z : Nat → Nat) : upN L L f z = (List.range L).map f := by
  apply List.ext_getElem
  · simp
  · intro i h1 h2
    rw [upN_get]
    simp only [upN_length] at h1
    rw [if_pos h1]; simp

/-! ### sums -/
def rowSum (xs : List Nat) : Nat := xs.foldl fadd 0

theorem rowSum_take (xs : List Nat) (j : Nat) (h : j < xs.length) : fadd (rowSum (xs.take j)) xs[j] = rowSum (xs.take (j + 1)) := by
  unfold rowSum
  rw [List.take_succ_eq_append_getElem h, List.foldl_append]; rfl

theorem real_Plus_eq (x y : Nat) : real_Real_Plus.f x y = some (fadd x y) := rfl

/-! ### by halves -/
def treeF : Nat → List Nat → Nat
  | 0, xs => xs.getD 0 0
  | k + 1, xs => if xs.length ≤ 1 then xs.getD 0 0 else fadd (treeF k (xs.take ((xs.length + 1) / 2))) (treeF k (xs.drop ((xs.length + 1) / 2)))
def tree (xs : List Nat) : Nat := treeF xs.length xs

theorem treeF_ok : ∀ (k k' : Nat) (xs : List Nat), xs.length ≤ k + 1 → xs.length ≤ k' + 1 → treeF k xs = treeF k' xs
  | 0, 0, xs, _, _ => rfl
  | 0, k' + 1, xs, h, _ => by unfold treeF; rw [if_pos (by omega)]
  | k + 1, 0, xs, _, h => by unfold treeF; rw [if_pos (by omega)]
  | k + 1, k' + 1, xs, h, h' => by
    unfold treeF
    by_cases h1 : xs.length ≤ 1
    · rw [if_pos h1, if_pos h1]
    · rw [if_neg h1, if_neg h1, treeF_ok k k' _ (by rw [List.length_take]; omega) (by rw [List.length_take]; omega), treeF_ok k k' _ (by rw [List.length_drop]; omega) (by rw [List.length_drop]; omega)]

theorem tree_small {xs : List Nat} (h : xs.length ≤ 1) : tree xs = xs.getD 0 0 := by
  unfold tree
  cases hl : xs.length with
  | zero => rfl
  | succ n => unfold treeF; rw [if_pos h]

theorem tree_halves {xs : List Nat} (h : 2 ≤ xs.length) : tree xs = fadd (tree (xs.take ((xs.length + 1) / 2))) (tree (xs.drop ((xs.length + 1) / 2))) := by
  unfold tree
  obtain ⟨n, hn⟩ : ∃ n, xs.length = n + 1 := ⟨xs.length - 1, by omega⟩
  conv => lhs; rw [hn]; unfold treeF; rw [if_neg (by omega)]
  rw [treeF_ok n (xs.take ((xs.length + 1) / 2)).length _ (by rw [List.length_take]; omega) (by omega), treeF_ok n (xs.drop ((xs.length + 1) / 2)).length _ (by rw [List.length_drop]; omega) (by omega)]

theorem half_of (xs : List Nat) (hl : xs.length ≤ 9223372036854775806) : w64 (Int.tdiv (w64 ((xs.length : Int) + 1)) 2) = (((xs.length + 1) / 2 : Nat) : Int) := by
  rw [w64_id (x := (xs.length : Int) + 1) (by omega) (by omega), tdiv_of (by omega) (by omega), w64_id (by omega) (by omega)]
  omega

theorem real_halves_F : ∀ (k : Nat) (xs : List Nat) (r : Nat), xs.length ≤ 9223372036854775806 → 1 ≤ xs.length → real_halves_real_Real_Plus.F k xs = some r → r = tree xs
  | 0, xs, r, _, _, h => by simp [real_halves_real_Real_Plus.F] at h
  | k + 1, xs, r, hl, h0, h => by
    rw [real_halves_real_Real_Plus.F, half_of xs hl] at h
    by_cases h1 : xs.length = 1
    · rw [if_pos (by omega), if_pos (by omega)] at h
      simp only [Option.some.injEq] at h
      rw [← h, tree_small (by omega)]; rfl
    · rw [if_neg (by omega), if_pos (by omega), Int.toNat_natCast, List.drop_zero, List.take_length] at h
      rw [Option.bind_eq_some_iff] at h
      obtain ⟨a, ha, h⟩ := h
      rw [Option.bind_eq_some_iff] at h
      obtain ⟨b, hb, h⟩ := h
      rw [real_Plus_eq, obind] at h
      simp only [Option.some.injEq] at h
      rw [← h, tree_halves (by omega), ← real_halves_F k _ a (by rw [List.length_take]; omega) (by rw [List.length_take]; omega) ha, ← real_halves_F k _ b (by rw [List.length_drop]; omega) (by rw [List.length_drop]; omega) hb]

theorem real_halves_ex : ∀ (k : Nat) (xs : List Nat), xs.length ≤ 9223372036854775806 → 1 ≤ xs.length → xs.length ≤ k → ∃ r, real_halves_real_Real_Plus.F (k + 1) xs = some r
  | k, xs, hl, h0, hk => by
    rw [real_halves_real_Real_Plus.F, half_of xs hl]
    by_cases h1 : xs.length = 1
    · rw [if_pos (by omega), if_pos (by omega)]; exact ⟨_, rfl⟩
    · rw [if_neg (by omega), if_pos (by omega), Int.toNat_natCast, List.drop_zero, List.take_length]
      obtain ⟨k', rfl⟩ : ∃ k', k = k' + 1 := ⟨k - 1, by omega⟩
      obtain ⟨a, ha⟩ := real_halves_ex k' (xs.take ((xs.length + 1) / 2)) (by rw [List.length_take]; omega) (by rw [List.length_take]; omega) (by rw [List.length_take]; omega)
      obtain ⟨b, hb⟩ := real_halves_ex k' (xs.drop ((xs.length + 1) / 2)) (by rw [List.length_drop]; omega) (by rw [List.length_drop]; omega) (by rw [List.length_drop]; omega)
      rw [ha, obind, hb, obind, real_Plus_eq, obind]
      exact ⟨_, rfl⟩
  termination_by k => k

theorem real_halves_eq (xs : List Nat) (hl : xs.length ≤ 9223372036854775806) (h0 : 1 ≤ xs.length) : real_halves_real_Real_Plus.f xs = some (tree xs) := by
  obtain ⟨r, hr⟩ := real_halves_ex xs.length xs hl h0 (Nat.le_refl _)
  have := real_halves_F _ _ _ hl h0 hr
  subst this
  exact recOf_eq _ hr (fun k r' h => real_halves_F k xs r' hl h0 h)

theorem real_Fold_eq (xs : List Nat) (hl : xs.length ≤ 9223372036854775806) : real_Fold.f xs = some (tree xs) := by
  unfold real_Fold.f
  by_cases h0 : xs.length = 0
  · rw [if_pos (by omega)]
    have : xs = [] := List.length_eq_zero_iff.1 h0
    subst this; rfl
  · rw [if_neg (by omega), real_halves_eq xs hl (by omega)]; rfl

/-! ### the same, bit for bit -/
def bitsOf (x : Nat) : Int := if fne x x = true then 9221120237041090561 else (x : Int)
def sameT (a b : Tensor) : Bool := decide (a.Shape = b.Shape ∧ a.Data.map bitsOf = b.Data.map bitsOf)

theorem sameT_refl (a : Tensor) : sameT a a = true := by simp [sameT]

def tmay (t : Tensor) : Bool := decide ((size t.Shape).2 = 0 ∧ (size t.Shape).1 = (t.Data.length : Int))

theorem ref1_TensorMay_eq (t : Tensor) : ref1_TensorMay.f t = some (tmay t) := by
  unfold ref1_TensorMay.f tmay
  rw [ref1_Size_eq, obind]
  by_cases h : (size t.Shape).2 = 0
  · rw [if_pos h]
    by_cases h2 : (size t.Shape).1 = (t.Data.length : Int)
    · rw [if_pos h2, decide_eq_true ⟨h, h2⟩]
    · rw [if_neg h2, decide_eq_false (fun c => h2 c.2)]
  · rw [if_neg h, decide_eq_false (fun c => h c.1)]

theorem tensor_May_eq (t : Tensor) : tensor_May.f t = some (tmay t) := by
  unfold tensor_May.f tmay
  rw [shape_Size_eq, obind]
  by_cases h : (size t.Shape).2 = 0
  · rw [if_pos h]
    by_cases h2 : (size t.Shape).1 = (t.Data.length : Int)
    · rw [if_pos h2.symm, decide_eq_true ⟨h, h2⟩]
    · rw [if_neg (fun c => h2 c.symm), decide_eq_false (fun c => h2 c.2)]
  · rw [if_neg h, decide_eq_false (fun c => h c.1)]

theorem tmay_fits {t : Tensor} (h : tmay t = true) : may t.Shape = true ∧ t.Shape.length ≤ 4 ∧ (t.Data.length : Int) = prodL t.Shape ∧ t.Data.length ≤ 4096 ∧ 1 ≤ t.Data.length := by
  have h := of_decide_eq_true h
  obtain ⟨h1, h2, h3, h4⟩ := size_fits h.1
  refine ⟨by unfold may; simp [h.1], h3, by omega, by omega, by omega⟩

end Go.Proofs.Ytkcgiolledmbnab
