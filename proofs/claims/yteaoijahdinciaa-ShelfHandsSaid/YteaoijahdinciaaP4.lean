/- Plain laws, part 4: rows of numbers, tensors. -/
import Derived.Test.YteaoijahdinciaaP3
import Derived.Test.YteaoijahdinciaaX0
import Derived.Test.YteaoijahdinciaaF0
import Derived.Test.YteaoijahdinciaaF1
import Derived.Test.YteaoijahdinciaaF2
import Derived.Test.YteaoijahdinciaaF9
import Derived.Test.YteaoijahdinciaaF10
import Derived.Test.YteaoijahdinciaaF13
import Derived.Test.YteaoijahdinciaaF14
namespace Go.Proofs.Yteaoijahdinciaa
open Go Go.RowKit
set_option linter.unusedSimpArgs false
set_option linter.unusedVariables false

theorem u64_id {x : Int} (h1 : 0 ≤ x) (h2 : x ≤ 18446744073709551615) : IntKind.wrap .u64 x = x := IntWalk.u64_in x ⟨h1, h2⟩

theorem fdiv_small {x : Int} (h1 : 0 ≤ x) (h2 : x < 2 ^ 32) : Int.fdiv x (2 ^ 32) = 0 := by
  rw [Int.fdiv_eq_ediv_of_nonneg _ (by decide)]
  exact Int.ediv_eq_zero_of_lt h1 h2

theorem and_small {x : Int} (h1 : 0 ≤ x) (h2 : x < 2 ^ 32) : bits .and .u64 x 4294967295 = x := by
  obtain ⟨n, rfl⟩ := Int.eq_ofNat_of_zero_le h1
  have hn : n < 2 ^ 32 := by omega
  have e : (BitVec.ofInt 64 (n : Int) &&& BitVec.ofInt 64 4294967295).toNat = n := by
    rw [BitVec.toNat_and, show (BitVec.ofInt 64 4294967295).toNat = 2 ^ 32 - 1 by decide +kernel, Nat.and_two_pow_sub_one_eq_mod]
    rw [show BitVec.ofInt 64 (n : Int) = BitVec.ofNat 64 n from rfl, BitVec.toNat_ofNat, Nat.mod_eq_of_lt (by omega : n < 2 ^ 64), Nat.mod_eq_of_lt hn]
  show IntKind.wrap .u64 (((BitVec.ofInt 64 (n : Int) &&& BitVec.ofInt 64 4294967295).toNat : Nat) : Int) = n
  rw [e]
  exact u64_id (by omega) (by omega)

theorem bits_Mul64_eq {a b : Int} (ha : 0 ≤ a) (hb : 0 ≤ b) (ha2 : a < 2 ^ 32) (hb2 : b < 2 ^ 32) (hab : a * b < 2 ^ 32) : bits_Mul64.f a b = some (0, a * b) := by
  have h0 := Int.mul_nonneg ha hb
  have k1 : IntKind.wrap .u64 0 = 0 := u64_id (by omega) (by omega)
  have k2 : Int.fdiv 0 (2 ^ 32) = 0 := fdiv_small (by omega) (by omega)
  have k3 : bits .and .u64 0 4294967295 = 0 := and_small (by omega) (by omega)
  have k4 : IntKind.wrap .u64 (a * b) = a * b := u64_id h0 (by omega)
  have k5 : Int.fdiv (a * b) (2 ^ 32) = 0 := fdiv_small h0 hab
  unfold bits_Mul64.f
  simp only [fdiv_small ha ha2, fdiv_small hb hb2, and_small ha ha2, and_small hb hb2, Int.zero_mul, Int.mul_zero, Int.zero_add, Int.add_zero, k1, k2, k3, k4, k5]

theorem bits_Mul_eq {a b : Int} (ha : 0 ≤ a) (hb : 0 ≤ b) (ha2 : a < 2 ^ 32) (hb2 : b < 2 ^ 32) (hab : a * b < 2 ^ 32) : bits_Mul.f a b = some (0, a * b) := by
  unfold bits_Mul.f
  rw [bits_Mul64_eq ha hb ha2 hb2 hab, obind]

theorem slices_Clone_int_eq (x : List Int) (h : x.length ≤ 549755813888) : slices_Clone_int.f x = some x := by
  unfold slices_Clone_int.f
  rw [if_pos (by omega), List.nil_append]

theorem take_replicate_of {α : Type} {ys : List α} {x : α} {j m : Nat} (h : ys.take j = List.replicate j x) (hm : m ≤ j) : ys.take m = List.replicate m x := by
  have : ys.take m = (ys.take j).take m := by rw [List.take_take, Nat.min_eq_left hm]
  rw [this, h, List.take_replicate, Nat.min_eq_left hm]

theorem slices_Repeat_eq (x : Nat) (n : Int) (h1 : 1 ≤ n) (h2 : n ≤ 4096) : slices_Repeat_float64.f [x] n = some (List.replicate n.toNat x) := by
  obtain ⟨m, rfl⟩ := Int.eq_ofNat_of_zero_le (by omega : 0 ≤ n)
  unfold slices_Repeat_float64.f
  rw [if_neg (by omega), u64_id (by simp) (by simp), u64_id (by omega) (by omega), bits_Mul_eq (by simp) (by omega) (by simp) (by omega) (by simp; omega), obind]
  simp only [List.length_singleton]
  have e1 : ((1 : Nat) : Int) * (m : Int) = m := by omega
  rw [if_neg (by omega), e1, if_neg (by omega), w64_id (by omega) (by omega), if_pos (by omega), Int.toNat_natCast, List.length_replicate]
  have e2 : List.take m [x] = [x] := List.take_of_length_le (by simp; omega)
  rw [e2]
  have key : loop slices_Repeat_float64.l0 ((([x] : List Nat).length : Int), cpy (List.replicate m 0) 0 [x]) = some ((m : Int), List.replicate m x) := by
    refine loop_to _ (fun k st => ∃ (j : Nat) (ys : List Nat), k + j = m ∧ st = ((j : Int), ys) ∧ 1 ≤ j ∧ ys.length = m ∧ ys.take j = List.replicate j x) ?_ (m - 1) _ ⟨1, _, by omega, rfl, by omega, ?_, ?_⟩
    · rintro k _ ⟨j, ys, hk, rfl, hj1, hl, ht⟩
      unfold slices_Repeat_float64.l0
      simp only [hl]
      by_cases hj : j < m
      · right
        rw [if_pos (by omega), if_pos (by omega)]
        have e3 : ((j : Int)).toNat = j := Int.toNat_natCast j
        rw [e3]
        generalize hM : min (j - 0) (m - j) = M
        have hM1 : 1 ≤ M := by omega
        have hM2 : M ≤ j := by omega
        have hM3 : j + M ≤ m := by omega
        have e4 : List.take M ys = List.replicate M x := take_replicate_of ht hM2
        refine ⟨_, k - M, rfl, by omega, j + M, cpy ys j (List.take M ys), by omega, ?_, by omega, ?_, ?_⟩
        · rw [e4, List.length_replicate, w64_id (by omega) (by omega)]
          rfl
        · rw [cpy_length (by rw [List.length_take]; omega)]; exact hl
        · unfold cpy
          rw [e4, ht, List.length_replicate, List.replicate_append_replicate, List.take_append_of_le_length (by simp), List.take_replicate, Nat.min_self]
      · left
        have hz : j = m := by omega
        subst hz
        rw [if_neg (by omega)]
        rw [List.take_of_length_le (by omega)] at ht
        rw [ht]
    · rw [cpy_length (by simp; omega)]; simp
    · unfold cpy
      simp
  rw [key, obind]

theorem size_fits {s : List Int} (h : (size s).2 = 0) : 1 ≤ (size s).1 ∧ (size s).1 ≤ 4096 ∧ s.length ≤ 4 ∧ (size s).1 = prodL s := by
  have hm : may s = true := by unfold may; simp [h]
  have e := size_may hm
  have h1 := prodL_pos (may_pos hm)
  have h2 := may_le hm
  have h3 := may_len hm
  rw [e]
  exact ⟨h1, h2, h3, rfl⟩

def newT (s : List Int) (x : Nat) : Tensor × Int := if (size s).2 = 0 then (⟨s, List.replicate (size s).1.toNat x⟩, 0) else (⟨[], []⟩, (size s).2)

theorem tensor_New_eq (s : List Int) (x : Nat) : tensor_New.f s x = some (newT s x) := by
  unfold tensor_New.f newT
  rw [shape_Size_eq, obind]
  by_cases h : (size s).2 = 0
  · obtain ⟨h1, h2, h3, _⟩ := size_fits h
    rw [if_pos h, if_pos h, slices_Clone_int_eq s (by omega), obind, slices_Repeat_eq x _ h1 h2, obind]
  · rw [if_neg h, if_neg h]

/-- a row that is filled from its head on -/
def upN (L q : Nat) (f : Nat → Nat) (z : Nat → Nat) : List Nat := (List.range L).map (fun t => if t < q then f t else z t)
@[simp] theorem upN_length (L q : Nat) (f z : Nat → Nat) : (upN L q f z).length = L := by simp [upN]
theorem upN_get (L q : Nat) (f z : Nat → Nat) (t : Nat) (h : t < (upN L q f z).length) : (upN L q f z)[t] = if t < q then f t else z t := by simp [upN]
theorem upN_set (L q : Nat) (f z : Nat → Nat) (hq : q < L) : (upN L q f z).set q (f q) = upN L (q + 1) f z := by
  apply List.ext_getElem
  · simp
  · intro i h1 h2
    rw [List.getElem_set, upN_get, upN_get]
    split
    · rename_i h; subst h; rw [if_pos (by omega)]
    · rename_i h
      by_cases hi : i < q
      · rw [if_pos hi, if_pos (by omega)]
      · rw [if_neg hi, if_neg (by omega)]
theorem upN_zero (xs : List Nat) (f : Nat → Nat) : xs = upN xs.length 0 f (fun t => xs.getD t 0) := by
  apply List.ext_getElem
  · simp
  · intro i h1 h2
    rw [upN_get, if_neg (by omega), List.getD, List.getElem?_eq_getElem h1]; rfl
theorem upN_full (L : Nat) (f z : Nat → Nat) : upN L L f z = (List.range L).map f := by
  apply List.ext_getElem
  · simp
  · intro i h1 h2
    rw [upN_get]
    simp only [upN_length] at h1
    rw [if_pos h1]; simp

theorem ref1_New_eq (s : List Int) (x : Nat) : ref1_New.f s x = some (newT s x) := by
  unfold ref1_New.f newT
  rw [ref1_Size_eq, obind]
  by_cases h : (size s).2 = 0
  · obtain ⟨h1, h2, h3, _⟩ := size_fits h
    rw [if_pos h, if_pos h, if_pos (by omega), if_pos (by omega)]
    obtain ⟨m, hm⟩ := Int.eq_ofNat_of_zero_le (by omega : 0 ≤ (size s).1)
    have key : loop (ref1_New.l0 (size s) x) (0, List.replicate (size s).1.toNat 0) = some ((m : Int), List.replicate m x) := by
      rw [hm, Int.toNat_natCast]
      refine loop_to _ (fun k st => ∃ j : Nat, k + j = m ∧ st = ((j : Int), upN m j (fun _ => x) (fun _ => 0))) ?_ m _ ⟨0, rfl, ?_⟩
      · rintro k _ ⟨j, hk, rfl⟩
        unfold ref1_New.l0
        simp only [hm, upN_length]
        by_cases hj : j < m
        · right
          rw [if_pos (by omega), if_pos (by omega), put_at _ _ j _ rfl]
          refine ⟨_, k - 1, rfl, by omega, j + 1, by omega, ?_⟩
          rw [upN_set m j (fun _ => x) _ hj, w64_id (by omega) (by omega)]; rfl
        · left
          have hz : j = m := by omega
          subst hz
          rw [if_neg (by omega), upN_full]
          congr 2
          apply List.ext_getElem <;> simp
      · congr 1
        apply List.ext_getElem
        · simp
        · intro i h1 h2
          rw [upN_get]; simp
    rw [key, obind, hm, Int.toNat_natCast, List.nil_append]
  · rw [if_neg h, if_neg h]

/-! ### sums -/
def rowSum (xs : List Nat) : Nat := xs.foldl fadd 0

theorem rowSum_take (xs : List Nat) (j : Nat) (h : j < xs.length) : fadd (rowSum (xs.take j)) xs[j] = rowSum (xs.take (j + 1)) := by
  unfold rowSum
  rw [List.take_succ_eq_append_getElem h, List.foldl_append]; rfl

/-! ### by halves -/
def treeF : Nat → List Nat → Nat
  | 0, xs => xs.getD 0 0
  | k + 1, xs => if xs.length ≤ 1 then xs.getD 0 0 else fadd (treeF k (xs.take ((xs.length + 1) / 2))) (treeF k (xs.drop ((xs.length + 1) / 2)))
def tree (xs : List Nat) : Nat := treeF xs.length xs

theorem treeF_ok : ∀ (k k' : Nat) (xs : List Nat), xs.length ≤ k + 1 → xs.length ≤ k' + 1 → treeF k xs = treeF k' xs
  | 0, 0, xs, _, _ => rfl
  | 0, k' + 1, xs, h, _ => by unfold treeF; rw [if_pos (by omega)]
  | k + 1, 0, xs, _, h => by unfold treeF; rw [if_pos (by omega)]
  | k + 1, k' + 1, xs, h, h' => by
    unfold treeF
    by_cases h1 : xs.length ≤ 1
    · rw [if_pos h1, if_pos h1]
    · rw [if_neg h1, if_neg h1, treeF_ok k k' _ (by rw [List.length_take]; omega) (by rw [List.length_take]; omega), treeF_ok k k' _ (by rw [List.length_drop]; omega) (by rw [List.length_drop]; omega)]

theorem tree_small {xs : List Nat} (h : xs.length ≤ 1) : tree xs = xs.getD 0 0 := by
  unfold tree
  cases hl : xs.length with
  | zero => rfl
  | succ n => unfold treeF; rw [if_pos h]

theorem tree_halves {xs : List Nat} (h : 2 ≤ xs.length) : tree xs = fadd (tree (xs.take ((xs.length + 1) / 2))) (tree (xs.drop ((xs.length + 1) / 2))) := by
  unfold tree
  obtain ⟨n, hn⟩ : ∃ n, xs.length = n + 1 := ⟨xs.length - 1, by omega⟩
  conv => lhs; rw [hn]; unfold treeF; rw [if_neg (by omega)]
  rw [treeF_ok n (xs.take ((xs.length + 1) / 2)).length _ (by rw [List.length_take]; omega) (by omega), treeF_ok n (xs.drop ((xs.length + 1) / 2)).length _ (by rw [List.length_drop]; omega) (by omega)]

theorem half_of (xs : List Nat) (hl : xs.length ≤ 9223372036854775806) : w64 (Int.tdiv (w64 ((xs.length : Int) + 1)) 2) = (((xs.length + 1) / 2 : Nat) : Int) := by
  rw [w64_id (x := (xs.length : Int) + 1) (by omega) (by omega), tdiv_of (by omega) (by omega), w64_id (by omega) (by omega)]
  omega

/-! ### the same, bit for bit -/
def bitsOf (x : Nat) : Int := if fne x x = true then 9221120237041090561 else (x : Int)
def sameT (a b : Tensor) : Bool := decide (a.Shape = b.Shape ∧ a.Data.map bitsOf = b.Data.map bitsOf)

theorem sameT_refl (a : Tensor) : sameT a a = true := by simp [sameT]

theorem ref1_Bits_eq (x : Nat) : ref1_Bits.f x = some (bitsOf x) := by
  unfold ref1_Bits.f bitsOf
  split <;> rfl

theorem ref1_Same_eq (x y : Nat) : ref1_Same.f x y = some (decide (bitsOf x = bitsOf y)) := by
  unfold ref1_Same.f
  rw [ref1_Bits_eq, obind, ref1_Bits_eq, obind]
  by_cases h : bitsOf x = bitsOf y <;> simp [h]

theorem ref1_SameTensor_eq (a b : Tensor) (h1 : a.Shape.length ≤ 9223372036854775806) (h2 : a.Data.length ≤ 9223372036854775806) : ref1_SameTensor.f a b = some (sameT a b) := by
  unfold ref1_SameTensor.f sameT
  rw [ref1_SameInts_eq _ _ h1, obind]
  by_cases hs : a.Shape = b.Shape
  · rw [if_pos (decide_eq_true hs)]
    by_cases hl : a.Data.length = b.Data.length
    · rw [if_pos (by omega)]
      have key : loop (ref1_SameTensor.l0 a b) 0 = some (if a.Data.map bitsOf = b.Data.map bitsOf then .go (a.Data.length : Int) else .ret false) := by
        refine loop_to _ (fun k st => ∃ j : Nat, k + j = a.Data.length ∧ st = (j : Int) ∧ ∀ i, i < j → (p : i < a.Data.length) → (q : i < b.Data.length) → bitsOf a.Data[i] = bitsOf b.Data[i]) ?_ a.Data.length _ ⟨0, rfl, rfl, fun i h => by omega⟩
        rintro k _ ⟨j, hk, rfl, h3⟩
        unfold ref1_SameTensor.l0
        by_cases hj : j < a.Data.length
        · rw [if_pos (by omega), if_pos (by omega), if_pos (by omega), rd_nat _ j hj, rd_nat _ j (by omega), ref1_Same_eq]
          simp only [bindS]
          by_cases hc : bitsOf a.Data[j] = bitsOf (b.Data[j]'(by omega))
          · right
            rw [if_pos (decide_eq_true hc)]
            refine ⟨_, k - 1, rfl, by omega, j + 1, by omega, by rw [w64_id (by omega) (by omega)]; rfl, fun i hi p q => ?_⟩
            by_cases h : i = j
            · subst h; exact hc
            · exact h3 i (by omega) p q
          · left
            rw [if_neg (by simp [hc]), if_neg]
            intro c
            apply hc
            have := congrArg (fun l => l[j]?) c
            simpa [List.getElem?_map, List.getElem?_eq_getElem hj, List.getElem?_eq_getElem (by omega : j < b.Data.length)] using this
        · left
          have hz : j = a.Data.length := by omega
          rw [if_neg (by omega), if_pos, hz]
          apply List.ext_getElem
          · simpa using hl
          · intro i p q
            simp only [List.getElem_map]
            simp only [List.length_map] at p q
            exact h3 i (by omega) p q
      rw [key, obind]
      by_cases hc : a.Data.map bitsOf = b.Data.map bitsOf
      · rw [if_pos hc, decide_eq_true ⟨hs, hc⟩]; rfl
      · rw [if_neg hc, decide_eq_false (fun c => hc c.2)]; rfl
    · rw [if_neg (by omega), decide_eq_false]
      intro c
      apply hl
      have := congrArg List.length c.2
      simpa using this
  · rw [if_neg (by simp [hs]), decide_eq_false (fun c => hs c.1)]

def tmay (t : Tensor) : Bool := decide ((size t.Shape).2 = 0 ∧ (size t.Shape).1 = (t.Data.length : Int))

theorem ref1_TensorMay_eq (t : Tensor) : ref1_TensorMay.f t = some (tmay t) := by
  unfold ref1_TensorMay.f tmay
  rw [ref1_Size_eq, obind]
  by_cases h : (size t.Shape).2 = 0
  · rw [if_pos h]
    by_cases h2 : (size t.Shape).1 = (t.Data.length : Int)
    · rw [if_pos h2, decide_eq_true ⟨h, h2⟩]
    · rw [if_neg h2, decide_eq_false (fun c => h2 c.2)]
  · rw [if_neg h, decide_eq_false (fun c => h c.1)]

theorem tensor_May_eq (t : Tensor) : tensor_May.f t = some (tmay t) := by
  unfold tensor_May.f tmay
  rw [shape_Size_eq, obind]
  by_cases h : (size t.Shape).2 = 0
  · rw [if_pos h]
    by_cases h2 : (size t.Shape).1 = (t.Data.length : Int)
    · rw [if_pos h2.symm, decide_eq_true ⟨h, h2⟩]
    · rw [if_neg (fun c => h2 c.symm), decide_eq_false (fun c => h2 c.2)]
  · rw [if_neg h, decide_eq_false (fun c => h c.1)]

theorem tmay_fits {t : Tensor} (h : tmay t = true) : may t.Shape = true ∧ t.Shape.length ≤ 4 ∧ (t.Data.length : Int) = prodL t.Shape ∧ t.Data.length ≤ 4096 ∧ 1 ≤ t.Data.length := by
  have h := of_decide_eq_true h
  obtain ⟨h1, h2, h3, h4⟩ := size_fits h.1
  refine ⟨by unfold may; simp [h.1], h3, by omega, by omega, by omega⟩

end Go.Proofs.Yteaoijahdinciaa
