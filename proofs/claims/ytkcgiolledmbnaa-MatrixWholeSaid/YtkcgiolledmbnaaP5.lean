/- Plain laws, part 5: products of matrices. -/
import Derived.Test.YtkcgiolledmbnaaP4
import Derived.Test.YtkcgiolledmbnaaF0
import Derived.Test.YtkcgiolledmbnaaF1
import Derived.Test.YtkcgiolledmbnaaF2
namespace Go.Proofs.Ytkcgiolledmbnaa
open Go Go.RowKit
set_option linter.unusedSimpArgs false
set_option linter.unusedVariables false
set_option linter.unusedSectionVars false

theorem idx_lt {i k r n : Nat} (hi : i < r) (hk : k < n) : i * n + k < r * n := by
  have : (i + 1) * n ≤ r * n := Nat.mul_le_mul_right _ hi
  rw [Nat.add_mul, Nat.one_mul] at this
  omega

theorem idx64 (i n k : Nat) (h : i * n + k ≤ 100000) : w64 (w64 ((i : Int) * (n : Int)) + (k : Int)) = ((i * n + k : Nat) : Int) := by
  have e : ((i : Int) * (n : Int)) = ((i * n : Nat) : Int) := by push_cast; rfl
  rw [e, w64_id (x := ((i * n : Nat) : Int)) (by omega) (by omega), w64_id (by omega) (by omega)]
  omega

/-- the number at place t of a product -/
def mulAt (n c : Nat) (a b : List Nat) (t : Nat) : Nat := rowSum ((List.range n).map (fun k => fmul (a.getD ((t / c) * n + k) 0) (b.getD (k * c + t % c) 0)))
def mulData (r n c : Nat) (a b : List Nat) : List Nat := (List.range (r * c)).map (mulAt n c a b)

def mulT (a b : Tensor) : Tensor × Int :=
  if tmay a = true ∧ tmay b = true ∧ a.Shape.length = 2 ∧ b.Shape.length = 2 ∧ rd a.Shape 1 = rd b.Shape 0 then
    (if (size [rd a.Shape 0, rd b.Shape 1]).2 = 0 then (⟨[rd a.Shape 0, rd b.Shape 1], mulData (rd a.Shape 0).toNat (rd a.Shape 1).toNat (rd b.Shape 1).toNat a.Data b.Data⟩, 0)
      else (⟨[], []⟩, (size [rd a.Shape 0, rd b.Shape 1]).2))
  else (⟨[], []⟩, 2)

/-- two dimensions of a tensor that may be -/
theorem two_dims {t : Tensor} (h : tmay t = true) (h2 : t.Shape.length = 2) : ∃ r n : Nat, t.Shape = [(r : Int), (n : Int)] ∧ 1 ≤ r ∧ 1 ≤ n ∧ t.Data.length = r * n ∧ r * n ≤ 4096 := by
  obtain ⟨h1, _, h3, h4, h5⟩ := tmay_fits h
  have hp := may_pos h1
  match hs : t.Shape, h2 with
  | [x, y], _ =>
    rw [hs] at hp h3
    have hx := hp x (by simp)
    have hy := hp y (by simp)
    obtain ⟨r, rfl⟩ := Int.eq_ofNat_of_zero_le (by omega : 0 ≤ x)
    obtain ⟨n, rfl⟩ := Int.eq_ofNat_of_zero_le (by omega : 0 ≤ y)
    have e : prodL [(r : Int), (n : Int)] = ((r * n : Nat) : Int) := by simp [prodL]
    rw [e] at h3
    exact ⟨r, n, rfl, by omega, by omega, by omega, by omega⟩

theorem getD_at (xs : List Nat) (j : Nat) (h : j < xs.length) : rd xs (j : Int) = xs.getD j 0 := by
  rw [rd_nat xs j h, List.getD, List.getElem?_eq_getElem h]; rfl

theorem mulAt_at (n c i j : Nat) (a b : List Nat) (hj : j < c) : mulAt n c a b (i * c + j) = rowSum ((List.range n).map (fun k => fmul (a.getD (i * n + k) 0) (b.getD (k * c + j) 0))) := by
  have e1 : (i * c + j) / c = i := by rw [Nat.add_comm, Nat.add_mul_div_right _ _ (by omega), Nat.div_eq_of_lt hj]; omega
  have e2 : (i * c + j) % c = j := by rw [Nat.add_comm, Nat.add_mul_mod_self_right, Nat.mod_eq_of_lt hj]
  unfold mulAt
  rw [e1, e2]

theorem real_Times_eq (x y : Nat) : real_Real_Times.f x y = some (fmul x y) := rfl

section
variable {a b : Tensor} {r n c : Nat} (hn : rd a.Shape 1 = n) (hr : rd a.Shape 0 = r) (hc : rd b.Shape 1 = c) (ha : a.Data.length = r * n) (hb : b.Data.length = n * c) (h1 : r * n ≤ 4096) (h2 : n * c ≤ 4096) (h3 : r * c ≤ 4096) (hr1 : 1 ≤ r) (hn1 : 1 ≤ n) (hc1 : 1 ≤ c)
include hn hc ha hb h1 h2

theorem mul_l2 (i j : Nat) (hi : i < r) (hj : j < c) (s166 s180 : Int × List Nat × List Nat) (e1 : s166.1 = i) (e2 : s180.1 = j) (ps : List Nat) (hp : ps.length = n) :
    loop (matrix_Mul.l2 a s166 b s180) (0, ps) = some ((n : Int), (List.range n).map (fun k => fmul (a.Data.getD (i * n + k) 0) (b.Data.getD (k * c + j) 0))) := by
  refine loop_to _ (fun q st => ∃ k : Nat, q + k = n ∧ st = ((k : Int), upN n k (fun k => fmul (a.Data.getD (i * n + k) 0) (b.Data.getD (k * c + j) 0)) (fun t => ps.getD t 0))) ?_ n _ ⟨0, rfl, ?_⟩
  · rintro q _ ⟨k, hq, rfl⟩
    unfold matrix_Mul.l2
    simp only [hn, hc, e1, e2, upN_length]
    by_cases hk : k < n
    · right
      have b1 := idx_lt hi hk
      have b2 := idx_lt hk hj
      rw [idx64 i n k (by omega), idx64 k c j (by omega), if_pos (by omega), if_pos (by omega), if_pos (by omega), getD_at _ _ (by omega), getD_at _ _ (by omega), real_Times_eq]
      simp only [bindS]
      rw [if_pos (by omega), put_at _ _ k _ rfl]
      refine ⟨_, q - 1, rfl, by omega, k + 1, by omega, ?_⟩
      have := upN_set n k (fun k => fmul (a.Data.getD (i * n + k) 0) (b.Data.getD (k * c + j) 0)) (fun t => ps.getD t 0) hk
      rw [this, w64_id (by omega) (by omega)]; rfl
    · left
      have hz : k = n := by omega
      subst hz
      rw [if_neg (by omega), upN_full]
  · congr 1
    rw [← hp]
    exact upN_zero ps _

include hr h3 hr1 hn1 hc1
theorem mul_l1 (i : Nat) (hi : i < r) (s166 : Int × List Nat × List Nat) (e1 : s166.1 = i) (ps : List Nat) (hp : ps.length = n) (z : Nat → Nat) :
    ∃ ps', loop (matrix_Mul.l1 b a s166) (0, ps, upN (r * c) (i * c) (mulAt n c a.Data b.Data) z) = some ((c : Int), ps', upN (r * c) ((i + 1) * c) (mulAt n c a.Data b.Data) z) ∧ ps'.length = n := by
  have key := loop_ex (body := matrix_Mul.l1 b a s166) (fun res => ∃ ps', res = ((c : Int), ps', upN (r * c) ((i + 1) * c) (mulAt n c a.Data b.Data) z) ∧ ps'.length = n)
    (fun q st => ∃ (j : Nat) (ps : List Nat), q + j = c ∧ ps.length = n ∧ st = ((j : Int), ps, upN (r * c) (i * c + j) (mulAt n c a.Data b.Data) z)) ?_ c (0, ps, upN (r * c) (i * c) (mulAt n c a.Data b.Data) z) ⟨0, ps, rfl, hp, rfl⟩
  · obtain ⟨res, h4, ps', h5, h6⟩ := key
    exact ⟨ps', by rw [h4, h5], h6⟩
  rintro q _ ⟨j, ps, hq, hps, rfl⟩
  unfold matrix_Mul.l1
  simp only [hc, e1, upN_length]
  by_cases hj : j < c
  · right
    have b1 := idx_lt hi hj
    rw [if_pos (by omega), mul_l2 hn hc ha hb h1 h2 i j hi hj s166 _ e1 rfl ps hps]
    simp only [bindS]
    have hir : n ≤ r * n := Nat.le_mul_of_pos_left _ hr1
    rw [real_Row_eq _ (by rw [List.length_map, List.length_range]; omega)]
    simp only
    rw [idx64 i c j (by omega), if_pos (by omega), put_at _ _ (i * c + j) _ rfl]
    refine ⟨_, q - 1, rfl, by omega, j + 1, (List.range n).map (fun k => fmul (a.Data.getD (i * n + k) 0) (b.Data.getD (k * c + j) 0)), by omega, ?_, ?_⟩
    · simp
    · rw [← mulAt_at n c i j a.Data b.Data hj, upN_set (r * c) (i * c + j) _ z b1, w64_id (by omega) (by omega)]; rfl
  · left
    have hz : j = c := by omega
    subst hz
    rw [if_neg (by omega)]
    refine ⟨_, rfl, ps, ?_, hps⟩
    rw [Nat.add_mul, Nat.one_mul]

theorem mul_l0 (ps : List Nat) (hp : ps.length = n) (z : Nat → Nat) :
    ∃ ps', loop (matrix_Mul.l0 a b) (0, ps, upN (r * c) 0 (mulAt n c a.Data b.Data) z) = some ((r : Int), ps', mulData r n c a.Data b.Data) := by
  have key := loop_ex (body := matrix_Mul.l0 a b) (fun res => ∃ ps', res = ((r : Int), ps', mulData r n c a.Data b.Data))
    (fun q st => ∃ (i : Nat) (ps : List Nat), q + i = r ∧ ps.length = n ∧ st = ((i : Int), ps, upN (r * c) (i * c) (mulAt n c a.Data b.Data) z)) ?_ r (0, ps, upN (r * c) 0 (mulAt n c a.Data b.Data) z) ⟨0, ps, rfl, hp, by rw [Nat.zero_mul]; rfl⟩
  · obtain ⟨res, h4, ps', h5⟩ := key
    exact ⟨ps', by rw [h4, h5]⟩
  rintro q _ ⟨i, ps, hq, hps, rfl⟩
  unfold matrix_Mul.l0
  simp only [hr]
  by_cases hi : i < r
  · right
    obtain ⟨ps', h4, h5⟩ := mul_l1 hn hr hc ha hb h1 h2 h3 hr1 hn1 hc1 i hi ((i : Int), ps, upN (r * c) (i * c) (mulAt n c a.Data b.Data) z) rfl ps hps z
    rw [if_pos (by omega), h4]
    simp only [bindS]
    have hir : r ≤ r * n := Nat.le_mul_of_pos_right _ hn1
    exact ⟨_, q - 1, rfl, by omega, i + 1, ps', by omega, h5, by rw [w64_id (by omega) (by omega)]; rfl⟩
  · left
    have hz : i = r := by omega
    subst hz
    rw [if_neg (by omega), upN_full]
    exact ⟨_, rfl, ps, rfl⟩

end

theorem matrix_flat_eq (t : Tensor) : matrix_flat.f t = some (decide (tmay t = true ∧ t.Shape.length = 2)) := by
  unfold matrix_flat.f
  rw [tensor_May_eq, obind]
  by_cases h : tmay t = true
  · rw [if_pos h]
    by_cases h2 : t.Shape.length = 2
    · rw [if_pos (by omega), decide_eq_true ⟨h, h2⟩]
    · rw [if_neg (by omega), decide_eq_false (fun c => h2 c.2)]
  · rw [if_neg h, decide_eq_false (fun c => h c.1)]

theorem rep_upN (L : Nat) (f : Nat → Nat) : List.replicate L 0 = upN L 0 f (fun _ => 0) := by
  apply List.ext_getElem
  · simp
  · intro i h1 h2
    rw [upN_get]; simp

theorem matrix_Mul_eq (a b : Tensor) : matrix_Mul.f a b = some (mulT a b) := by
  unfold matrix_Mul.f mulT
  rw [matrix_flat_eq, obind]
  by_cases ha : tmay a = true ∧ a.Shape.length = 2
  · rw [if_pos (decide_eq_true ha), matrix_flat_eq, obind]
    by_cases hb : tmay b = true ∧ b.Shape.length = 2
    · obtain ⟨r, n, sa, r1, n1, la, ba⟩ := two_dims ha.1 ha.2
      obtain ⟨m, c, sb, m1, c1, lb, bb⟩ := two_dims hb.1 hb.2
      have ea0 : rd a.Shape 0 = r := by rw [sa]; rfl
      have ea1 : rd a.Shape 1 = n := by rw [sa]; rfl
      have eb0 : rd b.Shape 0 = m := by rw [sb]; rfl
      have eb1 : rd b.Shape 1 = c := by rw [sb]; rfl
      have l1 := ha.2
      have l2 := hb.2
      rw [if_pos (decide_eq_true hb), if_pos (by omega), if_pos (by omega)]
      by_cases hd : rd a.Shape 1 = rd b.Shape 0
      · rw [if_pos hd, if_pos (by omega), if_pos (by omega), if_pos ⟨ha.1, hb.1, ha.2, hb.2, hd⟩, shape_Size_eq, obind]
        by_cases hs : (size [rd a.Shape 0, rd b.Shape 1]).2 = 0
        · rw [if_pos hs, if_pos hs, tensor_New_eq, obind, newT, if_pos hs]
          obtain ⟨k1, k2, _, k4⟩ := size_fits hs
          rw [ea1, eb0] at hd
          have hd' : n = m := by omega
          subst hd'
          rw [ea0, eb1] at k1 k2 k4 ⊢
          have e : prodL [(r : Int), (c : Int)] = ((r * c : Nat) : Int) := by simp [prodL]
          rw [e] at k4
          have hir : n ≤ r * n := Nat.le_mul_of_pos_left _ r1
          rw [ea1, if_pos (by omega), k4]
          simp only [Int.toNat_natCast]
          obtain ⟨ps', h5⟩ := mul_l0 ea1 ea0 eb1 la lb ba bb (by omega) r1 n1 c1 (List.replicate n 0) (by simp) (fun _ => 0)
          rw [← rep_upN] at h5
          rw [h5, obind]
        · rw [if_neg hs, if_neg hs]
      · rw [if_neg hd, if_neg (fun c => hd c.2.2.2.2)]
    · rw [if_neg (by simpa using hb), if_neg (fun c => hb ⟨c.2.1, c.2.2.2.1⟩)]
  · rw [if_neg (by simpa using ha), if_neg (fun c => ha ⟨c.1, c.2.2.1⟩)]

end Go.Proofs.Ytkcgiolledmbnaa
