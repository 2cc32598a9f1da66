/- Plain law of MatrixRows: a row of a product is that row by the other matrix; a column likewise. -/
import Derived.Test.YtkcgiolledmbnaaP10
import Derived.Test.YtkcgiolledmbnaaQA5
import Derived.Test.YtkcgiolledmbnaaLMatrixRows
namespace Go.Proofs.Ytkcgiolledmbnaa
open Go Go.RowKit
set_option linter.unusedSimpArgs false
set_option linter.unusedVariables false

theorem law3_Small_is (t : Tensor) : ∃ b, law3_Small.f t = some b := by
  unfold law3_Small.f
  split
  · split <;> exact ⟨_, rfl⟩
  · exact ⟨_, rfl⟩

theorem rows_loop {a b : Tensor} {p : Int × Int} {n c k : Nat} (ha : rd a.Shape 1 = (n : Int)) (hb : rd b.Shape 1 = (c : Int)) (hk : Int.tmod (w64 p.2) (c : Int) = (k : Int)) (hkc : k < c) (hl : b.Data.length = n * c) (hn : n * c ≤ 4096) (hn1 : n ≤ 4096) :
    loop (law5_MatrixRows.l0 a b p) (0, []) = some ((n : Int), (List.range n).map (fun j => b.Data.getD (j * c + k) 0)) := by
  refine loop_to _ (fun q st => ∃ j : Nat, q + j = n ∧ st = ((j : Int), (List.range j).map (fun j => b.Data.getD (j * c + k) 0))) ?_ n _ ⟨0, rfl, rfl⟩
  rintro q _ ⟨j, hq, rfl⟩
  unfold law5_MatrixRows.l0
  simp only [ha, hb, hk]
  by_cases hj : j < n
  · right
    have h1 := idx_lt hj hkc
    rw [if_pos (by omega), idx64 j c k (by omega), if_pos (by omega), if_pos (by simp; omega), getD_at _ _ (by omega)]
    refine ⟨_, q - 1, rfl, by omega, j + 1, by omega, ?_⟩
    rw [w64_id (by omega) (by omega), List.range_succ, List.map_append]
    rfl
  · left
    have hz : j = n := by omega
    subst hz
    rw [if_neg (by omega)]

theorem law5_MatrixRows.plain (a b : Tensor) (p : Int × Int) (h1 : 0 ≤ p.1 ∧ p.1 ≤ 255) (h2 : 0 ≤ p.2 ∧ p.2 ≤ 255) : law5_MatrixRows.f a b p = some true := by
  unfold law5_MatrixRows.f
  rw [law5_awake_ev, obind, if_pos rfl]
  obtain ⟨s1, e1⟩ := law3_Small_is a
  obtain ⟨s2, e2⟩ := law3_Small_is b
  rw [e1, obind]
  cases s1
  · rw [if_neg (by simp)]
  rw [if_pos rfl, e2, obind]
  cases s2
  · rw [if_neg (by simp)]
  rw [if_pos rfl, matrix_Mul_eq, obind]
  by_cases hm : (mulT a b).2 = 0
  · obtain ⟨r, n, c, sa, sb, r1, n1, c1, la, lb, ba, bb, rc, e⟩ := mulT_ok hm
    have ea0 : rd a.Shape 0 = (r : Int) := by rw [sa]; rfl
    have ea1 : rd a.Shape 1 = (n : Int) := by rw [sa]; rfl
    have eb1 : rd b.Shape 1 = (c : Int) := by rw [sb]; rfl
    have sla : a.Shape.length = 2 := by rw [sa]; rfl
    have slb : b.Shape.length = 2 := by rw [sb]; rfl
    obtain ⟨i, hi, hir⟩ := tmod_nat h1 r1
    obtain ⟨k, hk, hkc⟩ := tmod_nat h2 c1
    have hin : (i + 1) * n ≤ r * n := Nat.mul_le_mul_right _ hir
    rw [Nat.add_mul, Nat.one_mul] at hin
    have hn4 : n ≤ r * n := Nat.le_mul_of_pos_left _ r1
    have hc4 : c ≤ n * c := Nat.le_mul_of_pos_left _ n1
    have hik := idx_lt hir hkc
    have q1 : w64 ((i : Int) * (n : Int)) = ((i * n : Nat) : Int) := idx64' i n (by omega)
    have q2 : w64 (((i * n : Nat) : Int) + (n : Int)) = ((i * n + n : Nat) : Int) := by rw [w64_id (by omega) (by omega)]; omega
    have q3 : w64 ((i : Int) * (c : Int)) = ((i * c : Nat) : Int) := idx64' i c (by omega)
    have q4 : w64 (((i * c : Nat) : Int) + (k : Int)) = ((i * c + k : Nat) : Int) := by rw [w64_id (by omega) (by omega)]; omega
    rw [if_pos hm, if_pos (by omega), if_pos (by omega), if_pos (by omega)]
    simp only [ea0, ea1, eb1, hi, hk, q1, q2, q3, q4, Int.toNat_natCast]
    rw [if_pos (by omega), if_pos (by omega), if_pos (by omega), if_pos (by omega), rows_loop ea1 eb1 hk hkc lb bb (by omega), obind]
    generalize hrow : (List.take (i * n + n) a.Data).drop (i * n) = row
    have hrl : row.length = 1 * n := by rw [← hrow]; simp; omega
    have hrg : ∀ j, j < n → row.getD j 0 = a.Data.getD (i * n + j) 0 := by
      intro j hj
      rw [← hrow]
      simp only [List.getD, List.getElem?_drop, List.getElem?_take]
      rw [if_pos (by omega)]
    generalize hcol : (List.range n).map (fun j => b.Data.getD (j * c + k) 0) = col
    have hcl : col.length = n * 1 := by rw [← hcol]; simp
    have hcg : ∀ j, j < n → col.getD (j * 1 + 0) 0 = b.Data.getD (j * c + k) 0 := by
      intro j hj
      rw [← hcol]
      simp [List.getD, hj]
    have eb : b = ⟨[(n : Int), (c : Int)], b.Data⟩ := by rw [← sb]
    have m1 : mulT ⟨[1, (n : Int)], row⟩ b = (⟨[1, (c : Int)], mulData 1 n c row b.Data⟩, 0) := by
      have := mulT_mk (r := 1) (n := n) (c := c) (da := row) (db := b.Data) (by omega) n1 c1 (by omega) bb (by omega) hrl lb
      rw [← eb] at this
      exact this
    have m2 : mulT ⟨[1, (n : Int)], row⟩ ⟨[(n : Int), 1], col⟩ = (⟨[1, 1], mulData 1 n 1 row col⟩, 0) :=
      mulT_mk (r := 1) (n := n) (c := 1) (by omega) n1 (by omega) (by omega) (by omega) (by omega) hrl hcl
    rw [matrix_Mul_eq, obind, matrix_Mul_eq, obind, m1, m2, e]
    have t1 : rd (mulData 1 n c row b.Data) (k : Int) = rd (mulData r n c a.Data b.Data) ((i * c + k : Nat) : Int) := by
      rw [getD_at _ _ (by rw [mulData_len]; omega), getD_at _ _ (by rw [mulData_len]; exact hik), mulData_get hir hkc]
      have := mulData_get (r := 1) (n := n) (c := c) (a := row) (b := b.Data) (i := 0) (j := k) (by omega) hkc
      rw [Nat.zero_mul, Nat.zero_add] at this
      rw [this]
      congr 1
      apply List.map_congr_left
      intro j hj
      rw [Nat.zero_mul, Nat.zero_add, hrg j (List.mem_range.1 hj)]
    have t2 : rd (mulData 1 n 1 row col) 0 = rd (mulData r n c a.Data b.Data) ((i * c + k : Nat) : Int) := by
      rw [show (0 : Int) = ((0 : Nat) : Int) from rfl, getD_at _ _ (by rw [mulData_len]; omega), getD_at _ _ (by rw [mulData_len]; exact hik), mulData_get hir hkc]
      have := mulData_get (r := 1) (n := n) (c := 1) (a := row) (b := col) (i := 0) (j := 0) (by omega) (by omega)
      rw [Nat.zero_mul, Nat.zero_add] at this
      rw [this]
      congr 1
      apply List.map_congr_left
      intro j hj
      rw [Nat.zero_mul, Nat.zero_add, hrg j (List.mem_range.1 hj), hcg j (List.mem_range.1 hj)]
    simp only [mulData_len]
    rw [if_pos trivial, if_pos trivial, if_pos (by omega), if_pos (by omega), ref1_Same_eq, obind, t1, if_pos (by simp), if_pos (by omega), ref1_Same_eq, obind, t2]
    simp
  · rw [if_neg hm]

end Go.Proofs.Ytkcgiolledmbnaa
