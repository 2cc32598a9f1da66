/- The plain law of MatrixSums. -/
import Derived.Test.YtkcgiolledmbnaaQ5
import Derived.Test.YtkcgiolledmbnaaP7
import Derived.Test.YtkcgiolledmbnaaLMatrixSums
namespace Go.Proofs.Ytkcgiolledmbnaa
open Go Go.RowKit
set_option linter.unusedSimpArgs false
set_option linter.unusedVariables false

theorem i16_of_wf {n : Int} (h : (Lit.int .i16 n).wf = true) : n.natAbs ≤ 32768 := by
  have h1 : IntKind.i16.min = -32768 := rfl
  have h2 : IntKind.i16.max = 32767 := rfl
  simp [Lit.wf, h1, h2] at h
  omega

theorem isum_take {l : List Int} {j : Nat} (h : j < l.length) : isum (l.take j) + l[j] = isum (l.take (j + 1)) := by
  rw [List.take_succ_eq_append_getElem h, isum_append]; simp [isum]

theorem sums_loop (l : List Int) (hl : l.length ≤ 500) (hb : ∀ x ∈ l, x.natAbs ≤ 32768) : loop (law5_MatrixSums.l0 l) (0, 0, []) = some (isum l, (l.length : Int), l.map ofInt) := by
  refine loop_to _ (fun k st => ∃ j : Nat, k + j = l.length ∧ st = (isum (l.take j), (j : Int), (l.take j).map ofInt)) ?_ l.length _ ⟨0, rfl, rfl⟩
  rintro k _ ⟨j, hk, rfl⟩
  unfold law5_MatrixSums.l0
  simp only
  by_cases hj : j < l.length
  · right
    have h1 := hb l[j] (List.getElem_mem hj)
    have h2 := isum_abs (l := l.take j) (B := 32768) (fun x hx => hb x (List.mem_of_mem_take hx))
    have h3 : (l.take j).length ≤ 500 := by rw [List.length_take]; omega
    have h4 : (l.take j).length * 32768 ≤ 500 * 32768 := Nat.mul_le_mul_right _ h3
    rw [if_pos (by omega), if_pos (by omega), if_pos (by rw [List.length_map]; omega), rd_nat l j hj]
    refine ⟨_, k - 1, rfl, by omega, j + 1, by omega, ?_⟩
    rw [w64_id (x := l[j]) (by omega) (by omega), isum_take hj, w64_id (x := (j : Int) + 1) (by omega) (by omega), w64_id (by rw [← isum_take hj]; omega) (by rw [← isum_take hj]; omega)]
    rw [List.take_succ_eq_append_getElem hj, List.map_append]
    rfl
  · left
    have hz : j = l.length := by omega
    rw [if_neg (by omega), hz, List.take_length]

theorem wholes_map {l : List Int} (hb : ∀ x ∈ l, x.natAbs ≤ 32768) : Wholes (l.map ofInt) l := by
  refine ⟨by simp, fun i h k => ?_⟩
  rw [List.getElem_map]
  exact Whole.ofInt (by have := hb l[i] (List.getElem_mem k); omega)

theorem size_one' (n : Nat) (h1 : 1 ≤ n) (h2 : n ≤ 4096) : size [(n : Int)] = ((n : Int), 0) := by
  have e1 : Int.tdiv 4096 1 = 4096 := by decide
  unfold size
  rw [if_neg (by simp), if_neg (by simp; omega), sizeGo_cons, if_neg (by omega)]
  simp [sizeGo]

theorem law5_MatrixSums.plain (x0 : List Int) (o0 : x0.length ≤ 9223372036854775807 ∧ ∀ y ∈ x0, (Lit.int .i16 y).wf = true) (x1 : Int) (o1 : (Lit.int .u8 x1).wf = true) : law5_MatrixSums.f x0 x1 = some true := by
  have hb : ∀ x ∈ x0, x.natAbs ≤ 32768 := fun x hx => i16_of_wf (o0.2 x hx)
  have h8 : 0 ≤ x1 ∧ x1 ≤ 255 := by
    have h1 : IntKind.u8.min = 0 := rfl
    have h2 : IntKind.u8.max = 255 := rfl
    simp [Lit.wf, h1, h2] at o1
    omega
  unfold law5_MatrixSums.f
  rw [law5_awake_eq, obind, if_pos rfl]
  by_cases g1 : (x0.length : Int) = 0
  · rw [if_pos g1]
  rw [if_neg g1]
  by_cases g2 : 500 < (x0.length : Int)
  · rw [if_pos g2]
  have hl : x0.length ≤ 500 := by omega
  have hl1 : 1 ≤ x0.length := by omega
  rw [if_neg g2, sums_loop x0 hl hb, obind, matrix_Sum_eq, obind]
  simp only
  have t1 : tmay ⟨[(x0.length : Int)], x0.map ofInt⟩ = true := by
    unfold tmay
    simp only
    rw [size_one' x0.length hl1 (by omega)]
    simp
  have hs : ∀ s, tmay ⟨s, x0.map ofInt⟩ = true → sumT ⟨s, x0.map ofInt⟩ = (⟨[1], [tree (x0.map ofInt)]⟩, 0) := fun s h => by unfold sumT; rw [if_pos h]
  rw [hs _ t1]
  simp only
  rw [if_pos trivial, ref1_SameInts_eq _ _ (by simp), obind, if_pos (by simp), if_pos (by simp)]
  have hw : Whole (tree (x0.map ofInt)) (isum x0) := tree_whole _ _ _ (Nat.le_refl _) (wholes_map hb) hb (by omega)
  have hab := isum_abs hb
  have hf : fne (rd [tree (x0.map ofInt)] 0) (ofInt (isum x0)) = false := by
    have := hw.fne (Whole.ofInt (n := isum x0) (by omega))
    simpa [rd] using this
  rw [hf, if_neg (by simp)]
  have hk : w64 (1 + Int.tmod (w64 x1) 9) = 1 + x1 % 9 := by
    rw [w64_id (x := x1) (by omega) (by omega), Int.tmod_eq_emod_of_nonneg h8.1, w64_id (by omega) (by omega)]
  rw [hk, if_pos (by omega)]
  by_cases g3 : Int.tmod (x0.length : Int) (1 + x1 % 9) = 0
  · rw [if_pos g3, matrix_Sum_eq, obind]
    obtain ⟨k, hk2⟩ := Int.eq_ofNat_of_zero_le (by omega : 0 ≤ 1 + x1 % 9)
    rw [hk2] at g3 ⊢
    rw [Int.tmod_eq_emod_of_nonneg (by omega)] at g3
    have hk1 : 1 ≤ k := by omega
    have hm : x0.length % k = 0 := by exact_mod_cast g3
    have hd : k * (x0.length / k) = x0.length := by have := Nat.div_add_mod x0.length k; omega
    have hd1 : 1 ≤ x0.length / k := by
      rcases Nat.eq_zero_or_pos (x0.length / k) with h | h
      · rw [h] at hd; omega
      · exact h
    have e : w64 (Int.tdiv (x0.length : Int) (k : Int)) = ((x0.length / k : Nat) : Int) := by
      rw [tdiv_of (by omega) (by omega)]
      have : ((x0.length : Int) / (k : Int)) = ((x0.length / k : Nat) : Int) := by push_cast; rfl
      have h9 : x0.length / k ≤ x0.length := Nat.div_le_self _ _
      rw [this, w64_id (by omega) (by omega)]
    have t2 : tmay ⟨[(k : Int), ((x0.length / k : Nat) : Int)], x0.map ofInt⟩ = true := by
      unfold tmay
      simp only
      rw [size_two k (x0.length / k) hk1 hd1 (by omega), hd]
      simp
    rw [e, hs _ t2]
    simp only
    rw [if_pos trivial, same_refl ⟨by simp, by simp⟩, obind]
  · rw [if_neg g3]

end Go.Proofs.Ytkcgiolledmbnaa
