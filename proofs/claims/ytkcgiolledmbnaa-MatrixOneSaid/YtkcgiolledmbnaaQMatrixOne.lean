/- Plain law of MatrixOne: by the matrix of ones on the way down a matrix of finite numbers is itself; turned twice it is itself. -/
import Derived.Test.YtkcgiolledmbnaaP10
import Derived.Test.YtkcgiolledmbnaaP12
import Derived.Test.YtkcgiolledmbnaaQA5
import Derived.Test.YtkcgiolledmbnaaLMatrixOne
namespace Go.Proofs.Ytkcgiolledmbnaa
open Go Go.RowKit
set_option linter.unusedSimpArgs false
set_option linter.unusedVariables false

theorem small_is (t : Tensor) : ∃ b, law3_Small.f t = some b := by
  unfold law3_Small.f
  split
  · split <;> exact ⟨_, rfl⟩
  · exact ⟨_, rfl⟩

/-- the matrix of ones on the way down, j of them set -/
def oneN (n j t : Nat) : Nat := if t % n = t / n ∧ t / n < j then 4607182418800017408 else 0
def oneD (n j : Nat) : List Nat := (List.range (n * n)).map (oneN n j)

theorem div_at {n i k : Nat} (hk : k < n) : (i * n + k) / n = i ∧ (i * n + k) % n = k := by
  have hn : 0 < n := by omega
  constructor
  · rw [Nat.add_comm, Nat.add_mul_div_right _ _ hn, Nat.div_eq_of_lt hk, Nat.zero_add]
  · rw [Nat.add_comm, Nat.add_mul_mod_self_right, Nat.mod_eq_of_lt hk]

theorem one_loop {a : Tensor} {n : Nat} (hn : rd a.Shape 1 = (n : Int)) (h1 : 1 ≤ n) (h40 : n ≤ 40) : loop (law5_MatrixOne.l0 a) (0, List.replicate (n * n) 0) = some ((n : Int), oneD n n) := by
  have hnn : n * n ≤ 40 * 40 := Nat.mul_le_mul h40 h40
  refine loop_to _ (fun q st => ∃ j : Nat, q + j = n ∧ st = ((j : Int), oneD n j)) ?_ n _ ⟨0, rfl, ?_⟩
  · rintro q _ ⟨j, hq, rfl⟩
    unfold law5_MatrixOne.l0
    simp only [hn]
    by_cases hj : j < n
    · right
      have hlt := idx_lt hj hj
      rw [if_pos (by omega), idx64 j n j (by omega), if_pos (by simp [oneD]; omega), put_at _ _ (j * n + j) _ rfl]
      refine ⟨_, q - 1, rfl, by omega, j + 1, by omega, ?_⟩
      rw [w64_id (by omega) (by omega)]
      congr 1
      apply List.ext_getElem
      · simp [oneD]
      · intro t h2 h3
        simp only [oneD, List.length_map, List.length_range] at h3
        rw [List.getElem_set]
        simp only [oneD, List.getElem_map, List.getElem_range]
        by_cases ht : j * n + j = t
        · rw [if_pos ht]
          subst ht
          obtain ⟨d1, d2⟩ := div_at (i := j) hj
          unfold oneN
          rw [d1, d2, if_pos ⟨rfl, by omega⟩]
        · rw [if_neg ht]
          unfold oneN
          by_cases hc : t % n = t / n ∧ t / n < j
          · rw [if_pos hc, if_pos ⟨hc.1, by omega⟩]
          · rw [if_neg hc, if_neg]
            intro c
            apply hc
            refine ⟨c.1, ?_⟩
            by_cases he : t / n = j
            · exfalso
              apply ht
              have := Nat.div_add_mod t n
              rw [c.1, he, Nat.mul_comm] at this
              exact this
            · omega
    · left
      have hz : j = n := by omega
      subst hz
      rw [if_neg (by omega)]
  · congr 1
    apply List.ext_getElem
    · simp [oneD]
    · intro t h2 h3
      simp [oneD, oneN]

theorem oneD_get {n i k : Nat} (hi : i < n) (hk : k < n) : (oneD n n).getD (i * n + k) 0 = if k = i then 4607182418800017408 else 0 := by
  have hlt := idx_lt hi hk
  obtain ⟨d1, d2⟩ := div_at (i := i) hk
  simp only [oneD, List.getD, List.getElem?_map, List.getElem?_range hlt, Option.map_some, Option.getD_some]
  unfold oneN
  rw [d1, d2]
  by_cases h : k = i
  · rw [if_pos ⟨h, hi⟩, if_pos h]
  · rw [if_neg (fun c => h c.1), if_neg h]

theorem turn_turn {r n : Nat} {d : List Nat} (hr : 1 ≤ r) (hn : 1 ≤ n) (hd : d.length = r * n) : turnData n r (turnData r n d) = d := by
  apply List.ext_getElem
  · simp [turnData, hd]
  · intro t h1 h2
    simp only [turnData, List.length_map, List.length_range] at h1
    have e0 : t % n < n := Nat.mod_lt _ (by omega)
    have e1 : t / n < r := (Nat.div_lt_iff_lt_mul (by omega)).2 h1
    have e2 := Nat.div_add_mod t n
    have hlt := idx_lt e0 e1
    obtain ⟨d1, d2⟩ := div_at (i := t % n) e1
    simp only [turnData, List.getElem_map, List.getElem_range]
    unfold turnAt
    simp only [List.getD, List.getElem?_map, List.getElem?_range hlt, Option.map_some, Option.getD_some]
    rw [d1, d2, show t / n * n + t % n = t by rw [Nat.mul_comm]; exact e2, List.getElem?_eq_getElem h2]
    rfl

theorem law5_equal_true (a b : Tensor) (hs : a.Shape = b.Shape) (hl : a.Data.length = b.Data.length) (h1 : a.Shape.length ≤ 9223372036854775806) (h2 : a.Data.length ≤ 9223372036854775806)
    (h : ∀ i, i < a.Data.length → fne (a.Data.getD i 0) (b.Data.getD i 0) = false) : law5_equal.f a b = some true := by
  unfold law5_equal.f
  rw [ref1_SameInts_eq _ _ h1, obind, if_pos (decide_eq_true hs), if_pos (by omega)]
  have key : loop (law5_equal.l0 a b) 0 = some (.go (a.Data.length : Int)) := by
    refine loop_to _ (fun k st => ∃ j : Nat, k + j = a.Data.length ∧ st = (j : Int)) ?_ a.Data.length _ ⟨0, rfl, rfl⟩
    rintro k _ ⟨j, hk, rfl⟩
    unfold law5_equal.l0
    by_cases hj : j < a.Data.length
    · right
      have := h j hj
      rw [if_pos (by omega), if_pos (by omega), if_pos (by omega), getD_at _ _ hj, getD_at _ _ (by omega), this, if_neg (by simp)]
      exact ⟨_, k - 1, rfl, by omega, j + 1, by omega, by rw [w64_id (by omega) (by omega)]; rfl⟩
    · left
      have hz : j = a.Data.length := by omega
      subst hz
      rw [if_neg (by omega)]
  rw [key, obind]; rfl

theorem law5_MatrixOne.plain (a : Tensor) (hf : ∀ x ∈ a.Data, x < 2 ^ 64) : law5_MatrixOne.f a = some true := by
  unfold law5_MatrixOne.f
  rw [law5_awake_ev, obind, if_pos rfl]
  obtain ⟨b, e1⟩ := small_is a
  rw [e1, obind]
  cases b
  · rw [if_neg (by simp)]
  rw [if_pos rfl, ref1_TensorMay_eq, obind]
  by_cases hm : tmay a = true
  rotate_left
  · rw [if_neg hm]
  rw [if_pos hm]
  by_cases h2 : (a.Shape.length : Int) = 2
  rotate_left
  · rw [if_neg h2]
  obtain ⟨r, n, sa, r1, n1, la, ba⟩ := two_dims hm (by omega)
  have ea0 : rd a.Shape 0 = (r : Int) := by rw [sa]; rfl
  have ea1 : rd a.Shape 1 = (n : Int) := by rw [sa]; rfl
  rw [if_pos h2, if_pos (by omega), ea1]
  by_cases h40 : 40 < (n : Int)
  · rw [if_pos h40]
  have hnn : n * n ≤ 40 * 40 := Nat.mul_le_mul (by omega) (by omega)
  have ea : a = ⟨[(r : Int), (n : Int)], a.Data⟩ := by rw [← sa]
  have t1 : turnT a = (⟨[(n : Int), (r : Int)], turnData r n a.Data⟩, 0) := by
    unfold turnT
    rw [if_pos ⟨hm, by omega⟩, ea0, ea1, Int.toNat_natCast, Int.toNat_natCast]
  have hm2 : tmay ⟨[(n : Int), (r : Int)], turnData r n a.Data⟩ = true := tmay_two n1 r1 (by rw [Nat.mul_comm]; exact ba) (by simp [turnData])
  have t2 : turnT ⟨[(n : Int), (r : Int)], turnData r n a.Data⟩ = (a, 0) := by
    unfold turnT
    rw [if_pos ⟨hm2, rfl⟩]
    show ((⟨[(r : Int), (n : Int)], turnData n r (turnData r n a.Data)⟩ : Tensor), (0 : Int)) = (a, 0)
    rw [turn_turn r1 n1 la, ← ea]
  have hone : (oneD n n).length = n * n := by simp [oneD]
  have hmo : newT [(n : Int), (n : Int)] 0 = (⟨[(n : Int), (n : Int)], List.replicate (n * n) 0⟩, 0) := by
    unfold newT
    rw [size_two n n n1 n1 (by omega)]
    simp only [Int.toNat_natCast, if_true]
  have hmul : mulT a ⟨[(n : Int), (n : Int)], oneD n n⟩ = (⟨[(r : Int), (n : Int)], mulData r n n a.Data (oneD n n)⟩, 0) := by
    have := mulT_mk (da := a.Data) (db := oneD n n) r1 n1 n1 ba (by omega) ba la hone
    rw [← ea] at this
    exact this
  have sl : a.Shape.length = 2 := by omega
  rw [if_neg h40, matrix_Turn_eq, obind, t1]
  simp only
  rw [matrix_Turn_eq, obind, t2, if_pos rfl]
  simp only
  rw [if_pos trivial, ref1_SameTensor_eq _ _ (by omega) (by omega), obind, sameT_refl, if_pos rfl, ref1_New_eq, obind, hmo]
  simp only
  rw [one_loop ea1 n1 (by omega), obind, matrix_Mul_eq, obind, hmul]
  simp only
  rw [if_pos trivial, ref1_Finite_eq _ (by omega), obind]
  by_cases hfin : (tmay a && a.Data.all (fun x => !oddB x)) = true
  rotate_left
  · rw [if_neg hfin]
  rw [if_pos hfin, law5_equal_true _ _ (by rw [sa]) (by rw [mulData_len, la]) (by simp) (by rw [mulData_len]; omega), obind]
  intro t ht
  rw [mulData_len] at ht
  have e0 : t % n < n := Nat.mod_lt _ (by omega)
  have e3 : t / n < r := (Nat.div_lt_iff_lt_mul (by omega)).2 ht
  have e2 : t / n * n + t % n = t := by rw [Nat.mul_comm]; exact Nat.div_add_mod t n
  have hall : ∀ x ∈ a.Data, FinB x := fun x hx => by
    rw [Bool.and_eq_true] at hfin
    have := List.all_eq_true.1 hfin.2 x hx
    exact fin_of_odd (hf x hx) (by simpa using this)
  have hfx : ∀ i, i < r * n → FinB (a.Data.getD i 0) := fun i hi => by
    have hi' : i < a.Data.length := by omega
    have e : a.Data.getD i 0 = a.Data[i] := by simp [List.getD, List.getElem?_eq_getElem hi']
    rw [e]
    exact hall _ (List.getElem_mem _)
  have hg := mulData_get (r := r) (n := n) (c := n) (a := a.Data) (b := oneD n n) e3 e0
  rw [e2] at hg
  simp only
  rw [hg]
  refine rowSum_one (k := t % n) (by simpa using e0) (hfx t (by omega)) ?_ ?_
  · simp only [List.getElem_map, List.getElem_range]
    rw [oneD_get e0 e0, if_pos rfl, e2]
    exact fmul_one (hfx t (by omega))
  · intro i hi hne
    simp only [List.length_map, List.length_range] at hi
    simp only [List.getElem_map, List.getElem_range]
    rw [oneD_get hi e0, if_neg (fun c => hne c.symm)]
    exact fmul_zero (hfx _ (idx_lt e3 hi)) Whole.zero

end Go.Proofs.Ytkcgiolledmbnaa
