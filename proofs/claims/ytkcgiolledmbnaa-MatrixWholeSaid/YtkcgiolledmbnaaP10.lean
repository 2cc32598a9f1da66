/- Plain laws, part 10: what a product of matrices is, where there is one. -/
import Derived.Test.YtkcgiolledmbnaaP6
namespace Go.Proofs.Ytkcgiolledmbnaa
open Go Go.RowKit
set_option linter.unusedSimpArgs false
set_option linter.unusedVariables false

theorem tmay_two {r n : Nat} {d : List Nat} (hr : 1 ≤ r) (hn : 1 ≤ n) (h : r * n ≤ 4096) (hd : d.length = r * n) : tmay ⟨[(r : Int), (n : Int)], d⟩ = true := by
  unfold tmay
  rw [size_two r n hr hn h]
  simp [hd]

theorem mulT_mk {r n c : Nat} {da db : List Nat} (hr : 1 ≤ r) (hn : 1 ≤ n) (hc : 1 ≤ c) (h1 : r * n ≤ 4096) (h2 : n * c ≤ 4096) (h3 : r * c ≤ 4096) (ha : da.length = r * n) (hb : db.length = n * c) :
    mulT ⟨[(r : Int), (n : Int)], da⟩ ⟨[(n : Int), (c : Int)], db⟩ = (⟨[(r : Int), (c : Int)], mulData r n c da db⟩, 0) := by
  have e0 : rd [(r : Int), (n : Int)] 0 = r := rfl
  have e1 : rd [(r : Int), (n : Int)] 1 = n := rfl
  have e2 : rd [(n : Int), (c : Int)] 0 = n := rfl
  have e3 : rd [(n : Int), (c : Int)] 1 = c := rfl
  unfold mulT
  simp only [e0, e1, e2, e3]
  rw [if_pos ⟨tmay_two hr hn h1 ha, tmay_two hn hc h2 hb, rfl, rfl, trivial⟩, size_two r c hr hc h3]
  simp

theorem mulT_ok {a b : Tensor} (h : (mulT a b).2 = 0) : ∃ r n c : Nat, a.Shape = [(r : Int), (n : Int)] ∧ b.Shape = [(n : Int), (c : Int)] ∧ 1 ≤ r ∧ 1 ≤ n ∧ 1 ≤ c ∧ a.Data.length = r * n ∧ b.Data.length = n * c ∧ r * n ≤ 4096 ∧ n * c ≤ 4096 ∧ r * c ≤ 4096 ∧
    mulT a b = (⟨[(r : Int), (c : Int)], mulData r n c a.Data b.Data⟩, 0) := by
  unfold mulT at h
  split at h
  · rename_i hc
    obtain ⟨ha, hb, l1, l2, hd⟩ := hc
    obtain ⟨r, n, sa, r1, n1, la, ba⟩ := two_dims ha l1
    obtain ⟨m, c, sb, m1, c1, lb, bb⟩ := two_dims hb l2
    rw [sa, sb] at hd
    have hnm : n = m := by
      have : (n : Int) = (m : Int) := hd
      omega
    subst hnm
    rw [sa, sb] at h
    have e0 : rd [(r : Int), (n : Int)] 0 = r := rfl
    have e3 : rd [(n : Int), (c : Int)] 1 = c := rfl
    rw [e0, e3] at h
    split at h
    · rename_i hs
      obtain ⟨k1, k2, _, k4⟩ := size_fits hs
      have e : prodL [(r : Int), (c : Int)] = ((r * c : Nat) : Int) := by simp [prodL]
      have hrc : r * c ≤ 4096 := by rw [k4, e] at k2; omega
      refine ⟨r, n, c, sa, sb, r1, n1, c1, la, lb, ba, bb, hrc, ?_⟩
      have ea : a = ⟨[(r : Int), (n : Int)], a.Data⟩ := by rw [← sa]
      have eb : b = ⟨[(n : Int), (c : Int)], b.Data⟩ := by rw [← sb]
      rw [ea, eb]
      exact mulT_mk r1 n1 c1 ba bb hrc la lb
    · rename_i hs; exact absurd h hs
  · simp at h

theorem mulData_len (r n c : Nat) (a b : List Nat) : (mulData r n c a b).length = r * c := by simp [mulData]
theorem mulData_get {r n c : Nat} {a b : List Nat} {i j : Nat} (hi : i < r) (hj : j < c) : (mulData r n c a b).getD (i * c + j) 0 = rowSum ((List.range n).map (fun k => fmul (a.getD (i * n + k) 0) (b.getD (k * c + j) 0))) := by
  have hlt := idx_lt hi hj
  rw [← mulAt_at n c i j a b hj]
  simp [mulData, List.getD, List.getElem?_map, hlt]

theorem idx64' (i n : Nat) (h : i * n ≤ 100000) : w64 ((i : Int) * (n : Int)) = ((i * n : Nat) : Int) := by
  rw [w64_id] <;> push_cast <;> have : (i : Int) * (n : Int) = ((i * n : Nat) : Int) := (by push_cast; rfl) <;> omega

theorem wf_u8 {x : Int} (h : (Lit.int .u8 x).wf = true) : 0 ≤ x ∧ x ≤ 255 := by
  have h1 : IntKind.u8.min = 0 := rfl
  have h2 : IntKind.u8.max = 255 := rfl
  simp [Lit.wf, IntKind.has, h1, h2] at h
  omega

theorem wf_i8 {x : Int} (h : (Lit.int .i8 x).wf = true) : x.natAbs ≤ 128 := by
  have h1 : IntKind.i8.min = -128 := rfl
  have h2 : IntKind.i8.max = 127 := rfl
  simp [Lit.wf, IntKind.has, h1, h2] at h
  omega

theorem tmod_nat {x : Int} (h : 0 ≤ x ∧ x ≤ 255) {r : Nat} (hr : 1 ≤ r) : ∃ i : Nat, Int.tmod (w64 x) (r : Int) = (i : Int) ∧ i < r := by
  rw [w64_id (by omega) (by omega), Int.tmod_eq_emod_of_nonneg h.1]
  have h1 := Int.emod_nonneg x (by omega : (r : Int) ≠ 0)
  have h2 := Int.emod_lt_of_pos x (by omega : 0 < (r : Int))
  exact ⟨(x % r).toNat, by omega, by omega⟩

end Go.Proofs.Ytkcgiolledmbnaa
