/- Plain law of FoldWhole: of small whole numbers the tree is the sum; of one it is it. -/
import Derived.Test.YtkcgiolledmbnabQA8
import Derived.Test.YtkcgiolledmbnabP9
import Derived.Test.YtkcgiolledmbnabP7
import Derived.Test.YtkcgiolledmbnabLFoldWhole
namespace Go.Proofs.Ytkcgiolledmbnab
open Go Go.RowKit
set_option linter.unusedSimpArgs false
set_option linter.unusedVariables false

abbrev Row4 := Int × Int × Int × Int
def rowT (r : Row4) : Tensor := ⟨[2, 2], [ofInt r.1, ofInt r.2.1, ofInt r.2.2.1, ofInt r.2.2.2]⟩
def small4 (r : Row4) : Prop := r.1.natAbs ≤ 32768 ∧ r.2.1.natAbs ≤ 32768 ∧ r.2.2.1.natAbs ≤ 32768 ∧ r.2.2.2.natAbs ≤ 32768

theorem isum_take {l : List Int} {j : Nat} (h : j < l.length) : isum (l.take j) + l[j] = isum (l.take (j + 1)) := by
  rw [List.take_succ_eq_append_getElem h, isum_append]; simp [isum]

theorem add_sum {l : List Int} (hl : l.length ≤ 200) (hb : ∀ x ∈ l, x.natAbs ≤ 32768) {j : Nat} (h : j < l.length) : w64 (isum (l.take j) + w64 l[j]) = isum (l.take (j + 1)) := by
  have h1 := hb l[j] (List.getElem_mem h)
  have h2 := isum_abs (l := l.take (j + 1)) (B := 32768) (fun x hx => hb x (List.mem_of_mem_take hx))
  have h3 : (l.take (j + 1)).length ≤ 200 := by rw [List.length_take]; omega
  have h4 : (l.take (j + 1)).length * 32768 ≤ 200 * 32768 := Nat.mul_le_mul_right _ h3
  rw [w64_id (x := l[j]) (by omega) (by omega), isum_take h, w64_id (by omega) (by omega)]

theorem row_loop (rows : List Row4) (s : Int × Int × Int × Int × Int × List Tensor) (j : Nat) (hj : j < rows.length) (hs : s.1 = (j : Int)) (a b c d : Int) :
    loop (law8_FoldWhole.l1 s rows) (0, a, b, c, d, []) = some (4, w64 (a + w64 rows[j].1), w64 (b + w64 rows[j].2.1), w64 (c + w64 rows[j].2.2.1), w64 (d + w64 rows[j].2.2.2), [ofInt rows[j].1, ofInt rows[j].2.1, ofInt rows[j].2.2.1, ofInt rows[j].2.2.2]) := by
  have hc : 0 ≤ s.1 ∧ s.1 < (rows.length : Int) := by omega
  have hr : rd rows s.1 = rows[j] := by rw [hs]; exact rd_nat rows j hj
  have s0 : ∀ a b c d (l : List Nat), l.length ≤ 10 → law8_FoldWhole.l1 s rows (0, a, b, c, d, l) = .next (1, w64 (a + w64 rows[j].1), b, c, d, l ++ [ofInt rows[j].1]) := fun a b c d l hl => by
    unfold law8_FoldWhole.l1; simp only [hr]; rw [if_pos (by omega), if_pos hc, if_pos trivial, if_pos (by omega)]
  have s1 : ∀ a b c d (l : List Nat), l.length ≤ 10 → law8_FoldWhole.l1 s rows (1, a, b, c, d, l) = .next (2, a, w64 (b + w64 rows[j].2.1), c, d, l ++ [ofInt rows[j].2.1]) := fun a b c d l hl => by
    unfold law8_FoldWhole.l1; simp only [hr]; rw [if_pos (by omega), if_pos hc, if_neg (by omega), if_pos trivial, if_pos (by omega)]
  have s2 : ∀ a b c d (l : List Nat), l.length ≤ 10 → law8_FoldWhole.l1 s rows (2, a, b, c, d, l) = .next (3, a, b, w64 (c + w64 rows[j].2.2.1), d, l ++ [ofInt rows[j].2.2.1]) := fun a b c d l hl => by
    unfold law8_FoldWhole.l1; simp only [hr]; rw [if_pos (by omega), if_pos hc, if_neg (by omega), if_neg (by omega), if_pos trivial, if_pos (by omega)]
  have s3 : ∀ a b c d (l : List Nat), l.length ≤ 10 → law8_FoldWhole.l1 s rows (3, a, b, c, d, l) = .next (4, a, b, c, w64 (d + w64 rows[j].2.2.2), l ++ [ofInt rows[j].2.2.2]) := fun a b c d l hl => by
    unfold law8_FoldWhole.l1; simp only [hr]; rw [if_pos (by omega), if_pos hc, if_neg (by omega), if_neg (by omega), if_neg (by omega), if_pos trivial, if_pos (by omega)]
  have s4 : ∀ a b c d (l : List Nat), law8_FoldWhole.l1 s rows (4, a, b, c, d, l) = .done (4, a, b, c, d, l) := fun a b c d l => by
    unfold law8_FoldWhole.l1; rw [if_neg (by simp)]
  rw [loop_eq, s0 _ _ _ _ _ (by simp)]
  simp only [Step.go]
  rw [loop_eq, s1 _ _ _ _ _ (by simp)]
  simp only [Step.go]
  rw [loop_eq, s2 _ _ _ _ _ (by simp)]
  simp only [Step.go]
  rw [loop_eq, s3 _ _ _ _ _ (by simp)]
  simp only [Step.go]
  rw [loop_eq, s4]
  rfl

theorem rows_loop (rows : List Row4) (hl : rows.length ≤ 200) (hb : ∀ r ∈ rows, small4 r) :
    loop (law8_FoldWhole.l0 rows) (0, 0, 0, 0, 0, []) = some ((rows.length : Int), isum (rows.map (·.1)), isum (rows.map (·.2.1)), isum (rows.map (·.2.2.1)), isum (rows.map (·.2.2.2)), rows.map rowT) := by
  refine loop_to _ (fun k st => ∃ j : Nat, k + j = rows.length ∧ st = ((j : Int), isum ((rows.map (·.1)).take j), isum ((rows.map (·.2.1)).take j), isum ((rows.map (·.2.2.1)).take j), isum ((rows.map (·.2.2.2)).take j), (rows.take j).map rowT)) ?_ rows.length _ ⟨0, rfl, rfl⟩
  rintro k _ ⟨j, hk, rfl⟩
  unfold law8_FoldWhole.l0
  by_cases hj : j < rows.length
  · right
    simp only
    rw [if_pos (by omega), row_loop rows _ j hj rfl]
    simp only [bindS]
    rw [if_pos (by simp; omega)]
    have q : ∀ (f : Row4 → Int), (∀ r ∈ rows, (f r).natAbs ≤ 32768) → w64 (isum ((rows.map f).take j) + w64 (f rows[j])) = isum ((rows.map f).take (j + 1)) := fun f hf => by
      have := add_sum (l := rows.map f) (by simpa using hl) (fun x hx => by obtain ⟨r, hr, rfl⟩ := List.mem_map.1 hx; exact hf r hr) (j := j) (by simpa using hj)
      rw [List.getElem_map] at this
      exact this
    refine ⟨_, k - 1, rfl, by omega, j + 1, by omega, ?_⟩
    rw [q (·.1) (fun r hr => (hb r hr).1), q (·.2.1) (fun r hr => (hb r hr).2.1), q (·.2.2.1) (fun r hr => (hb r hr).2.2.1), q (·.2.2.2) (fun r hr => (hb r hr).2.2.2), w64_id (by omega) (by omega)]
    rw [List.take_succ_eq_append_getElem hj, List.map_append]
    rfl
  · left
    have hz : j = rows.length := by omega
    subst hz
    simp only
    rw [if_neg (by omega), List.take_of_length_le (by simp), List.take_of_length_le (by simp), List.take_of_length_le (by simp), List.take_of_length_le (by simp), List.take_length]

theorem end_loop (r : Tensor × Int) (s : Int × Int × Int × Int × Int × List Tensor) (h4 : (r.1.Data.length : Int) = 4) (h0 : fne (rd r.1.Data 0) (ofInt s.2.1) = false) (h1 : fne (rd r.1.Data 1) (ofInt s.2.2.1) = false) (h2 : fne (rd r.1.Data 2) (ofInt s.2.2.2.1) = false) (h3 : fne (rd r.1.Data 3) (ofInt s.2.2.2.2.1) = false) :
    loop (law8_FoldWhole.l2 r s) 0 = some (.go 4) := by
  have s0 : law8_FoldWhole.l2 r s 0 = .next 1 := by unfold law8_FoldWhole.l2; rw [if_pos (by omega), if_pos (by omega), if_pos rfl, if_pos (by omega), h0, if_neg (by simp)]
  have s1 : law8_FoldWhole.l2 r s 1 = .next 2 := by unfold law8_FoldWhole.l2; rw [if_pos (by omega), if_pos (by omega), if_neg (by omega), if_pos rfl, if_pos (by omega), h1, if_neg (by simp)]
  have s2 : law8_FoldWhole.l2 r s 2 = .next 3 := by unfold law8_FoldWhole.l2; rw [if_pos (by omega), if_pos (by omega), if_neg (by omega), if_neg (by omega), if_pos rfl, if_pos (by omega), h2, if_neg (by simp)]
  have s3 : law8_FoldWhole.l2 r s 3 = .next 4 := by unfold law8_FoldWhole.l2; rw [if_pos (by omega), if_pos (by omega), if_neg (by omega), if_neg (by omega), if_neg (by omega), if_pos rfl, if_pos (by omega), h3, if_neg (by simp)]
  have s4 : law8_FoldWhole.l2 r s 4 = .done (.go 4) := by unfold law8_FoldWhole.l2; rw [if_neg (by omega)]
  rw [loop_eq, s0]; simp only [Step.go]
  rw [loop_eq, s1]; simp only [Step.go]
  rw [loop_eq, s2]; simp only [Step.go]
  rw [loop_eq, s3]; simp only [Step.go]
  rw [loop_eq, s4]; rfl

theorem tmay_row (r : Row4) : tmay (rowT r) = true := by
  unfold tmay rowT
  rw [show size [2, 2] = (4, 0) by decide +kernel]
  rfl

theorem treeD_rd (L : List Tensor) (i : Nat) (h : i < 4) : rd (treeD L 4) (i : Int) = tree (L.map (fun t => t.Data.getD i 0)) := by
  rw [rd_nat _ i (by simp [treeD]; omega)]
  simp [treeD]

set_option maxHeartbeats 2000000 in
theorem law8_FoldWhole.plain (rows : List Row4) (x : Nat × Nat × Nat × Nat) (hb : ∀ r ∈ rows, small4 r) : law8_FoldWhole.f rows x = some true := by
  unfold law8_FoldWhole.f
  rw [law8_awake_ev, obind, if_pos rfl]
  by_cases c0 : 200 < (rows.length : Int)
  · rw [if_pos c0]
  have hl : rows.length ≤ 200 := by omega
  have hone : tmay ⟨[4], [x.1, x.2.1, x.2.2.1, x.2.2.2]⟩ = true := by
    unfold tmay
    rw [show size [4] = (4, 0) by decide +kernel]
    rfl
  have hf1 : fitL [⟨[4], [x.1, x.2.1, x.2.2.1, x.2.2.2]⟩] := fun t ht => by
    simp only [List.mem_singleton] at ht
    subst ht
    exact ⟨hone, rfl⟩
  have e1 : treeT [⟨[4], [x.1, x.2.1, x.2.2.1, x.2.2.2]⟩] = (⟨[4], [x.1, x.2.1, x.2.2.1, x.2.2.2]⟩, 0) := by
    have e0 : ∀ a : Nat, tree [a] = a := fun a => tree_small (by simp)
    rw [treeT_fits (by simp) hf1]
    have e3 : rd [(⟨[4], [x.1, x.2.1, x.2.2.1, x.2.2.2]⟩ : Tensor)] 0 = ⟨[4], [x.1, x.2.1, x.2.2.1, x.2.2.2]⟩ := rfl
    rw [e3]
    simp [treeD, List.range_succ, e0]
  rw [if_neg c0, rows_loop rows hl hb, obind, fold_Tree_eq _ (by simp), obind, e1]
  simp only
  rw [if_pos trivial, ref1_SameTensor_eq _ _ (by simp) (by simp), obind, sameT_refl, if_pos rfl]
  by_cases c1 : (rows.length : Int) = 0
  · rw [if_pos c1]
  have hne : rows.map rowT ≠ [] := by
    intro h
    have := congrArg List.length h
    rw [List.length_map, List.length_nil] at this
    omega
  have h00 : rd (rows.map rowT) 0 = rowT rows[0] := by
    rw [show (0 : Int) = ((0 : Nat) : Int) from rfl, rd_nat _ 0 (by simp; omega)]
    simp
  have hf : fitL (rows.map rowT) := fun t ht => by
    obtain ⟨r, hr, rfl⟩ := List.mem_map.1 ht
    rw [h00]
    exact ⟨tmay_row r, rfl⟩
  have e2 := treeT_fits hne hf
  have hd : (rd (rows.map rowT) 0).Data.length = 4 := by rw [h00]; rfl
  rw [hd] at e2
  have col : ∀ (i : Nat) (f : Row4 → Int), (∀ r, (rowT r).Data.getD i 0 = ofInt (f r)) → (∀ r ∈ rows, (f r).natAbs ≤ 32768) → Whole (tree ((rows.map rowT).map (fun t => t.Data.getD i 0))) (isum (rows.map f)) := fun i f hfi hfb => by
    refine tree_whole (B := 32768) _ _ _ (Nat.le_refl _) ⟨by simp, fun k h k' => ?_⟩ (fun y hy => ?_) (by simp; omega)
    · simp only [List.length_map] at h
      simp only [List.getElem_map]
      rw [hfi]
      exact Whole.ofInt (by have := hfb rows[k] (List.getElem_mem h); omega)
    · obtain ⟨r, hr, rfl⟩ := List.mem_map.1 hy
      exact hfb r hr
  have fin : ∀ (f : Row4 → Int) (w : Nat), (∀ r ∈ rows, (f r).natAbs ≤ 32768) → Whole w (isum (rows.map f)) → fne w (ofInt (isum (rows.map f))) = false := fun f w hfb hw => by
    have h1 := isum_abs (l := rows.map f) (B := 32768) (fun y hy => by obtain ⟨r, hr, rfl⟩ := List.mem_map.1 hy; exact hfb r hr)
    simp only [List.length_map] at h1
    have h2 : rows.length * 32768 ≤ 200 * 32768 := Nat.mul_le_mul_right _ hl
    rw [hw.fne (Whole.ofInt (by omega))]
    simp
  have b0 := fun r hr => (hb r hr).1
  have b1 := fun r hr => (hb r hr).2.1
  have b2 := fun r hr => (hb r hr).2.2.1
  have b3 := fun r hr => (hb r hr).2.2.2
  rw [if_neg c1, fold_Tree_eq _ (by simp; omega), obind, e2]
  simp only
  have q0 := fin (·.1) _ b0 (col 0 (·.1) (fun _ => rfl) b0)
  have q1 := fin (·.2.1) _ b1 (col 1 (·.2.1) (fun _ => rfl) b1)
  have q2 := fin (·.2.2.1) _ b2 (col 2 (·.2.2.1) (fun _ => rfl) b2)
  have q3 := fin (·.2.2.2) _ b3 (col 3 (·.2.2.2) (fun _ => rfl) b3)
  rw [← treeD_rd _ 0 (by decide)] at q0
  rw [← treeD_rd _ 1 (by decide)] at q1
  rw [← treeD_rd _ 2 (by decide)] at q2
  rw [← treeD_rd _ 3 (by decide)] at q3
  rw [if_pos trivial, if_pos (by simp [treeD]), end_loop _ _ (by simp [treeD]) q0 q1 q2 q3, obind]
  rfl

end Go.Proofs.Ytkcgiolledmbnab
