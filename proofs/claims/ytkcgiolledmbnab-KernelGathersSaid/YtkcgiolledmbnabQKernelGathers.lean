/- Plain law of KernelGathers: gathered in two steps it is what it is in one, of small whole numbers. -/
import Derived.Test.YtkcgiolledmbnabQA4
import Derived.Test.YtkcgiolledmbnabP16
import Derived.Test.YtkcgiolledmbnabP19
import Derived.Test.YtkcgiolledmbnabP11
import Derived.Test.YtkcgiolledmbnabLKernelGathers
namespace Go.Proofs.Ytkcgiolledmbnab
open Go Go.RowKit
set_option linter.unusedSimpArgs false
set_option linter.unusedVariables false

theorem prod_at : ∀ (s : List Int) (q : Nat) (h : q < s.length), ∃ c, prodL s = c * (s[q] * prodL (s.drop (q + 1)))
  | x :: s, 0, _ => ⟨1, by simp [prodL_cons]⟩
  | x :: s, q + 1, h => by
    obtain ⟨c, hc⟩ := prod_at s q (by simpa using h)
    exact ⟨x * c, by rw [prodL_cons, hc]; simp [Int.mul_assoc]⟩

theorem digit {n d x c i : Int} (hn : n = c * (x * d)) (hd : 1 ≤ d) : (i % n) / d % x = i / d % x := by
  have h : i = i % n + (c * x * (i / n)) * d := by
    have := Int.mul_ediv_add_emod i n
    have e : ∀ t, c * (x * d) * t = c * x * t * d := fun t => by simp only [Int.mul_comm, Int.mul_left_comm, Int.mul_assoc]
    have e := e (i / n)
    rw [← hn] at e
    omega
  conv => rhs; rw [h]
  rw [Int.add_mul_ediv_right _ _ (by omega), show c * x * (i / n) = x * (c * (i / n)) from by rw [Int.mul_comm c x, Int.mul_assoc], Int.add_mul_emod_self_left]

theorem place_cons {r : List Int} {x : Int} (ht : may (x :: r) = true) (hs : may r = true) {i : Int} (h0 : 0 ≤ i) (h1 : i < prodL (x :: r)) : place (x :: r) i = (i / prodL r % x) :: place r (i % prodL r) := by
  have hp := may_pos hs
  have n0 := prodL_pos hp
  have r0 := Int.emod_nonneg i (by omega : prodL r ≠ 0)
  have r1 := Int.emod_lt_of_pos i (by omega : 0 < prodL r)
  unfold place
  rw [if_pos ⟨ht, h0, h1⟩, if_pos ⟨hs, r0, r1⟩]
  apply List.ext_getElem
  · simp [fillN]
  · intro q h2 h3
    rw [fillN_get, if_pos (Nat.zero_le _)]
    cases q with
    | zero => simp [placeAt]
    | succ q =>
      have hq : q < r.length := by simpa [fillN] using h3
      obtain ⟨c, hc⟩ := prod_at r q hq
      have hd := prodL_pos (drop_pos hp (q + 1))
      rw [List.getElem_cons_succ, fillN_get, if_pos (Nat.zero_le _)]
      unfold placeAt
      simp only [List.drop_succ_cons, List.getD_cons_succ]
      rw [getD_get _ _ _ hq, digit hc hd]

theorem under_cons {s p : List Int} {y : Int} (h : s.length ≤ p.length) : under s (y :: p) = under s p := by
  unfold under
  congr 1
  unfold maskP
  apply List.map_congr_left
  intro q hq
  unfold maskF
  rw [show (y :: p).length - s.length + q = (p.length - s.length + q) + 1 by simp only [List.length_cons]; omega, List.getD_cons_succ]

theorem under_one {r : List Int} (h1 : may (1 :: r) = true) (hr : may r = true) {t y : Int} (h0 : 0 ≤ t) (ht : t < prodL r) : under (1 :: r) (y :: place r t) = t := by
  obtain ⟨hl, hv⟩ := place_in hr h0 ht
  have m : maskP (1 :: r) (y :: place r t) = 0 :: place r t := by
    apply List.ext_getElem
    · simp [maskP, hl]
    · intro q h2 h3
      simp only [maskP, List.getElem_map, List.getElem_range, maskF]
      rw [show (y :: place r t).length - (1 :: r).length + q = q by simp only [List.length_cons, hl]; omega]
      cases q with
      | zero => simp
      | succ q =>
        have hq : q < r.length := by simpa [hl] using h3
        obtain ⟨v1, v2⟩ := hv q hq (by omega)
        rw [List.getD_cons_succ, List.getD_cons_succ, getD_get _ _ _ hq, getD_get _ _ _ (by omega), List.getElem_cons_succ]
        split
        · omega
        · rfl
  unfold under
  rw [m]
  have e := index_place hr h0 ht
  unfold index at e ⊢
  rw [if_pos ⟨hr, hl⟩] at e
  rw [if_pos ⟨h1, by simp [hl]⟩, idxGo_cons, if_neg (by omega), if_neg (by omega)]
  exact e

theorem gRow_whole {a : Tensor} {s : List Int} {N B : Nat} {v : Nat → Int} (hv : ∀ j, j < N → Whole (a.Data.getD j 0) (v j) ∧ (v j).natAbs ≤ B) (hB : N * B < 2 ^ 53) (q : Nat) :
    Whole (tree (gRow a s N q)) (isum (((List.range N).filter (fun j => decide (gAt a s j = q))).map v)) ∧ (isum (((List.range N).filter (fun j => decide (gAt a s j = q))).map v)).natAbs ≤ N * B := by
  have hlen : ((List.range N).filter (fun j => decide (gAt a s j = q))).length ≤ N := Nat.le_trans (List.length_filter_le _ _) (by simp)
  have hmem : ∀ j ∈ (List.range N).filter (fun j => decide (gAt a s j = q)), j < N := fun j hj => by
    have := (List.mem_filter.1 hj).1
    simpa using this
  have hb : ∀ y ∈ ((List.range N).filter (fun j => decide (gAt a s j = q))).map v, y.natAbs ≤ B := fun y hy => by
    obtain ⟨j, hj, rfl⟩ := List.mem_map.1 hy
    exact (hv j (hmem j hj)).2
  have hle : ((List.range N).filter (fun j => decide (gAt a s j = q))).length * B ≤ N * B := Nat.mul_le_mul_right _ hlen
  refine ⟨?_, ?_⟩
  · unfold gRow
    refine tree_whole (B := B) _ _ _ (Nat.le_refl _) ⟨by simp, fun i h k => ?_⟩ hb (by rw [List.length_map]; omega)
    rw [List.getElem_map, List.getElem_map]
    exact (hv _ (hmem _ (List.getElem_mem _))).1
  · have := isum_abs hb
    rw [List.length_map] at this
    omega

theorem lo_whole : Whole 13875379345695965184 (-1000) := by
  have h := Whole.ofInt (n := -1000) (by decide)
  have e : ofInt (-1000) = 13875379345695965184 := by decide +kernel
  rw [e] at h
  exact h
theorem hi_whole : Whole 4652007308841189376 1000 := by
  have h := Whole.ofInt (n := 1000) (by decide)
  have e : ofInt 1000 = 4652007308841189376 := by decide +kernel
  rw [e] at h
  exact h

theorem gathers_loop (t : Tensor) (hn : t.Data.length ≤ 4096) : ∃ r, loop (law4_KernelGathers.l0 t) 0 = some r ∧ (r = .ret true ∨ (∃ y, r = .go y) ∧ ∀ j, j < t.Data.length → ∃ n : Int, Whole (t.Data.getD j 0) n ∧ n.natAbs ≤ 1000) := by
  refine loop_ex (body := law4_KernelGathers.l0 t) (fun r => r = .ret true ∨ (∃ y, r = .go y) ∧ ∀ j, j < t.Data.length → ∃ n : Int, Whole (t.Data.getD j 0) n ∧ n.natAbs ≤ 1000) (fun k st => ∃ j : Nat, k + j = t.Data.length ∧ st = (j : Int) ∧ ∀ i, i < j → ∃ n : Int, Whole (t.Data.getD i 0) n ∧ n.natAbs ≤ 1000) (fun k st ⟨j, hk, hst, hi⟩ => by
    subst hst
    unfold law4_KernelGathers.l0
    by_cases hj : j < t.Data.length
    · rw [if_pos (by omega), if_pos (by omega), rd_nat _ j hj]
      by_cases c1 : fge t.Data[j] 13875379345695965184 = true
      · by_cases c2 : fle t.Data[j] 4652007308841189376 = true
        · obtain ⟨s, m, i, h1, h2⟩ := between (B := 1000) (by decide) lo_whole hi_whole c1 c2
          obtain ⟨n, h3, h4⟩ := ftoi_between (B := 1000) (by decide) h1 h2
          rw [if_pos c1, if_pos c2, h3]
          simp only [bindS]
          by_cases c3 : fne t.Data[j] (ofInt n) = true
          · left
            rw [if_pos c3]
            exact ⟨_, rfl, .inl rfl⟩
          · right
            rw [if_neg c3]
            refine ⟨_, k - 1, rfl, by omega, j + 1, by omega, by rw [w64_id (by omega) (by omega)]; rfl, fun q hq => ?_⟩
            by_cases e : q = j
            · subst e
              exact ⟨n, by rw [getD_get _ _ _ hj]; exact whole_of_eq h1 (by omega) (by simpa using c3), h4⟩
            · exact hi q (by omega)
        · left
          rw [if_pos c1, if_neg c2]
          exact ⟨_, rfl, .inl rfl⟩
      · left
        rw [if_neg c1]
        exact ⟨_, rfl, .inl rfl⟩
    · left
      have hz : j = t.Data.length := by omega
      rw [if_neg (by omega)]
      exact ⟨_, rfl, .inr ⟨⟨_, rfl⟩, fun q hq => hi q (by omega)⟩⟩) t.Data.length _ ⟨0, by omega, rfl, fun i hi => absurd hi (by omega)⟩

theorem law4_KernelGathers.plain (t : Tensor) (front : Int) (hf : 0 ≤ front ∧ front ≤ 255) : law4_KernelGathers.f t front = some true := by
  unfold law4_KernelGathers.f
  rw [law4_awake_ev, obind, if_pos rfl, law3_Small_ex, obind]
  by_cases c0 : smallP t
  rotate_left
  · rw [if_neg (by simpa using c0)]
  rw [if_pos (by simpa using c0), ref1_TensorMay_eq, obind]
  by_cases hm : tmay t = true
  rotate_left
  · rw [if_neg hm]
  rw [if_pos hm]
  by_cases c1 : (t.Shape.length : Int) < 2
  · rw [if_pos c1]
  obtain ⟨m1, m2, m3, m4, m5⟩ := tmay_fits hm
  obtain ⟨r0, e0, hr0⟩ := gathers_loop t m4
  rw [if_neg c1, e0, obind]
  rcases hr0 with rfl | ⟨⟨y, rfl⟩, hw⟩
  · rfl
  simp only [Out2.on]
  obtain ⟨sh, d⟩ := t
  simp only at m1 m2 m3 m4 m5 c1 hw ⊢
  cases sh with
  | nil => simp at c1
  | cons x r =>
  have hlen : (x :: r).length = r.length + 1 := rfl
  obtain ⟨k, ek, hk⟩ := tmod_nat hf (r := r.length) (by omega)
  have el : w64 (((x :: r).length : Int) - 1) = (r.length : Int) := by rw [w64_id (by omega) (by omega)]; omega
  have ek' : w64 (1 + Int.tmod (w64 front) (r.length : Int)) = ((k + 1 : Nat) : Int) := by rw [ek, w64_id (by omega) (by omega)]; omega
  have mr : may r = true := may_drop m1 1
  have mo := may_one m1
  have me : may (r.drop k) = true := may_drop mr k
  have hp := may_pos mr
  have n0 := prodL_pos hp
  have po : prodL (1 :: r) = prodL r := by rw [prodL_cons, Int.one_mul]
  have pl := may_le mr
  rw [el, ek', if_pos (by omega), if_pos (by omega), if_pos (by simp), if_pos (by omega), if_pos (by omega)]
  have em : put (([] : List Int) ++ x :: r) 0 1 = 1 :: r := rfl
  have ee : ([] : List Int) ++ ((List.take (x :: r).length (x :: r)).drop (((k + 1 : Nat) : Int)).toNat) = r.drop k := by
    rw [List.take_length, List.nil_append]; rfl
  rw [em, ee]
  have s1 : Sub (1 :: r) (x :: r) := ⟨mo, m1, Nat.le_refl _, fun q hq => by
    by_cases h : q < r.length
    · left; unfold nm; rw [dif_pos (by simp; omega), dif_pos (by simp; omega)]
      have e : ∀ z : Int, (z :: r).length - 1 - q = (r.length - 1 - q) + 1 := fun z => by simp only [List.length_cons]; omega
      simp only [e, List.getElem_cons_succ]
    · right; unfold nm; rw [dif_pos hq]
      have e : (1 :: r).length - 1 - q = 0 := by simp only [List.length_cons]; omega
      simp only [e, List.getElem_cons_zero]⟩
  have hle : (r.drop k).length ≤ r.length := by rw [List.length_drop]; omega
  have s2 : ∀ z : Int, may (z :: r) = true → Sub (r.drop k) (z :: r) := fun z hz => ⟨me, hz, by simp only [List.length_cons]; omega, fun q hq => .inl (by
    have h := nm_drop (z :: r) (k + 1) (k := q) hq
    exact h)⟩
  generalize hN : d.length = N at *
  generalize hn : (prodL r).toNat = n at *
  have hpn : prodL r = (n : Int) := by omega
  have g1 : gatherT ⟨x :: r, d⟩ (1 :: r) = (⟨1 :: r, (List.range n).map (fun q => tree (gRow ⟨x :: r, d⟩ (1 :: r) N q))⟩, 0) := by
    unfold gatherT
    rw [if_pos ⟨hm, into_iff.2 s1⟩, po, hn, hN]
  rw [kernel_Gather_eq, obind, g1]
  generalize hb : (⟨1 :: r, (List.range n).map (fun q => tree (gRow ⟨x :: r, d⟩ (1 :: r) N q))⟩ : Tensor) = b
  have bs : b.Shape = 1 :: r := by rw [← hb]
  have bl : b.Data.length = n := by rw [← hb]; simp
  have tb : tmay b = true := by
    unfold tmay
    rw [bs, bl, size_may mo]
    exact decide_eq_true ⟨rfl, by rw [po, hpn]⟩
  have g2 : gatherT b (r.drop k) = (⟨r.drop k, (List.range (prodL (r.drop k)).toNat).map (fun q => tree (gRow b (r.drop k) n q))⟩, 0) := by
    unfold gatherT
    rw [if_pos ⟨tb, by rw [bs]; exact into_iff.2 (s2 1 mo)⟩, bl]
  have g3 : gatherT ⟨x :: r, d⟩ (r.drop k) = (⟨r.drop k, (List.range (prodL (r.drop k)).toNat).map (fun q => tree (gRow ⟨x :: r, d⟩ (r.drop k) N q))⟩, 0) := by
    unfold gatherT
    rw [if_pos ⟨hm, into_iff.2 (s2 x m1)⟩, hN]
  rw [kernel_Gather_eq, obind, g2, kernel_Gather_eq, obind, g3]
  simp only
  rw [if_pos trivial, if_pos trivial, if_pos trivial, if_pos (by simp)]
  -- where each number goes
  have pe : prodL (r.drop k) ≤ 4096 := may_le me
  have f1 : ∀ j, j < N → gAt ⟨x :: r, d⟩ (1 :: r) j = j % n := fun j hj => by
    unfold gAt
    simp only
    have a0 := Int.emod_nonneg (j : Int) (by omega : prodL r ≠ 0)
    have a1 := Int.emod_lt_of_pos (j : Int) (by omega : 0 < prodL r)
    rw [place_cons m1 mr (by omega) (by omega), under_one mo mr a0 a1, hpn]
    omega
  have f2 : ∀ j, j < N → gAt ⟨x :: r, d⟩ (r.drop k) j = gAt b (r.drop k) (j % n) := fun j hj => by
    have hn1 : 0 < n := by omega
    have hjn := Nat.mod_lt j hn1
    unfold gAt
    rw [bs]
    simp only
    have a0 := Int.emod_nonneg (j : Int) (by omega : prodL r ≠ 0)
    have a1 := Int.emod_lt_of_pos (j : Int) (by omega : 0 < prodL r)
    have l1 := (place_in mr a0 a1).1
    have ec : ((j % n : Nat) : Int) = (j : Int) % prodL r := by rw [hpn]; omega
    rw [place_cons m1 mr (by omega) (by omega), place_cons mo mr (i := ((j % n : Nat) : Int)) (by omega) (by rw [po]; omega), ec, Int.emod_eq_of_lt a0 a1, under_cons (by omega), under_cons (by omega)]
  -- what they are
  have hv : ∃ v : Nat → Int, ∀ j, j < N → Whole (d.getD j 0) (v j) ∧ (v j).natAbs ≤ 1000 := by
    refine ⟨fun j => if h : j < N then Classical.choose (hw j h) else 0, fun j hj => ?_⟩
    simp only [dif_pos hj]
    exact Classical.choose_spec (hw j hj)
  obtain ⟨v, hv⟩ := hv
  have w1 := fun q => gRow_whole (a := ⟨x :: r, d⟩) (s := 1 :: r) (B := 1000) hv (by omega) q
  have w3 := fun q => gRow_whole (a := ⟨x :: r, d⟩) (s := r.drop k) (B := 1000) hv (by omega) q
  have w2 := fun q => gRow_whole (a := b) (s := r.drop k) (N := n) (B := N * 1000) (v := fun q => isum (((List.range N).filter (fun j => decide (gAt ⟨x :: r, d⟩ (1 :: r) j = q))).map v)) (fun q hq => by
    rw [← hb]
    simp only
    rw [getD_get _ _ _ (by simpa using hq)]
    simp only [List.getElem_map, List.getElem_range]
    exact w1 q) (by
      have : n * (N * 1000) ≤ 4096 * (4096 * 1000) := Nat.mul_le_mul (by omega) (by omega)
      omega) q
  rw [same_loop (prodL (r.drop k)).toNat (by omega) (fun j hj => ?_) ?_, obind]
  · unfold law4_KernelGathers.l1
    simp only [List.length_map, List.length_range]
    rw [if_neg (by omega)]
  · unfold law4_KernelGathers.l1
    simp only [List.length_map, List.length_range]
    have e1 : rd ((List.range (prodL (r.drop k)).toNat).map (fun q => tree (gRow b (r.drop k) n q))) (j : Int) = tree (gRow b (r.drop k) n j) := by
      rw [rd_nat _ j (by simpa using hj)]; simp
    have e2 : rd ((List.range (prodL (r.drop k)).toNat).map (fun q => tree (gRow ⟨x :: r, d⟩ (r.drop k) N q))) (j : Int) = tree (gRow ⟨x :: r, d⟩ (r.drop k) N j) := by
      rw [rd_nat _ j (by simpa using hj)]; simp
    have key : isum (((List.range n).filter (fun q => decide (gAt b (r.drop k) q = j))).map (fun q => isum (((List.range N).filter (fun j => decide (gAt ⟨x :: r, d⟩ (1 :: r) j = q))).map v))) = isum (((List.range N).filter (fun i => decide (gAt ⟨x :: r, d⟩ (r.drop k) i = j))).map v) := by
      rw [sums_of_sums n (gAt ⟨x :: r, d⟩ (1 :: r)) (fun q => decide (gAt b (r.drop k) q = j)) v N (fun i hi => by rw [f1 i hi]; exact Nat.mod_lt _ (by omega))]
      congr 2
      apply List.filter_congr
      intro i hi
      have hi' : i < N := by simpa using hi
      rw [f1 i hi', f2 i hi']
    have a2 := (w2 j).1
    rw [key] at a2
    rw [if_pos (by omega), if_pos (by omega), if_pos (by omega), e1, e2, a2.fne (w3 j).1]
    simp

end Go.Proofs.Ytkcgiolledmbnab
