/- Plain law of TensorAsks. -/
import Derived.Test.YtkcgiolledmbnabQA3
import Derived.Test.YtkcgiolledmbnabP11
import Derived.Test.YtkcgiolledmbnabP12
import Derived.Test.YtkcgiolledmbnabP16
import Derived.Test.YtkcgiolledmbnabLTensorAsks
namespace Go.Proofs.Ytkcgiolledmbnab
open Go Go.RowKit
set_option linter.unusedSimpArgs false
set_option linter.unusedVariables false

theorem idxGo_lt : ∀ (s p : List Int) (n m : Int), (∀ x ∈ s, 1 ≤ x) → p.length = s.length → 0 ≤ n → idxGo s p n = some m → 0 ≤ m ∧ m < (n + 1) * prodL s
  | [], [], n, m, _, _, h0, h => by simp only [idxGo, Option.some.injEq] at h; subst h; exact ⟨h0, by simp [prodL]; omega⟩
  | x :: s, a :: p, n, m, hp, hl, h0, h => by
    rw [idxGo_cons] at h
    have hx := hp x (by simp)
    have hps := prodL_pos (s := s) (fun y hy => hp y (by simp [hy]))
    split at h
    · cases h
    · split at h
      · cases h
      · have hnx : 0 ≤ n * x := Int.mul_nonneg h0 (by omega)
        obtain ⟨k1, k2⟩ := idxGo_lt s p (n * x + a) m (fun y hy => hp y (by simp [hy])) (by simpa using hl) (by omega) h
        refine ⟨k1, ?_⟩
        rw [prodL_cons, ← Int.mul_assoc]
        have e : (n + 1) * x = n * x + x := by rw [Int.add_mul, Int.one_mul]
        have : (n * x + a + 1) * prodL s ≤ (n + 1) * x * prodL s := Int.mul_le_mul_of_nonneg_right (by rw [e]; omega) (by omega)
        omega

theorem index_lt {s p : List Int} (hm : may s = true) (h : 0 ≤ index s p) : index s p < prodL s := by
  have hp := may_pos hm
  have hps := prodL_pos hp
  unfold index at h ⊢
  split
  · rename_i hc
    rw [if_pos hc] at h
    cases hi : idxGo s p 0 with
    | none => simp only [Option.getD_none]; omega
    | some m =>
      have := (idxGo_lt s p 0 m hp hc.2 (by omega) hi).2
      simp only [Option.getD_some]
      omega
  · omega

theorem real_Same_eq (x y : Nat) : real_Same.f x y = some (decide (bitsOf x = bitsOf y)) := by
  have hb : ∀ x, real_Bits.f x = some (bitsOf x) := fun x => by
    unfold real_Bits.f bitsOf
    split <;> rfl
  unfold real_Same.f
  rw [hb, obind, hb, obind]
  by_cases h : bitsOf x = bitsOf y <;> simp [h]

theorem tensor_Same_eq (a b : Tensor) (h1 : a.Shape.length ≤ 9223372036854775806) (h2 : a.Data.length ≤ 9223372036854775806) : tensor_Same.f a b = some (sameT a b) := by
  unfold tensor_Same.f sameT
  rw [shape_Same_eq _ _ h1, obind]
  by_cases hs : a.Shape = b.Shape
  · rw [if_pos (decide_eq_true hs)]
    unfold slices_EqualFunc_float64_real_Same.f
    by_cases hl : a.Data.length = b.Data.length
    · rw [if_pos (by omega)]
      have key : loop (slices_EqualFunc_float64_real_Same.l0 a.Data b.Data) 0 = some (if a.Data.map bitsOf = b.Data.map bitsOf then .go (a.Data.length : Int) else .ret false) := by
        refine loop_to _ (fun k st => ∃ j : Nat, k + j = a.Data.length ∧ st = (j : Int) ∧ ∀ i, i < j → (p : i < a.Data.length) → (q : i < b.Data.length) → bitsOf a.Data[i] = bitsOf b.Data[i]) ?_ a.Data.length _ ⟨0, rfl, rfl, fun i h => by omega⟩
        rintro k _ ⟨j, hk, rfl, h3⟩
        unfold slices_EqualFunc_float64_real_Same.l0
        by_cases hj : j < a.Data.length
        · rw [if_pos (by omega), if_pos (by omega), if_pos (by omega), rd_nat _ j hj, rd_nat _ j (by omega), real_Same_eq]
          simp only [bindS]
          by_cases hc : bitsOf a.Data[j] = bitsOf (b.Data[j]'(by omega))
          · right
            rw [if_pos (decide_eq_true hc)]
            refine ⟨_, k - 1, rfl, by omega, j + 1, by omega, by rw [w64_id (by omega) (by omega)]; rfl, fun i hi p q => ?_⟩
            by_cases h : i = j
            · subst h; exact hc
            · exact h3 i (by omega) p q
          · left
            rw [if_neg (by simp [hc]), if_neg]
            intro c
            apply hc
            have := congrArg (fun l => l[j]?) c
            simpa [List.getElem?_map, List.getElem?_eq_getElem hj, List.getElem?_eq_getElem (by omega : j < b.Data.length)] using this
        · left
          have hz : j = a.Data.length := by omega
          rw [if_neg (by omega), if_pos, hz]
          apply List.ext_getElem
          · simpa using hl
          · intro i p q
            simp only [List.getElem_map]
            simp only [List.length_map] at p q
            exact h3 i (by omega) p q
      rw [key, obind]
      by_cases hc : a.Data.map bitsOf = b.Data.map bitsOf
      · rw [if_pos hc, decide_eq_true ⟨hs, hc⟩]; rfl
      · rw [if_neg hc, decide_eq_false (fun c => hc c.2)]; rfl
    · rw [if_neg (by omega), decide_eq_false]
      · rfl
      · intro c
        apply hl
        have := congrArg List.length c.2
        simpa using this
  · rw [if_neg (by simp [hs]), decide_eq_false (fun c => hs c.1)]

theorem tensor_odd_eq (x : Nat) : tensor_odd.f x = some (oddB x) := by
  unfold tensor_odd.f math_IsNaN.f oddB
  by_cases h : fne x x = true
  · rw [if_pos h, obind, if_pos rfl, h]; rfl
  · rw [if_neg h, obind, if_neg (by simp), math_IsInf0_eq, obind]
    have : fne x x = false := by simpa using h
    rw [this, Bool.false_or]

theorem tensor_Finite_eq (t : Tensor) (hl : t.Data.length ≤ 9223372036854775806) : tensor_Finite.f t = some (tmay t && t.Data.all (fun x => !oddB x)) := by
  have key : ∃ r, loop (slices_IndexFunc_float64_tensor_odd.l0 t.Data) 0 = some r ∧ ((t.Data.all (fun x => !oddB x) = true ∧ ∃ y, r = .go y) ∨ (t.Data.all (fun x => !oddB x) = false ∧ ∃ y : Int, 0 ≤ y ∧ r = .ret y)) := by
    refine loop_ex _ (fun k st => ∃ j : Nat, k + j = t.Data.length ∧ st = (j : Int) ∧ t.Data.all (fun x => !oddB x) = (t.Data.drop j).all (fun x => !oddB x)) ?_ t.Data.length _ ⟨0, rfl, rfl, rfl⟩
    rintro k _ ⟨j, hk, rfl, h3⟩
    unfold slices_IndexFunc_float64_tensor_odd.l0
    by_cases hj : j < t.Data.length
    · rw [if_pos (by omega), if_pos (by omega), rd_nat _ j hj, tensor_odd_eq]
      rw [drop_at hj, List.all_cons] at h3
      simp only [bindS]
      by_cases hc : oddB t.Data[j] = true
      · rw [if_pos hc]
        left
        exact ⟨_, rfl, .inr ⟨by rw [h3, hc]; rfl, _, by omega, rfl⟩⟩
      · rw [if_neg hc]
        right
        refine ⟨_, k - 1, rfl, by omega, j + 1, by omega, ?_, by rw [h3]; simp [hc]⟩
        rw [w64_id (by omega) (by omega)]; rfl
    · left
      rw [if_neg (by omega)]
      have hz : j = t.Data.length := by omega
      subst hz
      exact ⟨_, rfl, .inl ⟨by rw [h3, List.drop_length]; rfl, _, rfl⟩⟩
  unfold tensor_Finite.f
  rw [tensor_May_eq, obind]
  by_cases h : tmay t = true
  · rw [if_pos h, h, Bool.true_and]
    obtain ⟨r, h1, h2⟩ := key
    unfold slices_ContainsFunc_float64_tensor_odd.f slices_IndexFunc_float64_tensor_odd.f
    rw [h1]
    rcases h2 with ⟨ha, y, rfl⟩ | ⟨ha, y, hy, rfl⟩
    · rw [ha]; rfl
    · rw [ha]; simp only [obind, Out2.on]; rw [if_pos hy]; rfl
  · rw [if_neg h, show tmay t = false by simpa using h]; rfl

theorem asks_loop {t : Tensor} {m : Tensor} (hm : m.Data = t.Data.map fabs) (hl : t.Data.length ≤ 100000) : loop (law3_TensorAsks.l0 m t) 0 = some (.go (t.Data.length : Int)) := by
  refine same_loop _ (by omega) (fun j hj => ?_) ?_
  · unfold law3_TensorAsks.l0
    rw [hm, List.length_map, if_pos (by omega), if_pos (by omega), if_pos (by omega), rd_nat t.Data j hj, rd_nat (t.Data.map fabs) j (by simpa using hj), show math_Abs.f t.Data[j] = some (fabs t.Data[j]) from rfl]
    simp only [bindS, List.getElem_map]
    rw [ref1_Same_eq]
    simp
  · unfold law3_TensorAsks.l0
    rw [hm, List.length_map, if_neg (by omega)]

theorem law3_TensorAsks.plain (t u : Tensor) (p : List Int) : law3_TensorAsks.f t u p = some true := by
  unfold law3_TensorAsks.f
  rw [law3_awake_ev, obind, if_pos rfl, law3_Small_ex, obind]
  by_cases c0 : smallP t
  rotate_left
  · rw [if_neg (by simpa using c0)]
  rw [if_pos (by simpa using c0), law3_Small_ex, obind]
  by_cases c1 : smallP u
  rotate_left
  · rw [if_neg (by simpa using c1)]
  rw [if_pos (by simpa using c1)]
  by_cases c2 : 40 < (p.length : Int)
  · rw [if_pos c2]
  have b1 : t.Shape.length ≤ 9223372036854775806 := by have := c0.1; omega
  have b2 : t.Data.length ≤ 9223372036854775806 := by have := c0.2; omega
  rw [if_neg c2, ref1_TensorMay_eq, obind]
  have hat : ∀ hm : tmay t = true, 0 ≤ index t.Shape p → tensor_At.f t p = some (rd t.Data (index t.Shape p), true) := by
    intro hm hi
    have := tmay_fits hm
    have := index_lt this.1 hi
    unfold tensor_At.f
    rw [shape_Index_eq, obind, tensor_May_eq, obind, if_pos hm, if_neg (by omega), if_pos (by omega)]
  have hat0 : ¬ (tmay t = true ∧ 0 ≤ index t.Shape p) → tensor_At.f t p = some (0, false) := by
    intro h
    unfold tensor_At.f
    rw [shape_Index_eq, obind, tensor_May_eq, obind]
    by_cases hm : tmay t = true
    · rw [if_pos hm, if_pos (by
        by_cases hi : 0 ≤ index t.Shape p
        · exact absurd ⟨hm, hi⟩ h
        · omega)]
    · rw [if_neg hm]
  have tl : ∀ x : Bool, (x == x) = true := fun x => by cases x <;> rfl
  by_cases hm : tmay t = true
  · have hf := tmay_fits hm
    have hmap : mapT fabs t = ⟨t.Shape, t.Data.map fabs⟩ := by unfold mapT; rw [if_pos hm]
    have hlp := asks_loop (t := t) (m := ⟨t.Shape, t.Data.map fabs⟩) rfl (by omega)
    have rest : ∀ b : Bool, b = tmay t → ((tensor_May.f t).bind fun r325 => if (r325 == b) = true then (tensor_Same.f t u).bind fun r327 => (ref1_SameTensor.f t u).bind fun r328 => if (r327 == r328) = true then (tensor_Finite.f t).bind fun r330 => (ref1_Finite.f t).bind fun r331 =>
        if (r330 == r331) = true then (tensor_Map_nil.f t).bind fun r333 => if (r333.Data.length : Int) = 0 then some true else some false else some false else some false else some false) = some true := by
      intro b hb
      subst hb
      rw [tensor_May_eq, obind, if_pos (tl _), tensor_Same_eq t u b1 b2, obind, ref1_SameTensor_eq t u b1 b2, obind, if_pos (tl _), tensor_Finite_eq t b2, obind, ref1_Finite_eq t b2, obind, if_pos (tl _), tensor_Map_nil_eq, obind, if_pos (by simp [noT])]
    by_cases hi : 0 ≤ index t.Shape p
    · have hlt := index_lt hf.1 hi
      rw [hat hm hi, obind, ref1_Index_eq, obind, if_pos hm, if_pos hi]
      simp only
      rw [if_neg (by simp), if_pos trivial, if_pos (by omega), ref1_Same_eq, obind, if_pos (by simp), tensor_Map_Abs_eq, obind, hmap]
      simp only [List.length_map]
      rw [if_pos (by omega), if_pos trivial, hlp, obind]
      exact rest true hm.symm
    · rw [hat0 (fun c => hi c.2), obind, ref1_Index_eq, obind, if_pos hm, if_neg hi]
      simp only
      rw [if_neg (by simp), if_neg (by simp), tensor_Map_Abs_eq, obind, hmap]
      simp only [List.length_map]
      rw [if_pos (by omega), if_pos trivial, hlp, obind]
      exact rest true hm.symm
  · have hmap : mapT fabs t = noT := by unfold mapT; rw [if_neg hm]
    have hl2 : loop law3_TensorAsks.l2 () = some () := by rw [loop_eq]; rfl
    have hmf : tmay t = false := by simpa using hm
    rw [hat0 (fun c => hm c.1), obind, ref1_Index_eq, obind, if_neg hm]
    simp only
    rw [if_neg (by simp), if_neg (by simp), tensor_Map_Abs_eq, obind, hmap, if_neg (by simp [noT]), hl2, obind, tensor_May_eq, obind, hmf, if_pos (by rfl), tensor_Same_eq t u b1 b2, obind, ref1_SameTensor_eq t u b1 b2, obind, if_pos (tl _), tensor_Finite_eq t b2, obind, ref1_Finite_eq t b2, obind, if_pos (tl _), tensor_Map_nil_eq, obind, if_pos (by simp [noT])]

end Go.Proofs.Ytkcgiolledmbnab
