/- Plain laws, part 9: trees of tensors; the document's operators on two. -/
import Derived.Test.YtkcgiolledmbnabP16
import Derived.Test.YtkcgiolledmbnabF4
import Derived.Test.YtkcgiolledmbnabF6
import Derived.Test.YtkcgiolledmbnabF8
namespace Go.Proofs.Ytkcgiolledmbnab
open Go Go.RowKit
set_option linter.unusedSimpArgs false
set_option linter.unusedVariables false

theorem law8_Few_ex (l : List Tensor) (hl : l.length ≤ 9223372036854775807) : ∃ b, law8_Few.f l = some b ∧ (b = true → l.length ≤ 40 ∧ ∀ t ∈ l, smallP t) := by
  have key : ∃ r, loop (law8_Few.l0 l) (0, 0) = some r ∧ ((∃ y, r = .go y ∧ ∀ t ∈ l, smallP t) ∨ r = .ret false) := by
    refine loop_ex _ (fun k st => ∃ (j : Nat) (m : Int), k + j = l.length ∧ st = (m, (j : Int)) ∧ ∀ i, i < j → (h : i < l.length) → smallP l[i]) ?_ l.length _ ⟨0, 0, rfl, rfl, fun i h => by omega⟩
    rintro k _ ⟨j, m, hk, rfl, hs⟩
    unfold law8_Few.l0
    by_cases hj : j < l.length
    · simp only
      rw [if_pos (by omega), if_pos (by omega), rd_nat l j hj, law3_Small_ex]
      simp only [bindS]
      by_cases hc : smallP l[j]
      · right
        rw [if_pos (by simpa using hc)]
        refine ⟨_, k - 1, rfl, by omega, j + 1, _, by omega, by rw [w64_id (x := (j : Int) + 1) (by omega) (by omega)]; rfl, fun i hi h => ?_⟩
        by_cases hij : i = j
        · subst hij; exact hc
        · exact hs i (by omega) h
      · left
        rw [if_neg (by simpa using hc)]
        exact ⟨_, rfl, .inr rfl⟩
    · left
      simp only
      rw [if_neg (by omega)]
      refine ⟨_, rfl, .inl ⟨_, rfl, fun t ht => ?_⟩⟩
      obtain ⟨i, hi, rfl⟩ := List.mem_iff_getElem.1 ht
      exact hs i (by omega) hi
  obtain ⟨r, h1, h2⟩ := key
  unfold law8_Few.f
  rw [h1, obind]
  rcases h2 with ⟨y, rfl, hs⟩ | rfl
  · simp only [Out2.on]
    by_cases c1 : (l.length : Int) ≤ 40
    · rw [if_pos c1]
      by_cases c2 : y.1 ≤ 20000
      · rw [if_pos c2]; exact ⟨_, rfl, fun _ => ⟨by omega, hs⟩⟩
      · rw [if_neg c2]; exact ⟨_, rfl, fun h => by cases h⟩
    · rw [if_neg c1]; exact ⟨_, rfl, fun h => by cases h⟩
  · exact ⟨_, rfl, fun h => by cases h⟩

/-! ### trees of tensors -/
def fitL (l : List Tensor) : Prop := ∀ t ∈ l, tmay t = true ∧ t.Shape = (rd l 0).Shape
def treeD (l : List Tensor) (n : Nat) : List Nat := (List.range n).map (fun i => tree (l.map (fun t => t.Data.getD i 0)))
open Classical in
noncomputable def treeT (l : List Tensor) : Tensor × Int := if l = [] then (noT, 1) else if fitL l then (⟨(rd l 0).Shape, treeD l (rd l 0).Data.length⟩, 0) else (noT, 2)

open Classical in
/-- what the first loop hands on -/
noncomputable def fitEnd (l : List Tensor) : Out2 Int (Tensor × Int) := if fitL l then .go (l.length : Int) else .ret (noT, 2)

theorem fit_loop (l : List Tensor) (hl : l.length ≤ 9223372036854775806) {body : Int → Step Int (Out2 Int (Tensor × Int))}
    (hb : ∀ (j : Nat) (h : j < l.length), body (j : Int) = if tmay l[j] = true ∧ l[j].Shape = (rd l 0).Shape then .next (w64 ((j : Int) + 1)) else .done (.ret (noT, 2)))
    (he : body (l.length : Int) = .done (.go (l.length : Int))) : loop body 0 = some (fitEnd l) := by
  refine loop_to _ (fun k st => ∃ j : Nat, k + j = l.length ∧ st = (j : Int) ∧ ∀ i, i < j → (h : i < l.length) → tmay l[i] = true ∧ l[i].Shape = (rd l 0).Shape) ?_ l.length _ ⟨0, rfl, rfl, fun i h => by omega⟩
  rintro k _ ⟨j, hk, rfl, hs⟩
  by_cases hj : j < l.length
  · rw [hb j hj]
    by_cases hc : tmay l[j] = true ∧ l[j].Shape = (rd l 0).Shape
    · right
      rw [if_pos hc]
      refine ⟨_, k - 1, rfl, by omega, j + 1, by omega, by rw [w64_id (by omega) (by omega)]; rfl, fun i hi h => ?_⟩
      by_cases hij : i = j
      · subst hij; exact hc
      · exact hs i (by omega) h
    · left
      rw [if_neg hc]
      unfold fitEnd
      rw [if_neg (fun c => hc (c _ (List.getElem_mem hj)))]
  · left
    have hz : j = l.length := by omega
    subst hz
    rw [he]
    unfold fitEnd
    have hfit : fitL l := fun t ht => by
      obtain ⟨i, hi, rfl⟩ := List.mem_iff_getElem.1 ht
      exact hs i hi hi
    rw [if_pos hfit]

theorem fitL_data {l : List Tensor} (h : fitL l) (h0 : l ≠ []) : tmay (rd l 0) = true ∧ ∀ t ∈ l, t.Data.length = (rd l 0).Data.length := by
  have hlt : 0 < l.length := List.length_pos_iff.2 h0
  have e : rd l 0 = l[0] := rd_nat l 0 hlt
  have h1 := (h l[0] (List.getElem_mem hlt)).1
  refine ⟨by rw [e]; exact h1, fun t ht => ?_⟩
  obtain ⟨k1, k2⟩ := h t ht
  have a := (tmay_fits k1).2.2.1
  have b := (tmay_fits h1).2.2.1
  rw [k2, e] at a
  rw [e]
  omega

theorem fold_Tree_row (l : List Tensor) (hl : l.length ≤ 9223372036854775806) (i : Nat) (hi : ∀ t ∈ l, i < t.Data.length) (s : Int × List Nat × List Nat) (hs : s.1 = (i : Int)) (ys : List Nat) (hy : ys.length = l.length) :
    loop (fold_Tree.l2 l s) (0, ys) = some ((l.length : Int), l.map (fun t => t.Data.getD i 0)) := by
  have := fill_loop (body := fold_Tree.l2 l s) l.length (fun j => (l.getD j default).Data.getD i 0) id hl (fun j ys hj hy => ?_) (fun ys hy => ?_) ys hy
  · rw [this]
    simp only [id, Option.some.injEq, Prod.mk.injEq, true_and]
    apply List.ext_getElem
    · simp
    · intro q h1 h2
      simp only [List.getElem_map, List.getElem_range]
      rw [getD_get l default q (by simpa using h2)]
  · unfold fold_Tree.l2
    have h1 := hi l[j] (List.getElem_mem hj)
    simp only [hs, hy]
    rw [if_pos (by omega), if_pos (by omega), rd_nat l j hj, if_pos (by omega), if_pos (by omega), rd_nat _ i h1, getD_get l default j hj, getD_get _ _ _ h1]
  · unfold fold_Tree.l2
    simp only
    rw [if_neg (by omega)]; rfl

theorem fold_Tree_eq (l : List Tensor) (hl : l.length ≤ 1000000) : fold_Tree.f l = some (treeT l) := by
  unfold fold_Tree.f treeT
  by_cases h0 : l = []
  · subst h0; rw [if_pos (by simp), if_pos rfl]; rfl
  have hlt : 0 < l.length := List.length_pos_iff.2 h0
  rw [if_neg (by omega), if_neg h0, fit_loop l (by omega) (fun j hj => ?_) ?_, obind]
  · unfold fitEnd
    by_cases hf : fitL l
    · obtain ⟨hm, hd⟩ := fitL_data hf h0
      obtain ⟨_, k2, _, k4, k5⟩ := tmay_fits hm
      rw [if_pos hf, if_pos hf]
      simp only [Out2.on]
      rw [if_pos (by omega), tensor_Copy_eq _ (by first | omega | (simp only; omega)) (by first | omega | (simp only; omega)), obind, if_pos (by omega), Int.toNat_natCast]
      generalize hN : (rd l 0).Data.length = n at hd k4 k5 ⊢
      have key : loop (fold_Tree.l1 ⟨(rd l 0).Shape, (rd l 0).Data⟩ l) (0, List.replicate l.length 0, (rd l 0).Data) = some ((n : Int), l.map (fun t => t.Data.getD (n - 1) 0), treeD l n) := by
        refine loop_to _ (fun k st => ∃ (j : Nat) (ys : List Nat), k + j = n ∧ st = ((j : Int), ys, upN n j (fun i => tree (l.map (fun t => t.Data.getD i 0))) (fun t => (rd l 0).Data.getD t 0)) ∧ ys.length = l.length ∧ (0 < j → ys = l.map (fun t => t.Data.getD (j - 1) 0))) ?_ n _ ⟨0, List.replicate l.length 0, rfl, ?_, by simp, fun h => by omega⟩
        · rintro k _ ⟨j, ys, hk, rfl, hy, hz⟩
          unfold fold_Tree.l1
          simp only [hN, upN_length]
          by_cases hj : j < n
          · right
            rw [if_pos (by omega), fold_Tree_row l (by omega) j (fun t ht => by rw [hd t ht]; exact hj) _ rfl ys hy]
            simp only [bindS]
            rw [real_Fold_eq _ (by simp; omega)]
            simp only
            rw [if_pos (by omega), put_at _ _ j _ rfl, upN_set n j (fun i => tree (l.map (fun t => t.Data.getD i 0))) _ hj]
            exact ⟨_, k - 1, rfl, by omega, j + 1, _, by omega, by rw [w64_id (by omega) (by omega)]; rfl, by simp, fun _ => rfl⟩
          · left
            have hz' : j = n := by omega
            subst hz'
            rw [if_neg (by omega), hz (by omega), upN_full]; rfl
        · congr 2
          apply List.ext_getElem
          · simp [hN]
          · intro q h1 h2
            rw [upN_get]
            simp [List.getElem?_eq_getElem h1]
      rw [key, obind]
    · rw [if_neg hf, if_neg hf]; rfl
  · unfold fold_Tree.l0
    rw [if_neg (by omega)]
  · unfold fold_Tree.l0
    rw [if_pos (by omega), if_pos (by omega), rd_nat l j hj, tensor_May_eq]
    simp only [bindS]
    by_cases c1 : tmay l[j] = true
    · rw [if_pos c1, if_pos (by omega), shape_Same_eq _ _ (by have := (tmay_fits c1).2.1; omega)]
      simp only
      by_cases c2 : l[j].Shape = (rd l 0).Shape
      · rw [if_pos (decide_eq_true c2), if_pos ⟨c1, c2⟩]
      · rw [if_neg (by simpa using c2), if_neg (fun c => c2 c.2)]; rfl
    · rw [if_neg c1, if_neg (fun c => c1 c.1)]; rfl

theorem ref6_Tree_row (l : List Tensor) (hl : l.length ≤ 1000000) (i : Nat) (hi : ∀ t ∈ l, i < t.Data.length) (s : Int × List Nat) (hs : s.1 = (i : Int)) :
    loop (ref6_Tree.l2 l s) (0, []) = some ((l.length : Int), l.map (fun t => t.Data.getD i 0)) := by
  refine loop_to _ (fun k st => ∃ j : Nat, k + j = l.length ∧ st = ((j : Int), (l.take j).map (fun t => t.Data.getD i 0))) ?_ l.length _ ⟨0, rfl, rfl⟩
  rintro k _ ⟨j, hk, rfl⟩
  unfold ref6_Tree.l2
  simp only [hs]
  by_cases hj : j < l.length
  · right
    have h1 := hi l[j] (List.getElem_mem hj)
    rw [if_pos (by omega), if_pos (by omega), rd_nat l j hj, if_pos (by omega), if_pos (by simp; omega), rd_nat _ i h1]
    refine ⟨_, k - 1, rfl, by omega, j + 1, by omega, ?_⟩
    rw [w64_id (by omega) (by omega), List.take_succ_eq_append_getElem hj, List.map_append]
    simp [List.getElem?_eq_getElem h1]
  · left
    have hz : j = l.length := by omega
    subst hz
    rw [if_neg (by omega), List.take_length]

theorem ref6_Tree_eq (l : List Tensor) (hl : l.length ≤ 1000000) : ref6_Tree.f l = some (treeT l) := by
  unfold ref6_Tree.f treeT
  by_cases h0 : l = []
  · subst h0; rw [if_pos (by simp), if_pos rfl]; rfl
  have hlt : 0 < l.length := List.length_pos_iff.2 h0
  rw [if_neg (by omega), if_neg h0, fit_loop l (by omega) (fun j hj => ?_) ?_, obind]
  · unfold fitEnd
    by_cases hf : fitL l
    · obtain ⟨hm, hd⟩ := fitL_data hf h0
      obtain ⟨k1, k2, k3, k4, k5⟩ := tmay_fits hm
      rw [if_pos hf, if_pos hf]
      simp only [Out2.on]
      rw [if_pos (by omega), ref1_New_eq, newT_may k1, obind]
      simp only
      have hn : (prodL (rd l 0).Shape).toNat = (rd l 0).Data.length := by omega
      rw [hn]
      generalize (rd l 0).Data.length = n at hd k4 k5 ⊢
      rw [fill_loop n (fun i => tree (l.map (fun t => t.Data.getD i 0))) id (by omega) (fun j ys hj hy => ?_) (fun ys hy => ?_) _ (by simp), obind]; rfl
      · unfold ref6_Tree.l1
        simp only [hy]
        rw [if_pos (by omega), ref6_Tree_row l hl j (fun t ht => by rw [hd t ht]; exact hj) _ rfl]
        simp only [bindS]
        rw [ref1_Fold_eq _ (by simp; omega)]
        simp only
        rw [if_pos (by omega)]
      · unfold ref6_Tree.l1
        simp only [hy]
        rw [if_neg (by omega)]; rfl
    · rw [if_neg hf, if_neg hf]; rfl
  · unfold ref6_Tree.l0
    rw [if_neg (by omega)]
  · unfold ref6_Tree.l0
    rw [if_pos (by omega), if_pos (by omega), rd_nat l j hj, ref1_TensorMay_eq]
    simp only [bindS]
    by_cases c1 : tmay l[j] = true
    · rw [if_pos c1, if_pos (by omega), ref1_SameInts_eq _ _ (by have := (tmay_fits c1).2.1; omega)]
      simp only
      by_cases c2 : l[j].Shape = (rd l 0).Shape
      · rw [if_pos (decide_eq_true c2), if_pos ⟨c1, c2⟩]
      · rw [if_neg (by simpa using c2), if_neg (fun c => c2 c.2)]; rfl
    · rw [if_neg c1, if_neg (fun c => c1 c.1)]; rfl

theorem treeT_fits {l : List Tensor} (h0 : l ≠ []) (hf : fitL l) : treeT l = (⟨(rd l 0).Shape, treeD l (rd l 0).Data.length⟩, 0) := by
  unfold treeT; rw [if_neg h0, if_pos hf]

theorem treeT_small (l : List Tensor) : (treeT l).1.Shape.length ≤ 4 ∧ (treeT l).1.Data.length ≤ 4096 := by
  unfold treeT
  split
  · simp [noT]
  · rename_i h0
    split
    · rename_i hf
      have := tmay_fits (fitL_data hf h0).1
      simp [treeD]; omega
    · simp [noT]

theorem treeT_may {l : List Tensor} (h : (treeT l).2 = 0) : l ≠ [] ∧ fitL l ∧ tmay (treeT l).1 = true := by
  unfold treeT at h ⊢
  split
  · rename_i c; rw [if_pos c] at h; simp at h
  · rename_i h0
    rw [if_neg h0] at h
    split
    · rename_i hf
      refine ⟨h0, hf, ?_⟩
      have hm := (fitL_data hf h0).1
      unfold tmay at hm ⊢
      simp only [decide_eq_true_eq] at hm ⊢
      refine ⟨hm.1, ?_⟩
      rw [hm.2]; simp [treeD]
    · rename_i hf; rw [if_neg hf] at h; simp at h

end Go.Proofs.Ytkcgiolledmbnab
