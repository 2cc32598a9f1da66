/- Plain laws, part 18: shelves. -/
import Derived.Test.YteaoijahdinciaaP15
import Derived.Test.YteaoijahdinciaaP16
import Derived.Test.YteaoijahdinciaaF0
import Derived.Test.YteaoijahdinciaaF2
import Derived.Test.YteaoijahdinciaaF7
import Derived.Test.YteaoijahdinciaaF8
import Derived.Test.YteaoijahdinciaaF12
namespace Go.Proofs.Yteaoijahdinciaa
open Go Go.RowKit
set_option linter.unusedSimpArgs false
set_option linter.unusedVariables false

def nought (t : Tensor) : Tensor := (newT t.Shape 0).1

theorem tmay_len {t : Tensor} (h : tmay t = true) : t.Shape.length ≤ 549755813888 ∧ t.Data.length ≤ 549755813888 := by
  obtain ⟨_, k2, _, k4, _⟩ := tmay_fits h
  omega

theorem shelf_noughts_eq (t : Tensor) : shelf_noughts.f t = some (nought t) := by
  unfold shelf_noughts.f nought
  rw [tensor_New_eq, obind]

theorem nought_may {t : Tensor} (h : tmay t = true) : nought t = ⟨t.Shape, List.replicate t.Data.length 0⟩ ∧ tmay (nought t) = true := by
  obtain ⟨k1, _, k3, _, _⟩ := tmay_fits h
  have e : nought t = ⟨t.Shape, List.replicate t.Data.length 0⟩ := by
    unfold nought
    rw [newT_may k1]
    have : (prodL t.Shape).toNat = t.Data.length := by omega
    rw [this]
  refine ⟨e, ?_⟩
  rw [e]
  have hd := of_decide_eq_true h
  unfold tmay
  simp only [List.length_replicate, decide_eq_true_eq]
  exact hd

theorem shelf_New_1_eq (t : Tensor) : shelf_New_1.f t = some (!tmay t) := by
  unfold shelf_New_1.f
  rw [tensor_May_eq, obind]
  cases tmay t <;> rfl

theorem shelf_Contains_eq (l : List Tensor) (hl : l.length ≤ 9223372036854775806) : slices_ContainsFunc_api_Tensor_shelf_New_1.f l = some (l.any (fun t => !tmay t)) := by
  have key : ∃ r, loop (slices_IndexFunc_api_Tensor_shelf_New_1.l0 l) 0 = some r ∧ ((l.any (fun t => !tmay t) = false ∧ ∃ y, r = .go y) ∨ (l.any (fun t => !tmay t) = true ∧ ∃ y : Int, 0 ≤ y ∧ r = .ret y)) := by
    refine loop_ex _ (fun k st => ∃ j : Nat, k + j = l.length ∧ st = (j : Int) ∧ l.any (fun t => !tmay t) = (l.drop j).any (fun t => !tmay t)) ?_ l.length _ ⟨0, rfl, rfl, rfl⟩
    rintro k _ ⟨j, hk, rfl, h3⟩
    unfold slices_IndexFunc_api_Tensor_shelf_New_1.l0
    by_cases hj : j < l.length
    · rw [if_pos (by omega), if_pos (by omega), rd_nat l j hj, shelf_New_1_eq]
      rw [drop_at hj, List.any_cons] at h3
      simp only [bindS]
      by_cases hc : (!tmay l[j]) = true
      · rw [if_pos hc]
        left
        exact ⟨_, rfl, .inr ⟨by rw [h3, hc]; rfl, _, by omega, rfl⟩⟩
      · rw [if_neg hc]
        right
        refine ⟨_, k - 1, rfl, by omega, j + 1, by omega, ?_, by rw [h3]; simp [hc]⟩
        rw [w64_id (by omega) (by omega)]; rfl
    · left
      rw [if_neg (by omega)]
      have hz : j = l.length := by omega
      subst hz
      exact ⟨_, rfl, .inl ⟨by rw [h3, List.drop_length]; rfl, _, rfl⟩⟩
  obtain ⟨r, h1, h2⟩ := key
  unfold slices_ContainsFunc_api_Tensor_shelf_New_1.f slices_IndexFunc_api_Tensor_shelf_New_1.f
  rw [h1]
  rcases h2 with ⟨ha, y, rfl⟩ | ⟨ha, y, hy, rfl⟩
  · rw [ha]; rfl
  · rw [ha]; simp only [obind, Out2.on]; rw [if_pos hy]

theorem shelf_New_ok (l : List Tensor) (hl : l.length ≤ 32) (hm : ∀ t ∈ l, tmay t = true) : shelf_New.f l = some (some ⟨l, List.replicate l.length 0, l.map nought⟩, 0) := by
  have ha : l.any (fun t => !tmay t) = false := by
    rw [List.any_eq_false]
    intro t ht
    rw [hm t ht]; simp
  unfold shelf_New.f
  rw [if_neg (by omega), shelf_Contains_eq l (by omega), obind, ha, if_neg (by simp), if_pos (by omega)]
  have key : loop (shelf_New.l0 l) (0, [], []) = some ((l.length : Int), l.map nought, l) := by
    refine loop_to _ (fun k st => ∃ j : Nat, k + j = l.length ∧ st = ((j : Int), (l.take j).map nought, l.take j)) ?_ l.length _ ⟨0, rfl, rfl⟩
    rintro k _ ⟨j, hk, rfl⟩
    unfold shelf_New.l0
    simp only
    by_cases hj : j < l.length
    · right
      have hmj := hm l[j] (List.getElem_mem hj)
      rw [if_pos (by omega), if_pos (by omega), rd_nat l j hj, tensor_Copy_eq _ (tmay_len hmj).1 (tmay_len hmj).2]
      simp only [bindS]
      rw [if_pos (by rw [List.length_take]; omega), shelf_noughts_eq]
      simp only
      rw [if_pos (by rw [List.length_map, List.length_take]; omega)]
      refine ⟨_, k - 1, rfl, by omega, j + 1, by omega, ?_⟩
      rw [w64_id (by omega) (by omega), List.take_succ_eq_append_getElem hj, List.map_append]
      rfl
    · left
      have hz : j = l.length := by omega
      subst hz
      rw [if_neg (by omega), List.take_length]
  rw [key, obind, Int.toNat_natCast]

theorem shelf_New_no (l : List Tensor) (hl : l.length ≤ 9223372036854775806) (h : ¬ (l.length ≤ 32 ∧ ∀ t ∈ l, tmay t = true)) : shelf_New.f l = some (none, if 32 < l.length then 13 else 2) := by
  unfold shelf_New.f
  by_cases h1 : 32 < (l.length : Int)
  · rw [if_pos h1, if_pos (by omega)]
  · have h2 : ¬ 32 < l.length := by omega
    rw [if_neg h1, if_neg h2, shelf_Contains_eq l hl, obind]
    have : l.any (fun t => !tmay t) = true := by
      cases ha : l.any (fun t => !tmay t)
      · exfalso
        apply h
        refine ⟨by omega, fun t ht => ?_⟩
        have := List.any_eq_false.1 ha t ht
        simpa using this
      · rfl
    rw [if_pos this]

/-- a shelf's leaves and gradients go together -/
structure Sound (s : Shelf) : Prop where
  le : s.l.length ≤ 32
  lv : s.vers.length = s.l.length
  lg : s.grads.length = s.l.length
  ml : ∀ i (h : i < s.l.length), tmay s.l[i] = true
  mg : ∀ i (h : i < s.grads.length) (h' : i < s.l.length), tmay s.grads[i] = true ∧ s.grads[i].Shape = s.l[i].Shape

theorem there_in {s : Shelf} {i : Nat} (h : i < s.l.length) : shelf_Shelf_there.f s (i : Int) = some 0 := by
  unfold shelf_Shelf_there.f
  rw [if_neg (by omega), if_neg (by omega)]
theorem there_out {s : Shelf} {i : Int} (h : ¬ (0 ≤ i ∧ i < (s.l.length : Int))) : shelf_Shelf_there.f s i = some 7 := by
  unfold shelf_Shelf_there.f
  by_cases h1 : i < 0
  · rw [if_pos h1]
  · rw [if_neg h1, if_pos (by omega)]
theorem Grad_in {s : Shelf} (hs : Sound s) {i : Nat} (h : i < s.l.length) : shelf_Shelf_Grad.f s (i : Int) = some (s.grads.getD i default, 0) := by
  have hg : i < s.grads.length := by rw [hs.lg]; exact h
  have hm := (hs.mg i hg h).1
  unfold shelf_Shelf_Grad.f
  rw [there_in h, obind, if_pos rfl, if_pos (by omega), rd_nat _ i hg, tensor_Copy_eq _ (tmay_len hm).1 (tmay_len hm).2, obind, getD_get _ _ _ hg]
theorem Get_in {s : Shelf} (hs : Sound s) {i : Nat} (h : i < s.l.length) : shelf_Shelf_Get.f s (i : Int) = some (s.l.getD i default, s.vers.getD i 0, 0) := by
  have hv : i < s.vers.length := by rw [hs.lv]; exact h
  have hm := hs.ml i h
  unfold shelf_Shelf_Get.f
  rw [there_in h, obind, if_pos rfl, if_pos (by omega), rd_nat _ i h, tensor_Copy_eq _ (tmay_len hm).1 (tmay_len hm).2, obind, if_pos (by omega), rd_nat _ i hv, getD_get _ _ _ h, getD_get _ _ _ hv]
def addT (a b : Tensor) : Tensor := (twoT 4 a b).1
theorem Commit_in {s : Shelf} (hs : Sound s) {x : List Tensor} (hl : x.length = s.l.length) (hx : ∀ i (h : i < x.length) (h' : i < s.l.length), tmay x[i] = true ∧ x[i].Shape = s.l[i].Shape) :
    shelf_Shelf_Commit.f s x = some ((List.range s.l.length).map (fun i => addT (s.grads.getD i default) (x.getD i default)), 0) := by
  have hle := hs.le
  unfold shelf_Shelf_Commit.f
  have k0 : loop (shelf_Shelf_Commit.l0 x s) 0 = some (.go (x.length : Int)) := by
    refine loop_to _ (fun k st => ∃ j : Nat, k + j = x.length ∧ st = (j : Int)) ?_ x.length _ ⟨0, rfl, rfl⟩
    rintro k _ ⟨j, hk, rfl⟩
    unfold shelf_Shelf_Commit.l0
    by_cases hj : j < x.length
    · right
      have hj' : j < s.l.length := by omega
      obtain ⟨m1, m2⟩ := hx j hj hj'
      rw [if_pos (by omega), if_pos (by omega), rd_nat x j hj, tensor_May_eq]
      simp only [bindS]
      rw [if_pos m1, if_pos (by omega), rd_nat s.l j hj', shape_Same_eq _ _ (by have := (tmay_fits m1).2.1; omega)]
      simp only
      rw [if_pos (decide_eq_true m2)]
      exact ⟨_, k - 1, rfl, by omega, j + 1, by omega, by rw [w64_id (by omega) (by omega)]; rfl⟩
    · left
      have hz : j = x.length := by omega
      subst hz
      rw [if_neg (by omega)]
  have k1 : loop (shelf_Shelf_Commit.l1 x) (0, s.grads) = some ((x.length : Int), (List.range s.l.length).map (fun i => addT (s.grads.getD i default) (x.getD i default))) := by
    refine loop_to _ (fun k st => ∃ (j : Nat) (gs : List Tensor), k + j = x.length ∧ st = ((j : Int), gs) ∧ gs.length = s.l.length ∧ ∀ i (h : i < gs.length), gs[i] = if i < j then addT (s.grads.getD i default) (x.getD i default) else s.grads.getD i default) ?_ x.length _ ⟨0, s.grads, rfl, rfl, hs.lg, fun i h => by rw [if_neg (by omega), getD_get _ _ _ h]⟩
    rintro k _ ⟨j, gs, hk, rfl, hg, hv⟩
    unfold shelf_Shelf_Commit.l1
    simp only
    by_cases hj : j < x.length
    · right
      have hjg : j < gs.length := by omega
      rw [if_pos (by omega), if_pos (by omega), if_pos (by omega), rd_nat x j hj, rd_nat gs j hjg, kernel_Two_add]
      simp only [bindS]
      refine ⟨_, k - 1, rfl, by omega, j + 1, _, by omega, by rw [w64_id (by omega) (by omega)]; rfl, by simp [hg], fun i h => ?_⟩
      simp only [put_at gs _ j _ rfl, List.length_set] at h ⊢
      rw [List.getElem_set]
      by_cases hij : j = i
      · subst hij
        rw [if_pos rfl, if_pos (by omega), hv j h, if_neg (by omega), getD_get x _ _ hj]
        rfl
      · rw [if_neg hij, hv i h]
        by_cases hlt : i < j
        · rw [if_pos hlt, if_pos (by omega)]
        · rw [if_neg hlt, if_neg (by omega)]
    · left
      have hz : j = x.length := by omega
      subst hz
      rw [if_neg (by omega)]
      congr 2
      apply List.ext_getElem
      · simp [hg]
      · intro i h1 h2
        rw [hv i h1, if_pos (by omega)]; simp
  rw [if_pos (by omega), k0, obind]
  simp only [Out2.on]
  rw [k1, obind]

theorem addT_may {a b : Tensor} (ha : tmay a = true) (hb : tmay b = true) (h : a.Shape = b.Shape) : addT a b = ⟨a.Shape, (List.range a.Data.length).map (fun i => fadd (a.Data.getD i 0) (b.Data.getD i 0))⟩ ∧ tmay (addT a b) = true := by
  have e : addT a b = ⟨a.Shape, (List.range a.Data.length).map (fun i => fadd (a.Data.getD i 0) (b.Data.getD i 0))⟩ := by
    unfold addT
    rw [twoT_same (by decide) ha hb h]
    rfl
  refine ⟨e, ?_⟩
  rw [e]
  have hd := of_decide_eq_true ha
  unfold tmay
  simp only [List.length_map, List.length_range, decide_eq_true_eq]
  exact hd

theorem Sound.commit {s : Shelf} (hs : Sound s) {x : List Tensor} (hl : x.length = s.l.length) (hx : ∀ i (h : i < x.length) (h' : i < s.l.length), tmay x[i] = true ∧ x[i].Shape = s.l[i].Shape) :
    Sound ⟨s.l, s.vers, (List.range s.l.length).map (fun i => addT (s.grads.getD i default) (x.getD i default))⟩ := by
  refine ⟨hs.le, hs.lv, by simp, hs.ml, fun i h h' => ?_⟩
  simp only [List.length_map, List.length_range] at h
  have hg : i < s.grads.length := by rw [hs.lg]; exact h
  have hxi : i < x.length := by omega
  obtain ⟨g1, g2⟩ := hs.mg i hg h
  obtain ⟨x1, x2⟩ := hx i hxi h
  simp only [List.getElem_map, List.getElem_range]
  rw [getD_get _ _ _ hg, getD_get _ _ _ hxi]
  obtain ⟨e, m⟩ := addT_may g1 x1 (by rw [g2, x2])
  exact ⟨m, by rw [e]; exact g2⟩

theorem Sound.new {l : List Tensor} (hl : l.length ≤ 32) (hm : ∀ t ∈ l, tmay t = true) : Sound ⟨l, List.replicate l.length 0, l.map nought⟩ := by
  refine ⟨hl, by simp, by simp, fun i h => hm _ (List.getElem_mem h), fun i h h' => ?_⟩
  simp only [List.getElem_map]
  obtain ⟨e, m⟩ := nought_may (hm _ (List.getElem_mem h'))
  exact ⟨m, by rw [e]⟩

theorem Sound.zero {s : Shelf} (hs : Sound s) {i : Nat} (h : i < s.l.length) : Sound ⟨s.l, s.vers, s.grads.set i (nought (s.l.getD i default))⟩ := by
  refine ⟨hs.le, hs.lv, by simp [hs.lg], hs.ml, fun j hj hj' => ?_⟩
  simp only [List.length_set] at hj
  rw [List.getElem_set]
  by_cases hij : i = j
  · subst hij
    rw [if_pos rfl, getD_get _ _ _ h]
    obtain ⟨e, m⟩ := nought_may (hs.ml i h)
    exact ⟨m, by rw [e]⟩
  · rw [if_neg hij]
    exact hs.mg j hj hj'

theorem Sound.put {s : Shelf} (hs : Sound s) {i : Nat} (h : i < s.l.length) {t : Tensor} (ht : tmay t = true) (he : t.Shape = (s.l.getD i default).Shape) (v : Int) : Sound ⟨s.l.set i t, s.vers.set i v, s.grads⟩ := by
  rw [getD_get _ _ _ h] at he
  refine ⟨by simp [hs.le], by simp [hs.lv], by simp [hs.lg], fun j hj => ?_, fun j hj hj' => ?_⟩
  · simp only [List.length_set] at hj
    rw [List.getElem_set]
    by_cases hij : i = j
    · rw [if_pos hij]; exact ht
    · rw [if_neg hij]; exact hs.ml j hj
  · simp only [List.length_set] at hj'
    obtain ⟨g1, g2⟩ := hs.mg j hj hj'
    refine ⟨g1, ?_⟩
    rw [g2]
    simp only [List.getElem_set]
    by_cases hij : i = j
    · subst hij; rw [if_pos rfl]; exact he.symm
    · rw [if_neg hij]

end Go.Proofs.Yteaoijahdinciaa
