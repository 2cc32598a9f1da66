/- Plain laws, part 27: graphs that are small; graphs compared. -/
import Derived.Test.YtkdhahdfkonilaaDoorP26
import Derived.Test.YtkdhahdfkonilaaDoorE9
import Derived.Test.YtkdhahdfkonilaaDoorF8
import Derived.Test.YtkdhahdfkonilaaDoorF11
import Derived.Test.YtkdhahdfkonilaaDoorF12
namespace Go.Proofs.YtkdhahdfkonilaaDoor
open Go Go.RowKit
set_option linter.unusedSimpArgs false
set_option linter.unusedVariables false

/-- what an argument's node is, as the row reads it -/
def NodeIn (y : Node) : Prop := ((Lit.int .i64 y.Op).wf = true) ∧ (y.In.length ≤ 140737488351232 ∧ ∀ y1 ∈ y.In, (Lit.int .i64 y1).wf = true) ∧ (y.To.length ≤ 140737488351232 ∧ ∀ y1 ∈ y.To, (Lit.int .i64 y1).wf = true) ∧ ((Lit.int .i64 y.No).wf = true) ∧
  ((y.Val.Shape.length ≤ 140737488351232 ∧ ∀ y1 ∈ y.Val.Shape, (Lit.int .i64 y1).wf = true) ∧ (y.Val.Data.length ≤ 140737488351232 ∧ ∀ y1 ∈ y.Val.Data, (y1 < 2 ^ 64 ∧ canon y1 = y1))) ∧ (y.Hooks.length ≤ 140737488351232 ∧ ∀ y1 ∈ y.Hooks, ((Lit.int .i64 y1.Do).wf = true) ∧ ((y1.X < 2 ^ 64 ∧ canon y1.X = y1.X)))
def GraphIn (g : Graph) : Prop := g.L.length ≤ 140737488351232 ∧ ∀ y ∈ g.L, NodeIn y
theorem NodeIn.ok {n : Node} (h : NodeIn n) : NodeOk 140737488351232 n :=
  ⟨h.2.1.1, h.2.2.1.1, h.2.2.2.2.1.1.1, h.2.2.2.2.1.2.1, h.2.2.2.2.2.1, fun x hx => i64_of_wf (h.2.1.2 x hx), fun x hx => i64_of_wf (h.2.2.1.2 x hx), i64_of_wf h.2.2.2.1, fun x hx => i64_of_wf (h.2.2.2.2.1.1.2 x hx), h.2.2.2.2.1.2.2,
    fun x hx => ⟨i64_of_wf (h.2.2.2.2.2.2 x hx).1, (h.2.2.2.2.2.2 x hx).2⟩⟩
structure SmallN (n : Node) : Prop where
  i : n.In.length ≤ 4000
  t : n.To.length ≤ 4000
  h : n.Hooks.length ≤ 4000
  s : n.Val.Shape.length ≤ 40
  d : n.Val.Data.length ≤ 8192
theorem SmallN.ok {n : Node} (h : SmallN n) (hn : NodeIn n) : NodeOk 8192 n :=
  ⟨Nat.le_trans h.i (by decide), Nat.le_trans h.t (by decide), Nat.le_trans h.s (by decide), h.d, Nat.le_trans h.h (by decide), hn.ok.inI, hn.ok.toI, hn.ok.noI, hn.ok.shI, hn.ok.daF, hn.ok.hoF⟩
theorem law3_Small_ex (t : Tensor) : ∃ b, law3_Small.f t = some b ∧ (b = true → t.Shape.length ≤ 40 ∧ t.Data.length ≤ 8192) := by
  unfold law3_Small.f
  by_cases h1 : (t.Shape.length : Int) ≤ 40
  · rw [if_pos h1]
    by_cases h2 : (t.Data.length : Int) ≤ 8192
    · rw [if_pos h2]; exact ⟨_, rfl, fun _ => ⟨by omega, by omega⟩⟩
    · rw [if_neg h2]; exact ⟨_, rfl, by simp⟩
  · rw [if_neg h1]; exact ⟨_, rfl, by simp⟩
theorem tdiv16 (n : Nat) : Int.tdiv (n : Int) 16 = ((n / 16 : Nat) : Int) := rfl
theorem Small_nodes (gs : List Graph) (i : Nat) (hi : i < gs.length) (hg : GraphIn gs[i]) (m : Int) (n0 : Nat) (hn0 : n0 ≤ 9000000000000000) :
    ∃ r, loop (law10_Small.l1 gs (m, (i : Int))) ((n0 : Int), 0) = some r ∧ (r = .ret false ∨ ∃ n j : Nat, r = .go ((n : Int), (j : Int)) ∧ n0 ≤ n ∧ n ≤ n0 + 600000000000000 ∧ (n ≤ 4000 → ∀ x ∈ gs[i].L, SmallN x)) := by
  refine loop_ex (body := law10_Small.l1 gs (m, (i : Int))) _ (fun k st => ∃ n j : Nat, k + j = gs[i].L.length ∧ st = ((n : Int), (j : Int)) ∧ n0 ≤ n ∧ n ≤ n0 + 600000000000000 ∧ (n ≤ 4000 → ∀ x ∈ gs[i].L.take j, SmallN x)) ?_ gs[i].L.length _ ⟨n0, 0, rfl, rfl, Nat.le_refl _, by omega, fun _ x hx => by simp at hx⟩
  rintro k _ ⟨n, j, hj, rfl, h1, h2, h3⟩
  have hG1 := hg.1
  unfold law10_Small.l1
  dsimp only
  rw [rd_nat _ _ hi]
  by_cases h : j < gs[i].L.length
  · rw [if_pos (by omega), rd_nat _ _ h]
    by_cases h4 : (n : Int) ≤ 4000
    · rw [if_pos h4, if_pos (by omega)]
      have hN := hg.2 _ (List.getElem_mem h)
      have ho := hN.ok
      have a1 := ho.inL; have a2 := ho.toL; have a3 := ho.hoL; have a4 := ho.daL
      by_cases hs : 40 < (gs[i].L[j].Val.Shape.length : Int)
      · left
        rw [if_pos hs]
        exact ⟨_, rfl, .inl rfl⟩
      · rw [if_neg hs]
        obtain ⟨b, eb, hb⟩ := law3_Small_ex ⟨gs[i].L[j].Val.Shape, gs[i].L[j].Val.Data⟩
        rw [eb]
        simp only [bindS]
        cases b with
        | false =>
          left
          rw [if_neg (by simp)]
          exact ⟨_, rfl, .inl rfl⟩
        | true =>
          right
          obtain ⟨b1, b2⟩ := hb rfl
          have b1 : gs[i].L[j].Val.Shape.length ≤ 40 := b1
          have b2 : gs[i].L[j].Val.Data.length ≤ 8192 := b2
          rw [if_pos rfl, tdiv16]
          refine ⟨_, k - 1, rfl, by omega, n + gs[i].L[j].In.length + gs[i].L[j].To.length + gs[i].L[j].Hooks.length + gs[i].L[j].Val.Data.length / 16, j + 1, by omega, ?_, by omega, by omega, ?_⟩
          · rw [w64_id (x := (n : Int) + _) (by omega) (by omega), w64_id (x := (n : Int) + _ + _) (by omega) (by omega), w64_id (x := (n : Int) + _ + _ + _) (by omega) (by omega), w64_id (x := ((gs[i].L[j].Val.Data.length / 16 : Nat) : Int)) (by omega) (by omega), w64_id (by omega) (by omega), w64_id (by omega) (by omega)]
            simp
          · intro hle x hx
            rw [List.take_add_one, List.getElem?_eq_getElem h] at hx
            rcases List.mem_append.1 hx with hx | hx
            · exact h3 (by omega) x hx
            · have hx : x = gs[i].L[j] := by simpa using hx
              subst hx
              exact ⟨by omega, by omega, by omega, b1, b2⟩
    · left
      rw [if_neg h4]
      exact ⟨_, rfl, .inr ⟨n, j, rfl, h1, h2, fun hle => by omega⟩⟩
  · left
    rw [if_neg (by omega)]
    obtain rfl : j = gs[i].L.length := by omega
    rw [List.take_length] at h3
    exact ⟨_, rfl, .inr ⟨n, _, rfl, h1, h2, h3⟩⟩
theorem Small_ex (gs : List Graph) (hl : gs.length ≤ 4) (hg : ∀ g ∈ gs, GraphIn g) : ∃ b, law10_Small.f gs = some b ∧ (b = true → ∀ g ∈ gs, ∀ n ∈ g.L, NodeOk 8192 n) := by
  unfold law10_Small.f
  obtain ⟨r, e, hr⟩ := loop_ex (body := law10_Small.l0 gs) (fun r => r = .ret false ∨ ∃ n j : Nat, r = .go ((n : Int), (j : Int)) ∧ (n ≤ 4000 → ∀ g ∈ gs, ∀ x ∈ g.L, SmallN x))
    (fun k st => ∃ n j : Nat, k + j = gs.length ∧ st = ((n : Int), (j : Int)) ∧ n ≤ j * 1000000000000000 ∧ (n ≤ 4000 → ∀ g ∈ gs.take j, ∀ x ∈ g.L, SmallN x)) (fun k st ⟨n, j, hj, hst, h1, h2⟩ => by
    subst hst
    unfold law10_Small.l0
    dsimp only
    by_cases h : j < gs.length
    · rw [if_pos (by omega), if_pos (by omega), rd_nat _ _ h]
      have hG := hg _ (List.getElem_mem h)
      have hL := hG.1
      have hw : w64 ((n : Int) + (gs[j].L.length : Int)) = ((n + gs[j].L.length : Nat) : Int) := by rw [w64_id (by omega) (by omega)]; omega
      rw [hw]
      obtain ⟨r, er, hr⟩ := Small_nodes gs j h hG (n : Int) (n + gs[j].L.length) (by omega)
      rw [er]
      simp only [bindS]
      rcases hr with rfl | ⟨n', i, rfl, h3, h4, h5⟩
      · left
        rw [on_ret]
        exact ⟨_, rfl, .inl rfl⟩
      · right
        rw [on_go]
        refine ⟨_, k - 1, rfl, by omega, n', j + 1, by omega, by rw [w64_id (by omega) (by omega)]; rfl, by omega, ?_⟩
        intro hle g hgm
        rw [List.take_add_one, List.getElem?_eq_getElem h] at hgm
        rcases List.mem_append.1 hgm with hgm | hgm
        · exact h2 (by omega) g hgm
        · have hgm : g = gs[j] := by simpa using hgm
          subst hgm
          exact h5 hle
    · left
      rw [if_neg (by omega)]
      obtain rfl : j = gs.length := by omega
      rw [List.take_length] at h2
      exact ⟨_, rfl, .inr ⟨n, _, rfl, h2⟩⟩) gs.length ((0 : Int), (0 : Int)) ⟨0, 0, rfl, rfl, by omega, fun _ g hg => by simp at hg⟩
  rw [e, obind]
  rcases hr with rfl | ⟨n, j, rfl, h⟩
  · rw [on_ret]
    exact ⟨_, rfl, by simp⟩
  · rw [on_go]
    dsimp only
    rw [if_pos (by omega)]
    by_cases h4 : (n : Int) ≤ 4000
    · rw [if_pos h4]
      exact ⟨_, rfl, fun _ g hgm x hx => (h (by omega) g hgm x hx).ok ((hg g hgm).2 x hx)⟩
    · rw [if_neg h4]
      exact ⟨_, rfl, by simp⟩
theorem SameInts_eq24 (a b : List Int) (ha : a.length ≤ 9223372036854775806) : ref1_SameInts.f a b = some (decide (a = b)) := by
  unfold ref1_SameInts.f
  by_cases hl : a.length = b.length
  · rw [if_pos (by omega)]
    obtain ⟨r, e, hr⟩ := eq_loop a b hl ha (ref1_SameInts.l0 a b) (fun j h1 h2 => by
      unfold ref1_SameInts.l0
      rw [if_pos (by omega), if_pos (by omega), if_pos (by omega), rd_nat _ _ h1, rd_nat _ _ h2]
      exact ⟨fun h => if_pos h, fun h => if_neg h⟩) (by
      unfold ref1_SameInts.l0
      rw [if_neg (by omega)])
    rw [e, obind]
    rcases hr with ⟨h, y, rfl⟩ | ⟨h, rfl⟩
    · rw [on_go, decide_eq_true h]
    · rw [on_ret, decide_eq_false h]
  · rw [if_neg (by omega), decide_eq_false (fun h => hl (by rw [h]))]
theorem Same_eq24 {x y : Nat} (hx : Fl x) (hy : Fl y) : ref1_Same.f x y = some (decide (x = y)) := by
  unfold ref1_Same.f
  rw [ref1_Bits_nb, obind, ref1_Bits_nb, obind]
  by_cases h : x = y
  · rw [if_pos (by rw [h]), decide_eq_true h]
  · rw [if_neg (fun e => h (nbits_inj hx hy e)), decide_eq_false h]
theorem SameTensor_eq24 (a b : Tensor) (h1 : a.Shape.length ≤ 9223372036854775806) (h2 : a.Data.length ≤ 9223372036854775806) (ha : ∀ x ∈ a.Data, Fl x) (hb : ∀ x ∈ b.Data, Fl x) : ref1_SameTensor.f a b = some (decide (a.Shape = b.Shape ∧ a.Data = b.Data)) := by
  unfold ref1_SameTensor.f
  rw [SameInts_eq24 _ _ h1, obind]
  by_cases hs : a.Shape = b.Shape
  · rw [if_pos (decide_eq_true hs)]
    by_cases hl : a.Data.length = b.Data.length
    · rw [if_pos (by omega)]
      obtain ⟨r, e, hr⟩ := eq_loop a.Data b.Data hl h2 (ref1_SameTensor.l0 a b) (fun j h1 h2 => by
        unfold ref1_SameTensor.l0
        rw [if_pos (by omega), if_pos (by omega), if_pos (by omega), rd_nat _ _ h1, rd_nat _ _ h2, Same_eq24 (ha _ (List.getElem_mem h1)) (hb _ (List.getElem_mem h2))]
        simp only [bindS]
        exact ⟨fun h => if_pos (decide_eq_true h), fun h => if_neg (by simpa using h)⟩) (by
        unfold ref1_SameTensor.l0
        rw [if_neg (by omega)])
      rw [e, obind]
      rcases hr with ⟨h, y, rfl⟩ | ⟨h, rfl⟩
      · rw [on_go, decide_eq_true ⟨hs, h⟩]
      · rw [on_ret, decide_eq_false (fun h' => h h'.2)]
    · rw [if_neg (by omega), decide_eq_false (fun h => hl (by rw [h.2]))]
  · rw [if_neg (by simpa using hs), decide_eq_false (fun h => hs h.1)]
theorem hook_ext {a b : Hook} (h1 : a.Do = b.Do) (h2 : a.X = b.X) : a = b := by cases a; cases b; cases h1; cases h2; rfl
theorem node_ext {a b : Node} (h1 : a.Op = b.Op) (h2 : a.No = b.No) (h3 : a.In = b.In) (h4 : a.To = b.To) (h5 : a.Val.Shape = b.Val.Shape ∧ a.Val.Data = b.Val.Data) (h6 : a.Hooks = b.Hooks) : a = b := by
  obtain ⟨_, _, _, _, ⟨_, _⟩, _⟩ := a
  obtain ⟨_, _, _, _, ⟨_, _⟩, _⟩ := b
  cases h1; cases h2; cases h3; cases h4; cases h5.1; cases h5.2; cases h6; rfl
theorem hooks_same (x0 x1 : Graph) (i : Nat) (h0 : i < x0.L.length) (h1 : i < x1.L.length) (hl : x0.L[i].Hooks.length = x1.L[i].Hooks.length) (hn : x0.L[i].Hooks.length ≤ 9223372036854775806) (ha : ∀ x ∈ x0.L[i].Hooks, Fl x.X) (hb : ∀ x ∈ x1.L[i].Hooks, Fl x.X) :
    ∃ r, loop (law24_same.l1 x0 (i : Int) x1) 0 = some r ∧ ((x0.L[i].Hooks = x1.L[i].Hooks ∧ ∃ y, r = .go y) ∨ (x0.L[i].Hooks ≠ x1.L[i].Hooks ∧ r = .ret false)) := by
  refine eq_loop _ _ hl hn _ (fun j h2 h3 => ?_) ?_
  · unfold law24_same.l1
    rw [rd_nat _ _ h0, rd_nat _ _ h1, if_pos (by omega), if_pos (by omega), if_pos (by omega), rd_nat _ _ h2, rd_nat _ _ h3]
    by_cases hd : x0.L[i].Hooks[j].Do = x1.L[i].Hooks[j].Do
    · rw [if_pos hd, Same_eq24 (ha _ (List.getElem_mem h2)) (hb _ (List.getElem_mem h3))]
      simp only [bindS]
      refine ⟨fun h => if_pos (decide_eq_true (by rw [h])), fun h => if_neg ?_⟩
      intro hc
      exact h (hook_ext hd (of_decide_eq_true hc))
    · rw [if_neg hd]
      exact ⟨fun h => absurd (by rw [h]) hd, fun _ => rfl⟩
  · unfold law24_same.l1
    rw [rd_nat _ _ h0, if_neg (by omega)]
theorem same_eq (a b : Graph) (hla : a.L.length ≤ 9223372036854775806) (ha : ∀ n ∈ a.L, NodeOk 1048576 n) (hb : ∀ n ∈ b.L, NodeOk 1048576 n) : ∃ r, law24_same.f a b = some r ∧ (r = true ↔ a.L = b.L) := by
  unfold law24_same.f
  by_cases hl : a.L.length = b.L.length
  · rw [if_pos (by omega)]
    obtain ⟨r, e, hr⟩ := eq_loop a.L b.L hl hla (law24_same.l0 a b) (fun j h1 h2 => by
      have oa := ha _ (List.getElem_mem h1)
      have ob := hb _ (List.getElem_mem h2)
      have a1 := oa.inL; have a2 := oa.toL; have a3 := oa.shL; have a4 := oa.daL; have a5 := oa.hoL
      unfold law24_same.l0
      rw [if_pos (by omega), if_pos (by omega), if_pos (by omega), rd_nat _ _ h1, rd_nat _ _ h2]
      by_cases c1 : a.L[j].Op = b.L[j].Op
      rotate_left
      · rw [if_neg c1]; exact ⟨fun h => absurd (by rw [h]) c1, fun _ => rfl⟩
      rw [if_pos c1]
      by_cases c2 : a.L[j].No = b.L[j].No
      rotate_left
      · rw [if_neg c2]; exact ⟨fun h => absurd (by rw [h]) c2, fun _ => rfl⟩
      rw [if_pos c2, SameInts_eq24 _ _ (by omega), SameInts_eq24 _ _ (by omega), SameTensor_eq24 ⟨a.L[j].Val.Shape, a.L[j].Val.Data⟩ ⟨b.L[j].Val.Shape, b.L[j].Val.Data⟩ (show a.L[j].Val.Shape.length ≤ _ by omega) (show a.L[j].Val.Data.length ≤ _ by omega) oa.daF ob.daF]
      simp only [bindS]
      by_cases c3 : a.L[j].In = b.L[j].In
      rotate_left
      · rw [if_neg (by simpa using c3)]; exact ⟨fun h => absurd (by rw [h]) c3, fun _ => rfl⟩
      rw [if_pos (decide_eq_true c3)]
      by_cases c4 : a.L[j].To = b.L[j].To
      rotate_left
      · rw [if_neg (by simpa using c4)]; exact ⟨fun h => absurd (by rw [h]) c4, fun _ => rfl⟩
      rw [if_pos (decide_eq_true c4)]
      by_cases c5 : a.L[j].Val.Shape = b.L[j].Val.Shape ∧ a.L[j].Val.Data = b.L[j].Val.Data
      rotate_left
      · rw [if_neg (by rw [decide_eq_false c5]; simp)]; exact ⟨fun h => absurd ⟨by rw [h], by rw [h]⟩ c5, fun _ => rfl⟩
      rw [if_pos (decide_eq_true c5)]
      by_cases c6 : a.L[j].Hooks.length = b.L[j].Hooks.length
      rotate_left
      · rw [if_neg (by omega)]; exact ⟨fun h => absurd (by rw [h]) c6, fun _ => rfl⟩
      rw [if_pos (by omega)]
      obtain ⟨r, er, hr⟩ := hooks_same a b j h1 h2 c6 (by omega) (fun x hx => (oa.hoF x hx).2) (fun x hx => (ob.hoF x hx).2)
      rw [er]
      simp only
      rcases hr with ⟨h, y, rfl⟩ | ⟨h, rfl⟩
      · rw [on_go]; exact ⟨fun _ => rfl, fun hne => absurd (node_ext c1 c2 c3 c4 c5 h) hne⟩
      · rw [on_ret]; exact ⟨fun he => absurd (by rw [he]) h, fun _ => rfl⟩) (by
      unfold law24_same.l0
      rw [if_neg (by omega)])
    rw [e, obind]
    rcases hr with ⟨h, y, rfl⟩ | ⟨h, rfl⟩
    · rw [on_go]; exact ⟨_, rfl, by simpa using h⟩
    · rw [on_ret]; exact ⟨_, rfl, by simpa using h⟩
  · rw [if_neg (by omega)]
    exact ⟨_, rfl, by simp; intro h; exact hl (by rw [h])⟩
end Go.Proofs.YtkdhahdfkonilaaDoor
