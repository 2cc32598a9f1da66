/- Plain laws, part 28: a text cut somewhere, read. -/
import Derived.Test.YtkdhahdfkonilaaDoorP27
import Derived.Test.YtkdhahdfkonilaaDoorF6
namespace Go.Proofs.YtkdhahdfkonilaaDoor
open Go Go.RowKit
set_option linter.unusedSimpArgs false
set_option linter.unusedVariables false

/-- a text that ends behind a line -/
def Whole10 (p : List UInt8) : Prop := p = [] ∨ p.getLast? = some 10
theorem whole_cons (j q : List UInt8) : Whole10 (j ++ 10 :: q) ↔ Whole10 q := by
  unfold Whole10
  rw [List.getLast?_append, List.getLast?_cons]
  cases h : q.getLast? with
  | none =>
    have : q = [] := List.getLast?_eq_none_iff.1 h
    subst this
    simp
  | some x =>
    have : q ≠ [] := fun e => by subst e; simp at h
    simp [this]
theorem whole_none {p : List UInt8} (h : p ≠ []) (h10 : (10 : UInt8) ∉ p) : ¬ Whole10 p := by
  rintro (h1 | h1)
  · exact h h1
  · exact h10 (List.mem_of_getLast? h1)
theorem read_prefix (t : List Node) : ∀ (a : List Node) (k : Nat), (∀ n ∈ t, NodeOk 8192 n ∧ nodeBad n = false) → t.length ≤ 512 → a.length + t.length ≤ 1024 →
    ∃ r, loop (script_Read.l0) ((textL t).take k, a) = some r ∧ ((r = .ret (⟨[]⟩, 14) ∧ ¬ Whole10 ((textL t).take k)) ∨ ∃ a', r = .go ([], a') ∧ a'.length ≤ a.length + t.length ∧ Whole10 ((textL t).take k)) := by
  induction t with
  | nil =>
    intro a k _ _ _
    refine ⟨_, loop_done (r := .go ([], a)) ?_, .inr ⟨a, rfl, by omega, .inl (by simp [textL])⟩⟩
    unfold script_Read.l0
    dsimp only
    rw [if_pos (by simp [textL])]
    simp [textL]
  | cons n t ih =>
    intro a k ht hl ha
    obtain ⟨hn, hb⟩ := ht n (by simp)
    have hsm := textL_short (l := n :: t) (fun m hm => (ht m hm).1)
    have hsm2 : (n :: t).length * (325 * 8192 + 131) ≤ 512 * (325 * 8192 + 131) := Nat.mul_le_mul_right _ hl
    have h10 : (10 : UInt8) ∉ Lib.join (nodeWords n) [32] := join_mem (by decide) _ _ (fun w hw => (words_plain hb w hw).2)
    have hj := join_short hn
    have etx : textL (n :: t) = Lib.join (nodeWords n) [32] ++ 10 :: textL t := by rw [textL_cons, lineOf]; simp
    rw [etx] at hsm ⊢
    simp only [List.length_cons] at hl ha
    by_cases hk : k ≤ (Lib.join (nodeWords n) [32]).length
    · rw [List.take_append_of_le_length hk]
      have h10' : (10 : UInt8) ∉ (Lib.join (nodeWords n) [32]).take k := fun h => h10 (List.mem_of_mem_take h)
      by_cases h0 : (Lib.join (nodeWords n) [32]).take k = []
      · refine ⟨_, loop_done (r := .go ([], a)) ?_, .inr ⟨a, rfl, by omega, .inl h0⟩⟩
        unfold script_Read.l0
        dsimp only
        rw [if_pos h0, h0]
      · obtain ⟨m, b, em, _⟩ := node_ex (K := 16000000) (by decide) ((Lib.join (nodeWords n) [32]).take k) (by rw [List.length_take]; omega)
        refine ⟨_, loop_done (r := .ret (⟨[]⟩, 14)) ?_, .inl ⟨rfl, whole_none h0 h10'⟩⟩
        unfold script_Read.l0
        dsimp only
        rw [if_neg h0, Cut_eq _ _ (by rw [List.length_take]; omega), cut_miss h10']
        simp only [bindS]
        rw [em]
        simp only
        rw [if_neg (by simp)]
    · obtain ⟨j, hjk⟩ : ∃ j, k = (Lib.join (nodeWords n) [32]).length + (j + 1) := ⟨k - (Lib.join (nodeWords n) [32]).length - 1, by omega⟩
      have ep : (Lib.join (nodeWords n) [32] ++ 10 :: textL t).take k = Lib.join (nodeWords n) [32] ++ 10 :: (textL t).take j := by
        rw [hjk, List.take_length_add_append, List.take_succ_cons]
      rw [ep]
      have hlt : (Lib.join (nodeWords n) [32] ++ 10 :: (textL t).take j).length < 4294967281 := by
        simp only [List.length_append, List.length_cons, List.length_take] at hsm ⊢
        omega
      have hs : script_Read.l0 (Lib.join (nodeWords n) [32] ++ 10 :: (textL t).take j, a) = .next ((textL t).take j, a ++ [n]) := by
        unfold script_Read.l0
        dsimp only
        rw [if_neg (by simp), Cut_eq _ _ hlt, cut_hit h10]
        simp only [bindS]
        rw [node_back hn (by decide) hb]
        simp only
        rw [if_pos trivial, if_pos trivial, if_pos (by omega)]
      obtain ⟨r, er, hr⟩ := ih (a ++ [n]) j (fun m hm => ht m (List.mem_cons_of_mem _ hm)) (by omega) (by simp; omega)
      refine ⟨r, by rw [loop_next hs, er], ?_⟩
      rw [whole_cons]
      rcases hr with ⟨e1, e2⟩ | ⟨a', e1, e2, e3⟩
      · exact .inl ⟨e1, e2⟩
      · exact .inr ⟨a', e1, by simp at e2 ⊢; omega, e3⟩
theorem Read_prefix (t : List Node) (k : Nat) (ht : ∀ n ∈ t, NodeOk 8192 n ∧ nodeBad n = false) (hl : t.length ≤ 256) :
    ∃ g e, script_Read.f ((textL t).take k) = some (g, e) ∧ (e = 0 ↔ Whole10 ((textL t).take k)) := by
  obtain ⟨r, er, hr⟩ := read_prefix t [] k ht (by omega) (by simp; omega)
  unfold script_Read.f
  rw [er, obind]
  rcases hr with ⟨rfl, h⟩ | ⟨a', rfl, h1, h2⟩
  · rw [on_ret]
    exact ⟨_, _, rfl, by simp [h]⟩
  · rw [on_go]
    dsimp only
    simp only [List.length_nil] at h1
    rw [if_neg (by omega)]
    exact ⟨_, _, rfl, by simp [h2]⟩
end Go.Proofs.YtkdhahdfkonilaaDoor
