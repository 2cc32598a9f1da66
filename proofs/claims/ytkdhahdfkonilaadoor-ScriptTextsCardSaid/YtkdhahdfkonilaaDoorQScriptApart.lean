/- Plain law of ScriptApart: two graphs have one text just if they are one. -/
import Derived.Test.YtkdhahdfkonilaaDoorQA24
import Derived.Test.YtkdhahdfkonilaaDoorP27
import Derived.Test.YtkdhahdfkonilaaDoorLScriptApart
namespace Go.Proofs.YtkdhahdfkonilaaDoor
open Go Go.RowKit
set_option linter.unusedSimpArgs false
set_option linter.unusedVariables false

/-- a graph's text that is not empty: what it says of the graph -/
theorem text_some {g : Graph} {s : List UInt8} (hs : s ≠ []) (h : (if 256 < (g.L.length : Int) then [] else if anyBad g.L = true then [] else textL g.L) = s) : g.L.length ≤ 256 ∧ (∀ n ∈ g.L, nodeBad n = false) ∧ textL g.L = s := by
  by_cases h1 : 256 < (g.L.length : Int)
  · rw [if_pos h1] at h; exact absurd h.symm hs
  · rw [if_neg h1] at h
    by_cases h2 : anyBad g.L = true
    · rw [if_pos h2] at h; exact absurd h.symm hs
    · rw [if_neg h2] at h
      refine ⟨by omega, fun n hn => ?_, h⟩
      have := List.any_eq_false.1 (by simpa [anyBad] using h2) n hn
      simpa using this
theorem text_small {L : List Node} (h : ∀ n ∈ L, NodeOk 8192 n) (hl : L.length ≤ 512) : (textL L).length < 4294967281 := by
  have h1 := textL_short h
  have h2 : L.length * (325 * 8192 + 131) ≤ 512 * (325 * 8192 + 131) := Nat.mul_le_mul_right _ hl
  omega
theorem text_inj {a b : Graph} (ha : ∀ n ∈ a.L, NodeOk 8192 n) (hb : ∀ n ∈ b.L, NodeOk 8192 n) {s : List UInt8} (ta : a.L.length ≤ 256 ∧ (∀ n ∈ a.L, nodeBad n = false) ∧ textL a.L = s) (tb : b.L.length ≤ 256 ∧ (∀ n ∈ b.L, nodeBad n = false) ∧ textL b.L = s) : a.L = b.L := by
  have e1 := Read_back (by decide : 8192 ≤ 1048576) a.L (fun n hn => ⟨ha n hn, ta.2.1 n hn⟩) ta.1 (text_small ha (by omega))
  have e2 := Read_back (by decide : 8192 ≤ 1048576) b.L (fun n hn => ⟨hb n hn, tb.2.1 n hn⟩) tb.1 (text_small hb (by omega))
  rw [ta.2.2] at e1
  rw [tb.2.2, e1] at e2
  have e3 := congrArg Prod.fst (Option.some.inj e2)
  exact congrArg Graph.L e3
theorem big_of {n : Node} (h : NodeOk 8192 n) : NodeOk 1048576 n := h.mono (by decide)

theorem law24_ScriptApart.plain (x0 x1 : Graph) (h0 : GraphIn x0) (h1 : GraphIn x1) : law24_ScriptApart.f x0 x1 = some true := by
  unfold law24_ScriptApart.f
  rw [law24_awake_ev, obind, if_pos rfl]
  obtain ⟨b, eb, hb⟩ := Small_ex [x0, x1] (by simp) (by intro g hg; simp at hg; rcases hg with rfl | rfl <;> assumption)
  rw [eb, obind]
  cases b with
  | false => rw [if_neg (by simp)]
  | true =>
    rw [if_pos rfl]
    have ha := hb rfl x0 (by simp)
    have hb := hb rfl x1 (by simp)
    rw [Text_eq x0 (by decide : 8192 ≤ 1048576) ha, obind, Text_eq x1 (by decide : 8192 ≤ 1048576) hb, obind]
    obtain ⟨r, er, hr⟩ := same_eq x0 x1 (by have := h0.1; omega) (fun n hn => big_of (ha n hn)) (fun n hn => big_of (hb n hn))
    rw [er, obind]
    by_cases c1 : (if 256 < (x0.L.length : Int) then [] else if anyBad x0.L = true then [] else textL x0.L) = []
    · rw [if_pos c1]
    rw [if_neg c1]
    by_cases c2 : (if 256 < (x1.L.length : Int) then [] else if anyBad x1.L = true then [] else textL x1.L) = []
    · rw [if_pos c2]
    rw [if_neg c2]
    have ta := text_some c1 rfl
    have tb := text_some c2 rfl
    by_cases c3 : (if 256 < (x0.L.length : Int) then [] else if anyBad x0.L = true then [] else textL x0.L) = (if 256 < (x1.L.length : Int) then [] else if anyBad x1.L = true then [] else textL x1.L)
    · rw [if_pos c3]
      have hs := text_inj ha hb ta (c3 ▸ tb)
      rw [hr.2 hs]
      rfl
    · rw [if_neg c3, obind]
      have hf : r = false := by
        cases r with
        | false => rfl
        | true =>
          have := hr.1 rfl
          exact absurd (by rw [this]) c3
      rw [hf]
      rfl

end Go.Proofs.YtkdhahdfkonilaaDoor
