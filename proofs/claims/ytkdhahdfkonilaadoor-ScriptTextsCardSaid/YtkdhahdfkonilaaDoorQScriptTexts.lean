/- Plain law of ScriptTexts: any graph: its text, or that it has none; it is read as the graph. -/
import Derived.Test.YtkdhahdfkonilaaDoorQScriptApart
import Derived.Test.YtkdhahdfkonilaaDoorP29
import Derived.Test.YtkdhahdfkonilaaDoorLScriptTexts
namespace Go.Proofs.YtkdhahdfkonilaaDoor
open Go Go.RowKit
set_option linter.unusedSimpArgs false
set_option linter.unusedVariables false

theorem law24_ScriptTexts.plain (x0 : Graph) (h0 : GraphIn x0) : law24_ScriptTexts.f x0 = some true := by
  unfold law24_ScriptTexts.f
  rw [law24_awake_ev, obind, if_pos rfl]
  obtain ⟨b, eb, hb⟩ := Small_ex [x0] (by simp) (by intro g hg; simp at hg; rw [hg]; exact h0)
  rw [eb, obind]
  cases b with
  | false => rw [if_neg (by simp)]
  | true =>
    rw [if_pos rfl]
    have ha := hb rfl x0 (by simp)
    rw [Text_eq x0 (by decide : 8192 ≤ 1048576) ha, obind, Text19_eq x0 (fun n hn => big_of (ha n hn)), obind, if_pos rfl]
    by_cases c1 : (if 256 < (x0.L.length : Int) then [] else if anyBad x0.L = true then [] else textL x0.L) = []
    · rw [if_pos c1]
    rw [if_neg c1]
    obtain ⟨ta1, ta2, ta3⟩ := text_some c1 rfl
    rw [← ta3, Read_back (by decide : 8192 ≤ 1048576) x0.L (fun n hn => ⟨ha n hn, ta2 n hn⟩) ta1 (text_small ha (by omega)), obind]
    dsimp only
    rw [if_pos rfl]
    obtain ⟨r, er, hr⟩ := same_eq x0 ⟨x0.L⟩ (by have := h0.1; omega) (fun n hn => big_of (ha n hn)) (fun n hn => big_of (ha n hn))
    rw [er, obind, hr.2 rfl]

end Go.Proofs.YtkdhahdfkonilaaDoor
