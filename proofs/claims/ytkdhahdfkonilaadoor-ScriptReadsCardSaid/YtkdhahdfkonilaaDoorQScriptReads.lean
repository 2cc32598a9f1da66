/- Plain law of ScriptReads: any text: a graph whose text it is, or no form. -/
import Derived.Test.YtkdhahdfkonilaaDoorQA24
import Derived.Test.YtkdhahdfkonilaaDoorP25
import Derived.Test.YtkdhahdfkonilaaDoorLScriptReads
namespace Go.Proofs.YtkdhahdfkonilaaDoor
open Go Go.RowKit
set_option linter.unusedSimpArgs false
set_option linter.unusedVariables false

theorem law24_ScriptReads.plain (x0 : List UInt8) : law24_ScriptReads.f x0 = some true := by
  unfold law24_ScriptReads.f
  rw [law24_awake_ev, obind, if_pos rfl]
  by_cases c : 20000 < (x0.length : Int)
  · rw [if_pos c]
  rw [if_neg c]
  obtain ⟨g, e, hR, h⟩ := Read_ex x0 (by omega)
  rw [hR, obind]
  dsimp only
  rcases h with ⟨rfl, h256, hall, ht⟩ | ⟨he, hL⟩
  · have hb : anyBad g.L = false := by
      rw [anyBad, List.any_eq_false]
      intro n hn hc
      rw [(hall n hn).2] at hc; cases hc
    rw [if_pos rfl, Text_eq g (by decide : 20001 ≤ 1048576) (fun n hn => (hall n hn).1), obind, if_pos (by rw [if_neg (by omega), if_neg (by rw [hb]; simp), ht])]
  · rcases he with rfl | rfl
    · rw [if_neg (by decide), if_neg (by decide), if_pos rfl, if_pos (by rw [hL]; rfl)]
    · rw [if_neg (by decide), if_pos rfl, if_pos (by rw [hL]; rfl)]

end Go.Proofs.YtkdhahdfkonilaaDoor
