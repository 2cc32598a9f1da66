/- Plain law of ScriptNumbers: a number's digits, the number that they are. -/
import Derived.Test.YtkdhahdfkonilaaDoorQA24
import Derived.Test.YtkdhahdfkonilaaDoorP22
import Derived.Test.YtkdhahdfkonilaaDoorLScriptNumbers
namespace Go.Proofs.YtkdhahdfkonilaaDoor
open Go Go.RowKit
set_option linter.unusedSimpArgs false
set_option linter.unusedVariables false

theorem wf_u64 {x : Int} (h : (Lit.int .u64 x).wf = true) : 0 ≤ x ∧ x < 18446744073709551616 := by
  simp [Lit.wf, IntKind.min, IntKind.max, IntKind.signed, IntKind.bits] at h
  omega
theorem law24_ScriptNumbers.plain (x0 : Nat) (x1 : Int) (x2 : List UInt8) (h0 : x0 < 2 ^ 64 ∧ canon x0 = x0) (h1 : 0 ≤ x1 ∧ x1 < 18446744073709551616) : law24_ScriptNumbers.f x0 x1 x2 = some true := by
  unfold law24_ScriptNumbers.f
  rw [law24_awake_ev, obind, if_pos rfl]
  by_cases c : 100 < (x2.length : Int)
  · rw [if_pos c]
  rw [if_neg c]
  obtain ⟨b, hb, hlt⟩ := nbits_lt h0.1
  have hback := nbits_back h0.2 hb
  obtain ⟨d, hd, hdlt⟩ := nbits_lt (canon_lt (n := x1.toNat) (by omega))
  rw [script_Number_eq x0 b hb hlt, obind, script_Parse_hex b hlt hback, obind, if_pos h1, script_Number_eq _ d hd hdlt, obind]
  obtain ⟨r, hr⟩ := script_Parse_ex x2
  have hr' := hr
  rw [parse_same] at hr'
  rw [hr, obind, hr', obind, ref19_Number_eq x0 b hb hlt, obind, if_pos rfl, if_pos rfl, ref1_Same_nb _ _ (by rw [hb, hback]), obind, if_pos rfl, ref19_Number_eq _ d hd hdlt, obind, if_pos rfl, if_pos (by simp), ref1_Same_nb _ _ rfl, obind]

end Go.Proofs.YtkdhahdfkonilaaDoor
