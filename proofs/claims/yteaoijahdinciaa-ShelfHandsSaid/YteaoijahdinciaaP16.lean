/- Plain laws, part 16: small tensors. -/
import Derived.Test.YteaoijahdinciaaP8
import Derived.Test.YteaoijahdinciaaF8
namespace Go.Proofs.Yteaoijahdinciaa
open Go Go.RowKit
set_option linter.unusedSimpArgs false
set_option linter.unusedVariables false

/-! ### small ones, few ones -/
abbrev smallP (t : Tensor) : Prop := t.Shape.length ≤ 40 ∧ t.Data.length ≤ 8192
theorem law3_Small_ex (t : Tensor) : law3_Small.f t = some (decide (smallP t)) := by
  unfold law3_Small.f smallP
  by_cases h1 : (t.Shape.length : Int) ≤ 40
  · by_cases h2 : (t.Data.length : Int) ≤ 8192
    · rw [if_pos h1, if_pos h2, decide_eq_true ⟨by omega, by omega⟩]
    · rw [if_pos h1, if_neg h2, decide_eq_false (fun c => by omega)]
  · rw [if_neg h1, decide_eq_false (fun c => by omega)]

theorem wf_u8 {x : Int} (h : (Lit.int .u8 x).wf = true) : 0 ≤ x ∧ x ≤ 255 := by
  have h1 : IntKind.u8.min = 0 := rfl
  have h2 : IntKind.u8.max = 255 := rfl
  simp [Lit.wf, IntKind.has, h1, h2] at h
  omega
theorem wf_i8 {x : Int} (h : (Lit.int .i8 x).wf = true) : x.natAbs ≤ 128 := by
  have h1 : IntKind.i8.min = -128 := rfl
  have h2 : IntKind.i8.max = 127 := rfl
  simp [Lit.wf, IntKind.has, h1, h2] at h
  omega
theorem wf_i16 {x : Int} (h : (Lit.int .i16 x).wf = true) : x.natAbs ≤ 32768 := by
  have h1 : IntKind.i16.min = -32768 := rfl
  have h2 : IntKind.i16.max = 32767 := rfl
  simp [Lit.wf, IntKind.has, h1, h2] at h
  omega

theorem tmod_nat {x : Int} (h : 0 ≤ x ∧ x ≤ 255) {r : Nat} (hr : 1 ≤ r) : ∃ i : Nat, Int.tmod (w64 x) (r : Int) = (i : Int) ∧ i < r := by
  rw [w64_id (by omega) (by omega), Int.tmod_eq_emod_of_nonneg h.1]
  have h1 := Int.emod_nonneg x (by omega : (r : Int) ≠ 0)
  have h2 := Int.emod_lt_of_pos x (by omega : 0 < (r : Int))
  exact ⟨(x % r).toNat, by omega, by omega⟩

end Go.Proofs.Yteaoijahdinciaa
