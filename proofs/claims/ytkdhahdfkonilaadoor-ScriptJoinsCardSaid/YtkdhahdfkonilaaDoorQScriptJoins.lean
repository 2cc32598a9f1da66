/- Plain law of ScriptJoins: two graphs, one behind the other, have both texts; cut within a line it is no form. -/
import Derived.Test.YtkdhahdfkonilaaDoorQScriptApart
import Derived.Test.YtkdhahdfkonilaaDoorP28
import Derived.Test.YtkdhahdfkonilaaDoorLScriptJoins
namespace Go.Proofs.YtkdhahdfkonilaaDoor
open Go Go.RowKit
set_option linter.unusedSimpArgs false
set_option linter.unusedVariables false

theorem wf_u16 {x : Int} (h : (Lit.int .u16 x).wf = true) : 0 ≤ x ∧ x ≤ 65535 := by
  have h1 : IntKind.u16.min = 0 := rfl
  have h2 : IntKind.u16.max = 65535 := rfl
  simp [Lit.wf, IntKind.has, h1, h2] at h
  omega
theorem chr10 {s : List UInt8} {i : Nat} (h : i < s.length) : chr s (i : Int) = 10 ↔ s[i]? = some 10 := by
  unfold chr
  rw [Int.toNat_natCast, List.getD_eq_getElem?_getD, List.getElem?_eq_getElem h]
  simp only [Option.getD_some, Option.some.injEq]
  constructor
  · intro e
    apply UInt8.toNat_inj.1
    have : ((s[i].toNat : Nat) : Int) = ((10 : Nat) : Int) := e
    exact Int.ofNat_inj.1 this
  · intro e; rw [e]; rfl
theorem law24_ScriptJoins.plain (x0 x1 : Graph) (x2 : Int) (h0 : GraphIn x0) (h1 : GraphIn x1) (h2 : 0 ≤ x2 ∧ x2 ≤ 65535) : law24_ScriptJoins.f x0 x1 x2 = some true := by
  unfold law24_ScriptJoins.f
  rw [law24_awake_ev, obind, if_pos rfl]
  obtain ⟨b, eb, hb⟩ := Small_ex [x0, x1] (by simp) (by intro g hg; simp at hg; rcases hg with rfl | rfl <;> assumption)
  rw [eb, obind]
  cases b with
  | false => rw [if_neg (by simp)]
  | true =>
    rw [if_pos rfl]
    have ha := hb rfl x0 (by simp)
    have hb := hb rfl x1 (by simp)
    have l0 := h0.1
    have l1 := h1.1
    rw [w64_id (x := (x0.L.length : Int) + (x1.L.length : Int)) (by omega) (by omega)]
    by_cases c0 : 256 < (x0.L.length : Int) + (x1.L.length : Int)
    · rw [if_pos c0]
    rw [if_neg c0, Text_eq x0 (by decide : 8192 ≤ 1048576) ha, obind, Text_eq x1 (by decide : 8192 ≤ 1048576) hb, obind]
    by_cases c1 : (if 256 < (x0.L.length : Int) then [] else if anyBad x0.L = true then [] else textL x0.L) = []
    · rw [if_pos c1]
    rw [if_neg c1]
    by_cases c2 : (if 256 < (x1.L.length : Int) then [] else if anyBad x1.L = true then [] else textL x1.L) = []
    · rw [if_pos c2]
    rw [if_neg c2]
    obtain ⟨ta1, ta2, ta3⟩ := text_some c1 rfl
    obtain ⟨tb1, tb2, tb3⟩ := text_some c2 rfl
    rw [← ta3] at c1 ⊢
    rw [← tb3] at c2 ⊢
    have sa := text_small ha (by omega)
    have sb := text_small hb (by omega)
    have hpos : 0 < (textL x0.L).length := List.length_pos_iff.2 c1
    have eboth : script_Text.f ⟨([] ++ x0.L) ++ x1.L⟩ = some (textL x0.L ++ textL x1.L) := by
      rw [List.nil_append, Text_eq ⟨x0.L ++ x1.L⟩ (by decide : 8192 ≤ 1048576) (fun n hn => by
        rcases List.mem_append.1 hn with hn | hn
        · exact ha n hn
        · exact hb n hn), if_neg (by simp; omega), if_neg (by
          intro hc
          obtain ⟨n, hn, hc⟩ := List.any_eq_true.1 hc
          rcases List.mem_append.1 hn with hn | hn
          · rw [ta2 n hn] at hc; cases hc
          · rw [tb2 n hn] at hc; cases hc), textL_append]
    -- where it is cut
    obtain ⟨k, hk, hklt⟩ : ∃ k : Nat, Int.tmod (w64 x2) ((textL x0.L).length : Int) = (k : Int) ∧ k < (textL x0.L).length := by
      rw [w64_id (by omega) (by omega)]
      obtain ⟨m, rfl⟩ : ∃ m : Nat, x2 = (m : Int) := ⟨x2.toNat, by omega⟩
      exact ⟨m % (textL x0.L).length, rfl, Nat.mod_lt _ hpos⟩
    rw [hk, if_pos (by omega), if_pos (by simp; omega), if_pos (by omega), if_pos (by omega)]
    obtain ⟨g, e, eR, hR⟩ := Read_prefix x0.L k (fun n hn => ⟨ha n hn, ta2 n hn⟩) ta1
    have eslc : slc (textL x0.L) 0 (k : Int) = (textL x0.L).take k := by rw [slc_eq]; simp
    rw [eslc, eR, obind, eboth]
    by_cases ck : k = 0
    · subst ck
      have he : e = 0 := hR.2 (.inl rfl)
      rw [if_pos (show ((0 : Nat) : Int) = 0 from rfl), obind, if_pos (by omega), if_pos rfl, if_pos he]
    · rw [if_neg (by omega)]
      have hw : w64 ((k : Int) - 1) = ((k - 1 : Nat) : Int) := by rw [w64_id (by omega) (by omega)]; omega
      have hlast : ((textL x0.L).take k).getLast? = (textL x0.L)[k - 1]? := by
        rw [List.getLast?_take, if_neg ck, List.getElem?_eq_getElem (by omega)]; rfl
      have hne : (textL x0.L).take k ≠ [] := by
        intro h
        have := congrArg List.length h
        rw [List.length_take, List.length_nil] at this
        omega
      have hc : 0 ≤ ((k - 1 : Nat) : Int) ∧ ((k - 1 : Nat) : Int) < ((textL x0.L).length : Int) := by omega
      rw [hw, if_pos hc]
      by_cases c10 : chr (textL x0.L) ((k - 1 : Nat) : Int) = 10
      · have he : e = 0 := hR.2 (.inr (by rw [hlast]; exact (chr10 (by omega)).1 c10))
        rw [if_pos c10, obind, if_pos (by omega), if_pos rfl, if_pos he]
      · have he : e ≠ 0 := fun h => by
          rcases hR.1 h with h | h
          · exact hne h
          · rw [hlast] at h
            exact c10 ((chr10 (by omega)).2 h)
        rw [if_neg c10, obind, if_pos (by omega), if_pos rfl, if_neg he]

end Go.Proofs.YtkdhahdfkonilaaDoor
