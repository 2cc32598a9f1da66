/- Plain law of ScriptKnown: texts by hand; what is none. -/
import Derived.Test.YtkdhahdfkonilaaDoorP28
import Derived.Test.YtkdhahdfkonilaaDoorVScriptKnown
namespace Go.Proofs.YtkdhahdfkonilaaDoor
open Go Go.RowKit
set_option linter.unusedSimpArgs false
set_option linter.unusedVariables false
set_option maxRecDepth 100000

def leafN : Node := ⟨1, [], [], 0, ⟨[], []⟩, []⟩
theorem leaf_line : lineOf leafN = [108, 101, 97, 102, 10] := by decide +kernel
theorem leaf_ok : NodeOk 8192 leafN ∧ nodeBad leafN = false :=
  ⟨⟨by decide, by decide, by decide, by decide, by decide, (fun _ h => by cases h), (fun _ h => by cases h), I64.zero, (fun _ h => by cases h), (fun _ h => by cases h), (fun _ h => by cases h)⟩, by decide +kernel⟩
/-- five nodes -/
def fiveN : List Node := [⟨3, [], [], 0, ⟨[], []⟩, []⟩, ⟨1, [], [], 3, ⟨[], []⟩, [⟨1, 4611686018427387904⟩]⟩, ⟨2, [], [], 0, ⟨[2], [4607182418800017408, 9221120237041090561]⟩, []⟩, ⟨14, [0], [2, 2], 0, ⟨[], []⟩, []⟩, ⟨16, [3], [], 1, ⟨[], []⟩, []⟩]
theorem five_text : textL fiveN = [112, 97, 114, 97, 109, 10, 108, 101, 97, 102, 32, 110, 58, 51, 32, 104, 58, 49, 44, 52, 48, 48, 48, 48, 48, 48, 48, 48, 48, 48, 48, 48, 48, 48, 48, 10, 99, 111, 110, 115, 116, 32, 115, 58, 50, 32, 118, 58, 51, 102, 102, 48, 48, 48, 48, 48, 48, 48, 48, 48, 48, 48, 48, 48, 32, 118, 58, 55, 102, 102, 56, 48, 48, 48, 48, 48, 48, 48, 48, 48, 48, 48, 49, 10, 98, 114, 111, 97, 100, 99, 97, 115, 116, 32, 105, 58, 48, 32, 116, 58, 50, 32, 116, 58, 50, 10, 99, 97, 108, 108, 32, 105, 58, 51, 32, 110, 58, 49, 10] := by decide +kernel
theorem I64.small {n : Int} (h1 : 0 ≤ n) (h2 : n ≤ 100) : I64 n := by unfold I64; omega
theorem five_ok : ∀ n ∈ fiveN, NodeOk 8192 n ∧ nodeBad n = false := by
  have hf : Fl 4611686018427387904 ∧ Fl 4607182418800017408 ∧ Fl 9221120237041090561 := by unfold Fl; decide +kernel
  intro n hn
  simp only [fiveN, List.mem_cons, List.not_mem_nil, or_false] at hn
  rcases hn with rfl | rfl | rfl | rfl | rfl
  all_goals refine ⟨⟨by decide, by decide, by decide, by decide, by decide, ?_, ?_, ?_, ?_, ?_, ?_⟩, by decide +kernel⟩
  all_goals first
    | (intro x hx; cases hx; done)
    | exact I64.small (by decide) (by decide)
    | (intro x hx
       simp only [List.mem_cons, List.not_mem_nil, or_false] at hx
       first
         | (subst hx; exact I64.small (by decide) (by decide))
         | (rcases hx with rfl | rfl <;> exact I64.small (by decide) (by decide))
         | (subst hx; exact ⟨I64.small (by decide) (by decide), hf.1⟩)
         | (rcases hx with rfl | rfl
            · exact hf.2.1
            · exact hf.2.2))
theorem five_read : script_Read.f (textL fiveN) = some (⟨fiveN⟩, 0) := Read_back (by decide : 8192 ≤ 1048576) fiveN five_ok (by decide) (by rw [five_text]; decide)
theorem five_write : script_Text.f ⟨fiveN⟩ = some (textL fiveN) := by
  rw [Text_eq ⟨fiveN⟩ (by decide : 8192 ≤ 1048576) (fun n hn => (five_ok n hn).1), if_neg (by decide), if_neg (by
    intro hc
    obtain ⟨n, hn, hc⟩ := List.any_eq_true.1 hc
    rw [(five_ok n hn).2] at hc; cases hc)]

theorem read_all : ∀ (t a : List Node), (∀ n ∈ t, NodeOk 8192 n ∧ nodeBad n = false) → (textL t).length < 4294967281 → a.length + t.length ≤ 1024 → loop (script_Read.l0) (textL t, a) = some (.go ([], a ++ t)) := by
  intro t
  induction t with
  | nil =>
    intro a _ _ _
    refine loop_done ?_
    unfold script_Read.l0
    dsimp only
    rw [if_pos (show textL [] = [] from rfl), List.append_nil]
    rfl
  | cons n t ih =>
    intro a ht hlt ha
    obtain ⟨hn, hb⟩ := ht n (by simp)
    have h10 : (10 : UInt8) ∉ Lib.join (nodeWords n) [32] := join_mem (by decide) _ _ (fun w hw => (words_plain hb w hw).2)
    have etx : textL (n :: t) = Lib.join (nodeWords n) [32] ++ 10 :: textL t := by rw [textL_cons, lineOf]; simp
    rw [etx] at hlt ⊢
    simp only [List.length_cons] at ha
    have hs : script_Read.l0 (Lib.join (nodeWords n) [32] ++ 10 :: textL t, a) = .next (textL t, a ++ [n]) := by
      unfold script_Read.l0
      dsimp only
      rw [if_neg (by simp), Cut_eq _ _ hlt, cut_hit h10]
      simp only [bindS]
      rw [node_back hn (by decide) hb]
      simp only
      rw [if_pos trivial, if_pos trivial, if_pos (by omega)]
    rw [loop_next hs, ih _ (fun m hm => ht m (List.mem_cons_of_mem _ hm)) (by simp at hlt; omega) (by simp; omega)]
    simp
theorem leaves_ok (k : Nat) : ∀ n ∈ List.replicate k leafN, NodeOk 8192 n ∧ nodeBad n = false := fun n hn => by rw [List.eq_of_mem_replicate hn]; exact leaf_ok
theorem leaves_length (k : Nat) : (textL (List.replicate k leafN)).length = 5 * k := by
  induction k with
  | zero => rfl
  | succ k ih => rw [List.replicate_succ, textL_cons, List.length_append, ih, leaf_line]; simp; omega
theorem long_loop : loop (law24_ScriptKnown.l1) (([] : List UInt8), (0 : Int)) = some (textL (List.replicate 257 leafN), 257) := by
  refine loop_to _ (fun k st => ∃ j : Nat, k + j = 257 ∧ st = (textL (List.replicate j leafN), (j : Int))) ?_ 257 _ ⟨0, rfl, rfl⟩
  rintro k _ ⟨j, hj, rfl⟩
  unfold law24_ScriptKnown.l1
  dsimp only
  have hl := leaves_length j
  by_cases h : j ≤ 256
  · right
    rw [if_pos (by omega), if_pos (by simp; omega)]
    refine ⟨_, k - 1, rfl, by omega, j + 1, by omega, ?_⟩
    rw [List.replicate_succ', textL_snoc, leaf_line, w64_id (by omega) (by omega)]
    rfl
  · left
    obtain rfl : j = 257 := by omega
    rw [if_neg (by omega)]
    rfl
theorem bad_loop : loop (law24_ScriptKnown.l0) 0 = some (.go 17) := loopF_le_loop (law24_ScriptKnown.l0e_le 3000) 100 0 _ (by kernel_rfl)

theorem law24_ScriptKnown.plain : law24_ScriptKnown.f = some true := by
  have hawake : law24_awake.f = some true := law24_awake.e_le 5000 true (by kernel_rfl)
  have hnum : script_Number.f 13835058055282163712 = some [99, 48, 48, 48, 48, 48, 48, 48, 48, 48, 48, 48, 48, 48, 48, 48] := script_Number.e_le 1000 _ _ (by kernel_rfl)
  have hempty : script_Text.f ⟨[⟨0, [], [], 0, ⟨[], []⟩, []⟩]⟩ = some [] := script_Text.e_le 1000 _ _ (by kernel_rfl)
  have hnone : script_Read.f [] = some (⟨[]⟩, 0) := script_Read.e_le 1000 _ _ (by kernel_rfl)
  have h257 : script_Read.f (textL (List.replicate 257 leafN)) = some (⟨[]⟩, 13) := by
    unfold script_Read.f
    rw [read_all _ [] (leaves_ok 257) (by rw [leaves_length]; decide) (by simp), obind, on_go]
    dsimp only
    rw [if_pos (by simp)]
  have h256 : script_Read.f (textL (List.replicate 256 leafN)) = some (⟨List.replicate 256 leafN⟩, 0) := Read_back (by decide : 8192 ≤ 1048576) _ (leaves_ok 256) (by simp) (by rw [leaves_length]; decide)
  have hslc : slc (textL (List.replicate 257 leafN)) 5 ((textL (List.replicate 257 leafN)).length : Int) = textL (List.replicate 256 leafN) := by
    rw [slc_eq, Int.toNat_natCast, List.take_length, List.replicate_succ, textL_cons, leaf_line]
    rfl
  unfold law24_ScriptKnown.f
  rw [hawake, obind, if_pos rfl, ← five_text, five_read, obind]
  dsimp only
  rw [if_pos rfl, if_pos (by decide), if_pos (by decide), if_pos (by decide), if_pos (by decide), if_neg (by decide +kernel), if_pos (by decide), if_pos (by decide), if_pos (by decide), if_pos (by decide), five_write, obind, if_pos rfl, bad_loop, obind, on_go,
    long_loop, obind]
  dsimp only
  rw [h257, obind, if_pos (by rw [leaves_length]; decide), hslc, h256, obind, hnone, obind]
  dsimp only
  rw [if_pos rfl, if_pos rfl, if_pos (by simp), if_pos rfl, if_pos (by simp), hnum, obind, if_pos rfl, hempty, obind, if_pos rfl]
end Go.Proofs.YtkdhahdfkonilaaDoor
