/- Plain laws, part 24: a script's words. -/
import Derived.Test.YtkdhahdfkonilaaDoorP23
import Derived.Test.YtkdhahdfkonilaaDoorF0
import Derived.Test.YtkdhahdfkonilaaDoorF1
import Derived.Test.YtkdhahdfkonilaaDoorF2
import Derived.Test.YtkdhahdfkonilaaDoorF3
namespace Go.Proofs.YtkdhahdfkonilaaDoor
open Go Go.RowKit
set_option linter.unusedSimpArgs false
set_option linter.unusedVariables false

def I64 (x : Int) : Prop := -9223372036854775808 ≤ x ∧ x ≤ 9223372036854775807
def Fl (x : Nat) : Prop := x < 2 ^ 64 ∧ canon x = x
theorem Fl.zero : Fl 0 := by unfold Fl; decide +kernel
theorem Fl.canon {n : Nat} (h : n < 2 ^ 64) : Fl (canon n) := ⟨canon_lt h, canon_canon n⟩
def hexN (x : Nat) : List UInt8 := hexL (nbits x).toNat
theorem hexN_length (x : Nat) : (hexN x).length = 16 := hexL_length _
theorem back_nbits {x b : Nat} (h : Fl x) (hb : nbits x = (b : Int)) : canon b = x := by
  unfold nbits at hb
  split at hb
  · rename_i hn
    have e : b = 9221120237041090561 := by unfold NB at hb; omega
    subst e
    rcases canon_cases x with ⟨h1, _⟩ | ⟨_, h2, _⟩
    · rw [fne_self hn] at h1; cases h1
    · rw [canon_NB]
      rw [h.2] at h2
      rw [h2]; rfl
  · have e : b = x := by omega
    rw [e, h.2]
theorem nbits_inj {x y : Nat} (hx : Fl x) (hy : Fl y) (h : nbits x = nbits y) : x = y := by
  obtain ⟨b, hb, _⟩ := nbits_lt hx.1
  rw [← back_nbits hx hb, ← back_nbits hy (h.symm.trans hb)]

/-! ### bytes that part nothing -/
def Plain (b : UInt8) : Prop := b ≠ 10 ∧ b ≠ 32 ∧ b ≠ 44 ∧ b ≠ 58
instance (b : UInt8) : Decidable (Plain b) := by unfold Plain; infer_instance
theorem Digit.plain {b : UInt8} (h : Digit b) : Plain b :=
  ⟨(digit_ne h (by decide)).symm, (digit_ne h (by decide)).symm, (digit_ne h (by decide)).symm, (digit_ne h (by decide)).symm⟩
theorem HX_plain : ∀ d : Nat, d < 16 → Plain (UInt8.ofNat (chr HX (d : Int)).toNat) := by decide +kernel
theorem hexL_plain (b : Nat) : ∀ c ∈ hexL b, Plain c := by
  intro c hc
  simp only [hexL, bytesOf, hexI, List.map_map, List.mem_map, List.mem_range] at hc
  obtain ⟨p, _, rfl⟩ := hc
  exact HX_plain _ (Nat.mod_lt _ (by decide))
theorem hexN_plain (x : Nat) : ∀ c ∈ hexN x, Plain c := hexL_plain _
theorem itoa_plain {n : Int} (h : 0 ≤ n) : ∀ b ∈ Lib.itoa n, Plain b := fun b hb => (itoa_digit h b hb).plain

/-! ### the operators' names -/
def NAMES : List (List UInt8) := [[108, 101, 97, 102], [99, 111, 110, 115, 116], [112, 97, 114, 97, 109], [97, 100, 100], [115, 117, 98], [109, 117, 108], [100, 105, 118], [110, 101, 103], [101, 120, 112], [108, 111, 103], [114, 101, 108, 117], [109, 97, 116, 109, 117, 108], [115, 117, 109], [98, 114, 111, 97, 100, 99, 97, 115, 116], [114, 101, 115, 104, 97, 112, 101], [99, 97, 108, 108]]
def nameL (o : Int) : List UInt8 := if 1 ≤ o ∧ o ≤ 16 then rd NAMES (o - 1) else []
theorem names_ok : ∀ i : Nat, i < 16 → (rd NAMES (i : Int) ≠ [] ∧ ∀ b ∈ rd NAMES (i : Int), Plain b) ∧ ∀ j : Nat, j < 16 → rd NAMES (i : Int) = rd NAMES (j : Int) → i = j := by decide +kernel
theorem names_short : ∀ i : Nat, i < 16 → (rd NAMES (i : Int)).length ≤ 9 := by decide +kernel
theorem nameL_of {o : Int} (h1 : 1 ≤ o) (h2 : o ≤ 16) : ∃ i : Nat, i < 16 ∧ o - 1 = (i : Int) ∧ nameL o = rd NAMES (i : Int) :=
  ⟨(o - 1).toNat, by omega, by omega, by unfold nameL; rw [if_pos ⟨h1, h2⟩]; congr 1; omega⟩
theorem nameL_plain (o : Int) : ∀ b ∈ nameL o, Plain b := by
  by_cases h : 1 ≤ o ∧ o ≤ 16
  · obtain ⟨i, hi, _, e⟩ := nameL_of h.1 h.2
    rw [e]; exact (names_ok i hi).1.2
  · unfold nameL; rw [if_neg h]; simp
theorem nameL_ne {o : Int} (h1 : 1 ≤ o) (h2 : o ≤ 16) : nameL o ≠ [] := by
  obtain ⟨i, hi, _, e⟩ := nameL_of h1 h2
  rw [e]; exact (names_ok i hi).1.1
theorem nameL_inj {o p : Int} (h1 : 1 ≤ o) (h2 : o ≤ 16) (h3 : 1 ≤ p) (h4 : p ≤ 16) (h : nameL o = nameL p) : o = p := by
  obtain ⟨i, hi, ei, e⟩ := nameL_of h1 h2
  obtain ⟨j, hj, ej, e'⟩ := nameL_of h3 h4
  have := (names_ok i hi).2 j hj (by rw [← e, ← e', h])
  omega
theorem nameL_short (o : Int) : (nameL o).length ≤ 9 := by
  by_cases h : 1 ≤ o ∧ o ≤ 16
  · obtain ⟨i, hi, _, e⟩ := nameL_of h.1 h.2
    rw [e]; exact names_short i hi
  · unfold nameL; rw [if_neg h]; simp

/-! ### loops over a list; rows compared -/
theorem each_loop {σ ρ α : Type} [Inhabited α] {body : Int × σ → Step (Int × σ) ρ} (l : List α) (g : σ → α → σ) (fin : Int × σ → ρ) (P : Nat → σ → Prop) (hn : l.length ≤ 9223372036854775806)
    (step : ∀ k (h : k < l.length) s, P k s → body ((k : Int), s) = .next (w64 ((k : Int) + 1), g s l[k]) ∧ P (k + 1) (g s l[k]))
    (stop : ∀ s, P l.length s → body ((l.length : Int), s) = .done (fin ((l.length : Int), s))) (s : σ) (h0 : P 0 s) : loop body (0, s) = some (fin ((l.length : Int), l.foldl g s)) := by
  refine loop_to _ (fun k' st => ∃ j, k' + j = l.length ∧ st = ((j : Int), (l.take j).foldl g s) ∧ P j ((l.take j).foldl g s)) ?_ l.length _ ⟨0, rfl, rfl, h0⟩
  rintro k' _ ⟨j, hj, rfl, hp⟩
  by_cases h : j < l.length
  · right
    obtain ⟨e, hp'⟩ := step j h _ hp
    have et : (l.take (j + 1)).foldl g s = g ((l.take j).foldl g s) l[j] := by
      rw [List.take_add_one, List.getElem?_eq_getElem h, Option.toList_some, List.foldl_append]; rfl
    exact ⟨_, k' - 1, e, by omega, j + 1, by omega, by rw [et, w64_id (by omega) (by omega)]; rfl, by rw [et]; exact hp'⟩
  · left
    obtain rfl : j = l.length := by omega
    rw [List.take_length] at hp ⊢
    exact stop _ hp
theorem eq_loop {α : Type} [Inhabited α] (a b : List α) (hl : a.length = b.length) (hn : a.length ≤ 9223372036854775806) (body : Int → Step Int (Out2 Int Bool))
    (h : ∀ j (h1 : j < a.length) (h2 : j < b.length), (a[j] = b[j] → body (j : Int) = .next (w64 ((j : Int) + 1))) ∧ (a[j] ≠ b[j] → body (j : Int) = .done (.ret false)))
    (he : body (a.length : Int) = .done (.go (a.length : Int))) : ∃ r, loop body 0 = some r ∧ ((a = b ∧ ∃ y, r = .go y) ∨ (a ≠ b ∧ r = .ret false)) := by
  refine loop_ex (body := body) _ (fun k st => ∃ j, k + j = a.length ∧ st = (j : Int) ∧ a.take j = b.take j) ?_ a.length _ ⟨0, rfl, rfl, rfl⟩
  rintro k _ ⟨j, hj, rfl, ht⟩
  by_cases hlt : j < a.length
  · have hlt2 : j < b.length := by omega
    by_cases e : a[j] = b[j]
    · right
      refine ⟨_, k - 1, (h j hlt hlt2).1 e, by omega, j + 1, by omega, by rw [w64_id (by omega) (by omega)]; rfl, ?_⟩
      rw [List.take_add_one, List.take_add_one, ht, List.getElem?_eq_getElem hlt, List.getElem?_eq_getElem hlt2, e]
    · left
      refine ⟨_, (h j hlt hlt2).2 e, .inr ⟨fun hab => ?_, rfl⟩⟩
      subst hab; exact e rfl
  · left
    obtain rfl : j = a.length := by omega
    refine ⟨_, he, .inl ⟨?_, _, rfl⟩⟩
    rw [List.take_length, hl, List.take_length] at ht
    exact ht

/-! ### what a node's words are -/
def wordsOf (c : List UInt8) (l : List Int) : List (List UInt8) := l.map fun n => c ++ Lib.itoa n
def badI (n : Int) : Bool := decide (n < 0) || decide (999999999 < n)
def badOf (l : List Int) : Bool := l.any badI
theorem badOf_false {l : List Int} (h : badOf l = false) : ∀ n ∈ l, 0 ≤ n ∧ n ≤ 999999999 := by
  intro n hn
  have := List.any_eq_false.1 h n hn
  simp [badI] at this
  omega
def numsStep (c : List UInt8) (s : Bool × List (List UInt8)) (n : Int) : Bool × List (List UInt8) := (s.1 || badI n, s.2 ++ [c ++ Lib.itoa n])
theorem nums_fold (c : List UInt8) : ∀ (l : List Int) (s : Bool × List (List UInt8)), l.foldl (numsStep c) s = (s.1 || badOf l, s.2 ++ wordsOf c l) := by
  intro l
  induction l with
  | nil => intro s; simp [badOf, wordsOf]
  | cons n l ih =>
    intro s
    rw [List.foldl_cons, ih]
    simp [numsStep, badOf, wordsOf, Bool.or_assoc]
def dataWords (l : List Nat) : List (List UInt8) := l.map fun x => [118, 58] ++ hexN x
def hookWord (h : Hook) : List UInt8 := [104, 58] ++ Lib.itoa h.Do ++ ([44] ++ hexN h.X)
def hookWords (l : List Hook) : List (List UInt8) := l.map hookWord
def nodeWords (n : Node) : List (List UInt8) :=
  nameL n.Op :: (wordsOf [105, 58] n.In ++ (wordsOf [116, 58] n.To ++ ((if n.No = 0 then [] else wordsOf [110, 58] [n.No]) ++ (wordsOf [115, 58] n.Val.Shape ++ (dataWords n.Val.Data ++ hookWords n.Hooks)))))
def nodeBad (n : Node) : Bool :=
  decide (¬ (1 ≤ n.Op ∧ n.Op ≤ 16)) || badOf n.In || badOf n.To || badI n.No || badOf n.Val.Shape || badOf (n.Hooks.map (·.Do))
/-- a node that can be written: no more than B of each, and what its parts may be -/
structure NodeOk (B : Nat) (n : Node) : Prop where
  inL : n.In.length ≤ B
  toL : n.To.length ≤ B
  shL : n.Val.Shape.length ≤ B
  daL : n.Val.Data.length ≤ B
  hoL : n.Hooks.length ≤ B
  inI : ∀ x ∈ n.In, I64 x
  toI : ∀ x ∈ n.To, I64 x
  noI : I64 n.No
  shI : ∀ x ∈ n.Val.Shape, I64 x
  daF : ∀ x ∈ n.Val.Data, Fl x
  hoF : ∀ h ∈ n.Hooks, I64 h.Do ∧ Fl h.X

theorem Number_eq {x : Nat} (h : Fl x) : script_Number.f x = some (hexN x) := by
  obtain ⟨b, hb, hlt⟩ := nbits_lt h.1
  unfold hexN
  rw [hb, Int.toNat_natCast]
  exact script_Number_eq x b hb hlt
theorem Parse_hexN {x : Nat} (h : Fl x) : script_Parse.f (hexN x) = some (x, true) := by
  obtain ⟨b, hb, hlt⟩ := nbits_lt h.1
  unfold hexN
  rw [hb, Int.toNat_natCast, script_Parse_hex b hlt (nbits_back h.2 hb), back_nbits h hb]
theorem Parse_ex (s : List UInt8) : ∃ x b, script_Parse.f s = some (x, b) ∧ Fl x := by
  obtain ⟨⟨x, b⟩, h, hx⟩ := script_Parse_ex2 s
  refine ⟨x, b, h, ?_⟩
  rcases hx with hx | ⟨n, hn, hx⟩
  · have : x = 0 := hx
    rw [this]; exact Fl.zero
  · have : x = canon n := hx
    rw [this]; exact Fl.canon hn

theorem Itoa_eq {n : Int} (h : I64 n) : strconv_Itoa.f n = some (Lib.itoa n) := by
  unfold strconv_Itoa.f
  exact if_pos h
theorem I64.zero : I64 0 := by unfold I64; omega
theorem number_ex (s : List UInt8) : ∃ k b, script_number.f s = some (k, b) ∧ I64 k := by
  unfold script_number.f
  by_cases h : 9 < (s.length : Int)
  · rw [if_pos h]; exact ⟨0, false, rfl, I64.zero⟩
  · rw [if_neg h]
    unfold strconv_Atoi.f
    rw [if_pos (by omega)]
    cases ha : Lib.atoi s with
    | none => exact ⟨0, false, rfl, I64.zero⟩
    | some n =>
      have hb := Lib.atoi_bound ha (by omega)
      have hI : I64 n := by unfold I64; omega
      dsimp only
      rw [obind, if_pos rfl]
      by_cases h0 : 0 ≤ n
      · rw [if_pos h0, Itoa_eq hI, obind]
        split
        · exact ⟨_, _, rfl, hI⟩
        · exact ⟨_, _, rfl, hI⟩
      · rw [if_neg h0]; exact ⟨_, _, rfl, hI⟩
theorem number_back {n : Int} (h : 0 ≤ n) (h2 : n ≤ 999999999) : script_number.f (Lib.itoa n) = some (n, true) := by
  have h9 := itoa_len9 h h2
  unfold script_number.f
  rw [if_neg (by omega)]
  unfold strconv_Atoi.f
  rw [if_pos (by omega), atoi_itoa h]
  dsimp only
  rw [obind, if_pos rfl, if_pos h, Itoa_eq (by unfold I64; omega), obind, if_pos rfl]
theorem Cut_eq (s : List UInt8) (c : UInt8) (h : s.length < 4294967281) : strings_Cut.f s [c] = some (Lib.cut s [c]) := by
  unfold strings_Cut.f
  rw [if_pos h]
theorem hook_ex (s : List UInt8) (hs : s.length < 4294967281) : ∃ k b, script_hook.f s = some (k, b) ∧ I64 k.Do ∧ Fl k.X := by
  unfold script_hook.f
  obtain ⟨k, b, e1, h1⟩ := number_ex (Lib.cut s [44]).1
  obtain ⟨x, c, e2, h2⟩ := Parse_ex (Lib.cut s [44]).2.1
  rw [Cut_eq s 44 hs, obind, e1, obind, e2, obind]
  split
  · exact ⟨_, _, rfl, h1, h2⟩
  · exact ⟨_, _, rfl, h1, h2⟩
theorem hook_back {d : Int} {x : Nat} (h : 0 ≤ d) (h2 : d ≤ 999999999) (hx : Fl x) : script_hook.f (Lib.itoa d ++ 44 :: hexN x) = some (⟨d, x⟩, true) := by
  have h9 := itoa_len9 h h2
  have h16 := hexN_length x
  unfold script_hook.f
  rw [Cut_eq _ 44 (by simp; omega), cut_hit (fun hc => (itoa_plain h 44 hc).2.2.1 rfl), obind]
  dsimp only
  rw [number_back h h2, obind, Parse_hexN hx, obind, if_pos rfl]

theorem word_ex {B : Nat} {n : Node} (hn : NodeOk B n) (hB : B < 549755813888) (l s : List UInt8) (hs : s.length < 4294967281) :
    ∃ r, script_word.f n l s = some r ∧ ∀ o, NodeOk (B + 1) ⟨o, r.1, r.2.1, r.2.2.1, r.2.2.2.1, r.2.2.2.2.1⟩ := by
  obtain ⟨k, b, e1, h1⟩ := number_ex s
  obtain ⟨x, c, e2, h2⟩ := Parse_ex s
  obtain ⟨h, d, e3, h3⟩ := hook_ex s hs
  obtain ⟨a1, a2, a3, a4, a5, b1, b2, b3, b4, b5, b6⟩ := hn
  have mem : ∀ {α : Type} {P : α → Prop} {l : List α} {y : α}, (∀ x ∈ l, P x) → P y → ∀ x ∈ l ++ [y], P x := fun h hy x hx => by
    rcases List.mem_append.1 hx with hx | hx
    · exact h x hx
    · rw [List.mem_singleton] at hx; rw [hx]; exact hy
  unfold script_word.f
  rw [e1, obind]
  by_cases c1 : l = [105]
  · rw [if_pos c1, if_pos (by omega)]
    exact ⟨_, rfl, fun o => ⟨(show (n.In ++ [k]).length ≤ B + 1 by simp; omega), Nat.le_succ_of_le a2, Nat.le_succ_of_le a3, Nat.le_succ_of_le a4, Nat.le_succ_of_le a5, mem b1 h1, b2, b3, b4, b5, b6⟩⟩
  rw [if_neg c1]
  by_cases c2 : l = [116]
  · rw [if_pos c2, if_pos (by omega)]
    exact ⟨_, rfl, fun o => ⟨Nat.le_succ_of_le a1, (show (n.To ++ [k]).length ≤ B + 1 by simp; omega), Nat.le_succ_of_le a3, Nat.le_succ_of_le a4, Nat.le_succ_of_le a5, b1, mem b2 h1, b3, b4, b5, b6⟩⟩
  rw [if_neg c2]
  by_cases c3 : l = [110]
  · rw [if_pos c3]
    exact ⟨_, rfl, fun o => ⟨Nat.le_succ_of_le a1, Nat.le_succ_of_le a2, Nat.le_succ_of_le a3, Nat.le_succ_of_le a4, Nat.le_succ_of_le a5, b1, b2, h1, b4, b5, b6⟩⟩
  rw [if_neg c3]
  by_cases c4 : l = [115]
  · rw [if_pos c4, if_pos (by omega)]
    exact ⟨_, rfl, fun o => ⟨Nat.le_succ_of_le a1, Nat.le_succ_of_le a2, (show (n.Val.Shape ++ [k]).length ≤ B + 1 by simp; omega), Nat.le_succ_of_le a4, Nat.le_succ_of_le a5, b1, b2, b3, mem b4 h1, b5, b6⟩⟩
  rw [if_neg c4]
  by_cases c5 : l = [118]
  · rw [if_pos c5, e2, obind, if_pos (by omega)]
    exact ⟨_, rfl, fun o => ⟨Nat.le_succ_of_le a1, Nat.le_succ_of_le a2, Nat.le_succ_of_le a3, (show (n.Val.Data ++ [x]).length ≤ B + 1 by simp; omega), Nat.le_succ_of_le a5, b1, b2, b3, b4, mem b5 h2, b6⟩⟩
  rw [if_neg c5]
  by_cases c6 : l = [104]
  · rw [if_pos c6, e3, obind, if_pos (by omega)]
    exact ⟨_, rfl, fun o => ⟨Nat.le_succ_of_le a1, Nat.le_succ_of_le a2, Nat.le_succ_of_le a3, Nat.le_succ_of_le a4, (show (n.Hooks ++ [h]).length ≤ B + 1 by simp; omega), b1, b2, b3, b4, b5, mem b6 h3⟩⟩
  rw [if_neg c6]
  exact ⟨_, rfl, fun o => ⟨Nat.le_succ_of_le a1, Nat.le_succ_of_le a2, Nat.le_succ_of_le a3, Nat.le_succ_of_le a4, Nat.le_succ_of_le a5, b1, b2, b3, b4, b5, b6⟩⟩

/-! ### writing -/
theorem fields_names : strings_Fields.f [108, 101, 97, 102, 32, 99, 111, 110, 115, 116, 32, 112, 97, 114, 97, 109, 32, 97, 100, 100, 32, 115, 117, 98, 32, 109, 117, 108, 32, 100, 105, 118, 32, 110, 101, 103, 32, 101, 120, 112, 32, 108, 111, 103, 32, 114, 101, 108, 117, 32, 109, 97, 116, 109, 117, 108, 32, 115, 117, 109, 32, 98, 114, 111, 97, 100, 99, 97, 115, 116, 32, 114, 101, 115, 104, 97, 112, 101, 32, 99, 97, 108, 108] = some NAMES := by decide +kernel
theorem op_May_eq (o : Int) : op_May.f o = some (decide (1 ≤ o ∧ o ≤ 16)) := by
  unfold op_May.f
  by_cases h1 : 1 ≤ o
  · by_cases h2 : o ≤ 16
    · rw [if_pos h1, if_pos h2, decide_eq_true ⟨h1, h2⟩]
    · rw [if_pos h1, if_neg h2, decide_eq_false (fun h => h2 h.2)]
  · rw [if_neg h1, decide_eq_false (fun h => h1 h.1)]
theorem op_Name_eq (o : Int) : op_Name.f o = some (nameL o) := by
  unfold op_Name.f
  rw [op_May_eq, obind]
  unfold nameL
  by_cases h : 1 ≤ o ∧ o ≤ 16
  · rw [if_pos (decide_eq_true h), if_pos h, fields_names, obind, w64_id (by omega) (by omega), if_pos (by simp [NAMES]; omega)]
  · rw [if_neg (by simpa using h), if_neg h]

theorem nums_eq (c : List UInt8) (hc : c.length ≤ 100) (l : List Int) (hl : ∀ x ∈ l, I64 x) (b : List (List UInt8)) (bad : Bool) (hb : b.length + l.length ≤ 549755813888) :
    script_writer_nums.f ⟨b, bad⟩ c l = some (b ++ wordsOf c l, bad || badOf l) := by
  unfold script_writer_nums.f
  have key := each_loop (body := script_writer_nums.l0 l c) l (numsStep c) id (fun k s => s.2.length = b.length + k) (by omega) (fun k h s hp => by
    obtain ⟨bd, bs⟩ := s
    have hp : bs.length = b.length + k := hp
    have hI := hl l[k] (List.getElem_mem h)
    have h21 := Lib.itoa_length_le l[k] hI.1 hI.2
    refine ⟨?_, by show (bs ++ [_]).length = _; simp; omega⟩
    unfold script_writer_nums.l0
    dsimp only
    rw [if_pos (by omega), if_pos (by omega), rd_nat _ _ h, Itoa_eq hI]
    simp only [bindS]
    have e1 : c.length + (Lib.itoa l[k]).length ≤ 9223372036854775807 := by omega
    have e2 : bs.length + 1 ≤ 549755813888 := by omega
    unfold numsStep badI
    cases bd
    · rw [if_neg (by decide)]
      by_cases h1 : l[k] < 0
      · rw [if_pos h1, if_pos e1, if_pos e2, decide_eq_true h1]; rfl
      · rw [if_neg h1, decide_eq_false h1]
        by_cases h2 : 999999999 < l[k]
        · rw [if_pos h2, if_pos e1, if_pos e2, decide_eq_true h2]; rfl
        · rw [if_neg h2, if_pos e1, if_pos e2, decide_eq_false h2]; rfl
    · rw [if_pos rfl, if_pos e1, if_pos e2]; rfl) (fun s hp => by
    obtain ⟨bd, bs⟩ := s
    unfold script_writer_nums.l0
    dsimp only
    rw [if_neg (by omega)]
    rfl) (bad, b) rfl
  rw [key, nums_fold, obind]
  rfl

theorem data_loop (n : Node) (hd : ∀ x ∈ n.Val.Data, Fl x) (b : List (List UInt8)) (hb : b.length + n.Val.Data.length ≤ 549755813888) :
    loop (script_writer_node.l0 n) (0, b) = some ((n.Val.Data.length : Int), b ++ dataWords n.Val.Data) := by
  have key := each_loop (body := script_writer_node.l0 n) n.Val.Data (fun s x => s ++ [[118, 58] ++ hexN x]) id (fun k s => s.length = b.length + k) (by omega) (fun k h s hp => by
    have hI := hd n.Val.Data[k] (List.getElem_mem h)
    have h16 := hexN_length n.Val.Data[k]
    refine ⟨?_, by simp; omega⟩
    unfold script_writer_node.l0
    dsimp only
    rw [if_pos (by omega), if_pos (by omega), rd_nat _ _ h, Number_eq hI]
    simp only [bindS]
    rw [if_pos (by simp; omega), if_pos (by omega)]) (fun s hp => by
    unfold script_writer_node.l0
    dsimp only
    rw [if_neg (by omega)]
    rfl) b rfl
  rw [key]
  have : ∀ (l : List Nat) (s : List (List UInt8)), l.foldl (fun s x => s ++ [[118, 58] ++ hexN x]) s = s ++ dataWords l := by
    intro l
    induction l with
    | nil => intro s; simp [dataWords]
    | cons x l ih => intro s; rw [List.foldl_cons, ih]; simp [dataWords]
  rw [this]
  rfl

theorem hook_loop (n : Node) (hd : ∀ h ∈ n.Hooks, I64 h.Do ∧ Fl h.X) (bad : Bool) (b : List (List UInt8)) (hb : b.length + n.Hooks.length ≤ 549755813888) :
    loop (script_writer_node.l1 n) (0, bad, b) = some ((n.Hooks.length : Int), bad || badOf (n.Hooks.map (·.Do)), b ++ hookWords n.Hooks) := by
  have key := each_loop (body := script_writer_node.l1 n) n.Hooks (fun (s : Bool × List (List UInt8)) h => (s.1 || badI h.Do, s.2 ++ [hookWord h])) id (fun k s => s.2.length = b.length + k) (by omega) (fun k h s hp => by
    obtain ⟨bd, bs⟩ := s
    have hp : bs.length = b.length + k := hp
    have hI := hd n.Hooks[k] (List.getElem_mem h)
    have h16 := hexN_length n.Hooks[k].X
    have h21 := Lib.itoa_length_le n.Hooks[k].Do hI.1.1 hI.1.2
    refine ⟨?_, by show (bs ++ [_]).length = _; simp; omega⟩
    unfold script_writer_node.l1
    dsimp only
    rw [if_pos (by omega), if_pos (by omega), rd_nat _ _ h, nums_eq [104, 58] (by simp) [n.Hooks[k].Do] (by intro x hx; rw [List.mem_singleton] at hx; rw [hx]; exact hI.1) bs bd (by simp; omega)]
    simp only [bindS]
    have hw : w64 (((bs ++ wordsOf [104, 58] [n.Hooks[k].Do]).length : Int) - 1) = (bs.length : Int) := by
      simp only [wordsOf, List.map_cons, List.map_nil, List.length_append, List.length_cons, List.length_nil]
      rw [w64_id (by omega) (by omega)]; omega
    have hlt : bs.length < (bs ++ wordsOf [104, 58] [n.Hooks[k].Do]).length := by simp [wordsOf]
    have hg : (bs ++ wordsOf [104, 58] [n.Hooks[k].Do])[bs.length] = [104, 58] ++ Lib.itoa n.Hooks[k].Do := by simp [wordsOf]
    rw [hw, if_pos (by omega), Number_eq hI.2]
    simp only [bindS]
    rw [if_pos (by simp; omega), rd_nat _ _ hlt, hg, if_pos (by simp; omega), put_at _ _ bs.length _ rfl]
    congr 2
    · congr 1
      · simp [badOf]
      · simp [wordsOf, hookWord, List.set_append]) (fun s hp => by
    obtain ⟨bd, bs⟩ := s
    unfold script_writer_node.l1
    dsimp only
    rw [if_neg (by omega)]
    rfl) (bad, b) rfl
  rw [key]
  have : ∀ (l : List Hook) (s : Bool × List (List UInt8)), l.foldl (fun (s : Bool × List (List UInt8)) h => (s.1 || badI h.Do, s.2 ++ [hookWord h])) s = (s.1 || badOf (l.map (·.Do)), s.2 ++ hookWords l) := by
    intro l
    induction l with
    | nil => intro s; simp [badOf, hookWords]
    | cons x l ih => intro s; rw [List.foldl_cons, ih]; simp [badOf, hookWords, Bool.or_assoc]
  rw [this]
  rfl

theorem node_write {B : Nat} {n : Node} (hn : NodeOk B n) (hB : B ≤ 16777216) : script_writer_node.f ⟨[], false⟩ n = some (nodeWords n, nodeBad n) := by
  obtain ⟨a1, a2, a3, a4, a5, b1, b2, b3, b4, b5, b6⟩ := hn
  unfold script_writer_node.f
  rw [if_neg (by simp), op_May_eq, obind]
  have hin : ∀ b bad, b.length ≤ 1 → script_writer_nums.f ⟨b, bad⟩ [105, 58] n.In = some (b ++ wordsOf [105, 58] n.In, bad || badOf n.In) := fun b bad hb => nums_eq _ (by simp) _ b1 _ _ (by omega)
  have hlen : ∀ (c : List UInt8) (l : List Int), (wordsOf c l).length = l.length := fun c l => by simp [wordsOf]
  have hldat : ∀ l : List Nat, (dataWords l).length = l.length := fun l => by simp [dataWords]
  -- what stands behind the first words
  have tail : ∀ (w : List UInt8) (bad : Bool), ((script_writer_nums.f ⟨[] ++ [w], bad⟩ [105, 58] n.In).bind fun r816 =>
      (script_writer_nums.f ⟨r816.1, r816.2⟩ [116, 58] n.To).bind fun r826 =>
      if n.No = 0 then ((script_writer_nums.f ⟨r826.1, r826.2⟩ [115, 58] n.Val.Shape).bind fun r839 =>
        (loop (script_writer_node.l0 n) (0, r839.1)).bind fun r856 =>
        (loop (script_writer_node.l1 n) (0, r839.2, r856.2)).bind fun r990 =>
        some (r990.2.2, r990.2.1))
      else ((script_writer_nums.f ⟨r826.1, r826.2⟩ [110, 58] [n.No]).bind fun r1103 =>
        (script_writer_nums.f ⟨r1103.1, r1103.2⟩ [115, 58] n.Val.Shape).bind fun r1121 =>
        (loop (script_writer_node.l0 n) (0, r1121.1)).bind fun r1138 =>
        (loop (script_writer_node.l1 n) (0, r1121.2, r1138.2)).bind fun r1272 =>
        some (r1272.2.2, r1272.2.1))) = some (w :: (wordsOf [105, 58] n.In ++ (wordsOf [116, 58] n.To ++ ((if n.No = 0 then [] else wordsOf [110, 58] [n.No]) ++ (wordsOf [115, 58] n.Val.Shape ++ (dataWords n.Val.Data ++ hookWords n.Hooks))))), bad || badOf n.In || badOf n.To || badI n.No || badOf n.Val.Shape || badOf (n.Hooks.map (·.Do))) := by
    intro w bad
    rw [hin _ _ (by simp), obind]
    dsimp only
    rw [nums_eq [116, 58] (by simp) n.To b2 _ _ (by simp [hlen]; omega), obind]
    dsimp only
    by_cases h0 : n.No = 0
    · have hz : badI n.No = false := by rw [h0]; rfl
      rw [if_pos h0, if_pos h0, nums_eq [115, 58] (by simp) n.Val.Shape b4 _ _ (by simp [hlen]; omega), obind]
      dsimp only
      rw [data_loop n b5 _ (by simp [hlen]; omega), obind]
      dsimp only
      rw [hook_loop n b6 _ _ (by simp [hlen, hldat]; omega), obind, hz]
      simp
    · have hz : badOf [n.No] = badI n.No := by simp [badOf]
      rw [if_neg h0, if_neg h0, nums_eq [110, 58] (by simp) [n.No] (by intro x hx; rw [List.mem_singleton] at hx; rw [hx]; exact b3) _ _ (by simp [hlen]; omega), obind]
      dsimp only
      rw [nums_eq [115, 58] (by simp) n.Val.Shape b4 _ _ (by simp [hlen]; omega), obind]
      dsimp only
      rw [data_loop n b5 _ (by simp [hlen]; omega), obind]
      dsimp only
      rw [hook_loop n b6 _ _ (by simp [hlen, hldat]; omega), obind, hz]
      simp
  unfold nodeWords nodeBad
  by_cases h : 1 ≤ n.Op ∧ n.Op ≤ 16
  · rw [if_pos (decide_eq_true h), op_Name_eq, obind, if_pos (by simp), decide_eq_false (not_not_intro h)]
    exact tail _ false
  · rw [if_neg (by simpa using h), op_Name_eq, obind, if_pos (by simp), decide_eq_true h]
    exact tail _ true
end Go.Proofs.YtkdhahdfkonilaaDoor
