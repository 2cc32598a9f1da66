/- Plain laws, part 25: a script's lines and texts, written and read. -/
import Derived.Test.YtkdhahdfkonilaaDoorP24
import Derived.Test.YtkdhahdfkonilaaDoorF3
import Derived.Test.YtkdhahdfkonilaaDoorF4
import Derived.Test.YtkdhahdfkonilaaDoorF5
import Derived.Test.YtkdhahdfkonilaaDoorF6
namespace Go.Proofs.YtkdhahdfkonilaaDoor
open Go Go.RowKit
set_option linter.unusedSimpArgs false
set_option linter.unusedVariables false

theorem on_ret {β γ X : Type} (c : γ) (k : β → X) (t : γ → X) : Out2.on (.ret c) k t = t c := rfl
theorem lens_le {ws : List (List UInt8)} (h : ∀ w ∈ ws, w.length ≤ 64) : Lib.lens ws ≤ 64 * ws.length := by
  induction ws with
  | nil => simp [Lib.lens]
  | cons w ws ih =>
    have h1 := h w (by simp)
    have h2 := ih (fun x hx => h x (List.mem_cons_of_mem _ hx))
    simp only [Lib.lens, List.map_cons, List.sum_cons, List.length_cons] at h2 ⊢
    omega

def lineOf (n : Node) : List UInt8 := Lib.join (nodeWords n) [32] ++ [10]
def textL (l : List Node) : List UInt8 := (l.map lineOf).flatten
def anyBad (l : List Node) : Bool := l.any nodeBad
theorem textL_cons (n : Node) (l : List Node) : textL (n :: l) = lineOf n ++ textL l := by simp [textL]
theorem textL_snoc (n : Node) (l : List Node) : textL (l ++ [n]) = textL l ++ lineOf n := by simp [textL]
theorem textL_append (l k : List Node) : textL (l ++ k) = textL l ++ textL k := by simp [textL]
theorem textL_length (l : List Node) : l.length ≤ (textL l).length := by
  induction l with
  | nil => simp
  | cons n l ih => rw [textL_cons]; simp [lineOf]; omega

theorem words_count {B : Nat} {n : Node} (hn : NodeOk B n) : (nodeWords n).length ≤ 5 * B + 2 := by
  have hlen : ∀ (c : List UInt8) (l : List Int), (wordsOf c l).length = l.length := fun c l => by simp [wordsOf]
  have h1 := hn.inL; have h2 := hn.toL; have h3 := hn.shL; have h4 := hn.daL; have h5 := hn.hoL
  have h6 : (if n.No = 0 then ([] : List (List UInt8)) else wordsOf [110, 58] [n.No]).length ≤ 1 := by split <;> simp [wordsOf]
  simp only [nodeWords, List.length_cons, List.length_append, hlen, dataWords, hookWords, List.length_map]
  omega
theorem words_short {B : Nat} {n : Node} (hn : NodeOk B n) : ∀ w ∈ nodeWords n, w.length ≤ 64 := by
  have hw : ∀ (c : List UInt8) (l : List Int), c.length ≤ 2 → (∀ x ∈ l, I64 x) → ∀ w ∈ wordsOf c l, w.length ≤ 64 := by
    intro c l hc hl w hw
    simp only [wordsOf, List.mem_map] at hw
    obtain ⟨x, hx, rfl⟩ := hw
    have := Lib.itoa_length_le x (hl x hx).1 (hl x hx).2
    simp; omega
  intro w hm
  simp only [nodeWords, List.mem_cons, List.mem_append] at hm
  rcases hm with rfl | hm | hm | hm | hm | hm | hm
  · have := nameL_short n.Op; omega
  · exact hw _ _ (by simp) hn.inI w hm
  · exact hw _ _ (by simp) hn.toI w hm
  · split at hm
    · simp at hm
    · exact hw _ _ (by simp) (by intro x hx; rw [List.mem_singleton] at hx; rw [hx]; exact hn.noI) w hm
  · exact hw _ _ (by simp) hn.shI w hm
  · simp only [dataWords, List.mem_map] at hm
    obtain ⟨x, _, rfl⟩ := hm
    have := hexN_length x
    simp; omega
  · simp only [hookWords, List.mem_map] at hm
    obtain ⟨x, hx, rfl⟩ := hm
    have h1 := hexN_length x.X
    have h2 := Lib.itoa_length_le x.Do (hn.hoF x hx).1.1 (hn.hoF x hx).1.2
    simp [hookWord]; omega
theorem join_short {B : Nat} {n : Node} (hn : NodeOk B n) : (Lib.join (nodeWords n) [32]).length ≤ 325 * B + 130 := by
  have h1 := words_count hn
  have h2 := lens_le (words_short hn)
  unfold nodeWords at h1 h2 ⊢
  rw [Lib.join_length]
  simp only [List.length_cons, List.length_nil] at h1 h2 ⊢
  omega
theorem textL_short {B : Nat} {l : List Node} (hl : ∀ n ∈ l, NodeOk B n) : (textL l).length ≤ l.length * (325 * B + 131) := by
  induction l with
  | nil => simp [textL]
  | cons n l ih =>
    have h1 := join_short (hl n (by simp))
    have h2 := ih (fun x hx => hl x (List.mem_cons_of_mem _ hx))
    rw [textL_cons, List.length_append, List.length_cons, Nat.succ_mul]
    simp only [lineOf, List.length_append, List.length_cons, List.length_nil]
    omega

theorem Text_eq {B : Nat} (g : Graph) (hB : B ≤ 1048576) (hg : ∀ n ∈ g.L, NodeOk B n) :
    script_Text.f g = some (if 256 < (g.L.length : Int) then [] else if anyBad g.L = true then [] else textL g.L) := by
  unfold script_Text.f
  by_cases h256 : 256 < (g.L.length : Int)
  · rw [if_pos h256, if_pos h256]
  rw [if_neg h256, if_neg h256]
  obtain ⟨r, e, hr⟩ := loop_ex (body := script_Text.l0 g) (fun r => (r = .ret [] ∧ anyBad g.L = true) ∨ ∃ i fl, r = .go (i, fl, textL g.L) ∧ anyBad g.L = false)
    (fun k st => ∃ (j : Nat) (fl : Bool), k + j = g.L.length ∧ st = ((j : Int), fl, textL (g.L.take j)) ∧ anyBad (g.L.take j) = false) (fun k st ⟨j, fl, hj, hst, hb⟩ => by
    subst hst
    unfold script_Text.l0
    dsimp only
    by_cases h : j < g.L.length
    · have hn := hg g.L[j] (List.getElem_mem h)
      have ew : script_writer_node.f ⟨[], false⟩ ⟨g.L[j].Op, g.L[j].In, g.L[j].To, g.L[j].No, ⟨g.L[j].Val.Shape, g.L[j].Val.Data⟩, g.L[j].Hooks⟩ = some (nodeWords g.L[j], nodeBad g.L[j]) := node_write hn (by omega)
      have et : g.L.take (j + 1) = g.L.take j ++ [g.L[j]] := by rw [List.take_add_one, List.getElem?_eq_getElem h]; rfl
      rw [if_pos (by omega), if_pos (by omega), rd_nat _ _ h, ew]
      simp only [bindS]
      cases hbad : nodeBad g.L[j] with
      | true =>
        left
        rw [if_pos rfl]
        exact ⟨_, rfl, .inl ⟨rfl, List.any_eq_true.2 ⟨_, List.getElem_mem h, hbad⟩⟩⟩
      | false =>
        right
        have h1 := join_short hn
        have h2 := words_count hn
        have h3 := textL_short (l := g.L.take j) (fun n hn => hg n (List.mem_of_mem_take hn))
        have h4 : (g.L.take j).length * (325 * B + 131) ≤ 256 * (325 * 1048576 + 131) := Nat.mul_le_mul (by rw [List.length_take]; omega) (by omega)
        rw [if_neg (by decide)]
        unfold strings_Join.f
        rw [if_pos ⟨by omega, by omega⟩]
        simp only
        rw [if_pos (by simp; omega), if_pos (by simp; omega)]
        refine ⟨_, k - 1, rfl, by omega, j + 1, true, by omega, ?_, ?_⟩
        · rw [et, textL_snoc, w64_id (by omega) (by omega)]; rfl
        · rw [et]; unfold anyBad at hb ⊢; rw [List.any_append, hb]; simp [hbad]
    · left
      obtain rfl : j = g.L.length := by omega
      rw [if_neg (by omega)]
      rw [List.take_length] at hb ⊢
      exact ⟨_, rfl, .inr ⟨_, _, rfl, hb⟩⟩) g.L.length ((0 : Int), false, ([] : List UInt8)) ⟨0, false, rfl, rfl, rfl⟩
  rw [e, obind]
  rcases hr with ⟨rfl, hb⟩ | ⟨i, fl, rfl, hb⟩
  · rw [on_ret, if_pos hb]
  · rw [on_go, if_neg (by rw [hb]; simp)]
theorem Equal_eq (a b : List (List UInt8)) (ha : a.length ≤ 9223372036854775806) : slices_Equal_string.f a b = some (decide (a = b)) := by
  unfold slices_Equal_string.f
  by_cases hl : a.length = b.length
  · rw [if_pos (by omega)]
    obtain ⟨r, e, hr⟩ := eq_loop a b hl ha (slices_Equal_string.l0 a b) (fun j h1 h2 => by
      unfold slices_Equal_string.l0
      rw [if_pos (by omega), if_pos (by omega), if_pos (by omega), rd_nat _ _ h1, rd_nat _ _ h2]
      exact ⟨fun h => if_pos h, fun h => if_neg h⟩) (by
      unfold slices_Equal_string.l0
      rw [if_neg (by omega)])
    rw [e, obind]
    rcases hr with ⟨h, y, rfl⟩ | ⟨h, rfl⟩
    · rw [on_go, decide_eq_true h]
    · rw [on_ret, decide_eq_false h]
  · rw [if_neg (by omega), decide_eq_false (fun h => hl (by rw [h]))]
theorem names_loop (l : List (List UInt8)) (hl : l ≠ []) : ∃ o i, loop (script_node.l0 l) (1, 0) = some (i, o) ∧ ∀ k, 1 ≤ k → k ≤ 16 → rd l 0 = nameL k → o = k := by
  have hpos : 0 < l.length := List.length_pos_iff.2 hl
  obtain ⟨r, e, hr⟩ := loop_ex (body := script_node.l0 l) (fun r => ∀ k, 1 ≤ k → k ≤ 16 → rd l 0 = nameL k → r.2 = k)
    (fun fuel st => ∃ (j : Int), fuel + j = 17 ∧ 1 ≤ j ∧ st.1 = j ∧ ∀ k, 1 ≤ k → k < j → rd l 0 = nameL k → st.2 = k) (fun fuel st ⟨j, hf, h1, hst, hk⟩ => by
    obtain ⟨s1, c⟩ := st
    have hst : s1 = j := hst
    subst hst
    have hk : ∀ k, 1 ≤ k → k < s1 → rd l 0 = nameL k → c = k := hk
    unfold script_node.l0
    dsimp only
    by_cases h : s1 ≤ 16
    · right
      rw [if_pos h, op_Name_eq]
      simp only [bindS]
      rw [if_pos (by omega)]
      by_cases hn : nameL s1 = rd l 0
      · rw [if_pos hn]
        refine ⟨_, fuel - 1, rfl, by omega, s1 + 1, by omega, by omega, by rw [w64_id (by omega) (by omega)], fun k h1 h2 hkn => ?_⟩
        exact nameL_inj (by omega) h h1 (by omega) (hn.trans hkn)
      · rw [if_neg hn]
        refine ⟨_, fuel - 1, rfl, by omega, s1 + 1, by omega, by omega, by rw [w64_id (by omega) (by omega)], fun k h1 h2 hkn => ?_⟩
        by_cases hks : k = s1
        · subst hks; exact absurd hkn.symm hn
        · exact hk k h1 (by omega) hkn
    · left
      rw [if_neg h]
      exact ⟨_, rfl, fun k h1 h2 hkn => hk k h1 (by omega) hkn⟩) 16 (1, 0) ⟨1, by omega, by omega, rfl, fun k h1 h2 => by omega⟩
  exact ⟨r.2, r.1, e, hr⟩

abbrev NS := Int × Int × List Hook × List Nat × List Int × List Int × List Int
def stOf (i : Int) (n : Node) : NS := (i, n.No, n.Hooks, n.Val.Data, n.Val.Shape, n.To, n.In)
def zeroN (o : Int) : Node := ⟨o, [], [], 0, ⟨[], []⟩, []⟩
theorem tail_eq {l : List (List UInt8)} : (List.take l.length l).drop ((1 : Int).toNat) = l.tail := by
  rw [List.take_length]
  cases l <;> rfl
theorem cut_short (s : List UInt8) (c : UInt8) : (Lib.cut s [c]).2.1.length ≤ s.length := by
  rcases at_cases c s with h | ⟨a, r, rfl, h⟩
  · rw [cut_miss h]; simp
  · rw [cut_hit h]; simp; omega
theorem NodeOk.mono {B C : Nat} {n : Node} (h : NodeOk B n) (hC : B ≤ C) : NodeOk C n :=
  ⟨Nat.le_trans h.inL hC, Nat.le_trans h.toL hC, Nat.le_trans h.shL hC, Nat.le_trans h.daL hC, Nat.le_trans h.hoL hC, h.inI, h.toI, h.noI, h.shI, h.daF, h.hoF⟩
theorem zeroN_ok (o : Int) : NodeOk 0 (zeroN o) :=
  ⟨Nat.le_refl _, Nat.le_refl _, Nat.le_refl _, Nat.le_refl _, Nat.le_refl _, (fun _ h => by cases h), (fun _ h => by cases h), I64.zero, (fun _ h => by cases h), (fun _ h => by cases h), (fun _ h => by cases h)⟩

theorem words_loop (l : List (List UInt8)) (i : Int) (o : Int) (hl : l ≠ []) (hs : ∀ w ∈ l, w.length < 4294967281) (hn : l.length < 549755813888) :
    ∃ r, loop (script_node.l1 l (i, o)) (0, 0, [], [], [], [], []) = some r ∧ (r = .ret (zeroN 0, false) ∨ ∃ n j, r = .go (stOf j n) ∧ n.Op = o ∧ NodeOk l.length n) := by
  have hpos : 0 < l.length := List.length_pos_iff.2 hl
  refine loop_ex (body := script_node.l1 l (i, o)) _ (fun fuel st => ∃ (j : Nat) (n : Node), fuel + j = l.length - 1 ∧ st = stOf j n ∧ n.Op = o ∧ NodeOk j n) ?_ (l.length - 1) _ ⟨0, zeroN o, rfl, rfl, rfl, zeroN_ok o⟩
  rintro fuel _ ⟨j, n, hf, rfl, ho, hok⟩
  unfold script_node.l1 stOf
  dsimp only
  rw [tail_eq]
  by_cases h : j < l.length - 1
  · have ht : j < l.tail.length := by rw [List.length_tail]; exact h
    have hw := hs _ (List.mem_of_mem_tail (List.getElem_mem ht))
    obtain ⟨r, er, hr⟩ := word_ex hok (by omega) (Lib.cut l.tail[j] [58]).1 (Lib.cut l.tail[j] [58]).2.1 (Nat.lt_of_le_of_lt (cut_short _ _) hw)
    have en : (⟨o, n.In, n.To, n.No, ⟨n.Val.Shape, n.Val.Data⟩, n.Hooks⟩ : Node) = n := by rw [← ho]
    rw [if_pos (by omega), if_pos (by omega), rd_nat _ _ ht, Cut_eq _ _ hw]
    simp only [bindS]
    cases hc : (Lib.cut l.tail[j] [58]).2.2 with
    | false =>
      left
      rw [if_neg (by simp)]
      exact ⟨_, rfl, .inl rfl⟩
    | true =>
      rw [if_pos rfl, en, er]
      simp only
      cases hb : r.2.2.2.2.2 with
      | false =>
        left
        rw [if_neg (by simp)]
        exact ⟨_, rfl, .inl rfl⟩
      | true =>
        right
        rw [if_pos rfl]
        refine ⟨_, fuel - 1, rfl, by omega, j + 1, ⟨o, r.1, r.2.1, r.2.2.1, r.2.2.2.1, r.2.2.2.2.1⟩, by omega, ?_, rfl, hr o⟩
        rw [w64_id (by omega) (by omega)]; rfl
  · left
    rw [if_neg (by omega)]
    exact ⟨_, rfl, .inr ⟨n, _, rfl, ho, hok.mono (by omega)⟩⟩

theorem node_ex {K : Nat} (hK : K ≤ 16000000) (s : List UInt8) (hs : s.length ≤ K) : ∃ n b, script_node.f s = some (n, b) ∧ (b = true → NodeOk (K + 1) n ∧ nodeBad n = false ∧ nodeWords n = Lib.split s [32]) := by
  obtain ⟨x, t, e1, e2, e3, e4⟩ := split_spec 32 _ s (Nat.le_refl _)
  have hne : Lib.split s [32] ≠ [] := by rw [e1]; simp
  have hlen : (Lib.split s [32]).length ≤ K + 1 := by rw [e1]; simp; omega
  have hpos : 0 < (Lib.split s [32]).length := List.length_pos_iff.2 hne
  unfold script_node.f
  rw [split_f 32 s (by omega), obind]
  obtain ⟨o, i, en, _⟩ := names_loop (Lib.split s [32]) hne
  rw [en, obind, if_pos (by omega)]
  obtain ⟨r, ew, hr⟩ := words_loop (Lib.split s [32]) i o hne (fun w hw => by rw [e1] at hw; have := (e3 w hw).2; omega) (by omega)
  rw [ew, obind]
  rcases hr with rfl | ⟨n, j, rfl, ho, hok⟩
  · rw [on_ret]
    exact ⟨_, _, rfl, by simp⟩
  · rw [on_go]
    unfold stOf
    dsimp only
    have enn : (⟨o, n.In, n.To, n.No, ⟨n.Val.Shape, n.Val.Data⟩, n.Hooks⟩ : Node) = n := by rw [← ho]
    have hok' : NodeOk (K + 1) n := hok.mono hlen
    rw [enn, node_write hok' (by omega), obind]
    cases hb : nodeBad n with
    | true =>
      rw [if_pos rfl]
      exact ⟨_, _, rfl, by simp⟩
    | false =>
      have := words_count hok'
      rw [if_neg (by simp), Equal_eq _ _ (show (nodeWords n).length ≤ _ by omega), obind]
      exact ⟨_, _, rfl, fun h => ⟨hok', hb, of_decide_eq_true h⟩⟩
theorem Read_ex (x : List UInt8) (hx : x.length ≤ 20000) : ∃ g e, script_Read.f x = some (g, e) ∧
    ((e = 0 ∧ (g.L.length : Int) ≤ 256 ∧ (∀ n ∈ g.L, NodeOk 20001 n ∧ nodeBad n = false) ∧ textL g.L = x) ∨ ((e = 13 ∨ e = 14) ∧ g.L = [])) := by
  unfold script_Read.f
  obtain ⟨r, e, hr⟩ := loop_ex (body := script_Read.l0) (fun r => r = .ret (⟨[]⟩, 14) ∨ ∃ L, r = .go ([], L) ∧ x = textL L ∧ ∀ n ∈ L, NodeOk 20001 n ∧ nodeBad n = false)
    (fun fuel st => st.1.length ≤ fuel ∧ x = textL st.2 ++ st.1 ∧ ∀ n ∈ st.2, NodeOk 20001 n ∧ nodeBad n = false) (fun fuel st ⟨hf, hx1, hall⟩ => by
    obtain ⟨rem, L⟩ := st
    have hf : rem.length ≤ fuel := hf
    have hx1 : x = textL L ++ rem := hx1
    have hall : ∀ n ∈ L, NodeOk 20001 n ∧ nodeBad n = false := hall
    have hlen : x.length = (textL L).length + rem.length := by rw [hx1, List.length_append]
    unfold script_Read.l0
    dsimp only
    by_cases h0 : rem = []
    · left
      rw [if_pos h0]
      subst h0
      exact ⟨_, rfl, .inr ⟨L, rfl, by simpa using hx1, hall⟩⟩
    · rw [if_neg h0, Cut_eq _ _ (by omega)]
      simp only [bindS]
      rcases at_cases 10 rem with h | ⟨a, r, rfl, h⟩
      · left
        rw [cut_miss h]
        obtain ⟨n, b, en, _⟩ := node_ex (K := 20000) (by decide) rem (by omega)
        dsimp only
        rw [en]
        simp only
        rw [if_neg (by simp)]
        exact ⟨_, rfl, .inl rfl⟩
      · rw [cut_hit h]
        simp only [List.length_append, List.length_cons] at hf hlen
        obtain ⟨n, b, en, hb⟩ := node_ex (K := 20000) (by decide) a (by omega)
        dsimp only
        rw [en]
        simp only
        rw [if_pos trivial]
        cases b with
        | false =>
          left
          rw [if_neg (by simp)]
          exact ⟨_, rfl, .inl rfl⟩
        | true =>
          right
          obtain ⟨h1, h2, h3⟩ := hb rfl
          have := textL_length L
          rw [if_pos rfl, if_pos (by omega)]
          refine ⟨_, r.length, rfl, by omega, Nat.le_refl _, ?_, ?_⟩
          · show x = textL (L ++ [n]) ++ r
            obtain ⟨y, t, e1, e2, _, _⟩ := split_spec 32 _ a (Nat.le_refl _)
            rw [textL_snoc, lineOf, h3, e1, e2, hx1]; simp
          · intro m hm
            rcases List.mem_append.1 hm with hm | hm
            · exact hall m hm
            · rw [List.mem_singleton] at hm; rw [hm]; exact ⟨h1, h2⟩) x.length (x, []) ⟨Nat.le_refl _, rfl, fun _ h => by cases h⟩
  rw [e, obind]
  rcases hr with rfl | ⟨L, rfl, hL, hall⟩
  · rw [on_ret]
    exact ⟨_, _, rfl, .inr ⟨.inr rfl, rfl⟩⟩
  · rw [on_go]
    dsimp only
    by_cases h : 256 < (L.length : Int)
    · rw [if_pos h]
      exact ⟨_, _, rfl, .inr ⟨.inl rfl, rfl⟩⟩
    · rw [if_neg h]
      exact ⟨_, _, rfl, .inl ⟨rfl, by show (L.length : Int) ≤ 256; omega, hall, hL.symm⟩⟩
end Go.Proofs.YtkdhahdfkonilaaDoor
