/- Plain laws, part 26: what is written is read back. -/
import Derived.Test.YtkdhahdfkonilaaDoorP25
import Derived.Test.YtkdhahdfkonilaaDoorF1
import Derived.Test.YtkdhahdfkonilaaDoorF5
import Derived.Test.YtkdhahdfkonilaaDoorF6
namespace Go.Proofs.YtkdhahdfkonilaaDoor
open Go Go.RowKit
set_option linter.unusedSimpArgs false
set_option linter.unusedVariables false

theorem loop_next {σ ρ : Type} {body : σ → Step σ ρ} {s s' : σ} (h : body s = .next s') : loop body s = loop body s' := by rw [loop_eq, h]; rfl
theorem loop_done {σ ρ : Type} {body : σ → Step σ ρ} {s : σ} {r : ρ} (h : body s = .done r) : loop body s = some r := by rw [loop_eq, h]; rfl
theorem cut_word {c : UInt8} (hc : (58 : UInt8) ≠ c) (r : List UInt8) : Lib.cut ([c, 58] ++ r) [58] = ([c], r, true) := by
  rw [show [c, 58] ++ r = [c] ++ 58 :: r by simp, cut_hit (by simpa using hc)]

/-- one word read -/
def Step1 (n : Node) (w : List UInt8) (m : Node) : Prop :=
  w.length < 4294967281 ∧ m.Op = n.Op ∧ ∃ l rest, Lib.cut w [58] = (l, rest, true) ∧ script_word.f n l rest = some (m.In, m.To, m.No, m.Val, m.Hooks, true)
inductive Runs : Node → List (List UInt8) → Node → Prop
  | nil (n : Node) : Runs n [] n
  | cons {n m k : Node} {w : List UInt8} {ws : List (List UInt8)} (h : Step1 n w m) (t : Runs m ws k) : Runs n (w :: ws) k

theorem run_loop {l : List (List UInt8)} {i o : Int} (hl : l.length < 549755813888) {n m : Node} {ws : List (List UInt8)} (hr : Runs n ws m) :
    ∀ (j : Nat), l.tail.drop j = ws → j + ws.length = l.length - 1 → n.Op = o → loop (script_node.l1 l (i, o)) (stOf j n) = some (.go (stOf ((l.length - 1 : Nat) : Int) m)) := by
  induction hr with
  | nil n =>
    intro j hd hj ho
    refine loop_done ?_
    unfold script_node.l1 stOf
    dsimp only
    simp only [List.length_nil] at hj
    rw [if_neg (by omega), show (j : Int) = ((l.length - 1 : Nat) : Int) by omega]
  | cons h t ih =>
    rename_i n m k w ws
    intro j hd hj ho
    simp only [List.length_cons] at hj
    obtain ⟨h1, h2, lt, rest, h3, h4⟩ := h
    have ht : j < l.tail.length := by rw [List.length_tail]; omega
    have hw : l.tail[j] = w ∧ l.tail.drop (j + 1) = ws := by
      rw [List.drop_eq_getElem_cons ht] at hd
      exact List.cons.inj hd
    have hb : script_node.l1 l (i, o) (stOf j n) = .next (stOf ((j + 1 : Nat) : Int) m) := by
      have en : (⟨o, n.In, n.To, n.No, ⟨n.Val.Shape, n.Val.Data⟩, n.Hooks⟩ : Node) = n := by rw [← ho]
      unfold script_node.l1 stOf
      dsimp only
      rw [tail_eq, if_pos (by omega), if_pos (by omega), rd_nat _ _ ht, hw.1, Cut_eq _ _ h1]
      simp only [bindS]
      rw [h3]
      dsimp only
      rw [if_pos rfl, en, h4]
      simp only
      rw [if_pos trivial, w64_id (by omega) (by omega)]
      rfl
    rw [loop_next hb]
    exact ih (j + 1) hw.2 (by omega) (h2.trans ho)

theorem word_len {c : UInt8} {n : Int} (h : 0 ≤ n) (h2 : n ≤ 999999999) : ([c, 58] ++ Lib.itoa n).length < 4294967281 := by
  have := itoa_len9 h h2
  simp; omega
theorem run_in : ∀ (l : List Int) (n : Node) {ws : List (List UInt8)} {m : Node}, (∀ x ∈ l, 0 ≤ x ∧ x ≤ 999999999) → n.In.length + l.length ≤ 549755813888 → Runs ⟨n.Op, n.In ++ l, n.To, n.No, n.Val, n.Hooks⟩ ws m → Runs n (wordsOf [105, 58] l ++ ws) m := by
  intro l
  induction l with
  | nil => intro n ws m _ _ h; rw [List.append_nil] at h; exact h
  | cons x l ih =>
    intro n ws m hl hn h
    obtain ⟨h1, h2⟩ := hl x (by simp)
    simp only [List.length_cons] at hn
    refine Runs.cons (m := ⟨n.Op, n.In ++ [x], n.To, n.No, n.Val, n.Hooks⟩) ⟨word_len h1 h2, rfl, _, _, cut_word (by decide) _, ?_⟩ (ih _ (fun y hy => hl y (List.mem_cons_of_mem _ hy)) (by simp; omega) (by simpa using h))
    unfold script_word.f
    rw [number_back h1 h2, obind, if_pos rfl, if_pos (by omega)]
theorem run_to : ∀ (l : List Int) (n : Node) {ws : List (List UInt8)} {m : Node}, (∀ x ∈ l, 0 ≤ x ∧ x ≤ 999999999) → n.To.length + l.length ≤ 549755813888 → Runs ⟨n.Op, n.In, n.To ++ l, n.No, n.Val, n.Hooks⟩ ws m → Runs n (wordsOf [116, 58] l ++ ws) m := by
  intro l
  induction l with
  | nil => intro n ws m _ _ h; rw [List.append_nil] at h; exact h
  | cons x l ih =>
    intro n ws m hl hn h
    obtain ⟨h1, h2⟩ := hl x (by simp)
    simp only [List.length_cons] at hn
    refine Runs.cons (m := ⟨n.Op, n.In, n.To ++ [x], n.No, n.Val, n.Hooks⟩) ⟨word_len h1 h2, rfl, _, _, cut_word (by decide) _, ?_⟩ (ih _ (fun y hy => hl y (List.mem_cons_of_mem _ hy)) (by simp; omega) (by simpa using h))
    unfold script_word.f
    rw [number_back h1 h2, obind, if_neg (by decide), if_pos rfl, if_pos (by omega)]
theorem run_no (x : Int) (n : Node) {ws : List (List UInt8)} {m : Node} (hx : 0 ≤ x ∧ x ≤ 999999999) (h : Runs ⟨n.Op, n.In, n.To, x, n.Val, n.Hooks⟩ ws m) : Runs n (wordsOf [110, 58] [x] ++ ws) m := by
  refine Runs.cons (m := ⟨n.Op, n.In, n.To, x, n.Val, n.Hooks⟩) ⟨word_len hx.1 hx.2, rfl, _, _, cut_word (by decide) _, ?_⟩ h
  unfold script_word.f
  rw [number_back hx.1 hx.2, obind, if_neg (by decide), if_neg (by decide), if_pos rfl]
theorem run_sh : ∀ (l : List Int) (n : Node) {ws : List (List UInt8)} {m : Node}, (∀ x ∈ l, 0 ≤ x ∧ x ≤ 999999999) → n.Val.Shape.length + l.length ≤ 549755813888 → Runs ⟨n.Op, n.In, n.To, n.No, ⟨n.Val.Shape ++ l, n.Val.Data⟩, n.Hooks⟩ ws m → Runs n (wordsOf [115, 58] l ++ ws) m := by
  intro l
  induction l with
  | nil => intro n ws m _ _ h; rw [List.append_nil] at h; exact h
  | cons x l ih =>
    intro n ws m hl hn h
    obtain ⟨h1, h2⟩ := hl x (by simp)
    simp only [List.length_cons] at hn
    refine Runs.cons (m := ⟨n.Op, n.In, n.To, n.No, ⟨n.Val.Shape ++ [x], n.Val.Data⟩, n.Hooks⟩) ⟨word_len h1 h2, rfl, _, _, cut_word (by decide) _, ?_⟩ (ih _ (fun y hy => hl y (List.mem_cons_of_mem _ hy)) (by simp; omega) (by simpa using h))
    unfold script_word.f
    rw [number_back h1 h2, obind, if_neg (by decide), if_neg (by decide), if_neg (by decide), if_pos rfl, if_pos (by omega)]
theorem run_da : ∀ (l : List Nat) (n : Node) {ws : List (List UInt8)} {m : Node}, (∀ x ∈ l, Fl x) → n.Val.Data.length + l.length ≤ 549755813888 → Runs ⟨n.Op, n.In, n.To, n.No, ⟨n.Val.Shape, n.Val.Data ++ l⟩, n.Hooks⟩ ws m → Runs n (dataWords l ++ ws) m := by
  intro l
  induction l with
  | nil => intro n ws m _ _ h; rw [List.append_nil] at h; exact h
  | cons x l ih =>
    intro n ws m hl hn h
    have h1 := hl x (by simp)
    have h16 := hexN_length x
    simp only [List.length_cons] at hn
    refine Runs.cons (m := ⟨n.Op, n.In, n.To, n.No, ⟨n.Val.Shape, n.Val.Data ++ [x]⟩, n.Hooks⟩) ⟨by simp; omega, rfl, _, _, cut_word (by decide) _, ?_⟩ (ih _ (fun y hy => hl y (List.mem_cons_of_mem _ hy)) (by simp; omega) (by simpa using h))
    obtain ⟨k, b, e1, _⟩ := number_ex (hexN x)
    unfold script_word.f
    rw [e1, obind, if_neg (by decide), if_neg (by decide), if_neg (by decide), if_neg (by decide), if_pos rfl, Parse_hexN h1, obind, if_pos (by omega)]
theorem run_ho : ∀ (l : List Hook) (n : Node) {ws : List (List UInt8)} {m : Node}, (∀ h ∈ l, (0 ≤ h.Do ∧ h.Do ≤ 999999999) ∧ Fl h.X) → n.Hooks.length + l.length ≤ 549755813888 → Runs ⟨n.Op, n.In, n.To, n.No, n.Val, n.Hooks ++ l⟩ ws m → Runs n (hookWords l ++ ws) m := by
  intro l
  induction l with
  | nil => intro n ws m _ _ h; rw [List.append_nil] at h; exact h
  | cons x l ih =>
    intro n ws m hl hn h
    obtain ⟨⟨h1, h2⟩, h3⟩ := hl x (by simp)
    have h16 := hexN_length x.X
    have h9 := itoa_len9 h1 h2
    simp only [List.length_cons] at hn
    have ew : hookWord x = [104, 58] ++ (Lib.itoa x.Do ++ 44 :: hexN x.X) := by simp [hookWord]
    refine Runs.cons (m := ⟨n.Op, n.In, n.To, n.No, n.Val, n.Hooks ++ [x]⟩) ⟨by rw [ew]; simp; omega, rfl, _, _, by rw [ew]; exact cut_word (by decide) _, ?_⟩ (ih _ (fun y hy => hl y (List.mem_cons_of_mem _ hy)) (by simp; omega) (by simpa using h))
    obtain ⟨k, b, e1, _⟩ := number_ex (Lib.itoa x.Do ++ 44 :: hexN x.X)
    unfold script_word.f
    rw [e1, obind, if_neg (by decide), if_neg (by decide), if_neg (by decide), if_neg (by decide), if_neg (by decide), if_pos rfl, hook_back h1 h2 h3, obind, if_pos (by omega)]

/-- what a good node's parts are -/
theorem good_parts {n : Node} (h : nodeBad n = false) : (1 ≤ n.Op ∧ n.Op ≤ 16) ∧ (∀ x ∈ n.In, 0 ≤ x ∧ x ≤ 999999999) ∧ (∀ x ∈ n.To, 0 ≤ x ∧ x ≤ 999999999) ∧ (0 ≤ n.No ∧ n.No ≤ 999999999) ∧ (∀ x ∈ n.Val.Shape, 0 ≤ x ∧ x ≤ 999999999) ∧ ∀ h ∈ n.Hooks, 0 ≤ h.Do ∧ h.Do ≤ 999999999 := by
  unfold nodeBad at h
  simp only [Bool.or_eq_false_iff, decide_eq_false_iff_not, Classical.not_not] at h
  obtain ⟨⟨⟨⟨⟨h1, h2⟩, h3⟩, h4⟩, h5⟩, h6⟩ := h
  refine ⟨h1, badOf_false h2, badOf_false h3, ?_, badOf_false h5, fun x hx => badOf_false h6 _ (List.mem_map.2 ⟨x, hx, rfl⟩)⟩
  simp [badI] at h4
  omega
theorem words_plain {n : Node} (h : nodeBad n = false) : ∀ w ∈ nodeWords n, (32 : UInt8) ∉ w ∧ (10 : UInt8) ∉ w := by
  obtain ⟨h1, h2, h3, h4, h5, h6⟩ := good_parts h
  have hp : ∀ {r : List UInt8} (c : List UInt8), ((32 : UInt8) ∉ c ∧ (10 : UInt8) ∉ c) → (∀ b ∈ r, Plain b) → (32 : UInt8) ∉ c ++ r ∧ (10 : UInt8) ∉ c ++ r := by
    intro r c hc hr
    refine ⟨fun hm => ?_, fun hm => ?_⟩
    · rcases List.mem_append.1 hm with hm | hm
      · exact hc.1 hm
      · exact (hr _ hm).2.1 rfl
    · rcases List.mem_append.1 hm with hm | hm
      · exact hc.2 hm
      · exact (hr _ hm).1 rfl
  have hw : ∀ (c : List UInt8) (l : List Int), ((32 : UInt8) ∉ c ∧ (10 : UInt8) ∉ c) → (∀ x ∈ l, 0 ≤ x ∧ x ≤ 999999999) → ∀ w ∈ wordsOf c l, (32 : UInt8) ∉ w ∧ (10 : UInt8) ∉ w := by
    intro c l hc hl w hw
    simp only [wordsOf, List.mem_map] at hw
    obtain ⟨x, hx, rfl⟩ := hw
    exact hp c hc (itoa_plain (hl x hx).1)
  intro w hm
  simp only [nodeWords, List.mem_cons, List.mem_append] at hm
  rcases hm with rfl | hm | hm | hm | hm | hm | hm
  · simpa using hp [] (by simp) (nameL_plain n.Op)
  · exact hw _ _ (by decide) h2 w hm
  · exact hw _ _ (by decide) h3 w hm
  · split at hm
    · simp at hm
    · exact hw _ _ (by decide) (by intro x hx; rw [List.mem_singleton] at hx; rw [hx]; exact h4) w hm
  · exact hw _ _ (by decide) h5 w hm
  · simp only [dataWords, List.mem_map] at hm
    obtain ⟨x, _, rfl⟩ := hm
    exact hp _ (by decide) (hexN_plain x)
  · simp only [hookWords, List.mem_map] at hm
    obtain ⟨x, hx, rfl⟩ := hm
    have e1 := hp [104, 58] (by decide) (itoa_plain (h6 x hx).1)
    have e2 := hp [44] (by decide) (hexN_plain x.X)
    unfold hookWord
    simp only [List.mem_append, not_or] at e1 e2 ⊢
    exact ⟨⟨e1.1, e2.1⟩, ⟨e1.2, e2.2⟩⟩
theorem join_mem {c : UInt8} {sep : List UInt8} (hs : c ∉ sep) : ∀ (x : List UInt8) (t : List (List UInt8)), (∀ w ∈ x :: t, c ∉ w) → c ∉ Lib.join (x :: t) sep := by
  intro x t
  induction t generalizing x with
  | nil => intro h; rw [Lib.join_one]; exact h x (by simp)
  | cons y t ih =>
    intro h
    rw [join_two]
    have := ih y (fun w hw => h w (List.mem_cons_of_mem _ hw))
    simp only [List.mem_append, not_or]
    exact ⟨⟨h x (by simp), hs⟩, this⟩

theorem node_back {B : Nat} {n : Node} (hn : NodeOk B n) (hB : B ≤ 1048576) (hb : nodeBad n = false) : script_node.f (Lib.join (nodeWords n) [32]) = some (n, true) := by
  obtain ⟨h1, h2, h3, h4, h5, h6⟩ := good_parts hb
  have hsp : Lib.split (Lib.join (nodeWords n) [32]) [32] = nodeWords n := split_join 32 _ _ (fun w hw => (words_plain hb w hw).1)
  have hj := join_short hn
  have hc := words_count hn
  have hne : nodeWords n ≠ [] := by simp [nodeWords]
  have hpos : 0 < (nodeWords n).length := List.length_pos_iff.2 hne
  unfold script_node.f
  rw [split_f 32 _ (by omega), hsp, obind]
  obtain ⟨o, i, en, ho⟩ := names_loop (nodeWords n) hne
  have ho' : o = n.Op := ho n.Op h1.1 h1.2 (by rw [show (0 : Int) = ((0 : Nat) : Int) from rfl, rd_nat _ 0 hpos]; rfl)
  subst ho'
  rw [en, obind, if_pos (by omega)]
  have hrun : Runs (zeroN n.Op) (nodeWords n).tail n := by
    show Runs (zeroN n.Op) (wordsOf [105, 58] n.In ++ (wordsOf [116, 58] n.To ++ ((if n.No = 0 then [] else wordsOf [110, 58] [n.No]) ++ (wordsOf [115, 58] n.Val.Shape ++ (dataWords n.Val.Data ++ hookWords n.Hooks))))) n
    have a1 := hn.inL; have a2 := hn.toL; have a3 := hn.shL; have a4 := hn.daL; have a5 := hn.hoL
    refine run_in _ _ h2 (by simp [zeroN]; omega) (run_to _ _ h3 (by simp [zeroN]; omega) ?_)
    have rest : ∀ (k : Int), k = n.No → Runs ⟨n.Op, n.In, n.To, k, ⟨[], []⟩, []⟩ (wordsOf [115, 58] n.Val.Shape ++ (dataWords n.Val.Data ++ hookWords n.Hooks)) n := by
      rintro _ rfl
      refine run_sh _ _ h5 (by simp; omega) (run_da _ _ hn.daF (by simp; omega) ?_)
      rw [← List.append_nil (hookWords n.Hooks)]
      refine run_ho _ _ (fun h hh => ⟨h6 h hh, (hn.hoF h hh).2⟩) (by simp; omega) ?_
      exact Runs.nil n
    by_cases h0 : n.No = 0
    · rw [if_pos h0]
      exact rest 0 h0.symm
    · rw [if_neg h0]
      exact run_no _ _ h4 (rest _ rfl)
  have hl := run_loop (l := nodeWords n) (i := i) (o := n.Op) (by omega) hrun 0 rfl (by rw [List.length_tail]; omega) rfl
  rw [show ((0 : Int), (0 : Int), ([] : List Hook), ([] : List Nat), ([] : List Int), ([] : List Int), ([] : List Int)) = stOf ((0 : Nat) : Int) (zeroN n.Op) from rfl, hl, obind, on_go]
  unfold stOf
  dsimp only
  have enn : (⟨n.Op, n.In, n.To, n.No, ⟨n.Val.Shape, n.Val.Data⟩, n.Hooks⟩ : Node) = n := rfl
  rw [enn, node_write hn (by omega), obind, if_neg (by rw [hb]; simp), Equal_eq _ _ (show (nodeWords n).length ≤ _ by omega), obind, decide_eq_true rfl]
theorem Read_back {B : Nat} (hB : B ≤ 1048576) (L : List Node) (hL : ∀ n ∈ L, NodeOk B n ∧ nodeBad n = false) (h256 : L.length ≤ 256) (hlen : (textL L).length < 4294967281) : script_Read.f (textL L) = some (⟨L⟩, 0) := by
  unfold script_Read.f
  have key : ∀ (t : List Node) (a : List Node), (∀ n ∈ t, NodeOk B n ∧ nodeBad n = false) → (textL t).length < 4294967281 → a.length + t.length ≤ 256 → loop (script_Read.l0) (textL t, a) = some (.go ([], a ++ t)) := by
    intro t
    induction t with
    | nil =>
      intro a _ _ _
      refine loop_done ?_
      unfold script_Read.l0
      dsimp only
      rw [if_pos (show textL [] = [] from rfl), List.append_nil]
      rfl
    | cons n t ih =>
      intro a ht hlt ha
      obtain ⟨hn, hb⟩ := ht n (by simp)
      have h10 : (10 : UInt8) ∉ Lib.join (nodeWords n) [32] := join_mem (by decide) _ _ (fun w hw => (words_plain hb w hw).2)
      have etx : textL (n :: t) = Lib.join (nodeWords n) [32] ++ 10 :: textL t := by rw [textL_cons, lineOf]; simp
      rw [etx] at hlt ⊢
      simp only [List.length_cons] at ha
      have hs : script_Read.l0 (Lib.join (nodeWords n) [32] ++ 10 :: textL t, a) = .next (textL t, a ++ [n]) := by
        unfold script_Read.l0
        dsimp only
        rw [if_neg (by simp), Cut_eq _ _ hlt, cut_hit h10]
        simp only [bindS]
        rw [node_back hn hB hb]
        simp only
        rw [if_pos trivial, if_pos trivial, if_pos (by omega)]
      rw [loop_next hs, ih _ (fun m hm => ht m (List.mem_cons_of_mem _ hm)) (by simp at hlt; omega) (by simp; omega)]
      simp
  rw [key L [] hL hlen (by simpa using h256), obind, on_go]
  dsimp only
  rw [List.nil_append, if_neg (by omega)]
end Go.Proofs.YtkdhahdfkonilaaDoor
