/- Plain laws, part 29: the document's own text of a graph. -/
import Derived.Test.YtkdhahdfkonilaaDoorP28
import Derived.Test.YtkdhahdfkonilaaDoorF8
import Derived.Test.YtkdhahdfkonilaaDoorF9
import Derived.Test.YtkdhahdfkonilaaDoorF10
namespace Go.Proofs.YtkdhahdfkonilaaDoor
open Go Go.RowKit
set_option linter.unusedSimpArgs false
set_option linter.unusedVariables false

abbrev tl (ws : List (List UInt8)) : List UInt8 := Lib.joinTail [32] ws
theorem tl_append (a b : List (List UInt8)) : tl (a ++ b) = tl a ++ tl b := by simp [tl, Lib.joinTail]
theorem tl_cons (a : List UInt8) (b : List (List UInt8)) : tl (a :: b) = [32] ++ a ++ tl b := by simp [tl, Lib.joinTail]
theorem tl_len {ws : List (List UInt8)} (h : ∀ w ∈ ws, w.length ≤ 64) : (tl ws).length ≤ 65 * ws.length := by
  have := lens_le h
  rw [Lib.joinTail_length]
  simp only [List.length_cons, List.length_nil]
  omega
theorem wordsOf_short {c : List UInt8} {l : List Int} (hc : c.length ≤ 2) (hl : ∀ x ∈ l, I64 x) : ∀ w ∈ wordsOf c l, w.length ≤ 64 := by
  intro w hw
  simp only [wordsOf, List.mem_map] at hw
  obtain ⟨x, hx, rfl⟩ := hw
  have := Lib.itoa_length_le x (hl x hx).1 (hl x hx).2
  simp; omega
theorem wordsOf_len (c : List UInt8) (l : List Int) : (wordsOf c l).length = l.length := by simp [wordsOf]
theorem wordsOf_snoc (c : List UInt8) (l : List Int) (x : Int) : wordsOf c (l ++ [x]) = wordsOf c l ++ [c ++ Lib.itoa x] := by simp [wordsOf]
theorem dataWords_snoc (l : List Nat) (x : Nat) : dataWords (l ++ [x]) = dataWords l ++ [[118, 58] ++ hexN x] := by simp [dataWords]
theorem tl_snoc (a : List (List UInt8)) (w : List UInt8) : tl (a ++ [w]) = tl a ++ ([32] ++ w) := by simp [tl, Lib.joinTail]
theorem badI_iff (n : Int) : badI n = false ↔ 0 ≤ n ∧ n ≤ 999999999 := by
  simp [badI]

/-! ### a numeral, digit by digit -/
theorem one_digit (m : Nat) : bytesOf [IntKind.wrap .u8 (48 + IntKind.wrap .u8 (Int.tmod (m : Int) 10))] = [UInt8.ofNat (48 + m % 10)] := by
  have e1 : Int.tmod (m : Int) 10 = ((m % 10 : Nat) : Int) := rfl
  have e2 : IntKind.wrap .u8 ((m % 10 : Nat) : Int) = ((m % 10 : Nat) : Int) := IntWalk.u8_in _ ⟨by omega, by omega⟩
  have e3 : IntKind.wrap .u8 (48 + ((m % 10 : Nat) : Int)) = ((48 + m % 10 : Nat) : Int) := by
    rw [IntWalk.u8_in _ ⟨by omega, by omega⟩]; omega
  rw [e1, e2, e3]
  rfl
def pre10 (m : Nat) : List UInt8 := if m < 10 then [] else Lib.decDigits (m / 10)
theorem dec_pre (m : Nat) : Lib.decDigits m = pre10 m ++ [UInt8.ofNat (48 + m % 10)] := by
  unfold pre10
  by_cases h : m < 10
  · rw [if_pos h, Lib.decDigits_one h, Nat.mod_eq_of_lt h]; rfl
  · rw [if_neg h, Lib.decDigits, dif_neg h]
theorem decimal_eq {n : Int} (h1 : 0 ≤ n) (h2 : n ≤ 999999999) : ref19_decimal.f n = some (Lib.itoa n) := by
  obtain ⟨x, rfl⟩ : ∃ x : Nat, n = (x : Int) := ⟨n.toNat, by omega⟩
  rw [itoa_nat h1, Int.toNat_natCast]
  unfold ref19_decimal.f
  rw [one_digit]
  have hlen : (Lib.decDigits x).length ≤ 9 := by rw [Lib.decDigits_length]; exact nDigits_le 8 _ (by omega)
  obtain ⟨r, e, hr⟩ := loop_ex (body := ref19_decimal.l0) (fun r => r.2 = Lib.decDigits x) (fun k st => ∃ m : Nat, m ≤ k ∧ m ≤ x ∧ st.1 = (m : Int) ∧ Lib.decDigits x = pre10 m ++ st.2) (fun k st ⟨m, hk, hm, e1, e2⟩ => by
    obtain ⟨s1, s2⟩ := st
    have e1 : s1 = (m : Int) := e1
    have e2 : Lib.decDigits x = pre10 m ++ s2 := e2
    subst e1
    unfold ref19_decimal.l0
    dsimp only
    by_cases h9 : 9 < (m : Int)
    · right
      have ed : Int.tdiv (m : Int) 10 = ((m / 10 : Nat) : Int) := rfl
      have h3 : (Lib.decDigits x).length = (pre10 m).length + s2.length := by rw [e2, List.length_append]
      rw [if_pos h9, ed, w64_id (by omega) (by omega), one_digit, if_pos (by simp; omega)]
      refine ⟨_, m / 10, rfl, by omega, m / 10, Nat.le_refl _, by omega, rfl, ?_⟩
      have : pre10 m = Lib.decDigits (m / 10) := by unfold pre10; rw [if_neg (by omega)]
      rw [e2, this, dec_pre (m / 10)]
      simp
    · left
      rw [if_neg h9]
      refine ⟨_, rfl, ?_⟩
      have : pre10 m = [] := by unfold pre10; rw [if_pos (by omega)]
      show s2 = _
      rw [e2, this]; rfl) x ((x : Int), [UInt8.ofNat (48 + x % 10)]) ⟨x, Nat.le_refl _, Nat.le_refl _, rfl, dec_pre x⟩
  rw [e, obind, hr]
theorem hookWords_snoc (l : List Hook) (x : Hook) : hookWords (l ++ [x]) = hookWords l ++ [hookWord x] := by simp [hookWords]
theorem ref_names : ∀ i : Nat, i < 17 → rd ([([] : List UInt8), [108, 101, 97, 102], [99, 111, 110, 115, 116], [112, 97, 114, 97, 109], [97, 100, 100], [115, 117, 98], [109, 117, 108], [100, 105, 118], [110, 101, 103], [101, 120, 112], [108, 111, 103], [114, 101, 108, 117], [109, 97, 116, 109, 117, 108], [115, 117, 109], [98, 114, 111, 97, 100, 99, 97, 115, 116], [114, 101, 115, 104, 97, 112, 101], [99, 97, 108, 108]] : List (List UInt8)) (i : Int) = nameL (i : Int) := by decide +kernel
theorem nameL_nil {o : Int} (h : ¬ (1 ≤ o ∧ o ≤ 16)) : nameL o = [] := by unfold nameL; rw [if_neg h]
theorem ref6_Name_eq (o : Int) : ref6_Name.f o = some (nameL o) := by
  unfold ref6_Name.f
  by_cases h1 : o < 0
  · rw [if_pos h1, nameL_nil (by omega)]
  · rw [if_neg h1]
    by_cases h2 : 17 ≤ o
    · rw [if_pos h2, nameL_nil (by omega)]
    · rw [if_neg h2, if_pos (by omega)]
      obtain ⟨i, rfl⟩ : ∃ i : Nat, o = (i : Int) := ⟨o.toNat, by omega⟩
      rw [ref_names i (by omega)]
theorem Number19_eq {x : Nat} (h : Fl x) : ref19_Number.f x = some (hexN x) := by
  obtain ⟨b, hb, hlt⟩ := nbits_lt h.1
  unfold hexN
  rw [hb, Int.toNat_natCast]
  exact ref19_Number_eq x b hb hlt
theorem words_eq19 (c : UInt8) (l : List Int) (hl : ∀ x ∈ l, I64 x) (hn : l.length ≤ 1048576) : ref19_words.f [c] l = some (if badOf l = true then ([], false) else (tl (wordsOf [c, 58] l), true)) := by
  unfold ref19_words.f
  obtain ⟨r, e, hr⟩ := loop_ex (body := ref19_words.l0 l [c]) (fun r => (r = .ret ([], false) ∧ badOf l = true) ∨ ∃ i, r = .go (tl (wordsOf [c, 58] l), i) ∧ badOf l = false)
    (fun k st => ∃ j : Nat, k + j = l.length ∧ st = (tl (wordsOf [c, 58] (l.take j)), (j : Int)) ∧ badOf (l.take j) = false) (fun k st ⟨j, hj, hst, hb⟩ => by
    subst hst
    unfold ref19_words.l0
    dsimp only
    by_cases h : j < l.length
    · rw [if_pos (by omega), if_pos (by omega), rd_nat _ _ h]
      have et : l.take (j + 1) = l.take j ++ [l[j]] := by rw [List.take_add_one, List.getElem?_eq_getElem h]; rfl
      by_cases h1 : l[j] < 0
      · left
        rw [if_pos h1]
        exact ⟨_, rfl, .inl ⟨rfl, List.any_eq_true.2 ⟨_, List.getElem_mem h, by simp [badI, h1]⟩⟩⟩
      rw [if_neg h1]
      by_cases h2 : 999999999 < l[j]
      · left
        rw [if_pos h2]
        exact ⟨_, rfl, .inl ⟨rfl, List.any_eq_true.2 ⟨_, List.getElem_mem h, by simp [badI, h2]⟩⟩⟩
      rw [if_neg h2]
      right
      have h3 := tl_len (wordsOf_short (c := [c, 58]) (by simp) (fun x hx => hl x (List.mem_of_mem_take hx) : ∀ x ∈ l.take j, I64 x))
      rw [wordsOf_len, List.length_take] at h3
      have h9 := itoa_len9 (n := l[j]) (by omega) (by omega)
      have hj' : min j l.length = j := by omega
      rw [hj'] at h3
      rw [if_pos (by simp; omega), if_pos (by simp; omega), if_pos (by simp; omega), decimal_eq (by omega) (by omega)]
      simp only [bindS]
      rw [if_pos (by simp; omega)]
      refine ⟨_, k - 1, rfl, by omega, j + 1, by omega, ?_, ?_⟩
      · rw [w64_id (by omega) (by omega), et, wordsOf_snoc, tl_snoc]
        simp
      · rw [et]
        unfold badOf at hb ⊢
        rw [List.any_append, hb]
        simp [badI, h1, h2]
    · left
      obtain rfl : j = l.length := by omega
      rw [if_neg (by omega)]
      rw [List.take_length] at hb ⊢
      exact ⟨_, rfl, .inr ⟨_, rfl, hb⟩⟩) l.length (([] : List UInt8), (0 : Int)) ⟨0, rfl, rfl, rfl⟩
  rw [e, obind]
  rcases hr with ⟨rfl, h⟩ | ⟨i, rfl, h⟩
  · rw [on_ret, if_pos h]
  · rw [on_go, if_neg (by rw [h]; simp)]
theorem data19 (g : Graph) (s : List UInt8) (i : Nat) (hi : i < g.L.length) (hd : ∀ x ∈ g.L[i].Val.Data, Fl x) (hn : g.L[i].Val.Data.length ≤ 1048576) (out : List UInt8) (ho : out.length ≤ 1000000000000) :
    ∃ j, loop (ref19_Text.l1 g (s, (i : Int))) (out, 0) = some (out ++ tl (dataWords g.L[i].Val.Data), j) := by
  obtain ⟨r, e, hr⟩ := loop_ex (body := ref19_Text.l1 g (s, (i : Int))) (fun r => r.1 = out ++ tl (dataWords g.L[i].Val.Data))
    (fun k st => ∃ j : Nat, k + j = g.L[i].Val.Data.length ∧ st = (out ++ tl (dataWords (g.L[i].Val.Data.take j)), (j : Int))) (fun k st ⟨j, hj, hst⟩ => by
    subst hst
    unfold ref19_Text.l1
    dsimp only
    rw [rd_nat _ _ hi]
    by_cases h : j < g.L[i].Val.Data.length
    · right
      have et : g.L[i].Val.Data.take (j + 1) = g.L[i].Val.Data.take j ++ [g.L[i].Val.Data[j]] := by rw [List.take_add_one, List.getElem?_eq_getElem h]; rfl
      have h3 : (tl (dataWords (g.L[i].Val.Data.take j))).length ≤ 65 * (dataWords (g.L[i].Val.Data.take j)).length := tl_len (fun w hw => by
        simp only [dataWords, List.mem_map] at hw
        obtain ⟨x, _, rfl⟩ := hw
        have := hexN_length x
        simp; omega)
      have h4 : (dataWords (g.L[i].Val.Data.take j)).length = j := by simp [dataWords]; omega
      rw [h4] at h3
      have h16 := hexN_length g.L[i].Val.Data[j]
      rw [if_pos (by omega), if_pos (by simp; omega), if_pos (by omega), rd_nat _ _ h, Number19_eq (hd _ (List.getElem_mem h))]
      simp only [bindS]
      rw [if_pos (by simp; omega)]
      refine ⟨_, k - 1, rfl, by omega, j + 1, by omega, ?_⟩
      rw [w64_id (by omega) (by omega), et, dataWords_snoc, tl_snoc]
      simp
    · left
      obtain rfl : j = g.L[i].Val.Data.length := by omega
      rw [if_neg (by omega), List.take_length]
      exact ⟨_, rfl, rfl⟩) g.L[i].Val.Data.length (out, 0) ⟨0, rfl, by simp [dataWords, Lib.joinTail]⟩
  exact ⟨r.2, by rw [e, ← hr]⟩
theorem hooks19 (g : Graph) (s : List UInt8) (i : Nat) (hi : i < g.L.length) (hd : ∀ h ∈ g.L[i].Hooks, I64 h.Do ∧ Fl h.X) (hn : g.L[i].Hooks.length ≤ 1048576) (out : List UInt8) (ho : out.length ≤ 1000000000000) :
    ∃ r, loop (ref19_Text.l2 g (s, (i : Int))) (out, 0) = some r ∧ ((r = .ret [] ∧ badOf (g.L[i].Hooks.map (·.Do)) = true) ∨ ∃ j, r = .go (out ++ tl (hookWords g.L[i].Hooks), j) ∧ badOf (g.L[i].Hooks.map (·.Do)) = false) := by
  refine loop_ex (body := ref19_Text.l2 g (s, (i : Int))) _ (fun k st => ∃ j : Nat, k + j = g.L[i].Hooks.length ∧ st = (out ++ tl (hookWords (g.L[i].Hooks.take j)), (j : Int)) ∧ badOf ((g.L[i].Hooks.take j).map (·.Do)) = false) ?_ g.L[i].Hooks.length (out, 0) ⟨0, rfl, by simp [hookWords, Lib.joinTail], rfl⟩
  rintro k _ ⟨j, hj, rfl, hb⟩
  unfold ref19_Text.l2
  dsimp only
  rw [rd_nat _ _ hi]
  by_cases h : j < g.L[i].Hooks.length
  · rw [if_pos (by omega), if_pos (by omega), rd_nat _ _ h]
    have et : g.L[i].Hooks.take (j + 1) = g.L[i].Hooks.take j ++ [g.L[i].Hooks[j]] := by rw [List.take_add_one, List.getElem?_eq_getElem h]; rfl
    have hD := hd _ (List.getElem_mem h)
    by_cases h1 : g.L[i].Hooks[j].Do < 0
    · left
      rw [if_pos h1]
      exact ⟨_, rfl, .inl ⟨rfl, List.any_eq_true.2 ⟨_, List.mem_map.2 ⟨_, List.getElem_mem h, rfl⟩, by simp [badI, h1]⟩⟩⟩
    rw [if_neg h1]
    by_cases h2 : 999999999 < g.L[i].Hooks[j].Do
    · left
      rw [if_pos h2]
      exact ⟨_, rfl, .inl ⟨rfl, List.any_eq_true.2 ⟨_, List.mem_map.2 ⟨_, List.getElem_mem h, rfl⟩, by simp [badI, h2]⟩⟩⟩
    rw [if_neg h2]
    right
    have h3 : (tl (hookWords (g.L[i].Hooks.take j))).length ≤ 65 * (hookWords (g.L[i].Hooks.take j)).length := tl_len (fun w hw => by
      simp only [hookWords, List.mem_map] at hw
      obtain ⟨x, hx, rfl⟩ := hw
      have h1 := hexN_length x.X
      have hx := hd x (List.mem_of_mem_take hx)
      have h2 := Lib.itoa_length_le x.Do hx.1.1 hx.1.2
      simp [hookWord]; omega)
    have h4 : (hookWords (g.L[i].Hooks.take j)).length = j := by simp [hookWords]; omega
    rw [h4] at h3
    have h16 := hexN_length g.L[i].Hooks[j].X
    have h9 := itoa_len9 (n := g.L[i].Hooks[j].Do) (by omega) (by omega)
    rw [if_pos (by simp; omega), decimal_eq (by omega) (by omega)]
    simp only [bindS]
    rw [if_pos (by simp; omega), if_pos (by simp; omega), Number19_eq hD.2]
    simp only [bindS]
    rw [if_pos (by simp; omega)]
    refine ⟨_, k - 1, rfl, by omega, j + 1, by omega, ?_, ?_⟩
    · rw [w64_id (by omega) (by omega), et, hookWords_snoc, tl_snoc]
      simp [hookWord]
    · rw [et]
      unfold badOf at hb ⊢
      rw [List.map_append, List.any_append, hb]
      simp [badI, h1, h2]
  · left
    obtain rfl : j = g.L[i].Hooks.length := by omega
    rw [if_neg (by omega)]
    rw [List.take_length] at hb ⊢
    exact ⟨_, rfl, .inr ⟨_, rfl, hb⟩⟩
theorem line_eq (n : Node) : lineOf n = nameL n.Op ++ (tl (wordsOf [105, 58] n.In) ++ (tl (wordsOf [116, 58] n.To) ++ (tl (if n.No = 0 then [] else wordsOf [110, 58] [n.No]) ++ (tl (wordsOf [115, 58] n.Val.Shape) ++ (tl (dataWords n.Val.Data) ++ tl (hookWords n.Hooks)))))) ++ [10] := by
  unfold lineOf nodeWords
  rw [Lib.join_cons]
  show nameL n.Op ++ tl _ ++ [10] = _
  rw [tl_append, tl_append, tl_append, tl_append, tl_append]
theorem node19 (g : Graph) (i : Nat) (hi : i < g.L.length) (hn : NodeOk 1048576 g.L[i]) (out : List UInt8) (ho : out.length ≤ 100000000000) :
    ref19_Text.l0 g (out, (i : Int)) = if nodeBad g.L[i] = true then .done (.ret []) else .next (out ++ lineOf g.L[i], w64 ((i : Int) + 1)) := by
  unfold ref19_Text.l0
  dsimp only
  have a1 := hn.inL; have a2 := hn.toL; have a3 := hn.shL; have a4 := hn.daL; have a5 := hn.hoL
  rw [if_pos (by omega), if_pos (by omega), rd_nat _ _ hi, words_eq19 105 _ hn.inI a1, words_eq19 116 _ hn.toI a2, words_eq19 115 _ hn.shI a3, ref6_Name_eq]
  simp only [bindS]
  have t1 := tl_len (wordsOf_short (c := [105, 58]) (by simp) hn.inI)
  have t2 := tl_len (wordsOf_short (c := [116, 58]) (by simp) hn.toI)
  have t3 := tl_len (wordsOf_short (c := [115, 58]) (by simp) hn.shI)
  rw [wordsOf_len] at t1 t2 t3
  have t0 := nameL_short g.L[i].Op
  by_cases cOp : 1 ≤ g.L[i].Op ∧ g.L[i].Op ≤ 16
  rotate_left
  · rw [if_pos (nameL_nil cOp), if_pos (by simp [nodeBad]; omega)]
  rw [if_neg (nameL_ne cOp.1 cOp.2)]
  cases b1 : badOf g.L[i].In with
  | true => rw [if_pos (show nodeBad g.L[i] = true by simp [nodeBad, b1])]; simp
  | false =>
  cases b2 : badOf g.L[i].To with
  | true => rw [if_pos (show nodeBad g.L[i] = true by simp [nodeBad, b2])]; simp
  | false =>
  cases b3 : badOf g.L[i].Val.Shape with
  | true => rw [if_pos (show nodeBad g.L[i] = true by simp [nodeBad, b3])]; simp
  | false =>
  simp only [Bool.false_eq_true, if_false, if_true]
  by_cases n1 : g.L[i].No < 0
  · rw [if_pos n1, if_pos (show nodeBad g.L[i] = true by simp [nodeBad, badI, n1])]
  rw [if_neg n1]
  by_cases n2 : 999999999 < g.L[i].No
  · rw [if_pos n2, if_pos (show nodeBad g.L[i] = true by simp [nodeBad, badI, n2])]
  rw [if_neg n2]
  have bNo : badI g.L[i].No = false := (badI_iff _).2 ⟨by omega, by omega⟩
  have hbad : nodeBad g.L[i] = badOf (g.L[i].Hooks.map (·.Do)) := by
    unfold nodeBad
    rw [b1, b2, b3, bNo, decide_eq_false (not_not_intro cOp)]
    simp
  have hd : (tl (dataWords g.L[i].Val.Data)).length ≤ 65 * (dataWords g.L[i].Val.Data).length := tl_len (fun w hw => by
    simp only [dataWords, List.mem_map] at hw
    obtain ⟨x, _, rfl⟩ := hw
    have := hexN_length x
    simp; omega)
  have hdl : (dataWords g.L[i].Val.Data).length = g.L[i].Val.Data.length := by simp [dataWords]
  have hh : (tl (hookWords g.L[i].Hooks)).length ≤ 65 * (hookWords g.L[i].Hooks).length := tl_len (fun w hw => by
    simp only [hookWords, List.mem_map] at hw
    obtain ⟨x, hx, rfl⟩ := hw
    have h1 := hexN_length x.X
    have hx := hn.hoF x hx
    have h2 := Lib.itoa_length_le x.Do hx.1.1 hx.1.2
    simp [hookWord]; omega)
  have hhl : (hookWords g.L[i].Hooks).length = g.L[i].Hooks.length := by simp [hookWords]
  rw [hdl] at hd
  rw [hhl] at hh
  rw [if_pos (by omega), if_pos (by simp; omega), if_pos (by simp; omega)]
  by_cases n0 : g.L[i].No = 0
  · rw [if_pos n0, if_pos (by simp; omega)]
    obtain ⟨j, ej⟩ := data19 g out i hi hn.daF a4 (out ++ nameL g.L[i].Op ++ tl (wordsOf [105, 58] g.L[i].In) ++ tl (wordsOf [116, 58] g.L[i].To) ++ tl (wordsOf [115, 58] g.L[i].Val.Shape)) (by simp; omega)
    rw [ej]
    simp only
    obtain ⟨r, er, hr⟩ := hooks19 g out i hi hn.hoF a5 (out ++ nameL g.L[i].Op ++ tl (wordsOf [105, 58] g.L[i].In) ++ tl (wordsOf [116, 58] g.L[i].To) ++ tl (wordsOf [115, 58] g.L[i].Val.Shape) ++ tl (dataWords g.L[i].Val.Data)) (by simp; omega)
    rw [er]
    simp only
    rcases hr with ⟨rfl, hb⟩ | ⟨j', rfl, hb⟩
    · rw [on_ret, hbad, if_pos hb]
    · rw [on_go]
      dsimp only
      rw [if_pos (by simp; omega), hbad, if_neg (by rw [hb]; simp), line_eq, if_pos n0]
      simp [Lib.joinTail]
  · have h9 := itoa_len9 (n := g.L[i].No) (by omega) (by omega)
    rw [if_neg n0, if_pos (by simp; omega), decimal_eq (by omega) (by omega)]
    simp only
    rw [if_pos (by simp; omega), if_pos (by simp; omega)]
    obtain ⟨j, ej⟩ := data19 g out i hi hn.daF a4 (out ++ nameL g.L[i].Op ++ tl (wordsOf [105, 58] g.L[i].In) ++ tl (wordsOf [116, 58] g.L[i].To) ++ [32, 110, 58] ++ Lib.itoa g.L[i].No ++ tl (wordsOf [115, 58] g.L[i].Val.Shape)) (by simp; omega)
    rw [ej]
    simp only
    obtain ⟨r, er, hr⟩ := hooks19 g out i hi hn.hoF a5 (out ++ nameL g.L[i].Op ++ tl (wordsOf [105, 58] g.L[i].In) ++ tl (wordsOf [116, 58] g.L[i].To) ++ [32, 110, 58] ++ Lib.itoa g.L[i].No ++ tl (wordsOf [115, 58] g.L[i].Val.Shape) ++ tl (dataWords g.L[i].Val.Data)) (by simp; omega)
    rw [er]
    simp only
    rcases hr with ⟨rfl, hb⟩ | ⟨j', rfl, hb⟩
    · rw [on_ret, hbad, if_pos hb]
    · rw [on_go]
      dsimp only
      rw [if_pos (by simp; omega), hbad, if_neg (by rw [hb]; simp), line_eq, if_neg n0]
      simp [Lib.joinTail, wordsOf]
theorem Text19_eq (g : Graph) (hg : ∀ n ∈ g.L, NodeOk 1048576 n) : ref19_Text.f g = some (if 256 < (g.L.length : Int) then [] else if anyBad g.L = true then [] else textL g.L) := by
  unfold ref19_Text.f
  by_cases h256 : 256 < (g.L.length : Int)
  · rw [if_pos h256, if_pos h256]
  rw [if_neg h256, if_neg h256]
  obtain ⟨r, e, hr⟩ := loop_ex (body := ref19_Text.l0 g) (fun r => (r = .ret [] ∧ anyBad g.L = true) ∨ ∃ i, r = .go (textL g.L, i) ∧ anyBad g.L = false)
    (fun k st => ∃ j : Nat, k + j = g.L.length ∧ st = (textL (g.L.take j), (j : Int)) ∧ anyBad (g.L.take j) = false) (fun k st ⟨j, hj, hst, hb⟩ => by
    subst hst
    by_cases h : j < g.L.length
    · have et : g.L.take (j + 1) = g.L.take j ++ [g.L[j]] := by rw [List.take_add_one, List.getElem?_eq_getElem h]; rfl
      have h3 := textL_short (l := g.L.take j) (fun n hn => hg n (List.mem_of_mem_take hn))
      have h4 : (g.L.take j).length * (325 * 1048576 + 131) ≤ 256 * (325 * 1048576 + 131) := Nat.mul_le_mul_right _ (by rw [List.length_take]; omega)
      rw [node19 g j h (hg _ (List.getElem_mem h)) _ (by omega)]
      cases hbad : nodeBad g.L[j] with
      | true =>
        left
        rw [if_pos rfl]
        exact ⟨_, rfl, .inl ⟨rfl, List.any_eq_true.2 ⟨_, List.getElem_mem h, hbad⟩⟩⟩
      | false =>
        right
        rw [if_neg (by decide)]
        refine ⟨_, k - 1, rfl, by omega, j + 1, by omega, ?_, ?_⟩
        · rw [et, textL_snoc, w64_id (by omega) (by omega)]; rfl
        · rw [et]; unfold anyBad at hb ⊢; rw [List.any_append, hb]; simp [hbad]
    · left
      obtain rfl : j = g.L.length := by omega
      unfold ref19_Text.l0
      dsimp only
      rw [if_neg (by omega)]
      rw [List.take_length] at hb ⊢
      exact ⟨_, rfl, .inr ⟨_, rfl, hb⟩⟩) g.L.length (([] : List UInt8), (0 : Int)) ⟨0, rfl, rfl, rfl⟩
  rw [e, obind]
  rcases hr with ⟨rfl, hb⟩ | ⟨i, rfl, hb⟩
  · rw [on_ret, if_pos hb]
  · rw [on_go, if_neg (by rw [hb]; simp)]
end Go.Proofs.YtkdhahdfkonilaaDoor
