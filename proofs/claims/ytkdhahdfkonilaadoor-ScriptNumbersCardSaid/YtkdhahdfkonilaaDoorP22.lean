/- Plain laws, part 22: a number's sixteen digits. -/
import Derived.Test.YtkdhahdfkonilaaDoorP0
import Derived.Test.YtkdhahdfkonilaaDoorE16
import Derived.Test.YtkdhahdfkonilaaDoorF0
import Derived.Test.YtkdhahdfkonilaaDoorF2
import Derived.Test.YtkdhahdfkonilaaDoorF7
import Derived.Test.YtkdhahdfkonilaaDoorF8
namespace Go.Proofs.YtkdhahdfkonilaaDoor
open Go Go.RowKit
set_option linter.unusedSimpArgs false
set_option linter.unusedVariables false

theorem u64_in {x : Int} (h1 : 0 ≤ x) (h2 : x ≤ 18446744073709551615) : IntKind.wrap .u64 x = x := IntWalk.u64_in x ⟨h1, h2⟩

def NB : Int := 9221120237041090561
/-- a number's bits; of all NaNs the one that is written -/
def nbits (x : Nat) : Int := if fne x x = true then NB else (x : Int)
theorem nan_ne : fne nanB nanB = true := by decide +kernel
theorem canon_keep {n : Nat} (h : ¬ fne (canon n) (canon n) = true) : canon n = n := by
  rcases canon_cases n with ⟨_, e⟩ | ⟨_, e, _⟩
  · exact e
  · rw [e] at h; exact absurd nan_ne h
theorem canon_NB : canon 9221120237041090561 = 9221120237041090561 := by decide +kernel
theorem ne_NB : fne 9221120237041090561 9221120237041090561 = true := by decide +kernel
theorem nbits_lt {x : Nat} (h : x < 2 ^ 64) : ∃ b : Nat, nbits x = (b : Int) ∧ b < 2 ^ 64 := by
  unfold nbits
  split
  · exact ⟨9221120237041090561, rfl, by decide⟩
  · exact ⟨x, rfl, h⟩
theorem nbits_back {x b : Nat} (hc : canon x = x) (hb : nbits x = (b : Int)) : nbits (canon b) = (b : Int) := by
  unfold nbits at hb
  split at hb
  · have : b = 9221120237041090561 := by unfold NB at hb; omega
    subst this
    unfold nbits
    rw [canon_NB, if_pos ne_NB]; rfl
  · rename_i hn
    have : b = x := by omega
    subst this
    unfold nbits
    rw [hc, if_neg hn]
theorem canon_lt {n : Nat} (h : n < 2 ^ 64) : canon n < 2 ^ 64 := by
  rcases canon_cases n with ⟨_, e⟩ | ⟨_, e, _⟩
  · rw [e]; exact h
  · rw [e]; decide

/-! ### bits of whole numbers -/
theorem and15 {n : Nat} (h : n < 2 ^ 64) : bits .and .u64 (n : Int) 15 = ((n % 16 : Nat) : Int) := by
  have e : (BitVec.ofInt 64 (n : Int) &&& BitVec.ofInt 64 15).toNat = n % 16 := by
    rw [BitVec.toNat_and, show (BitVec.ofInt 64 15).toNat = 2 ^ 4 - 1 by decide +kernel, Nat.and_two_pow_sub_one_eq_mod]
    rw [show BitVec.ofInt 64 (n : Int) = BitVec.ofNat 64 n from rfl, BitVec.toNat_ofNat, Nat.mod_eq_of_lt h]
  show IntKind.wrap .u64 (((BitVec.ofInt 64 (n : Int) &&& BitVec.ofInt 64 15).toNat : Nat) : Int) = _
  rw [e]
  exact u64_in (by omega) (by omega)
theorem fdiv16 (n : Nat) : Int.fdiv (n : Int) (2 ^ 4) = ((n / 16 : Nat) : Int) := by
  rw [Int.fdiv_eq_ediv_of_nonneg _ (by decide)]; rfl
theorem or16 {n d : Nat} (hn : n < 2 ^ 60) (hd : d < 16) : bits .or .u64 (IntKind.wrap .u64 ((n : Int) * 2 ^ 4)) (IntKind.wrap .u64 (d : Int)) = ((n * 16 + d : Nat) : Int) := by
  have e1 : IntKind.wrap .u64 ((n : Int) * 2 ^ 4) = ((n * 16 : Nat) : Int) := by
    rw [u64_in (by omega) (by omega)]; omega
  have e2 : IntKind.wrap .u64 (d : Int) = (d : Int) := u64_in (by omega) (by omega)
  rw [e1, e2]
  have e : (BitVec.ofInt 64 ((n * 16 : Nat) : Int) ||| BitVec.ofInt 64 (d : Int)).toNat = n * 16 + d := by
    have h : ∀ k : Nat, k < 2 ^ 64 → (BitVec.ofInt 64 (k : Int)).toNat = k := fun k hk => by
      rw [show BitVec.ofInt 64 (k : Int) = BitVec.ofNat 64 k from rfl, BitVec.toNat_ofNat, Nat.mod_eq_of_lt hk]
    rw [BitVec.toNat_or, h _ (by omega), h d (by omega)]
    have := Nat.two_pow_add_eq_or_of_lt (i := 4) (b := d) hd n
    rw [show 2 ^ 4 * n = n * 16 by omega] at this
    exact this.symm
  show IntKind.wrap .u64 (((BitVec.ofInt 64 ((n * 16 : Nat) : Int) ||| BitVec.ofInt 64 (d : Int)).toNat : Nat) : Int) = _
  rw [e]
  exact u64_in (by omega) (by omega)

theorem on_go {β γ X : Type} (b : β) (k : β → X) (t : γ → X) : Out2.on (.go b) k t = k b := rfl
theorem fst_mk {α β : Type} (a : α) (b : β) : (a, b).1 = a := rfl

/-! ### digits -/
def HX : List UInt8 := [48, 49, 50, 51, 52, 53, 54, 55, 56, 57, 97, 98, 99, 100, 101, 102]
theorem HX_back : ∀ d : Nat, d < 16 → Lib.indexByte HX (((UInt8.ofNat (chr HX (d : Int)).toNat).toNat : Int)).toNat.toUInt8 = (d : Int) := by decide +kernel
/-- a byte's worth -/
theorem HX_worth : ∀ c : Nat, c < 256 → Lib.indexByte HX ((c : Int).toNat.toUInt8) = (if 48 ≤ (c : Int) then (if (c : Int) ≤ 57 then (c : Int) - 48 else if 97 ≤ (c : Int) then (if (c : Int) ≤ 102 then (c : Int) - 87 else -1) else -1) else -1) := by decide +kernel
theorem chr_lt (s : List UInt8) (i : Int) : ∃ c : Nat, c < 256 ∧ chr s i = (c : Int) := ⟨_, (s.getD i.toNat 0).toNat_lt, rfl⟩

def dig (b p : Nat) : Int := chr HX ((b / 16 ^ (15 - p) % 16 : Nat) : Int)
def hexI (b : Nat) : List Int := (List.range 16).map (dig b)
def hexL (b : Nat) : List UInt8 := bytesOf (hexI b)
theorem hexL_length (b : Nat) : (hexL b).length = 16 := by simp [hexL, bytesOf, hexI]
theorem hexL_chr (b : Nat) {i : Nat} (h : i < 16) : chr (hexL b) (i : Int) = ((UInt8.ofNat (dig b i).toNat).toNat : Int) := by
  unfold chr
  congr 2
  rw [Int.toNat_natCast]
  simp [hexL, bytesOf, hexI, List.getD, h]

theorem real_Bits_eq (x : Nat) : real_Bits.f x = some (nbits x) := by
  unfold real_Bits.f nbits NB
  split <;> rfl
theorem script_Number_eq (x : Nat) (b : Nat) (hb : nbits x = (b : Int)) (hlt : b < 2 ^ 64) : script_Number.f x = some (hexL b) := by
  unfold script_Number.f
  rw [real_Bits_eq, obind, hb]
  obtain ⟨r, e, hr⟩ := loop_ex (body := script_Number.l0) (fun r => r.2.2 = hexI b) (fun k st => ∃ (j : Nat) (ys : List Int), k + j = 16 ∧ st = (((b / 16 ^ j : Nat) : Int), (j : Int), ys) ∧ ys.length = 16 ∧ ∀ p (h : p < ys.length), 16 ≤ p + j → ys[p] = dig b p) (fun k st ⟨j, ys, hk, hst, hy, hv⟩ => by
    subst hst
    have hbj : b / 16 ^ j < 2 ^ 64 := Nat.lt_of_le_of_lt (Nat.div_le_self _ _) hlt
    unfold script_Number.l0
    simp only [and15 hbj, fdiv16]
    by_cases hj : j < 16
    · right
      have hp : w64 (15 - (j : Int)) = ((15 - j : Nat) : Int) := by rw [w64_id (by omega) (by omega)]; omega
      have hm : b / 16 ^ j % 16 < 16 := Nat.mod_lt _ (by decide)
      rw [if_pos (by simp; omega), if_pos (by simp; omega), hp, if_pos (by omega)]
      refine ⟨_, k - 1, rfl, by omega, j + 1, put ys ((15 - j : Nat) : Int) (chr HX ((b / 16 ^ j % 16 : Nat) : Int)), by omega, ?_, by rw [put_length]; exact hy, fun p h hp2 => ?_⟩
      · rw [w64_id (by omega) (by omega), Nat.div_div_eq_div_mul, ← Nat.pow_succ]; rfl
      · simp only [put_at ys _ (15 - j) _ rfl, List.length_set] at h ⊢
        rw [List.getElem_set]
        by_cases hpj : 15 - j = p
        · rw [if_pos hpj]
          unfold dig
          rw [show 15 - p = j by omega]
        · rw [if_neg hpj]
          exact hv p h (by omega)
    · left
      rw [if_neg (by simp; omega)]
      refine ⟨_, rfl, ?_⟩
      apply List.ext_getElem
      · simp [hexI, hy]
      · intro p h1 h2
        rw [hv p h1 (by omega)]
        simp [hexI]) 16 ((b : Int), 0, List.replicate (16 : Int).toNat (0 : Int)) ⟨0, List.replicate (16 : Int).toNat (0 : Int), rfl, by rw [Nat.pow_zero, Nat.div_one]; rfl, rfl, fun p h hp => by have : p < 16 := h; omega⟩
  rw [e, obind, hr]
  rfl

theorem ref1_Bits_nb (x : Nat) : ref1_Bits.f x = some (nbits x) := by
  unfold ref1_Bits.f nbits NB
  split <;> rfl
theorem ref19_Number_eq (x : Nat) (b : Nat) (hb : nbits x = (b : Int)) (hlt : b < 2 ^ 64) : ref19_Number.f x = some (hexL b) := by
  unfold ref19_Number.f
  rw [ref1_Bits_nb, obind, hb]
  obtain ⟨r, e, hr⟩ := loop_ex (body := ref19_Number.l0) (fun r => r.2.2 = hexI b) (fun k st => ∃ (j : Nat) (ys : List Int), k + j = 16 ∧ st = (((b / 16 ^ j : Nat) : Int), 15 - (j : Int), ys) ∧ ys.length = 16 ∧ ∀ p (h : p < ys.length), 16 ≤ p + j → ys[p] = dig b p) (fun k st ⟨j, ys, hk, hst, hy, hv⟩ => by
    subst hst
    have hbj : b / 16 ^ j < 2 ^ 64 := Nat.lt_of_le_of_lt (Nat.div_le_self _ _) hlt
    unfold ref19_Number.l0
    simp only [and15 hbj, fdiv16]
    by_cases hj : j < 16
    · right
      have hp : (15 - (j : Int)) = ((15 - j : Nat) : Int) := by omega
      have hm : b / 16 ^ j % 16 < 16 := Nat.mod_lt _ (by decide)
      rw [if_pos (by omega), if_pos (by simp; omega), if_pos (by omega)]
      refine ⟨_, k - 1, rfl, by omega, j + 1, put ys ((15 - j : Nat) : Int) (chr HX ((b / 16 ^ j % 16 : Nat) : Int)), by omega, ?_, by rw [put_length]; exact hy, fun p h hp2 => ?_⟩
      · rw [w64_id (by omega) (by omega), Nat.div_div_eq_div_mul, ← Nat.pow_succ, hp]
        have : ((15 - j : Nat) : Int) - 1 = 15 - ((j + 1 : Nat) : Int) := by omega
        rw [this]; rfl
      · simp only [put_at ys _ (15 - j) _ rfl, List.length_set] at h ⊢
        rw [List.getElem_set]
        by_cases hpj : 15 - j = p
        · rw [if_pos hpj]
          unfold dig
          rw [show 15 - p = j by omega]
        · rw [if_neg hpj]
          exact hv p h (by omega)
    · left
      rw [if_neg (by omega)]
      refine ⟨_, rfl, ?_⟩
      apply List.ext_getElem
      · simp [hexI, hy]
      · intro p h1 h2
        rw [hv p h1 (by omega)]
        simp [hexI]) 16 ((b : Int), 15, List.replicate (16 : Int).toNat (0 : Int)) ⟨0, List.replicate (16 : Int).toNat (0 : Int), rfl, by rw [Nat.pow_zero, Nat.div_one]; rfl, rfl, fun p h hp => by have : p < 16 := h; omega⟩
  rw [e, obind, hr]
  rfl

theorem ref1_Same_nb (x y : Nat) (h : nbits x = nbits y) : ref1_Same.f x y = some true := by
  unfold ref1_Same.f
  rw [ref1_Bits_nb, obind, ref1_Bits_nb, obind, if_pos h]

theorem script_Parse_ex2 (s : List UInt8) : ∃ r, script_Parse.f s = some r ∧ (r.1 = 0 ∨ ∃ n : Nat, n < 2 ^ 64 ∧ r.1 = canon n) := by
  unfold script_Parse.f
  by_cases h16 : (s.length : Int) = 16
  rotate_left
  · rw [if_neg h16]; exact ⟨_, rfl, .inl rfl⟩
  rw [if_pos h16]
  obtain ⟨r, e, hr⟩ := loop_ex (body := script_Parse.l0 s) (fun r => r = .ret (0, false) ∨ ∃ n : Nat, ∃ i, n < 2 ^ 64 ∧ r = .go ((n : Int), i)) (fun k st => ∃ (j n : Nat), k + j = 16 ∧ n < 16 ^ j ∧ st = ((n : Int), (j : Int))) (fun k st ⟨j, n, hk, hn, hst⟩ => by
    subst hst
    have hp : 16 ^ j ≤ 2 ^ 64 := by
      have : (16 : Nat) ^ j ≤ 16 ^ 16 := Nat.pow_le_pow_right (by decide) (by omega)
      exact Nat.le_trans this (by decide)
    unfold script_Parse.l0
    simp only
    by_cases hj : j < 16
    · rw [if_pos (by omega), if_pos (by omega)]
      unfold strings_IndexByte.f
      simp only [bindS]
      obtain ⟨c, hc, ec⟩ := chr_lt s (j : Int)
      have hw := HX_worth c hc
      rw [ec]
      have hd : Lib.indexByte HX ((c : Int).toNat.toUInt8) < 16 := by rw [hw]; split <;> (try split) <;> (try split) <;> (try split) <;> omega
      unfold HX at hw hd
      by_cases hneg : Lib.indexByte [48, 49, 50, 51, 52, 53, 54, 55, 56, 57, 97, 98, 99, 100, 101, 102] ((c : Int).toNat.toUInt8) < 0
      · left
        rw [if_pos hneg]
        exact ⟨_, rfl, .inl rfl⟩
      · right
        rw [if_neg hneg]
        obtain ⟨d, ed⟩ := Int.eq_ofNat_of_zero_le (show 0 ≤ Lib.indexByte [48, 49, 50, 51, 52, 53, 54, 55, 56, 57, 97, 98, 99, 100, 101, 102] ((c : Int).toNat.toUInt8) by omega)
        have hn60 : n < 2 ^ 60 := Nat.lt_of_lt_of_le hn (by
          have : (16 : Nat) ^ j ≤ 16 ^ 15 := Nat.pow_le_pow_right (by decide) (by omega)
          exact Nat.le_trans this (by decide))
        refine ⟨_, k - 1, rfl, by omega, j + 1, n * 16 + d, by omega, by rw [Nat.pow_succ]; omega, ?_⟩
        have e2 : Lib.indexByte [48, 49, 50, 51, 52, 53, 54, 55, 56, 57, 97, 98, 99, 100, 101, 102] ((c : Int).toNat.toUInt8) = (d : Int) := ed
        rw [e2, or16 hn60 (by omega), w64_id (by omega) (by omega)]; rfl
    · left
      rw [if_neg (by omega)]
      exact ⟨_, rfl, .inr ⟨n, _, Nat.lt_of_lt_of_le hn hp, rfl⟩⟩) 16 ((0 : Int), (0 : Int)) ⟨0, 0, rfl, by decide, rfl⟩
  rw [e, obind]
  rcases hr with rfl | ⟨n, i, hn, rfl⟩
  · exact ⟨_, rfl, .inl rfl⟩
  · rw [on_go, fst_mk, if_pos (by omega), real_Bits_eq, obind]
    rw [Int.toNat_natCast]
    split
    · exact ⟨_, rfl, .inr ⟨n, hn, rfl⟩⟩
    · exact ⟨_, rfl, .inl rfl⟩

theorem script_Parse_ex (s : List UInt8) : ∃ r, script_Parse.f s = some r := let ⟨r, h, _⟩ := script_Parse_ex2 s; ⟨r, h⟩

theorem script_Parse_hex (b : Nat) (hlt : b < 2 ^ 64) (hb : nbits (canon b) = (b : Int)) : script_Parse.f (hexL b) = some (canon b, true) := by
  unfold script_Parse.f
  rw [if_pos (by rw [hexL_length]; rfl)]
  have key : loop (script_Parse.l0 (hexL b)) ((0 : Int), (0 : Int)) = some (.go ((b : Int), ((16 : Nat) : Int))) := by
    refine loop_to _ (fun k st => ∃ j : Nat, k + j = 16 ∧ st = (((b / 16 ^ (16 - j) : Nat) : Int), (j : Int))) ?_ 16 _ ⟨0, rfl, by rw [Nat.div_eq_of_lt (by simpa using hlt)]; rfl⟩
    rintro k _ ⟨j, hk, rfl⟩
    unfold script_Parse.l0
    simp only [hexL_length]
    by_cases hj : j < 16
    · right
      have hdlt : b / 16 ^ (15 - j) % 16 < 16 := Nat.mod_lt _ (by decide)
      rw [if_pos (by omega), if_pos (by omega), hexL_chr b hj]
      unfold strings_IndexByte.f
      simp only [bindS]
      have e2 : Lib.indexByte [48, 49, 50, 51, 52, 53, 54, 55, 56, 57, 97, 98, 99, 100, 101, 102] ((((UInt8.ofNat (dig b j).toNat).toNat : Nat) : Int).toNat.toUInt8) = ((b / 16 ^ (15 - j) % 16 : Nat) : Int) := HX_back _ hdlt
      rw [e2, if_neg (by omega)]
      have hn60 : b / 16 ^ (16 - j) < 2 ^ 60 := by
        have h1 : 16 ^ 1 ≤ 16 ^ (16 - j) := Nat.pow_le_pow_right (by decide) (by omega)
        rw [Nat.div_lt_iff_lt_mul (by omega)]
        have : 2 ^ 60 * 16 ^ 1 ≤ 2 ^ 60 * 16 ^ (16 - j) := Nat.mul_le_mul_left _ h1
        omega
      refine ⟨_, k - 1, rfl, by omega, j + 1, by omega, ?_⟩
      rw [or16 hn60 hdlt, w64_id (by omega) (by omega)]
      have e3 : b / 16 ^ (16 - j) * 16 + b / 16 ^ (15 - j) % 16 = b / 16 ^ (16 - (j + 1)) := by
        have h1 : 16 - j = (15 - j) + 1 := by omega
        have h2 : 16 - (j + 1) = 15 - j := by omega
        rw [h1, h2, Nat.pow_succ, ← Nat.div_div_eq_div_mul]
        omega
      rw [e3]; rfl
    · left
      have hz : j = 16 := by omega
      subst hz
      rw [if_neg (by omega)]
      simp
  rw [key, obind, on_go, fst_mk, if_pos (by omega), Int.toNat_natCast, real_Bits_eq, obind, if_pos hb]
theorem parse_same (s : List UInt8) : script_Parse.f s = ref19_Parse.f s := by
  unfold script_Parse.f ref19_Parse.f
  by_cases h16 : (s.length : Int) = 16
  rotate_left
  · rw [if_neg h16, if_neg h16]
  rw [if_pos h16, if_pos h16]
  have hl : script_Parse.l0 s = ref19_Parse.l0 s := by
    funext st
    unfold script_Parse.l0 ref19_Parse.l0
    rw [h16]
    by_cases h1 : st.2 < 16
    rotate_left
    · rw [if_neg h1, if_neg h1]
    rw [if_pos h1, if_pos h1]
    by_cases h2 : 0 ≤ st.2 ∧ st.2 < 16
    rotate_left
    · rw [if_neg h2, if_neg h2]
    rw [if_pos h2, if_pos h2]
    unfold strings_IndexByte.f
    simp only [bindS]
    obtain ⟨c, hc, ec⟩ := chr_lt s st.2
    have hw : Lib.indexByte [48, 49, 50, 51, 52, 53, 54, 55, 56, 57, 97, 98, 99, 100, 101, 102] ((c : Int).toNat.toUInt8) = _ := HX_worth c hc
    rw [ec, hw]
    have u8 : ∀ x : Int, 0 ≤ x → x < 256 → IntKind.wrap .u8 x = x := fun x h1 h2 => IntWalk.u8_in x ⟨h1, by omega⟩
    by_cases k1 : 48 ≤ (c : Int)
    · rw [if_pos k1, if_pos k1]
      by_cases k2 : (c : Int) ≤ 57
      · rw [if_pos k2, if_pos k2, if_neg (by omega), u8 _ (by omega) (by omega)]
      · rw [if_neg k2, if_neg k2]
        by_cases k3 : 97 ≤ (c : Int)
        · rw [if_pos k3, if_pos k3]
          by_cases k4 : (c : Int) ≤ 102
          · rw [if_pos k4, if_pos k4, if_neg (by omega), u8 ((c : Int) - 97) (by omega) (by omega), u8 _ (by omega) (by omega)]
            have : (c : Int) - 97 + 10 = (c : Int) - 87 := by omega
            rw [this]
          · rw [if_neg k4, if_neg k4, if_pos (by omega)]
        · rw [if_neg k3, if_neg k3, if_pos (by omega)]
    · rw [if_neg k1, if_neg k1, if_pos (by omega), if_neg (by omega)]
  rw [hl]
  congr 1
  funext r
  cases r with
  | ret y => rfl
  | go y =>
    simp only [Out2.on]
    by_cases h3 : 0 ≤ y.1 ∧ y.1 < 18446744073709551616
    rotate_left
    · rw [if_neg h3, if_neg h3]
    rw [if_pos h3, if_pos h3, real_Bits_eq, obind]
    unfold nbits NB
    by_cases h4 : fne (canon y.1.toNat) (canon y.1.toNat) = true
    · rw [if_pos h4, if_pos h4]
      by_cases h5 : y.1 = 9221120237041090561
      · rw [if_pos h5.symm, if_pos h5]
      · rw [if_neg (fun c => h5 c.symm), if_neg h5]
    · rw [if_neg h4, if_neg h4, canon_keep h4, if_pos (by omega)]
end Go.Proofs.YtkdhahdfkonilaaDoor
