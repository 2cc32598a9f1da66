/- Plain law of ShelfSums: what is committed adds up, one after another; versions count what was set. -/
import Derived.Test.YtolhkamfpfjodaaQA19
import Derived.Test.YtolhkamfpfjodaaP18
import Derived.Test.YtolhkamfpfjodaaP7
import Derived.Test.YtolhkamfpfjodaaLShelfSums
namespace Go.Proofs.Ytolhkamfpfjodaa
open Go Go.RowKit
set_option linter.unusedSimpArgs false
set_option linter.unusedVariables false

def T2 (a b : Nat) : Tensor := ⟨[2], [a, b]⟩
theorem size_2 : size [2] = (2, 0) := by decide +kernel
theorem T2_may (a b : Nat) : tmay (T2 a b) = true := by
  unfold tmay T2
  rw [size_2]
  rfl
theorem T2_add (a b c d : Nat) : addT (T2 a b) (T2 c d) = T2 (fadd a c) (fadd b d) := by
  rw [(addT_may (T2_may a b) (T2_may c d) rfl).1]
  rfl

/-- what stands between rounds: the sums so far, and a shelf of one leaf -/
structure Inv (l : List (Int × Int)) (j : Nat) (A B S : Int) (L : List Tensor) (V : List Int) (G : List Tensor) : Prop where
  a : A.natAbs ≤ j * 32768
  b : B.natAbs ≤ j * 32768
  s : 0 ≤ S ∧ S ≤ j
  ll : ∃ p q, L = [T2 p q]
  vv : V = [S]
  gg : ∃ p q, G = [T2 p q] ∧ Whole p A ∧ Whole q B

theorem leaf_sound (p q c d : Nat) (S : Int) : Sound ⟨[T2 p q], [S], [T2 c d]⟩ := by
  refine ⟨by simp, rfl, rfl, fun i h => ?_, fun i h h' => ?_⟩
  · have : i = 0 := by simp at h; omega
    subst this; exact T2_may _ _
  · have : i = 0 := by simp at h; omega
    subst this; exact ⟨T2_may _ _, rfl⟩

theorem sums_loop (l : List (Int × Int)) (hl : l.length ≤ 100) (hb : ∀ r ∈ l, r.1.natAbs ≤ 32768 ∧ r.2.natAbs ≤ 32768) (L0 : List Tensor) (V0 : List Int) (G0 : List Tensor) (h0 : Inv l 0 0 0 0 L0 V0 G0) :
    ∃ y, loop (law19_ShelfSums.l0 l) (0, 0, 0, 0, L0, V0, G0) = some (.go y) := by
  obtain ⟨r, h1, y, h2⟩ := loop_ex (body := law19_ShelfSums.l0 l) (fun r => ∃ y, r = .go y) (fun k st => ∃ (j : Nat) (A B S : Int) (L : List Tensor) (V : List Int) (G : List Tensor), k + j = l.length ∧ st = (A, B, S, (j : Int), L, V, G) ∧ Inv l j A B S L V G) (fun k st ⟨j, A, B, S, L, V, G, hk, hst, hi⟩ => by
    subst hst
    unfold law19_ShelfSums.l0
    simp only
    by_cases hj : j < l.length
    · right
      obtain ⟨ha, hbb, hs, ⟨p, q, hL⟩, hV, ⟨c, d, hG, w1, w2⟩⟩ := hi
      subst hL hV hG
      obtain ⟨b1, b2⟩ := hb l[j] (List.getElem_mem hj)
      have hj5 : j * 32768 ≤ 100 * 32768 := Nat.mul_le_mul_right _ (by omega)
      have v1 := Whole.ofInt (n := l[j].1) (by omega)
      have v2 := Whole.ofInt (n := l[j].2) (by omega)
      have u1 := w1.add v1 (by omega)
      have u2 := w2.add v2 (by omega)
      have e1 : w64 (A + w64 l[j].1) = A + l[j].1 := by rw [w64_id (x := l[j].1) (by omega) (by omega), w64_id (by omega) (by omega)]
      have e2 : w64 (B + w64 l[j].2) = B + l[j].2 := by rw [w64_id (x := l[j].2) (by omega) (by omega), w64_id (by omega) (by omega)]
      have f1 : fne (fadd c (ofInt l[j].1)) (ofInt (A + l[j].1)) = false := by rw [u1.fne (Whole.ofInt (by omega))]; simp
      have f2 : fne (fadd d (ofInt l[j].2)) (ofInt (B + l[j].2)) = false := by rw [u2.fne (Whole.ofInt (by omega))]; simp
      have S0 := leaf_sound p q c d S
      have C := Commit_in S0 (x := [T2 (ofInt l[j].1) (ofInt l[j].2)]) rfl (fun i h h' => by
        have : i = 0 := by simp at h; omega
        subst this; exact ⟨T2_may _ _, rfl⟩)
      have C' : shelf_Shelf_Commit.f ⟨[T2 p q], [S], [T2 c d]⟩ [⟨[2], [ofInt l[j].1, ofInt l[j].2]⟩] = some ([T2 (fadd c (ofInt l[j].1)) (fadd d (ofInt l[j].2))], 0) := by
        rw [← T2_add]; exact C
      rw [if_pos (by omega), if_pos (by omega), rd_nat l j hj, C']
      simp only [bindS, e1, e2]
      rw [if_pos trivial]
      by_cases hbit : bits .and .i16 l[j].1 1 = 0
      · have S1 := leaf_sound p q (fadd c (ofInt l[j].1)) (fadd d (ofInt l[j].2)) S
        have P := Set_in S1 (i := 0) (by simp) (t := T2 (ofInt l[j].1) (ofInt l[j].2)) (T2_may _ _) rfl
        have P' : shelf_Shelf_Set.f ⟨[T2 p q], [S], [T2 (fadd c (ofInt l[j].1)) (fadd d (ofInt l[j].2))]⟩ 0 ⟨[2], [ofInt l[j].1, ofInt l[j].2]⟩ = some ([T2 (ofInt l[j].1) (ofInt l[j].2)], [w64 (S + 1)], 0) := P
        have es : w64 (S + 1) = S + 1 := w64_id (by omega) (by omega)
        have S2 := leaf_sound (ofInt l[j].1) (ofInt l[j].2) (fadd c (ofInt l[j].1)) (fadd d (ofInt l[j].2)) (w64 (S + 1))
        have G := Grad_in S2 (i := 0) (by simp)
        have E := Get_in S2 (i := 0) (by simp)
        have G' : shelf_Shelf_Grad.f ⟨[T2 (ofInt l[j].1) (ofInt l[j].2)], [w64 (S + 1)], [T2 (fadd c (ofInt l[j].1)) (fadd d (ofInt l[j].2))]⟩ 0 = some (T2 (fadd c (ofInt l[j].1)) (fadd d (ofInt l[j].2)), 0) := G
        have E' : shelf_Shelf_Get.f ⟨[T2 (ofInt l[j].1) (ofInt l[j].2)], [w64 (S + 1)], [T2 (fadd c (ofInt l[j].1)) (fadd d (ofInt l[j].2))]⟩ 0 = some (T2 (ofInt l[j].1) (ofInt l[j].2), w64 (S + 1), 0) := E
        rw [if_pos hbit, P']
        simp only
        rw [if_pos trivial, G', E']
        simp only
        rw [if_pos trivial, if_pos trivial, if_pos (by rfl), if_pos (by simp [T2])]
        have f1' : fne (rd (T2 (fadd c (ofInt l[j].1)) (fadd d (ofInt l[j].2))).Data 0) (ofInt (A + l[j].1)) = false := f1
        have f2' : fne (rd (T2 (fadd c (ofInt l[j].1)) (fadd d (ofInt l[j].2))).Data 1) (ofInt (B + l[j].2)) = false := f2
        rw [f1', if_neg (by simp), if_pos (by simp [T2]), f2', if_neg (by simp), if_pos trivial, es]
        refine ⟨_, k - 1, rfl, by omega, j + 1, _, _, _, _, _, _, by omega, by rw [w64_id (x := (j : Int) + 1) (by omega) (by omega)]; rfl, ?_⟩
        have hm : (j + 1) * 32768 = j * 32768 + 32768 := by rw [Nat.add_mul, Nat.one_mul]
        exact ⟨by omega, by omega, by omega, ⟨_, _, rfl⟩, rfl, ⟨_, _, rfl, u1, u2⟩⟩
      · have S2 := leaf_sound p q (fadd c (ofInt l[j].1)) (fadd d (ofInt l[j].2)) S
        have G := Grad_in S2 (i := 0) (by simp)
        have E := Get_in S2 (i := 0) (by simp)
        have G' : shelf_Shelf_Grad.f ⟨[T2 p q], [S], [T2 (fadd c (ofInt l[j].1)) (fadd d (ofInt l[j].2))]⟩ 0 = some (T2 (fadd c (ofInt l[j].1)) (fadd d (ofInt l[j].2)), 0) := G
        have E' : shelf_Shelf_Get.f ⟨[T2 p q], [S], [T2 (fadd c (ofInt l[j].1)) (fadd d (ofInt l[j].2))]⟩ 0 = some (T2 p q, S, 0) := E
        rw [if_neg hbit, G', E']
        simp only
        rw [if_pos trivial, if_pos trivial, if_pos (by rfl), if_pos (by simp [T2])]
        have f1' : fne (rd (T2 (fadd c (ofInt l[j].1)) (fadd d (ofInt l[j].2))).Data 0) (ofInt (A + l[j].1)) = false := f1
        have f2' : fne (rd (T2 (fadd c (ofInt l[j].1)) (fadd d (ofInt l[j].2))).Data 1) (ofInt (B + l[j].2)) = false := f2
        rw [f1', if_neg (by simp), if_pos (by simp [T2]), f2', if_neg (by simp), if_pos trivial]
        refine ⟨_, k - 1, rfl, by omega, j + 1, _, _, _, _, _, _, by omega, by rw [w64_id (x := (j : Int) + 1) (by omega) (by omega)]; rfl, ?_⟩
        have hm : (j + 1) * 32768 = j * 32768 + 32768 := by rw [Nat.add_mul, Nat.one_mul]
        exact ⟨by omega, by omega, by omega, ⟨_, _, rfl⟩, rfl, ⟨_, _, rfl, u1, u2⟩⟩
    · left
      rw [if_neg (by omega)]
      exact ⟨_, rfl, _, rfl⟩) l.length _ ⟨0, 0, 0, 0, L0, V0, G0, rfl, rfl, h0⟩
  exact ⟨y, h1.trans (congrArg some h2)⟩

theorem law19_ShelfSums.plain (l : List (Int × Int)) (hb : ∀ r ∈ l, r.1.natAbs ≤ 32768 ∧ r.2.natAbs ≤ 32768) : law19_ShelfSums.f l = some true := by
  unfold law19_ShelfSums.f
  rw [law19_awake_ev, obind, if_pos rfl]
  by_cases c0 : 100 < (l.length : Int)
  · rw [if_pos c0]
  have hnew := shelf_New_ok [T2 0 0] (by simp) (fun t ht => by simp only [List.mem_singleton] at ht; subst ht; exact T2_may 0 0)
  have hnew' : shelf_New.f [⟨[2], [0, 0]⟩] = some (some ⟨[T2 0 0], [0], [nought (T2 0 0)]⟩, 0) := hnew
  have hn : nought (T2 0 0) = T2 0 0 := (nought_may (T2_may 0 0)).1
  rw [if_neg c0, hnew', obind, hn]
  simp only [onPtr]
  rw [if_pos trivial]
  obtain ⟨y, hy⟩ := sums_loop l (by omega) hb [T2 0 0] [0] [T2 0 0] ⟨by simp, by simp, by omega, ⟨_, _, rfl⟩, rfl, ⟨_, _, rfl, Whole.zero, Whole.zero⟩⟩
  rw [hy, obind]
  rfl

end Go.Proofs.Ytolhkamfpfjodaa
