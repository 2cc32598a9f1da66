/- Plain laws, part 6: turned matrices, sums. -/
import Derived.Test.YtkcgiolledmbnaaP5
import Derived.Test.YtkcgiolledmbnaaF3
namespace Go.Proofs.Ytkcgiolledmbnaa
open Go Go.RowKit
set_option linter.unusedSimpArgs false
set_option linter.unusedVariables false
set_option linter.unusedSectionVars false

theorem size_two (r n : Nat) (hr : 1 ≤ r) (hn : 1 ≤ n) (h : r * n ≤ 4096) : size [(r : Int), (n : Int)] = (((r * n : Nat) : Int), 0) := by
  have h1 : r ≤ r * n := Nat.le_mul_of_pos_right _ hn
  have e1 : Int.tdiv 4096 1 = 4096 := by decide
  have e3 : (n : Int) * (r : Int) = ((r * n : Nat) : Int) := by push_cast; exact Int.mul_comm _ _
  have e4 : (n : Int) ≤ 4096 / (r : Int) := (Int.le_ediv_iff_mul_le (by omega)).2 (by omega)
  have e2 : ¬ Int.tdiv 4096 ((1 : Int) * (r : Int)) < (n : Int) := by
    rw [Int.one_mul, tdiv_of (by omega) (by omega)]
    omega
  unfold size
  rw [if_neg (by simp), if_neg (by simp; omega), sizeGo_cons, if_neg (by omega), sizeGo_cons, if_neg e2]
  simp [sizeGo]

/-- a row that is filled here and there -/
def putP (L : Nat) (p : Nat → Bool) (f z : Nat → Nat) : List Nat := (List.range L).map (fun t => if p t = true then f t else z t)
@[simp] theorem putP_length (L : Nat) (p : Nat → Bool) (f z : Nat → Nat) : (putP L p f z).length = L := by simp [putP]
theorem putP_get (L : Nat) (p : Nat → Bool) (f z : Nat → Nat) (t : Nat) (h : t < (putP L p f z).length) : (putP L p f z)[t] = if p t = true then f t else z t := by simp [putP]
theorem putP_set (L q : Nat) (hq : q < L) (p p' : Nat → Bool) (f z : Nat → Nat) (h : ∀ t, t < L → p' t = (p t || decide (t = q))) : (putP L p f z).set q (f q) = putP L p' f z := by
  apply List.ext_getElem
  · simp
  · intro i h1 h2
    simp only [putP_length] at h2
    rw [List.getElem_set, putP_get, putP_get, h i h2]
    by_cases hi : q = i
    · subst hi; simp
    · rw [if_neg hi]
      have : decide (i = q) = false := by simp; omega
      rw [this, Bool.or_false]
theorem putP_ext (L : Nat) (p p' : Nat → Bool) (f z : Nat → Nat) (h : ∀ t, t < L → p t = p' t) : putP L p f z = putP L p' f z := by
  apply List.ext_getElem
  · simp
  · intro i h1 h2
    simp only [putP_length] at h2
    rw [putP_get, putP_get, h i h2]

/-- the number at place t of a matrix of r rows and n columns, turned -/
def turnAt (r n : Nat) (a : List Nat) (t : Nat) : Nat := a.getD ((t % r) * n + t / r) 0
def turnData (r n : Nat) (a : List Nat) : List Nat := (List.range (n * r)).map (turnAt r n a)
def turnT (a : Tensor) : Tensor × Int :=
  if tmay a = true ∧ a.Shape.length = 2 then (⟨[rd a.Shape 1, rd a.Shape 0], turnData (rd a.Shape 0).toNat (rd a.Shape 1).toNat a.Data⟩, 0) else (⟨[], []⟩, 2)

section
variable {a : Tensor} {r n : Nat} (hr : rd a.Shape 0 = r) (hn : rd a.Shape 1 = n) (ha : a.Data.length = r * n) (h1 : r * n ≤ 4096) (hr1 : 1 ≤ r) (hn1 : 1 ≤ n)
include hr hn ha h1 hr1 hn1

/-- what is filled when i rows and j numbers of the next one are gone over -/
def gone (r i j : Nat) (t : Nat) : Bool := decide (t % r < i) || (decide (t % r = i) && decide (t / r < j))

theorem turn_l1 (i : Nat) (hi : i < r) (s95 : Int × List Nat) (e1 : s95.1 = i) (z : Nat → Nat) :
    loop (matrix_Turn.l1 a s95) (0, putP (n * r) (gone r i 0) (turnAt r n a.Data) z) = some ((n : Int), putP (n * r) (gone r (i + 1) 0) (turnAt r n a.Data) z) := by
  refine loop_to _ (fun q st => ∃ j : Nat, q + j = n ∧ st = ((j : Int), putP (n * r) (gone r i j) (turnAt r n a.Data) z)) ?_ n _ ⟨0, rfl, rfl⟩
  rintro q _ ⟨j, hq, rfl⟩
  unfold matrix_Turn.l1
  simp only [hr, hn, e1, putP_length]
  by_cases hj : j < n
  · right
    have b1 := idx_lt hi hj
    have b2 := idx_lt hj hi
    have b3 : n * r ≤ 4096 := by rw [Nat.mul_comm]; exact h1
    rw [idx64 i n j (by omega), idx64 j r i (by omega), if_pos (by omega), if_pos (by omega), if_pos (by omega), getD_at _ _ (by omega), put_at _ _ (j * r + i) _ rfl]
    have m1 : (j * r + i) % r = i := by rw [Nat.add_comm, Nat.add_mul_mod_self_right, Nat.mod_eq_of_lt hi]
    have m2 : (j * r + i) / r = j := by rw [Nat.add_comm, Nat.add_mul_div_right _ _ (by omega), Nat.div_eq_of_lt hi]; omega
    have e2 : a.Data.getD (i * n + j) 0 = turnAt r n a.Data (j * r + i) := by unfold turnAt; rw [m1, m2]
    refine ⟨_, q - 1, rfl, by omega, j + 1, by omega, ?_⟩
    rw [e2, putP_set (n * r) (j * r + i) b2 (gone r i j) (gone r i (j + 1)), w64_id (by omega) (by omega)]
    · rfl
    · intro t ht
      rw [Bool.eq_iff_iff]
      simp only [gone, Bool.or_eq_true, Bool.and_eq_true, decide_eq_true_eq]
      constructor
      · rintro (h | ⟨h, h'⟩)
        · exact .inl (.inl h)
        · by_cases hd : t / r < j
          · exact .inl (.inr ⟨h, hd⟩)
          · right
            have := Nat.div_add_mod t r
            have : t / r = j := by omega
            rw [← Nat.div_add_mod t r, h, this, Nat.mul_comm]
      · rintro ((h | ⟨h, h'⟩) | h)
        · exact .inl h
        · exact .inr ⟨h, by omega⟩
        · subst h; exact .inr ⟨m1, by omega⟩
  · left
    have hz : j = n := by omega
    rw [if_neg (by omega), hz]
    congr 2
    apply putP_ext
    intro t ht
    have hd : t / r < n := (Nat.div_lt_iff_lt_mul (by omega)).2 ht
    rw [Bool.eq_iff_iff]
    simp only [gone, Bool.or_eq_true, Bool.and_eq_true, decide_eq_true_eq]
    generalize t / r = g at hd ⊢
    generalize t % r = g'
    omega

theorem turn_l0 (z : Nat → Nat) : loop (matrix_Turn.l0 a) (0, putP (n * r) (gone r 0 0) (turnAt r n a.Data) z) = some ((r : Int), turnData r n a.Data) := by
  refine loop_to _ (fun q st => ∃ i : Nat, q + i = r ∧ st = ((i : Int), putP (n * r) (gone r i 0) (turnAt r n a.Data) z)) ?_ r _ ⟨0, rfl, rfl⟩
  rintro q _ ⟨i, hq, rfl⟩
  unfold matrix_Turn.l0
  simp only [hr]
  by_cases hi : i < r
  · right
    rw [if_pos (by omega), turn_l1 hr hn ha h1 hr1 hn1 i hi _ rfl z]
    simp only [bindS]
    have hir : r ≤ r * n := Nat.le_mul_of_pos_right _ hn1
    exact ⟨_, q - 1, rfl, by omega, i + 1, by omega, by rw [w64_id (by omega) (by omega)]; rfl⟩
  · left
    have hz : i = r := by omega
    rw [if_neg (by omega), hz]
    congr 2
    unfold turnData
    apply List.ext_getElem
    · simp
    · intro t h2 h3
      have ht : t % r < r := Nat.mod_lt _ (by omega)
      rw [putP_get, if_pos (by simp [gone, ht])]
      simp
end

theorem zero_putP (L : Nat) (r : Nat) (f : Nat → Nat) : List.replicate L 0 = putP L (gone r 0 0) f (fun _ => 0) := by
  apply List.ext_getElem
  · simp
  · intro i h1 h2
    rw [putP_get]; simp [gone]

theorem turn_new (a : Tensor) (h : tmay a = true) (h2 : a.Shape.length = 2) : ∃ r n : Nat, a.Shape = [(r : Int), (n : Int)] ∧ newT [rd a.Shape 1, rd a.Shape 0] 0 = (⟨[rd a.Shape 1, rd a.Shape 0], List.replicate (n * r) 0⟩, 0) ∧
    loop (matrix_Turn.l0 a) (0, List.replicate (n * r) 0) = some ((r : Int), turnData r n a.Data) := by
  obtain ⟨r, n, sa, r1, n1, la, ba⟩ := two_dims h h2
  have ea0 : rd a.Shape 0 = r := by rw [sa]; rfl
  have ea1 : rd a.Shape 1 = n := by rw [sa]; rfl
  refine ⟨r, n, sa, ?_, ?_⟩
  · unfold newT
    rw [ea0, ea1, size_two n r n1 r1 (by rw [Nat.mul_comm]; exact ba)]
    rfl
  · rw [zero_putP (n * r) r (turnAt r n a.Data)]
    exact turn_l0 ea0 ea1 la ba r1 n1 _

theorem matrix_Turn_eq (a : Tensor) : matrix_Turn.f a = some (turnT a) := by
  unfold matrix_Turn.f turnT
  rw [matrix_flat_eq, obind]
  by_cases ha : tmay a = true ∧ a.Shape.length = 2
  · obtain ⟨r, n, sa, k1, k2⟩ := turn_new a ha.1 ha.2
    have l1 := ha.2
    rw [if_pos (decide_eq_true ha), if_pos (by omega), if_pos (by omega), if_pos ha, tensor_New_eq, obind, k1]
    simp only
    rw [k2, obind, sa]
    rfl
  · rw [if_neg (by simpa using ha), if_neg ha]

def sumT (a : Tensor) : Tensor × Int := if tmay a = true then (⟨[1], [tree a.Data]⟩, 0) else (⟨[], []⟩, 2)

end Go.Proofs.Ytkcgiolledmbnaa
