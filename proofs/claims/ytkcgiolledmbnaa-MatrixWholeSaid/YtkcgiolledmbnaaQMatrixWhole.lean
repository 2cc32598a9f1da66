/- Plain law of MatrixWhole: of small whole numbers: a product turned is the product of the turned ones the other way round; by three it does not hang on where one begins. -/
import Derived.Test.YtkcgiolledmbnaaP10
import Derived.Test.YtkcgiolledmbnaaQA5
import Derived.Test.YtkcgiolledmbnaaLMatrixWhole
namespace Go.Proofs.Ytkcgiolledmbnaa
open Go Go.RowKit
set_option linter.unusedSimpArgs false
set_option linter.unusedVariables false

/-! ### sums of whole numbers -/
def sumN : Nat → (Nat → Int) → Int
  | 0, _ => 0
  | n + 1, f => sumN n f + f n

theorem sumN_congr : ∀ (n : Nat) (f g : Nat → Int), (∀ k, k < n → f k = g k) → sumN n f = sumN n g
  | 0, _, _, _ => rfl
  | n + 1, f, g, h => by simp only [sumN]; rw [sumN_congr n f g (fun k hk => h k (by omega)), h n (by omega)]
theorem sumN_mul (c : Int) : ∀ (n : Nat) (f : Nat → Int), sumN n (fun k => c * f k) = c * sumN n f
  | 0, _ => by simp [sumN]
  | n + 1, f => by simp only [sumN]; rw [sumN_mul c n f, Int.mul_add]
theorem sumN_mulr (c : Int) : ∀ (n : Nat) (f : Nat → Int), sumN n (fun k => f k * c) = sumN n f * c
  | 0, _ => by simp [sumN]
  | n + 1, f => by simp only [sumN]; rw [sumN_mulr c n f, Int.add_mul]
theorem sumN_add : ∀ (n : Nat) (f g : Nat → Int), sumN n (fun k => f k + g k) = sumN n f + sumN n g
  | 0, _, _ => by simp [sumN]
  | n + 1, f, g => by simp only [sumN]; rw [sumN_add n f g]; omega
theorem sumN_zero : ∀ (n : Nat), sumN n (fun _ => 0) = 0
  | 0 => rfl
  | n + 1 => by simp only [sumN]; rw [sumN_zero n]; rfl
theorem sumN_comm (m : Nat) : ∀ (n : Nat) (f : Nat → Nat → Int), sumN n (fun i => sumN m (fun j => f i j)) = sumN m (fun j => sumN n (fun i => f i j))
  | 0, f => by simp only [sumN]; rw [sumN_zero]
  | n + 1, f => by simp only [sumN]; rw [sumN_comm m n f, ← sumN_add]
theorem sumN_abs {B : Nat} : ∀ (n : Nat) (f : Nat → Int), (∀ k, k < n → (f k).natAbs ≤ B) → (sumN n f).natAbs ≤ n * B
  | 0, _, _ => by simp [sumN]
  | n + 1, f, h => by
    have h1 := sumN_abs n f (fun k hk => h k (by omega))
    have h2 := h n (by omega)
    have h3 := Int.natAbs_add_le (sumN n f) (f n)
    simp only [sumN]
    rw [Nat.add_mul, Nat.one_mul]
    omega

theorem rowSum_whole {B : Nat} : ∀ (n : Nat) (g : Nat → Nat) (f : Nat → Int), (∀ k, k < n → Whole (g k) (f k)) → (∀ k, k < n → (f k).natAbs ≤ B) → n * B < 2 ^ 53 → Whole (rowSum ((List.range n).map g)) (sumN n f)
  | 0, _, _, _, _, _ => Whole.zero
  | n + 1, g, f, h, hb, hs => by
    rw [Nat.add_mul, Nat.one_mul] at hs
    have ih := rowSum_whole n g f (fun k hk => h k (by omega)) (fun k hk => hb k (by omega)) (by omega)
    have h2 := sumN_abs (n + 1) f hb
    rw [Nat.add_mul, Nat.one_mul] at h2
    rw [List.range_succ, List.map_append]
    unfold rowSum at ih ⊢
    rw [List.foldl_append]
    simp only [List.map_cons, List.map_nil, List.foldl_cons, List.foldl_nil]
    exact ih.add (h n (by omega)) (by show (sumN (n + 1) f).natAbs < _; omega)

/-- a row of whole numbers, by places -/
def WR (n : Nat) (xs : List Nat) (f : Nat → Int) (B : Nat) : Prop := ∀ i, i < n → Whole (xs.getD i 0) (f i) ∧ (f i).natAbs ≤ B

def mulI (n c : Nat) (fa fb : Nat → Int) (t : Nat) : Int := sumN n (fun k => fa ((t / c) * n + k) * fb (k * c + t % c))

theorem div_at {n i k : Nat} (hk : k < n) : (i * n + k) / n = i ∧ (i * n + k) % n = k := by
  have hn : 0 < n := by omega
  constructor
  · rw [Nat.add_comm, Nat.add_mul_div_right _ _ hn, Nat.div_eq_of_lt hk, Nat.zero_add]
  · rw [Nat.add_comm, Nat.add_mul_mod_self_right, Nat.mod_eq_of_lt hk]

theorem split_at {r c t : Nat} (h : t < r * c) : ∃ i j, i < r ∧ j < c ∧ t = i * c + j := by
  have hc : 0 < c := by
    rcases Nat.eq_zero_or_pos c with h0 | h0
    · subst h0; simp at h
    · exact h0
  exact ⟨t / c, t % c, (Nat.div_lt_iff_lt_mul hc).2 h, Nat.mod_lt _ hc, by have := Nat.div_add_mod t c; rw [Nat.mul_comm]; omega⟩

theorem mul_WR {r n c A B : Nat} {da db : List Nat} {fa fb : Nat → Int} (ha : WR (r * n) da fa A) (hb : WR (n * c) db fb B) (hs : n * (A * B) < 2 ^ 53) : WR (r * c) (mulData r n c da db) (mulI n c fa fb) (n * (A * B)) := by
  intro t ht
  obtain ⟨i, j, hi, hj, rfl⟩ := split_at ht
  obtain ⟨d1, d2⟩ := div_at (i := i) hj
  have hle : ∀ k, k < n → (fa (i * n + k) * fb (k * c + j)).natAbs ≤ A * B := fun k hk => by
    rw [Int.natAbs_mul]
    exact Nat.mul_le_mul (ha _ (idx_lt hi hk)).2 (hb _ (idx_lt hk hj)).2
  unfold mulI
  rw [d1, d2, mulData_get hi hj]
  refine ⟨rowSum_whole (B := A * B) n _ _ (fun k hk => ?_) hle hs, sumN_abs n _ hle⟩
  refine (ha _ (idx_lt hi hk)).1.mul (hb _ (idx_lt hk hj)).1 ?_
  have h1 := hle k hk
  have h2 : A * B ≤ n * (A * B) := Nat.le_mul_of_pos_left _ (by omega)
  omega

theorem turn_get {r n : Nat} {d : List Nat} {i j : Nat} (hi : i < n) (hj : j < r) : (turnData r n d).getD (i * r + j) 0 = d.getD (j * n + i) 0 := by
  have hlt := idx_lt hi hj
  obtain ⟨d1, d2⟩ := div_at (i := i) hj
  simp only [turnData, List.getD, List.getElem?_map, List.getElem?_range hlt, Option.map_some, Option.getD_some]
  unfold turnAt
  rw [d1, d2]
  rfl

def turnI (r n : Nat) (f : Nat → Int) (t : Nat) : Int := f ((t % r) * n + t / r)
theorem turn_WR {r n A : Nat} {d : List Nat} {f : Nat → Int} (h : WR (r * n) d f A) : WR (n * r) (turnData r n d) (turnI r n f) A := by
  intro t ht
  obtain ⟨i, j, hi, hj, rfl⟩ := split_at ht
  obtain ⟨d1, d2⟩ := div_at (i := i) hj
  unfold turnI
  rw [turn_get hi hj, d1, d2]
  exact h _ (idx_lt hj hi)

theorem mulI_at {n c : Nat} {fa fb : Nat → Int} {i j : Nat} (hj : j < c) : mulI n c fa fb (i * c + j) = sumN n (fun k => fa (i * n + k) * fb (k * c + j)) := by
  obtain ⟨d1, d2⟩ := div_at (i := i) hj
  unfold mulI
  rw [d1, d2]

theorem mulI_assoc {p q r s : Nat} {fa fb fc : Nat → Int} {t : Nat} (ht : t < p * s) : mulI r s (mulI q r fa fb) fc t = mulI q s fa (mulI r s fb fc) t := by
  obtain ⟨i, j, hi, hj, rfl⟩ := split_at ht
  rw [mulI_at hj, mulI_at hj]
  rw [sumN_congr r _ (fun k => sumN q (fun m => fa (i * q + m) * fb (m * r + k) * fc (k * s + j))) (fun k hk => by rw [mulI_at hk, sumN_mulr])]
  rw [sumN_congr q (fun k => fa (i * q + k) * mulI r s fb fc (k * s + j)) (fun m => sumN r (fun k => fa (i * q + m) * fb (m * r + k) * fc (k * s + j))) (fun m hm => by rw [mulI_at hj, ← sumN_mul]; exact sumN_congr r _ _ (fun k _ => by rw [Int.mul_assoc]))]
  exact sumN_comm q r _

theorem mulI_turn {p q r : Nat} {fa fb : Nat → Int} {t : Nat} (ht : t < p * r) : turnI r p (mulI q p (turnI q r fb) (turnI p q fa)) t = mulI q r fa fb t := by
  obtain ⟨i, j, hi, hj, rfl⟩ := split_at ht
  obtain ⟨d1, d2⟩ := div_at (i := i) hj
  unfold turnI
  rw [d1, d2, mulI_at hi, mulI_at hj]
  refine sumN_congr q _ _ (fun k hk => ?_)
  obtain ⟨e1, e2⟩ := div_at (i := j) hk
  obtain ⟨e3, e4⟩ := div_at (i := k) hi
  simp only [e1, e2, e3, e4]
  rw [Int.mul_comm]

/-! ### the matrices of the law -/
def matD (l : List Int) (from_ n : Nat) : List Nat := (List.range n).map (fun t => if from_ + t < l.length then ofInt (l.getD (from_ + t) 0) else 0)
def matI (l : List Int) (from_ t : Nat) : Int := l.getD (from_ + t) 0

theorem mat_WR {l : List Int} (hb : ∀ x ∈ l, x.natAbs ≤ 128) (from_ n : Nat) : WR n (matD l from_ n) (matI l from_) 128 := by
  intro t ht
  simp only [matD, List.getD, List.getElem?_map, List.getElem?_range ht, Option.map_some, Option.getD_some]
  unfold matI
  by_cases h : from_ + t < l.length
  · rw [if_pos h]
    have := hb l[from_ + t] (List.getElem_mem h)
    simp only [List.getD, List.getElem?_eq_getElem h, Option.getD_some]
    exact ⟨Whole.ofInt (by omega), this⟩
  · rw [if_neg h]
    simp only [List.getD, List.getElem?_eq_none (by omega : l.length ≤ from_ + t), Option.getD_none]
    exact ⟨Whole.zero, by decide⟩

theorem matrixOf_eq (p q : Nat) (l : List Int) (from_ : Nat) (h1 : p * q ≤ 16) (h2 : from_ ≤ 100) (hl : l.length ≤ 9223372036854775807) : law5_matrixOf.f (p : Int) (q : Int) l (from_ : Int) = some ⟨[(p : Int), (q : Int)], matD l from_ (p * q)⟩ := by
  unfold law5_matrixOf.f
  have key : loop (law5_matrixOf.l0 (p : Int) (q : Int) (from_ : Int) l) (0, []) = some (((p * q : Nat) : Int), matD l from_ (p * q)) := by
    refine loop_to _ (fun k st => ∃ j : Nat, k + j = p * q ∧ st = ((j : Int), matD l from_ j)) ?_ (p * q) _ ⟨0, rfl, rfl⟩
    rintro k _ ⟨j, hk, rfl⟩
    unfold law5_matrixOf.l0
    simp only
    have e1 : w64 ((p : Int) * (q : Int)) = ((p * q : Nat) : Int) := idx64' p q (by omega)
    have e2 : w64 ((from_ : Int) + (j : Int)) = ((from_ + j : Nat) : Int) := by rw [w64_id (by omega) (by omega)]; omega
    have hlen : (matD l from_ j).length = j := by simp [matD]
    rw [e1, e2, hlen]
    by_cases hj : j < p * q
    · right
      rw [if_pos (by omega)]
      by_cases h : from_ + j < l.length
      · rw [if_pos (by omega), if_pos (by omega), if_pos (by omega), rd_nat l _ h]
        refine ⟨_, k - 1, rfl, by omega, j + 1, by omega, ?_⟩
        rw [w64_id (by omega) (by omega)]
        simp only [matD, List.range_succ, List.map_append, List.map_cons, List.map_nil]
        rw [if_pos h]
        simp [List.getD, List.getElem?_eq_getElem h]
      · rw [if_neg (by omega), if_pos (by omega)]
        refine ⟨_, k - 1, rfl, by omega, j + 1, by omega, ?_⟩
        rw [w64_id (by omega) (by omega)]
        simp only [matD, List.range_succ, List.map_append, List.map_cons, List.map_nil]
        rw [if_neg h]
        simp
    · left
      have hz : j = p * q := by omega
      subst hz
      rw [if_neg (by omega)]
  rw [key, obind]

theorem law5_equal_true (a b : Tensor) (hs : a.Shape = b.Shape) (hl : a.Data.length = b.Data.length) (h1 : a.Shape.length ≤ 9223372036854775806) (h2 : a.Data.length ≤ 9223372036854775806)
    (h : ∀ i, i < a.Data.length → fne (a.Data.getD i 0) (b.Data.getD i 0) = false) : law5_equal.f a b = some true := by
  unfold law5_equal.f
  rw [ref1_SameInts_eq _ _ h1, obind, if_pos (decide_eq_true hs), if_pos (by omega)]
  have key : loop (law5_equal.l0 a b) 0 = some (.go (a.Data.length : Int)) := by
    refine loop_to _ (fun k st => ∃ j : Nat, k + j = a.Data.length ∧ st = (j : Int)) ?_ a.Data.length _ ⟨0, rfl, rfl⟩
    rintro k _ ⟨j, hk, rfl⟩
    unfold law5_equal.l0
    by_cases hj : j < a.Data.length
    · right
      have := h j hj
      rw [if_pos (by omega), if_pos (by omega), if_pos (by omega), getD_at _ _ hj, getD_at _ _ (by omega), this, if_neg (by simp)]
      exact ⟨_, k - 1, rfl, by omega, j + 1, by omega, by rw [w64_id (by omega) (by omega)]; rfl⟩
    · left
      have hz : j = a.Data.length := by omega
      subst hz
      rw [if_neg (by omega)]
  rw [key, obind]; rfl


theorem equal_WR {n m : Nat} {da db : List Nat} {fa fb : Nat → Int} {A B : Nat} (p q : Nat) (hl : da.length = n) (hl' : db.length = n) (ha : WR n da fa A) (hb : WR n db fb B) (h : ∀ t, t < n → fa t = fb t) (hn : n ≤ 4096) :
    law5_equal.f ⟨[(p : Int), (q : Int)], da⟩ ⟨[(p : Int), (q : Int)], db⟩ = some true := by
  refine law5_equal_true _ _ rfl (by simp only; omega) (by simp) (by simp only; omega) (fun i hi => ?_)
  simp only at hi ⊢
  have h1 := (ha i (by omega)).1
  have h2 := (hb i (by omega)).1
  rw [h i (by omega)] at h1
  rw [h1.fne h2]
  simp

theorem dim_of {x : Int} (h : 0 ≤ x ∧ x ≤ 255) : ∃ p : Nat, w64 (1 + Int.tmod (w64 x) 4) = (p : Int) ∧ 1 ≤ p ∧ p ≤ 4 := by
  obtain ⟨i, h1, h2⟩ := tmod_nat h (r := 4) (by decide)
  have h1' : Int.tmod (w64 x) 4 = (i : Int) := h1
  rw [h1', w64_id (by omega) (by omega)]
  exact ⟨1 + i, by omega, by omega, by omega⟩

theorem turnT_mk {r n : Nat} {d : List Nat} (hr : 1 ≤ r) (hn : 1 ≤ n) (h : r * n ≤ 4096) (hd : d.length = r * n) : turnT ⟨[(r : Int), (n : Int)], d⟩ = (⟨[(n : Int), (r : Int)], turnData r n d⟩, 0) := by
  unfold turnT
  rw [if_pos ⟨tmay_two hr hn h hd, rfl⟩]
  rfl

theorem law5_MatrixWhole.plain (x : Int × Int × Int × Int) (l : List Int) (h0 : 0 ≤ x.1 ∧ x.1 ≤ 255) (h1 : 0 ≤ x.2.1 ∧ x.2.1 ≤ 255) (h2 : 0 ≤ x.2.2.1 ∧ x.2.2.1 ≤ 255) (h3 : 0 ≤ x.2.2.2 ∧ x.2.2.2 ≤ 255)
    (hl : l.length ≤ 9223372036854775807) (hb : ∀ y ∈ l, y.natAbs ≤ 128) : law5_MatrixWhole.f x l = some true := by
  unfold law5_MatrixWhole.f
  rw [law5_awake_ev, obind, if_pos rfl]
  obtain ⟨p, ep, p1, p4⟩ := dim_of h0
  obtain ⟨q, eq, q1, q4⟩ := dim_of h1
  obtain ⟨r, er, r1, r4⟩ := dim_of h2
  obtain ⟨s, es, s1, s4⟩ := dim_of h3
  rw [ep, eq, er, es]
  have pq : p * q ≤ 4 * 4 := Nat.mul_le_mul p4 q4
  have qr : q * r ≤ 4 * 4 := Nat.mul_le_mul q4 r4
  have rs : r * s ≤ 4 * 4 := Nat.mul_le_mul r4 s4
  have pr : p * r ≤ 4 * 4 := Nat.mul_le_mul p4 r4
  have ps : p * s ≤ 4 * 4 := Nat.mul_le_mul p4 s4
  have qs : q * s ≤ 4 * 4 := Nat.mul_le_mul q4 s4
  have rq : r * q ≤ 4 * 4 := Nat.mul_le_mul r4 q4
  have qp : q * p ≤ 4 * 4 := Nat.mul_le_mul q4 p4
  have rp : r * p ≤ 4 * 4 := Nat.mul_le_mul r4 p4
  have ma := matrixOf_eq p q l 0 (by omega) (by omega) hl
  have mb := matrixOf_eq q r l 16 (by omega) (by omega) hl
  have mc := matrixOf_eq r s l 32 (by omega) (by omega) hl
  have wa := mat_WR hb 0 (p * q)
  have wb := mat_WR hb 16 (q * r)
  have wc := mat_WR hb 32 (r * s)
  have la : (matD l 0 (p * q)).length = p * q := by simp [matD]
  have lb : (matD l 16 (q * r)).length = q * r := by simp [matD]
  have lc : (matD l 32 (r * s)).length = r * s := by simp [matD]
  generalize matD l 0 (p * q) = da at ma wa la
  generalize matD l 16 (q * r) = db at mb wb lb
  generalize matD l 32 (r * s) = dc at mc wc lc
  generalize matI l 0 = fa at wa
  generalize matI l 16 = fb at wb
  generalize matI l 32 = fc at wc
  have ma' : law5_matrixOf.f (p : Int) (q : Int) l 0 = some ⟨[(p : Int), (q : Int)], da⟩ := ma
  have mb' : law5_matrixOf.f (q : Int) (r : Int) l 16 = some ⟨[(q : Int), (r : Int)], db⟩ := mb
  have mc' : law5_matrixOf.f (r : Int) (s : Int) l 32 = some ⟨[(r : Int), (s : Int)], dc⟩ := mc
  rw [ma', obind, mb', obind, mc', obind]
  by_cases hl3 : 300 < (l.length : Int)
  · rw [if_pos hl3]
  have ab := mulT_mk (da := da) (db := db) p1 q1 r1 (by omega) (by omega) (by omega) la lb
  have bc := mulT_mk (da := db) (db := dc) q1 r1 s1 (by omega) (by omega) (by omega) lb lc
  have lab := mulData_len p q r da db
  have lbc := mulData_len q r s db dc
  have ab_c := mulT_mk (da := mulData p q r da db) (db := dc) p1 r1 s1 (by omega) (by omega) (by omega) lab lc
  have a_bc := mulT_mk (da := da) (db := mulData q r s db dc) p1 q1 s1 (by omega) (by omega) (by omega) la lbc
  have ta := turnT_mk (d := da) p1 q1 (by omega) la
  have tb := turnT_mk (d := db) q1 r1 (by omega) lb
  have lta : (turnData p q da).length = q * p := by simp [turnData]
  have ltb : (turnData q r db).length = r * q := by simp [turnData]
  have tt := mulT_mk (da := turnData q r db) (db := turnData p q da) r1 q1 p1 (by omega) (by omega) (by omega) ltb lta
  have ltt := mulData_len r q p (turnData q r db) (turnData p q da)
  have tv := turnT_mk (d := mulData r q p (turnData q r db) (turnData p q da)) r1 p1 (by omega) ltt
  rw [if_neg hl3, matrix_Mul_eq, obind, ab, matrix_Mul_eq, obind, bc]
  simp only
  rw [matrix_Mul_eq, obind, ab_c, matrix_Mul_eq, obind, a_bc, matrix_Turn_eq, obind, ta, matrix_Turn_eq, obind, tb]
  simp only
  rw [matrix_Mul_eq, obind, tt]
  simp only
  rw [matrix_Turn_eq, obind, tv]
  simp only
  rw [if_pos trivial, if_pos trivial, if_pos trivial, if_pos trivial, if_pos trivial]
  have c1 : q * (128 * 128) ≤ 4 * (128 * 128) := Nat.mul_le_mul_right _ q4
  have c2 : r * (128 * 128) ≤ 4 * (128 * 128) := Nat.mul_le_mul_right _ r4
  have up : ∀ {n : Nat} {xs : List Nat} {f : Nat → Int} {B C : Nat}, WR n xs f B → B ≤ C → WR n xs f C := fun h hc i hi => ⟨(h i hi).1, Nat.le_trans (h i hi).2 hc⟩
  have wab := up (mul_WR wa wb (by omega)) c1
  have wbc := up (mul_WR wb wc (by omega)) c2
  have c3 : r * (4 * (128 * 128) * 128) ≤ 4 * (4 * (128 * 128) * 128) := Nat.mul_le_mul_right _ r4
  have c4 : q * (128 * (4 * (128 * 128))) ≤ 4 * (128 * (4 * (128 * 128))) := Nat.mul_le_mul_right _ q4
  have wabc := mul_WR wab wc (by omega)
  have wabc' := mul_WR wa wbc (by omega)
  have wtt := mul_WR (turn_WR wb) (turn_WR wa) (by omega)
  have wtv := turn_WR wtt
  rw [equal_WR (m := 0) p s (mulData_len p r s _ _) (mulData_len p q s _ _) wabc wabc' (fun t ht => mulI_assoc ht) (by omega), obind, if_pos rfl]
  rw [equal_WR (m := 0) p r lab (by simp [turnData]) wab wtv (fun t ht => (mulI_turn ht).symm) (by omega), obind]

end Go.Proofs.Ytkcgiolledmbnaa
