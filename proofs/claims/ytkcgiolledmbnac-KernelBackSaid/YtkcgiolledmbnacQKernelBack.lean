/- Plain law of KernelBack: what is spread over a leading dimension and gathered again is so many times what it was. -/
import Derived.Test.YtkcgiolledmbnacQA4
import Derived.Test.YtkcgiolledmbnacP16
import Derived.Test.YtkcgiolledmbnacP17
import Derived.Test.YtkcgiolledmbnacP11
import Derived.Test.YtkcgiolledmbnacP7
import Derived.Test.YtkcgiolledmbnacLKernelBack
namespace Go.Proofs.Ytkcgiolledmbnac
open Go Go.RowKit
set_option linter.unusedSimpArgs false
set_option linter.unusedVariables false

theorem prod_at : ∀ (s : List Int) (q : Nat) (h : q < s.length), ∃ c, prodL s = c * (s[q] * prodL (s.drop (q + 1)))
  | x :: s, 0, _ => ⟨1, by simp [prodL_cons]⟩
  | x :: s, q + 1, h => by
    obtain ⟨c, hc⟩ := prod_at s q (by simpa using h)
    exact ⟨x * c, by rw [prodL_cons, hc]; simp [Int.mul_assoc]⟩

theorem digit {n d x c i : Int} (hn : n = c * (x * d)) (hd : 1 ≤ d) : (i % n) / d % x = i / d % x := by
  have h : i = i % n + (c * x * (i / n)) * d := by
    have := Int.mul_ediv_add_emod i n
    have e : ∀ t, c * (x * d) * t = c * x * t * d := fun t => by simp only [Int.mul_comm, Int.mul_left_comm, Int.mul_assoc]
    have e := e (i / n)
    rw [← hn] at e
    omega
  conv => rhs; rw [h]
  rw [Int.add_mul_ediv_right _ _ (by omega), show c * x * (i / n) = x * (c * (i / n)) from by rw [Int.mul_comm c x, Int.mul_assoc], Int.add_mul_emod_self_left]

theorem under_lead {s : List Int} {x : Int} (ht : may (x :: s) = true) (hs : may s = true) {i : Int} (h0 : 0 ≤ i) (h1 : i < prodL (x :: s)) : under s (place (x :: s) i) = i % prodL s := by
  have hp := may_pos hs
  have n0 := prodL_pos hp
  have r0 := Int.emod_nonneg i (by omega : prodL s ≠ 0)
  have r1 := Int.emod_lt_of_pos i (by omega : 0 < prodL s)
  have m : maskP s (place (x :: s) i) = place s (i % prodL s) := by
    unfold place
    rw [if_pos ⟨ht, h0, h1⟩, if_pos ⟨hs, r0, r1⟩]
    have hlen : (fillN (x :: s).length 0 (placeAt (x :: s) i)).length = s.length + 1 := by simp [fillN]
    apply List.ext_getElem
    · simp [maskP, fillN]
    · intro q h2 h3
      have hq : q < s.length := by simpa [maskP] using h2
      obtain ⟨c, hc⟩ := prod_at s q hq
      have hd := prodL_pos (drop_pos hp (q + 1))
      rw [fillN_get, if_pos (Nat.zero_le _)]
      simp only [maskP, List.getElem_map, List.getElem_range, maskF]
      rw [hlen, show s.length + 1 - s.length + q = q + 1 from by omega, getD_get (fillN (x :: s).length 0 (placeAt (x :: s) i)) _ _ (by omega), fillN_get, if_pos (Nat.zero_le _), getD_get _ _ _ hq]
      unfold placeAt
      simp only [List.drop_succ_cons, List.getD_cons_succ]
      rw [getD_get _ _ _ hq, digit hc hd]
      split
      · rename_i e; rw [e, Int.emod_one]
      · rfl
  unfold under
  rw [m, index_place hs r0 r1]

theorem nm_cons (x : Int) (s : List Int) {k : Nat} (h : k < s.length) : nm (x :: s) k = nm s k := by
  unfold nm
  rw [dif_pos h, dif_pos (by simp; omega)]
  have e : (x :: s).length - 1 - k = (s.length - 1 - k) + 1 := by simp only [List.length_cons]; omega
  simp only [e, List.getElem_cons_succ]

def backV (l : List Int) (i : Nat) : Int := if i < l.length then l.getD i 0 else 0
def backX (l : List Int) (i : Nat) : Nat := if i < l.length then ofInt (l.getD i 0) else 0

theorem back_whole {l : List Int} (hl : ∀ x ∈ l, x.natAbs ≤ 128) (i : Nat) : Whole (backX l i) (backV l i) ∧ (backV l i).natAbs ≤ 128 := by
  unfold backX backV
  split
  · rename_i h
    rw [getD_get _ _ _ h]
    have := hl l[i] (List.getElem_mem h)
    exact ⟨Whole.ofInt (by omega), this⟩
  · exact ⟨Whole.zero, by simp⟩

theorem isum_rep (m : Nat) (v : Int) : isum (List.replicate m v) = m * v := by
  induction m with
  | zero => simp [isum]
  | succ m ih =>
    show v + isum (List.replicate m v) = _
    rw [ih, Int.natCast_succ, Int.add_mul, Int.one_mul, Int.add_comm]

theorem back_push (l : List Int) (n : Nat) (r : Int × Int) (hr : r.1 = (n : Int)) (hn : n ≤ 300) : loop (law4_KernelBack.l0 r l) (0, []) = some ((n : Int), (List.range n).map (backX l)) := by
  refine loop_to _ (fun k st => ∃ j : Nat, k + j = n ∧ st = ((j : Int), (List.range j).map (backX l))) ?_ n _ ⟨0, rfl, rfl⟩
  rintro k _ ⟨j, hk, rfl⟩
  unfold law4_KernelBack.l0
  simp only [hr]
  by_cases hj : j < n
  · right
    rw [if_pos (by omega)]
    have e : (List.range (j + 1)).map (backX l) = (List.range j).map (backX l) ++ [backX l j] := by rw [List.range_succ, List.map_append]; rfl
    by_cases hx : j < l.length
    · have ex : backX l j = ofInt (rd l (j : Int)) := by unfold backX; rw [if_pos hx, rd_nat l j hx, getD_get _ _ _ hx]
      rw [if_pos (by omega), if_pos (by omega), if_pos (by simp; omega), ← ex, ← e]
      exact ⟨_, k - 1, rfl, by omega, j + 1, by omega, by rw [w64_id (by omega) (by omega)]; rfl⟩
    · have ex : backX l j = 0 := by unfold backX; rw [if_neg hx]
      rw [if_neg (by omega), if_pos (by simp; omega), ← ex, ← e]
      exact ⟨_, k - 1, rfl, by omega, j + 1, by omega, by rw [w64_id (by omega) (by omega)]; rfl⟩
  · left
    have hz : j = n := by omega
    subst hz
    rw [if_neg (by omega)]

/-- the k-th place gets the same number once in each turn -/
theorem gRow_turns (b : Tensor) (s : List Int) (n K k v : Nat) (hk : k < n) (ha : ∀ i, i < K * n → gAt b s i = i % n) (hv : ∀ i, i < K * n → i % n = k → b.Data.getD i 0 = v) :
    ∀ m, m ≤ K → gRow b s (m * n) k = List.replicate m v
  | 0, _ => by rw [Nat.zero_mul]; rfl
  | m + 1, hm => by
    have ih := gRow_turns b s n K k v hk ha hv m (by omega)
    have hmn : (m + 1) * n = m * n + n := by rw [Nat.add_mul, Nat.one_mul]
    have hle : (m + 1) * n ≤ K * n := Nat.mul_le_mul_right _ hm
    have step : ∀ i, i ≤ n → gRow b s (m * n + i) k = List.replicate (if i ≤ k then m else m + 1) v := by
      intro i
      induction i with
      | zero => intro _; rw [Nat.add_zero, ih, if_pos (Nat.zero_le _)]
      | succ i ihi =>
        intro hi
        rw [← Nat.add_assoc, gRow_succ, ihi (by omega)]
        have hlt : m * n + i < K * n := by omega
        have hmod : (m * n + i) % n = i := by rw [Nat.add_comm, Nat.add_mul_mod_self_right, Nat.mod_eq_of_lt (by omega)]
        rw [ha _ hlt, hmod]
        by_cases c : i = k
        · rw [if_pos c, if_pos (by omega), if_neg (by omega), hv _ hlt (by omega), List.replicate_succ']
        · rw [if_neg c]
          by_cases c2 : i ≤ k
          · rw [if_pos c2, if_pos (by omega)]
          · rw [if_neg c2, if_neg (by omega)]
    rw [hmn, step n (Nat.le_refl _), if_neg (by omega)]

theorem law4_KernelBack.plain (l s : List Int) (front : Int) (hl : ∀ x ∈ l, x.natAbs ≤ 128) (hf : 0 ≤ front ∧ front ≤ 255) : law4_KernelBack.f l s front = some true := by
  unfold law4_KernelBack.f
  rw [law4_awake_ev, obind, if_pos rfl]
  by_cases c0 : 300 < (l.length : Int)
  · rw [if_pos c0]
  by_cases c1 : 40 < (s.length : Int)
  · rw [if_neg c0, if_pos c1]
  obtain ⟨k, ek, hk⟩ := tmod_nat hf (r := 5) (by omega)
  have ek' : w64 (1 + Int.tmod (w64 front) 5) = ((k + 1 : Nat) : Int) := by
    rw [show Int.tmod (w64 front) 5 = (k : Int) from ek, w64_id (by omega) (by omega)]; omega
  rw [if_neg c0, if_neg c1, ref1_Size_eq, obind, if_pos (by omega), ek', ref1_Size_eq, obind]
  by_cases e : (size s).2 = 0
  rotate_left
  · rw [if_neg e]
  rw [if_pos e]
  show (if (size (((k + 1 : Nat) : Int) :: s)).2 = 0 then _ else _) = _
  by_cases f : (size (((k + 1 : Nat) : Int) :: s)).2 = 0
  rotate_left
  · rw [if_neg f]
  rw [if_pos f]
  by_cases c2 : 300 < (size s).1
  · rw [if_pos c2]
  obtain ⟨s1, s2, s3, s4⟩ := size_fits e
  obtain ⟨t1, t2, t3, t4⟩ := size_fits f
  have ms : may s = true := by unfold may; simpa using e
  have mt : may (((k + 1 : Nat) : Int) :: s) = true := by unfold may; simpa using f
  generalize hn : (prodL s).toNat = n
  have hpn : prodL s = (n : Int) := by omega
  have hN : prodL (((k + 1 : Nat) : Int) :: s) = (((k + 1) * n : Nat) : Int) := by rw [prodL_cons, hpn, Int.natCast_mul]
  have hNn : (prodL (((k + 1 : Nat) : Int) :: s)).toNat = (k + 1) * n := by rw [hN]; rfl
  have sub : Sub s (((k + 1 : Nat) : Int) :: s) := ⟨ms, mt, by simp, fun q hq => .inl (nm_cons _ _ hq).symm⟩
  rw [if_neg c2, back_push l n (size s) (by omega) (by omega), obind]
  have ea : tmay ⟨s, (List.range n).map (backX l)⟩ = true := by
    unfold tmay
    simp only [List.length_map, List.length_range]
    exact decide_eq_true ⟨e, by omega⟩
  have es : spreadT ⟨s, (List.range n).map (backX l)⟩ (((k + 1 : Nat) : Int) :: s) = (⟨((k + 1 : Nat) : Int) :: s, (List.range ((k + 1) * n)).map (pick ⟨s, (List.range n).map (backX l)⟩ (((k + 1 : Nat) : Int) :: s))⟩, 0) := by
    unfold spreadT
    rw [if_pos ⟨ea, into_iff.2 sub⟩, hNn]
  show ((kernel_Spread.f ⟨s, (List.range n).map (backX l)⟩ (((k + 1 : Nat) : Int) :: s)).bind _) = _
  rw [kernel_Spread_eq, es, obind]
  generalize hb : (⟨((k + 1 : Nat) : Int) :: s, (List.range ((k + 1) * n)).map (pick ⟨s, (List.range n).map (backX l)⟩ (((k + 1 : Nat) : Int) :: s))⟩ : Tensor) = b
  have bs : b.Shape = ((k + 1 : Nat) : Int) :: s := by rw [← hb]
  have bl : b.Data.length = (k + 1) * n := by rw [← hb]; simp
  have eb : tmay b = true := by
    unfold tmay
    rw [bs, bl]
    exact decide_eq_true ⟨f, by rw [t4, hN]⟩
  have eg : gatherT b s = (⟨s, (List.range n).map (fun q => tree (gRow b s ((k + 1) * n) q))⟩, 0) := by
    unfold gatherT
    rw [if_pos ⟨eb, by rw [bs]; exact into_iff.2 sub⟩, hn, bl]
  rw [kernel_Gather_eq, obind, eg]
  simp only
  rw [if_pos trivial, if_pos trivial, if_pos (by show (b.Data.length : Int) = (size (((k + 1 : Nat) : Int) :: s)).1; rw [bl, t4, hN]), if_pos (by simp; omega)]
  have hat : ∀ i, i < (k + 1) * n → gAt b s i = i % n := fun i hi => by
    unfold gAt
    rw [bs, under_lead mt ms (by omega) (by rw [hN]; omega), hpn]
    omega
  have hval : ∀ q i, i < (k + 1) * n → i % n = q → b.Data.getD i 0 = backX l q := fun q i hi hq => by
    have h2 := hat i hi
    unfold gAt at h2
    rw [bs] at h2
    have hq2 : q < n := by rw [← hq]; exact Nat.mod_lt _ (by omega)
    rw [← hb]
    simp only
    rw [getD_get _ _ _ (by simpa using hi)]
    simp only [List.getElem_map, List.getElem_range, pick]
    rw [h2, hq, getD_get _ _ _ (by simpa using hq2)]
    simp
  rw [same_loop n (by omega) (fun j hj => ?_) ?_, obind]
  · rfl
  · unfold law4_KernelBack.l1
    simp only [List.length_map, List.length_range]
    rw [if_neg (by omega)]
  · unfold law4_KernelBack.l1
    simp only [List.length_map, List.length_range]
    obtain ⟨w1, w2⟩ := back_whole hl j
    have g1 : rd ((List.range n).map (fun q => tree (gRow b s ((k + 1) * n) q))) (j : Int) = tree (List.replicate (k + 1) (backX l j)) := by
      rw [rd_nat _ j (by simpa using hj)]
      simp only [List.getElem_map, List.getElem_range]
      rw [gRow_turns b s n (k + 1) j (backX l j) hj hat (hval j) (k + 1) (Nat.le_refl _)]
    have g2 : rd ((List.range n).map (backX l)) (j : Int) = backX l j := by
      rw [rd_nat _ j (by simpa using hj)]; simp
    have wt : Whole (tree (List.replicate (k + 1) (backX l j))) (((k + 1 : Nat) : Int) * backV l j) := by
      rw [← isum_rep]
      refine tree_whole (B := 128) (k + 1) _ _ (by simp) ⟨by simp, fun q h1 h2 => ?_⟩ (fun y hy => ?_) (by simp; omega)
      · simp only [List.getElem_replicate]; exact w1
      · rw [List.eq_of_mem_replicate hy]; exact w2
    have wb : (((k + 1 : Nat) : Int) * backV l j).natAbs < 2 ^ 53 := by
      rw [Int.natAbs_mul]
      have : (((k + 1 : Nat) : Int)).natAbs * (backV l j).natAbs ≤ 5 * 128 := Nat.mul_le_mul (by omega) w2
      omega
    have wm := (Whole.ofInt (n := ((k + 1 : Nat) : Int)) (by omega)).mul w1 wb
    rw [if_pos (by omega), if_pos (by omega), if_pos (by omega), g1, g2, ek', wt.fne wm]
    simp

end Go.Proofs.Ytkcgiolledmbnac
