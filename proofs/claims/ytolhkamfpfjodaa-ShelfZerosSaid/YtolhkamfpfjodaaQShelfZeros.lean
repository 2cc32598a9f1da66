/- Plain law of ShelfZeros: noughts again: what is committed behind it is all there is. -/
import Derived.Test.YtolhkamfpfjodaaQA19
import Derived.Test.YtolhkamfpfjodaaP18
import Derived.Test.YtolhkamfpfjodaaLShelfZeros
namespace Go.Proofs.Ytolhkamfpfjodaa
open Go Go.RowKit
set_option linter.unusedSimpArgs false
set_option linter.unusedVariables false

def T1 (v : Nat) : Tensor := ⟨[1], [v]⟩
theorem size_1 : size [1] = (1, 0) := by decide +kernel
theorem T1_may (v : Nat) : tmay (T1 v) = true := by
  unfold tmay T1
  rw [size_1]
  rfl
theorem T1_nought (v : Nat) : nought (T1 v) = T1 0 := (nought_may (T1_may v)).1
theorem T1_add (a b : Nat) : addT (T1 a) (T1 b) = T1 (fadd a b) := by
  rw [(addT_may (T1_may a) (T1_may b) rfl).1]
  rfl

theorem zeros_loop (l : List Int) (hl : l.length ≤ 32) : loop (law19_ShelfZeros.l0 l) (0, [], []) = some ((l.length : Int), l.map (fun x => T1 (ofInt x)), l.map (fun _ => T1 4607182418800017408)) := by
  refine loop_to _ (fun k st => ∃ j : Nat, k + j = l.length ∧ st = ((j : Int), (l.take j).map (fun x => T1 (ofInt x)), (l.take j).map (fun _ => T1 4607182418800017408))) ?_ l.length _ ⟨0, rfl, rfl⟩
  rintro k _ ⟨j, hk, rfl⟩
  unfold law19_ShelfZeros.l0
  simp only
  by_cases hj : j < l.length
  · right
    have e : (l.take j).length = j := by rw [List.length_take]; omega
    rw [if_pos (by omega), if_pos (by rw [List.length_map, e]; omega), if_pos (by omega), if_pos (by rw [List.length_map, e]; omega), rd_nat l j hj]
    refine ⟨_, k - 1, rfl, by omega, j + 1, by omega, ?_⟩
    rw [w64_id (by omega) (by omega), List.take_succ_eq_append_getElem hj, List.map_append, List.map_append]
    rfl
  · left
    have hz : j = l.length := by omega
    subst hz
    rw [if_neg (by omega), List.take_length]

theorem whole_two : Whole 4611686018427387904 2 := by
  have h := Whole.ofInt (n := 2) (by decide)
  have e : ofInt 2 = 4611686018427387904 := by decide +kernel
  rw [e] at h
  exact h

theorem law19_ShelfZeros.plain (l : List Int) (at_ : Int) (hb : ∀ x ∈ l, x.natAbs ≤ 32768) (ha : 0 ≤ at_ ∧ at_ ≤ 255) : law19_ShelfZeros.f l at_ = some true := by
  unfold law19_ShelfZeros.f
  rw [law19_awake_ev, obind, if_pos rfl]
  by_cases c0 : (l.length : Int) = 0
  · rw [if_pos c0]
  rw [if_neg c0]
  by_cases c1 : 32 < (l.length : Int)
  · rw [if_pos c1]
  have hl : l.length ≤ 32 := by omega
  obtain ⟨k, ek, hk⟩ := tmod_nat ha (r := l.length) (by omega)
  rw [if_neg c1, zeros_loop l hl, obind]
  simp only
  generalize hts : l.map (fun _ => T1 4607182418800017408) = ts
  generalize hgs : l.map (fun x => T1 (ofInt x)) = gs
  have lts : ts.length = l.length := by rw [← hts]; simp
  have lgs : gs.length = l.length := by rw [← hgs]; simp
  have gts : ∀ i (h : i < ts.length), ts[i] = T1 4607182418800017408 := fun i h => by subst hts; simp
  have ggs : ∀ i (h : i < gs.length) (h' : i < l.length), gs[i] = T1 (ofInt l[i]) := fun i h h' => by subst hgs; simp
  have mts : ∀ t ∈ ts, tmay t = true := fun t ht => by
    obtain ⟨i, hi, rfl⟩ := List.mem_iff_getElem.1 ht
    rw [gts]; exact T1_may _
  have S0 := Sound.new (l := ts) (by omega) mts
  have hx : ∀ i (h : i < gs.length) (h' : i < ts.length), tmay gs[i] = true ∧ gs[i].Shape = ts[i].Shape := fun i h h' => by
    rw [ggs i h (by omega), gts i h']
    exact ⟨T1_may _, rfl⟩
  have S1 := S0.commit (x := gs) (by simp only; omega) hx
  have C1 := Commit_in S0 (x := gs) (by simp only; omega) hx
  simp only at S1 C1
  generalize hg1 : (List.range ts.length).map (fun i => addT ((ts.map nought).getD i default) (gs.getD i default)) = g1 at S1 C1
  have lg1 : g1.length = ts.length := by rw [← hg1]; simp
  have g1v : ∀ i (h : i < l.length), g1.getD i default = T1 (fadd 0 (ofInt l[i])) := fun i h => by
    subst hg1
    rw [getD_get _ _ _ (by simp; omega)]
    simp only [List.getElem_map, List.getElem_range]
    rw [getD_get (ts.map nought) _ _ (by simp; omega), getD_get gs _ _ (by omega), List.getElem_map, gts i (by omega), ggs i (by omega) h, T1_nought, T1_add]
  have Z := Zero_in S1 (i := k) (by simp only; omega)
  have S2 := S1.zero (i := k) (by simp only; omega)
  simp only at Z S2
  have hzk : nought (ts.getD k default) = T1 0 := by rw [getD_get _ _ _ (by omega), gts k (by omega), T1_nought]
  rw [hzk] at Z S2
  have S3 := S2.commit (x := gs) (by simp only; omega) hx
  have C3 := Commit_in S2 (x := gs) (by simp only; omega) hx
  simp only at S3 C3
  generalize hg3 : (List.range ts.length).map (fun i => addT ((g1.set k (T1 0)).getD i default) (gs.getD i default)) = g3 at S3 C3
  have g3v : ∀ i (h : i < l.length), g3.getD i default = if i = k then T1 (fadd 0 (ofInt l[i])) else T1 (fadd (fadd 0 (ofInt l[i])) (ofInt l[i])) := fun i h => by
    subst hg3
    have h1 := g1v i h
    rw [getD_get _ _ _ (by omega)] at h1
    rw [getD_get _ _ _ (by simp; omega)]
    simp only [List.getElem_map, List.getElem_range]
    rw [getD_get (g1.set k (T1 0)) _ _ (by simp; omega), getD_get gs _ _ (by omega), ggs i (by omega) h, List.getElem_set]
    by_cases hik : k = i
    · rw [if_pos hik, if_pos hik.symm, T1_add]
    · rw [if_neg hik, if_neg (fun c => hik c.symm), h1, T1_add]
  rw [shelf_New_ok ts (by omega) mts, obind]
  simp only [onPtr]
  rw [if_pos trivial, C1, obind]
  simp only
  rw [if_pos trivial, if_pos c0, ek, Z, obind]
  simp only
  rw [if_pos trivial, C3, obind]
  simp only
  rw [if_pos trivial]
  have key : loop (law19_ShelfZeros.l1 l at_ ⟨ts, List.replicate ts.length 0, ts.map nought⟩ (g3, 0)) 0 = some (.go (l.length : Int)) := by
    refine loop_to _ (fun q st => ∃ j : Nat, q + j = l.length ∧ st = (j : Int)) ?_ l.length _ ⟨0, rfl, rfl⟩
    rintro q _ ⟨j, hq, rfl⟩
    unfold law19_ShelfZeros.l1
    simp only [ek]
    by_cases hj : j < l.length
    · right
      have G := Grad_in S3 (i := j) (by simp only; omega)
      have E := Get_in S3 (i := j) (by simp only; omega)
      have hv : (List.replicate ts.length (0 : Int)).getD j 0 = 0 := by simp only [List.getD, List.getElem?_replicate]; split <;> rfl
      simp only [hv] at G E
      have g := g3v j hj
      have hw := hb l[j] (List.getElem_mem hj)
      have w := Whole.ofInt (n := l[j]) (by omega)
      have w0 := Whole.zero.add w (by omega)
      rw [Int.zero_add] at w0
      have w2 := w0.add w (by omega)
      have w3 := whole_two.mul w (by omega)
      rw [if_pos (by omega), if_pos (by omega)]
      by_cases hjk : (j : Int) = (k : Int)
      · rw [if_pos (by omega : j = k)] at g
        rw [if_pos hjk, G, E]
        simp only [bindS, g]
        have f : fne (rd (T1 (fadd 0 (ofInt l[j]))).Data 0) (ofInt (rd l (j : Int))) = false := by
          rw [rd_nat l j hj]
          show fne (fadd 0 (ofInt l[j])) (ofInt l[j]) = false
          rw [w0.fne w]; simp
        rw [if_pos trivial, if_pos trivial, if_pos trivial, if_pos (by rfl), if_pos (by simp [T1]), f, if_neg (by simp)]
        exact ⟨_, q - 1, rfl, by omega, j + 1, by omega, by rw [w64_id (by omega) (by omega)]; rfl⟩
      · rw [if_neg (by omega : ¬ j = k)] at g
        rw [if_neg hjk, G, E]
        simp only [bindS, g]
        have f : fne (rd (T1 (fadd (fadd 0 (ofInt l[j])) (ofInt l[j]))).Data 0) (fmul 4611686018427387904 (ofInt (rd l (j : Int)))) = false := by
          rw [rd_nat l j hj]
          show fne (fadd (fadd 0 (ofInt l[j])) (ofInt l[j])) (fmul 4611686018427387904 (ofInt l[j])) = false
          rw [w2.fne w3]
          have : l[j] + l[j] = 2 * l[j] := by omega
          simp [this]
        rw [if_pos trivial, if_pos trivial, if_pos trivial, if_pos (by rfl), if_pos (by simp [T1]), f, if_neg (by simp)]
        exact ⟨_, q - 1, rfl, by omega, j + 1, by omega, by rw [w64_id (by omega) (by omega)]; rfl⟩
    · left
      have hz : j = l.length := by omega
      subst hz
      rw [if_neg (by omega)]
  rw [key, obind]
  rfl

end Go.Proofs.Ytolhkamfpfjodaa
