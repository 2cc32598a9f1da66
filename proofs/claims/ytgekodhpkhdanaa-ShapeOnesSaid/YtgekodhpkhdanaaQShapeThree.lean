/- The plain law of ShapeThree. -/
import Derived.Test.YtgekodhpkhdanaaQ1
import Derived.Test.YtgekodhpkhdanaaLShapeThree
namespace Go.Proofs.Ytgekodhpkhdanaa
open Go Go.RowKit
set_option linter.unusedSimpArgs false
set_option linter.unusedVariables false

theorem may_of_pos {o : List Int} (h : (size o).2 = 0) : may o = true := by unfold may; simp [h]

theorem spread_ok {a b : List Int} (h : (spread a b).2 = 0) : may a = true ∧ may b = true ∧ fits a b = true ∧ (spread a b).1 = outN (max a.length b.length) (mx a b) ∧ may (spread a b).1 = true := by
  unfold spread at h ⊢
  by_cases hc : may a = true ∧ may b = true ∧ fits a b = true
  · rw [if_pos hc] at h ⊢
    unfold sealOut at h ⊢
    by_cases hz : (size (outN (max a.length b.length) (mx a b))).2 = 0
    · rw [if_pos hz]
      exact ⟨hc.1, hc.2.1, hc.2.2, rfl, may_of_pos hz⟩
    · rw [if_neg hz] at h; exact absurd h hz
  · rw [if_neg hc] at h; simp at h

theorem nm_out (n : Nat) (f : Nat → Int) (k : Nat) : nm (outN n f) k = if k < n then f k else 1 := by
  unfold nm
  by_cases h : k < n
  · rw [dif_pos (by simpa using h), if_pos h, outN_get]
    congr 1
    simp; omega
  · rw [dif_neg (by simpa using h), if_neg h]

theorem nm_ge {s : List Int} (hp : ∀ x ∈ s, 1 ≤ x) (k : Nat) : 1 ≤ nm s k := by
  unfold nm
  split
  · exact hp _ (List.getElem_mem _)
  · omega

theorem nm_beyond {s : List Int} {k : Nat} (h : s.length ≤ k) : nm s k = 1 := by
  unfold nm; rw [dif_neg (by omega)]

theorem mx_beyond {a b : List Int} {k : Nat} (h : max a.length b.length ≤ k) : mx a b k = 1 := by
  unfold mx
  rw [nm_beyond (by omega), nm_beyond (by omega)]
  simp

theorem nm_spread (a b : List Int) (k : Nat) : nm (outN (max a.length b.length) (mx a b)) k = mx a b k := by
  rw [nm_out]
  split
  · rfl
  · rw [mx_beyond (by omega)]

theorem fitAt_iff {a b : List Int} {k : Nat} : fitAt a b k = true ↔ nm a k = nm b k ∨ nm a k = 1 ∨ nm b k = 1 := by simp [fitAt]

theorem fits_all {a b : List Int} (h : fits a b = true) (k : Nat) : fitAt a b k = true := by
  by_cases hk : k < max a.length b.length
  · exact fits_iff.1 h k hk
  · rw [fitAt_iff, nm_beyond (s := a) (by omega)]; simp

theorem out_ext {n m : Nat} {f g : Nat → Int} (hn : n = m) (h : ∀ k, f k = g k) : outN n f = outN m g := by
  subst hn
  rw [show f = g by funext k; exact h k]

theorem spread_mk {a b : List Int} (ha : may a = true) (hb : may b = true) (hf : fits a b = true) : spread a b = sealOut (outN (max a.length b.length) (mx a b)) := by
  unfold spread
  rw [if_pos ⟨ha, hb, hf⟩]

theorem sealOut_same (o : List Int) (h : may o = true) : sealOut o = (o, 0) := by
  unfold sealOut
  unfold may at h
  rw [if_pos (by simpa using h)]

/-- a shape that goes into another one is broadcast to it -/
theorem into_of {a x : List Int} (ha : may a = true) (hx : may x = true) (hl : a.length ≤ x.length) (h : ∀ k, nm a k = 1 ∨ nm a k = nm x k) : (spread a x).2 = 0 ∧ (spread a x).1 = x := by
  have hf : fits a x = true := fits_iff.2 fun k _ => by
    rw [fitAt_iff]; rcases h k with h | h <;> simp [h]
  have hpx := may_pos hx
  have ho : outN (max a.length x.length) (mx a x) = x := by
    apply List.ext_getElem
    · simp; omega
    · intro i h1 h2
      rw [outN_get]
      simp only [outN_length] at h1
      have hm : max a.length x.length = x.length := by omega
      rw [hm]
      have hk : nm x (x.length - 1 - i) = x[i] := by
        unfold nm
        rw [dif_pos (by omega)]
        congr 1
        omega
      have h3 := h (x.length - 1 - i)
      have h4 := nm_ge hpx (x.length - 1 - i)
      unfold mx
      rw [← hk]
      split <;> omega
  rw [spread_mk ha hx hf, ho, sealOut_same x hx]
  exact ⟨rfl, rfl⟩

theorem three (a b c : List Int) (h1 : (spread a b).2 = 0) (h2 : (spread b c).2 = 0) :
    spread (spread a b).1 c = spread a (spread b c).1 ∧ ((spread (spread a b).1 c).2 = 0 → ∀ z ∈ [a, b, c], (spread z (spread (spread a b).1 c).1).2 = 0 ∧ (spread z (spread (spread a b).1 c).1).1 = (spread (spread a b).1 c).1) := by
  obtain ⟨ma, mb, fab, eab, mab⟩ := spread_ok h1
  obtain ⟨_, mc, fbc, ebc, mbc⟩ := spread_ok h2
  have pa := may_pos ma
  have pb := may_pos mb
  have pc := may_pos mc
  have nab : ∀ k, nm (spread a b).1 k = mx a b k := fun k => by rw [eab, nm_spread]
  have nbc : ∀ k, nm (spread b c).1 k = mx b c k := fun k => by rw [ebc, nm_spread]
  have lab : (spread a b).1.length = max a.length b.length := by rw [eab]; simp
  have lbc : (spread b c).1.length = max b.length c.length := by rw [ebc]; simp
  have each : ∀ k, (fitAt (spread a b).1 c k = true ↔ fitAt a (spread b c).1 k = true) ∧ mx (spread a b).1 c k = mx a (spread b c).1 k := by
    intro k
    have f1 := fitAt_iff.1 (fits_all fab k)
    have f2 := fitAt_iff.1 (fits_all fbc k)
    have qa := nm_ge pa k
    have qb := nm_ge pb k
    have qc := nm_ge pc k
    rw [fitAt_iff, fitAt_iff, nab, nbc]
    unfold mx
    rw [nab, nbc]
    unfold mx
    constructor
    · split <;> split <;> omega
    · split <;> split <;> (try split) <;> (try split) <;> omega
  have hfe : fits (spread a b).1 c = fits a (spread b c).1 := by
    rw [Bool.eq_iff_iff]
    constructor
    · intro h; exact fits_iff.2 fun k _ => (each k).1.1 (fits_all h k)
    · intro h; exact fits_iff.2 fun k _ => (each k).1.2 (fits_all h k)
  have heq : spread (spread a b).1 c = spread a (spread b c).1 := by
    by_cases hf : fits (spread a b).1 c = true
    · rw [spread_mk mab mc hf, spread_mk ma mbc (hfe ▸ hf)]
      congr 1
      exact out_ext (by rw [lab, lbc]; omega) (fun k => (each k).2)
    · unfold spread
      rw [if_neg (fun h => hf h.2.2), if_neg (fun h => hf (by rw [hfe]; exact h.2.2))]
  refine ⟨heq, fun h z hz => ?_⟩
  obtain ⟨_, _, fx, ex, mxx⟩ := spread_ok h
  have nx : ∀ k, nm (spread (spread a b).1 c).1 k = mx (spread a b).1 c k := fun k => by rw [ex, nm_spread]
  have lx : (spread (spread a b).1 c).1.length = max (max a.length b.length) c.length := by rw [ex]; simp [lab]
  have val : ∀ k, (nm a k = 1 ∨ nm a k = nm (spread (spread a b).1 c).1 k) ∧ (nm b k = 1 ∨ nm b k = nm (spread (spread a b).1 c).1 k) ∧ (nm c k = 1 ∨ nm c k = nm (spread (spread a b).1 c).1 k) := by
    intro k
    have f1 := fitAt_iff.1 (fits_all fab k)
    have f3 := fitAt_iff.1 (fits_all fx k)
    have qa := nm_ge pa k
    have qb := nm_ge pb k
    have qc := nm_ge pc k
    rw [nx]
    rw [nab] at f3
    unfold mx at f3 ⊢
    rw [nab]
    unfold mx
    revert f3
    split <;> split <;> intro f3 <;> omega
  simp only [List.mem_cons, List.not_mem_nil, or_false] at hz
  rcases hz with rfl | rfl | rfl
  · exact into_of ma mxx (by rw [lx]; omega) (fun k => (val k).1)
  · exact into_of mb mxx (by rw [lx]; omega) (fun k => (val k).2.1)
  · exact into_of mc mxx (by rw [lx]; omega) (fun k => (val k).2.2)

theorem law1_ShapeThree.plain (a b c : List Int) : law1_ShapeThree.f a b c = some true := by
  unfold law1_ShapeThree.f
  rw [law1_awake_eq, obind, if_pos rfl]
  by_cases g1 : 40 < (a.length : Int)
  · rw [if_pos g1]
  rw [if_neg g1]
  by_cases g2 : 40 < (b.length : Int)
  · rw [if_pos g2]
  rw [if_neg g2]
  by_cases g3 : 40 < (c.length : Int)
  · rw [if_pos g3]
  rw [if_neg g3, shape_Spread_eq, obind, shape_Spread_eq, obind]
  by_cases h1 : (spread a b).2 = 0
  · rw [if_pos h1]
    by_cases h2 : (spread b c).2 = 0
    · rw [if_pos h2, shape_Spread_eq, obind, shape_Spread_eq, obind]
      obtain ⟨e, hi⟩ := three a b c h1 h2
      rw [← e]
      have hl := spread_len (spread a b).1 c
      by_cases h3 : (spread (spread a b).1 c).2 = 0
      · have i1 := hi h3 a (by simp)
        have i2 := hi h3 b (by simp)
        have i3 := hi h3 c (by simp)
        rw [if_pos h3, if_pos h3, shape_Same_eq _ _ (by omega), obind, if_pos (by simp), shape_Into_eq, obind, if_pos (decide_eq_true i1), shape_Into_eq, obind, if_pos (decide_eq_true i2), shape_Into_eq, obind, decide_eq_true i3]
      · rw [if_neg h3, if_neg h3, shape_Same_eq _ _ (by omega), obind, if_pos (by simp)]
    · rw [if_neg h2]
  · rw [if_neg h1]

end Go.Proofs.Ytgekodhpkhdanaa
