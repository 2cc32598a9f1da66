/- The engine, part 10: copy; functions that call themselves; bits of numbers. -/
import Derived.Test.YtkdhahdfkonilaaDoorE8
import Derived.Laws.CopyRow
import Derived.Laws.IdiomCopy
import Derived.IntWalk
import Derived.Laws.Entries
namespace Go.Proofs.YtkdhahdfkonilaaDoor
open Go Go.RowKit
set_option linter.unusedSimpArgs false
set_option linter.unusedVariables false
set_option linter.unnecessarySimpa false

/-! ### copy -/
section
variable {P : Program} {Q : Exit → Act → World → Prop} {a : Act} {w : World} {n : Nat} {e : Env} {o : Oper} {K : Act → World → Prop}

def copyO (P : Program) (e : Env) (o : Oper) : Option (Option Addr × Nat × Nat × Option Addr × Nat × Nat × Tmp) :=
  match o.op, o.dst with
  | .call c, some d => match c.callee, c.args.toList, c.argTypes.toList with
    | .builtin .copy, [x, y], [t, _] => match P.underlying t, ev e x, ev e y with
      | some (.slice E), some (.slice A k c), some (.slice B m c2) => match P.info? E with
        | some i => bif Nat.beq i.size 1 then some (A, k, c, B, m, c2, d) else none
        | none => none
      | _, _, _ => none
    | _, _, _ => none
  | _, _ => none

/-- the first cells behind B are those of ys -/
def Src {α : Type} (kd : Kd α) (S : Nat → Prop) (w : World) (B : Option Addr) (ys : List α) : Prop :=
  ys = [] ∨ ∃ b, B = some b ∧ ∀ j (h : j < ys.length), ∃ v, kd.rep S w [v] ys[j] ∧ w.cell? (b.add j) = some v

def cpy {α : Type} (xs : List α) (lo : Nat) (ys : List α) : List α := xs.take lo ++ ys ++ xs.drop (lo + ys.length)

theorem cpy_length {α : Type} {xs : List α} {lo : Nat} {ys : List α} (h : lo + ys.length ≤ xs.length) : (cpy xs lo ys).length = xs.length := by
  simp [cpy]; omega

theorem all_choice' {β : Type} {n : Nat} {Q : Nat → β → Prop} (h : ∀ i, i < n → ∃ x, Q i x) : ∃ xs : List β, xs.length = n ∧ ∀ i (hi : i < xs.length), Q i xs[i] := by
  induction n with
  | zero => exact ⟨[], rfl, fun i hi => absurd hi (by simp)⟩
  | succ n ih =>
    obtain ⟨xs, hl, hx⟩ := ih (fun i hi => h i (by omega))
    obtain ⟨x, hq⟩ := h n (by omega)
    refine ⟨xs ++ [x], by simp [hl], fun i hi => ?_⟩
    by_cases hlt : i < xs.length
    · rw [List.getElem_append_left hlt]; exact hx i hlt
    · have : i = n := by simp at hi; omega
      subst this
      rw [List.getElem_append_right (by omega)]
      simpa [hl] using hq

theorem Els.splice1 {α : Type} {kd : Kd α} (hn : kd.n = 1) {S : Nat → Prop} {w : World} {cs us : List Value} {xs ys : List α} (h : Els kd S w cs xs) (hl : us.length = ys.length) (hy : ∀ j (h1 : j < us.length) (h2 : j < ys.length), kd.rep S w [us[j]] ys[j]) (lo : Nat) (hlo : lo + ys.length ≤ xs.length) :
    Els kd S w (cs.take lo ++ us ++ cs.drop (lo + us.length)) (cpy xs lo ys) := by
  have hcl := h.1
  rw [hn, Nat.mul_one] at hcl
  refine ⟨by rw [cpy_length hlo]; simp [hn]; omega, fun i hi => ?_⟩
  rw [cpy_length hlo] at hi
  by_cases h1 : i < lo
  · obtain ⟨vs, k1, k2⟩ := h.2 i hi
    refine ⟨vs, ?_, fun j u hu => ?_⟩
    · have : (cpy xs lo ys)[i]'(by rw [cpy_length hlo]; exact hi) = xs[i] := by
        simp only [cpy]
        rw [List.getElem_append_left (by simp; omega), List.getElem_append_left (by simp; omega), List.getElem_take]
      rw [this]; exact k1
    · have hj : j = 0 := by have := (List.getElem?_eq_some_iff.1 hu).1; have := kd.len k1; omega
      subst hj
      have := k2 0 u hu
      rw [hn] at this ⊢
      rw [List.getElem?_append_left (by simp; omega), List.getElem?_append_left (by simp; omega), List.getElem?_take, if_pos (by omega)]
      exact this
  · by_cases h2 : i < lo + ys.length
    · have e1 : (cpy xs lo ys)[i]'(by rw [cpy_length hlo]; exact hi) = ys[i - lo]'(by omega) := by
        simp only [cpy]
        rw [List.getElem_append_left (by simp; omega), List.getElem_append_right (by simp; omega)]
        congr 1; simp; omega
      refine ⟨[us[i - lo]'(by omega)], by rw [e1]; exact hy _ _ _, fun j u hu => ?_⟩
      have hj : j = 0 := by have := (List.getElem?_eq_some_iff.1 hu).1; simpa using this
      subst hj
      simp only [List.getElem?_cons_zero, Option.some.injEq] at hu
      subst hu
      rw [hn]
      rw [List.getElem?_append_left (by simp; omega), List.getElem?_append_right (by simp; omega)]
      rw [List.getElem?_eq_getElem (by simp; omega)]
      congr 1
      congr 1
      simp; omega
    · obtain ⟨vs, k1, k2⟩ := h.2 i hi
      have e1 : (cpy xs lo ys)[i]'(by rw [cpy_length hlo]; exact hi) = xs[i] := by
        simp only [cpy]
        rw [List.getElem_append_right (by simp; omega), List.getElem_drop]
        congr 1; simp; omega
      refine ⟨vs, by rw [e1]; exact k1, fun j u hu => ?_⟩
      have hj : j = 0 := by have := (List.getElem?_eq_some_iff.1 hu).1; have := kd.len k1; omega
      subst hj
      have := k2 0 u hu
      rw [hn] at this ⊢
      rw [List.getElem?_append_right (by simp; omega), List.getElem?_drop]
      rw [← this]
      congr 1
      simp; omega

theorem aCopy {α : Type} {kd : Kd α} {M : List (Option Nat)} {base : Nat} {E : TypeId} {A B D : Option Addr} {c lo dn dc sn sc : Nat} {xs ys : List α} {d : Tmp} (hf : Fr n a e)
    (hc : copyO P e o = some (D, dn, dc, B, sn, sc, d)) (hD : D = sub A c lo 1 ∨ (lo = 0 ∧ D = A)) (hd : Nat.blt d n = true) (hkd : kd.n = 1)
    (hown : Ow kd (U (bk A :: M)) base E w A c xs) (hlo : lo + dn ≤ xs.length) (hsrc : Src kd (U (bk A :: M)) w B ys) (hl : ys.length = Nat.min sn dn)
    (hk : ∀ w' a', Ow kd (U (bk A :: M)) base E w' A c (cpy xs lo ys) → w.grownBy w' (bk A) → Fr n a' ((d, .int .i64 (ys.length : Int)) :: e) → K a' w') : o.wp P a w K Q := by
  obtain ⟨dst, op, ty, pos, after, guard⟩ := o
  have hlt := Nat.le_of_ble_eq_true hd
  unfold copyO at hc
  split at hc
  · rename_i cl d' hop hdst
    simp only at hop hdst
    obtain ⟨callee, args, ts⟩ := cl
    obtain ⟨args⟩ := args
    obtain ⟨ts⟩ := ts
    subst hop hdst
    simp only at hc
    split at hc
    · rename_i x y t u
      split at hc
      · rename_i E' A1 k1 c1 B1 m1 c3 hu hx hy
        split at hc
        · rename_i i hi
          cases hb2 : Nat.beq i.size 1
          · rw [hb2] at hc; cases hc
          · rw [hb2] at hc; simp only [cond_true, Option.some.injEq, Prod.mk.injEq] at hc
            obtain ⟨rfl, rfl, rfl, rfl, rfl, rfl, rfl⟩ := hc
            have hsz : (P.info? E').map (·.size) = some 1 := by rw [hi]; simpa using Nat.eq_of_beq_eq_true hb2
            have hle : ys.length ≤ k1 := by rw [hl]; exact Nat.min_le_right _ _
            by_cases hz : ys.length = 0
            · have hz' : ys = [] := List.length_eq_zero_iff.1 hz
              subst hz'
              have hr := run_copy_none (P := P) w t u ty E' A1 B1 k1 c1 m1 c3 hu hsz (by rw [← hl]; rfl)
              have e1 : cpy xs lo ([] : List α) = xs := by simp [cpy]
              refine wp_val (v := .int .i64 0) (w' := w) ?_ (hk _ _ (by rw [e1]; exact hown) (World.grownBy.refl _ _) (hf.put hlt))
              simp [execOp, resolve, invoke, builtin, ev_sound hf hx, ev_sound hf hy, hr, goInt, Result.andThen]
            · obtain ⟨cs, h2, h3⟩ := hown
              rcases hsrc with h0 | ⟨b, rfl, hs⟩
              · rw [h0] at hz; exact absurd rfl hz
              obtain ⟨us, hul, hus⟩ := all_choice' (n := ys.length) (Q := fun j v => ∀ h : j < ys.length, kd.rep (U (bk A :: M)) w [v] ys[j] ∧ w.cell? (b.add j) = some v)
                (fun j hj => let ⟨v, h⟩ := hs j hj; ⟨v, fun _ => h⟩)
              rcases h2.2 with ⟨hv, hnn⟩ | ⟨g, cap, cur, hv, hbg, hg, hnc, hcm, hcs, htake⟩
              · omega
              · simp only [Value.slice.injEq] at hv
                obtain ⟨rfl, _, rfl⟩ := hv
                have hone : ∀ v ∈ us, v.oneCell' = true := by
                  intro v hv
                  obtain ⟨j, hj, rfl⟩ := List.mem_iff_getElem.1 hv
                  exact kd.one (hus j hj (by omega)).1 _ (by simp)
                have hlc : lo ≠ c := by omega
                have es : A1 = some ⟨g, lo, none⟩ := by
                  rcases hD with rfl | ⟨rfl, rfl⟩
                  · unfold Proofs.YtkdhahdfkonilaaDoor.sub
                    rw [if_neg (fun h => hlc h.symm)]
                    simp only [Option.map_some]
                    rw [Addr.add_lit]; simp
                  · rfl
                rw [hkd, Nat.mul_one] at hcs
                have hr := run_copy_row (P := P) w t u ty E' g lo k1 c1 b m1 c3 cur E us hu hsz hg (by rw [hul, hl])
                  (fun j v hj => by
                    have hj' := (List.getElem?_eq_some_iff.1 hj).1
                    have := (hus j hj' (by omega)).2
                    rw [this, ← hj, List.getElem?_eq_getElem hj']) (by omega) hone
                have hgr : w.grownBy (w.setRow g (cur.toList.take lo ++ us ++ cur.toList.drop (lo + us.length)).toArray) (some g) :=
                  ⟨rfl, rfl, rfl, by simp, fun k _ hk => setRow_other w g k _ (fun e => hk (by simp [e]))⟩
                have hels := h3.splice1 hkd hul (fun j k1 k2 => (hus j k1 k2).1) lo (by omega)
                refine wp_val (v := .int .i64 (ys.length : Int)) ?_ (hk _ _ ⟨_, ?_, hels.move (Tr.own hgr (by exact List.mem_cons_self)).m hgr.size⟩ hgr (hf.put hlt))
                · simp [execOp, resolve, invoke, builtin, ev_sound hf hx, ev_sound hf hy, es, hr, goInt, Result.andThen, hul]
                · have hcl := cpy_length (xs := xs) (lo := lo) (ys := ys) (by omega)
                  rw [hcl]
                  refine ⟨?_, .inr ⟨g, c, _, rfl, hbg, setRow_heap w g cur _ E _ hg, hnc, hcm, ?_, ?_⟩⟩
                  · have := hels.1; rw [hcl] at this; exact this
                  · simp only [List.size_toArray, List.length_append, List.length_take, List.length_drop, Array.length_toList, hkd, Nat.mul_one]
                    omega
                  · rw [← htake]
                    simp only [hkd, Nat.mul_one]
                    have ha : (cur.toList.take lo).length = lo := by rw [List.length_take, Array.length_toList]; omega
                    rw [List.append_assoc, List.take_append, ha, List.take_append, List.take_of_length_le (by rw [ha]; omega), List.take_of_length_le (l := us) (by omega), List.take_take, List.drop_take, List.append_assoc]
                    congr 2
                    · rw [Nat.min_eq_left (by omega)]
                    · congr 1; omega
        · cases hc
      · cases hc
    · cases hc
  · cases hc
end

theorem Src.sl {α : Type} {kd : Kd α} (hn : kd.n = 1) {S : Nat → Prop} {w : World} {B : Option Addr} {zs : List α} (h : Sl kd S w B zs) (m : Nat) : Src kd S w B (zs.take m) := by
  rcases h with rfl | ⟨b, o, rfl, hb, hlt, hel⟩
  · left; simp
  · refine .inr ⟨_, rfl, fun j hj => ?_⟩
    have hj' : j < zs.length := by simp at hj; omega
    obtain ⟨us, h1, h2⟩ := hel j hj'
    have hl := kd.len h1
    obtain ⟨v, rfl⟩ : ∃ v, us = [v] := List.length_eq_one_iff.1 (by omega)
    refine ⟨v, by rw [List.getElem_take]; exact h1, ?_⟩
    have := h2 0 v rfl
    rw [Addr.add_lit]
    simpa [hn] using this

theorem Src.ow {α : Type} {kd : Kd α} (hn : kd.n = 1) {S : Nat → Prop} {base : Nat} {E : TypeId} {w : World} {A : Option Addr} {c : Nat} {xs : List α} (h : Ow kd S base E w A c xs) (m : Nat) : Src kd S w A (xs.take m) := by
  obtain ⟨cs, h2, h3⟩ := h
  rcases h2.2 with ⟨hv, hnn⟩ | ⟨g, cap, cur, hv, hbg, hg, hnc, hcm, hcs, htake⟩
  · left
    have : xs = [] := List.length_eq_zero_iff.1 hnn
    simp [this]
  · simp only [Value.slice.injEq] at hv
    obtain ⟨rfl, _, rfl⟩ := hv
    refine .inr ⟨_, rfl, fun j hj => ?_⟩
    have hj' : j < xs.length := by simp at hj; omega
    obtain ⟨us, k1, k2⟩ := h3.2 j hj'
    have hl := kd.len k1
    obtain ⟨v, rfl⟩ : ∃ v, us = [v] := List.length_eq_one_iff.1 (by omega)
    refine ⟨v, by rw [List.getElem_take]; exact k1, ?_⟩
    have h4 := k2 0 v rfl
    rw [hn, Nat.mul_one, Nat.add_zero, ← htake, List.getElem?_take] at h4
    rw [Addr.add_lit]
    unfold World.cell?
    simp only [Nat.zero_add]
    rw [hg]
    split at h4
    · simpa using h4
    · cases h4

theorem Src.sub0 {α : Type} {kd : Kd α} {S : Nat → Prop} {w : World} {B : Option Addr} {ys : List α} (h : Src kd S w B ys) (c k : Nat) : Src kd S w (sub B c 0 k) ys := by
  rcases h with h | ⟨b, rfl, h⟩
  · exact .inl h
  · refine .inr ⟨b, ?_, h⟩
    unfold Proofs.YtkdhahdfkonilaaDoor.sub
    split
    · rfl
    · simp only [Option.map_some, Nat.zero_mul]; rfl

theorem Mem.cpOw {B M : List (Option Nat)} {w0 w : World} {fs : List Fact} {α : Type} {kd : Kd α} {E : TypeId} {A : Option Addr} {c : Nat} {xs : List α} (h : Mem B M w0 fs w) (i : Nat) (hi : fs[i]? = some (.ow kd E A c xs)) : Cp A xs.length c := by
  obtain ⟨cs, h2, _⟩ := h.at i hi
  rcases h2.2 with ⟨hv, hnn⟩ | ⟨g, cap, cur, hv, hbg, hg, hnc, hcm, hcs, htake⟩
  · simp only [Value.slice.injEq] at hv
    obtain ⟨rfl, h1, rfl⟩ := hv
    exact ⟨by omega, fun _ => rfl⟩
  · simp only [Value.slice.injEq] at hv
    obtain ⟨rfl, _, rfl⟩ := hv
    exact ⟨hnc, fun h => by cases h⟩

/-! ### functions that call themselves -/
open Classical in
noncomputable def recOf {ρ : Type} (F : Nat → Option ρ) : Option ρ := if h : ∃ r k, F k = some r then some (Classical.choose h) else none

theorem recOf_some {ρ : Type} {F : Nat → Option ρ} {r : ρ} (h : recOf F = some r) : ∃ k, F k = some r := by
  unfold recOf at h
  split at h
  · rename_i hx
    simp only [Option.some.injEq] at h
    subst h
    exact Classical.choose_spec hx
  · cases h

theorem recOf_eq {ρ : Type} {F : Nat → Option ρ} {r : ρ} (k : Nat) (hk : F k = some r) (h : ∀ k r', F k = some r' → r' = r) : recOf F = some r := by
  have hx : ∃ r k, F k = some r := ⟨r, k, hk⟩
  unfold recOf
  rw [dif_pos hx]
  obtain ⟨k', hk'⟩ := Classical.choose_spec hx
  rw [h k' _ hk']

theorem Sl.none {α : Type} {kd : Kd α} {S : Nat → Prop} {w : World} {xs : List α} (h : Sl kd S w none xs) : xs = [] := by
  rcases h with h | ⟨b, o, hA, _⟩
  · exact h
  · cases hA

/-! ### bits of numbers -/
section
variable {P : Program} {Q : Exit → Act → World → Prop} {a : Act} {w : World} {n : Nat} {e : Env} {o : Oper} {K : Act → World → Prop}

def binO (e : Env) (o : Oper) : Option (BinOp × TypeId × Value × Value × Tmp) :=
  match o.op, o.dst with
  | .binOp op t x y _, some d => match ev e x, ev e y with
    | some u, some v => some (op, t, u, v, d)
    | _, _ => none
  | _, _ => none

theorem aBin {op : BinOp} {t : TypeId} {u v : Value} {d : Tmp} (r : Value) (hf : Fr n a e) (hc : binO e o = some (op, t, u, v, d)) (hd : Nat.blt d n = true)
    (hg : ∀ x y, (eqGuard op t x y u v).run P w = .ok () w) (hr : (binOp op t u v).run P w = .ok r w) (hk : ∀ a', Fr n a' ((d, r) :: e) → K a' w) : o.wp P a w K Q := by
  obtain ⟨dst, op', ty, pos, after, guard⟩ := o
  have hlt := Nat.le_of_ble_eq_true hd
  unfold binO at hc
  split at hc
  · rename_i op1 t1 x y q d' hop hdst
    simp only at hop hdst
    subst hop hdst
    split at hc
    · rename_i u' v' hx hy
      simp only [Option.some.injEq, Prod.mk.injEq] at hc
      obtain ⟨rfl, rfl, rfl, rfl, rfl⟩ := hc
      refine wp_val (v := r) (w' := w) ?_ (hk _ (hf.put hlt))
      simp [execOp, ev_sound hf hx, ev_sound hf hy, hg, hr]
    · cases hc
  · cases hc
end

theorem run_andNot_sign {P : Program} {w : World} {t : TypeId} {b : Nat} (h : b < 2 ^ 64) : (binOp .andNot t (.int .u64 (b : Int)) (.int .u64 9223372036854775808)).run P w = .ok (.int .u64 ((b % 2 ^ 63 : Nat) : Int)) w := by
  have h1 : (BitVec.ofInt 64 (b : Int) &&& ~~~(BitVec.ofInt 64 9223372036854775808)).toNat = b % 2 ^ 63 := by
    rw [BitVec.toNat_and, show (~~~(BitVec.ofInt 64 9223372036854775808)).toNat = 2 ^ 63 - 1 by decide +kernel, Nat.and_two_pow_sub_one_eq_mod]
    rw [show BitVec.ofInt 64 (b : Int) = BitVec.ofNat 64 b from rfl, BitVec.toNat_ofNat, Nat.mod_eq_of_lt h]
  have h2 : IntKind.u64.wrap ((b % 2 ^ 63 : Nat) : Int) = ((b % 2 ^ 63 : Nat) : Int) := IntWalk.u64_in _ ⟨by omega, by have := Nat.mod_lt b (show 0 < 2 ^ 63 by decide); omega⟩
  have h3 : binOp .andNot t (.int .u64 (b : Int)) (.int .u64 9223372036854775808) = pure (.int .u64 (IntKind.u64.wrap ((BitVec.ofInt 64 (b : Int) &&& ~~~(BitVec.ofInt 64 9223372036854775808)).toNat : Int))) := by
    simp only [binOp, Op.intBits]
    rfl
  rw [h3, h1, h2]
  rfl

/-- |x| -/
def fabs (x : Nat) : Nat := x % 2 ^ 63

theorem nan_iff {b : Nat} (h : b < 2 ^ 64) : isNaN b = true ↔ dbl.infRung < b % 2 ^ 63 := by
  constructor
  · exact lt64_isNaN
  · intro hb
    unfold isNaN Ieee.Format.read
    have h1 : ¬ (b % 2 ^ 63 < dbl.infRung) := by omega
    have h2 : ¬ (b % 2 ^ 63 = dbl.infRung) := by omega
    have h3 : ¬ (b % 2 ^ 63 < dbl.binade) := by
      have h4 : dbl.binade ≤ dbl.infRung := by decide +kernel
      omega
    simp only [show dbl.signWeight = 2 ^ 63 from rfl]
    rw [if_neg h3, if_neg h1, if_neg h2]
    rfl

theorem FR.abs {b x : Nat} (h : FR b x) : FR (b % 2 ^ 63) (fabs x) := by
  obtain ⟨h1, rfl⟩ := h
  have hlt : b % 2 ^ 63 < 2 ^ 64 := by have := Nat.mod_lt b (show 0 < 2 ^ 63 by decide); omega
  refine ⟨hlt, ?_⟩
  unfold fabs
  rcases canon_cases b with ⟨hn, e⟩ | ⟨hn, e, _⟩
  · rw [e]
    have : isNaN (b % 2 ^ 63) = false := by
      cases h2 : isNaN (b % 2 ^ 63)
      · rfl
      · rw [nan_iff hlt, Nat.mod_mod] at h2
        rw [(nan_iff h1).2 h2] at hn; cases hn
    unfold canon; rw [this]; rfl
  · rw [e]
    have : isNaN (b % 2 ^ 63) = true := by
      rw [nan_iff hlt, Nat.mod_mod]; exact (nan_iff h1).1 hn
    unfold canon; rw [this]; rfl

theorem order_nan {x y : Nat} (h : isNaN x = true) : dbl.order x y = none := by
  obtain ⟨s, t, e⟩ := isNaN_read h
  simp [Ieee.Format.order, ord_nan_left e]

theorem order_self {x : Nat} (h : isNaN x = false) : dbl.order x x = some .eq := by
  unfold isNaN at h
  unfold Ieee.Format.order
  cases hr : dbl.read x with
  | number s m i => simp [Ieee.Datum.order, Int.compare_eq_eq]
  | infinity s => simp [Ieee.Datum.order, Nat.compare_eq_eq]
  | nan s t => rw [hr] at h; cases h

theorem fne_self {x : Nat} (h : fne x x = true) : isNaN x = true := by
  cases hn : isNaN x
  · unfold fne ford at h
    rw [order_self hn] at h
    cases h
  · rfl

theorem FR.bits {b x : Nat} (h : FR b x) (hx : fne x x = false) : b = x := by
  obtain ⟨h1, rfl⟩ := h
  rcases canon_cases b with ⟨hn, e⟩ | ⟨hn, e, hn2⟩
  · exact e.symm
  · exfalso
    unfold fne ford at hx
    rw [order_nan hn2] at hx
    cases hx

theorem run_bits {P : Program} {w : World} (b : Nat) : (Extern.MathFloatBits.float64bits #[.float .f64 b]).run P w = .ok (.int .u64 (b : Int)) w := rfl
theorem run_frombits {P : Program} {w : World} (b : Nat) : (Extern.MathFloatBits.float64frombits #[.int .u64 (b : Int)]).run P w = .ok (.float .f64 b) w := rfl

end Go.Proofs.YtkdhahdfkonilaaDoor
