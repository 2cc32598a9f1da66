/- The engine, part 5: make, append, stores. -/
import Derived.Test.YtkdhahdfkonilaaDoorE4
namespace Go.Proofs.YtkdhahdfkonilaaDoor
open Go Go.RowKit
set_option linter.unusedSimpArgs false
set_option linter.unusedVariables false
set_option linter.unnecessarySimpa false

theorem Els.made {α : Type} {kd : Kd α} {S : Nat → Prop} {w : World} {z : Array Value} {x : α} (h : kd.rep S w z.toList x) (m : Nat) : Els kd S w (madeCells z (m * kd.n)).toList (List.replicate m x) := by
  have hl := kd.len h
  refine ⟨by simp [size_madeCells], fun i hi => ⟨z.toList, by simpa using h, fun j u hu => ?_⟩⟩
  have hj : j < kd.n := by rw [← hl]; exact (List.getElem?_eq_some_iff.1 hu).1
  have hi' : i < m := by simpa using hi
  have hlt : i * kd.n + j < m * kd.n := by
    have : (i + 1) * kd.n ≤ m * kd.n := Nat.mul_le_mul_right _ hi'
    rw [Nat.add_mul] at this
    omega
  have hz : z.size = kd.n := by simpa using hl
  have hmod : (i * kd.n + j) % z.size = j := by
    rw [hz, Nat.add_comm, Nat.add_mul_mod_self_right]
    exact Nat.mod_eq_of_lt hj
  have hju : z[j]? = some u := by simpa using hu
  have h3 : z[j]! = u := by rw [getElem!_def, hju]
  simp [madeCells, hlt, hmod, h3]

theorem ownBlock_slice (A : Option Addr) (n c : Nat) : (Value.slice A n c).ownBlock = bk A := by cases A <;> rfl

theorem Ow.nil {α : Type} {kd : Kd α} {S : Nat → Prop} {base : Nat} {E : TypeId} {w : World} : Ow kd S base E w none 0 ([] : List α) :=
  ⟨[], World.ownsRow_nil _ _ _ _, Els.nil⟩

section
variable {P : Program} {Q : Exit → Act → World → Prop} {a : Act} {w : World} {n : Nat} {e : Env} {o : Oper} {K : Act → World → Prop}

/-! ### make -/
def makeO (P : Program) (e : Env) (o : Oper) : Option (TypeId × Int × Int × List Value × Nat × Tmp) :=
  match o.op, o.dst with
  | .makeSlice t l c, some d => match P.underlying t, ev e l, ev e c with
    | some (.slice E), some (.int _ L), some (.int _ C) => match P.info? E with
      | some i => match i.zero with
        | some z => bif Nat.beq i.size z.cells.size then bif Nat.ble i.bytes 200 then some (E, L, C, z.cells.toList, i.size, d) else none else none
        | none => none
      | none => none
    | _, _, _ => none
  | _, _ => none

theorem aMake {α : Type} {kd : Kd α} {x : α} {E : TypeId} {L : Int} {z : List Value} {sz : Nat} {d : Tmp} (hf : Fr n a e) (hc : makeO P e o = some (E, L, L, z, sz, d)) (hd : Nat.blt d n = true)
    (hkd : kd.n = sz) (hz : ∀ S w, kd.rep S w z x) (h0 : 0 ≤ L) (h1 : L ≤ 1099511627776)
    (hk : ∀ A c w' a', (∀ S, Ow kd S w.heap.size E w' A c (List.replicate L.toNat x)) → bk A = some w.heap.size → w.grownBy w' none →
      Fr n a' ((d, .slice A (List.replicate L.toNat x).length c) :: e) → K a' w') : o.wp P a w K Q := by
  obtain ⟨dst, op, ty, pos, after, guard⟩ := o
  have hlt := Nat.le_of_ble_eq_true hd
  unfold makeO at hc
  split at hc
  · rename_i t l c d' hop hdst
    simp only at hop hdst
    subst hop hdst
    split at hc
    · rename_i E' k1 L' k2 C' hu hl hcap
      split at hc
      · rename_i i hi
        split at hc
        · rename_i z' hz'
          cases hb1 : Nat.beq i.size z'.cells.size
          · rw [hb1] at hc; cases hc
          · rw [hb1] at hc; simp only [cond_true] at hc
            cases hb2 : Nat.ble i.bytes 200
            · rw [hb2] at hc; cases hc
            · rw [hb2] at hc; simp only [cond_true, Option.some.injEq, Prod.mk.injEq] at hc
              obtain ⟨rfl, rfl, hCL, rfl, hs, rfl⟩ := hc
              have hsz := Nat.eq_of_beq_eq_true hb1
              have hby := Nat.le_of_ble_eq_true hb2
              obtain ⟨m, rfl⟩ := Int.eq_ofNat_of_zero_le h0
              subst hCL
              have hbytes : i.bytes * m ≤ 281474976710656 := by
                have : i.bytes * m ≤ 200 * 1099511627776 := Nat.mul_le_mul hby (by omega)
                omega
              obtain ⟨w', hrun, hown, hg⟩ := run_make_full (P := P) w w.heap.size t E' i z' kd.n hu hi hz' (by omega) k1 k2 m hbytes (by unfold maxLen; omega) (Nat.le_refl _)
              have hels : ∀ S, Els kd S w' (madeCells z'.cells (m * kd.n)).toList (List.replicate m x) := fun S => Els.made (hz S w') m
              refine wp_val (v := .slice (some ⟨w.heap.size, 0, none⟩) m m) (w' := w') ?_ (hk (some ⟨w.heap.size, 0, none⟩) m w' _ (fun S => ⟨_, ?_, by simpa using hels S⟩) rfl hg ?_)
              · simp [execOp, ev_sound hf hl, ev_sound hf hcap, hrun]
              · simpa using hown
              · have := hf.put (v := .slice (some ⟨w.heap.size, 0, none⟩) m m) hlt
                simpa using this
        · cases hc
      · cases hc
    · cases hc
  · cases hc

/-! ### append -/
theorem Sl.cells {α : Type} {kd : Kd α} {S : Nat → Prop} {w : World} {B : Option Addr} {ys : List α} (h : Sl kd S w B ys) :
    ∃ cs, Els kd S w cs ys ∧ (ys = [] ∨ ∃ ad, B = some ad) ∧ ∀ ad, B = some ad → ∀ j u, cs[j]? = some u → w.cell? (ad.add j) = some u := by
  by_cases hy : ys = []
  · subst hy; exact ⟨[], Els.nil, .inl rfl, fun ad _ j u hu => by simp at hu⟩
  rcases h with h | ⟨b, o, rfl, hS, hb, he⟩
  · exact absurd h hy
  · have key : ∀ m, m ≤ ys.length → ∃ cs, Els kd S w cs (ys.take m) ∧ ∀ j u, cs[j]? = some u → w.cell? ⟨b, o + j, none⟩ = some u := by
      intro m
      induction m with
      | zero => intro _; exact ⟨[], by simpa using Els.nil, fun j u hu => by simp at hu⟩
      | succ m ih =>
        intro hm
        obtain ⟨cs, h1, h2⟩ := ih (by omega)
        obtain ⟨us, h3, h4⟩ := he m hm
        refine ⟨cs ++ us, ?_, fun j u hu => ?_⟩
        · rw [List.take_succ_eq_append_getElem hm]; exact h1.append (Els.one h3)
        · have hl := h1.1
          simp only [List.length_take, Nat.min_eq_left (Nat.le_of_lt hm)] at hl
          by_cases hj : j < cs.length
          · rw [List.getElem?_append_left hj] at hu; exact h2 j u hu
          · rw [List.getElem?_append_right (by omega)] at hu
            have := h4 _ u hu
            rw [← this]; congr 2; omega
    obtain ⟨cs, h1, h2⟩ := key ys.length (Nat.le_refl _)
    rw [List.take_of_length_le (Nat.le_refl _)] at h1
    refine ⟨cs, h1, .inr ⟨_, rfl⟩, ?_⟩
    rintro ad rfl' j u hu
    simp only [Option.some.injEq] at rfl'
    subst rfl'
    rw [Addr.add_lit]; exact h2 j u hu

theorem Els.oneCell {α : Type} {kd : Kd α} (hn : 0 < kd.n) {S : Nat → Prop} {w : World} {cs : List Value} {xs : List α} (h : Els kd S w cs xs) : ∀ u ∈ cs, u.oneCell' = true := by
  intro u hu
  obtain ⟨k, hk⟩ := List.getElem?_of_mem hu
  have hlt : k < cs.length := (List.getElem?_eq_some_iff.1 hk).1
  rw [h.1] at hlt
  have hi : k / kd.n < xs.length := (Nat.div_lt_iff_lt_mul hn).2 hlt
  obtain ⟨us, h1, h2⟩ := h.2 _ hi
  have hl := kd.len h1
  have hj : k % kd.n < us.length := by rw [hl]; exact Nat.mod_lt _ hn
  have h3 := h2 (k % kd.n) us[k % kd.n] (by simp [hj])
  rw [Nat.mul_comm, Nat.div_add_mod, hk] at h3
  have h4 : u = us[k % kd.n] := by simpa using h3
  rw [h4]
  exact kd.one h1 _ (List.getElem_mem hj)

theorem run_app {α : Type} {kd : Kd α} (hn : 0 < kd.n) {M : List (Option Nat)} {base : Nat} {E t ty : TypeId} {i : TypeInfo} {z : Value} {A B : Option Addr} {c c2 : Nat} {xs ys : List α}
    (hown : Ow kd (U (bk A :: M)) base E w A c xs) (hsrc : Sl kd (U (bk A :: M)) w B ys) (hcp : Cp B ys.length c2) (hb : base ≤ w.heap.size)
    (ht : P.underlying t = some (.slice E)) (hi : P.info? E = some i) (hz : i.zero = some z) (hs : i.size = kd.n) (hzs : z.cells.size = kd.n) (hbytes : (xs.length + ys.length) * i.bytes ≤ 140737488355328) (hlen : xs.length + ys.length ≤ maxLen) :
    ∃ A' c' w', (Builtin.append_ #[t, t] ty #[.slice A xs.length c, .slice B ys.length c2]).run P w = .ok (.slice A' (xs ++ ys).length c') w' ∧
      Ow kd (U (bk A' :: M)) base E w' A' c' (xs ++ ys) ∧ w.grownBy w' (bk A) ∧ (bk A' = bk A ∨ bk A' = some w.heap.size) := by
  obtain ⟨cs, h1, h2⟩ := hown
  obtain ⟨ds, k1, k2, k3⟩ := hsrc.cells
  have hne : ∀ (A' : Option Addr) (w' : World), w.grownBy w' (bk A) → (bk A' = bk A ∨ bk A' = some w.heap.size) → Els kd (U (bk A' :: M)) w' (cs ++ ds) (xs ++ ys) := by
    intro A' w' hg hA'
    refine (h2.append k1).move (S' := U (bk A' :: M)) (fun k hk hlt => ⟨fun hc => ?_, hg.block k hlt (fun hc => hk (by rw [hc]; exact List.mem_cons_self))⟩) hg.size
    rcases List.mem_cons.1 hc with hc | hc
    · rcases hA' with h | h
      · exact hk (by rw [hc, h]; exact List.mem_cons_self)
      · rw [h] at hc; simp at hc; omega
    · exact hk (List.mem_cons_of_mem _ hc)
  have hempty : ys = [] → B = none → ∃ A' c' w', (Builtin.append_ #[t, t] ty #[.slice A xs.length c, .slice B ys.length c2]).run P w = .ok (.slice A' (xs ++ ys).length c') w' ∧
      Ow kd (U (bk A' :: M)) base E w' A' c' (xs ++ ys) ∧ w.grownBy w' (bk A) ∧ (bk A' = bk A ∨ bk A' = some w.heap.size) := by
    rintro rfl rfl
    have hc2 : c2 = 0 := hcp.2 rfl
    subst hc2
    have hr := run_append_owned_none (P := P) w base t ty E i kd.n ht hi _ _ cs h1
    refine ⟨A, c, w, by simpa using hr, ?_, World.grownBy.refl _ _, .inl rfl⟩
    rw [List.append_nil]
    exact ⟨cs, h1, h2⟩
  rcases k2 with hy | ⟨ad, rfl⟩
  · cases B with
    | none => exact hempty hy rfl
    | some ad =>
      -- nothing is appended, from an address
      subst hy
      have hds : ds = [] := List.eq_nil_of_length_eq_zero (by simpa using k1.1)
      subst hds
      rcases h1.2 with ⟨hv, hnn⟩ | ⟨g, cap, cur, hv, hbg, hg, hnc, hcm, hcs, htake⟩
      · simp only [Value.slice.injEq] at hv
        obtain ⟨rfl, hx0, rfl⟩ := hv
        refine ⟨none, 0, w, ?_, ?_, World.grownBy.refl _ _, .inl rfl⟩
        · simp [hx0, Builtin.append_, run_underlying ht, sizeOf, typeInfo, hi, Builtin.lenOf, Builtin.firstCells, loadCells, loadCellsFrom]
        · rw [List.append_nil]; exact ⟨cs, h1, h2⟩
      · simp only [Value.slice.injEq] at hv
        obtain ⟨rfl, _, rfl⟩ := hv
        refine ⟨some ⟨g, 0, none⟩, c, w, ?_, ?_, World.grownBy.refl _ _, .inl rfl⟩
        · simp [Builtin.append_, run_underlying ht, sizeOf, typeInfo, hi, Builtin.lenOf, Builtin.firstCells, loadCells, loadCellsFrom, hnc, storeCells]
        · rw [List.append_nil]; exact ⟨cs, h1, h2⟩
  · have hlx := h1.1
    have hly : ds.length = ys.length * i.size := by rw [hs]; exact k1.1
    have h1c := k1.oneCell hn
    have hcells := k3 ad rfl
    have hsmall : xs.length + ys.length ≤ 9223372036854775807 := by simp only [maxLen] at hlen; omega
    have hlen' : (cs ++ ds).length = (xs.length + ys.length) * kd.n := by rw [List.length_append, hlx, k1.1, Nat.add_mul]
    have grown : ∀ (old : Nat), old < xs.length + ys.length →
        (w.drew.alloc (.cells (cs.toArray ++ ds.toArray ++ Builtin.zeroCells z.cells (grownCap w (xs.length + ys.length) old E - (xs.length + ys.length))) E)).ownsRow base E kd.n
          (.slice (some ⟨w.heap.size, 0, none⟩) (xs.length + ys.length) (grownCap w (xs.length + ys.length) old E)) (xs.length + ys.length) (cs ++ ds) ∧
        w.grownBy (w.drew.alloc (.cells (cs.toArray ++ ds.toArray ++ Builtin.zeroCells z.cells (grownCap w (xs.length + ys.length) old E - (xs.length + ys.length))) E)) (bk A) := by
      intro old ho
      have hge := grownCap_ge w (xs.length + ys.length) old E
      have hcm := grownCap_le_maxLen w (xs.length + ys.length) old E hlen
      refine ⟨⟨hlen', .inr ⟨w.heap.size, _, _, rfl, hb, heap_alloc_new w.drew _, hge, hcm, ?_, ?_⟩⟩, ⟨rfl, rfl, rfl, by simp, fun k hk _ => heap_alloc_old w.drew _ hk⟩⟩
      · simp only [Array.size_append, List.size_toArray, size_zeroCells, hzs, hlx, k1.1, ← Nat.add_mul]
        congr 1
        omega
      · simp only [Array.toList_append, List.append_assoc]
        rw [← List.append_assoc, ← hlen']
        exact List.take_left
    rcases h1.2 with ⟨hv, hnn⟩ | ⟨g, cap, cur, hv, hbg, hg, hnc, hcm, hcs, htake⟩
    · simp only [Value.slice.injEq] at hv
      obtain ⟨rfl, hx0, rfl⟩ := hv
      have hcs0 : cs = [] := List.eq_nil_of_length_eq_zero (by rw [hlx, hx0]; simp)
      have hxs : xs = [] := List.eq_nil_of_length_eq_zero hx0
      subst hcs0 hxs
      by_cases hm : ys.length = 0
      · have hy : ys = [] := List.eq_nil_of_length_eq_zero hm
        subst hy
        refine ⟨none, 0, w, ?_, Ow.nil, World.grownBy.refl _ _, .inl rfl⟩
        simp [Builtin.append_, run_underlying ht, sizeOf, typeInfo, hi, Builtin.lenOf, Builtin.firstCells, loadCells, loadCellsFrom]
      · have hr := run_append_nil (P := P) w t ty E i z ht hi hz ad ys.length c2 ds hly hcells (by omega) (by simp at hsmall; omega) (by simp only [List.length_nil, Nat.zero_add] at hbytes; omega)
        have hgr := grown 0 (by simp; omega)
        simp only [List.length_nil, Nat.zero_add, List.nil_append, Array.empty_append] at hgr
        exact ⟨_, _, _, by simpa using hr, ⟨_, by simpa using hgr.1, by simpa using hne _ _ (by simpa using hgr.2) (.inr rfl)⟩, hgr.2, .inr rfl⟩
    · simp only [Value.slice.injEq] at hv
      obtain ⟨rfl, _, rfl⟩ := hv
      by_cases hroom : xs.length + ys.length ≤ c
      · have hfit : xs.length * i.size + ds.length ≤ cur.size := by rw [hly, hcs, hs, ← Nat.add_mul]; exact Nat.mul_le_mul_right _ hroom
        have hr := run_append_room (P := P) w t ty E i ht hi g xs.length c cur hg ad ys.length c2 ds hly hcells h1c hroom hfit
        have hgr : w.grownBy (w.setRow g (cur.toList.take (xs.length * i.size) ++ ds ++ cur.toList.drop (xs.length * i.size + ds.length)).toArray) (some g) :=
          ⟨rfl, rfl, rfl, by simp, fun k _ hk => setRow_other w g k _ (fun e => hk (by simp [e]))⟩
        refine ⟨some ⟨g, 0, none⟩, c, _, by simpa using hr, ⟨cs ++ ds, ?_, hne _ _ hgr (.inl rfl)⟩, hgr, .inl rfl⟩
        rw [List.length_append]
        refine ⟨hlen', .inr ⟨g, c, _, rfl, hbg, setRow_heap w g cur _ E _ hg, hroom, hcm, ?_, ?_⟩⟩
        · simp only [List.size_toArray, List.length_append, List.length_take, List.length_drop, Array.length_toList]
          rw [hs] at hfit ⊢
          omega
        · rw [hs, htake, ← hlen']
          exact List.take_left
      · have holds : ∀ j u, cs[j]? = some u → w.cell? ((⟨g, 0, none⟩ : Addr).add j) = some u := h1.cells (g := g) rfl
        have hr := run_append_grow (P := P) w t ty E i z ht hi hz ⟨g, 0, none⟩ xs.length c cs (by rw [hs]; exact hlx) holds ad ys.length c2 ds hly hcells (by omega) (by omega) (growslice_fits (by omega) hbytes)
        have hgr := grown c (by omega)
        exact ⟨_, _, _, by simpa using hr, ⟨_, by simpa using hgr.1, hne _ _ hgr.2 (.inr rfl)⟩, hgr.2, .inr rfl⟩

def appO (P : Program) (e : Env) (o : Oper) : Option (Option Addr × Nat × Nat × Option Addr × Nat × Nat × TypeId × Nat × Tmp) :=
  match o.op, o.dst with
  | .call c, some d => match c.callee, c.args.toList, c.argTypes.toList with
    | .builtin .append, [x, y], [t, u] => bif Nat.beq t u then match P.underlying t, ev e x, ev e y with
      | some (.slice E), some (.slice A k c), some (.slice B m c2) => match P.info? E with
        | some i => match i.zero with
          | some z => bif Nat.beq i.size z.cells.size then bif Nat.ble i.bytes 200 then some (A, k, c, B, m, c2, E, i.size, d) else none else none
          | none => none
        | none => none
      | _, _, _ => none else none
    | _, _, _ => none
  | _, _ => none

theorem aApp {α : Type} {kd : Kd α} {M : List (Option Nat)} {base : Nat} {E : TypeId} {A B : Option Addr} {c c2 : Nat} {xs ys : List α} {k m : Nat} {sz : Nat} {d : Tmp} (hf : Fr n a e)
    (hc : appO P e o = some (A, k, c, B, m, c2, E, sz, d)) (hk1 : k = xs.length) (hm1 : m = ys.length) (hd : Nat.blt d n = true) (hkd : kd.n = sz) (hn : Nat.blt 0 sz = true)
    (hown : Ow kd (U (bk A :: M)) base E w A c xs) (hsrc : Sl kd (U (bk A :: M)) w B ys) (hcp : Cp B ys.length c2) (hb : base ≤ w.heap.size) (hl : xs.length + ys.length ≤ 549755813888)
    (hk : ∀ A' c' w' a', Ow kd (U (bk A' :: M)) base E w' A' c' (xs ++ ys) → w.grownBy w' (bk A) → (bk A' = bk A ∨ bk A' = some w.heap.size) →
      Fr n a' ((d, .slice A' (xs ++ ys).length c') :: e) → K a' w') : o.wp P a w K Q := by
  subst hk1 hm1
  obtain ⟨dst, op, ty, pos, after, guard⟩ := o
  have hlt := Nat.le_of_ble_eq_true hd
  unfold appO at hc
  split at hc
  · rename_i cl d' hop hdst
    simp only at hop hdst
    obtain ⟨callee, args, ts⟩ := cl
    obtain ⟨args⟩ := args
    obtain ⟨ts⟩ := ts
    subst hop hdst
    simp only at hc
    split at hc
    · rename_i x y t u
      cases hb1 : Nat.beq t u
      · rw [hb1] at hc; cases hc
      · rw [hb1] at hc; simp only [cond_true] at hc
        have := Nat.eq_of_beq_eq_true hb1
        subst this
        split at hc
        · rename_i E' A1 k1 c1 B1 m1 c3 hu hx hy
          split at hc
          · rename_i i hi
            split at hc
            · rename_i z hz
              cases hb2 : Nat.beq i.size z.cells.size
              · rw [hb2] at hc; cases hc
              · rw [hb2] at hc; simp only [cond_true] at hc
                cases hb3 : Nat.ble i.bytes 200
                · rw [hb3] at hc; cases hc
                · rw [hb3] at hc; simp only [cond_true, Option.some.injEq, Prod.mk.injEq] at hc
                  obtain ⟨rfl, rfl, rfl, rfl, rfl, rfl, rfl, rfl, rfl⟩ := hc
                  have hsz := Nat.eq_of_beq_eq_true hb2
                  have hby := Nat.le_of_ble_eq_true hb3
                  have hn' := Nat.le_of_ble_eq_true hn
                  have hbytes : (xs.length + ys.length) * i.bytes ≤ 140737488355328 := by
                    have : (xs.length + ys.length) * i.bytes ≤ 549755813888 * 200 := Nat.mul_le_mul hl hby
                    omega
                  obtain ⟨A', c', w', hrun, h1, h2, h3⟩ := run_app (P := P) (ty := ty) (kd := kd) (by omega) hown hsrc hcp hb hu hi hz (by omega) (by omega) hbytes (by unfold maxLen; omega)
                  refine wp_val (v := .slice A' (xs ++ ys).length c') (w' := w') ?_ (hk _ _ _ _ h1 h2 h3 (hf.put hlt))
                  simp [execOp, resolve, invoke, builtin, ev_sound hf hx, ev_sound hf hy, hrun]
            · cases hc
          · cases hc
        · cases hc
    · cases hc
  · cases hc

/-! ### stores -/
def storeO (P : Program) (e : Env) (o : Oper) : Option (Addr × List Value) :=
  match o.op, o.dst with
  | .store t x y, none => match ev e x, ev e y, P.info? t with
    | some (.pointer (some ad)), some v, some i => bif Nat.beq v.cells.size i.size then some (ad, v.cells.toList) else none
    | _, _, _ => none
  | _, _ => none

theorem run_store {ad : Addr} {us : List Value} {w' : World} (hf : Fr n a e) (hc : storeO P e o = some (ad, us)) (hr : (storeCells ad us).run P w = .ok () w') (hk : K a w') : o.wp P a w K Q := by
  obtain ⟨dst, op, ty, pos, after, guard⟩ := o
  unfold storeO at hc
  split at hc
  · rename_i t x y hop hdst
    simp only at hop hdst
    subst hop hdst
    split at hc
    · rename_i ad' v i hx hy hi
      cases hb : Nat.beq v.cells.size i.size
      · rw [hb] at hc; cases hc
      · rw [hb] at hc; simp only [cond_true, Option.some.injEq, Prod.mk.injEq] at hc
        obtain ⟨rfl, rfl⟩ := hc
        have hs := Nat.eq_of_beq_eq_true hb
        refine wp_skp (w' := w') ?_ hk
        simp [execOp, ev_sound hf hx, ev_sound hf hy, Instr.storeAt, Instr.sureAddr, storeVar, sizeOf, typeInfo, hi, hs, hr]
    · cases hc
  · cases hc

def splice (cs : List Value) (j : Nat) (us : List Value) : List Value := cs.take j ++ us ++ cs.drop (j + us.length)

theorem aStoreB {b j : Nat} {T : TypeId} {cs us cs' : List Value} (hf : Fr n a e) (hc : storeO P e o = some (⟨b, j, none⟩, us)) (hb : Bx w b cs T) (h1 : us.all (·.oneCell') = true) (hj : Nat.ble (j + us.length) cs.length = true)
    (hs : splice cs j us = cs') (hk : ∀ w', Bx w' b cs' T → w.grownBy w' (some b) → K a w') : o.wp P a w K Q := by
  have hle := Nat.le_of_ble_eq_true hj
  have hr := run_storeCells_at P b j T us 0 cs.toArray w hb (by simpa using hle) (by simpa using h1)
  refine run_store hf hc hr (hk _ ?_ ⟨rfl, rfl, rfl, by simp, fun k _ hk => setRow_other w b k _ (fun e => hk (by simp [e]))⟩)
  have := setRow_heap w b cs.toArray (cs.toArray.toList.take (j + 0) ++ us ++ cs.toArray.toList.drop (j + 0 + us.length)).toArray T (0, 0) hb
  simp only [Bx]
  rw [this, ← hs]
  simp [splice]

theorem Els.set {α : Type} {kd : Kd α} {S : Nat → Prop} {w : World} {cs us : List Value} {xs : List α} (h : Els kd S w cs xs) {x : α} (hv : kd.rep S w us x) (i : Nat) (hi : i < xs.length) :
    Els kd S w (cs.take (i * kd.n) ++ us ++ cs.drop (i * kd.n + us.length)) (xs.set i x) := by
  have hl := kd.len hv
  have hle : (i + 1) * kd.n ≤ cs.length := by rw [h.1]; exact Nat.mul_le_mul_right _ hi
  rw [Nat.add_mul, Nat.one_mul] at hle
  refine ⟨by rw [List.length_append, List.length_append, List.length_take, List.length_drop, List.length_set, hl, h.1]; rw [h.1] at hle; omega, fun k hk => ?_⟩
  have hk' : k < xs.length := by simpa using hk
  have ht : (cs.take (i * kd.n)).length = i * kd.n := by rw [List.length_take]; omega
  by_cases hik : i = k
  · subst hik
    refine ⟨us, by simpa using hv, fun j u hu => ?_⟩
    have hj := (List.getElem?_eq_some_iff.1 hu).1
    rw [List.append_assoc, List.getElem?_append_right (by omega), ht, Nat.add_sub_cancel_left, List.getElem?_append_left hj]
    exact hu
  · obtain ⟨vs, h1, h2⟩ := h.2 k hk'
    refine ⟨vs, by rw [List.getElem_set_ne hik]; exact h1, fun j u hu => ?_⟩
    have hj : j < kd.n := by rw [← kd.len h1]; exact (List.getElem?_eq_some_iff.1 hu).1
    have h3 := h2 j u hu
    rcases Nat.lt_or_gt_of_ne hik with hlt | hgt
    · have : (i + 1) * kd.n ≤ k * kd.n := Nat.mul_le_mul_right _ hlt
      rw [Nat.add_mul, Nat.one_mul] at this
      rw [List.getElem?_append_right (by simp [ht, hl]; omega)]
      simp only [List.length_append, ht, hl, List.getElem?_drop]
      rw [← h3]; congr 1; omega
    · have : (k + 1) * kd.n ≤ i * kd.n := Nat.mul_le_mul_right _ hgt
      rw [Nat.add_mul, Nat.one_mul] at this
      rw [List.append_assoc, List.getElem?_append_left (by omega), List.getElem?_take, if_pos (by omega)]
      exact h3

theorem aStoreO {α : Type} {kd : Kd α} {M : List (Option Nat)} {base : Nat} {E : TypeId} {A : Option Addr} {c : Nat} {xs : List α} {i : Int} {x : α} {us : List Value} {sz : Nat} (hf : Fr n a e)
    (hc : storeO P e o = some ((ad A).add (i.toNat * sz), us)) (hkd : kd.n = sz) (hn : Nat.blt 0 sz = true) (hown : Ow kd (U (bk A :: M)) base E w A c xs) (hx : kd.rep (U (bk A :: M)) w us x) (h0 : 0 ≤ i) (h1 : i < (xs.length : Int))
    (hk : ∀ w', Ow kd (U (bk A :: M)) base E w' A c (put xs i x) → w.grownBy w' (bk A) → K a w') : o.wp P a w K Q := by
  subst hkd
  have hn' := Nat.le_of_ble_eq_true hn
  have hi : i.toNat < xs.length := by omega
  obtain ⟨cs, h2, h3⟩ := hown
  have hels := h3.set hx i.toNat hi
  have hl := kd.len hx
  rcases h2.2 with ⟨hv, hnn⟩ | ⟨g, cap, cur, hv, hbg, hg, hnc, hcm, hcs, htake⟩
  · omega
  · simp only [Value.slice.injEq] at hv
    obtain ⟨rfl, _, rfl⟩ := hv
    have hle : (i.toNat + 1) * kd.n ≤ c * kd.n := Nat.mul_le_mul_right _ (by omega)
    have hle2 : (i.toNat + 1) * kd.n ≤ xs.length * kd.n := Nat.mul_le_mul_right _ hi
    rw [Nat.add_mul, Nat.one_mul] at hle hle2
    have hone : ∀ v ∈ us, v.oneCell' = true := kd.one hx
    have hr := run_storeCells_at P g (i.toNat * kd.n) E us 0 cur w hg (by omega) hone
    have e1 : (ad (some ⟨g, 0, none⟩)).add (i.toNat * kd.n) = ⟨g, i.toNat * kd.n, none⟩ := by
      simp only [ad, Option.getD_some]; rw [Addr.add_lit]; simp
    rw [e1] at hc
    have hgr : w.grownBy (w.setRow g (cur.toList.take (i.toNat * kd.n + 0) ++ us ++ cur.toList.drop (i.toNat * kd.n + 0 + us.length)).toArray) (some g) :=
      ⟨rfl, rfl, rfl, by simp, fun k _ hk => setRow_other w g k _ (fun e => hk (by simp [e]))⟩
    refine run_store hf hc hr (hk _ ⟨_, ?_, hels.move (Tr.own hgr (by exact List.mem_cons_self)).m hgr.size⟩ hgr)
    simp only [put_length, Nat.add_zero]
    refine ⟨?_, .inr ⟨g, c, _, rfl, hbg, setRow_heap w g cur _ E _ hg, hnc, hcm, ?_, ?_⟩⟩
    · have := hels.1; simpa [put] using this
    · simp only [List.size_toArray, List.length_append, List.length_take, List.length_drop, Array.length_toList, hl, hcs]
      omega
    · rw [← htake]
      simp only
      have ha : (cur.toList.take (i.toNat * kd.n)).length = i.toNat * kd.n := by rw [List.length_take, Array.length_toList, hcs]; omega
      rw [List.append_assoc, List.take_append, ha, List.take_append, hl, List.take_of_length_le (by rw [ha]; omega), List.take_of_length_le (l := us) (by rw [hl]; omega), List.take_take, List.drop_take, List.append_assoc]
      congr 2
      · rw [Nat.min_eq_left (by omega)]
      · congr 1; omega

end
end Go.Proofs.YtkdhahdfkonilaaDoor
