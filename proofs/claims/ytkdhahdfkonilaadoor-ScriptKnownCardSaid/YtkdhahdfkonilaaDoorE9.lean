/- The engine, part 9: what the row's reading of an argument says in the engine's words; the row's end. -/
import Derived.Test.YtkdhahdfkonilaaDoorE8
import Derived.ProofKit
import Derived.OpenShut
import Derived.Laws.Cover2
namespace Go.Proofs.YtkdhahdfkonilaaDoor
open Go Go.RowKit Go.ChangeShapes Go.WideShapes Go.ChangeAt
set_option linter.unusedSimpArgs false
set_option linter.unusedVariables false

/-- what a reading of type t meets is a datum of the kind -/
def ReadsAs {α : Type} (P : Program) (t : TypeId) (kd : Kd α) (ok : α → Prop) : Prop :=
  ∀ (H : Type) (enc : TypeId × Value → H) (w : World) (spare : Nat → Bool) (held : Bool) (fuel : Nat) (cs : List Value) (x : DataW H × List MemPlace),
    DataW.trod enc P w 0 spare held fuel t cs = some x → ∃ v, kd.rep (U []) w cs v ∧ ok v

theorem ReadsAs.int {P : Program} {t : TypeId} {k : IntKind} (ht : P.underlying t = some (.int k)) : ReadsAs P t (Kd.int k) (fun n => (Lit.int k n).wf = true) := by
  intro H enc w sp hd fuel cs x h
  obtain ⟨n, rfl, _, hw⟩ := DataW.trod_int ht h
  exact ⟨n, rfl, hw⟩

theorem ReadsAs.bool {P : Program} {t : TypeId} (ht : P.underlying t = some .bool) : ReadsAs P t Kd.bool (fun _ => True) := by
  intro H enc w sp hd fuel cs x h
  obtain ⟨n, rfl, _⟩ := DataW.trod_bool ht h
  exact ⟨n, rfl, trivial⟩

theorem lt_of_wf {b : Nat} (h : (Lit.float .f64 b).wf = true) : b < 2 ^ 64 := by
  simp [Lit.wf] at h
  omega

theorem canon_lt {b : Nat} (h : b < 2 ^ 64) : canon b < 2 ^ 64 := by
  rcases canon_cases b with ⟨_, e⟩ | ⟨_, e, _⟩
  · rw [e]; exact h
  · rw [e]; decide +kernel

theorem ReadsAs.float {P : Program} {t : TypeId} (ht : P.underlying t = some (.float .f64)) : ReadsAs P t Kd.float (fun x => x < 2 ^ 64 ∧ canon x = x) := by
  intro H enc w sp hd fuel cs x h
  cases fuel with
  | zero => simp [DataW.trod] at h
  | succ n =>
    unfold DataW.trod at h
    rw [ht] at h
    split at h
    all_goals first
      | (cases h; done)
      | (rename_i k k' b hk
         simp only [Option.some.injEq, TypeDesc.float.injEq] at hk
         subst hk
         split at h
         · rename_i hw
           simp [Lit.wf] at hw
           refine ⟨canon b, ⟨b, ?_, ⟨by omega, rfl⟩⟩, canon_lt (by omega), canon_canon b⟩
           simp_all
         · cases h)
      | simp_all

/-- the fields of a struct from the i-th on, whose cells begin at off -/
def ReadsAt {α : Type} (P : Program) (fs : Array Field) (i off : Nat) (kd : Kd α) (ok : α → Prop) : Prop :=
  ∀ (H : Type) (enc : TypeId × Value → H) (w : World) (spare : Nat → Bool) (held : Bool) (n : Nat) (cs : List Value) (xs : List (DataW H × List MemPlace)),
    (∀ (j : Nat) (f : Field), fs[j]? = some f → DataW.trod enc P w 0 spare held n f.type ((cs.drop f.offset).take (P.cellsOf f.type)) = xs[j]?) → xs.length = fs.size → cs.length = off + kd.n →
      ∃ v, kd.rep (U []) w (cs.drop off) v ∧ ok v

theorem ReadsAt.last {α : Type} {P : Program} {fs : Array Field} {i off : Nat} {kd : Kd α} {ok : α → Prop} {f : Field} (hf : fs[i]? = some f) (ho : f.offset = off) (hc : P.cellsOf f.type = kd.n) (h : ReadsAs P f.type kd ok) : ReadsAt P fs i off kd ok := by
  intro H enc w sp hd n cs xs hx hl hlen
  have h1 := hx i f hf
  have hlt : i < xs.length := by rw [hl]; exact (Array.getElem?_eq_some_iff.1 hf).1
  rw [ho, hc, List.getElem?_eq_getElem hlt, List.take_of_length_le (by rw [List.length_drop]; omega)] at h1
  exact h H enc w sp hd n _ _ h1

theorem ReadsAt.cons {α β : Type} {P : Program} {fs : Array Field} {i off : Nat} {ka : Kd α} {kb : Kd β} {oka : α → Prop} {okb : β → Prop} {f : Field} (hf : fs[i]? = some f) (ho : f.offset = off) (hc : P.cellsOf f.type = ka.n)
    (h : ReadsAs P f.type ka oka) (k : ReadsAt P fs (i + 1) (off + ka.n) kb okb) : ReadsAt P fs i off (Kd.pair ka kb) (fun v => oka v.1 ∧ okb v.2) := by
  intro H enc w sp hd n cs xs hx hl hlen
  have hlen' : cs.length = off + (ka.n + kb.n) := hlen
  have h1 := hx i f hf
  have hlt : i < xs.length := by rw [hl]; exact (Array.getElem?_eq_some_iff.1 hf).1
  rw [ho, hc, List.getElem?_eq_getElem hlt] at h1
  obtain ⟨x, k1, k2⟩ := h H enc w sp hd n _ _ h1
  obtain ⟨y, k3, k4⟩ := k H enc w sp hd n cs xs hx hl (by omega)
  refine ⟨(x, y), ⟨_, _, ?_, k1, k3⟩, k2, k4⟩
  rw [← List.drop_drop, List.take_append_drop]

theorem ReadsAs.struct {α β : Type} {P : Program} {t : TypeId} {fs : Array Field} {kd : Kd α} {ok : α → Prop} {g : β → α} (gi : α → β) (hg : ∀ v, g (gi v) = v) (ht : P.underlying t = some (.struct fs)) (hc : P.cellsOf t = kd.n) (h : ReadsAt P fs 0 0 kd ok) :
    ReadsAs P t (Kd.iso kd g) (fun x => ok (g x)) := by
  intro H enc w sp hd fuel cs x hx
  obtain ⟨xs, n, _, _, h1, h2, h3⟩ := DataW.trod_struct ht hx
  obtain ⟨v, k1, k2⟩ := h H enc w sp hd n cs xs h3 h2 (by rw [h1, hc]; omega)
  refine ⟨gi v, ?_, by show ok (g (gi v)); rw [hg]; exact k2⟩
  show kd.rep (U []) w cs (g (gi v))
  rw [hg]
  exact k1

/-- the elements of an array from the i-th on -/
def ReadsEl {α : Type} (P : Program) (e : TypeId) (n i : Nat) (kd : Kd α) (ok : α → Prop) : Prop :=
  ∀ (H : Type) (enc : TypeId × Value → H) (w : World) (spare : Nat → Bool) (held : Bool) (m : Nat) (cs : List Value) (xs : List (DataW H × List MemPlace)),
    (∀ j, j < n → DataW.trod enc P w 0 spare held m e ((cs.drop (j * P.cellsOf e)).take (P.cellsOf e)) = xs[j]?) → xs.length = n → cs.length = i * P.cellsOf e + kd.n →
      ∃ v, kd.rep (U []) w (cs.drop (i * P.cellsOf e)) v ∧ ok v

theorem ReadsEl.last {α : Type} {P : Program} {e : TypeId} {n i : Nat} {kd : Kd α} {ok : α → Prop} (hi : i < n) (hc : P.cellsOf e = kd.n) (h : ReadsAs P e kd ok) : ReadsEl P e n i kd ok := by
  intro H enc w sp hd m cs xs hx hl hlen
  have h1 := hx i hi
  rw [List.getElem?_eq_getElem (by omega), List.take_of_length_le (by rw [List.length_drop]; omega)] at h1
  exact h H enc w sp hd m _ _ h1

theorem ReadsEl.cons {α β : Type} {P : Program} {e : TypeId} {n i : Nat} {ka : Kd α} {kb : Kd β} {oka : α → Prop} {okb : β → Prop} (hi : i < n) (hc : P.cellsOf e = ka.n) (h : ReadsAs P e ka oka) (k : ReadsEl P e n (i + 1) kb okb) :
    ReadsEl P e n i (Kd.pair ka kb) (fun v => oka v.1 ∧ okb v.2) := by
  intro H enc w sp hd m cs xs hx hl hlen
  have hlen' : cs.length = i * P.cellsOf e + (ka.n + kb.n) := hlen
  have h1 := hx i hi
  rw [List.getElem?_eq_getElem (by omega)] at h1
  obtain ⟨x, k1, k2⟩ := h H enc w sp hd m _ _ h1
  have e1 : (i + 1) * P.cellsOf e = i * P.cellsOf e + P.cellsOf e := by rw [Nat.add_mul, Nat.one_mul]
  obtain ⟨y, k3, k4⟩ := k H enc w sp hd m cs xs hx hl (by omega)
  refine ⟨(x, y), ⟨_, _, ?_, k1, k3⟩, k2, k4⟩
  rw [e1, ← List.drop_drop, List.take_append_drop]

theorem ReadsAs.array {α : Type} {P : Program} {t e : TypeId} {n : Nat} {kd : Kd α} {ok : α → Prop} (ht : P.underlying t = some (.array n e)) (hc : P.cellsOf t = kd.n) (h : ReadsEl P e n 0 kd ok) : ReadsAs P t kd ok := by
  intro H enc w sp hd fuel cs x hx
  obtain ⟨xs, m, _, _, h1, h2, h3⟩ := DataW.trod_array ht hx
  obtain ⟨v, k1, k2⟩ := h H enc w sp hd m cs xs h3 h2 (by rw [h1, hc]; omega)
  rw [Nat.zero_mul] at k1
  exact ⟨v, k1, k2⟩

/-- an argument that is a struct -/
theorem argStruct {α H : Type} {P : Program} {enc : TypeId × Value → H} {w : World} {spare : Nat → Bool} {held : Bool} {r : Reach} {b0 : Nat} {t : TypeId} {fs : Array Field} {kd : Kd α} {ok : α → Prop} {v : Value} {d : DataW H} {ps : List MemPlace} (ht : P.underlying t = some (.struct fs))
    (hr : ReadsAs P t kd ok) (hv : Value.okWide P w r b0 t v) (h : DataW.Trod enc P w 0 spare held t v d ps) : ∃ (us : Array Value) (x : α), v = .agg us ∧ kd.rep (U []) w us.toList x ∧ ok x := by
  obtain ⟨cs, rfl, _⟩ := okWide_struct ht hv
  obtain ⟨fuel, hf⟩ := h
  obtain ⟨x, h1, h2⟩ := hr _ _ _ _ _ _ _ _ hf
  exact ⟨cs, x, rfl, h1, h2⟩

/-- an argument that is an array -/
theorem argArray {α H : Type} {P : Program} {enc : TypeId × Value → H} {w : World} {spare : Nat → Bool} {held : Bool} {r : Reach} {b0 : Nat} {t e : TypeId} {n : Nat} {kd : Kd α} {ok : α → Prop} {v : Value} {d : DataW H} {ps : List MemPlace} (ht : P.underlying t = some (.array n e))
    (hr : ReadsAs P t kd ok) (hv : Value.okWide P w r b0 t v) (h : DataW.Trod enc P w 0 spare held t v d ps) : ∃ (us : Array Value) (x : α), v = .agg us ∧ kd.rep (U []) w us.toList x ∧ ok x := by
  simp only [Value.okWide, ht] at hv
  obtain ⟨cs, rfl, _⟩ := hv
  obtain ⟨fuel, hf⟩ := h
  obtain ⟨x, h1, h2⟩ := hr _ _ _ _ _ _ _ _ hf
  exact ⟨cs, x, rfl, h1, h2⟩

theorem all_choice {α : Type} {n : Nat} {Q : Nat → α → Prop} (h : ∀ i, i < n → ∃ x, Q i x) : ∃ xs : List α, xs.length = n ∧ ∀ i (hi : i < xs.length), Q i xs[i] := by
  induction n with
  | zero => exact ⟨[], rfl, fun i hi => absurd hi (by simp)⟩
  | succ n ih =>
    obtain ⟨xs, hl, hx⟩ := ih (fun i hi => h i (by omega))
    obtain ⟨x, hq⟩ := h n (by omega)
    refine ⟨xs ++ [x], by simp [hl], fun i hi => ?_⟩
    by_cases hlt : i < xs.length
    · rw [List.getElem_append_left hlt]; exact hx i hlt
    · have : i = n := by simp at hi; omega
      subst this
      rw [List.getElem_append_right (by omega)]
      simpa [hl] using hq

theorem spot_of_cell {w : World} {a : Addr} {u : Value} (h : w.cell? a = some u) : a = ⟨a.block, a.off, none⟩ ∧ a.block < w.heap.size := by
  obtain ⟨b, o, s⟩ := a
  unfold World.cell? at h
  split at h
  · rename_i c _ _ hb
    cases s with
    | none => exact ⟨rfl, (Array.getElem?_eq_some_iff.1 hb).1⟩
    | some v => simp at h
  · cases h

theorem Addr_add0 (b o k : Nat) : (Addr.mk b o none).add k = ⟨b, o + k, none⟩ := by
  unfold Addr.add
  by_cases hk : k = 0
  · rw [if_pos hk, hk]; rfl
  · rw [if_neg hk]

theorem ReadsAs.slice {α : Type} {P : Program} {t e : TypeId} {kd : Kd α} {ok : α → Prop} (ht : P.underlying t = some (.slice e)) (hc : P.cellsOf e = kd.n) (hp : 0 < kd.n) (he : ReadsAs P e kd ok) :
    ReadsAs P t (Kd.slice kd) (fun xs => xs.length ≤ 9223372036854775807 ∧ ∀ x ∈ xs, ok x) := by
  intro H enc w sp hd fuel cs x h
  rcases DataW.trod_slice ht h with ⟨rfl, rfl⟩ | ⟨a, len, cap, elems, rest, n, _, rfl, rfl, hb, hl, hm, hlen, hel, hsp, hns⟩
  · exact ⟨[], ⟨none, 0, rfl, ⟨Nat.le_refl _, fun _ => rfl⟩, .inl rfl⟩, ⟨Nat.zero_le _, fun x hx => by cases hx⟩⟩
  have key : ∀ i, i < len → ∃ v, (∃ us, w.cells? 0 (a.add (i * kd.n)) kd.n = some us ∧ kd.rep (U []) w us v) ∧ ok v := by
    intro i hi
    have h1 := hel i hi
    rw [hc, List.getElem?_eq_getElem (by omega : i < elems.length), Option.bind_eq_some_iff] at h1
    obtain ⟨us, h2, h3⟩ := h1
    obtain ⟨v, h4, h5⟩ := he H enc w sp hd n us _ h3
    exact ⟨v, ⟨us, h2, h4⟩, h5⟩
  obtain ⟨xs, hxl, hx⟩ := all_choice key
  refine ⟨xs, ⟨some a, cap, by rw [hxl], ⟨by omega, fun h => by cases h⟩, ?_⟩, ?_, ?_⟩
  · by_cases hz : xs = []
    · exact .inl hz
    have h0 : 0 < xs.length := List.length_pos_iff.2 hz
    obtain ⟨⟨us, h2, h4⟩, _⟩ := hx 0 h0
    have h5 := (World.cells?_some h2).2.2 0 hp
    have hul : us.length = kd.n := kd.len h4
    rw [Nat.zero_mul, List.getElem?_eq_getElem (by omega : 0 < us.length)] at h5
    have h6 : w.cell? a = some us[0] := h5
    obtain ⟨ha, hs⟩ := spot_of_cell h6
    refine .inr ⟨a.block, a.off, congrArg some ha, by simp [U], hs, ?_⟩
    intro i hi
    obtain ⟨⟨us, h2, h4⟩, _⟩ := hx i hi
    refine ⟨us, h4, fun j u hu => ?_⟩
    have hj : j < kd.n := by have := (List.getElem?_eq_some_iff.1 hu).1; have := kd.len h4; omega
    have h5 := (World.cells?_some h2).2.2 j hj
    rw [hu, ha] at h5
    have h7 : ((Addr.mk a.block a.off none).add (i * kd.n)).add j = ⟨a.block, a.off + i * kd.n + j, none⟩ := by
      rw [Addr_add0, Addr_add0]
    rwa [h7] at h5
  · rw [hxl]; exact Nat.le_trans hl (Nat.le_trans hm (by decide))
  · intro v hv
    obtain ⟨i, hi, rfl⟩ := List.mem_iff_getElem.1 hv
    exact (hx i hi).2

/-- an argument that is one slice -/
theorem argSlice {α H : Type} {P : Program} {enc : TypeId × Value → H} {w : World} {spare : Nat → Bool} {held : Bool} {r : Reach} {b0 : Nat} {t e : TypeId} {kd : Kd α} {ok : α → Prop} {v : Value} {d : DataW H} {ps : List MemPlace} (ht : P.underlying t = some (.slice e))
    (hr : ReadsAs P t (Kd.slice kd) (fun xs => xs.length ≤ 9223372036854775807 ∧ ∀ x ∈ xs, ok x)) (hv : Value.okWide P w r b0 t v) (h : DataW.Trod enc P w 0 spare held t v d ps) :
    ∃ (A : Option Addr) (c : Nat) (xs : List α), v = .slice A xs.length c ∧ Cp A xs.length c ∧ Sl kd (U []) w A xs ∧ xs.length ≤ 9223372036854775807 ∧ ∀ x ∈ xs, ok x := by
  obtain ⟨A, n, c, rfl⟩ := okWide_slice ht hv
  obtain ⟨fuel, hf⟩ := h
  obtain ⟨xs, ⟨A', c', he, h1, h2⟩, h3, h4⟩ := hr _ _ _ _ _ _ _ _ hf
  have he' : (Value.slice A n c) = .slice A' xs.length c' := by simpa [Value.cells] using he
  cases he'
  exact ⟨A, c, xs, rfl, h1, h2, h3, h4⟩

/-- where a call begins: the arguments alone are known -/
theorem Mem.start {w : World} {fs : List Fact} (hr : rows fs = []) (h : ∀ f ∈ fs, f.ok [] w) : Mem [] [] w fs w where
  lt := fun k hk => by cases hk
  cum := Gb.refl _ _
  nd := by rw [hr]; trivial
  low := fun k hk => by rw [hr] at hk; cases hk
  ok := fun f hf => by rw [hr]; exact h f hf

theorem Mem.below {M : List (Option Nat)} {w0 w : World} {fs : List Fact} (h : Mem [] M w0 fs w) : Below w0.heap.size w0 w :=
  ⟨h.cum.os, h.cum.tape, h.cum.output, h.cum.size, fun k hk => h.cum.block k hk (by simp)⟩

theorem i64_of_wf {n : Int} (h : (Lit.int .i64 n).wf = true) : -9223372036854775808 ≤ n ∧ n ≤ 9223372036854775807 := by
  have h1 : IntKind.i64.min = -9223372036854775808 := rfl
  have h2 : IntKind.i64.max = 9223372036854775807 := rfl
  simp [Lit.wf, IntKind.has, h1, h2] at h
  omega

theorem trodAll_below {H : Type} {enc : TypeId × Value → H} {P : Program} (hl : laidOutB P = true) {W W' : World} (hb : Below W.heap.size W W') :
    ∀ {ts : List TypeId} {vs : List Value} {ds : List (DataW H)} {ps : List MemPlace}, (∀ t ∈ ts, P.readableRec t = true ∧ t < P.types.size) → (∀ x ∈ ps, x.block < W.heap.size) →
      DataW.TrodAll enc P W 0 (fun _ => true) true ts vs ds ps → DataW.TrodAll enc P W' 0 (fun b => decide (b < W.heap.size)) true ts vs ds ps
  | [], [], [], ps, _, _, h => h
  | t :: ts, v :: vs, d :: ds, ps, ht, hlt, h => by
    obtain ⟨p, q, h1, h2, rfl⟩ := h
    exact ⟨p, q, Below.trod hl (ht t (by simp)).1 (ht t (by simp)).2 h1 hb (fun x hx => hlt x (by simp [hx])), trodAll_below hl hb (fun t' h' => ht t' (by simp [h'])) (fun x hx => hlt x (by simp [hx])) h2, rfl⟩

/-- THE ROW's END: the answer is true, the arguments read as they did -/
theorem postTrue {H : Type} {enc : TypeId × Value → H} {P : Program} {f : Func} {s : ChangeSpec} {apart : Bool} {W W' : World} {args : Array Value} {ds gs : List (DataW H)} {before : List MemPlace} {tb : TypeId} (hl : laidOutB P = true) (hs : s.vars = [])
    (hW : DataW.Whole enc P f.params.toList s.vars apart W args.toList ds gs before) (hb : Below W.heap.size W W') (hp : ∀ t ∈ f.params.toList, P.readableRec t = true ∧ t < P.types.size) (hr : f.resultTypes = #[tb]) (ht : P.underlying tb = some .bool)
    (hf : s.fn H ds = { results := [.lit (.bool true)], args := ds }) : s.post enc P f apart true false false W args (.bool true) W' := by
  have hW' := hW
  obtain ⟨p, q, hA, hV, rfl, hfz, hnd⟩ := hW
  rw [hs] at hV
  obtain ⟨rfl, rfl⟩ := trodVars_none hV
  simp only [List.append_nil] at hW'
  have hlt : ∀ x ∈ p, x.block < W.heap.size := fun x hx => by simpa using hW'.lt x hx
  refine ⟨ds, [], p, [], p, [], hW', ?_, ?_, ?_, hb.frame _, fun h => by cases h⟩
  · rw [List.append_nil, hf, hr]
    exact trodAll_mk1 (shut_bool ht true)
  · rw [List.append_nil, hf]
    exact trodAll_below hl hb hp hlt hA
  · rw [List.append_nil, hf, hs]
    rfl

end Go.Proofs.YtkdhahdfkonilaaDoor
