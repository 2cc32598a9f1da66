/- The engine, part 18: arguments as the row reads them, their sizes too (the reach). -/
import Derived.Test.YtkdhahdfkonilaaDoorE17
namespace Go.Proofs.YtkdhahdfkonilaaDoor
open Go Go.RowKit Go.ChangeShapes Go.WideShapes Go.ChangeAt
set_option linter.unusedSimpArgs false
set_option linter.unusedVariables false

/-- what a reading of type t meets, where what it reads is within the reach, is a datum of the kind -/
def WReads {α : Type} (P : Program) (t : TypeId) (kd : Kd α) (ok : α → Prop) : Prop :=
  ∀ (H : Type) (enc : TypeId × Value → H) (w : World) (spare : Nat → Bool) (held : Bool) (fuel : Nat) (cs : List Value) (x : DataW H × List MemPlace),
    DataW.trod enc P w 0 spare held fuel t cs = some x → (∀ m ∈ x.1.weights P t, m ≤ reachBytes) → ∃ v, kd.rep (U []) w cs v ∧ ok v
theorem ReadsAs.w {α : Type} {P : Program} {t : TypeId} {kd : Kd α} {ok : α → Prop} (h : ReadsAs P t kd ok) : WReads P t kd ok := fun H enc w sp hd fuel cs x hx _ => h H enc w sp hd fuel cs x hx

def WReadsAt {α : Type} (P : Program) (fs : Array Field) (i off : Nat) (kd : Kd α) (ok : α → Prop) : Prop :=
  ∀ (H : Type) (enc : TypeId × Value → H) (w : World) (spare : Nat → Bool) (held : Bool) (n : Nat) (cs : List Value) (xs : List (DataW H × List MemPlace)),
    (∀ (j : Nat) (f : Field), fs[j]? = some f → DataW.trod enc P w 0 spare held n f.type ((cs.drop f.offset).take (P.cellsOf f.type)) = xs[j]?) → xs.length = fs.size → cs.length = off + kd.n →
      (∀ m ∈ DataW.weightsEach P (fs.toList.map (·.type)) (xs.map (·.1)), m ≤ reachBytes) → ∃ v, kd.rep (U []) w (cs.drop off) v ∧ ok v

theorem field_weights {H : Type} {P : Program} {fs : Array Field} {xs : List (DataW H × List MemPlace)} {i : Nat} {f : Field} (hf : fs[i]? = some f) (hlt : i < xs.length)
    (hm : ∀ m ∈ DataW.weightsEach P (fs.toList.map (·.type)) (xs.map (·.1)), m ≤ reachBytes) : ∀ m ∈ xs[i].1.weights P f.type, m ≤ reachBytes := fun m h =>
  hm m (DataW.weights_mem_each (j := i) (by rw [List.getElem?_map, Array.getElem?_toList, hf]; rfl) (by rw [List.getElem?_map, List.getElem?_eq_getElem hlt]; rfl) m h)

theorem WReadsAt.last {α : Type} {P : Program} {fs : Array Field} {i off : Nat} {kd : Kd α} {ok : α → Prop} {f : Field} (hf : fs[i]? = some f) (ho : f.offset = off) (hc : P.cellsOf f.type = kd.n) (h : WReads P f.type kd ok) : WReadsAt P fs i off kd ok := by
  intro H enc w sp hd n cs xs hx hl hlen hm
  have h1 := hx i f hf
  have hlt : i < xs.length := by rw [hl]; exact (Array.getElem?_eq_some_iff.1 hf).1
  rw [ho, hc, List.getElem?_eq_getElem hlt, List.take_of_length_le (by rw [List.length_drop]; omega)] at h1
  exact h H enc w sp hd n _ _ h1 (field_weights hf hlt hm)
theorem WReadsAt.cons {α β : Type} {P : Program} {fs : Array Field} {i off : Nat} {ka : Kd α} {kb : Kd β} {oka : α → Prop} {okb : β → Prop} {f : Field} (hf : fs[i]? = some f) (ho : f.offset = off) (hc : P.cellsOf f.type = ka.n)
    (h : WReads P f.type ka oka) (k : WReadsAt P fs (i + 1) (off + ka.n) kb okb) : WReadsAt P fs i off (Kd.pair ka kb) (fun v => oka v.1 ∧ okb v.2) := by
  intro H enc w sp hd n cs xs hx hl hlen hm
  have hlen' : cs.length = off + (ka.n + kb.n) := hlen
  have h1 := hx i f hf
  have hlt : i < xs.length := by rw [hl]; exact (Array.getElem?_eq_some_iff.1 hf).1
  rw [ho, hc, List.getElem?_eq_getElem hlt] at h1
  obtain ⟨x, k1, k2⟩ := h H enc w sp hd n _ _ h1 (field_weights hf hlt hm)
  obtain ⟨y, k3, k4⟩ := k H enc w sp hd n cs xs hx hl (by omega) hm
  refine ⟨(x, y), ⟨_, _, ?_, k1, k3⟩, k2, k4⟩
  rw [← List.drop_drop, List.take_append_drop]
theorem WReads.struct {α β : Type} {P : Program} {t : TypeId} {fs : Array Field} {kd : Kd α} {ok : α → Prop} {g : β → α} (gi : α → β) (hg : ∀ v, g (gi v) = v) (ht : P.underlying t = some (.struct fs)) (hc : P.cellsOf t = kd.n) (h : WReadsAt P fs 0 0 kd ok) :
    WReads P t (Kd.iso kd g) (fun x => ok (g x)) := by
  intro H enc w sp hd fuel cs x hx hm
  obtain ⟨xs, n, _, rfl, h1, h2, h3⟩ := DataW.trod_struct ht hx
  have hm' : ∀ m ∈ DataW.weightsEach P (fs.toList.map (·.type)) (xs.map (·.1)), m ≤ reachBytes := fun m hq => hm m (by simp only [DataW.weights, ht]; exact hq)
  obtain ⟨v, k1, k2⟩ := h H enc w sp hd n cs xs h3 h2 (by rw [h1, hc]; omega) hm'
  refine ⟨gi v, ?_, by show ok (g (gi v)); rw [hg]; exact k2⟩
  show kd.rep (U []) w cs (g (gi v))
  rw [hg]
  exact k1

theorem weightsAll_mem {H : Type} {P : Program} {e : TypeId} : ∀ {ds : List (DataW H)} {d : DataW H}, d ∈ ds → ∀ m ∈ d.weights P e, m ∈ DataW.weightsAll P e ds
  | d' :: ds, d, h, m, hm => by
    rcases List.mem_cons.1 h with rfl | h
    · simp only [DataW.weightsAll, List.mem_append]; exact .inl hm
    · simp only [DataW.weightsAll, List.mem_append]; exact .inr (weightsAll_mem h m hm)

theorem WReads.slice {α : Type} {P : Program} {t e : TypeId} {kd : Kd α} {ok : α → Prop} (ht : P.underlying t = some (.slice e)) (hc : P.cellsOf e = kd.n) (hp : 0 < kd.n) (hby : 0 < P.bytesOf e) (he : WReads P e kd ok) :
    WReads P t (Kd.slice kd) (fun xs => xs.length ≤ 140737488351232 ∧ ∀ x ∈ xs, ok x) := by
  intro H enc w sp hd fuel cs x h hw
  rcases DataW.trod_slice ht h with ⟨rfl, rfl⟩ | ⟨a, len, cap, elems, rest, n, _, rfl, rfl, hb, hl, hm, hlen, hel, hsp, hns⟩
  · exact ⟨[], ⟨none, 0, rfl, ⟨Nat.le_refl _, fun _ => rfl⟩, .inl rfl⟩, ⟨Nat.zero_le _, fun x hx => by cases hx⟩⟩
  have hmul : (elems.length + rest.length) * P.bytesOf e ≤ reachBytes := by
    refine hw _ ?_
    simp [DataW.weights, ht]
  have hlen2 : len ≤ 140737488351232 := by
    have h1 : len * 1 ≤ (elems.length + rest.length) * P.bytesOf e := Nat.mul_le_mul (by omega) hby
    have h2 : reachBytes = 140737488351232 := rfl
    omega
  have key : ∀ i, i < len → ∃ v, (∃ us, w.cells? 0 (a.add (i * kd.n)) kd.n = some us ∧ kd.rep (U []) w us v) ∧ ok v := by
    intro i hi
    have h1 := hel i hi
    rw [hc, List.getElem?_eq_getElem (by omega : i < elems.length), Option.bind_eq_some_iff] at h1
    obtain ⟨us, h2, h3⟩ := h1
    obtain ⟨v, h4, h5⟩ := he H enc w sp hd n us _ h3 (fun m hq => hw m (by
      simp only [DataW.weights, ht, List.mem_cons, List.mem_append]
      exact .inr (.inl (weightsAll_mem (List.mem_map.2 ⟨_, List.getElem_mem _, rfl⟩) m hq))))
    exact ⟨v, ⟨us, h2, h4⟩, h5⟩
  obtain ⟨xs, hxl, hx⟩ := all_choice key
  refine ⟨xs, ⟨some a, cap, by rw [hxl], ⟨by omega, fun h => by cases h⟩, ?_⟩, ?_, ?_⟩
  · by_cases hz : xs = []
    · exact .inl hz
    have h0 : 0 < xs.length := List.length_pos_iff.2 hz
    obtain ⟨⟨us, h2, h4⟩, _⟩ := hx 0 h0
    have h5 := (World.cells?_some h2).2.2 0 hp
    have hul : us.length = kd.n := kd.len h4
    rw [Nat.zero_mul, List.getElem?_eq_getElem (by omega : 0 < us.length)] at h5
    have h6 : w.cell? a = some us[0] := h5
    obtain ⟨ha, hs⟩ := spot_of_cell h6
    refine .inr ⟨a.block, a.off, congrArg some ha, by simp [U], hs, ?_⟩
    intro i hi
    obtain ⟨⟨us, h2, h4⟩, _⟩ := hx i hi
    refine ⟨us, h4, fun j u hu => ?_⟩
    have hj : j < kd.n := by have := (List.getElem?_eq_some_iff.1 hu).1; have := kd.len h4; omega
    have h5 := (World.cells?_some h2).2.2 j hj
    rw [hu, ha] at h5
    have h7 : ((Addr.mk a.block a.off none).add (i * kd.n)).add j = ⟨a.block, a.off + i * kd.n + j, none⟩ := by
      rw [Addr_add0, Addr_add0]
    rwa [h7] at h5
  · rw [hxl]; exact hlen2
  · intro v hv
    obtain ⟨i, hi, rfl⟩ := List.mem_iff_getElem.1 hv
    exact (hx i hi).2

/-- an argument that is a struct -/
theorem argStructW {α H : Type} {P : Program} {enc : TypeId × Value → H} {w : World} {spare : Nat → Bool} {held : Bool} {r : Reach} {b0 : Nat} {t : TypeId} {fs : Array Field} {kd : Kd α} {ok : α → Prop} {v : Value} {d : DataW H} {ps : List MemPlace} (ht : P.underlying t = some (.struct fs))
    (hr : WReads P t kd ok) (hv : Value.okWide P w r b0 t v) (h : DataW.Trod enc P w 0 spare held t v d ps) (hm : ∀ m ∈ d.weights P t, m ≤ reachBytes) : ∃ (us : Array Value) (x : α), v = .agg us ∧ kd.rep (U []) w us.toList x ∧ ok x := by
  obtain ⟨cs, rfl, _⟩ := okWide_struct ht hv
  obtain ⟨fuel, hf⟩ := h
  obtain ⟨x, h1, h2⟩ := hr _ _ _ _ _ _ _ _ hf hm
  exact ⟨cs, x, rfl, h1, h2⟩
theorem arg_weights {H : Type} {P : Program} {ts us : List TypeId} {ds gs : List (DataW H)} (h : (DataW.weightsEach P (ts ++ us) (ds ++ gs)).all (· ≤ reachBytes) = true) (hl : ts.length = ds.length) {j : Nat} {t : TypeId} {d : DataW H} (ht : ts[j]? = some t) (hd : ds[j]? = some d) :
    ∀ m ∈ d.weights P t, m ≤ reachBytes := fun m hm => by
  have := List.all_eq_true.1 h _ (DataW.weights_mem_each (j := j) (by rw [List.getElem?_append_left (List.getElem?_eq_some_iff.1 ht).1]; exact ht) (by rw [List.getElem?_append_left (List.getElem?_eq_some_iff.1 hd).1]; exact hd) m hm)
  simpa using this

section
variable {H : Type} {enc : TypeId × Value → H}
/-- 'change_and_shaped', the reach too -/
theorem change_and_shaped_sized {a : Assume} {C : Checked} {os : Os} {f : FuncId} {fn : Func} {s : ChangeSpec} {conds : List PathCond} {apart fresh handsOn again : Bool} {X : World → Array Value → Prop}
    (hX : ∀ (w w' : World) (args : Array Value), w.heap = w'.heap → X w args → X w' args)
    (own : ownKnob C.prog.godebug = none) (started : os.Started) (noInit : C.prog.inits.idxOf? f = none) (hfn : C.prog.funcs[f]? = some fn)
    (witness : ∃ (w : World) (tape : Tape) (i : Input), w.os = os ∧ (w.forCall tape i).Shaped C.prog ∧ i.vars = [] ∧ Input.okWide C.prog (w.forCall tape i) .any w.heap.size f i ∧
      ((s.pre enc C.prog fn conds apart (w.forCall tape i).memory i.args ∧ X (w.forCall tape i).memory i.args) ∧ sizedMet enc C.prog fn (OpenSpec.ofChange s) apart (w.forCall tape i).memory i.args) ∧ a.holds C.prog (lone (Frame.enter C.prog f i.args .normal) [] (w.forCall tape i)))
    (contract : ∀ (W : World) (base : Nat) (args : Array Value) (ds gs : List (DataW H)) (before : List MemPlace),
      (∀ (j : Nat) t v, fn.params[j]? = some t → args[j]? = some v → Value.okWide C.prog W .any base t v) →
      DataW.Whole enc C.prog fn.params.toList s.vars apart W args.toList ds gs before → W.ShapedOpen C.prog → X W args →
      (DataW.weightsEach C.prog (fn.params.toList ++ s.plain.varTypes C.prog) (ds ++ gs)).all (· ≤ reachBytes) = true →
      Calls C.prog f args W fun e W' => ∃ v, e = .returned v ∧ s.post enc C.prog fn apart fresh handsOn again W args v W') :
    ReturnsInHanded a C os f .any (fun w args => (s.pre enc C.prog fn conds apart w args ∧ X w args) ∧ sizedMet enc C.prog fn (OpenSpec.ofChange s) apart w args) (s.post enc C.prog fn apart fresh handsOn again) := by
  refine returnsInHanded_of_calls own started noInit witness ?_
  intro w tape i _ hsh _ hok hpre _
  obtain ⟨_, _, _, fn', hfn', _, _, _, _, hval⟩ := hok
  obtain rfl : fn' = fn := Option.some.inj (hfn'.symm.trans hfn)
  obtain ⟨⟨⟨ds, gs, before, hw, hc⟩, hx⟩, hz⟩ := hpre
  have hw' := DataW.Whole.of_heap (w' := w.forCall tape i) (by rfl) hw
  refine (contract (w.forCall tape i) w.heap.size i.args ds gs before hval hw' hsh (hX _ _ _ (by rfl) hx) (hz.weights hw)).mono fun e W' ⟨v, he, hp⟩ => ?_
  subst he
  exact ChangeSpec.post_blind hp
end
end Go.Proofs.YtkdhahdfkonilaaDoor
