/- The engine, part 1: a function's begin and end, tests, blocks, loops, calls, operations that make or write memory. -/
import Derived.Test.YtkdhahdfkonilaaDoorE0
namespace Go.Proofs.YtkdhahdfkonilaaDoor
open Go Go.RowKit
set_option linter.unusedSimpArgs false
set_option linter.unusedVariables false

section
variable {P : Program} {Q : Exit → Act → World → Prop} {a : Act} {w : World} {n : Nat} {e : Env}

/-! ### where control goes -/
theorem thenN {next : Act → World → Prop} (h : next a w) : Exit.then next Q .normal a w := h
theorem thenR {next : Act → World → Prop} (h : Q .ret a w) : Exit.then next Q .ret a w := h
theorem thenE {next : Act → World → Prop} {i : Nat} (h : Q (.exit i) a w) : Exit.then next Q (.exit i) a w := h
theorem blkN {i : Nat} (h : Q .normal a w) : Exit.inBlock i Q .normal a w := h
theorem blkR {i : Nat} (h : Q .ret a w) : Exit.inBlock i Q .ret a w := h
theorem blkE {i : Nat} (h : Q .normal a w) : Exit.inBlock i Q (.exit i) a w := by simp only [Exit.inBlock, if_true]; exact h
theorem blkO {i j : Nat} (hij : Nat.beq j i = false) (h : Q (.exit j) a w) : Exit.inBlock i Q (.exit j) a w := by
  have : j ≠ i := fun c => by subst c; simp at hij
  simp only [Exit.inBlock, this, if_false]; exact h

theorem condT {c : Operand} {x y : Code} (hf : Fr n a e) (hc : ev e c = some (.bool true)) (h : x.wp P Q a w) : (Code.cond c x y).wp P Q a w :=
  wp_cond_true (ev_sound hf hc) h
theorem condF {c : Operand} {x y : Code} (hf : Fr n a e) (hc : ev e c = some (.bool false)) (h : y.wp P Q a w) : (Code.cond c x y).wp P Q a w :=
  wp_cond_false (ev_sound hf hc) h

/-! ### a function's begin and end -/
def argEnv : List Value → Nat → Env
  | [], _ => []
  | v :: r, i => (i, v) :: argEnv r (i + 1)

theorem look_argEnv : ∀ (l : List Value) (k i : Nat) (v : Value), look (argEnv l k) i = some v → ∃ j, i = k + j ∧ l[j]? = some v
  | [], k, i, v, h => by simp [argEnv, look] at h
  | u :: r, k, i, v, h => by
    simp only [argEnv, look] at h
    cases hb : Nat.beq k i
    · rw [hb, cond_false] at h
      obtain ⟨j, rfl, hj⟩ := look_argEnv r (k + 1) i v h
      exact ⟨j + 1, by omega, by simpa using hj⟩
    · rw [hb, cond_true] at h
      have := Nat.eq_of_beq_eq_true hb
      exact ⟨0, by omega, by simpa using h⟩

theorem enter {f : FuncId} {fn : Func} {c : Code} {args : List Value} {R : Ending → World → Prop} (hf : P.funcs[f]? = some fn) (hb : fn.body = some c) (hn : fn.ntmps = n)
    (hs : Nat.ble args.length n = true) (h : ∀ a, Fr n a (argEnv args 0) → c.wp P (bodyPost P fn R) a w) : Calls P f args.toArray w R := by
  refine calls_of_wp hf hb (h _ ⟨?_, rfl, ?_⟩)
  · have := Nat.le_of_ble_eq_true hs
    simp [hn]; omega
  · intro i v hv
    obtain ⟨j, rfl, hj⟩ := look_argEnv _ _ _ _ hv
    have hlt : j < args.length := (List.getElem?_eq_some_iff.1 hj).1
    have : j < args.toArray.size := by simpa using hlt
    simp only [Nat.zero_add]
    rw [Array.getElem?_append_left this]
    simpa using hj

def resV (P : Program) (e : Env) : List ResultVar → List Value → Option (List Value × List Ob)
  | [], _ => some ([], [])
  | .tmp t :: r, ora => match look e t, resV P e r ora with
    | some v, some (vs, ob) => some (v :: vs, ob)
    | _, _ => none
  | .cell t ty :: r, ora => match look e t with
    | some (.pointer (some ad)) => match loadV P ty ad ora with
      | some (v, ora', ob) => match resV P e r ora' with
        | some (vs, ob') => some (v :: vs, ob ++ ob')
        | none => none
      | none => none
    | _ => none

def pack : List Value → Value
  | [v] => v
  | vs => .tuple vs.toArray

def resOne (tmps : Array Value) (r : ResultVar) : Sem Value :=
  match r with
  | .tmp t => pure (tmps.getD t undef)
  | .cell a t => do loadVar t (← asAddr (tmps.getD a undef))

theorem resV_sound (hf : Fr n a e) : ∀ (l : List ResultVar) {ora : List Value} {vs : List Value} {ob : List Ob}, resV P e l ora = some (vs, ob) → obs w ob →
    (l.mapM (resOne a.tmps)).run P w = .ok vs w
  | [], ora, vs, ob, h, ho => by simp only [resV, Option.some.injEq, Prod.mk.injEq] at h; obtain ⟨rfl, rfl⟩ := h; simp
  | .tmp t :: r, ora, vs, ob, h, ho => by
    simp only [resV] at h
    split at h
    · rename_i v vs' ob' h1 h2
      simp only [Option.some.injEq, Prod.mk.injEq] at h
      obtain ⟨rfl, rfl⟩ := h
      have ih := resV_sound hf r h2 ho
      have := hf.eval h1
      simp only [Act.eval] at this
      simp [resOne, this, ih]
    · cases h
  | .cell t ty :: r, ora, vs, ob, h, ho => by
    simp only [resV] at h
    split at h
    · rename_i ad h1
      split at h
      · rename_i v ora' ob1 h2
        split at h
        · rename_i vs' ob' h3
          simp only [Option.some.injEq, Prod.mk.injEq] at h
          obtain ⟨rfl, rfl⟩ := h
          obtain ⟨ho1, ho2⟩ := obs_append ho
          have ih := resV_sound hf r h3 ho2
          have he := hf.eval h1
          simp only [Act.eval] at he
          have hl := loadV_sound (w := w) h2 ho1
          simp [resOne, he, ih, asAddr, hl]
        · cases h
      · cases h
    · cases h

theorem run_results {fn : Func} (hf : Fr n a e) {ora : List Value} {vs : List Value} {ob : List Ob} (h : resV P e fn.results.toList ora = some (vs, ob)) (ho : obs w ob) :
    (results fn a.tmps).run P w = .ok (pack vs) w := by
  have h1 := resV_sound (w := w) hf _ h ho
  have h2 : (fn.results.mapM (resOne a.tmps)).run P w = .ok vs.toArray w := by
    rw [Array.mapM_eq_mapM_toList]
    simp [h1]
  have e2 : results fn a.tmps = (do
      let us ← fn.results.mapM (resOne a.tmps)
      pure (if h : us.size = 1 then us[0] else .tuple us)) := by
    unfold results
    congr 2
  rw [e2, Sem.run_bind, h2]
  simp only [Result.andThen_ok, Sem.run_pure]
  congr 1
  match vs with
  | [] => rfl
  | [v] => rfl
  | u :: v :: r => simp [pack]

theorem ret {fn : Func} {R : Ending → World → Prop} (ora : List Value) (vs : List Value) (ob : List Ob) (hf : Fr n a e) (h : resV P e fn.results.toList ora = some (vs, ob)) (ho : obs w ob)
    (hR : R (.returned (pack vs)) w) : bodyPost P fn R .ret a w :=
  ⟨hf.nd, _, run_results hf h ho, hR⟩

theorem fin {fn : Func} {R : Ending → World → Prop} (ora : List Value) (vs : List Value) (ob : List Ob) (hf : Fr n a e) (h : resV P e fn.results.toList ora = some (vs, ob)) (ho : obs w ob)
    (hR : R (.returned (pack vs)) w) : bodyPost P fn R .normal a w :=
  ⟨hf.nd, _, run_results hf h ho, hR⟩

/-! ### loops -/
inductive Step (σ ρ : Type) where
  | next (s : σ)
  | done (r : ρ)
  | bad

def Step.go {σ ρ : Type} (g : σ → Option ρ) : Step σ ρ → Option ρ
  | .next s => g s
  | .done r => some r
  | .bad => none

/-- how a loop ends: by its own end, or out of the function -/
inductive Out2 (β γ : Type) where
  | go (b : β)
  | ret (c : γ)

def loopF {σ ρ : Type} (body : σ → Step σ ρ) : Nat → σ → Option ρ
  | 0, _ => none
  | k + 1, s => (body s).go (loopF body k)

theorem loopF_succ {σ ρ : Type} {body : σ → Step σ ρ} : ∀ (k : Nat) (s : σ) (r : ρ), loopF body k s = some r → loopF body (k + 1) s = some r
  | 0, s, r, h => by simp [loopF] at h
  | k + 1, s, r, h => by
    rw [loopF] at h ⊢
    cases hb : body s with
    | next s' => rw [hb] at h; exact loopF_succ k s' r h
    | done r' => rw [hb] at h; exact h
    | bad => rw [hb] at h; cases h

theorem loopF_le {σ ρ : Type} {body : σ → Step σ ρ} {k j : Nat} {s : σ} {r : ρ} (h : loopF body k s = some r) (hj : k ≤ j) : loopF body j s = some r := by
  obtain ⟨d, rfl⟩ := Nat.le.dest hj
  induction d with
  | zero => exact h
  | succ d ih => exact loopF_succ _ _ _ (ih (by omega))

open Classical in
noncomputable def loop {σ ρ : Type} (body : σ → Step σ ρ) (s : σ) : Option ρ :=
  if h : ∃ r k, loopF body k s = some r then some (Classical.choose h) else none

theorem loop_iff {σ ρ : Type} {body : σ → Step σ ρ} {s : σ} {r : ρ} : loop body s = some r ↔ ∃ k, loopF body k s = some r := by
  unfold loop
  constructor
  · intro h
    split at h
    · rename_i hx
      simp only [Option.some.injEq] at h
      subst h
      exact Classical.choose_spec hx
    · cases h
  · rintro ⟨k, hk⟩
    have hx : ∃ r k, loopF body k s = some r := ⟨r, k, hk⟩
    rw [dif_pos hx]
    obtain ⟨j, hj⟩ := Classical.choose_spec hx
    have h1 := loopF_le hk (Nat.le_max_left k j)
    have h2 := loopF_le hj (Nat.le_max_right k j)
    rw [h1] at h2
    exact h2.symm

theorem loop_eq {σ ρ : Type} (body : σ → Step σ ρ) (s : σ) : loop body s = (body s).go (loop body) := by
  cases hb : body s with
  | next s' =>
    simp only [Step.go]
    cases h : loop body s' with
    | some r =>
      obtain ⟨k, hk⟩ := loop_iff.1 h
      exact loop_iff.2 ⟨k + 1, by rw [loopF, hb]; exact hk⟩
    | none =>
      cases h2 : loop body s with
      | none => rfl
      | some r =>
        obtain ⟨k, hk⟩ := loop_iff.1 h2
        cases k with
        | zero => simp [loopF] at hk
        | succ k =>
          rw [loopF, hb] at hk
          have := loop_iff.2 ⟨k, hk⟩
          rw [h] at this; cases this
  | done r => exact loop_iff.2 ⟨1, by rw [loopF, hb]; rfl⟩
  | bad =>
    simp only [Step.go]
    cases h2 : loop body s with
    | none => rfl
    | some r =>
      obtain ⟨k, hk⟩ := loop_iff.1 h2
      cases k with
      | zero => simp [loopF] at hk
      | succ k => rw [loopF, hb] at hk; cases hk

theorem wpLoop {σ ρ : Type} {c : Code} (body : σ → Step σ ρ) (r : ρ) (Rel : σ → Act → World → Prop) (s : σ) (h : loop body s = some r) (h0 : Rel s a w)
    (round : ∀ (g : σ → Option ρ) (s : σ) (a : Act) (w : World), (body s).go g = some r → Rel s a w → c.wp P (Exit.then (fun a' w' => ∃ s', g s' = some r ∧ Rel s' a' w') Q) a w) :
    (Code.loop c).wp P Q a w := by
  obtain ⟨k, hk⟩ := loop_iff.1 h
  refine wp_loop_rounds k ?_
  clear h
  induction k generalizing s a w with
  | zero => simp [loopF] at hk
  | succ k ih =>
    rw [rounds_succ]
    rw [loopF] at hk
    refine wp_mono (round _ s a w hk h0) ?_
    intro e' a' w' hq
    cases e' with
    | normal => obtain ⟨s', h1, h2⟩ := hq; exact ih s' h2 h1
    | _ => exact hq

/-- a loop in its block: what holds when it is left by its own end is told once -/
theorem wpBlock {i : Nat} {c : Code} {Mid : Act → World → Prop} (hl : (Code.loop c).wp P (fun x a w => (∃ h : x = .exit i, Mid a w) ∨ (x = .ret ∧ Q .ret a w)) a w)
    (hk : ∀ a w, Mid a w → Q .normal a w) : (Code.block i (.loop c)).wp P Q a w := by
  refine wp_block (wp_mono hl ?_)
  rintro x a' w' (⟨rfl, hm⟩ | ⟨rfl, hq⟩)
  · exact blkE (hk _ _ hm)
  · exact hq

/-! ### a call -/
def callV (ops : List Oper) (e : Env) : List Oper → Option (FuncId × List Value × Tmp)
  | o :: _ => match guardOk ops e o, o.op, o.dst with
    | some true, .call c, some d => match c.callee with
      | .value f => match ev e f, evs e c.args.toList with
        | some (.func (.func fid) first captured), some xs => some (fid, first.toList ++ xs ++ captured.toList, d)
        | _, _ => none
      | _ => none
    | _, _, _ => none
  | [] => none

def callable (P : Program) (f : FuncId) : Bool :=
  match P.funcs[f]? with
  | some fn => !(fn.name == "runtime.NumGoroutine") && fn.body.isSome
  | none => false

theorem run_callFunc {f : FuncId} {args : Array Value} (h : callable P f = true) : (callFunc f args).run P w = .ok (.enter f args) w := by
  unfold callable at h
  split at h
  · rename_i fn hfn
    simp only [Bool.and_eq_true, Bool.not_eq_true'] at h
    obtain ⟨h1, h2⟩ := h
    obtain ⟨c, hc⟩ := Option.isSome_iff_exists.1 h2
    have h1' : ¬ fn.name = "runtime.NumGoroutine" := by simpa using h1
    simp [callFunc, hfn, h1', hc]
  · cases h

theorem call {ops : Array Oper} {l : List Oper} {fid : FuncId} {args : List Value} {d : Tmp} {R : Value → World → Prop} (hf : Fr n a e) (hc : callV ops.toList e l = some (fid, args, d)) (hd : Nat.blt d n = true)
    (hfn : callable P fid = true) (C : Calls P fid args.toArray w fun x w' => ∃ v, x = .returned v ∧ R v w')
    (hk : ∀ v w' a', R v w' → Fr n a' ((d, v) :: e) → wpList P ops Q (l.drop 1) a' w') : wpList P ops Q l a w := by
  cases l with
  | nil => simp [callV] at hc
  | cons o rest =>
    obtain ⟨dst, op, ty, pos, after, guard⟩ := o
    simp only [callV] at hc
    split at hc
    · rename_i c d' hg
      split at hc
      · rename_i f hcal
        split at hc
        · rename_i fid' first captured xs h1 h2
          simp only [Option.some.injEq, Prod.mk.injEq] at hc
          obtain ⟨rfl, rfl, rfl⟩ := hc
          have hlt := Nat.le_of_ble_eq_true hd
          obtain ⟨callee, cargs, cts⟩ := c
          simp only at hcal
          subst hcal
          have e1 : cargs.map a.eval = xs.toArray := map_evs (n := n) (e := e) (evs_sound hf h2)
          have hrun : (execOp a.eval ⟨some d', .call ⟨.value f, cargs, cts⟩, ty, pos, after, guard⟩).run P w = .ok (.enter fid' (first.toList ++ xs ++ captured.toList).toArray) w := by
            have e3 : first ++ xs.toArray ++ captured = (first.toList ++ xs ++ captured.toList).toArray := by
              apply Array.toList_inj.1; simp
            simp only [execOp, resolve, Sem.run_bind, Sem.run_pure, e1, ev_sound hf h1, Deferred.ofValue, Result.andThen_ok, invoke, run_callFunc hfn, e3]
          unfold wpList
          rw [guardOk_sound hf hg, if_pos rfl]
          refine .inl ?_
          simp only [Oper.wp, hrun, Oper.upon]
          refine C.mono ?_
          rintro x w' ⟨v, rfl, hR⟩
          exact hk v w' _ hR (hf.put hlt)
        · cases hc
      · cases hc
    · cases hc

/-! ### an operation whose run is known -/
theorem stepV {ops : Array Oper} {o : Oper} {rest : List Oper} {d : Tmp} {v : Value} {w' : World} (hf : Fr n a e) (hg : guardOk ops.toList e o = some true) (hd : o.dst = some d) (hdn : Nat.blt d n = true)
    (hrun : (execOp a.eval o).run P w = .ok (.value v) w') (hk : ∀ a', Fr n a' ((d, v) :: e) → wpList P ops Q rest a' w') : wpList P ops Q (o :: rest) a w := by
  have hlt := Nat.le_of_ble_eq_true hdn
  unfold wpList
  rw [guardOk_sound hf hg, if_pos rfl]
  refine .inl ?_
  simp only [Oper.wp, hrun, Oper.upon, hd]
  exact hk _ (hf.put hlt)

theorem stepU {ops : Array Oper} {o : Oper} {rest : List Oper} {w' : World} (hf : Fr n a e) (hg : guardOk ops.toList e o = some true) (hd : o.dst = none)
    (hrun : (execOp a.eval o).run P w = .ok .skip w') (hk : ∀ a', Fr n a' e → wpList P ops Q rest a' w') : wpList P ops Q (o :: rest) a w := by
  unfold wpList
  rw [guardOk_sound hf hg, if_pos rfl]
  refine .inl ?_
  simp only [Oper.wp, hrun, Oper.upon, hd]
  exact hk _ hf

theorem endList {ops : Array Oper} (h : Q .normal a w) : wpList P ops Q [] a w := h

theorem inReg {id : Nat} {ops : Array Oper} (h : wpList P ops Q ops.toList a w) : (Code.region id ops false).wp P Q a w := wp_region_list h

/-! ### a region whose order is open, of operations that only compute or read -/
theorem obs_drewN (k : Nat) : ∀ {ob : List Ob}, obs w ob → obs (w.drewN k) ob
  | [], _ => trivial
  | .cell _ _ :: _, h => ⟨h.1, obs_drewN k h.2⟩
  | .is _ :: _, h => ⟨h.1, obs_drewN k h.2⟩

theorem runQ_sound {ops : Array Oper} {K : Act → Prop} {rest : List Oper} :
    ∀ (l : List Oper) {a : Act} {e : Env} {ora : List Value} {x : Env × List Value × List Ob}, Fr n a e → run P n ops.toList l e ora = some x → obs w x.2.2 →
      (∀ a', Fr n a' x.1 → wpQuiet P ops (fun w' => ∃ k, w' = w.drewN k) K rest a') → wpQuiet P ops (fun w' => ∃ k, w' = w.drewN k) K (l ++ rest) a
  | [], a, e, ora, x, hf, hr, ho, hk => by
    simp only [run, Option.some.injEq] at hr
    subst hr
    exact hk a hf
  | o :: l, a, e, ora, x, hf, hr, ho, hk => by
    simp only [run] at hr
    split at hr
    · rename_i hg
      split at hr
      · rename_i v ora' ob h1
        split at hr
        · rename_i d hd
          cases hb : Nat.blt d n
          · rw [hb] at hr; cases hr
          · rw [hb] at hr
            simp only [cond_true] at hr
            split at hr
            · rename_i e' ora'' ob' h2
              simp only [Option.some.injEq] at hr
              subst hr
              obtain ⟨ho1, ho2⟩ := obs_append ho
              have hlt : d < n := Nat.le_of_ble_eq_true hb
              have ih := runQ_sound l (hf.put (v := v) hlt) h2 ho2 hk
              show wpQuiet P ops _ K (o :: (l ++ rest)) a
              unfold wpQuiet
              rw [guardOk_sound hf hg, if_pos rfl]
              refine ⟨v, ?_, ?_⟩
              · rintro w' ⟨k, rfl⟩
                have hx := one_sound (w := w.drewN k) hf h1 (obs_drewN k ho1)
                unfold Oper.quietAt
                rw [hx]
                exact ⟨rfl, rfl⟩
              · rw [hd]; exact ih
            · cases hr
        · cases hr
      · cases hr
    · rename_i hg
      split at hr
      · rename_i d hd
        cases hb : Nat.blt d n
        · rw [hb] at hr; cases hr
        · rw [hb] at hr
          simp only [cond_true] at hr
          have hlt : d < n := Nat.le_of_ble_eq_true hb
          have ih := runQ_sound l (hf.put (v := undef) hlt) hr ho hk
          show wpQuiet P ops _ K (o :: (l ++ rest)) a
          unfold wpQuiet
          rw [guardOk_sound hf hg]
          simp only [Bool.false_eq_true, if_false, hd]
          exact ih
      · cases hr
    · cases hr

theorem grown_drewN (w : World) (k : Nat) : w.grownBy (w.drewN k) none := ⟨rfl, rfl, rfl, Nat.le_refl _, fun _ _ _ => rfl⟩

theorem regQ {id : Nat} {ops : Array Oper} (ora : List Value) (keep : List Nat) (e' : Env) (ob : List Ob) (hm : P.follows .mixedOrders = true) (hB : Region.lexB .any ops = true)
    (hf : Fr n a e) (hr : runs P n ops.toList ops.toList e ora keep = some (e', ob)) (ho : obs w ob) (hk : ∀ a' w', Fr n a' e' → w.grownBy w' none → Q .normal a' w') : (Code.region id ops true).wp P Q a w := by
  obtain ⟨x, h1, h2, h3⟩ := runs_spec hr
  have key := runQ_sound (w := w) (K := fun a' => ∀ w', (∃ k, w' = w.drewN k) → Q .normal a' w') (rest := []) ops.toList hf h1 (by rw [h3]; exact ho)
    (fun a' hf' => fun w' ⟨k, hk'⟩ => by subst hk'; exact hk a' _ (hf'.sel h2) (grown_drewN w k))
  rw [List.append_nil] at key
  exact wp_region_quiet (C := fun w' => ∃ k, w' = w.drewN k) hm hB ⟨1, rfl⟩ key

end
end Go.Proofs.YtkdhahdfkonilaaDoor
