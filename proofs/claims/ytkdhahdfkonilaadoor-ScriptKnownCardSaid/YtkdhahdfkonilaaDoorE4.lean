/- The engine, part 4: operations that make or write memory, calls, numbers with a point: each one's law, whatever follows. -/
import Derived.Test.YtkdhahdfkonilaaDoorE3
namespace Go.Proofs.YtkdhahdfkonilaaDoor
open Go Go.RowKit
set_option linter.unusedSimpArgs false
set_option linter.unusedVariables false
set_option linter.unnecessarySimpa false

section
variable {P : Program} {Q : Exit → Act → World → Prop} {a : Act} {w : World} {n : Nat} {e : Env} {o : Oper} {K : Act → World → Prop}

theorem listOf {ops : Array Oper} {l : List Oper} {o : Oper} {rest : List Oper} (hf : Fr n a e) (hl : l = o :: rest) (hg : guardOk ops.toList e o = some true) (h : o.wp P a w (wpList P ops Q rest) Q) : wpList P ops Q l a w := by
  subst hl
  unfold wpList
  rw [guardOk_sound hf hg, if_pos rfl]
  exact .inl h

theorem wp_val {v : Value} {w' : World} (hrun : (execOp a.eval o).run P w = .ok (.value v) w') (hk : K (a.put o.dst v) w') : o.wp P a w K Q := by
  unfold Oper.wp; rw [hrun]; exact hk
theorem wp_skp {w' : World} (hrun : (execOp a.eval o).run P w = .ok .skip w') (hk : K (a.put o.dst undef) w') : o.wp P a w K Q := by
  unfold Oper.wp; rw [hrun]; exact hk

/-! ### calls -/
def callO (e : Env) (o : Oper) : Option (FuncId × List Value × Tmp) :=
  match o.op, o.dst with
  | .call c, some d => match c.callee with
    | .value f => match ev e f, evs e c.args.toList with
      | some (.func (.func fid) first captured), some xs => some (fid, first.toList ++ xs ++ captured.toList, d)
      | _, _ => none
    | _ => none
  | _, _ => none

theorem aCall {fid : FuncId} {args : List Value} {d : Tmp} {R : Value → World → Prop} (hf : Fr n a e) (hc : callO e o = some (fid, args, d)) (hd : Nat.blt d n = true)
    (hfn : callable P fid = true) (C : Calls P fid args.toArray w fun x w' => ∃ v, x = .returned v ∧ R v w')
    (hk : ∀ v w' a', R v w' → Fr n a' ((d, v) :: e) → K a' w') : o.wp P a w K Q := by
  obtain ⟨dst, op, ty, pos, after, guard⟩ := o
  unfold callO at hc
  split at hc
  · rename_i c d' hop hdst
    split at hc
    · rename_i f hcal
      split at hc
      · rename_i fid' first captured xs h1 h2
        simp only [Option.some.injEq, Prod.mk.injEq] at hc
        obtain ⟨rfl, rfl, rfl⟩ := hc
        have hlt := Nat.le_of_ble_eq_true hd
        obtain ⟨callee, cargs, cts⟩ := c
        simp only at hcal hop hdst
        subst hcal hop hdst
        have e1 : cargs.map a.eval = xs.toArray := map_evs (n := n) (e := e) (evs_sound hf h2)
        have e3 : first ++ xs.toArray ++ captured = (first.toList ++ xs ++ captured.toList).toArray := by
          apply Array.toList_inj.1; simp
        have hrun : (execOp a.eval ⟨some d', .call ⟨.value f, cargs, cts⟩, ty, pos, after, guard⟩).run P w = .ok (.enter fid' (first.toList ++ xs ++ captured.toList).toArray) w := by
          simp only [execOp, resolve, Sem.run_bind, Sem.run_pure, e1, ev_sound hf h1, Deferred.ofValue, Result.andThen_ok, invoke, run_callFunc hfn, e3]
        simp only [Oper.wp, hrun, Oper.upon]
        refine C.mono ?_
        rintro x w' ⟨v, rfl, hR⟩
        exact hk v w' _ hR (hf.put hlt)
      · cases hc
    · cases hc
  · cases hc

/-- a function of the library that has no body here -/
def externO (P : Program) (fid : FuncId) (f : Array Value → Sem Value) : Prop :=
  ∃ fn, P.funcs[fid]? = some fn ∧ (fn.name == "runtime.NumGoroutine") = false ∧ fn.body = none ∧ (Extern.findNext fn).isNone = true ∧ Extern.find fn = some f

theorem aExtern {fid : FuncId} {args : List Value} {d : Tmp} {f : Array Value → Sem Value} {R : Value → World → Prop} (hf : Fr n a e) (hc : callO e o = some (fid, args, d)) (hd : Nat.blt d n = true)
    (hfn : externO P fid f) (C : ∃ v w', (f args.toArray).run P w = .ok v w' ∧ R v w')
    (hk : ∀ v w' a', R v w' → Fr n a' ((d, v) :: e) → K a' w') : o.wp P a w K Q := by
  obtain ⟨dst, op, ty, pos, after, guard⟩ := o
  unfold callO at hc
  split at hc
  · rename_i c d' hop hdst
    split at hc
    · rename_i g hcal
      split at hc
      · rename_i fid' first captured xs h1 h2
        simp only [Option.some.injEq, Prod.mk.injEq] at hc
        obtain ⟨rfl, rfl, rfl⟩ := hc
        have hlt := Nat.le_of_ble_eq_true hd
        obtain ⟨callee, cargs, cts⟩ := c
        simp only at hcal hop hdst
        subst hcal hop hdst
        obtain ⟨fn, k1, k2, k3, k4, k5⟩ := hfn
        obtain ⟨v, w', k6, k7⟩ := C
        have k2' : ¬ fn.name = "runtime.NumGoroutine" := by simpa using k2
        have k4' : Extern.findNext fn = none := by simpa using k4
        have e1 : cargs.map a.eval = xs.toArray := map_evs (n := n) (e := e) (evs_sound hf h2)
        have e3 : first ++ xs.toArray ++ captured = (first.toList ++ xs ++ captured.toList).toArray := by
          apply Array.toList_inj.1; simp
        have hrun : (execOp a.eval ⟨some d', .call ⟨.value g, cargs, cts⟩, ty, pos, after, guard⟩).run P w = .ok (.value v) w' := by
          simp only [execOp, resolve, Sem.run_bind, Sem.run_pure, e1, ev_sound hf h1, Deferred.ofValue, Result.andThen_ok, invoke, e3]
          simp only [List.append_assoc] at k6
          simp [callFunc, k1, k2', k3, k4', k5, k6]
        exact wp_val hrun (hk v w' _ k7 (hf.put hlt))
      · cases hc
    · cases hc
  · cases hc

/-! ### numbers with a point -/
def arithO (e : Env) (o : Oper) : Option (Nat × Nat × Nat × Tmp) :=
  match o.op, o.dst with
  | .binOp op _ x y _, some d => match ev e x, ev e y with
    | some (.float .f64 b), some (.float .f64 c) => match op with
      | .add => some (0, b, c, d)
      | .sub => some (1, b, c, d)
      | .mul => some (2, b, c, d)
      | .quo => some (3, b, c, d)
      | _ => none
    | _, _ => none
  | _, _ => none

def fop : Nat → Nat → Nat → Nat
  | 0 => fadd
  | 1 => fsub
  | 2 => fmul
  | _ => fdiv

theorem aArith {k b c x y : Nat} {d : Tmp} (hf : Fr n a e) (hc : arithO e o = some (k, b, c, d)) (hd : Nat.blt d n = true) (hb : FR b x) (hcc : FR c y)
    (hk : ∀ r w' a', FR r (fop k x y) → w.grownBy w' none → Fr n a' ((d, .float .f64 r) :: e) → K a' w') : o.wp P a w K Q := by
  obtain ⟨dst, op, ty, pos, after, guard⟩ := o
  unfold arithO at hc
  split at hc
  · rename_i op t x1 y1 u d' hop hdst
    simp only at hop hdst
    subst hop hdst
    split at hc
    · rename_i b' c' h1 h2
      have hlt : ∀ {d'' : Nat}, d'' = d → d'' < n := fun hh => by subst hh; exact Nat.le_of_ble_eq_true hd
      have fin : ∀ {f : Nat → Nat → Nat} {op' : BinOp}, op = op' → ((op' = .add ∧ f = fadd) ∨ (op' = .sub ∧ f = fsub) ∨ (op' = .mul ∧ f = fmul) ∨ (op' = .quo ∧ f = fdiv)) → b' = b → c' = c → d' = d → f = fop k →
          Oper.wp P ⟨some d', .binOp op t x1 y1 u, ty, pos, after, guard⟩ a w K Q := by
        intro f op' h0 hop e1 e2 e3 e4
        subst h0 e1 e2 e3
        obtain ⟨r, w', hr, h3, h4⟩ := run_arith (P := P) (w := w) (t := t) hb hcc hop
        have hg : (eqGuard op t x1 y1 (.float .f64 b') (.float .f64 c')).run P w = .ok () w := by cases op <;> rfl
        refine wp_val (v := .float .f64 r) (w' := w') ?_ (hk r w' _ (by rw [← e4]; exact h3) h4 (hf.put (hlt rfl)))
        simp [execOp, ev_sound hf h1, ev_sound hf h2, hg, hr]
      cases op <;> simp only [Option.some.injEq, Prod.mk.injEq, reduceCtorEq] at hc <;> obtain ⟨e0, e1, e2, e3⟩ := hc <;> subst e0
      · exact fin rfl (.inl ⟨rfl, rfl⟩) e1 e2 e3 rfl
      · exact fin rfl (.inr (.inl ⟨rfl, rfl⟩)) e1 e2 e3 rfl
      · exact fin rfl (.inr (.inr (.inl ⟨rfl, rfl⟩))) e1 e2 e3 rfl
      · exact fin rfl (.inr (.inr (.inr ⟨rfl, rfl⟩))) e1 e2 e3 rfl
    · cases hc
  · cases hc

/-! ### new blocks -/
/-- a block of the call's own, cell by cell -/
def Bx (w : World) (b : Nat) (cs : List Value) (T : TypeId) : Prop := w.heap[b]? = some (.cells cs.toArray T (0, 0))

theorem Bx.tr {b : Nat} {cs : List Value} {T : TypeId} {w' : World} {row : Option Nat} (h : Bx w b cs T) (hg : w.grownBy w' row) (hne : some b ≠ row) : Bx w' b cs T := by
  have hlt : b < w.heap.size := (Array.getElem?_eq_some_iff.1 h).1
  show w'.heap[b]? = _
  rw [hg.block b hlt hne]; exact h
theorem Bx.lt {b : Nat} {cs : List Value} {T : TypeId} (h : Bx w b cs T) : b < w.heap.size := (Array.getElem?_eq_some_iff.1 h).1
theorem Bx.cell {b : Nat} {cs : List Value} {T : TypeId} (h : Bx w b cs T) {j : Nat} {v : Value} (hj : cs[j]? = some v) : w.cell? ⟨b, j, none⟩ = some v := by
  rw [cell_of_row w b j cs.toArray T (0, 0) h]; simpa using hj

theorem grown_alloc (w : World) (ob : Obj) : w.grownBy (w.alloc ob) none := World.grownBy_alloc w ob none

def newO (P : Program) (e : Env) (o : Oper) : Option (List Value × TypeId × Tmp) :=
  match o.op, o.dst with
  | .box t x, some d => (ev e x).map fun v => (v.cells.toList, t, d)
  | .alloc t, some d => match P.info? t with
    | some i => i.zero.map fun z => (z.cells.toList, t, d)
    | none => none
  | _, _ => none

theorem aNew {cs : List Value} {T : TypeId} {d : Tmp} (hf : Fr n a e) (hc : newO P e o = some (cs, T, d)) (hd : Nat.blt d n = true)
    (hk : ∀ b w' a', b = w.heap.size → Bx w' b cs T → w.grownBy w' none → Fr n a' ((d, .pointer (some ⟨b, 0, none⟩)) :: e) → K a' w') : o.wp P a w K Q := by
  obtain ⟨dst, op, ty, pos, after, guard⟩ := o
  have hlt := Nat.le_of_ble_eq_true hd
  have key : ∀ (c : Array Value), (execOp a.eval ⟨dst, op, ty, pos, after, guard⟩).run P w = .ok (.value (.pointer (some ⟨w.heap.size, 0, none⟩))) (w.alloc (.cells c T)) → dst = some d → c.toList = cs →
      Oper.wp P ⟨dst, op, ty, pos, after, guard⟩ a w K Q := by
    intro c hrun hdst hcs
    subst hdst
    refine wp_val hrun (hk _ _ _ rfl ?_ (grown_alloc w _) (hf.put hlt))
    show (w.alloc (.cells c T)).heap[w.heap.size]? = _
    rw [heap_alloc_new, ← hcs]
  unfold newO at hc
  split at hc
  · rename_i t x d' hop hdst
    simp only at hop hdst
    obtain ⟨v, hv, he⟩ := Option.map_eq_some_iff.1 hc
    simp only [Prod.mk.injEq] at he
    obtain ⟨rfl, rfl, rfl⟩ := he
    refine key v.cells ?_ hdst rfl
    subst hop
    simp [execOp, Instr.box, newVar, newRow, ev_sound hf hv]
  · rename_i t d' hop hdst
    simp only at hop hdst
    split at hc
    · rename_i i hi
      obtain ⟨z, hz, he⟩ := Option.map_eq_some_iff.1 hc
      simp only [Prod.mk.injEq] at he
      obtain ⟨rfl, rfl, rfl⟩ := he
      refine key z.cells ?_ hdst rfl
      subst hop
      simp [execOp, Instr.alloc, zeroValue, typeInfo, hi, hz, newVar, newRow]
    · cases hc
  · cases hc

/-- a slice written out -/
def evps (e : Env) : List (Nat × Operand) → Option (List (Nat × Value))
  | [] => some []
  | (i, x) :: r => match ev e x, evps e r with
    | some v, some vs => some ((i, v) :: vs)
    | _, _ => none

theorem evps_sound (hf : Fr n a e) : ∀ {l : List (Nat × Operand)} {vs : List (Nat × Value)}, evps e l = some vs → l.map (fun p => (p.1, a.eval p.2)) = vs
  | [], vs, h => by simpa [evps] using h
  | (i, x) :: r, vs, h => by
    simp only [evps] at h
    split at h
    · rename_i v us h1 h2
      simp only [Option.some.injEq] at h
      subst h
      simp [ev_sound hf h1, evps_sound hf h2]
    · cases h

def litO (P : Program) (e : Env) (o : Oper) : Option (List Value × TypeId × Nat × Tmp) :=
  match o.op, o.dst with
  | .buildSlice t len ps, some d => match P.underlying t, evps e ps.toList with
    | some (.slice E), some vs => match P.info? E with
      | some i => match i.zero with
        | some z => bif Nat.ble (len * i.size) 1000 then
            (Instr.fill (fun k => some (k * i.size, i.size)) ((Array.range (len * i.size)).map ((bif Nat.beq (len * i.size) 0 then (#[] : Array Value) else z.cells)[· % (bif Nat.beq (len * i.size) 0 then (#[] : Array Value) else z.cells).size]!)) vs).map fun cs => (cs.toList, E, len, d)
          else none
        | none => none
      | none => none
    | _, _ => none
  | _, _ => none

theorem aLit {cs : List Value} {E : TypeId} {len : Nat} {d : Tmp} (hf : Fr n a e) (hc : litO P e o = some (cs, E, len, d)) (hd : Nat.blt d n = true)
    (hk : ∀ b w' a', b = w.heap.size → Bx w' b cs E → w.grownBy w' none → Fr n a' ((d, .slice (some ⟨b, 0, none⟩) len len) :: e) → K a' w') : o.wp P a w K Q := by
  obtain ⟨dst, op, ty, pos, after, guard⟩ := o
  have hlt := Nat.le_of_ble_eq_true hd
  unfold litO at hc
  split at hc
  · rename_i t len' ps d' hop hdst
    simp only at hop hdst
    subst hop hdst
    split at hc
    · rename_i E' vs hu hv
      split at hc
      · rename_i i hi
        split at hc
        · rename_i z hz
          cases hb : Nat.ble (len' * i.size) 1000
          · rw [hb] at hc; cases hc
          · rw [hb] at hc
            simp only [cond_true] at hc
            have hle := Nat.le_of_ble_eq_true hb
            obtain ⟨c, hfill, he⟩ := Option.map_eq_some_iff.1 hc
            simp only [Prod.mk.injEq] at he
            obtain ⟨rfl, rfl, rfl, rfl⟩ := he
            have e1 : (ps.map fun p => (p.1, a.eval p.2)).toList = vs := by rw [Array.toList_map]; exact evps_sound hf hv
            have hbig : ¬ 2 ^ 24 < len' * i.size := by omega
            refine wp_val (v := .slice (some ⟨w.heap.size, 0, none⟩) len' len') (w' := w.alloc (.cells c E')) ?_ (hk _ _ _ rfl ?_ (grown_alloc w _) (hf.put hlt))
            · cases hz0 : Nat.beq (len' * i.size) 0
              · rw [hz0] at hfill
                have hne : ¬ len' * i.size = 0 := fun h => by rw [h] at hz0; cases hz0
                simp only [cond_false] at hfill
                have hbig' : ¬ (len' * i.size > 16777216) := by omega
                simp only [execOp, Instr.buildSlice, Sem.run_bind, run_underlying hu, Result.andThen_ok, sizeOf, typeInfo, run_program, hi, Sem.run_pure, hbig, if_false, hne, zeroValue, hz]
                simp only [gt_iff_lt, hbig, if_false, Sem.run_pure, Sem.run_bind, Result.andThen_ok, run_program, hi, hz, e1, hfill, newRow, run_newObj]
                rfl
              · rw [hz0] at hfill
                have hne : len' * i.size = 0 := Nat.eq_of_beq_eq_true hz0
                simp only [cond_true] at hfill
                rw [hne] at hfill
                have hr0 : ∀ f : Nat → Value, Array.map f (Array.range 0) = #[] := fun f => by simp
                rw [hr0] at hfill
                have e2 := evps_sound hf hv
                simp only [execOp, Instr.buildSlice, Sem.run_bind, run_underlying hu, Result.andThen_ok, sizeOf, typeInfo, run_program, hi, Sem.run_pure, hne]
                simp [hr0, e2, hfill, newRow]
            · show (w.alloc (.cells c E')).heap[w.heap.size]? = _
              rw [heap_alloc_new]
        · cases hc
      · cases hc
    · cases hc
  · cases hc

end
end Go.Proofs.YtkdhahdfkonilaaDoor
