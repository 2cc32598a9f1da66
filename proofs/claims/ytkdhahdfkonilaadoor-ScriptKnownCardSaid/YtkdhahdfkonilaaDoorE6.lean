/- The engine, part 6: regions whose order is open and that call, make memory or write. What only computes or reads is taken first; of the rest each that may come up is looked at. -/
import Derived.Test.YtkdhahdfkonilaaDoorE5
import Derived.OrdersHeld
namespace Go.Proofs.YtkdhahdfkonilaaDoor
open Go Go.RowKit
set_option linter.unusedSimpArgs false
set_option linter.unusedVariables false
set_option linter.unnecessarySimpa false

/-- from a world to a later one nothing has turned but the blocks of M -/
def Gr (M : List (Option Nat)) (w w' : World) : Prop := w.heap.size ≤ w'.heap.size ∧ ∀ k, k < w.heap.size → some k ∉ M → w'.heap[k]? = w.heap[k]?

theorem Gr.refl (M : List (Option Nat)) (w : World) : Gr M w w := ⟨Nat.le_refl _, fun _ _ _ => rfl⟩
theorem Gr.trans {M : List (Option Nat)} {w w' w'' : World} (h : Gr M w w') (k : Gr M w' w'') : Gr M w w'' := ⟨Nat.le_trans h.1 k.1, fun i hi hM => (k.2 i (Nat.lt_of_lt_of_le hi h.1) hM).trans (h.2 i hi hM)⟩
theorem Gr.still {M : List (Option Nat)} {w w' : World} (h : w.grownBy w' none) : Gr M w w' := ⟨h.size, fun k hk _ => h.block k hk (by simp)⟩
theorem Gr.own {M : List (Option Nat)} {w w' : World} {r : Option Nat} (h : w.grownBy w' r) (hr : r ∈ M) : Gr M w w' := ⟨h.size, fun k hk hM => h.block k hk (fun c => hM (c ▸ hr))⟩

section
variable {P : Program} {ops : Array Oper} {Q : Exit → Act → World → Prop} {Ls : List Nat} {K : List (Option Nat)} {n : Nat}

/-- whatever order is picked from here on; but for the operations of Ls (which write, last) nothing that stands turns but the blocks of K -/
def wpAnyG (P : Program) (ops : Array Oper) (Q : Exit → Act → World → Prop) (Ls : List Nat) (K : List (Option Nat)) : Nat → Array Bool → Act → World → Prop
  | 0, listed, a, w => Region.ready .any ops listed = [] ∧ Q .normal a w
  | fuel + 1, listed, a, w =>
    (Region.ready .any ops listed = [] → Q .normal a w) ∧
    ∀ i ∈ Region.ready .any ops listed, wpOp P ops Q i (fun a' w' => (i ∈ Ls ∨ Gr K w w') ∧ wpAnyG P ops Q Ls K fuel (listed.setIfInBounds i true) a' w') a w

theorem wpAny_of_G : ∀ (fuel : Nat) (listed : Array Bool) (a : Act) (w : World), wpAnyG P ops Q Ls K fuel listed a w → wpAny P .any ops Q fuel listed a w
  | 0, _, _, _, h => h
  | fuel + 1, _, _, _, h => ⟨h.1, fun i hi => wpOp_mono (fun a' w' h' => wpAny_of_G fuel _ a' w' h'.2) (h.2 i hi)⟩

/-- what is listed waits for nothing that is not -/
def Cons (ops : Array Oper) (l : Array Bool) : Prop := ∀ k o, ops[k]? = some o → l.getD k false = true → ∀ e ∈ o.after, Region.binds .any e = true → l.getD e.on false = true

def consB (ops : Array Oper) (l : Array Bool) : Bool :=
  (List.range ops.size).all fun k => match ops[k]? with
    | some o => bif l.getD k false then o.after.all (fun e => bif Region.binds .any e then l.getD e.on false else true) else true
    | none => true

theorem cons_of {l : Array Bool} (h : consB ops l = true) : Cons ops l := by
  intro k o ho hk e he hb
  have hlt : k < ops.size := (Array.getElem?_eq_some_iff.1 ho).1
  have h1 := List.all_eq_true.1 h k (List.mem_range.2 hlt)
  rw [ho] at h1
  simp only [hk, cond_true] at h1
  have h2 := Array.all_eq_true_iff_forall_mem.1 h1 e he
  rw [hb] at h2
  exact h2

theorem getD_set_mono {l : Array Bool} {j m : Nat} (h : l.getD m false = true) : (l.setIfInBounds j true).getD m false = true := by
  simp only [Array.getD_eq_getD_getElem?, Array.getElem?_setIfInBounds] at h ⊢
  split
  · split <;> simp_all
  · exact h

theorem Cons.set {l : Array Bool} {j : Nat} (h : Cons ops l) (hj : j ∈ Region.ready .any ops l) : Cons ops (l.setIfInBounds j true) := by
  intro k o ho hk e he hb
  by_cases hkj : k = j
  · subst hkj
    obtain ⟨_, oj, hoj, hall⟩ := mem_ready.1 hj
    rw [ho] at hoj
    simp only [Option.some.injEq] at hoj
    subst hoj
    exact getD_set_mono (hall e he hb)
  · refine getD_set_mono (h k o ho ?_ e he hb)
    simp only [Array.getD_eq_getD_getElem?, Array.getElem?_setIfInBounds, if_neg (Ne.symm hkj)] at hk ⊢
    exact hk

theorem wpAnyG_first {S : World → Prop} {I : Array Bool → Prop} {i : Nat} {oi : Oper} {v : Value} (hi : ops[i]? = some oi) (hsel : ∀ (j : Nat) (o : Oper) cs b, ops[j]? = some o → o.op ≠ .select cs b)
    (hQ : ∀ c a w, Q (.panic c) (a.put oi.dst v) w → Q (.panic c) a w)
    (hIs : ∀ (j : Nat) (listed : Array Bool), j ∈ Region.ready .any ops listed → I listed → I (listed.setIfInBounds j true))
    (hst : ∀ (j : Nat) (listed : Array Bool) (w w' : World), I listed → j ∈ Region.ready .any ops listed → i ∈ Region.ready .any ops listed → S w → (j ∈ Ls ∨ Gr K w w') → S w') :
    ∀ (fuel : Nat) (listed : Array Bool) (a : Act) (w : World),
      (∀ j oj, ops[j]? = some oj → j ≠ i → listed.getD j true = false → (∀ e ∈ oj.after, Region.binds .any e = true → e.on ≠ i) → oi.apart ops oj = true) →
      I listed → i ∈ Region.ready .any ops listed → YieldsIf P ops S oi v a → S w →
      wpAnyG P ops Q Ls K fuel (listed.setIfInBounds i true) (a.put oi.dst v) w → wpAnyG P ops Q Ls K (fuel + 1) listed a w := by
  intro fuel
  induction fuel with
  | zero =>
    intro listed a w _ hI hr hy hS H
    refine ⟨fun h => (by rw [h] at hr; cases hr), fun j hj => ?_⟩
    by_cases hji : j = i
    · subst hji; exact hy.wpOp hi hS ⟨.inr (Gr.refl _ _), H⟩
    · have := ready_mono hj hji
      rw [H.1] at this
      cases this
  | succ fuel ih =>
    intro listed a w hfree hI hr hy hS H
    refine ⟨fun h => (by rw [h] at hr; cases hr), fun j hj => ?_⟩
    by_cases hji : j = i
    · subst hji; exact hy.wpOp hi hS ⟨.inr (Gr.refl _ _), H⟩
    · have h1 := H.2 j (ready_mono hj hji)
      obtain ⟨hjun, oj, hoj, hall⟩ := mem_ready.1 hj
      have hnot : ∀ e ∈ oj.after, Region.binds .any e = true → e.on ≠ i := fun e he hb heq => by
        have h1 := hall e he hb
        have h0 := (mem_ready.1 hr).1
        rw [heq] at h1
        rcases Nat.lt_or_ge i listed.size with h' | h'
        · simp [h'] at h0 h1; rw [h0] at h1; cases h1
        · simp [Array.getElem?_eq_none h'] at h1
      have h2 := wpOp_putIf hoj (hfree j oj hoj hji hjun hnot) (fun cs b => hsel i oi cs b hi) (fun cs b => hsel j oj cs b hoj) hQ hy h1
      have hfree' : ∀ k ok, ops[k]? = some ok → k ≠ i → (listed.setIfInBounds j true).getD k true = false →
          (∀ e ∈ ok.after, Region.binds .any e = true → e.on ≠ i) → oi.apart ops ok = true := fun k ok hk hki hun hno => by
        refine hfree k ok hk hki ?_ hno
        by_cases hjk : j = k
        · subst hjk; exact hjun
        · rw [getD_set_ne true hjk] at hun; exact hun
      refine wpOp_mono (fun a' w' h3 => ?_) h2
      obtain ⟨hy', hg, hK⟩ := h3
      exact ⟨hg, ih (listed.setIfInBounds j true) a' w' hfree' (hIs j listed hj hI) (ready_mono hr (Ne.symm hji)) hy' (hst j listed w w' hI hj hr hS hg) (by rw [Array.setIfInBounds_comm _ _ hji]; exact hK)⟩

/-! ### the moves -/
theorem anyG {id : Nat} {a : Act} {w : World} (Ls : List Nat) (hm : P.follows .mixedOrders = true)
    (h : ∀ w', w.grownBy w' none → wpAnyG P ops Q Ls K ops.size (Array.replicate ops.size false) a w') : (Code.region id ops true).wp P Q a w :=
  wp_region_any hm (wpAny_of_G _ _ _ _ (h _ ⟨rfl, rfl, rfl, Nat.le_refl _, fun _ _ _ => rfl⟩))

def hasCell : List Ob → Bool
  | [] => false
  | .cell _ _ :: _ => true
  | .is _ :: r => hasCell r

/-- what waits for i, one way or another -/
def waitStep (ops : Array Oper) (i : Nat) (acc : List Nat) (k : Nat) : List Nat :=
  match ops[k]? with
  | some o => bif o.after.any (fun e => Region.binds .any e && (Nat.beq e.on i || acc.any (Nat.beq e.on))) then k :: acc else acc
  | none => acc
def waitsOf (ops : Array Oper) (i : Nat) : List Nat := (List.range ops.size).foldl (waitStep ops i) []

/-- every operation of Ls waits for i, or i for it -/
def allWait (ops : Array Oper) (Ls : List Nat) (i : Nat) : Bool :=
  let ws := waitsOf ops i
  Ls.all fun j => ws.any (Nat.beq j) || (waitsOf ops j).any (Nat.beq i)

def WaitP (ops : Array Oper) (i k : Nat) : Prop := ∀ l, Cons ops l → (∀ o, ops[k]? = some o → ∀ e ∈ o.after, Region.binds .any e = true → l.getD e.on false = true) → l.getD i false = true

theorem waitP_fold (i : Nat) : ∀ (ks acc : List Nat), (∀ k ∈ acc, WaitP ops i k) → ∀ k ∈ ks.foldl (waitStep ops i) acc, WaitP ops i k
  | [], acc, h => h
  | k0 :: ks, acc, h => by
    refine waitP_fold i ks _ ?_
    unfold waitStep
    split
    · rename_i o ho
      cases hb : o.after.any (fun e => Region.binds .any e && (Nat.beq e.on i || acc.any (Nat.beq e.on)))
      · simp only [cond_false]; exact h
      · simp only [cond_true]
        intro k hk
        rcases List.mem_cons.1 hk with rfl | hk
        · obtain ⟨e, he, hbe⟩ := Array.any_eq_true'.1 hb
          simp only [Bool.and_eq_true, Bool.or_eq_true] at hbe
          intro l hc hd
          have hl := hd o ho e he hbe.1
          rcases hbe.2 with h1 | h1
          · rw [Nat.eq_of_beq_eq_true h1] at hl; exact hl
          · obtain ⟨k', hk', hbq⟩ := List.any_eq_true.1 h1
            rw [Nat.eq_of_beq_eq_true hbq] at hl
            exact h k' hk' l hc (fun o' ho' e' he' hb' => hc k' o' ho' hl e' he' hb')
        · exact h k hk
    · exact h

theorem obs_noCell {w w' : World} : ∀ {ob : List Ob}, hasCell ob = false → obs w ob → obs w' ob
  | [], _, _ => trivial
  | .is _ :: r, hc, h => ⟨h.1, obs_noCell (ob := r) hc h.2⟩
  | .cell _ _ :: _, hc, _ => by cases hc

/-- what is owed for what is read: it stands in none of the blocks of K -/
def oweC (K : List (Option Nat)) : List Ob → List Ob
  | [] => []
  | .cell a v :: r => .cell a v :: .is (some a.block ∉ K) :: oweC K r
  | .is p :: r => .is p :: oweC K r
def owe (K : List (Option Nat)) (ob : List Ob) : List Ob := match K with
  | [] => ob
  | r :: K => oweC (r :: K) ob

theorem owe_off {w : World} : ∀ {ob : List Ob}, obs w (owe K ob) → obs w ob := by
  have key : ∀ {K : List (Option Nat)} {ob : List Ob}, obs w (oweC K ob) → obs w ob := by
    intro K ob
    induction ob with
    | nil => exact fun _ => trivial
    | cons o r ih => cases o with
      | cell a v => exact fun h => ⟨h.1, ih h.2.2⟩
      | is p => exact fun h => ⟨h.1, ih h.2⟩
  intro ob h
  cases K with
  | nil => exact h
  | cons r K => exact key h

theorem obs_gr {w w' : World} (hg : Gr K w w') : ∀ {ob : List Ob}, obs w (owe K ob) → obs w' ob := by
  have cell : ∀ (a : Addr) (v : Value), (some a.block ∉ K) → w.cell? a = some v → w'.cell? a = some v := fun a v hk h => by
    have hlt := World.block_lt_of_cell? w a h
    rw [World.cell?_of_block (w := w) (hg.2 _ hlt hk)]; exact h
  intro ob
  cases hK : K with
  | nil =>
    subst hK
    induction ob with
    | nil => exact fun _ => trivial
    | cons o r ih => cases o with
      | cell a v => exact fun h => ⟨cell a v (by simp) h.1, ih h.2⟩
      | is p => exact fun h => ⟨h.1, ih h.2⟩
  | cons r0 K0 =>
    rw [← hK]
    have e : ∀ ob, owe K ob = oweC K ob := fun ob => by rw [hK]; rfl
    rw [e]
    induction ob with
    | nil => exact fun _ => trivial
    | cons o r ih => cases o with
      | cell a v => exact fun h => ⟨cell a v h.2.1 h.1, ih h.2.2⟩
      | is p => exact fun h => ⟨h.1, ih h.2⟩

theorem wait_not {i j : Nat} {listed : Array Bool} (h1 : (waitsOf ops i).any (Nat.beq j) = true) (hI : Cons ops listed) (hr : j ∈ Region.ready .any ops listed) : i ∉ Region.ready .any ops listed := by
  intro hi
  obtain ⟨j', hj', hb⟩ := List.any_eq_true.1 h1
  have := Nat.eq_of_beq_eq_true hb
  subst this
  have hp := waitP_fold (ops := ops) i (List.range ops.size) [] (by simp) j hj' listed hI (fun o ho e he hbe => by
    obtain ⟨_, oj, hoj, hall⟩ := mem_ready.1 hr
    rw [ho] at hoj
    simp only [Option.some.injEq] at hoj
    subst hoj
    exact hall e he hbe)
  have h0 := (mem_ready.1 hi).1
  rcases Nat.lt_or_ge i listed.size with h' | h'
  · simp [h'] at h0 hp; rw [h0] at hp; cases hp
  · simp [Array.getElem?_eq_none h'] at hp

theorem allWait_ready {i j : Nat} {listed : Array Bool} (hw : allWait ops Ls i = true) (hj : j ∈ Ls) (hI : Cons ops listed) (hr : j ∈ Region.ready .any ops listed) : i ∉ Region.ready .any ops listed := by
  have h1 := List.all_eq_true.1 hw j hj
  rcases Bool.or_eq_true _ _ ▸ h1 with h1 | h1
  · exact wait_not h1 hI hr
  · exact fun hi => wait_not h1 hI hi hr

/-- operations that only compute or read, one behind the other, each of which may come up and is apart from all that may come ahead of it -/
def quiets (P : Program) (n : Nat) (ops : Array Oper) (Ls : List Nat) (K : List (Option Nat)) : List Nat → Array Bool → Env → List Value → Option (Array Bool × Env × List Value × List Ob)
  | [], listed, e, ora => some (listed, e, ora, [])
  | i :: r, listed, e, ora =>
    match ops[i]? with
    | some o =>
      bif Region.free .any ops listed i && (Region.ready .any ops listed).contains i then
        match guardOk ops.toList e o, o.dst with
        | some true, some d => match one P e o ora with
          | some (v, ora', ob) => bif Nat.blt d n && (!hasCell ob || (allWait ops Ls i && consB ops listed)) then match quiets P n ops Ls K r (listed.setIfInBounds i true) ((d, v) :: e) ora' with
              | some (l', e', ora'', ob') => some (l', e', ora'', owe K ob ++ ob')
              | none => none
            else none
          | none => none
        | some false, some d => bif Nat.blt d n then quiets P n ops Ls K r (listed.setIfInBounds i true) ((d, undef) :: e) ora else none
        | _, _ => none
      else none
    | none => none

theorem quiets_sound (hs : Region.noSelect ops = true) (hQ : ∀ d v c a w, Q (.panic c) (a.put d v) w → Q (.panic c) a w) {w : World} :
    ∀ (is : List Nat) {listed : Array Bool} {a : Act} {e : Env} {ora : List Value} {x : Array Bool × Env × List Value × List Ob} {fuel : Nat}, Fr n a e → quiets P n ops Ls K is listed e ora = some x → obs w x.2.2.2 →
      (∀ a', Fr n a' x.2.1 → wpAnyG P ops Q Ls K fuel x.1 a' w) → wpAnyG P ops Q Ls K (fuel + is.length) listed a w
  | [], listed, a, e, ora, x, fuel, hf, hr, ho, hk => by
    simp only [quiets, Option.some.injEq] at hr
    subst hr
    exact hk a hf
  | i :: r, listed, a, e, ora, x, fuel, hf, hr, ho, hk => by
    simp only [quiets] at hr
    split at hr
    · rename_i o hi
      cases hb : (Region.free .any ops listed i && (Region.ready .any ops listed).contains i)
      · rw [hb] at hr; cases hr
      · rw [hb] at hr
        simp only [cond_true] at hr
        rw [Bool.and_eq_true] at hb
        obtain ⟨hfree, hready⟩ := hb
        have hready' : i ∈ Region.ready .any ops listed := by simpa using hready
        split at hr
        · rename_i d hg hd
          split at hr
          · rename_i v ora' ob h1
            cases hbd : (Nat.blt d n && (!hasCell ob || (allWait ops Ls i && consB ops listed)))
            · rw [hbd] at hr; cases hr
            · rw [hbd] at hr
              simp only [cond_true] at hr
              rw [Bool.and_eq_true] at hbd
              obtain ⟨hbd, hcell⟩ := hbd
              split at hr
              · rename_i l' e' ora'' ob' h2
                simp only [Option.some.injEq] at hr
                subst hr
                obtain ⟨ho1, ho2⟩ := obs_append ho
                have hlt : d < n := Nat.le_of_ble_eq_true hbd
                have rest : wpAnyG P ops Q Ls K (fuel + r.length) (listed.setIfInBounds i true) (a.put o.dst v) w := by
                  rw [hd]; exact quiets_sound hs hQ r (hf.put (v := v) hlt) h2 ho2 hk
                cases hc : hasCell ob
                · refine wpAnyG_first (S := fun _ => True) (I := fun _ => True) hi (Region.noSelect_spec hs) (fun c a w => hQ _ _ c a w) (fun _ _ _ _ => trivial) (fun _ _ _ _ _ _ _ _ _ => trivial) _ _ _ _ (Region.free_spec hi hfree) trivial hready' ?_ trivial rest
                  exact .inl ⟨guardOk_sound hf hg, fun w' _ => one_sound hf h1 (obs_noCell hc (owe_off ho1))⟩
                · rw [hc] at hcell
                  simp only [Bool.not_true, Bool.false_or, Bool.and_eq_true] at hcell
                  refine wpAnyG_first (S := Gr K w) (I := Cons ops) hi (Region.noSelect_spec hs) (fun c a w => hQ _ _ c a w) (fun j l hj hI => hI.set hj) ?_ _ _ _ _ (Region.free_spec hi hfree) (cons_of hcell.2) hready' ?_ (Gr.refl _ _) rest
                  · intro j l w1 w2 hI hj hi' hS hg
                    rcases hg with hg | hg
                    · exact absurd hi' (allWait_ready hcell.1 hg hI hj)
                    · exact hS.trans hg
                  · exact .inl ⟨guardOk_sound hf hg, fun w' hw' => one_sound hf h1 (obs_gr hw' ho1)⟩
              · cases hr
          · cases hr
        · rename_i d hg hd
          cases hbd : Nat.blt d n
          · rw [hbd] at hr; cases hr
          · rw [hbd] at hr
            simp only [cond_true] at hr
            have hlt : d < n := Nat.le_of_ble_eq_true hbd
            refine wpAnyG_first (S := fun _ => True) (I := fun _ => True) hi (Region.noSelect_spec hs) (fun c a w => hQ _ _ c a w) (fun _ _ _ _ => trivial) (fun _ _ _ _ _ _ _ _ _ => trivial) _ _ _ _ (Region.free_spec hi hfree) trivial hready' (.inr ⟨guardOk_sound hf hg, rfl⟩) trivial ?_
            rw [hd]
            exact quiets_sound hs hQ r (hf.put (v := undef) hlt) hr ho hk
        · cases hr
    · cases hr

def quietsS (P : Program) (n : Nat) (ops : Array Oper) (Ls : List Nat) (K : List (Option Nat)) (is : List Nat) (listed : Array Bool) (e : Env) (ora : List Value) (keep : List Nat) : Option (Array Bool × Env × List Ob) :=
  match quiets P n ops Ls K is listed e ora with
  | some (l', e', [], ob) => match sel e' keep with
    | some e'' => some (l', e'', ob)
    | none => none
  | _ => none

theorem quietsS_spec {is : List Nat} {listed l' : Array Bool} {e e' : Env} {ora : List Value} {keep : List Nat} {ob : List Ob} (h : quietsS P n ops Ls K is listed e ora keep = some (l', e', ob)) :
    ∃ x, quiets P n ops Ls K is listed e ora = some x ∧ x.1 = l' ∧ sel x.2.1 keep = some e' ∧ x.2.2.2 = ob := by
  unfold quietsS at h
  split at h
  · rename_i l1 e1 ob1 h1
    split at h
    · rename_i e2 h2
      simp only [Option.some.injEq, Prod.mk.injEq] at h
      obtain ⟨rfl, rfl, rfl⟩ := h
      exact ⟨_, h1, rfl, h2, rfl⟩
    · cases h
  · cases h

theorem quiet0 {w : World} {a : Act} {e : Env} {listed : Array Bool} {fuel : Nat} (is : List Nat) (ora : List Value) (keep : List Nat) (l' : Array Bool) (e' : Env) (ob : List Ob) (fuel' : Nat) (hfu : fuel = fuel' + is.length)
    (hs : Region.noSelect ops = true) (hQ : ∀ d v c a w, Q (.panic c) (a.put d v) w → Q (.panic c) a w) (hf : Fr n a e) (hr : quietsS P n ops Ls K is listed e ora keep = some (l', e', ob)) (ho : obs w ob)
    (hk : ∀ a', Fr n a' e' → wpAnyG P ops Q Ls K fuel' l' a' w) : wpAnyG P ops Q Ls K fuel listed a w := by
  obtain ⟨x, h1, h2, h3, h4⟩ := quietsS_spec hr
  subst hfu h2
  exact quiets_sound hs hQ is hf h1 (by rw [h4]; exact ho) (fun a' hf' => hk a' (hf'.sel h3))

theorem opOf {w : World} {a : Act} {e : Env} {i : Nat} {o : Oper} {K : Act → World → Prop} (hf : Fr n a e) (hi : ops[i]? = some o) (hg : guardOk ops.toList e o = some true) (h : o.wp P a w K Q) : wpOp P ops Q i K a w := by
  unfold wpOp
  simp only [hi, guardOk_sound hf hg, if_true]
  exact .inl h

theorem all1 {w : World} {a : Act} {fuel : Nat} {listed : Array Bool} (i : Nat) (hr : Region.ready .any ops listed = [i])
    (h : wpOp P ops Q i (fun a' w' => (i ∈ Ls ∨ Gr K w w') ∧ wpAnyG P ops Q Ls K fuel (listed.setIfInBounds i true) a' w') a w) : wpAnyG P ops Q Ls K (fuel + 1) listed a w :=
  ⟨fun h0 => (by rw [hr] at h0; cases h0), fun j hj => by rw [hr] at hj; simp at hj; subst hj; exact h⟩

theorem all2 {w : World} {a : Act} {fuel : Nat} {listed : Array Bool} (i j : Nat) (hr : Region.ready .any ops listed = [i, j])
    (h : wpOp P ops Q i (fun a' w' => (i ∈ Ls ∨ Gr K w w') ∧ wpAnyG P ops Q Ls K fuel (listed.setIfInBounds i true) a' w') a w)
    (k : wpOp P ops Q j (fun a' w' => (j ∈ Ls ∨ Gr K w w') ∧ wpAnyG P ops Q Ls K fuel (listed.setIfInBounds j true) a' w') a w) : wpAnyG P ops Q Ls K (fuel + 1) listed a w :=
  ⟨fun h0 => (by rw [hr] at h0; cases h0), fun x hx => by rw [hr] at hx; simp at hx; rcases hx with rfl | rfl <;> first | exact h | exact k⟩

theorem all3 {w : World} {a : Act} {fuel : Nat} {listed : Array Bool} (i j k : Nat) (hr : Region.ready .any ops listed = [i, j, k])
    (h1 : wpOp P ops Q i (fun a' w' => (i ∈ Ls ∨ Gr K w w') ∧ wpAnyG P ops Q Ls K fuel (listed.setIfInBounds i true) a' w') a w)
    (h2 : wpOp P ops Q j (fun a' w' => (j ∈ Ls ∨ Gr K w w') ∧ wpAnyG P ops Q Ls K fuel (listed.setIfInBounds j true) a' w') a w)
    (h3 : wpOp P ops Q k (fun a' w' => (k ∈ Ls ∨ Gr K w w') ∧ wpAnyG P ops Q Ls K fuel (listed.setIfInBounds k true) a' w') a w) : wpAnyG P ops Q Ls K (fuel + 1) listed a w :=
  ⟨fun h0 => (by rw [hr] at h0; cases h0), fun x hx => by rw [hr] at hx; simp at hx; rcases hx with rfl | rfl | rfl <;> first | exact h1 | exact h2 | exact h3⟩

theorem all4 {w : World} {a : Act} {fuel : Nat} {listed : Array Bool} (i0 i1 i2 i3 : Nat) (hr : Region.ready .any ops listed = [i0, i1, i2, i3])
    (h0 : wpOp P ops Q i0 (fun a' w' => (i0 ∈ Ls ∨ Gr K w w') ∧ wpAnyG P ops Q Ls K fuel (listed.setIfInBounds i0 true) a' w') a w)
    (h1 : wpOp P ops Q i1 (fun a' w' => (i1 ∈ Ls ∨ Gr K w w') ∧ wpAnyG P ops Q Ls K fuel (listed.setIfInBounds i1 true) a' w') a w)
    (h2 : wpOp P ops Q i2 (fun a' w' => (i2 ∈ Ls ∨ Gr K w w') ∧ wpAnyG P ops Q Ls K fuel (listed.setIfInBounds i2 true) a' w') a w)
    (h3 : wpOp P ops Q i3 (fun a' w' => (i3 ∈ Ls ∨ Gr K w w') ∧ wpAnyG P ops Q Ls K fuel (listed.setIfInBounds i3 true) a' w') a w) : wpAnyG P ops Q Ls K (fuel + 1) listed a w :=
  ⟨fun h0 => (by rw [hr] at h0; cases h0), fun x hx => by rw [hr] at hx; simp at hx; rcases hx with rfl | rfl | rfl | rfl <;> first | exact h0 | exact h1 | exact h2 | exact h3⟩

theorem all5 {w : World} {a : Act} {fuel : Nat} {listed : Array Bool} (i0 i1 i2 i3 i4 : Nat) (hr : Region.ready .any ops listed = [i0, i1, i2, i3, i4])
    (h0 : wpOp P ops Q i0 (fun a' w' => (i0 ∈ Ls ∨ Gr K w w') ∧ wpAnyG P ops Q Ls K fuel (listed.setIfInBounds i0 true) a' w') a w)
    (h1 : wpOp P ops Q i1 (fun a' w' => (i1 ∈ Ls ∨ Gr K w w') ∧ wpAnyG P ops Q Ls K fuel (listed.setIfInBounds i1 true) a' w') a w)
    (h2 : wpOp P ops Q i2 (fun a' w' => (i2 ∈ Ls ∨ Gr K w w') ∧ wpAnyG P ops Q Ls K fuel (listed.setIfInBounds i2 true) a' w') a w)
    (h3 : wpOp P ops Q i3 (fun a' w' => (i3 ∈ Ls ∨ Gr K w w') ∧ wpAnyG P ops Q Ls K fuel (listed.setIfInBounds i3 true) a' w') a w)
    (h4 : wpOp P ops Q i4 (fun a' w' => (i4 ∈ Ls ∨ Gr K w w') ∧ wpAnyG P ops Q Ls K fuel (listed.setIfInBounds i4 true) a' w') a w) : wpAnyG P ops Q Ls K (fuel + 1) listed a w :=
  ⟨fun h0 => (by rw [hr] at h0; cases h0), fun x hx => by rw [hr] at hx; simp at hx; rcases hx with rfl | rfl | rfl | rfl | rfl <;> first | exact h0 | exact h1 | exact h2 | exact h3 | exact h4⟩

theorem all6 {w : World} {a : Act} {fuel : Nat} {listed : Array Bool} (i0 i1 i2 i3 i4 i5 : Nat) (hr : Region.ready .any ops listed = [i0, i1, i2, i3, i4, i5])
    (h0 : wpOp P ops Q i0 (fun a' w' => (i0 ∈ Ls ∨ Gr K w w') ∧ wpAnyG P ops Q Ls K fuel (listed.setIfInBounds i0 true) a' w') a w)
    (h1 : wpOp P ops Q i1 (fun a' w' => (i1 ∈ Ls ∨ Gr K w w') ∧ wpAnyG P ops Q Ls K fuel (listed.setIfInBounds i1 true) a' w') a w)
    (h2 : wpOp P ops Q i2 (fun a' w' => (i2 ∈ Ls ∨ Gr K w w') ∧ wpAnyG P ops Q Ls K fuel (listed.setIfInBounds i2 true) a' w') a w)
    (h3 : wpOp P ops Q i3 (fun a' w' => (i3 ∈ Ls ∨ Gr K w w') ∧ wpAnyG P ops Q Ls K fuel (listed.setIfInBounds i3 true) a' w') a w)
    (h4 : wpOp P ops Q i4 (fun a' w' => (i4 ∈ Ls ∨ Gr K w w') ∧ wpAnyG P ops Q Ls K fuel (listed.setIfInBounds i4 true) a' w') a w)
    (h5 : wpOp P ops Q i5 (fun a' w' => (i5 ∈ Ls ∨ Gr K w w') ∧ wpAnyG P ops Q Ls K fuel (listed.setIfInBounds i5 true) a' w') a w) : wpAnyG P ops Q Ls K (fuel + 1) listed a w :=
  ⟨fun h0 => (by rw [hr] at h0; cases h0), fun x hx => by rw [hr] at hx; simp at hx; rcases hx with rfl | rfl | rfl | rfl | rfl | rfl <;> first | exact h0 | exact h1 | exact h2 | exact h3 | exact h4 | exact h5⟩

/-- what is known of every way to one stand of the listing, said once -/
theorem memoStep {w : World} {a : Act} {fuel : Nat} {listed : Array Bool} {R : Act → World → Prop} (listed' : Array Bool) (fuel' : Nat) (hR : ∀ a w, R a w → wpAnyG P ops Q Ls K fuel' listed' a w)
    (h : (∀ a w, R a w → wpAnyG P ops Q Ls K fuel' listed' a w) → wpAnyG P ops Q Ls K fuel listed a w) : wpAnyG P ops Q Ls K fuel listed a w := h hR

theorem allDone {w : World} {a : Act} {listed : Array Bool} (hr : Region.ready .any ops listed = []) (h : Q .normal a w) : wpAnyG P ops Q Ls K 0 listed a w := ⟨hr, h⟩

/-- a function's post does not look at the frame at a panic -/
theorem bodyPost_put {fn : Func} {R : Ending → World → Prop} : ∀ (d : Option Tmp) (v : Value) (c : List PanicEntry) (a : Act) (w : World), bodyPost P fn R (.panic c) (a.put d v) w → bodyPost P fn R (.panic c) a w :=
  fun d v c a w h => by cases d <;> exact h

/-- a region that ends in 'Mid', and what follows -/
theorem midReg {id : Nat} {b : Bool} {a : Act} {w : World} (Mid : Act → World → Prop) (h : (Code.region id ops b).wp P (fun x a w => x = .normal ∧ Mid a w) a w) (hk : ∀ a w, Mid a w → Q .normal a w) : (Code.region id ops b).wp P Q a w :=
  wp_mono h fun x a w hx => by obtain ⟨rfl, hm⟩ := hx; exact hk a w hm

theorem midPut {Mid : Act → World → Prop} : ∀ (d : Option Tmp) (v : Value) (c : List PanicEntry) (a : Act) (w : World), (fun (x : Exit) (a : Act) (w : World) => x = .normal ∧ Mid a w) (.panic c) (a.put d v) w → (fun (x : Exit) (a : Act) (w : World) => x = .normal ∧ Mid a w) (.panic c) a w :=
  fun d v c a w h => by cases h.1

end
end Go.Proofs.YtkdhahdfkonilaaDoor
