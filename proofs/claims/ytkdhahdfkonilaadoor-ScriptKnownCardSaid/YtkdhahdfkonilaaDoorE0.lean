/- The engine, part 0: frames whose slots are partly known; runs of operations that only compute or read, checked by evaluation. -/
import Derived.Laws.Entries
import Derived.Laws.FloatArith
import Derived.Laws.Concat
import Derived.WalkKit
import Derived.Deep.QuietTactic
import Derived.KernelRfl
namespace Go.Proofs.YtkdhahdfkonilaaDoor
open Go Go.RowKit
set_option linter.unusedSimpArgs false
set_option linter.unusedVariables false

/-! ### frames -/
abbrev Env := List (Nat × Value)

def look : Env → Nat → Option Value
  | [], _ => none
  | (j, v) :: r, i => bif Nat.beq j i then some v else look r i

structure Fr (n : Nat) (a : Act) (e : Env) : Prop where
  size : a.tmps.size = n
  nd : a.defers = []
  get : ∀ i v, look e i = some v → a.tmps[i]? = some v

theorem Fr.put {n : Nat} {a : Act} {e : Env} {d : Nat} {v : Value} (h : Fr n a e) (hd : d < n) : Fr n (a.put (some d) v) ((d, v) :: e) := by
  refine ⟨by simp [Act.put, h.size], h.nd, ?_⟩
  intro i u hu
  simp only [look] at hu
  have hs := h.size
  by_cases c : d = i
  · subst c
    simp only [Nat.beq_refl, cond_true, Option.some.injEq] at hu
    subst hu
    simp [Act.put, hs, hd]
  · have hb : Nat.beq d i = false := by
      cases hq : Nat.beq d i
      · rfl
      · exact absurd (Nat.eq_of_beq_eq_true hq) c
    rw [hb, cond_false] at hu
    have := h.get i u hu
    simp only [Act.put]
    rw [Array.getElem?_setIfInBounds_ne (by omega)]
    exact this

theorem Fr.put_none {n : Nat} {a : Act} {e : Env} {v : Value} (h : Fr n a e) : Fr n (a.put none v) e := h

def sel (e : Env) : List Nat → Option Env
  | [] => some []
  | i :: r => match look e i with
    | some v => match sel e r with
      | some e' => some ((i, v) :: e')
      | none => none
    | none => none

theorem Fr.sel {n : Nat} {a : Act} {e : Env} (h : Fr n a e) : ∀ {l : List Nat} {e' : Env}, sel e l = some e' → Fr n a e'
  | [], e', hs => by
    simp only [Proofs.YtkdhahdfkonilaaDoor.sel, Option.some.injEq] at hs
    subst hs
    exact ⟨h.size, h.nd, fun i v hv => by simp [look] at hv⟩
  | i :: r, e', hs => by
    simp only [Proofs.YtkdhahdfkonilaaDoor.sel] at hs
    split at hs
    · rename_i v hv
      split at hs
      · rename_i e1 h1
        simp only [Option.some.injEq] at hs
        subst hs
        have ih := Fr.sel h h1
        refine ⟨h.size, h.nd, fun j u hu => ?_⟩
        simp only [look] at hu
        cases hb : Nat.beq i j
        · rw [hb, cond_false] at hu; exact ih.get j u hu
        · rw [hb, cond_true] at hu
          have := Nat.eq_of_beq_eq_true hb
          subst this
          rw [← hu]; exact h.get i v hv
      · cases hs
    · cases hs

theorem Fr.eval {n : Nat} {a : Act} {e : Env} (h : Fr n a e) {i : Nat} {v : Value} (hv : look e i = some v) : a.eval (.tmp i) = v := by
  have := h.get i v hv
  simp [Act.eval, Array.getD_eq_getD_getElem?, this]

def ev (e : Env) : Operand → Option Value
  | .tmp i => look e i
  | .const v => some v
  | .global g => some (.pointer (some ⟨g, 0, none⟩))
  | .func f => some (.func (.func f) #[] #[])

theorem ev_sound {n : Nat} {a : Act} {e : Env} (h : Fr n a e) : ∀ {x : Operand} {v : Value}, ev e x = some v → a.eval x = v
  | .tmp i, v, hv => h.eval hv
  | .const u, v, hv => by simp only [ev, Option.some.injEq] at hv; subst hv; rfl
  | .global g, v, hv => by simp only [ev, Option.some.injEq] at hv; subst hv; rfl
  | .func f, v, hv => by simp only [ev, Option.some.injEq] at hv; subst hv; rfl

def evs (e : Env) : List Operand → Option (List Value)
  | [] => some []
  | x :: r => match ev e x, evs e r with
    | some v, some vs => some (v :: vs)
    | _, _ => none

theorem map_evs {n : Nat} {a : Act} {e : Env} {xs : Array Operand} {vs : List Value} (h : xs.toList.map a.eval = vs) : xs.map a.eval = vs.toArray := by
  apply Array.toList_inj.1
  rw [Array.toList_map, h]

theorem evs_sound {n : Nat} {a : Act} {e : Env} (h : Fr n a e) : ∀ {l : List Operand} {vs : List Value}, evs e l = some vs → l.map a.eval = vs
  | [], vs, hv => by simpa [evs] using hv
  | x :: r, vs, hv => by
    simp only [evs] at hv
    split at hv
    · rename_i v us h1 h2
      simp only [Option.some.injEq] at hv
      subst hv
      simp [ev_sound h h1, evs_sound h h2]
    · cases hv

/-! ### what is owed for a step -/
inductive Ob where
  | cell (a : Addr) (v : Value)
  | is (p : Prop)

def Ob.ok (w : World) : Ob → Prop
  | .cell a v => w.cell? a = some v
  | .is p => p

def obs (w : World) : List Ob → Prop
  | [] => True
  | o :: r => o.ok w ∧ obs w r

theorem obs_append {w : World} : ∀ {a b : List Ob}, obs w (a ++ b) → obs w a ∧ obs w b
  | [], _, h => ⟨trivial, h⟩
  | _ :: _, _, h => ⟨⟨h.1, (obs_append h.2).1⟩, (obs_append h.2).2⟩

abbrev Out := Value × List Value × List Ob

/-- two operands; tests take their answer from the list of answers -/
def binV (op : BinOp) (x y : Value) (ora : List Value) : Option Out :=
  match x, y with
  | .int k a, .int k' b =>
    if k = k' then
      match op with
      | .add => some (.int k (k.wrap (a + b)), ora, [])
      | .sub => some (.int k (k.wrap (a - b)), ora, [])
      | .mul => some (.int k (k.wrap (a * b)), ora, [])
      | .quo => some (.int k (k.wrap (a.tdiv b)), ora, [.is (b ≠ 0)])
      | .rem => some (.int k (a.tmod b), ora, [.is (b ≠ 0)])
      | .and => some (.int k (bits .and k a b), ora, [])
      | .or => some (.int k (bits .or k a b), ora, [])
      | .xor => some (.int k (bits .xor k a b), ora, [])
      | .andNot => some (.int k (bits .andNot k a b), ora, [])
      | .eql => match ora with | .bool t :: r => some (.bool t, r, [.is ((a == b) = t)]) | _ => none
      | .neq => match ora with | .bool t :: r => some (.bool t, r, [.is ((a != b) = t)]) | _ => none
      | .lss => match ora with | .bool t :: r => some (.bool t, r, [.is (decide (a < b) = t)]) | _ => none
      | .leq => match ora with | .bool t :: r => some (.bool t, r, [.is (decide (a ≤ b) = t)]) | _ => none
      | .gtr => match ora with | .bool t :: r => some (.bool t, r, [.is (decide (b < a) = t)]) | _ => none
      | .geq => match ora with | .bool t :: r => some (.bool t, r, [.is (decide (b ≤ a) = t)]) | _ => none
      | _ => none
    else none
  | .float k a, .float k' b =>
    if k = k' then
      match op with
      | .eql => match ora with | .bool t :: r => some (.bool t, r, [.is ((k.format.order a b == some .eq) = t)]) | _ => none
      | .neq => match ora with | .bool t :: r => some (.bool t, r, [.is ((k.format.order a b != some .eq) = t)]) | _ => none
      | .lss => match ora with | .bool t :: r => some (.bool t, r, [.is ((k.format.order a b == some .lt) = t)]) | _ => none
      | .leq => match ora with | .bool t :: r => some (.bool t, r, [.is ((k.format.order a b == some .lt || k.format.order a b == some .eq) = t)]) | _ => none
      | .gtr => match ora with | .bool t :: r => some (.bool t, r, [.is ((k.format.order a b == some .gt) = t)]) | _ => none
      | .geq => match ora with | .bool t :: r => some (.bool t, r, [.is ((k.format.order a b == some .gt || k.format.order a b == some .eq) = t)]) | _ => none
      | _ => none
    else none
  | .string a, .string b =>
    match op with
    | .add => match ora with | .string c :: r => some (.string c, r, [.is (c = a ++ b ∧ a.size + b.size ≤ 9223372036854775807)]) | _ => none
    | .eql => match ora with | .bool t :: r => some (.bool t, r, [.is (decide (a = b) = t)]) | _ => none
    | .neq => match ora with | .bool t :: r => some (.bool t, r, [.is ((!decide (a = b)) = t)]) | _ => none
    | _ => none
  | _, _ => none

theorem bytes_eq : ∀ {a b : ByteArray}, a.data.toList = b.data.toList → a = b
  | ⟨⟨a⟩⟩, ⟨⟨b⟩⟩, h => by
    have h : a = b := h
    rw [h]
theorem toList_beq (a b : ByteArray) : (a.toList == b.toList) = decide (a = b) := by
  rw [ByteArray.toList_eq, ByteArray.toList_eq]
  by_cases h : a = b
  · subst h; simp
  · rw [decide_eq_false h]
    exact beq_eq_false_iff_ne.2 (fun c => h (bytes_eq c))

theorem binV_sound {P : Program} {w : World} {op : BinOp} {t : TypeId} {x y : Value} {ora : List Value} {o : Out} (h : binV op x y ora = some o) (ho : obs w o.2.2) :
    (binOp op t x y).run P w = .ok o.1 w := by
  unfold binV at h
  split at h
  · split at h
    · rename_i k a k' b hk
      subst hk
      cases op <;> simp only [] at h <;>
        first
        | (cases h; done)
        | (simp only [Option.some.injEq] at h; subst h; simp [binOp, Op.intArith, Op.intDiv, obs, Ob.ok] at ho ⊢; done)
        | (simp only [Option.some.injEq] at h; subst h; (first | rw [binOp_and, intBits_and] | rw [binOp_or, intBits_or] | rw [binOp_xor, intBits_xor] | rw [binOp_andNot, intBits_andNot]) <;> rfl)
        | (simp only [Option.some.injEq] at h; subst h; simp [obs, Ob.ok] at ho; simp [binOp, Op.intDiv, ho]; done)
        | (split at h
           · simp only [Option.some.injEq] at h; subst h; simp only [obs, Ob.ok, and_true] at ho; simp only [binOp, Op.intCmp, ne_eq, not_true, if_false]; rw [← ho]; rfl
           · cases h)
    · cases h
  · split at h
    · rename_i k a k' b hk
      subst hk
      cases op <;> simp only [] at h <;>
        first
        | (cases h; done)
        | (split at h
           · simp only [Option.some.injEq] at h; subst h; simp only [obs, Ob.ok, and_true] at ho; simp only [binOp, Op.floatCmp, ne_eq, not_true, if_false]; rw [← ho]; rfl
           · cases h)
    · cases h
  · rename_i a b
    cases op <;> simp only [] at h <;>
      first
      | (cases h; done)
      | (split at h
         · simp only [Option.some.injEq] at h; subst h; simp only [obs, Ob.ok, and_true] at ho
           first
           | (obtain ⟨rfl, h2⟩ := ho; rw [binOp_string_add]; exact Go.run_string_add_sum _ a b h2)
           | (rw [binOp_string_eql, toList_beq, ho]; rfl)
           | (rw [binOp_string_neq, toList_beq, ho]; rfl)
         · cases h)
  · cases h

theorem eqGuard_pass {P : Program} {w : World} {op : BinOp} {t : TypeId} {x y : Operand} {a b : Value} {ora : List Value} {o : Out} (h : binV op a b ora = some o) :
    (eqGuard op t x y a b).run P w = .ok () w := by
  unfold binV at h
  split at h
  · cases op <;> rfl
  · cases op <;> rfl
  · cases op <;> rfl
  · cases h


/-- a part of a struct's or an array's cells -/
def partV (P : Program) (t : TypeId) (cs : Array Value) (off : Nat) : Option Value :=
  match P.underlying t with
  | some (.struct _) => (P.info? t).map fun i => .agg (cs.extract off (off + i.size))
  | some (.array _ _) => (P.info? t).map fun i => .agg (cs.extract off (off + i.size))
  | some _ => cs[off]?
  | none => none

theorem partV_sound {P : Program} {w : World} {t : TypeId} {cs : Array Value} {off : Nat} {v : Value} (h : partV P t cs off = some v) :
    (part t cs off).run P w = .ok v w := by
  unfold partV at h
  split at h
  · rename_i fs hu
    obtain ⟨i, hi, rfl⟩ := Option.map_eq_some_iff.1 h
    simp [part, isAgg, run_underlying hu, sizeOf, typeInfo, hi]
  · rename_i n e hu
    obtain ⟨i, hi, rfl⟩ := Option.map_eq_some_iff.1 h
    simp [part, isAgg, run_underlying hu, sizeOf, typeInfo, hi]
  · rename_i d h1 h2 hu
    cases d <;> first | (exact absurd rfl (h1 _)) | (exact absurd rfl (h2 _ _)) | simp [part, isAgg, run_underlying hu, h]
  · cases h

/-- the cells of a loaded value -/
def cellObs (a : Addr) : Nat → List Value → List Ob
  | _, [] => []
  | i, v :: r => .cell (a.add i) v :: cellObs a (i + 1) r

theorem run_loadCellsFrom {P : Program} {w : World} {a : Addr} : ∀ (vs : List Value) (i : Nat) (acc : Array Value), obs w (cellObs a i vs) →
    (loadCellsFrom a i vs.length acc).run P w = .ok (acc ++ vs.toArray) w
  | [], i, acc, _ => by simp [loadCellsFrom]
  | v :: r, i, acc, h => by
    have h1 : w.cell? (a.add i) = some v := h.1
    simp [loadCellsFrom, h1, run_loadCellsFrom r (i + 1) (acc.push v) h.2]

def aggD : TypeDesc → Bool
  | .struct _ => true
  | .array _ _ => true
  | _ => false

theorem run_isAgg {P : Program} {w : World} {t : TypeId} {d : TypeDesc} (hu : P.underlying t = some d) : (isAgg t).run P w = .ok (aggD d) w := by
  cases d <;> simp [isAgg, run_underlying hu, aggD]

def loadV (P : Program) (t : TypeId) (a : Addr) (ora : List Value) : Option Out :=
  match P.underlying t, ora with
  | some d, v :: r =>
    bif aggD d then match v, P.info? t with
      | .agg cs, some i => if i.size = cs.size then some (.agg cs, r, cellObs a 0 cs.toList) else none
      | _, _ => none
    else some (v, r, [.cell a v])
  | _, _ => none

theorem loadV_sound {P : Program} {w : World} {t : TypeId} {a : Addr} {ora : List Value} {o : Out} (h : loadV P t a ora = some o) (ho : obs w o.2.2) :
    (loadVar t a).run P w = .ok o.1 w := by
  unfold loadV at h
  split at h
  · rename_i d v r hu
    cases hd : aggD d
    · rw [hd] at h
      simp only [cond_false, Option.some.injEq] at h
      subst h
      have hc : w.cell? a = some v := ho.1
      simp [loadVar, run_isAgg hu, hd, hc]
    · rw [hd] at h
      simp only [cond_true] at h
      split at h
      · rename_i cs i hi
        split at h
        · rename_i hs
          simp only [Option.some.injEq] at h; subst h
          have := run_loadCellsFrom (P := P) cs.toList 0 #[] ho
          simp only [Array.length_toList] at this
          simp [loadVar, run_isAgg hu, hd, sizeOf, typeInfo, hi, loadCells, hs, this]
        · cases h
      · cases h
  · cases h

/-- an element's address -/
def elemAt (P : Program) (e : TypeId) (A : Option Addr) (i : Int) : Option Value :=
  (P.info? e).map fun inf => .pointer (some ((A.getD ⟨0, 0, none⟩).add (i.toNat * inf.size)))

def indexAddrV (P : Program) (t : TypeId) (x i : Value) (ora : List Value) : Option Out :=
  match P.underlying t, x, i with
  | some (.slice e), .slice A n _, .int _ i => (elemAt P e A i).map fun v => (v, ora, [.is (A.isSome = true), .is (0 ≤ i ∧ i < (n : Int))])
  | some (.array n e), .pointer (some a), .int _ i => (elemAt P e (some a) i).map fun v => (v, ora, [.is (0 ≤ i ∧ i < (n : Int))])
  | _, _, _ => none

theorem indexAddrV_sound {P : Program} {w : World} {t : TypeId} {x i : Value} {ora : List Value} {o : Out} (h : indexAddrV P t x i ora = some o) (ho : obs w o.2.2) :
    (Instr.indexAt t x i).run P w = .ok o.1 w := by
  unfold indexAddrV at h
  split at h
  · rename_i e A n c k i hu
    obtain ⟨v, hv, rfl⟩ := Option.map_eq_some_iff.1 h
    obtain ⟨inf, hi, rfl⟩ := Option.map_eq_some_iff.1 hv
    obtain ⟨h1, h2, _⟩ := ho
    have h1 : A.isSome = true := h1
    have h2 : 0 ≤ i ∧ i < (n : Int) := h2
    obtain ⟨a, rfl⟩ := Option.isSome_iff_exists.1 h1
    simp [Instr.indexAt, asIntOf, run_underlying hu, sizeOf, typeInfo, hi, h2.1, h2.2]
  · rename_i n e a k i hu
    obtain ⟨v, hv, rfl⟩ := Option.map_eq_some_iff.1 h
    obtain ⟨inf, hi, rfl⟩ := Option.map_eq_some_iff.1 hv
    obtain ⟨h2, _⟩ := ho
    have h2 : 0 ≤ i ∧ i < (n : Int) := h2
    simp [Instr.indexAt, asIntOf, run_underlying hu, sizeOf, typeInfo, hi, h2.1, h2.2, Instr.sureAddr]
  · cases h

def fieldAddrV (P : Program) (s : TypeId) (x : Value) (f : Nat) (ora : List Value) : Option Out :=
  match P.underlying s, x with
  | some (.struct fs), .pointer (some a) => match fs[f]? with
    | some fd => match P.info? fd.type with
      | some i => if i.size = 0 then none else some (.pointer (some (a.add fd.offset)), ora, [])
      | none => none
    | none => none
  | _, _ => none

theorem fieldAddrV_sound {P : Program} {w : World} {s : TypeId} {x : Value} {f : Nat} {ora : List Value} {o : Out} (h : fieldAddrV P s x f ora = some o) :
    (Instr.fieldAt s x f).run P w = .ok o.1 w := by
  unfold fieldAddrV at h
  split at h
  · rename_i fs a hu
    split at h
    · rename_i fd hf
      split at h
      · rename_i i hi
        split at h
        · cases h
        · rename_i hz
          simp only [Option.some.injEq] at h; subst h
          simp [Instr.fieldAt, run_underlying hu, hf, Instr.sureAddr, fieldPlace, sizeOf, typeInfo, hi, hz]
      · cases h
    · cases h
  · cases h

def fieldV (P : Program) (t : TypeId) (x : Value) (f : Nat) (ora : List Value) : Option Out :=
  match P.underlying t, x with
  | some (.struct fs), .agg cs => match fs[f]? with
    | some fd => (partV P fd.type cs fd.offset).map fun v => (v, ora, [])
    | none => none
  | _, _ => none

theorem fieldV_sound {P : Program} {w : World} {s : TypeId} {x : Value} {f : Nat} {ora : List Value} {o : Out} (h : fieldV P s x f ora = some o) :
    (Instr.field s x f).run P w = .ok o.1 w := by
  unfold fieldV at h
  split at h
  · rename_i fs a hu
    split at h
    · rename_i fd hf
      obtain ⟨v, hv, rfl⟩ := Option.map_eq_some_iff.1 h
      simp [Instr.field, run_underlying hu, hf, asAgg, partV_sound hv]
    · cases h
  · cases h

def indexV (P : Program) (t : TypeId) (x i : Value) (ora : List Value) : Option Out :=
  match P.underlying t, x, i with
  | some (.array n e), .agg cs, .int _ i => match P.info? e with
    | some inf => (partV P e cs (i.toNat * inf.size)).map fun v => (v, ora, [.is (0 ≤ i ∧ i < (n : Int))])
    | none => none
  | some .string, .string s, .int _ i => match ora with
    | .int .u8 x :: r => some (.int .u8 x, r, [.is (0 ≤ i ∧ i < (s.size : Int)), .is ((((s[i.toNat]?).getD 0).toNat : Int) = x)])
    | _ => none
  | _, _, _ => none

theorem indexV_sound {P : Program} {w : World} {t : TypeId} {x i : Value} {ora : List Value} {o : Out} (h : indexV P t x i ora = some o) (ho : obs w o.2.2) :
    (Instr.index t x i).run P w = .ok o.1 w := by
  unfold indexV at h
  split at h
  · rename_i n e cs k i hu
    split at h
    · rename_i inf hi
      obtain ⟨v, hv, rfl⟩ := Option.map_eq_some_iff.1 h
      obtain ⟨h2, _⟩ := ho
      have h2 : 0 ≤ i ∧ i < (n : Int) := h2
      simp [Instr.index, asIntOf, run_underlying hu, sizeOf, typeInfo, hi, h2.1, h2.2, partV_sound hv]
    · cases h
  · rename_i s k i hu
    split at h
    · rename_i x r
      simp only [Option.some.injEq] at h; subst h
      obtain ⟨h2, h4, _⟩ := ho
      have h2 : 0 ≤ i ∧ i < (s.size : Int) := h2
      have h4 : (((s[i.toNat]?).getD 0).toNat : Int) = x := h4
      have h3 : i.toNat < s.size := by omega
      subst h4
      simp [Instr.index, asIntOf, run_underlying hu, h2.1, h3]
    · cases h
  · cases h

def sliceV (P : Program) (t : TypeId) (x : Value) (lo hi : Option Value) (ora : List Value) : Option Out :=
  match P.underlying t, x with
  | some (.slice e), .slice A n c =>
    match P.info? e with
    | some inf =>
      match hi, lo with
      | none, some (.int _ l) => some (.slice (if c = l.toNat then A else A.map (·.add (l.toNat * inf.size))) (n - l.toNat) (c - l.toNat), ora, [.is (0 ≤ l ∧ l ≤ (n : Int))])
      | some (.int _ h), none => some (.slice (if c = 0 then A else A.map (·.add (0 * inf.size))) (h.toNat - 0) (c - 0), ora, [.is (0 ≤ h ∧ h ≤ (c : Int))])
      | some (.int _ h), some (.int _ l) => some (.slice (if c = l.toNat then A else A.map (·.add (l.toNat * inf.size))) (h.toNat - l.toNat) (c - l.toNat), ora, [.is (0 ≤ h ∧ h ≤ (c : Int)), .is (0 ≤ l ∧ l ≤ h)])
      | _, _ => none
    | none => none
  | some .string, .string s =>
      match hi, lo with
      | none, some (.int _ l) => some (.string (s.extract l.toNat s.size), ora, [.is (0 ≤ l ∧ l ≤ (s.size : Int))])
      | some (.int _ h), none => some (.string (s.extract 0 h.toNat), ora, [.is (0 ≤ h ∧ h ≤ (s.size : Int))])
      | some (.int _ h), some (.int _ l) => some (.string (s.extract l.toNat h.toNat), ora, [.is (0 ≤ h ∧ h ≤ (s.size : Int)), .is (0 ≤ l ∧ l ≤ h)])
      | _, _ => none
  | _, _ => none

theorem sliceV_sound {P : Program} {w : World} {t : TypeId} {x : Value} {lo hi : Option Value} {ora : List Value} {o : Out} (h : sliceV P t x lo hi ora = some o) (ho : obs w o.2.2) :
    (Instr.sliceAt t x lo hi none).run P w = .ok o.1 w := by
  unfold sliceV at h
  split at h
  · rename_i e A n c hu
    split at h
    · rename_i inf hinf
      split at h
      · rename_i k l
        simp only [Option.some.injEq] at h; subst h
        obtain ⟨h1, _⟩ := ho
        have h1 : 0 ≤ l ∧ l ≤ (n : Int) := h1
        simp [Instr.sliceAt, Instr.slice, run_underlying hu, Instr.sliceBounds, Instr.sliceBound, asIntOf, h1.1, h1.2, sizeOf, typeInfo, hinf]
      · rename_i k hh
        simp only [Option.some.injEq] at h; subst h
        obtain ⟨h1, _⟩ := ho
        have h1 : 0 ≤ hh ∧ hh ≤ (c : Int) := h1
        simp [Instr.sliceAt, Instr.slice, run_underlying hu, Instr.sliceBounds, Instr.sliceBound, asIntOf, h1.1, h1.2, sizeOf, typeInfo, hinf]
      · rename_i k hh k2 l
        simp only [Option.some.injEq] at h; subst h
        obtain ⟨h1, h2, _⟩ := ho
        have h1 : 0 ≤ hh ∧ hh ≤ (c : Int) := h1
        have h2 : 0 ≤ l ∧ l ≤ hh := h2
        have h4 : ¬ max hh 0 < l := by omega
        simp [Instr.sliceAt, Instr.slice, run_underlying hu, Instr.sliceBounds, Instr.sliceBound, asIntOf, h1.1, h1.2, h2.1, h4, sizeOf, typeInfo, hinf]
      · cases h
    · cases h
  · rename_i s hu
    split at h
    · rename_i k l
      simp only [Option.some.injEq] at h; subst h
      obtain ⟨h1, _⟩ := ho
      have h1 : 0 ≤ l ∧ l ≤ (s.size : Int) := h1
      simp [Instr.sliceAt, Instr.slice, run_underlying hu, Instr.sliceBounds, Instr.sliceBound, asIntOf, h1.1, h1.2]
    · rename_i k hh
      simp only [Option.some.injEq] at h; subst h
      obtain ⟨h1, _⟩ := ho
      have h1 : 0 ≤ hh ∧ hh ≤ (s.size : Int) := h1
      simp [Instr.sliceAt, Instr.slice, run_underlying hu, Instr.sliceBounds, Instr.sliceBound, asIntOf, h1.1, h1.2]
    · rename_i k hh k2 l
      simp only [Option.some.injEq] at h; subst h
      obtain ⟨h1, h2, _⟩ := ho
      have h1 : 0 ≤ hh ∧ hh ≤ (s.size : Int) := h1
      have h2 : 0 ≤ l ∧ l ≤ hh := h2
      have h4 : ¬ max hh 0 < l := by omega
      simp [Instr.sliceAt, Instr.slice, run_underlying hu, Instr.sliceBounds, Instr.sliceBound, asIntOf, h1.1, h1.2, h2.1, h4]
    · cases h
  · cases h

def convV (P : Program) (s d : TypeId) (x : Value) (ora : List Value) : Option Out :=
  match P.underlying s, P.underlying d, x with
  | some (.int _), some (.int k), .int _ n => some (.int k (k.wrap n), ora, [])
  | some (.int _), some (.float k), .int _ n => some (.float k (k.nearest n), ora, [])
  | some (.float _), some (.float k), .float s b => if s = k then some (.float k b, ora, []) else none
  | some (.float _), some (.int k), .float s b => match ora with
    | .int k' n :: ora' => if k' = k then some (.int k n, ora', [.is (floatToIntVal s b k = some n)]) else none
    | _ => none
  | _, _, _ => none

theorem convV_sound {P : Program} {w : World} {s d : TypeId} {x : Value} {ora : List Value} {o : Out} (h : convV P s d x ora = some o) (ho : obs w o.2.2) :
    (convert s d x).run P w = .ok o.1 w := by
  unfold convV at h
  split at h
  · rename_i hs hd
    simp only [Option.some.injEq] at h; subst h
    simp [convert, run_underlying hs, run_underlying hd, Conv.intToInt]
  · rename_i hs hd
    simp only [Option.some.injEq] at h; subst h
    simp [convert, run_underlying hs, run_underlying hd, Conv.intToFloat]
  · rename_i hs hd
    split at h
    · rename_i hk
      subst hk
      simp only [Option.some.injEq] at h; subst h
      simp [convert, run_underlying hs, run_underlying hd, Conv.floatToFloat]
    · cases h
  · rename_i hs hd
    split at h
    · split at h
      · rename_i hk
        subst hk
        simp only [Option.some.injEq] at h; subst h
        exact run_convert_float_int _ _ _ _ _ _ _ (by rw [hs]; rfl) hd ho.1
      · cases h
    · cases h
  · cases h

def lenV (P : Program) (t : TypeId) (x : Value) (ora : List Value) : Option Out :=
  match P.underlying t, x with
  | some (.slice _), .slice _ n _ => some (.int .i64 n, ora, [])
  | some .string, .string s => some (.int .i64 s.size, ora, [])
  | some (.array n _), _ => some (.int .i64 n, ora, [])
  | _, _ => none

def builtinV (P : Program) (b : Builtin) (ts : List TypeId) (xs : List Value) (ora : List Value) : Option Out :=
  match b, ts, xs with
  | .len, [t], [x] => lenV P t x ora
  | .max, [_, _], [.int k x, .int _ y] => some (.int k (if y > x then y else x), ora, [])
  | .min, [_, _], [.int k x, .int _ y] => some (.int k (if y < x then y else x), ora, [])
  | _, _, _ => none

theorem builtinV_sound {P : Program} {w : World} {b : Builtin} {ts : Array TypeId} {ty : TypeId} {cs : Array Bool} {xs : Array Value} {ora : List Value} {o : Out}
    (h : builtinV P b ts.toList xs.toList ora = some o) : (builtin b ts ty cs xs).run P w = .ok (.value o.1) w := by
  obtain ⟨ts⟩ := ts
  obtain ⟨xs⟩ := xs
  simp only at h
  unfold builtinV at h
  split at h
  · unfold lenV at h
    split at h
    · rename_i hu; simp only [Option.some.injEq] at h; subst h; simp [builtin, Builtin.len_, run_underlying hu, goInt]
    · rename_i hu; simp only [Option.some.injEq] at h; subst h; simp [builtin, Builtin.len_, run_underlying hu, goInt]
    · rename_i hu; simp only [Option.some.injEq] at h; subst h; simp [builtin, Builtin.len_, run_underlying hu, goInt]
    · cases h
  · simp only [Option.some.injEq] at h; subst h; simp [builtin, Builtin.max_, Builtin.max2]
  · simp only [Option.some.injEq] at h; subst h; simp [builtin, Builtin.min_, Builtin.min2]
  · cases h

/-- two Bools, two pointers held against each other -/
def shV (op : BinOp) (x y : Value) (ora : List Value) : Option Out :=
  match x, y with
  | .int k a, .int _ (.ofNat m) => match op with
    | .shl => some (.int k (k.wrap (a * 2 ^ (min m k.bits))), ora, [])
    | .shr => some (.int k (a.fdiv (2 ^ (min m k.bits))), ora, [])
    | _ => none
  | _, _ => none

theorem shV_sound {P : Program} {w : World} {op : BinOp} {t : TypeId} {x y : Value} {ora : List Value} {o : Out} {p q : Operand} (h : shV op x y ora = some o) :
    (eqGuard op t p q x y).run P w = .ok () w ∧ (binOp op t x y).run P w = .ok o.1 w := by
  unfold shV at h
  split at h
  · rename_i k a k' m
    have hm : ¬ (Int.ofNat m < 0) := by simp
    cases op <;> simp only [Option.some.injEq, reduceCtorEq] at h <;> subst h
    · refine ⟨rfl, ?_⟩
      rw [binOp_shl]
      unfold Op.shift
      rw [if_neg hm]; rfl
    · refine ⟨rfl, ?_⟩
      rw [binOp_shr]
      unfold Op.shift
      rw [if_neg hm]; rfl
  · cases h

def eqV (P : Program) (op : BinOp) (t : TypeId) (x y : Value) (ora : List Value) : Option Out :=
  match shV op x y ora with
  | some o => some o
  | none =>
  match P.underlying t, x, y with
  | some .bool, .bool a, .bool b => match op with
    | .eql => match ora with | .bool t :: r => some (.bool t, r, [.is ((a == b) = t)]) | _ => none
    | .neq => match ora with | .bool t :: r => some (.bool t, r, [.is ((a != b) = t)]) | _ => none
    | _ => none
  | some (.pointer _), .pointer (some _), .pointer none => match op with
    | .eql => some (.bool false, ora, [])
    | .neq => some (.bool true, ora, [])
    | _ => none
  | some (.pointer _), .pointer none, .pointer none => match op with
    | .eql => some (.bool true, ora, [])
    | .neq => some (.bool false, ora, [])
    | _ => none
  | some (.func _ _ _), .func _ _ _, .nilFunc => match op with
    | .eql => some (.bool false, ora, [])
    | .neq => some (.bool true, ora, [])
    | _ => none
  | some (.func _ _ _), .nilFunc, .nilFunc => match op with
    | .eql => some (.bool true, ora, [])
    | .neq => some (.bool false, ora, [])
    | _ => none
  | some (.slice _), .slice (some _) _ _, .slice none _ _ => match op with
    | .eql => some (.bool false, ora, [])
    | .neq => some (.bool true, ora, [])
    | _ => none
  | some (.slice _), .slice none _ _, .slice none _ _ => match op with
    | .eql => some (.bool true, ora, [])
    | .neq => some (.bool false, ora, [])
    | _ => none
  | _, _, _ => none

section
variable {P : Program} {w : World} {t : TypeId} (d : Nat)
theorem run_eq_bool (hu : P.underlying t = some .bool) (a b : Bool) : (Op.equalIn (d + 1) t (.bool a) (.bool b)).run P w = .ok (a == b) w := by
  simp [Op.equalIn, run_underlying hu]
theorem run_eq_ptr1 {e : TypeId} (hu : P.underlying t = some (.pointer e)) (a : Addr) : (Op.equalIn (d + 1) t (.pointer (some a)) (.pointer none)).run P w = .ok false w := by
  simp [Op.equalIn, run_underlying hu]
theorem run_eq_ptr0 {e : TypeId} (hu : P.underlying t = some (.pointer e)) : (Op.equalIn (d + 1) t (.pointer none) (.pointer none)).run P w = .ok true w := by
  simp [Op.equalIn, run_underlying hu]
theorem run_eq_fn1 {ps rs : Array TypeId} {v : Bool} (hu : P.underlying t = some (.func ps rs v)) (f : Fn) (x y : Array Value) : (Op.equalIn (d + 1) t (.func f x y) .nilFunc).run P w = .ok false w := by
  simp [Op.equalIn, run_underlying hu]
theorem run_eq_sl1 {e : TypeId} (hu : P.underlying t = some (.slice e)) (a : Addr) (n c n' c' : Nat) : (Op.equalIn (d + 1) t (.slice (some a) n c) (.slice none n' c')).run P w = .ok false w := by
  simp [Op.equalIn, run_underlying hu]
theorem run_eq_sl0 {e : TypeId} (hu : P.underlying t = some (.slice e)) (n c n' c' : Nat) : (Op.equalIn (d + 1) t (.slice none n c) (.slice none n' c')).run P w = .ok true w := by
  simp [Op.equalIn, run_underlying hu]
theorem run_eq_fn0 {ps rs : Array TypeId} {v : Bool} (hu : P.underlying t = some (.func ps rs v)) : (Op.equalIn (d + 1) t .nilFunc .nilFunc).run P w = .ok true w := by
  simp [Op.equalIn, run_underlying hu]
end

theorem eql_of {P : Program} {w : World} {t : TypeId} {x y : Value} {b : Bool} (he : (Op.equal t x y).run P w = .ok b w) : (do pure (.bool (← Op.equal t x y)) : Sem Value).run P w = .ok (.bool b) w := by
  simp only [Sem.run_bind, he, Result.andThen_ok, Sem.run_pure]
theorem neq_of {P : Program} {w : World} {t : TypeId} {x y : Value} {b : Bool} (he : (Op.equal t x y).run P w = .ok b w) : (do pure (.bool (!(← Op.equal t x y))) : Sem Value).run P w = .ok (.bool !b) w := by
  simp only [Sem.run_bind, he, Result.andThen_ok, Sem.run_pure]

theorem eqV_sound {P : Program} {w : World} {op : BinOp} {t : TypeId} {x y : Value} {ora : List Value} {o : Out} {p q : Operand} (h : eqV P op t x y ora = some o) (ho : obs w o.2.2) :
    (eqGuard op t p q x y).run P w = .ok () w ∧ (binOp op t x y).run P w = .ok o.1 w := by
  unfold eqV at h
  split at h
  · rename_i o' ho'
    simp only [Option.some.injEq] at h
    subst h
    exact shV_sound ho'
  rename_i hsh
  clear hsh
  split at h
  · rename_i a b hu
    have he : (Op.equal t (.bool a) (.bool b)).run P w = .ok (a == b) w := run_eq_bool 9999 hu a b
    cases op <;> first | (cases h; done) | dsimp only at h
    · split at h
      · rename_i t' r'
        simp only [Option.some.injEq] at h
        subst h
        have hb : (a == b) = t' := ho.1
        refine ⟨rfl, ?_⟩
        have : (binOp .eql t (.bool a) (.bool b)).run P w = .ok (.bool (a == b)) w := eql_of he
        rw [this, hb]
      · cases h
    · split at h
      · rename_i t' r'
        simp only [Option.some.injEq] at h
        subst h
        have hb : (a != b) = t' := ho.1
        refine ⟨rfl, ?_⟩
        have : (binOp .neq t (.bool a) (.bool b)).run P w = .ok (.bool !(a == b)) w := neq_of he
        rw [this, ← hb]; rfl
      · cases h
  · rename_i e a hu
    have he : (Op.equal t (.pointer (some a)) (.pointer none)).run P w = .ok false w := run_eq_ptr1 9999 hu a
    cases op <;> simp only [Option.some.injEq, reduceCtorEq] at h <;> subst h
    · exact ⟨rfl, eql_of he⟩
    · exact ⟨rfl, neq_of he⟩
  · rename_i e hu
    have he : (Op.equal t (.pointer none) (.pointer none)).run P w = .ok true w := run_eq_ptr0 9999 hu
    cases op <;> simp only [Option.some.injEq, reduceCtorEq] at h <;> subst h
    · exact ⟨rfl, eql_of he⟩
    · exact ⟨rfl, neq_of he⟩
  · rename_i ps rs v f fi ca hu
    have he : (Op.equal t (.func f fi ca) .nilFunc).run P w = .ok false w := run_eq_fn1 9999 hu f fi ca
    cases op <;> simp only [Option.some.injEq, reduceCtorEq] at h <;> subst h
    · exact ⟨rfl, eql_of he⟩
    · exact ⟨rfl, neq_of he⟩
  · rename_i ps rs v hu
    have he : (Op.equal t .nilFunc .nilFunc).run P w = .ok true w := run_eq_fn0 9999 hu
    cases op <;> simp only [Option.some.injEq, reduceCtorEq] at h <;> subst h
    · exact ⟨rfl, eql_of he⟩
    · exact ⟨rfl, neq_of he⟩
  · rename_i e a n c n' c' hu
    have he : (Op.equal t (.slice (some a) n c) (.slice none n' c')).run P w = .ok false w := run_eq_sl1 9999 hu a n c n' c'
    cases op <;> simp only [Option.some.injEq, reduceCtorEq] at h <;> subst h
    · exact ⟨rfl, eql_of he⟩
    · exact ⟨rfl, neq_of he⟩
  · rename_i e n c n' c' hu
    have he : (Op.equal t (.slice none n c) (.slice none n' c')).run P w = .ok true w := run_eq_sl0 9999 hu n c n' c'
    cases op <;> simp only [Option.some.injEq, reduceCtorEq] at h <;> subst h
    · exact ⟨rfl, eql_of he⟩
    · exact ⟨rfl, neq_of he⟩
  · cases h

/-- a struct written out -/
def evpl (e : Env) : List (Nat × Operand) → Option (List (Nat × Value))
  | [] => some []
  | (i, x) :: r => match ev e x, evpl e r with
    | some v, some vs => some ((i, v) :: vs)
    | _, _ => none

theorem evpl_sound {n : Nat} {a : Act} {e : Env} (hf : Fr n a e) : ∀ {l : List (Nat × Operand)} {vs : List (Nat × Value)}, evpl e l = some vs → l.map (fun p => (p.1, a.eval p.2)) = vs
  | [], vs, h => by simpa [evpl] using h
  | (i, x) :: r, vs, h => by
    simp only [evpl] at h
    split at h
    · rename_i v us h1 h2
      simp only [Option.some.injEq] at h
      subst h
      simp [ev_sound hf h1, evpl_sound hf h2]
    · cases h

def placesV (P : Program) : List Field → Option (List (Nat × Nat))
  | [] => some []
  | f :: r => match P.info? f.type, placesV P r with
    | some i, some l => some ((f.offset, i.size) :: l)
    | _, _ => none

theorem placesV_sound {P : Program} {w : World} : ∀ {fs : List Field} {l : List (Nat × Nat)}, placesV P fs = some l →
    (fs.mapM (fun f => do pure (f.offset, ← sizeOf f.type) : Field → Sem (Nat × Nat))).run P w = .ok l w
  | [], l, h => by simp only [placesV, Option.some.injEq] at h; subst h; simp
  | f :: r, l, h => by
    simp only [placesV] at h
    split at h
    · rename_i i l' h1 h2
      simp only [Option.some.injEq] at h
      subst h
      have ih := placesV_sound (w := w) h2
      rw [List.mapM_cons]
      simp only [Sem.run_bind, sizeOf, typeInfo, run_program, h1, Result.andThen_ok, Sem.run_pure]
      simp only [sizeOf, typeInfo] at ih
      rw [ih]
      rfl
    · cases h

def buildV (P : Program) (t : TypeId) (ps : List (Nat × Value)) (ora : List Value) : Option Out :=
  match P.underlying t, P.info? t with
  | some (.struct fs), some i => match i.zero, placesV P fs.toList with
    | some z, some l => (Instr.fill (l.toArray[·]?) z.cells ps).map fun cs => (.agg cs, ora, [])
    | _, _ => none
  | _, _ => none

theorem buildV_sound {P : Program} {w : World} {t : TypeId} {ps : Array (Nat × Value)} {ora : List Value} {o : Out} (h : buildV P t ps.toList ora = some o) : (Instr.build t ps).run P w = .ok o.1 w := by
  unfold buildV at h
  split at h
  · rename_i fs i hu hi
    split at h
    · rename_i z l hz hl
      obtain ⟨cs, hc, rfl⟩ := Option.map_eq_some_iff.1 h
      have h1 := placesV_sound (w := w) hl
      have h2 : (fs.mapM (fun f => do pure (f.offset, ← sizeOf f.type) : Field → Sem (Nat × Nat))).run P w = .ok l.toArray w := by
        rw [Array.mapM_eq_mapM_toList]; simp only [Sem.run_map, h1]; rfl
      simp only [Instr.build, Sem.run_bind, zeroValue, typeInfo, run_program, hi, hz, Result.andThen_ok, Sem.run_pure, run_underlying hu, h2, hc]
    · cases h
  · cases h

/-- one operation that computes or reads -/
def one (P : Program) (e : Env) (o : Oper) (ora : List Value) : Option Out :=
  match o.op with
  | .move x => (ev e x).map fun v => (v, ora, [])
  | .assign x => (ev e x).map fun v => (v, ora, [])
  | .pick c x y => match ev e c with
    | some (.bool true) => (ev e x).map fun v => (v, ora, [])
    | some (.bool false) => (ev e y).map fun v => (v, ora, [])
    | _ => none
  | .binOp op t x y _ => match ev e x, ev e y with
    | some a, some b => match binV op a b ora with
      | some out => some out
      | none => eqV P op t a b ora
    | _, _ => none
  | .build t ps => match evpl e ps.toList with | some vs => buildV P t vs ora | none => none
  | .unOp op _ x => match op, ev e x with
    | .not, some (.bool b) => some (.bool (!b), ora, [])
    | .neg, some (.int k n) => some (.int k (k.wrap (0 - n)), ora, [])
    | .neg, some (.float k b) => some (.float k (Op.negFloat k b), ora, [])
    | _, _ => none
  | .convert s d x => match ev e x with | some v => convV P s d v ora | none => none
  | .extract x i => match ev e x with
    | some (.tuple vs) => (vs[i]?).map fun v => (v, ora, [])
    | _ => none
  | .field t x f => match ev e x with | some v => fieldV P t v f ora | none => none
  | .index t x i => match ev e x, ev e i with | some v, some j => indexV P t v j ora | _, _ => none
  | .indexAddr t x i => match ev e x, ev e i with | some v, some j => indexAddrV P t v j ora | _, _ => none
  | .fieldAddr t x f => match ev e x with | some v => fieldAddrV P t v f ora | none => none
  | .load t x => match ev e x with | some (.pointer (some a)) => loadV P t a ora | _ => none
  | .nilCheck x => match ev e x with | some (.pointer (some a)) => some (.pointer (some a), ora, []) | _ => none
  | .slice t x lo hi mx => match mx, ev e x with
    | none, some v => match lo, hi with
      | none, none => none
      | some l, none => match ev e l with | some a => sliceV P t v (some a) none ora | none => none
      | none, some h => match ev e h with | some b => sliceV P t v none (some b) ora | none => none
      | some l, some h => match ev e l, ev e h with | some a, some b => sliceV P t v (some a) (some b) ora | _, _ => none
    | _, _ => none
  | .makeFunc fn a b => match evs e a.toList, evs e b.toList with | some x, some y => some (.func fn x.toArray y.toArray, ora, []) | _, _ => none
  | .call c => match c.callee with
    | .builtin b => match evs e c.args.toList with | some xs => builtinV P b c.argTypes.toList xs ora | none => none
    | _ => none
  | _ => none

theorem one_sound {P : Program} {w : World} {n : Nat} {a : Act} {e : Env} (hf : Fr n a e) {o : Oper} {ora : List Value} {out : Out} (h : one P e o ora = some out) (ho : obs w out.2.2) :
    (execOp a.eval o).run P w = .ok (.value out.1) w := by
  obtain ⟨dst, op, ty, pos, after, guard⟩ := o
  unfold one at h
  cases op <;> simp only [] at h <;> try (cases h; done)
  case move x => obtain ⟨v, hv, rfl⟩ := Option.map_eq_some_iff.1 h; simp [execOp, ev_sound hf hv]
  case assign x => obtain ⟨v, hv, rfl⟩ := Option.map_eq_some_iff.1 h; simp [execOp, ev_sound hf hv]
  case pick c x y =>
    split at h
    · rename_i hc; obtain ⟨v, hv, rfl⟩ := Option.map_eq_some_iff.1 h; simp [execOp, ev_sound hf hv, ev_sound hf hc, asBool]
    · rename_i hc; obtain ⟨v, hv, rfl⟩ := Option.map_eq_some_iff.1 h; simp [execOp, ev_sound hf hv, ev_sound hf hc, asBool]
    · cases h
  case binOp op t x y u =>
    split at h
    · rename_i v1 v2 h1 h2
      split at h
      · rename_i out' hb
        simp only [Option.some.injEq] at h
        subst h
        simp [execOp, ev_sound hf h1, ev_sound hf h2, eqGuard_pass hb, binV_sound hb ho]
      · have hq := eqV_sound (w := w) (p := x) (q := y) h ho
        simp only [execOp, ev_sound hf h1, ev_sound hf h2, Sem.run_bind, hq.1, hq.2, Result.andThen_ok, Sem.run_pure]
    · cases h
  case build t ps =>
    split at h
    · rename_i vs hv
      have e1 : (ps.map fun p => (p.1, a.eval p.2)).toList = vs := by rw [Array.toList_map]; exact evpl_sound hf hv
      rw [← e1] at h
      have := buildV_sound (w := w) h
      simp only [execOp, Sem.run_bind]
      rw [this]
      rfl
    · cases h
  case unOp op t x =>
    split at h
    · rename_i b hb; simp only [Option.some.injEq] at h; subst h; simp [execOp, ev_sound hf hb, Op.unary]
    · rename_i b hb; simp only [Option.some.injEq] at h; subst h; simp [execOp, ev_sound hf hb, Op.unary, Op.intArith]
    · rename_i b hb; simp only [Option.some.injEq] at h; subst h; simp [execOp, ev_sound hf hb, Op.unary]
    · cases h
  case convert s d x =>
    split at h
    · rename_i v hv; simp [execOp, ev_sound hf hv, convV_sound h ho]
    · cases h
  case extract x i =>
    split at h
    · rename_i vs hv; obtain ⟨v, hv', rfl⟩ := Option.map_eq_some_iff.1 h; simp [execOp, ev_sound hf hv, Instr.extract, hv']
    · cases h
  case field t x f =>
    split at h
    · rename_i v hv; simp [execOp, ev_sound hf hv, fieldV_sound h]
    · cases h
  case index t x i =>
    split at h
    · rename_i v j hv hj; simp [execOp, ev_sound hf hv, ev_sound hf hj, indexV_sound h ho]
    · cases h
  case indexAddr t x i =>
    split at h
    · rename_i v j hv hj; simp [execOp, ev_sound hf hv, ev_sound hf hj, indexAddrV_sound h ho]
    · cases h
  case fieldAddr t x f =>
    split at h
    · rename_i v hv; simp [execOp, ev_sound hf hv, fieldAddrV_sound h]
    · cases h
  case load t x =>
    split at h
    · rename_i a hv; simp [execOp, ev_sound hf hv, Instr.loadAt, Instr.sureAddr, loadV_sound h ho]
    · cases h
  case nilCheck x =>
    split at h
    · rename_i a hv; simp only [Option.some.injEq] at h; subst h; simp [execOp, ev_sound hf hv]
    · cases h
  case slice t x lo hi mx =>
    split at h
    · rename_i v hv
      split at h
      · cases h
      · split at h
        · rename_i u hu; simp [execOp, ev_sound hf hv, ev_sound hf hu, sliceV_sound h ho]
        · cases h
      · split at h
        · rename_i u hu; simp [execOp, ev_sound hf hv, ev_sound hf hu, sliceV_sound h ho]
        · cases h
      · split at h
        · rename_i u u2 hu hu2; simp [execOp, ev_sound hf hv, ev_sound hf hu, ev_sound hf hu2, sliceV_sound h ho]
        · cases h
    · cases h
  case makeFunc fn x y =>
    split at h
    · rename_i u1 u2 h1 h2
      simp only [Option.some.injEq] at h; subst h
      have e1 : x.map a.eval = u1.toArray := map_evs (n := n) (e := e) (evs_sound hf h1)
      have e2 : y.map a.eval = u2.toArray := map_evs (n := n) (e := e) (evs_sound hf h2)
      simp [execOp, Instr.makeFunc, e1, e2]
    · cases h
  case call c =>
    obtain ⟨callee, args, ts⟩ := c
    cases callee <;> simp only [] at h <;> try (cases h; done)
    rename_i b
    split at h
    · rename_i xs hx
      have e1 : args.map a.eval = xs.toArray := map_evs (n := n) (e := e) (evs_sound hf hx)
      have := builtinV_sound (w := w) (ty := ty) (cs := args.map fun | .const _ => true | _ => false) (ts := ts) (xs := xs.toArray) h
      simp only [execOp, resolve, invoke, Sem.run_bind, Sem.run_pure, Result.andThen_ok, e1]
      exact this
    · cases h

/-! ### many operations -/
def guardOk (ops : List Oper) (e : Env) (o : Oper) : Option Bool :=
  match o.guard with
  | none => some true
  | some (j, want) => match ops[j]? with
    | some oj => match oj.dst with
      | some d => match look e d with
        | some (.bool b) => some (bif b then want else !want)
        | some (.tuple _) => some false
        | _ => none
      | none => none
    | none => none

theorem guardOk_sound {n : Nat} {a : Act} {e : Env} (hf : Fr n a e) {ops : Array Oper} {o : Oper} {b : Bool} (h : guardOk ops.toList e o = some b) :
    Region.wanted o (yielded ops a.tmps) = b := by
  unfold guardOk at h
  unfold Region.wanted
  split at h
  · rename_i hg; simp only [Option.some.injEq] at h; subst h; rw [hg]
  · rename_i j want hg
    rw [hg]
    split at h
    · rename_i oj hj
      split at h
      · rename_i d hd
        split at h
        · rename_i c hc
          simp only [Option.some.injEq] at h; subst h
          have := hf.get d _ hc
          have hj' : ops[j]? = some oj := by simpa using hj
          simp only [yielded, hj', Option.bind_some, hd, this]
          cases c <;> cases want <;> rfl
        · rename_i c hc
          simp only [Option.some.injEq] at h; subst h
          have := hf.get d _ hc
          have hj' : ops[j]? = some oj := by simpa using hj
          simp only [yielded, hj', Option.bind_some, hd, this]
          cases want <;> rfl
        · cases h
      · cases h
    · cases h

def run (P : Program) (n : Nat) (ops : List Oper) : List Oper → Env → List Value → Option (Env × List Value × List Ob)
  | [], e, ora => some (e, ora, [])
  | o :: r, e, ora =>
    match guardOk ops e o with
    | some true => match one P e o ora with
      | some (v, ora', ob) => match o.dst with
        | some d => bif Nat.blt d n then match run P n ops r ((d, v) :: e) ora' with
          | some (e', ora'', ob') => some (e', ora'', ob ++ ob')
          | none => none
          else none
        | none => none
      | none => none
    | some false => match o.dst with
      | some d => bif Nat.blt d n then run P n ops r ((d, undef) :: e) ora else none
      | none => none
    | none => none

theorem run_sound {P : Program} {n : Nat} {ops : Array Oper} {Q : Exit → Act → World → Prop} {w : World} {rest : List Oper} :
    ∀ (l : List Oper) {a : Act} {e : Env} {ora : List Value} {x : Env × List Value × List Ob}, Fr n a e → run P n ops.toList l e ora = some x → obs w x.2.2 →
      (∀ a', Fr n a' x.1 → wpList P ops Q rest a' w) → wpList P ops Q (l ++ rest) a w
  | [], a, e, ora, x, hf, hr, ho, hk => by
    simp only [run, Option.some.injEq] at hr
    subst hr
    exact hk a hf
  | o :: l, a, e, ora, x, hf, hr, ho, hk => by
    simp only [run] at hr
    split at hr
    · rename_i hg
      split at hr
      · rename_i v ora' ob h1
        split at hr
        · rename_i d hd
          cases hb : Nat.blt d n
          · rw [hb] at hr; cases hr
          · rw [hb] at hr
            simp only [cond_true] at hr
            split at hr
            · rename_i e' ora'' ob' h2
              simp only [Option.some.injEq] at hr
              subst hr
              obtain ⟨ho1, ho2⟩ := obs_append ho
              have hx := one_sound (w := w) hf h1 ho1
              have hlt : d < n := Nat.le_of_ble_eq_true hb
              have ih := run_sound l (hf.put (v := v) hlt) h2 ho2 hk
              show wpList P ops Q (o :: (l ++ rest)) a w
              unfold wpList
              rw [guardOk_sound hf hg, if_pos rfl]
              refine .inl ?_
              simp only [Oper.wp, hx, Oper.upon, hd]
              exact ih
            · cases hr
        · cases hr
      · cases hr
    · rename_i hg
      split at hr
      · rename_i d hd
        cases hb : Nat.blt d n
        · rw [hb] at hr; cases hr
        · rw [hb] at hr
          simp only [cond_true] at hr
          have hlt : d < n := Nat.le_of_ble_eq_true hb
          have ih := run_sound l (hf.put (v := undef) hlt) hr ho hk
          show wpList P ops Q (o :: (l ++ rest)) a w
          unfold wpList
          rw [guardOk_sound hf hg]
          simp only [Bool.false_eq_true, if_false, hd]
          exact ih
      · cases hr
    · cases hr

/-- a run, and the slots that are kept -/
def runs (P : Program) (n : Nat) (ops l : List Oper) (e : Env) (ora : List Value) (keep : List Nat) : Option (Env × List Ob) :=
  match run P n ops l e ora with
  | some (e', [], ob) => match sel e' keep with
    | some e'' => some (e'', ob)
    | none => none
  | _ => none

theorem runs_spec {P : Program} {n : Nat} {ops l : List Oper} {e : Env} {ora : List Value} {keep : List Nat} {e' : Env} {ob : List Ob} (h : runs P n ops l e ora keep = some (e', ob)) :
    ∃ x, run P n ops l e ora = some x ∧ sel x.1 keep = some e' ∧ x.2.2 = ob := by
  unfold runs at h
  split at h
  · rename_i e1 ob1 h1
    split at h
    · rename_i e2 h2
      simp only [Option.some.injEq, Prod.mk.injEq] at h
      obtain ⟨rfl, rfl⟩ := h
      exact ⟨_, h1, h2, rfl⟩
    · cases h
  · cases h

/-- THE STEP: the first m operations of what is left of a region, in order. -/
theorem go {P : Program} {n : Nat} {ops : Array Oper} {Q : Exit → Act → World → Prop} {w : World} {l : List Oper} {a : Act} {e : Env} (m : Nat) (ora : List Value) (keep : List Nat) (e' : Env) (ob : List Ob)
    (hf : Fr n a e) (hr : runs P n ops.toList (l.take m) e ora keep = some (e', ob)) (ho : obs w ob) (hk : ∀ a', Fr n a' e' → wpList P ops Q (l.drop m) a' w) : wpList P ops Q l a w := by
  obtain ⟨x, h1, h2, h3⟩ := runs_spec hr
  have := run_sound (Q := Q) (w := w) (rest := l.drop m) (l.take m) hf h1 (by rw [h3]; exact ho) (fun a' hf' => hk a' (hf'.sel h2))
  rwa [List.take_append_drop] at this

/-- THE STEP: a whole region, in order. -/
theorem reg {P : Program} {n id : Nat} {ops : Array Oper} {Q : Exit → Act → World → Prop} {w : World} {a : Act} {e : Env} (ora : List Value) (keep : List Nat) (e' : Env) (ob : List Ob)
    (hf : Fr n a e) (hr : runs P n ops.toList ops.toList e ora keep = some (e', ob)) (ho : obs w ob) (hk : ∀ a', Fr n a' e' → Q .normal a' w) : (Code.region id ops false).wp P Q a w := by
  refine wp_region_list ?_
  obtain ⟨x, h1, h2, h3⟩ := runs_spec hr
  have := run_sound (Q := Q) (w := w) (rest := []) ops.toList hf h1 (by rw [h3]; exact ho) (fun a' hf' => hk a' (hf'.sel h2))
  simpa using this

end Go.Proofs.YtkdhahdfkonilaaDoor
