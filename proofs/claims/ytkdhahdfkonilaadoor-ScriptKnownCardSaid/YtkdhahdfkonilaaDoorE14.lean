/- The engine, part 14: strings. -/
import Derived.Test.YtkdhahdfkonilaaDoorE13
import Derived.Laws.BytesArg
namespace Go.Proofs.YtkdhahdfkonilaaDoor
open Go Go.RowKit
set_option linter.unusedSimpArgs false
set_option linter.unusedVariables false

/-- a string of these bytes -/
def bs (l : List UInt8) : ByteArray := ⟨l.toArray⟩
theorem bs_inj {a b : List UInt8} (h : bs a = bs b) : a = b := by
  have := congrArg (fun x : ByteArray => x.data.toList) h
  exact this
theorem bs_data (s : ByteArray) : bs s.data.toList = s := rfl
theorem bs_append (a b : List UInt8) : bs (a ++ b) = bs a ++ bs b := by
  apply bytes_eq
  rw [ByteArray.data_append]
  simp [bs]
theorem catOk {a b : List UInt8} (h : a.length + b.length ≤ 9223372036854775807) : bs (a ++ b) = bs a ++ bs b ∧ (bs a).size + (bs b).size ≤ 9223372036854775807 := ⟨bs_append a b, h⟩
theorem seT {a b : List UInt8} (h : a = b) : decide (bs a = bs b) = true := decide_eq_true (congrArg bs h)
theorem seF {a b : List UInt8} (h : ¬ a = b) : decide (bs a = bs b) = false := decide_eq_false (fun c => h (bs_inj c))
theorem snT {a b : List UInt8} (h : ¬ a = b) : (!decide (bs a = bs b)) = true := by rw [seF h]; rfl
theorem snF {a b : List UInt8} (h : a = b) : (!decide (bs a = bs b)) = false := by rw [seT h]; rfl
/-- a byte of a string -/
def chr (l : List UInt8) (i : Int) : Int := ((l.getD i.toNat 0).toNat : Int)
theorem chr_eq (l : List UInt8) (i : Int) : ((((bs l)[i.toNat]?).getD 0).toNat : Int) = chr l i := by
  unfold chr
  congr 2
  by_cases h : i.toNat < l.length
  · have h1 : i.toNat < (bs l).size := h
    rw [getElem?_pos (bs l) i.toNat h1]
    simp only [Option.getD_some, List.getD, List.getElem?_eq_getElem h]
    rfl
  · have h1 : ¬ i.toNat < (bs l).size := h
    rw [getElem?_neg (bs l) i.toNat h1]
    simp [List.getD, List.getElem?_eq_none (Nat.le_of_not_lt h)]

def Kd.str : Kd (List UInt8) where
  n := 1
  rep := fun _ _ cs x => cs = [.string (bs x)]
  len := by rintro S w cs x rfl; rfl
  one := by rintro S w cs x rfl u hu; simp at hu; subst hu; rfl
  move := fun _ _ h => h

section
variable {S : Nat → Prop} {w : World} {base : Nat} {E : TypeId} {A : Option Addr} {c : Nat} {xs : List (List UInt8)}
theorem Sl.str (h : Sl Kd.str S w A xs) (i : Int) (h0 : 0 ≤ i) (h1 : i < (xs.length : Int)) : A.isSome = true ∧ w.cell? ((ad A).add (i.toNat * 1)) = some (.string (bs (rd xs i))) := by
  obtain ⟨q1, us, q2, q3⟩ := h.get i h0 h1
  have q2 : us = _ := q2
  subst q2
  exact ⟨q1, q3 0 _ rfl⟩
theorem Ow.str (h : Ow Kd.str S base E w A c xs) (i : Int) (h0 : 0 ≤ i) (h1 : i < (xs.length : Int)) : A.isSome = true ∧ w.cell? ((ad A).add (i.toNat * 1)) = some (.string (bs (rd xs i))) := by
  obtain ⟨q1, us, q2, q3⟩ := h.cells i h0 h1
  have q2 : us = _ := q2
  subst q2
  exact ⟨q1, q3 0 _ rfl⟩
end

/-! ### a row of bytes becomes a string -/
def bytesOf (xs : List Int) : List UInt8 := xs.map fun n => UInt8.ofNat n.toNat
def strO (P : Program) (e : Env) (o : Oper) : Option (Option Addr × Nat × Nat × Tmp) :=
  match o.op, o.dst with
  | .convert s d x, some t => match P.underlying s, P.underlying d, ev e x with
    | some (.slice el), some .string, some (.slice A k c) => match P.underlying el with
      | some (.int .u8) => some (A, k, c, t)
      | _ => none
    | _, _, _ => none
  | _, _ => none

theorem run_bytes {P : Program} {w : World} {M : List (Option Nat)} {s el d : TypeId} {A : Option Addr} {c : Nat} {xs : List Int} (h1 : P.underlying s = some (.slice el)) (h2 : P.underlying el = some (.int .u8)) (h3 : P.underlying d = some .string)
    (hs : Sl (Kd.int .u8) (U M) w A xs) : (convert s d (.slice A xs.length c)).run P w = .ok (.string (bs (bytesOf xs))) w := by
  rcases hs with rfl | ⟨b, o, rfl, _, _, he⟩
  · cases A with
    | none => exact run_convert_bytes_nil w s el h1 h2 _ _ d h3
    | some a =>
      rw [run_convert_bytes_string w s d el _ _ c h1 h2 h3, List.length_nil, run_bytesToString w a 0 c [] (by simp [loadCells, loadCellsFrom])]
      rfl
  · exact run_convert_bytes_arg w s el h1 h2 b o _ c xs rfl (fun i hi => by
      obtain ⟨us, q1, q2⟩ := he i hi
      have q1 : us = _ := q1
      subst q1
      have := q2 0 _ rfl
      have e : (Kd.int .u8).n = 1 := rfl
      rw [e, Nat.mul_one, Nat.add_zero] at this
      rw [this]
      simp [List.getD, hi]) d h3

section
variable {P : Program} {n : Nat} {a : Act} {w : World} {e : Env} {o : Oper} {K : Act → World → Prop} {Q : Exit → Act → World → Prop}
theorem aStr {M : List (Option Nat)} {A : Option Addr} {k c : Nat} {xs : List Int} {d : Tmp} (hf : Fr n a e) (hc : strO P e o = some (A, k, c, d)) (hd : Nat.blt d n = true) (hk1 : k = xs.length) (hs : Sl (Kd.int .u8) (U M) w A xs)
    (hk : ∀ a', Fr n a' ((d, .string (bs (bytesOf xs))) :: e) → K a' w) : o.wp P a w K Q := by
  subst hk1
  obtain ⟨dst, op, ty, pos, after, guard⟩ := o
  unfold strO at hc
  split at hc
  · rename_i s dd x t hop hdst
    split at hc
    · rename_i el A' k' c' h1 h2 h3
      split at hc
      · rename_i h4
        simp only [Option.some.injEq, Prod.mk.injEq] at hc
        obtain ⟨rfl, rfl, rfl, rfl⟩ := hc
        simp only at hop hdst
        subst hop hdst
        refine wp_val (v := .string (bs (bytesOf xs))) (w' := w) ?_ (hk _ (hf.put (Nat.le_of_ble_eq_true hd)))
        simp only [execOp, ev_sound hf h3, Sem.run_bind, Result.andThen_ok]
        rw [run_bytes h1 h4 h2 hs]
        rfl
      · cases hc
    · cases hc
  · cases hc
end

/-! ### is an error nil? -/
def errO (P : Program) (e : Env) (o : Oper) : Option (Value × Tmp) :=
  match o.op, o.dst with
  | .binOp .eql t x (.const .nilIface) _, some d => match P.underlying t, ev e x with
    | some (.interface _), some v => some (v, d)
    | _, _ => none
  | _, _ => none

section
variable {P : Program} {n : Nat} {a : Act} {w : World} {e : Env} {o : Oper} {K : Act → World → Prop} {Q : Exit → Act → World → Prop}
theorem run_eq_if0 (d : Nat) {t : TypeId} {ms : Array (String × TypeId)} (hu : P.underlying t = some (.interface ms)) : (Op.equalIn (d + 1) t .nilIface .nilIface).run P w = .ok true w := by
  simp [Op.equalIn, run_underlying hu]
theorem run_eq_if1 (d : Nat) {t : TypeId} {ms : Array (String × TypeId)} (hu : P.underlying t = some (.interface ms)) (tt : TypeId) (p : Value) : (Op.equalIn (d + 1) t (.iface tt p) .nilIface).run P w = .ok false w := by
  simp [Op.equalIn, run_underlying hu]
theorem aErr {v : Value} {d : Tmp} {ok : Bool} (hf : Fr n a e) (hc : errO P e o = some (v, d)) (hd : Nat.blt d n = true) (h : (ok = true ∧ v = .nilIface) ∨ (ok = false ∧ ∃ t p, v = .iface t p))
    (hk : ∀ a', Fr n a' ((d, .bool ok) :: e) → K a' w) : o.wp P a w K Q := by
  obtain ⟨dst, op, ty, pos, after, guard⟩ := o
  unfold errO at hc
  split at hc
  · rename_i t x u d' hop hdst
    split at hc
    · rename_i ms v' h1 h2
      simp only [Option.some.injEq, Prod.mk.injEq] at hc
      obtain ⟨rfl, rfl⟩ := hc
      simp only at hop hdst
      subst hop hdst
      refine wp_val (v := .bool ok) (w' := w) ?_ (hk _ (hf.put (Nat.le_of_ble_eq_true hd)))
      rcases h with ⟨rfl, rfl⟩ | ⟨rfl, tt, p, rfl⟩
      · have he : (Op.equal t .nilIface .nilIface).run P w = .ok true w := run_eq_if0 9999 h1
        have hb : (binOp .eql t .nilIface .nilIface).run P w = .ok (.bool true) w := eql_of he
        have hq : (eqGuard .eql t x (.const .nilIface) .nilIface .nilIface).run P w = .ok () w := by simp [eqGuard]
        have h0 : a.eval (.const .nilIface) = .nilIface := rfl
        simp only [execOp, ev_sound hf h2, h0, Sem.run_bind, hq, hb, Result.andThen_ok, Sem.run_pure]
      · have he : (Op.equal t (.iface tt p) .nilIface).run P w = .ok false w := run_eq_if1 9999 h1 tt p
        have hb : (binOp .eql t (.iface tt p) .nilIface).run P w = .ok (.bool false) w := eql_of he
        have hq : (eqGuard .eql t x (.const .nilIface) (.iface tt p) .nilIface).run P w = .ok () w := rfl
        have h0 : a.eval (.const .nilIface) = .nilIface := rfl
        simp only [execOp, ev_sound hf h2, h0, Sem.run_bind, hq, hb, Result.andThen_ok, Sem.run_pure]
    · cases hc
  · cases hc
end

/-! ### what the library's tables hold -/
theorem grown_of_below {w w' : World} (h : Below w.heap.size w w') : w.grownBy w' none := ⟨h.os, h.tape, h.output, h.size, fun k hk _ => h.block k hk⟩
end Go.Proofs.YtkdhahdfkonilaaDoor
