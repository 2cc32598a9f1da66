/- Printed by gen.py. -/
import Derived.Test.YtkcgiolledmbnabF5
namespace Go.Proofs.Ytkcgiolledmbnab
open Go Go.RowKit
set_option linter.unusedSimpArgs false
set_option linter.unusedVariables false
set_option linter.unnecessarySimpa false
def shape_Size_1.e (n_ : Nat) (x0 : Int) : Option Bool :=
  if x0 < 1 then (some true)
  else (some false)
theorem shape_Size_1.e_le (n_ : Nat) (x0 : Int)  : Le (shape_Size_1.e n_ x0) (shape_Size_1.f x0) := by
  unfold shape_Size_1.e shape_Size_1.f
  repeat' (with_reducible first | exact Le.leaf _ | exact Le.none _ | exact LeS.next _ | exact LeS.done _ | exact LeS.bad _ | refine Le.ite ?_ ?_ | refine LeS.ite ?_ ?_ | refine Le.bind ?_ (fun _ => ?_) | refine LeS.bind ?_ (fun _ => ?_) | refine Le.on (fun _ => ?_) (fun _ => ?_) | refine LeS.on (fun _ => ?_) (fun _ => ?_) | refine Le.ptr (fun _ => ?_) ?_ | refine LeS.ptr (fun _ => ?_) ?_ | refine Le.loopN (fun _ => ?_))

def slices_IndexFunc_int_shape_Size_1.l0e (n_ : Nat) (x0 : (List Int)) (s25 : Int) : Step Int (Out2 Int Int) :=
  if s25 < (x0.length : Int) then (if 0 ≤ s25 ∧ s25 < (x0.length : Int) then (bindS (shape_Size_1.e n_ (rd x0 s25)) fun r38 =>
  if r38 = true then (.done (.ret s25))
  else (.next (w64 (s25 + 1))))
  else .bad)
  else (.done (.go s25))
theorem slices_IndexFunc_int_shape_Size_1.l0e_le (n_ : Nat) (x0 : (List Int)) (s25 : Int)  : LeS (slices_IndexFunc_int_shape_Size_1.l0e n_ x0 s25) (slices_IndexFunc_int_shape_Size_1.l0 x0 s25) := by
  unfold slices_IndexFunc_int_shape_Size_1.l0e slices_IndexFunc_int_shape_Size_1.l0
  repeat' (with_reducible first | exact Le.leaf _ | exact Le.none _ | exact LeS.next _ | exact LeS.done _ | exact LeS.bad _ | refine Le.ite ?_ ?_ | refine LeS.ite ?_ ?_ | refine Le.bind ?_ (fun _ => ?_) | refine LeS.bind ?_ (fun _ => ?_) | refine Le.on (fun _ => ?_) (fun _ => ?_) | refine LeS.on (fun _ => ?_) (fun _ => ?_) | refine Le.ptr (fun _ => ?_) ?_ | refine LeS.ptr (fun _ => ?_) ?_ | refine Le.loopN (fun _ => ?_) | apply shape_Size_1.e_le)
def slices_IndexFunc_int_shape_Size_1.e (n_ : Nat) (x0 : (List Int)) : Option Int :=
  (loopN n_ (slices_IndexFunc_int_shape_Size_1.l0e n_ x0) 0).bind fun r26 =>
  r26.on (fun yr26 =>
  some (-1)) (fun y => some y)
theorem slices_IndexFunc_int_shape_Size_1.e_le (n_ : Nat) (x0 : (List Int))  : Le (slices_IndexFunc_int_shape_Size_1.e n_ x0) (slices_IndexFunc_int_shape_Size_1.f x0) := by
  unfold slices_IndexFunc_int_shape_Size_1.e slices_IndexFunc_int_shape_Size_1.f
  repeat' (with_reducible first | exact Le.leaf _ | exact Le.none _ | exact LeS.next _ | exact LeS.done _ | exact LeS.bad _ | refine Le.ite ?_ ?_ | refine LeS.ite ?_ ?_ | refine Le.bind ?_ (fun _ => ?_) | refine LeS.bind ?_ (fun _ => ?_) | refine Le.on (fun _ => ?_) (fun _ => ?_) | refine LeS.on (fun _ => ?_) (fun _ => ?_) | refine Le.ptr (fun _ => ?_) ?_ | refine LeS.ptr (fun _ => ?_) ?_ | refine Le.loopN (fun _ => ?_) | apply slices_IndexFunc_int_shape_Size_1.l0e_le)

def slices_ContainsFunc_int_shape_Size_1.e (n_ : Nat) (x0 : (List Int)) : Option Bool :=
  (slices_IndexFunc_int_shape_Size_1.e n_ x0).bind fun r23 =>
  if 0 ≤ r23 then (some true)
  else (some false)
theorem slices_ContainsFunc_int_shape_Size_1.e_le (n_ : Nat) (x0 : (List Int))  : Le (slices_ContainsFunc_int_shape_Size_1.e n_ x0) (slices_ContainsFunc_int_shape_Size_1.f x0) := by
  unfold slices_ContainsFunc_int_shape_Size_1.e slices_ContainsFunc_int_shape_Size_1.f
  repeat' (with_reducible first | exact Le.leaf _ | exact Le.none _ | exact LeS.next _ | exact LeS.done _ | exact LeS.bad _ | refine Le.ite ?_ ?_ | refine LeS.ite ?_ ?_ | refine Le.bind ?_ (fun _ => ?_) | refine LeS.bind ?_ (fun _ => ?_) | refine Le.on (fun _ => ?_) (fun _ => ?_) | refine LeS.on (fun _ => ?_) (fun _ => ?_) | refine Le.ptr (fun _ => ?_) ?_ | refine LeS.ptr (fun _ => ?_) ?_ | refine Le.loopN (fun _ => ?_) | apply slices_IndexFunc_int_shape_Size_1.e_le)

def shape_Size.l0e (n_ : Nat) (x0 : (List Int)) (s51 : (Int × Int)) : Step (Int × Int) (Out2 (Int × Int) (Int × Int)) :=
  if s51.2 < (x0.length : Int) then (if 0 ≤ s51.2 ∧ s51.2 < (x0.length : Int) then (if s51.1 ≠ 0 then (if (w64 (Int.tdiv 4096 s51.1)) < (rd x0 s51.2) then (.done (.ret (0, 3)))
  else (.next ((w64 (s51.1 * (rd x0 s51.2))), (w64 (s51.2 + 1)))))
  else .bad)
  else .bad)
  else (.done (.go (s51.1, s51.2)))
theorem shape_Size.l0e_le (n_ : Nat) (x0 : (List Int)) (s51 : (Int × Int))  : LeS (shape_Size.l0e n_ x0 s51) (shape_Size.l0 x0 s51) := by
  unfold shape_Size.l0e shape_Size.l0
  repeat' (with_reducible first | exact Le.leaf _ | exact Le.none _ | exact LeS.next _ | exact LeS.done _ | exact LeS.bad _ | refine Le.ite ?_ ?_ | refine LeS.ite ?_ ?_ | refine Le.bind ?_ (fun _ => ?_) | refine LeS.bind ?_ (fun _ => ?_) | refine Le.on (fun _ => ?_) (fun _ => ?_) | refine LeS.on (fun _ => ?_) (fun _ => ?_) | refine Le.ptr (fun _ => ?_) ?_ | refine LeS.ptr (fun _ => ?_) ?_ | refine Le.loopN (fun _ => ?_))
def shape_Size.e (n_ : Nat) (x0 : (List Int)) : Option (Int × Int) :=
  if 4 < (x0.length : Int) then (some (0, 2))
  else ((slices_ContainsFunc_int_shape_Size_1.e n_ x0).bind fun r31 =>
  if r31 = true then (some (0, 2))
  else ((loopN n_ (shape_Size.l0e n_ x0) (1, 0)).bind fun r52 =>
  r52.on (fun yr52 =>
  some (yr52.1, 0)) (fun y => some y)))
theorem shape_Size.e_le (n_ : Nat) (x0 : (List Int))  : Le (shape_Size.e n_ x0) (shape_Size.f x0) := by
  unfold shape_Size.e shape_Size.f
  repeat' (with_reducible first | exact Le.leaf _ | exact Le.none _ | exact LeS.next _ | exact LeS.done _ | exact LeS.bad _ | refine Le.ite ?_ ?_ | refine LeS.ite ?_ ?_ | refine Le.bind ?_ (fun _ => ?_) | refine LeS.bind ?_ (fun _ => ?_) | refine Le.on (fun _ => ?_) (fun _ => ?_) | refine LeS.on (fun _ => ?_) (fun _ => ?_) | refine Le.ptr (fun _ => ?_) ?_ | refine LeS.ptr (fun _ => ?_) ?_ | refine Le.loopN (fun _ => ?_) | apply slices_ContainsFunc_int_shape_Size_1.e_le | apply shape_Size.l0e_le)

def slices_Clone_int.e (n_ : Nat) (x0 : (List Int)) : Option (List Int) :=
  if 0 + x0.length ≤ 549755813888 then (some (([] : List Int) ++ x0))
  else none
theorem slices_Clone_int.e_le (n_ : Nat) (x0 : (List Int))  : Le (slices_Clone_int.e n_ x0) (slices_Clone_int.f x0) := by
  unfold slices_Clone_int.e slices_Clone_int.f
  repeat' (with_reducible first | exact Le.leaf _ | exact Le.none _ | exact LeS.next _ | exact LeS.done _ | exact LeS.bad _ | refine Le.ite ?_ ?_ | refine LeS.ite ?_ ?_ | refine Le.bind ?_ (fun _ => ?_) | refine LeS.bind ?_ (fun _ => ?_) | refine Le.on (fun _ => ?_) (fun _ => ?_) | refine LeS.on (fun _ => ?_) (fun _ => ?_) | refine Le.ptr (fun _ => ?_) ?_ | refine LeS.ptr (fun _ => ?_) ?_ | refine Le.loopN (fun _ => ?_))

def fold_New.e (n_ : Nat) (x0 : (List Int)) (x1 : Int) : Option ((Option Slots) × Int) :=
  (shape_Size.e n_ x0).bind fun r23 =>
  if r23.2 = 0 then (if x1 < 0 then (some (none, 1))
  else (if 1024 < x1 then (some (none, 1))
  else ((slices_Clone_int.e n_ x0).bind fun r54 =>
  if 0 ≤ x1 ∧ x1 ≤ 1099511627776 then (some ((some (⟨r54, (List.replicate (x1).toNat (⟨([] : (List Int)), ([] : (List Nat))⟩ : Tensor)), (List.replicate (x1).toNat false), x1⟩ : Slots)), 0))
  else none)))
  else (some (none, r23.2))
theorem fold_New.e_le (n_ : Nat) (x0 : (List Int)) (x1 : Int)  : Le (fold_New.e n_ x0 x1) (fold_New.f x0 x1) := by
  unfold fold_New.e fold_New.f
  repeat' (with_reducible first | exact Le.leaf _ | exact Le.none _ | exact LeS.next _ | exact LeS.done _ | exact LeS.bad _ | refine Le.ite ?_ ?_ | refine LeS.ite ?_ ?_ | refine Le.bind ?_ (fun _ => ?_) | refine LeS.bind ?_ (fun _ => ?_) | refine Le.on (fun _ => ?_) (fun _ => ?_) | refine LeS.on (fun _ => ?_) (fun _ => ?_) | refine Le.ptr (fun _ => ?_) ?_ | refine LeS.ptr (fun _ => ?_) ?_ | refine Le.loopN (fun _ => ?_) | apply shape_Size.e_le | apply slices_Clone_int.e_le)

def tensor_May.e (n_ : Nat) (x0 : Tensor) : Option Bool :=
  (shape_Size.e n_ x0.Shape).bind fun r30 =>
  if r30.2 = 0 then (if (x0.Data.length : Int) = r30.1 then (some true)
  else (some false))
  else (some false)
theorem tensor_May.e_le (n_ : Nat) (x0 : Tensor)  : Le (tensor_May.e n_ x0) (tensor_May.f x0) := by
  unfold tensor_May.e tensor_May.f
  repeat' (with_reducible first | exact Le.leaf _ | exact Le.none _ | exact LeS.next _ | exact LeS.done _ | exact LeS.bad _ | refine Le.ite ?_ ?_ | refine LeS.ite ?_ ?_ | refine Le.bind ?_ (fun _ => ?_) | refine LeS.bind ?_ (fun _ => ?_) | refine Le.on (fun _ => ?_) (fun _ => ?_) | refine LeS.on (fun _ => ?_) (fun _ => ?_) | refine Le.ptr (fun _ => ?_) ?_ | refine LeS.ptr (fun _ => ?_) ?_ | refine Le.loopN (fun _ => ?_) | apply shape_Size.e_le)

def slices_Equal_int.l0e (n_ : Nat) (x0 : (List Int)) (x1 : (List Int)) (s28 : Int) : Step Int (Out2 Int Bool) :=
  if s28 < (x0.length : Int) then (if 0 ≤ s28 ∧ s28 < (x0.length : Int) then (if 0 ≤ s28 ∧ s28 < (x1.length : Int) then (if (rd x0 s28) = (rd x1 s28) then (.next (w64 (s28 + 1)))
  else (.done (.ret false)))
  else .bad)
  else .bad)
  else (.done (.go s28))
theorem slices_Equal_int.l0e_le (n_ : Nat) (x0 : (List Int)) (x1 : (List Int)) (s28 : Int)  : LeS (slices_Equal_int.l0e n_ x0 x1 s28) (slices_Equal_int.l0 x0 x1 s28) := by
  unfold slices_Equal_int.l0e slices_Equal_int.l0
  repeat' (with_reducible first | exact Le.leaf _ | exact Le.none _ | exact LeS.next _ | exact LeS.done _ | exact LeS.bad _ | refine Le.ite ?_ ?_ | refine LeS.ite ?_ ?_ | refine Le.bind ?_ (fun _ => ?_) | refine LeS.bind ?_ (fun _ => ?_) | refine Le.on (fun _ => ?_) (fun _ => ?_) | refine LeS.on (fun _ => ?_) (fun _ => ?_) | refine Le.ptr (fun _ => ?_) ?_ | refine LeS.ptr (fun _ => ?_) ?_ | refine Le.loopN (fun _ => ?_))
def slices_Equal_int.e (n_ : Nat) (x0 : (List Int)) (x1 : (List Int)) : Option Bool :=
  if (x0.length : Int) = (x1.length : Int) then ((loopN n_ (slices_Equal_int.l0e n_ x0 x1) 0).bind fun r29 =>
  r29.on (fun yr29 =>
  some true) (fun y => some y))
  else (some false)
theorem slices_Equal_int.e_le (n_ : Nat) (x0 : (List Int)) (x1 : (List Int))  : Le (slices_Equal_int.e n_ x0 x1) (slices_Equal_int.f x0 x1) := by
  unfold slices_Equal_int.e slices_Equal_int.f
  repeat' (with_reducible first | exact Le.leaf _ | exact Le.none _ | exact LeS.next _ | exact LeS.done _ | exact LeS.bad _ | refine Le.ite ?_ ?_ | refine LeS.ite ?_ ?_ | refine Le.bind ?_ (fun _ => ?_) | refine LeS.bind ?_ (fun _ => ?_) | refine Le.on (fun _ => ?_) (fun _ => ?_) | refine LeS.on (fun _ => ?_) (fun _ => ?_) | refine Le.ptr (fun _ => ?_) ?_ | refine LeS.ptr (fun _ => ?_) ?_ | refine Le.loopN (fun _ => ?_) | apply slices_Equal_int.l0e_le)

def shape_Same.e (n_ : Nat) (x0 : (List Int)) (x1 : (List Int)) : Option Bool :=
  (slices_Equal_int.e n_ x0 x1).bind fun r23 =>
  some r23
theorem shape_Same.e_le (n_ : Nat) (x0 : (List Int)) (x1 : (List Int))  : Le (shape_Same.e n_ x0 x1) (shape_Same.f x0 x1) := by
  unfold shape_Same.e shape_Same.f
  repeat' (with_reducible first | exact Le.leaf _ | exact Le.none _ | exact LeS.next _ | exact LeS.done _ | exact LeS.bad _ | refine Le.ite ?_ ?_ | refine LeS.ite ?_ ?_ | refine Le.bind ?_ (fun _ => ?_) | refine LeS.bind ?_ (fun _ => ?_) | refine Le.on (fun _ => ?_) (fun _ => ?_) | refine LeS.on (fun _ => ?_) (fun _ => ?_) | refine Le.ptr (fun _ => ?_) ?_ | refine LeS.ptr (fun _ => ?_) ?_ | refine Le.loopN (fun _ => ?_) | apply slices_Equal_int.e_le)

def slices_Clone_float64.e (n_ : Nat) (x0 : (List Nat)) : Option (List Nat) :=
  if 0 + x0.length ≤ 549755813888 then (some (([] : List Nat) ++ x0))
  else none
theorem slices_Clone_float64.e_le (n_ : Nat) (x0 : (List Nat))  : Le (slices_Clone_float64.e n_ x0) (slices_Clone_float64.f x0) := by
  unfold slices_Clone_float64.e slices_Clone_float64.f
  repeat' (with_reducible first | exact Le.leaf _ | exact Le.none _ | exact LeS.next _ | exact LeS.done _ | exact LeS.bad _ | refine Le.ite ?_ ?_ | refine LeS.ite ?_ ?_ | refine Le.bind ?_ (fun _ => ?_) | refine LeS.bind ?_ (fun _ => ?_) | refine Le.on (fun _ => ?_) (fun _ => ?_) | refine LeS.on (fun _ => ?_) (fun _ => ?_) | refine Le.ptr (fun _ => ?_) ?_ | refine LeS.ptr (fun _ => ?_) ?_ | refine Le.loopN (fun _ => ?_))

def tensor_Copy.e (n_ : Nat) (x0 : Tensor) : Option Tensor :=
  (slices_Clone_int.e n_ x0.Shape).bind fun r35 =>
  (slices_Clone_float64.e n_ x0.Data).bind fun r36 =>
  some (⟨r35, r36⟩ : Tensor)
theorem tensor_Copy.e_le (n_ : Nat) (x0 : Tensor)  : Le (tensor_Copy.e n_ x0) (tensor_Copy.f x0) := by
  unfold tensor_Copy.e tensor_Copy.f
  repeat' (with_reducible first | exact Le.leaf _ | exact Le.none _ | exact LeS.next _ | exact LeS.done _ | exact LeS.bad _ | refine Le.ite ?_ ?_ | refine LeS.ite ?_ ?_ | refine Le.bind ?_ (fun _ => ?_) | refine LeS.bind ?_ (fun _ => ?_) | refine Le.on (fun _ => ?_) (fun _ => ?_) | refine LeS.on (fun _ => ?_) (fun _ => ?_) | refine Le.ptr (fun _ => ?_) ?_ | refine LeS.ptr (fun _ => ?_) ?_ | refine Le.loopN (fun _ => ?_) | apply slices_Clone_float64.e_le | apply slices_Clone_int.e_le)

def fold_Slots_Put.e (n_ : Nat) (x0 : Slots) (x1 : Int) (x2 : Tensor) : Option ((List Tensor) × (List Bool) × Int × Int) :=
  if x1 < 0 then (some (x0.l, x0.filled, x0.left, 1))
  else (if (x0.l.length : Int) ≤ x1 then (some (x0.l, x0.filled, x0.left, 1))
  else (if 0 ≤ x1 ∧ x1 < (x0.filled.length : Int) then (if (rd x0.filled x1) = true then (some (x0.l, x0.filled, x0.left, 1))
  else ((tensor_May.e n_ x2).bind fun r56 =>
  if r56 = true then ((shape_Same.e n_ x2.Shape x0.s).bind fun r58 =>
  if r58 = true then ((tensor_Copy.e n_ x2).bind fun r110 =>
  if 0 ≤ x1 ∧ x1 < (x0.l.length : Int) then (some ((put x0.l x1 r110), (put x0.filled x1 true), (w64 (x0.left - 1)), 0))
  else none)
  else (some (x0.l, x0.filled, x0.left, 2)))
  else (some (x0.l, x0.filled, x0.left, 2))))
  else none))
theorem fold_Slots_Put.e_le (n_ : Nat) (x0 : Slots) (x1 : Int) (x2 : Tensor)  : Le (fold_Slots_Put.e n_ x0 x1 x2) (fold_Slots_Put.f x0 x1 x2) := by
  unfold fold_Slots_Put.e fold_Slots_Put.f
  repeat' (with_reducible first | exact Le.leaf _ | exact Le.none _ | exact LeS.next _ | exact LeS.done _ | exact LeS.bad _ | refine Le.ite ?_ ?_ | refine LeS.ite ?_ ?_ | refine Le.bind ?_ (fun _ => ?_) | refine LeS.bind ?_ (fun _ => ?_) | refine Le.on (fun _ => ?_) (fun _ => ?_) | refine LeS.on (fun _ => ?_) (fun _ => ?_) | refine Le.ptr (fun _ => ?_) ?_ | refine LeS.ptr (fun _ => ?_) ?_ | refine Le.loopN (fun _ => ?_) | apply shape_Same.e_le | apply tensor_Copy.e_le | apply tensor_May.e_le)

def bits_Mul64.e (n_ : Nat) (x0 : Int) (x1 : Int) : Option (Int × Int) :=
  some ((IntKind.wrap .u64 ((IntKind.wrap .u64 ((IntKind.wrap .u64 ((Int.fdiv x0 (2 ^ 32)) * (Int.fdiv x1 (2 ^ 32)))) + (Int.fdiv (IntKind.wrap .u64 ((IntKind.wrap .u64 ((Int.fdiv x0 (2 ^ 32)) * (bits .and .u64 x1 4294967295))) + (Int.fdiv (IntKind.wrap .u64 ((bits .and .u64 x0 4294967295) * (bits .and .u64 x1 4294967295))) (2 ^ 32)))) (2 ^ 32)))) + (Int.fdiv (IntKind.wrap .u64 ((bits .and .u64 (IntKind.wrap .u64 ((IntKind.wrap .u64 ((Int.fdiv x0 (2 ^ 32)) * (bits .and .u64 x1 4294967295))) + (Int.fdiv (IntKind.wrap .u64 ((bits .and .u64 x0 4294967295) * (bits .and .u64 x1 4294967295))) (2 ^ 32)))) 4294967295) + (IntKind.wrap .u64 ((bits .and .u64 x0 4294967295) * (Int.fdiv x1 (2 ^ 32)))))) (2 ^ 32)))), (IntKind.wrap .u64 (x0 * x1)))
theorem bits_Mul64.e_le (n_ : Nat) (x0 : Int) (x1 : Int)  : Le (bits_Mul64.e n_ x0 x1) (bits_Mul64.f x0 x1) := by
  unfold bits_Mul64.e bits_Mul64.f
  repeat' (with_reducible first | exact Le.leaf _ | exact Le.none _ | exact LeS.next _ | exact LeS.done _ | exact LeS.bad _ | refine Le.ite ?_ ?_ | refine LeS.ite ?_ ?_ | refine Le.bind ?_ (fun _ => ?_) | refine LeS.bind ?_ (fun _ => ?_) | refine Le.on (fun _ => ?_) (fun _ => ?_) | refine LeS.on (fun _ => ?_) (fun _ => ?_) | refine Le.ptr (fun _ => ?_) ?_ | refine LeS.ptr (fun _ => ?_) ?_ | refine Le.loopN (fun _ => ?_))

def bits_Mul.e (n_ : Nat) (x0 : Int) (x1 : Int) : Option (Int × Int) :=
  (bits_Mul64.e n_ x0 x1).bind fun r23 =>
  some (r23.1, r23.2)
theorem bits_Mul.e_le (n_ : Nat) (x0 : Int) (x1 : Int)  : Le (bits_Mul.e n_ x0 x1) (bits_Mul.f x0 x1) := by
  unfold bits_Mul.e bits_Mul.f
  repeat' (with_reducible first | exact Le.leaf _ | exact Le.none _ | exact LeS.next _ | exact LeS.done _ | exact LeS.bad _ | refine Le.ite ?_ ?_ | refine LeS.ite ?_ ?_ | refine Le.bind ?_ (fun _ => ?_) | refine LeS.bind ?_ (fun _ => ?_) | refine Le.on (fun _ => ?_) (fun _ => ?_) | refine LeS.on (fun _ => ?_) (fun _ => ?_) | refine Le.ptr (fun _ => ?_) ?_ | refine LeS.ptr (fun _ => ?_) ?_ | refine Le.loopN (fun _ => ?_) | apply bits_Mul64.e_le)

def slices_Repeat_float64.l0e (n_ : Nat)  (s75 : (Int × (List Nat))) : Step (Int × (List Nat)) (Int × (List Nat)) :=
  if s75.1 < (s75.2.length : Int) then (if 0 ≤ s75.1 ∧ s75.1 ≤ (s75.2.length : Int) then (.next ((w64 (s75.1 + ((List.take (min ((s75.1).toNat - 0) (s75.2.length - (s75.1).toNat)) s75.2).length : Int))), (cpy s75.2 ((s75.1).toNat) (List.take (min ((s75.1).toNat - 0) (s75.2.length - (s75.1).toNat)) s75.2))))
  else .bad)
  else (.done (s75.1, s75.2))
theorem slices_Repeat_float64.l0e_le (n_ : Nat)  (s75 : (Int × (List Nat)))  : LeS (slices_Repeat_float64.l0e n_ s75) (slices_Repeat_float64.l0 s75) := by
  unfold slices_Repeat_float64.l0e slices_Repeat_float64.l0
  repeat' (with_reducible first | exact Le.leaf _ | exact Le.none _ | exact LeS.next _ | exact LeS.done _ | exact LeS.bad _ | refine Le.ite ?_ ?_ | refine LeS.ite ?_ ?_ | refine Le.bind ?_ (fun _ => ?_) | refine LeS.bind ?_ (fun _ => ?_) | refine Le.on (fun _ => ?_) (fun _ => ?_) | refine LeS.on (fun _ => ?_) (fun _ => ?_) | refine Le.ptr (fun _ => ?_) ?_ | refine LeS.ptr (fun _ => ?_) ?_ | refine Le.loopN (fun _ => ?_))
def slices_Repeat_float64.e (n_ : Nat) (x0 : (List Nat)) (x1 : Int) : Option (List Nat) :=
  if x1 < 0 then none
  else ((bits_Mul.e n_ (IntKind.wrap .u64 ((x0.length : Int))) (IntKind.wrap .u64 (x1))).bind fun r28 =>
  if 0 < r28.1 then none
  else (if 9223372036854775807 < r28.2 then none
  else (if 0 ≤ (w64 (r28.2)) ∧ (w64 (r28.2)) ≤ 1099511627776 then ((loopN n_ (slices_Repeat_float64.l0e n_) (((List.take ((List.replicate ((w64 (r28.2))).toNat (0 : Nat)).length) x0).length : Int), (cpy (List.replicate ((w64 (r28.2))).toNat (0 : Nat)) 0 (List.take ((List.replicate ((w64 (r28.2))).toNat (0 : Nat)).length) x0)))).bind fun r76 =>
  some r76.2)
  else none)))
theorem slices_Repeat_float64.e_le (n_ : Nat) (x0 : (List Nat)) (x1 : Int)  : Le (slices_Repeat_float64.e n_ x0 x1) (slices_Repeat_float64.f x0 x1) := by
  unfold slices_Repeat_float64.e slices_Repeat_float64.f
  repeat' (with_reducible first | exact Le.leaf _ | exact Le.none _ | exact LeS.next _ | exact LeS.done _ | exact LeS.bad _ | refine Le.ite ?_ ?_ | refine LeS.ite ?_ ?_ | refine Le.bind ?_ (fun _ => ?_) | refine LeS.bind ?_ (fun _ => ?_) | refine Le.on (fun _ => ?_) (fun _ => ?_) | refine LeS.on (fun _ => ?_) (fun _ => ?_) | refine Le.ptr (fun _ => ?_) ?_ | refine LeS.ptr (fun _ => ?_) ?_ | refine Le.loopN (fun _ => ?_) | apply bits_Mul.e_le | apply slices_Repeat_float64.l0e_le)

def tensor_New.e (n_ : Nat) (x0 : (List Int)) (x1 : Nat) : Option (Tensor × Int) :=
  (shape_Size.e n_ x0).bind fun r30 =>
  if r30.2 = 0 then ((slices_Clone_int.e n_ x0).bind fun r43 =>
  (slices_Repeat_float64.e n_ ([x1] : List Nat) r30.1).bind fun r44 =>
  some ((⟨r43, r44⟩ : Tensor), 0))
  else (some ((⟨([] : (List Int)), ([] : (List Nat))⟩ : Tensor), r30.2))
theorem tensor_New.e_le (n_ : Nat) (x0 : (List Int)) (x1 : Nat)  : Le (tensor_New.e n_ x0 x1) (tensor_New.f x0 x1) := by
  unfold tensor_New.e tensor_New.f
  repeat' (with_reducible first | exact Le.leaf _ | exact Le.none _ | exact LeS.next _ | exact LeS.done _ | exact LeS.bad _ | refine Le.ite ?_ ?_ | refine LeS.ite ?_ ?_ | refine Le.bind ?_ (fun _ => ?_) | refine LeS.bind ?_ (fun _ => ?_) | refine Le.on (fun _ => ?_) (fun _ => ?_) | refine LeS.on (fun _ => ?_) (fun _ => ?_) | refine Le.ptr (fun _ => ?_) ?_ | refine LeS.ptr (fun _ => ?_) ?_ | refine Le.loopN (fun _ => ?_) | apply shape_Size.e_le | apply slices_Clone_int.e_le | apply slices_Repeat_float64.e_le)

def real_Real_Plus.e (n_ : Nat) (x0 : Nat) (x1 : Nat) : Option Nat :=
  some (fadd x0 x1)
theorem real_Real_Plus.e_le (n_ : Nat) (x0 : Nat) (x1 : Nat)  : Le (real_Real_Plus.e n_ x0 x1) (real_Real_Plus.f x0 x1) := by
  unfold real_Real_Plus.e real_Real_Plus.f
  repeat' (with_reducible first | exact Le.leaf _ | exact Le.none _ | exact LeS.next _ | exact LeS.done _ | exact LeS.bad _ | refine Le.ite ?_ ?_ | refine LeS.ite ?_ ?_ | refine Le.bind ?_ (fun _ => ?_) | refine LeS.bind ?_ (fun _ => ?_) | refine Le.on (fun _ => ?_) (fun _ => ?_) | refine LeS.on (fun _ => ?_) (fun _ => ?_) | refine Le.ptr (fun _ => ?_) ?_ | refine LeS.ptr (fun _ => ?_) ?_ | refine Le.loopN (fun _ => ?_))

def real_halves_real_Real_Plus.Fe (n_ : Nat) : Nat → (List Nat) → Option Nat
  | 0, _ => none
  | k + 1, x0 =>
  if (x0.length : Int) = 1 then (if (0 : Int) ≤ 0 ∧ 0 < (x0.length : Int) then (some (rd x0 0))
  else none)
  else (if 0 ≤ (w64 (Int.tdiv (w64 ((x0.length : Int) + 1)) 2)) ∧ (w64 (Int.tdiv (w64 ((x0.length : Int) + 1)) 2)) ≤ (x0.length : Int) then ((real_halves_real_Real_Plus.Fe n_ k ((List.take (((w64 (Int.tdiv (w64 ((x0.length : Int) + 1)) 2))).toNat) x0).drop 0)).bind fun r39 =>
  (real_halves_real_Real_Plus.Fe n_ k ((List.take x0.length x0).drop (((w64 (Int.tdiv (w64 ((x0.length : Int) + 1)) 2))).toNat))).bind fun r40 =>
  (real_Real_Plus.e n_ r39 r40).bind fun r41 =>
  some r41)
  else none)
theorem real_halves_real_Real_Plus.Fe_le (n_ : Nat) : ∀ (k : Nat) (x0 : (List Nat)), Le (real_halves_real_Real_Plus.Fe n_ k x0) (real_halves_real_Real_Plus.F k x0)
  | 0, _ => Le.none _
  | k + 1, x0 => by
    rw [real_halves_real_Real_Plus.Fe, real_halves_real_Real_Plus.F]
    repeat' (with_reducible first | exact Le.leaf _ | exact Le.none _ | exact LeS.next _ | exact LeS.done _ | exact LeS.bad _ | refine Le.ite ?_ ?_ | refine LeS.ite ?_ ?_ | refine Le.bind ?_ (fun _ => ?_) | refine LeS.bind ?_ (fun _ => ?_) | refine Le.on (fun _ => ?_) (fun _ => ?_) | refine LeS.on (fun _ => ?_) (fun _ => ?_) | refine Le.ptr (fun _ => ?_) ?_ | refine LeS.ptr (fun _ => ?_) ?_ | refine Le.loopN (fun _ => ?_) | apply real_Real_Plus.e_le | apply real_halves_real_Real_Plus.Fe_le n_ k)
theorem real_halves_real_Real_Plus.F_up : ∀ (k : Nat) (x0 : (List Nat)), Le (real_halves_real_Real_Plus.F k x0) (real_halves_real_Real_Plus.F (k + 1) x0)
  | 0, _ => Le.none _
  | k + 1, x0 => by
    rw [real_halves_real_Real_Plus.F, real_halves_real_Real_Plus.F]
    repeat' (with_reducible first | exact Le.leaf _ | exact Le.none _ | exact LeS.next _ | exact LeS.done _ | exact LeS.bad _ | refine Le.ite ?_ ?_ | refine LeS.ite ?_ ?_ | refine Le.bind ?_ (fun _ => ?_) | refine LeS.bind ?_ (fun _ => ?_) | refine Le.on (fun _ => ?_) (fun _ => ?_) | refine LeS.on (fun _ => ?_) (fun _ => ?_) | refine Le.ptr (fun _ => ?_) ?_ | refine LeS.ptr (fun _ => ?_) ?_ | refine Le.loopN (fun _ => ?_) | apply real_halves_real_Real_Plus.F_up k | exact Le.refl _)
theorem real_halves_real_Real_Plus.F_mono (k d : Nat) (x0 : (List Nat)) : Le (real_halves_real_Real_Plus.F k x0) (real_halves_real_Real_Plus.F (k + d) x0) := by
  induction d with
  | zero => exact Le.refl _
  | succ d ih => exact fun r hr => real_halves_real_Real_Plus.F_up (k + d) x0 r (ih r hr)
def real_halves_real_Real_Plus.e (n_ : Nat) (x0 : (List Nat)) : Option Nat  := real_halves_real_Real_Plus.Fe n_ n_ x0
theorem real_halves_real_Real_Plus.e_le (n_ : Nat) (x0 : (List Nat))  : Le (real_halves_real_Real_Plus.e n_ x0) (real_halves_real_Real_Plus.f x0) := by
  refine Le.recOf (G := fun k => real_halves_real_Real_Plus.Fe n_ k x0) (F := fun k => real_halves_real_Real_Plus.F k x0) n_ (real_halves_real_Real_Plus.Fe_le n_ n_ x0) (fun k j r r' hk hj => ?_)
  have h1 := real_halves_real_Real_Plus.F_mono k j x0 r hk
  have h2 := real_halves_real_Real_Plus.F_mono j k x0 r' hj
  rw [Nat.add_comm] at h2; rw [h1] at h2; exact Option.some.inj h2

def real_Fold.e (n_ : Nat) (x0 : (List Nat)) : Option Nat :=
  if (x0.length : Int) = 0 then (some 0)
  else ((real_halves_real_Real_Plus.e n_ x0).bind fun r33 =>
  some r33)
theorem real_Fold.e_le (n_ : Nat) (x0 : (List Nat))  : Le (real_Fold.e n_ x0) (real_Fold.f x0) := by
  unfold real_Fold.e real_Fold.f
  repeat' (with_reducible first | exact Le.leaf _ | exact Le.none _ | exact LeS.next _ | exact LeS.done _ | exact LeS.bad _ | refine Le.ite ?_ ?_ | refine LeS.ite ?_ ?_ | refine Le.bind ?_ (fun _ => ?_) | refine LeS.bind ?_ (fun _ => ?_) | refine Le.on (fun _ => ?_) (fun _ => ?_) | refine LeS.on (fun _ => ?_) (fun _ => ?_) | refine Le.ptr (fun _ => ?_) ?_ | refine LeS.ptr (fun _ => ?_) ?_ | refine Le.loopN (fun _ => ?_) | apply real_halves_real_Real_Plus.e_le)

def fold_Tree.l0e (n_ : Nat) (x0 : (List Tensor)) (s50 : Int) : Step Int (Out2 Int (Tensor × Int)) :=
  if s50 < (x0.length : Int) then (if 0 ≤ s50 ∧ s50 < (x0.length : Int) then (bindS (tensor_May.e n_ (⟨((rd x0 s50).Shape), ((rd x0 s50).Data)⟩ : Tensor)) fun r85 =>
  if r85 = true then (if (0 : Int) ≤ 0 ∧ 0 < (x0.length : Int) then (bindS (shape_Same.e n_ ((rd x0 s50).Shape) ((rd x0 0).Shape)) fun r88 =>
  if r88 = true then (.next (w64 (s50 + 1)))
  else (.done (.ret ((⟨([] : (List Int)), ([] : (List Nat))⟩ : Tensor), 2))))
  else .bad)
  else (.done (.ret ((⟨([] : (List Int)), ([] : (List Nat))⟩ : Tensor), 2))))
  else .bad)
  else (.done (.go s50))
theorem fold_Tree.l0e_le (n_ : Nat) (x0 : (List Tensor)) (s50 : Int)  : LeS (fold_Tree.l0e n_ x0 s50) (fold_Tree.l0 x0 s50) := by
  unfold fold_Tree.l0e fold_Tree.l0
  repeat' (with_reducible first | exact Le.leaf _ | exact Le.none _ | exact LeS.next _ | exact LeS.done _ | exact LeS.bad _ | refine Le.ite ?_ ?_ | refine LeS.ite ?_ ?_ | refine Le.bind ?_ (fun _ => ?_) | refine LeS.bind ?_ (fun _ => ?_) | refine Le.on (fun _ => ?_) (fun _ => ?_) | refine LeS.on (fun _ => ?_) (fun _ => ?_) | refine Le.ptr (fun _ => ?_) ?_ | refine LeS.ptr (fun _ => ?_) ?_ | refine Le.loopN (fun _ => ?_) | apply shape_Same.e_le | apply tensor_May.e_le)
def fold_Tree.l2e (n_ : Nat) (x0 : (List Tensor)) (s366 : (Int × (List Nat) × (List Nat))) (s380 : (Int × (List Nat))) : Step (Int × (List Nat)) (Int × (List Nat)) :=
  if s380.1 < (x0.length : Int) then (if 0 ≤ s380.1 ∧ s380.1 < (x0.length : Int) then (if 0 ≤ s366.1 ∧ s366.1 < ((((rd x0 s380.1).Data).length : Nat) : Int) then (if 0 ≤ s380.1 ∧ s380.1 < (s380.2.length : Int) then (.next ((w64 (s380.1 + 1)), (put s380.2 s380.1 (rd ((rd x0 s380.1).Data) s366.1))))
  else .bad)
  else .bad)
  else .bad)
  else (.done (s380.1, s380.2))
theorem fold_Tree.l2e_le (n_ : Nat) (x0 : (List Tensor)) (s366 : (Int × (List Nat) × (List Nat))) (s380 : (Int × (List Nat)))  : LeS (fold_Tree.l2e n_ x0 s366 s380) (fold_Tree.l2 x0 s366 s380) := by
  unfold fold_Tree.l2e fold_Tree.l2
  repeat' (with_reducible first | exact Le.leaf _ | exact Le.none _ | exact LeS.next _ | exact LeS.done _ | exact LeS.bad _ | refine Le.ite ?_ ?_ | refine LeS.ite ?_ ?_ | refine Le.bind ?_ (fun _ => ?_) | refine LeS.bind ?_ (fun _ => ?_) | refine Le.on (fun _ => ?_) (fun _ => ?_) | refine LeS.on (fun _ => ?_) (fun _ => ?_) | refine Le.ptr (fun _ => ?_) ?_ | refine LeS.ptr (fun _ => ?_) ?_ | refine Le.loopN (fun _ => ?_))
def fold_Tree.l1e (n_ : Nat) (r316 : Tensor) (x0 : (List Tensor)) (s366 : (Int × (List Nat) × (List Nat))) : Step (Int × (List Nat) × (List Nat)) (Int × (List Nat) × (List Nat)) :=
  if s366.1 < (r316.Data.length : Int) then (bindS (loopN n_ (fold_Tree.l2e n_ x0 s366) (0, s366.2.1)) fun r381 =>
  bindS (real_Fold.e n_ r381.2) fun r439 =>
  if 0 ≤ s366.1 ∧ s366.1 < (s366.2.2.length : Int) then (.next ((w64 (s366.1 + 1)), r381.2, (put s366.2.2 s366.1 r439)))
  else .bad)
  else (.done (s366.1, s366.2.1, s366.2.2))
theorem fold_Tree.l1e_le (n_ : Nat) (r316 : Tensor) (x0 : (List Tensor)) (s366 : (Int × (List Nat) × (List Nat)))  : LeS (fold_Tree.l1e n_ r316 x0 s366) (fold_Tree.l1 r316 x0 s366) := by
  unfold fold_Tree.l1e fold_Tree.l1
  repeat' (with_reducible first | exact Le.leaf _ | exact Le.none _ | exact LeS.next _ | exact LeS.done _ | exact LeS.bad _ | refine Le.ite ?_ ?_ | refine LeS.ite ?_ ?_ | refine Le.bind ?_ (fun _ => ?_) | refine LeS.bind ?_ (fun _ => ?_) | refine Le.on (fun _ => ?_) (fun _ => ?_) | refine LeS.on (fun _ => ?_) (fun _ => ?_) | refine Le.ptr (fun _ => ?_) ?_ | refine LeS.ptr (fun _ => ?_) ?_ | refine Le.loopN (fun _ => ?_) | apply real_Fold.e_le | apply fold_Tree.l2e_le)
def fold_Tree.e (n_ : Nat) (x0 : (List Tensor)) : Option (Tensor × Int) :=
  if (x0.length : Int) = 0 then (some ((⟨([] : (List Int)), ([] : (List Nat))⟩ : Tensor), 1))
  else ((loopN n_ (fold_Tree.l0e n_ x0) 0).bind fun r51 =>
  r51.on (fun yr51 =>
  if (0 : Int) ≤ 0 ∧ 0 < (x0.length : Int) then ((tensor_Copy.e n_ (⟨((rd x0 0).Shape), ((rd x0 0).Data)⟩ : Tensor)).bind fun r316 =>
  if 0 ≤ (x0.length : Int) ∧ (x0.length : Int) ≤ 1099511627776 then ((loopN n_ (fold_Tree.l1e n_ r316 x0) (0, (List.replicate ((x0.length : Int)).toNat (0 : Nat)), r316.Data)).bind fun r367 =>
  some ((⟨r316.Shape, r367.2.2⟩ : Tensor), 0))
  else none)
  else none) (fun y => some y))
theorem fold_Tree.e_le (n_ : Nat) (x0 : (List Tensor))  : Le (fold_Tree.e n_ x0) (fold_Tree.f x0) := by
  unfold fold_Tree.e fold_Tree.f
  repeat' (with_reducible first | exact Le.leaf _ | exact Le.none _ | exact LeS.next _ | exact LeS.done _ | exact LeS.bad _ | refine Le.ite ?_ ?_ | refine LeS.ite ?_ ?_ | refine Le.bind ?_ (fun _ => ?_) | refine LeS.bind ?_ (fun _ => ?_) | refine Le.on (fun _ => ?_) (fun _ => ?_) | refine LeS.on (fun _ => ?_) (fun _ => ?_) | refine Le.ptr (fun _ => ?_) ?_ | refine LeS.ptr (fun _ => ?_) ?_ | refine Le.loopN (fun _ => ?_) | apply tensor_Copy.e_le | apply fold_Tree.l0e_le | apply fold_Tree.l1e_le)

def fold_Slots_Value.e (n_ : Nat) (x0 : Slots) : Option (Tensor × Int) :=
  if 0 < x0.left then (some ((⟨([] : (List Int)), ([] : (List Nat))⟩ : Tensor), 1))
  else (if (x0.l.length : Int) = 0 then ((tensor_New.e n_ x0.s 0).bind fun r50 =>
  some (r50.1, r50.2))
  else ((fold_Tree.e n_ x0.l).bind fun r75 =>
  some (r75.1, r75.2)))
theorem fold_Slots_Value.e_le (n_ : Nat) (x0 : Slots)  : Le (fold_Slots_Value.e n_ x0) (fold_Slots_Value.f x0) := by
  unfold fold_Slots_Value.e fold_Slots_Value.f
  repeat' (with_reducible first | exact Le.leaf _ | exact Le.none _ | exact LeS.next _ | exact LeS.done _ | exact LeS.bad _ | refine Le.ite ?_ ?_ | refine LeS.ite ?_ ?_ | refine Le.bind ?_ (fun _ => ?_) | refine LeS.bind ?_ (fun _ => ?_) | refine Le.on (fun _ => ?_) (fun _ => ?_) | refine LeS.on (fun _ => ?_) (fun _ => ?_) | refine Le.ptr (fun _ => ?_) ?_ | refine LeS.ptr (fun _ => ?_) ?_ | refine Le.loopN (fun _ => ?_) | apply fold_Tree.e_le | apply tensor_New.e_le)

def fold_Slots_Left.e (n_ : Nat) (x0 : Slots) : Option Int :=
  some x0.left
theorem fold_Slots_Left.e_le (n_ : Nat) (x0 : Slots)  : Le (fold_Slots_Left.e n_ x0) (fold_Slots_Left.f x0) := by
  unfold fold_Slots_Left.e fold_Slots_Left.f
  repeat' (with_reducible first | exact Le.leaf _ | exact Le.none _ | exact LeS.next _ | exact LeS.done _ | exact LeS.bad _ | refine Le.ite ?_ ?_ | refine LeS.ite ?_ ?_ | refine Le.bind ?_ (fun _ => ?_) | refine LeS.bind ?_ (fun _ => ?_) | refine Le.on (fun _ => ?_) (fun _ => ?_) | refine LeS.on (fun _ => ?_) (fun _ => ?_) | refine Le.ptr (fun _ => ?_) ?_ | refine LeS.ptr (fun _ => ?_) ?_ | refine Le.loopN (fun _ => ?_))

def law8_awake.e (n_ : Nat)  : Option Bool :=
  (fold_New.e n_ ([1] : List Int) 2).bind fun r23 =>
  onPtr r23.1 (fun y25 =>
  if r23.2 = 0 then ((fold_Slots_Put.e n_ y25 1 (⟨([1] : List Int), ([4611686018427387904] : List Nat)⟩ : Tensor)).bind fun r80 =>
  (fold_Slots_Put.e n_ (⟨y25.s, r80.1, r80.2.1, r80.2.2.1⟩ : Slots) 0 (⟨([1] : List Int), ([4607182418800017408] : List Nat)⟩ : Tensor)).bind fun r111 =>
  (fold_Slots_Value.e n_ (⟨y25.s, r111.1, r111.2.1, r111.2.2.1⟩ : Slots)).bind fun r142 =>
  if r80.2.2.2 = 0 then (if r111.2.2.2 = 0 then (if r142.2 = 0 then ((fold_Slots_Left.e n_ (⟨y25.s, r111.1, r111.2.1, r111.2.2.1⟩ : Slots)).bind fun r174 =>
  if r174 = 0 then (if (r142.1.Data.length : Int) = 1 then (if (0 : Int) ≤ 0 ∧ 0 < (r142.1.Data.length : Int) then (if (feq (rd r142.1.Data 0) 4613937818241073152) = true then (some true)
  else (some false))
  else none)
  else (some false))
  else (some false))
  else (some false))
  else (some false))
  else (some false))
  else (some false)) (if r23.2 = 0 then (some false)
  else (some false))
theorem law8_awake.e_le (n_ : Nat)   : Le (law8_awake.e n_ ) (law8_awake.f ) := by
  unfold law8_awake.e law8_awake.f
  repeat' (with_reducible first | exact Le.leaf _ | exact Le.none _ | exact LeS.next _ | exact LeS.done _ | exact LeS.bad _ | refine Le.ite ?_ ?_ | refine LeS.ite ?_ ?_ | refine Le.bind ?_ (fun _ => ?_) | refine LeS.bind ?_ (fun _ => ?_) | refine Le.on (fun _ => ?_) (fun _ => ?_) | refine LeS.on (fun _ => ?_) (fun _ => ?_) | refine Le.ptr (fun _ => ?_) ?_ | refine LeS.ptr (fun _ => ?_) ?_ | refine Le.loopN (fun _ => ?_) | apply fold_New.e_le | apply fold_Slots_Left.e_le | apply fold_Slots_Put.e_le | apply fold_Slots_Value.e_le)
end Go.Proofs.Ytkcgiolledmbnab
