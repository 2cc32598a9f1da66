/- Printed by gen.py. -/
import Derived.Test.YteaoijahdinciaaF8
namespace Go.Proofs.Yteaoijahdinciaa
open Go Go.RowKit
set_option linter.unusedSimpArgs false
set_option linter.unusedVariables false
set_option linter.unnecessarySimpa false
def law19_awake_1.e (n_ : Nat) (x0 : Nat) : Option Tensor :=
  some (⟨([1] : List Int), ([x0] : List Nat)⟩ : Tensor)
theorem law19_awake_1.e_le (n_ : Nat) (x0 : Nat)  : Le (law19_awake_1.e n_ x0) (law19_awake_1.f x0) := by
  unfold law19_awake_1.e law19_awake_1.f
  repeat' (with_reducible first | exact Le.leaf _ | exact Le.none _ | exact LeS.next _ | exact LeS.done _ | exact LeS.bad _ | refine Le.ite ?_ ?_ | refine LeS.ite ?_ ?_ | refine Le.bind ?_ (fun _ => ?_) | refine LeS.bind ?_ (fun _ => ?_) | refine Le.on (fun _ => ?_) (fun _ => ?_) | refine LeS.on (fun _ => ?_) (fun _ => ?_) | refine Le.ptr (fun _ => ?_) ?_ | refine LeS.ptr (fun _ => ?_) ?_ | refine Le.loopN (fun _ => ?_))

def shape_Size_1.e (n_ : Nat) (x0 : Int) : Option Bool :=
  if x0 < 1 then (some true)
  else (some false)
theorem shape_Size_1.e_le (n_ : Nat) (x0 : Int)  : Le (shape_Size_1.e n_ x0) (shape_Size_1.f x0) := by
  unfold shape_Size_1.e shape_Size_1.f
  repeat' (with_reducible first | exact Le.leaf _ | exact Le.none _ | exact LeS.next _ | exact LeS.done _ | exact LeS.bad _ | refine Le.ite ?_ ?_ | refine LeS.ite ?_ ?_ | refine Le.bind ?_ (fun _ => ?_) | refine LeS.bind ?_ (fun _ => ?_) | refine Le.on (fun _ => ?_) (fun _ => ?_) | refine LeS.on (fun _ => ?_) (fun _ => ?_) | refine Le.ptr (fun _ => ?_) ?_ | refine LeS.ptr (fun _ => ?_) ?_ | refine Le.loopN (fun _ => ?_))

def slices_IndexFunc_int_shape_Size_1.l0e (n_ : Nat) (x0 : (List Int)) (s25 : Int) : Step Int (Out2 Int Int) :=
  if s25 < (x0.length : Int) then (if 0 ≤ s25 ∧ s25 < (x0.length : Int) then (bindS (shape_Size_1.e n_ (rd x0 s25)) fun r38 =>
  if r38 = true then (.done (.ret s25))
  else (.next (w64 (s25 + 1))))
  else .bad)
  else (.done (.go s25))
theorem slices_IndexFunc_int_shape_Size_1.l0e_le (n_ : Nat) (x0 : (List Int)) (s25 : Int)  : LeS (slices_IndexFunc_int_shape_Size_1.l0e n_ x0 s25) (slices_IndexFunc_int_shape_Size_1.l0 x0 s25) := by
  unfold slices_IndexFunc_int_shape_Size_1.l0e slices_IndexFunc_int_shape_Size_1.l0
  repeat' (with_reducible first | exact Le.leaf _ | exact Le.none _ | exact LeS.next _ | exact LeS.done _ | exact LeS.bad _ | refine Le.ite ?_ ?_ | refine LeS.ite ?_ ?_ | refine Le.bind ?_ (fun _ => ?_) | refine LeS.bind ?_ (fun _ => ?_) | refine Le.on (fun _ => ?_) (fun _ => ?_) | refine LeS.on (fun _ => ?_) (fun _ => ?_) | refine Le.ptr (fun _ => ?_) ?_ | refine LeS.ptr (fun _ => ?_) ?_ | refine Le.loopN (fun _ => ?_) | apply shape_Size_1.e_le)
def slices_IndexFunc_int_shape_Size_1.e (n_ : Nat) (x0 : (List Int)) : Option Int :=
  (loopN n_ (slices_IndexFunc_int_shape_Size_1.l0e n_ x0) 0).bind fun r26 =>
  r26.on (fun yr26 =>
  some (-1)) (fun y => some y)
theorem slices_IndexFunc_int_shape_Size_1.e_le (n_ : Nat) (x0 : (List Int))  : Le (slices_IndexFunc_int_shape_Size_1.e n_ x0) (slices_IndexFunc_int_shape_Size_1.f x0) := by
  unfold slices_IndexFunc_int_shape_Size_1.e slices_IndexFunc_int_shape_Size_1.f
  repeat' (with_reducible first | exact Le.leaf _ | exact Le.none _ | exact LeS.next _ | exact LeS.done _ | exact LeS.bad _ | refine Le.ite ?_ ?_ | refine LeS.ite ?_ ?_ | refine Le.bind ?_ (fun _ => ?_) | refine LeS.bind ?_ (fun _ => ?_) | refine Le.on (fun _ => ?_) (fun _ => ?_) | refine LeS.on (fun _ => ?_) (fun _ => ?_) | refine Le.ptr (fun _ => ?_) ?_ | refine LeS.ptr (fun _ => ?_) ?_ | refine Le.loopN (fun _ => ?_) | apply slices_IndexFunc_int_shape_Size_1.l0e_le)

def slices_ContainsFunc_int_shape_Size_1.e (n_ : Nat) (x0 : (List Int)) : Option Bool :=
  (slices_IndexFunc_int_shape_Size_1.e n_ x0).bind fun r23 =>
  if 0 ≤ r23 then (some true)
  else (some false)
theorem slices_ContainsFunc_int_shape_Size_1.e_le (n_ : Nat) (x0 : (List Int))  : Le (slices_ContainsFunc_int_shape_Size_1.e n_ x0) (slices_ContainsFunc_int_shape_Size_1.f x0) := by
  unfold slices_ContainsFunc_int_shape_Size_1.e slices_ContainsFunc_int_shape_Size_1.f
  repeat' (with_reducible first | exact Le.leaf _ | exact Le.none _ | exact LeS.next _ | exact LeS.done _ | exact LeS.bad _ | refine Le.ite ?_ ?_ | refine LeS.ite ?_ ?_ | refine Le.bind ?_ (fun _ => ?_) | refine LeS.bind ?_ (fun _ => ?_) | refine Le.on (fun _ => ?_) (fun _ => ?_) | refine LeS.on (fun _ => ?_) (fun _ => ?_) | refine Le.ptr (fun _ => ?_) ?_ | refine LeS.ptr (fun _ => ?_) ?_ | refine Le.loopN (fun _ => ?_) | apply slices_IndexFunc_int_shape_Size_1.e_le)

def shape_Size.l0e (n_ : Nat) (x0 : (List Int)) (s51 : (Int × Int)) : Step (Int × Int) (Out2 (Int × Int) (Int × Int)) :=
  if s51.2 < (x0.length : Int) then (if 0 ≤ s51.2 ∧ s51.2 < (x0.length : Int) then (if s51.1 ≠ 0 then (if (w64 (Int.tdiv 4096 s51.1)) < (rd x0 s51.2) then (.done (.ret (0, 3)))
  else (.next ((w64 (s51.1 * (rd x0 s51.2))), (w64 (s51.2 + 1)))))
  else .bad)
  else .bad)
  else (.done (.go (s51.1, s51.2)))
theorem shape_Size.l0e_le (n_ : Nat) (x0 : (List Int)) (s51 : (Int × Int))  : LeS (shape_Size.l0e n_ x0 s51) (shape_Size.l0 x0 s51) := by
  unfold shape_Size.l0e shape_Size.l0
  repeat' (with_reducible first | exact Le.leaf _ | exact Le.none _ | exact LeS.next _ | exact LeS.done _ | exact LeS.bad _ | refine Le.ite ?_ ?_ | refine LeS.ite ?_ ?_ | refine Le.bind ?_ (fun _ => ?_) | refine LeS.bind ?_ (fun _ => ?_) | refine Le.on (fun _ => ?_) (fun _ => ?_) | refine LeS.on (fun _ => ?_) (fun _ => ?_) | refine Le.ptr (fun _ => ?_) ?_ | refine LeS.ptr (fun _ => ?_) ?_ | refine Le.loopN (fun _ => ?_))
def shape_Size.e (n_ : Nat) (x0 : (List Int)) : Option (Int × Int) :=
  if 4 < (x0.length : Int) then (some (0, 2))
  else ((slices_ContainsFunc_int_shape_Size_1.e n_ x0).bind fun r31 =>
  if r31 = true then (some (0, 2))
  else ((loopN n_ (shape_Size.l0e n_ x0) (1, 0)).bind fun r52 =>
  r52.on (fun yr52 =>
  some (yr52.1, 0)) (fun y => some y)))
theorem shape_Size.e_le (n_ : Nat) (x0 : (List Int))  : Le (shape_Size.e n_ x0) (shape_Size.f x0) := by
  unfold shape_Size.e shape_Size.f
  repeat' (with_reducible first | exact Le.leaf _ | exact Le.none _ | exact LeS.next _ | exact LeS.done _ | exact LeS.bad _ | refine Le.ite ?_ ?_ | refine LeS.ite ?_ ?_ | refine Le.bind ?_ (fun _ => ?_) | refine LeS.bind ?_ (fun _ => ?_) | refine Le.on (fun _ => ?_) (fun _ => ?_) | refine LeS.on (fun _ => ?_) (fun _ => ?_) | refine Le.ptr (fun _ => ?_) ?_ | refine LeS.ptr (fun _ => ?_) ?_ | refine Le.loopN (fun _ => ?_) | apply slices_ContainsFunc_int_shape_Size_1.e_le | apply shape_Size.l0e_le)

def tensor_May.e (n_ : Nat) (x0 : Tensor) : Option Bool :=
  (shape_Size.e n_ x0.Shape).bind fun r30 =>
  if r30.2 = 0 then (if (x0.Data.length : Int) = r30.1 then (some true)
  else (some false))
  else (some false)
theorem tensor_May.e_le (n_ : Nat) (x0 : Tensor)  : Le (tensor_May.e n_ x0) (tensor_May.f x0) := by
  unfold tensor_May.e tensor_May.f
  repeat' (with_reducible first | exact Le.leaf _ | exact Le.none _ | exact LeS.next _ | exact LeS.done _ | exact LeS.bad _ | refine Le.ite ?_ ?_ | refine LeS.ite ?_ ?_ | refine Le.bind ?_ (fun _ => ?_) | refine LeS.bind ?_ (fun _ => ?_) | refine Le.on (fun _ => ?_) (fun _ => ?_) | refine LeS.on (fun _ => ?_) (fun _ => ?_) | refine Le.ptr (fun _ => ?_) ?_ | refine LeS.ptr (fun _ => ?_) ?_ | refine Le.loopN (fun _ => ?_) | apply shape_Size.e_le)

def shelf_New_1.e (n_ : Nat) (x0 : Tensor) : Option Bool :=
  (tensor_May.e n_ x0).bind fun r30 =>
  if r30 = true then (some false)
  else (some true)
theorem shelf_New_1.e_le (n_ : Nat) (x0 : Tensor)  : Le (shelf_New_1.e n_ x0) (shelf_New_1.f x0) := by
  unfold shelf_New_1.e shelf_New_1.f
  repeat' (with_reducible first | exact Le.leaf _ | exact Le.none _ | exact LeS.next _ | exact LeS.done _ | exact LeS.bad _ | refine Le.ite ?_ ?_ | refine LeS.ite ?_ ?_ | refine Le.bind ?_ (fun _ => ?_) | refine LeS.bind ?_ (fun _ => ?_) | refine Le.on (fun _ => ?_) (fun _ => ?_) | refine LeS.on (fun _ => ?_) (fun _ => ?_) | refine Le.ptr (fun _ => ?_) ?_ | refine LeS.ptr (fun _ => ?_) ?_ | refine Le.loopN (fun _ => ?_) | apply tensor_May.e_le)

def slices_IndexFunc_api_Tensor_shelf_New_1.l0e (n_ : Nat) (x0 : (List Tensor)) (s25 : Int) : Step Int (Out2 Int Int) :=
  if s25 < (x0.length : Int) then (if 0 ≤ s25 ∧ s25 < (x0.length : Int) then (bindS (shelf_New_1.e n_ (⟨(rd x0 s25).Shape, (rd x0 s25).Data⟩ : Tensor)) fun r38 =>
  if r38 = true then (.done (.ret s25))
  else (.next (w64 (s25 + 1))))
  else .bad)
  else (.done (.go s25))
theorem slices_IndexFunc_api_Tensor_shelf_New_1.l0e_le (n_ : Nat) (x0 : (List Tensor)) (s25 : Int)  : LeS (slices_IndexFunc_api_Tensor_shelf_New_1.l0e n_ x0 s25) (slices_IndexFunc_api_Tensor_shelf_New_1.l0 x0 s25) := by
  unfold slices_IndexFunc_api_Tensor_shelf_New_1.l0e slices_IndexFunc_api_Tensor_shelf_New_1.l0
  repeat' (with_reducible first | exact Le.leaf _ | exact Le.none _ | exact LeS.next _ | exact LeS.done _ | exact LeS.bad _ | refine Le.ite ?_ ?_ | refine LeS.ite ?_ ?_ | refine Le.bind ?_ (fun _ => ?_) | refine LeS.bind ?_ (fun _ => ?_) | refine Le.on (fun _ => ?_) (fun _ => ?_) | refine LeS.on (fun _ => ?_) (fun _ => ?_) | refine Le.ptr (fun _ => ?_) ?_ | refine LeS.ptr (fun _ => ?_) ?_ | refine Le.loopN (fun _ => ?_) | apply shelf_New_1.e_le)
def slices_IndexFunc_api_Tensor_shelf_New_1.e (n_ : Nat) (x0 : (List Tensor)) : Option Int :=
  (loopN n_ (slices_IndexFunc_api_Tensor_shelf_New_1.l0e n_ x0) 0).bind fun r26 =>
  r26.on (fun yr26 =>
  some (-1)) (fun y => some y)
theorem slices_IndexFunc_api_Tensor_shelf_New_1.e_le (n_ : Nat) (x0 : (List Tensor))  : Le (slices_IndexFunc_api_Tensor_shelf_New_1.e n_ x0) (slices_IndexFunc_api_Tensor_shelf_New_1.f x0) := by
  unfold slices_IndexFunc_api_Tensor_shelf_New_1.e slices_IndexFunc_api_Tensor_shelf_New_1.f
  repeat' (with_reducible first | exact Le.leaf _ | exact Le.none _ | exact LeS.next _ | exact LeS.done _ | exact LeS.bad _ | refine Le.ite ?_ ?_ | refine LeS.ite ?_ ?_ | refine Le.bind ?_ (fun _ => ?_) | refine LeS.bind ?_ (fun _ => ?_) | refine Le.on (fun _ => ?_) (fun _ => ?_) | refine LeS.on (fun _ => ?_) (fun _ => ?_) | refine Le.ptr (fun _ => ?_) ?_ | refine LeS.ptr (fun _ => ?_) ?_ | refine Le.loopN (fun _ => ?_) | apply slices_IndexFunc_api_Tensor_shelf_New_1.l0e_le)

def slices_ContainsFunc_api_Tensor_shelf_New_1.e (n_ : Nat) (x0 : (List Tensor)) : Option Bool :=
  (slices_IndexFunc_api_Tensor_shelf_New_1.e n_ x0).bind fun r23 =>
  if 0 ≤ r23 then (some true)
  else (some false)
theorem slices_ContainsFunc_api_Tensor_shelf_New_1.e_le (n_ : Nat) (x0 : (List Tensor))  : Le (slices_ContainsFunc_api_Tensor_shelf_New_1.e n_ x0) (slices_ContainsFunc_api_Tensor_shelf_New_1.f x0) := by
  unfold slices_ContainsFunc_api_Tensor_shelf_New_1.e slices_ContainsFunc_api_Tensor_shelf_New_1.f
  repeat' (with_reducible first | exact Le.leaf _ | exact Le.none _ | exact LeS.next _ | exact LeS.done _ | exact LeS.bad _ | refine Le.ite ?_ ?_ | refine LeS.ite ?_ ?_ | refine Le.bind ?_ (fun _ => ?_) | refine LeS.bind ?_ (fun _ => ?_) | refine Le.on (fun _ => ?_) (fun _ => ?_) | refine LeS.on (fun _ => ?_) (fun _ => ?_) | refine Le.ptr (fun _ => ?_) ?_ | refine LeS.ptr (fun _ => ?_) ?_ | refine Le.loopN (fun _ => ?_) | apply slices_IndexFunc_api_Tensor_shelf_New_1.e_le)

def slices_Clone_int.e (n_ : Nat) (x0 : (List Int)) : Option (List Int) :=
  if 0 + x0.length ≤ 549755813888 then (some (([] : List Int) ++ x0))
  else none
theorem slices_Clone_int.e_le (n_ : Nat) (x0 : (List Int))  : Le (slices_Clone_int.e n_ x0) (slices_Clone_int.f x0) := by
  unfold slices_Clone_int.e slices_Clone_int.f
  repeat' (with_reducible first | exact Le.leaf _ | exact Le.none _ | exact LeS.next _ | exact LeS.done _ | exact LeS.bad _ | refine Le.ite ?_ ?_ | refine LeS.ite ?_ ?_ | refine Le.bind ?_ (fun _ => ?_) | refine LeS.bind ?_ (fun _ => ?_) | refine Le.on (fun _ => ?_) (fun _ => ?_) | refine LeS.on (fun _ => ?_) (fun _ => ?_) | refine Le.ptr (fun _ => ?_) ?_ | refine LeS.ptr (fun _ => ?_) ?_ | refine Le.loopN (fun _ => ?_))

def slices_Clone_float64.e (n_ : Nat) (x0 : (List Nat)) : Option (List Nat) :=
  if 0 + x0.length ≤ 549755813888 then (some (([] : List Nat) ++ x0))
  else none
theorem slices_Clone_float64.e_le (n_ : Nat) (x0 : (List Nat))  : Le (slices_Clone_float64.e n_ x0) (slices_Clone_float64.f x0) := by
  unfold slices_Clone_float64.e slices_Clone_float64.f
  repeat' (with_reducible first | exact Le.leaf _ | exact Le.none _ | exact LeS.next _ | exact LeS.done _ | exact LeS.bad _ | refine Le.ite ?_ ?_ | refine LeS.ite ?_ ?_ | refine Le.bind ?_ (fun _ => ?_) | refine LeS.bind ?_ (fun _ => ?_) | refine Le.on (fun _ => ?_) (fun _ => ?_) | refine LeS.on (fun _ => ?_) (fun _ => ?_) | refine Le.ptr (fun _ => ?_) ?_ | refine LeS.ptr (fun _ => ?_) ?_ | refine Le.loopN (fun _ => ?_))

def tensor_Copy.e (n_ : Nat) (x0 : Tensor) : Option Tensor :=
  (slices_Clone_int.e n_ x0.Shape).bind fun r35 =>
  (slices_Clone_float64.e n_ x0.Data).bind fun r36 =>
  some (⟨r35, r36⟩ : Tensor)
theorem tensor_Copy.e_le (n_ : Nat) (x0 : Tensor)  : Le (tensor_Copy.e n_ x0) (tensor_Copy.f x0) := by
  unfold tensor_Copy.e tensor_Copy.f
  repeat' (with_reducible first | exact Le.leaf _ | exact Le.none _ | exact LeS.next _ | exact LeS.done _ | exact LeS.bad _ | refine Le.ite ?_ ?_ | refine LeS.ite ?_ ?_ | refine Le.bind ?_ (fun _ => ?_) | refine LeS.bind ?_ (fun _ => ?_) | refine Le.on (fun _ => ?_) (fun _ => ?_) | refine LeS.on (fun _ => ?_) (fun _ => ?_) | refine Le.ptr (fun _ => ?_) ?_ | refine LeS.ptr (fun _ => ?_) ?_ | refine Le.loopN (fun _ => ?_) | apply slices_Clone_float64.e_le | apply slices_Clone_int.e_le)

def bits_Mul64.e (n_ : Nat) (x0 : Int) (x1 : Int) : Option (Int × Int) :=
  some ((IntKind.wrap .u64 ((IntKind.wrap .u64 ((IntKind.wrap .u64 ((Int.fdiv x0 (2 ^ 32)) * (Int.fdiv x1 (2 ^ 32)))) + (Int.fdiv (IntKind.wrap .u64 ((IntKind.wrap .u64 ((Int.fdiv x0 (2 ^ 32)) * (bits .and .u64 x1 4294967295))) + (Int.fdiv (IntKind.wrap .u64 ((bits .and .u64 x0 4294967295) * (bits .and .u64 x1 4294967295))) (2 ^ 32)))) (2 ^ 32)))) + (Int.fdiv (IntKind.wrap .u64 ((bits .and .u64 (IntKind.wrap .u64 ((IntKind.wrap .u64 ((Int.fdiv x0 (2 ^ 32)) * (bits .and .u64 x1 4294967295))) + (Int.fdiv (IntKind.wrap .u64 ((bits .and .u64 x0 4294967295) * (bits .and .u64 x1 4294967295))) (2 ^ 32)))) 4294967295) + (IntKind.wrap .u64 ((bits .and .u64 x0 4294967295) * (Int.fdiv x1 (2 ^ 32)))))) (2 ^ 32)))), (IntKind.wrap .u64 (x0 * x1)))
theorem bits_Mul64.e_le (n_ : Nat) (x0 : Int) (x1 : Int)  : Le (bits_Mul64.e n_ x0 x1) (bits_Mul64.f x0 x1) := by
  unfold bits_Mul64.e bits_Mul64.f
  repeat' (with_reducible first | exact Le.leaf _ | exact Le.none _ | exact LeS.next _ | exact LeS.done _ | exact LeS.bad _ | refine Le.ite ?_ ?_ | refine LeS.ite ?_ ?_ | refine Le.bind ?_ (fun _ => ?_) | refine LeS.bind ?_ (fun _ => ?_) | refine Le.on (fun _ => ?_) (fun _ => ?_) | refine LeS.on (fun _ => ?_) (fun _ => ?_) | refine Le.ptr (fun _ => ?_) ?_ | refine LeS.ptr (fun _ => ?_) ?_ | refine Le.loopN (fun _ => ?_))

def bits_Mul.e (n_ : Nat) (x0 : Int) (x1 : Int) : Option (Int × Int) :=
  (bits_Mul64.e n_ x0 x1).bind fun r23 =>
  some (r23.1, r23.2)
theorem bits_Mul.e_le (n_ : Nat) (x0 : Int) (x1 : Int)  : Le (bits_Mul.e n_ x0 x1) (bits_Mul.f x0 x1) := by
  unfold bits_Mul.e bits_Mul.f
  repeat' (with_reducible first | exact Le.leaf _ | exact Le.none _ | exact LeS.next _ | exact LeS.done _ | exact LeS.bad _ | refine Le.ite ?_ ?_ | refine LeS.ite ?_ ?_ | refine Le.bind ?_ (fun _ => ?_) | refine LeS.bind ?_ (fun _ => ?_) | refine Le.on (fun _ => ?_) (fun _ => ?_) | refine LeS.on (fun _ => ?_) (fun _ => ?_) | refine Le.ptr (fun _ => ?_) ?_ | refine LeS.ptr (fun _ => ?_) ?_ | refine Le.loopN (fun _ => ?_) | apply bits_Mul64.e_le)

def slices_Repeat_float64.l0e (n_ : Nat)  (s75 : (Int × (List Nat))) : Step (Int × (List Nat)) (Int × (List Nat)) :=
  if s75.1 < (s75.2.length : Int) then (if 0 ≤ s75.1 ∧ s75.1 ≤ (s75.2.length : Int) then (.next ((w64 (s75.1 + ((List.take (min ((s75.1).toNat - 0) (s75.2.length - (s75.1).toNat)) s75.2).length : Int))), (cpy s75.2 (s75.1).toNat (List.take (min ((s75.1).toNat - 0) (s75.2.length - (s75.1).toNat)) s75.2))))
  else .bad)
  else (.done (s75.1, s75.2))
theorem slices_Repeat_float64.l0e_le (n_ : Nat)  (s75 : (Int × (List Nat)))  : LeS (slices_Repeat_float64.l0e n_ s75) (slices_Repeat_float64.l0 s75) := by
  unfold slices_Repeat_float64.l0e slices_Repeat_float64.l0
  repeat' (with_reducible first | exact Le.leaf _ | exact Le.none _ | exact LeS.next _ | exact LeS.done _ | exact LeS.bad _ | refine Le.ite ?_ ?_ | refine LeS.ite ?_ ?_ | refine Le.bind ?_ (fun _ => ?_) | refine LeS.bind ?_ (fun _ => ?_) | refine Le.on (fun _ => ?_) (fun _ => ?_) | refine LeS.on (fun _ => ?_) (fun _ => ?_) | refine Le.ptr (fun _ => ?_) ?_ | refine LeS.ptr (fun _ => ?_) ?_ | refine Le.loopN (fun _ => ?_))
def slices_Repeat_float64.e (n_ : Nat) (x0 : (List Nat)) (x1 : Int) : Option (List Nat) :=
  if x1 < 0 then none
  else ((bits_Mul.e n_ (IntKind.wrap .u64 ((x0.length : Int))) (IntKind.wrap .u64 (x1))).bind fun r28 =>
  if 0 < r28.1 then none
  else (if 9223372036854775807 < r28.2 then none
  else (if 0 ≤ (w64 (r28.2)) ∧ (w64 (r28.2)) ≤ 1099511627776 then ((loopN n_ (slices_Repeat_float64.l0e n_) (((List.take ((List.replicate ((w64 (r28.2))).toNat (0 : Nat)).length) x0).length : Int), (cpy (List.replicate ((w64 (r28.2))).toNat (0 : Nat)) 0 (List.take ((List.replicate ((w64 (r28.2))).toNat (0 : Nat)).length) x0)))).bind fun r76 =>
  some r76.2)
  else none)))
theorem slices_Repeat_float64.e_le (n_ : Nat) (x0 : (List Nat)) (x1 : Int)  : Le (slices_Repeat_float64.e n_ x0 x1) (slices_Repeat_float64.f x0 x1) := by
  unfold slices_Repeat_float64.e slices_Repeat_float64.f
  repeat' (with_reducible first | exact Le.leaf _ | exact Le.none _ | exact LeS.next _ | exact LeS.done _ | exact LeS.bad _ | refine Le.ite ?_ ?_ | refine LeS.ite ?_ ?_ | refine Le.bind ?_ (fun _ => ?_) | refine LeS.bind ?_ (fun _ => ?_) | refine Le.on (fun _ => ?_) (fun _ => ?_) | refine LeS.on (fun _ => ?_) (fun _ => ?_) | refine Le.ptr (fun _ => ?_) ?_ | refine LeS.ptr (fun _ => ?_) ?_ | refine Le.loopN (fun _ => ?_) | apply bits_Mul.e_le | apply slices_Repeat_float64.l0e_le)

def tensor_New.e (n_ : Nat) (x0 : (List Int)) (x1 : Nat) : Option (Tensor × Int) :=
  (shape_Size.e n_ x0).bind fun r30 =>
  if r30.2 = 0 then ((slices_Clone_int.e n_ x0).bind fun r43 =>
  (slices_Repeat_float64.e n_ ([x1] : List Nat) r30.1).bind fun r44 =>
  some ((⟨r43, r44⟩ : Tensor), 0))
  else (some ((⟨([] : (List Int)), ([] : (List Nat))⟩ : Tensor), r30.2))
theorem tensor_New.e_le (n_ : Nat) (x0 : (List Int)) (x1 : Nat)  : Le (tensor_New.e n_ x0 x1) (tensor_New.f x0 x1) := by
  unfold tensor_New.e tensor_New.f
  repeat' (with_reducible first | exact Le.leaf _ | exact Le.none _ | exact LeS.next _ | exact LeS.done _ | exact LeS.bad _ | refine Le.ite ?_ ?_ | refine LeS.ite ?_ ?_ | refine Le.bind ?_ (fun _ => ?_) | refine LeS.bind ?_ (fun _ => ?_) | refine Le.on (fun _ => ?_) (fun _ => ?_) | refine LeS.on (fun _ => ?_) (fun _ => ?_) | refine Le.ptr (fun _ => ?_) ?_ | refine LeS.ptr (fun _ => ?_) ?_ | refine Le.loopN (fun _ => ?_) | apply shape_Size.e_le | apply slices_Clone_int.e_le | apply slices_Repeat_float64.e_le)

def shelf_noughts.e (n_ : Nat) (x0 : Tensor) : Option Tensor :=
  (tensor_New.e n_ x0.Shape 0).bind fun r35 =>
  some r35.1
theorem shelf_noughts.e_le (n_ : Nat) (x0 : Tensor)  : Le (shelf_noughts.e n_ x0) (shelf_noughts.f x0) := by
  unfold shelf_noughts.e shelf_noughts.f
  repeat' (with_reducible first | exact Le.leaf _ | exact Le.none _ | exact LeS.next _ | exact LeS.done _ | exact LeS.bad _ | refine Le.ite ?_ ?_ | refine LeS.ite ?_ ?_ | refine Le.bind ?_ (fun _ => ?_) | refine LeS.bind ?_ (fun _ => ?_) | refine Le.on (fun _ => ?_) (fun _ => ?_) | refine LeS.on (fun _ => ?_) (fun _ => ?_) | refine Le.ptr (fun _ => ?_) ?_ | refine LeS.ptr (fun _ => ?_) ?_ | refine Le.loopN (fun _ => ?_) | apply tensor_New.e_le)

def shelf_New.l0e (n_ : Nat) (x0 : (List Tensor)) (s83 : (Int × (List Tensor) × (List Tensor))) : Step (Int × (List Tensor) × (List Tensor)) (Int × (List Tensor) × (List Tensor)) :=
  if s83.1 < (x0.length : Int) then (if 0 ≤ s83.1 ∧ s83.1 < (x0.length : Int) then (bindS (tensor_Copy.e n_ (⟨(rd x0 s83.1).Shape, (rd x0 s83.1).Data⟩ : Tensor)) fun r121 =>
  if s83.2.2.length + 1 ≤ 549755813888 then (bindS (shelf_noughts.e n_ (⟨(rd x0 s83.1).Shape, (rd x0 s83.1).Data⟩ : Tensor)) fun r123 =>
  if s83.2.1.length + 1 ≤ 549755813888 then (.next ((w64 (s83.1 + 1)), (s83.2.1 ++ ([r123] : List Tensor)), (s83.2.2 ++ ([r121] : List Tensor))))
  else .bad)
  else .bad)
  else .bad)
  else (.done (s83.1, s83.2.1, s83.2.2))
theorem shelf_New.l0e_le (n_ : Nat) (x0 : (List Tensor)) (s83 : (Int × (List Tensor) × (List Tensor)))  : LeS (shelf_New.l0e n_ x0 s83) (shelf_New.l0 x0 s83) := by
  unfold shelf_New.l0e shelf_New.l0
  repeat' (with_reducible first | exact Le.leaf _ | exact Le.none _ | exact LeS.next _ | exact LeS.done _ | exact LeS.bad _ | refine Le.ite ?_ ?_ | refine LeS.ite ?_ ?_ | refine Le.bind ?_ (fun _ => ?_) | refine LeS.bind ?_ (fun _ => ?_) | refine Le.on (fun _ => ?_) (fun _ => ?_) | refine LeS.on (fun _ => ?_) (fun _ => ?_) | refine Le.ptr (fun _ => ?_) ?_ | refine LeS.ptr (fun _ => ?_) ?_ | refine Le.loopN (fun _ => ?_) | apply shelf_noughts.e_le | apply tensor_Copy.e_le)
def shelf_New.e (n_ : Nat) (x0 : (List Tensor)) : Option ((Option Shelf) × Int) :=
  if 32 < (x0.length : Int) then (some (none, 13))
  else ((slices_ContainsFunc_api_Tensor_shelf_New_1.e n_ x0).bind fun r33 =>
  if r33 = true then (some (none, 2))
  else (if 0 ≤ (x0.length : Int) ∧ (x0.length : Int) ≤ 1099511627776 then ((loopN n_ (shelf_New.l0e n_ x0) (0, ([] : (List Tensor)), ([] : (List Tensor)))).bind fun r88 =>
  some ((some (⟨r88.2.2, (List.replicate ((x0.length : Int)).toNat (0 : Int)), r88.2.1⟩ : Shelf)), 0))
  else none))
theorem shelf_New.e_le (n_ : Nat) (x0 : (List Tensor))  : Le (shelf_New.e n_ x0) (shelf_New.f x0) := by
  unfold shelf_New.e shelf_New.f
  repeat' (with_reducible first | exact Le.leaf _ | exact Le.none _ | exact LeS.next _ | exact LeS.done _ | exact LeS.bad _ | refine Le.ite ?_ ?_ | refine LeS.ite ?_ ?_ | refine Le.bind ?_ (fun _ => ?_) | refine LeS.bind ?_ (fun _ => ?_) | refine Le.on (fun _ => ?_) (fun _ => ?_) | refine LeS.on (fun _ => ?_) (fun _ => ?_) | refine Le.ptr (fun _ => ?_) ?_ | refine LeS.ptr (fun _ => ?_) ?_ | refine Le.loopN (fun _ => ?_) | apply slices_ContainsFunc_api_Tensor_shelf_New_1.e_le | apply shelf_New.l0e_le)

def slices_Equal_int.l0e (n_ : Nat) (x0 : (List Int)) (x1 : (List Int)) (s28 : Int) : Step Int (Out2 Int Bool) :=
  if s28 < (x0.length : Int) then (if 0 ≤ s28 ∧ s28 < (x0.length : Int) then (if 0 ≤ s28 ∧ s28 < (x1.length : Int) then (if (rd x0 s28) = (rd x1 s28) then (.next (w64 (s28 + 1)))
  else (.done (.ret false)))
  else .bad)
  else .bad)
  else (.done (.go s28))
theorem slices_Equal_int.l0e_le (n_ : Nat) (x0 : (List Int)) (x1 : (List Int)) (s28 : Int)  : LeS (slices_Equal_int.l0e n_ x0 x1 s28) (slices_Equal_int.l0 x0 x1 s28) := by
  unfold slices_Equal_int.l0e slices_Equal_int.l0
  repeat' (with_reducible first | exact Le.leaf _ | exact Le.none _ | exact LeS.next _ | exact LeS.done _ | exact LeS.bad _ | refine Le.ite ?_ ?_ | refine LeS.ite ?_ ?_ | refine Le.bind ?_ (fun _ => ?_) | refine LeS.bind ?_ (fun _ => ?_) | refine Le.on (fun _ => ?_) (fun _ => ?_) | refine LeS.on (fun _ => ?_) (fun _ => ?_) | refine Le.ptr (fun _ => ?_) ?_ | refine LeS.ptr (fun _ => ?_) ?_ | refine Le.loopN (fun _ => ?_))
def slices_Equal_int.e (n_ : Nat) (x0 : (List Int)) (x1 : (List Int)) : Option Bool :=
  if (x0.length : Int) = (x1.length : Int) then ((loopN n_ (slices_Equal_int.l0e n_ x0 x1) 0).bind fun r29 =>
  r29.on (fun yr29 =>
  some true) (fun y => some y))
  else (some false)
theorem slices_Equal_int.e_le (n_ : Nat) (x0 : (List Int)) (x1 : (List Int))  : Le (slices_Equal_int.e n_ x0 x1) (slices_Equal_int.f x0 x1) := by
  unfold slices_Equal_int.e slices_Equal_int.f
  repeat' (with_reducible first | exact Le.leaf _ | exact Le.none _ | exact LeS.next _ | exact LeS.done _ | exact LeS.bad _ | refine Le.ite ?_ ?_ | refine LeS.ite ?_ ?_ | refine Le.bind ?_ (fun _ => ?_) | refine LeS.bind ?_ (fun _ => ?_) | refine Le.on (fun _ => ?_) (fun _ => ?_) | refine LeS.on (fun _ => ?_) (fun _ => ?_) | refine Le.ptr (fun _ => ?_) ?_ | refine LeS.ptr (fun _ => ?_) ?_ | refine Le.loopN (fun _ => ?_) | apply slices_Equal_int.l0e_le)

def shape_Same.e (n_ : Nat) (x0 : (List Int)) (x1 : (List Int)) : Option Bool :=
  (slices_Equal_int.e n_ x0 x1).bind fun r23 =>
  some r23
theorem shape_Same.e_le (n_ : Nat) (x0 : (List Int)) (x1 : (List Int))  : Le (shape_Same.e n_ x0 x1) (shape_Same.f x0 x1) := by
  unfold shape_Same.e shape_Same.f
  repeat' (with_reducible first | exact Le.leaf _ | exact Le.none _ | exact LeS.next _ | exact LeS.done _ | exact LeS.bad _ | refine Le.ite ?_ ?_ | refine LeS.ite ?_ ?_ | refine Le.bind ?_ (fun _ => ?_) | refine LeS.bind ?_ (fun _ => ?_) | refine Le.on (fun _ => ?_) (fun _ => ?_) | refine LeS.on (fun _ => ?_) (fun _ => ?_) | refine Le.ptr (fun _ => ?_) ?_ | refine LeS.ptr (fun _ => ?_) ?_ | refine Le.loopN (fun _ => ?_) | apply slices_Equal_int.e_le)

def shape_May.e (n_ : Nat) (x0 : (List Int)) : Option Bool :=
  (shape_Size.e n_ x0).bind fun r23 =>
  if r23.2 = 0 then (some true)
  else (some false)
theorem shape_May.e_le (n_ : Nat) (x0 : (List Int))  : Le (shape_May.e n_ x0) (shape_May.f x0) := by
  unfold shape_May.e shape_May.f
  repeat' (with_reducible first | exact Le.leaf _ | exact Le.none _ | exact LeS.next _ | exact LeS.done _ | exact LeS.bad _ | refine Le.ite ?_ ?_ | refine LeS.ite ?_ ?_ | refine Le.bind ?_ (fun _ => ?_) | refine LeS.bind ?_ (fun _ => ?_) | refine Le.on (fun _ => ?_) (fun _ => ?_) | refine LeS.on (fun _ => ?_) (fun _ => ?_) | refine Le.ptr (fun _ => ?_) ?_ | refine LeS.ptr (fun _ => ?_) ?_ | refine Le.loopN (fun _ => ?_) | apply shape_Size.e_le)

def shape_number.e (n_ : Nat) (x0 : (List Int)) (x1 : Int) : Option Int :=
  if (x0.length : Int) ≤ x1 then (some 1)
  else (if 0 ≤ (w64 ((w64 ((x0.length : Int) - 1)) - x1)) ∧ (w64 ((w64 ((x0.length : Int) - 1)) - x1)) < (x0.length : Int) then (some (rd x0 (w64 ((w64 ((x0.length : Int) - 1)) - x1))))
  else none)
theorem shape_number.e_le (n_ : Nat) (x0 : (List Int)) (x1 : Int)  : Le (shape_number.e n_ x0 x1) (shape_number.f x0 x1) := by
  unfold shape_number.e shape_number.f
  repeat' (with_reducible first | exact Le.leaf _ | exact Le.none _ | exact LeS.next _ | exact LeS.done _ | exact LeS.bad _ | refine Le.ite ?_ ?_ | refine LeS.ite ?_ ?_ | refine Le.bind ?_ (fun _ => ?_) | refine LeS.bind ?_ (fun _ => ?_) | refine Le.on (fun _ => ?_) (fun _ => ?_) | refine LeS.on (fun _ => ?_) (fun _ => ?_) | refine Le.ptr (fun _ => ?_) ?_ | refine LeS.ptr (fun _ => ?_) ?_ | refine Le.loopN (fun _ => ?_))

def shape_Spread.l0e (n_ : Nat) (x1 : (List Int)) (x0 : (List Int)) (s59 : (Int × (List Int))) : Step (Int × (List Int)) (Out2 (Int × (List Int)) ((List Int) × Int)) :=
  if s59.1 < (((List.replicate ((if (x1.length : Int) > (x0.length : Int) then (x1.length : Int) else (x0.length : Int))).toNat (0 : Int)).length : Nat) : Int) then (bindS (shape_number.e n_ x0 s59.1) fun r72 =>
  bindS (shape_number.e n_ x1 s59.1) fun r73 =>
  if r72 = r73 then (if 0 ≤ (w64 ((w64 ((s59.2.length : Int) - 1)) - s59.1)) ∧ (w64 ((w64 ((s59.2.length : Int) - 1)) - s59.1)) < (s59.2.length : Int) then (.next ((w64 (s59.1 + 1)), (put s59.2 (w64 ((w64 ((s59.2.length : Int) - 1)) - s59.1)) (if r73 > r72 then r73 else r72))))
  else .bad)
  else (if r72 = 1 then (if 0 ≤ (w64 ((w64 ((s59.2.length : Int) - 1)) - s59.1)) ∧ (w64 ((w64 ((s59.2.length : Int) - 1)) - s59.1)) < (s59.2.length : Int) then (.next ((w64 (s59.1 + 1)), (put s59.2 (w64 ((w64 ((s59.2.length : Int) - 1)) - s59.1)) (if r73 > r72 then r73 else r72))))
  else .bad)
  else (if r73 = 1 then (if 0 ≤ (w64 ((w64 ((s59.2.length : Int) - 1)) - s59.1)) ∧ (w64 ((w64 ((s59.2.length : Int) - 1)) - s59.1)) < (s59.2.length : Int) then (.next ((w64 (s59.1 + 1)), (put s59.2 (w64 ((w64 ((s59.2.length : Int) - 1)) - s59.1)) (if r73 > r72 then r73 else r72))))
  else .bad)
  else (.done (.ret (([] : (List Int)), 2))))))
  else (.done (.go (s59.1, s59.2)))
theorem shape_Spread.l0e_le (n_ : Nat) (x1 : (List Int)) (x0 : (List Int)) (s59 : (Int × (List Int)))  : LeS (shape_Spread.l0e n_ x1 x0 s59) (shape_Spread.l0 x1 x0 s59) := by
  unfold shape_Spread.l0e shape_Spread.l0
  repeat' (with_reducible first | exact Le.leaf _ | exact Le.none _ | exact LeS.next _ | exact LeS.done _ | exact LeS.bad _ | refine Le.ite ?_ ?_ | refine LeS.ite ?_ ?_ | refine Le.bind ?_ (fun _ => ?_) | refine LeS.bind ?_ (fun _ => ?_) | refine Le.on (fun _ => ?_) (fun _ => ?_) | refine LeS.on (fun _ => ?_) (fun _ => ?_) | refine Le.ptr (fun _ => ?_) ?_ | refine LeS.ptr (fun _ => ?_) ?_ | refine Le.loopN (fun _ => ?_) | apply shape_number.e_le)
def shape_Spread.e (n_ : Nat) (x0 : (List Int)) (x1 : (List Int)) : Option ((List Int) × Int) :=
  (shape_May.e n_ x0).bind fun r23 =>
  if r23 = true then ((shape_May.e n_ x1).bind fun r25 =>
  if r25 = true then (if 0 ≤ (if (x1.length : Int) > (x0.length : Int) then (x1.length : Int) else (x0.length : Int)) ∧ (if (x1.length : Int) > (x0.length : Int) then (x1.length : Int) else (x0.length : Int)) ≤ 1099511627776 then ((loopN n_ (shape_Spread.l0e n_ x1 x0) (0, (List.replicate ((if (x1.length : Int) > (x0.length : Int) then (x1.length : Int) else (x0.length : Int))).toNat (0 : Int)))).bind fun r60 =>
  r60.on (fun yr60 =>
  (shape_Size.e n_ yr60.2).bind fun r149 =>
  if r149.2 = 0 then (some (yr60.2, 0))
  else (some (([] : (List Int)), r149.2))) (fun y => some y))
  else none)
  else (some (([] : (List Int)), 2)))
  else (some (([] : (List Int)), 2))
theorem shape_Spread.e_le (n_ : Nat) (x0 : (List Int)) (x1 : (List Int))  : Le (shape_Spread.e n_ x0 x1) (shape_Spread.f x0 x1) := by
  unfold shape_Spread.e shape_Spread.f
  repeat' (with_reducible first | exact Le.leaf _ | exact Le.none _ | exact LeS.next _ | exact LeS.done _ | exact LeS.bad _ | refine Le.ite ?_ ?_ | refine LeS.ite ?_ ?_ | refine Le.bind ?_ (fun _ => ?_) | refine LeS.bind ?_ (fun _ => ?_) | refine Le.on (fun _ => ?_) (fun _ => ?_) | refine LeS.on (fun _ => ?_) (fun _ => ?_) | refine Le.ptr (fun _ => ?_) ?_ | refine LeS.ptr (fun _ => ?_) ?_ | refine Le.loopN (fun _ => ?_) | apply shape_May.e_le | apply shape_Size.e_le | apply shape_Spread.l0e_le)

def shape_Place.l0e (n_ : Nat) (x0 : (List Int)) (s71 : (Int × Int × (List Int))) : Step (Int × Int × (List Int)) (Int × Int × (List Int)) :=
  if 0 ≤ s71.2.1 then (if 0 ≤ s71.2.1 ∧ s71.2.1 < (x0.length : Int) then (if (rd x0 s71.2.1) ≠ 0 then (if 0 ≤ s71.2.1 ∧ s71.2.1 < (s71.2.2.length : Int) then (.next ((w64 (Int.tdiv s71.1 (rd x0 s71.2.1))), (w64 (s71.2.1 - 1)), (put s71.2.2 s71.2.1 (Int.tmod s71.1 (rd x0 s71.2.1)))))
  else .bad)
  else .bad)
  else .bad)
  else (.done (s71.1, s71.2.1, s71.2.2))
theorem shape_Place.l0e_le (n_ : Nat) (x0 : (List Int)) (s71 : (Int × Int × (List Int)))  : LeS (shape_Place.l0e n_ x0 s71) (shape_Place.l0 x0 s71) := by
  unfold shape_Place.l0e shape_Place.l0
  repeat' (with_reducible first | exact Le.leaf _ | exact Le.none _ | exact LeS.next _ | exact LeS.done _ | exact LeS.bad _ | refine Le.ite ?_ ?_ | refine LeS.ite ?_ ?_ | refine Le.bind ?_ (fun _ => ?_) | refine LeS.bind ?_ (fun _ => ?_) | refine Le.on (fun _ => ?_) (fun _ => ?_) | refine LeS.on (fun _ => ?_) (fun _ => ?_) | refine Le.ptr (fun _ => ?_) ?_ | refine LeS.ptr (fun _ => ?_) ?_ | refine Le.loopN (fun _ => ?_))
def shape_Place.e (n_ : Nat) (x0 : (List Int)) (x1 : Int) : Option (List Int) :=
  (shape_Size.e n_ x0).bind fun r23 =>
  if r23.2 = 0 then (if x1 < 0 then (some ([] : (List Int)))
  else (if r23.1 ≤ x1 then (some ([] : (List Int)))
  else (if 0 ≤ (x0.length : Int) ∧ (x0.length : Int) ≤ 1099511627776 then ((loopN n_ (shape_Place.l0e n_ x0) (x1, (w64 ((x0.length : Int) - 1)), (List.replicate ((x0.length : Int)).toNat (0 : Int)))).bind fun r72 =>
  some r72.2.2)
  else none)))
  else (some ([] : (List Int)))
theorem shape_Place.e_le (n_ : Nat) (x0 : (List Int)) (x1 : Int)  : Le (shape_Place.e n_ x0 x1) (shape_Place.f x0 x1) := by
  unfold shape_Place.e shape_Place.f
  repeat' (with_reducible first | exact Le.leaf _ | exact Le.none _ | exact LeS.next _ | exact LeS.done _ | exact LeS.bad _ | refine Le.ite ?_ ?_ | refine LeS.ite ?_ ?_ | refine Le.bind ?_ (fun _ => ?_) | refine LeS.bind ?_ (fun _ => ?_) | refine Le.on (fun _ => ?_) (fun _ => ?_) | refine LeS.on (fun _ => ?_) (fun _ => ?_) | refine Le.ptr (fun _ => ?_) ?_ | refine LeS.ptr (fun _ => ?_) ?_ | refine Le.loopN (fun _ => ?_) | apply shape_Size.e_le | apply shape_Place.l0e_le)

def shape_Index.l0e (n_ : Nat) (x1 : (List Int)) (x0 : (List Int)) (s39 : (Int × Int)) : Step (Int × Int) (Out2 (Int × Int) Int) :=
  if s39.2 < (x1.length : Int) then (if 0 ≤ s39.2 ∧ s39.2 < (x1.length : Int) then (if (rd x1 s39.2) < 0 then (.done (.ret (-1)))
  else (if 0 ≤ s39.2 ∧ s39.2 < (x0.length : Int) then (if (rd x0 s39.2) ≤ (rd x1 s39.2) then (.done (.ret (-1)))
  else (.next ((w64 ((w64 (s39.1 * (rd x0 s39.2))) + (rd x1 s39.2))), (w64 (s39.2 + 1)))))
  else .bad))
  else .bad)
  else (.done (.go (s39.1, s39.2)))
theorem shape_Index.l0e_le (n_ : Nat) (x1 : (List Int)) (x0 : (List Int)) (s39 : (Int × Int))  : LeS (shape_Index.l0e n_ x1 x0 s39) (shape_Index.l0 x1 x0 s39) := by
  unfold shape_Index.l0e shape_Index.l0
  repeat' (with_reducible first | exact Le.leaf _ | exact Le.none _ | exact LeS.next _ | exact LeS.done _ | exact LeS.bad _ | refine Le.ite ?_ ?_ | refine LeS.ite ?_ ?_ | refine Le.bind ?_ (fun _ => ?_) | refine LeS.bind ?_ (fun _ => ?_) | refine Le.on (fun _ => ?_) (fun _ => ?_) | refine LeS.on (fun _ => ?_) (fun _ => ?_) | refine Le.ptr (fun _ => ?_) ?_ | refine LeS.ptr (fun _ => ?_) ?_ | refine Le.loopN (fun _ => ?_))
def shape_Index.e (n_ : Nat) (x0 : (List Int)) (x1 : (List Int)) : Option Int :=
  (shape_May.e n_ x0).bind fun r23 =>
  if r23 = true then (if (x1.length : Int) = (x0.length : Int) then ((loopN n_ (shape_Index.l0e n_ x1 x0) (0, 0)).bind fun r40 =>
  r40.on (fun yr40 =>
  some yr40.1) (fun y => some y))
  else (some (-1)))
  else (some (-1))
theorem shape_Index.e_le (n_ : Nat) (x0 : (List Int)) (x1 : (List Int))  : Le (shape_Index.e n_ x0 x1) (shape_Index.f x0 x1) := by
  unfold shape_Index.e shape_Index.f
  repeat' (with_reducible first | exact Le.leaf _ | exact Le.none _ | exact LeS.next _ | exact LeS.done _ | exact LeS.bad _ | refine Le.ite ?_ ?_ | refine LeS.ite ?_ ?_ | refine Le.bind ?_ (fun _ => ?_) | refine LeS.bind ?_ (fun _ => ?_) | refine Le.on (fun _ => ?_) (fun _ => ?_) | refine LeS.on (fun _ => ?_) (fun _ => ?_) | refine Le.ptr (fun _ => ?_) ?_ | refine LeS.ptr (fun _ => ?_) ?_ | refine Le.loopN (fun _ => ?_) | apply shape_May.e_le | apply shape_Index.l0e_le)

def kernel_from.l0e (n_ : Nat) (r24 : (List Int)) (x0 : (List Int)) (s41 : (Int × (List Int))) : Step (Int × (List Int)) (Int × (List Int)) :=
  if s41.1 < (r24.length : Int) then (if 0 ≤ s41.1 ∧ s41.1 < (x0.length : Int) then (if (rd x0 s41.1) = 1 then (if 0 ≤ s41.1 ∧ s41.1 < (s41.2.length : Int) then (.next ((w64 (s41.1 + 1)), (put s41.2 s41.1 0)))
  else .bad)
  else (.next ((w64 (s41.1 + 1)), s41.2)))
  else .bad)
  else (.done (s41.1, s41.2))
theorem kernel_from.l0e_le (n_ : Nat) (r24 : (List Int)) (x0 : (List Int)) (s41 : (Int × (List Int)))  : LeS (kernel_from.l0e n_ r24 x0 s41) (kernel_from.l0 r24 x0 s41) := by
  unfold kernel_from.l0e kernel_from.l0
  repeat' (with_reducible first | exact Le.leaf _ | exact Le.none _ | exact LeS.next _ | exact LeS.done _ | exact LeS.bad _ | refine Le.ite ?_ ?_ | refine LeS.ite ?_ ?_ | refine Le.bind ?_ (fun _ => ?_) | refine LeS.bind ?_ (fun _ => ?_) | refine Le.on (fun _ => ?_) (fun _ => ?_) | refine LeS.on (fun _ => ?_) (fun _ => ?_) | refine Le.ptr (fun _ => ?_) ?_ | refine LeS.ptr (fun _ => ?_) ?_ | refine Le.loopN (fun _ => ?_))
def kernel_from.e (n_ : Nat) (x0 : (List Int)) (x1 : (List Int)) : Option Int :=
  if 0 ≤ (w64 ((x1.length : Int) - (x0.length : Int))) ∧ (w64 ((x1.length : Int) - (x0.length : Int))) ≤ (x1.length : Int) then ((slices_Clone_int.e n_ ((List.take x1.length x1).drop (((w64 ((x1.length : Int) - (x0.length : Int)))).toNat))).bind fun r24 =>
  (loopN n_ (kernel_from.l0e n_ r24 x0) (0, r24)).bind fun r42 =>
  (shape_Index.e n_ x0 r42.2).bind fun r82 =>
  some r82)
  else none
theorem kernel_from.e_le (n_ : Nat) (x0 : (List Int)) (x1 : (List Int))  : Le (kernel_from.e n_ x0 x1) (kernel_from.f x0 x1) := by
  unfold kernel_from.e kernel_from.f
  repeat' (with_reducible first | exact Le.leaf _ | exact Le.none _ | exact LeS.next _ | exact LeS.done _ | exact LeS.bad _ | refine Le.ite ?_ ?_ | refine LeS.ite ?_ ?_ | refine Le.bind ?_ (fun _ => ?_) | refine LeS.bind ?_ (fun _ => ?_) | refine Le.on (fun _ => ?_) (fun _ => ?_) | refine LeS.on (fun _ => ?_) (fun _ => ?_) | refine Le.ptr (fun _ => ?_) ?_ | refine LeS.ptr (fun _ => ?_) ?_ | refine Le.loopN (fun _ => ?_) | apply shape_Index.e_le | apply slices_Clone_int.e_le | apply kernel_from.l0e_le)

def kernel_two_1.e (n_ : Nat) (x0 : Nat) (x1 : Nat) : Option Nat :=
  some (fadd x0 x1)
theorem kernel_two_1.e_le (n_ : Nat) (x0 : Nat) (x1 : Nat)  : Le (kernel_two_1.e n_ x0 x1) (kernel_two_1.f x0 x1) := by
  unfold kernel_two_1.e kernel_two_1.f
  repeat' (with_reducible first | exact Le.leaf _ | exact Le.none _ | exact LeS.next _ | exact LeS.done _ | exact LeS.bad _ | refine Le.ite ?_ ?_ | refine LeS.ite ?_ ?_ | refine Le.bind ?_ (fun _ => ?_) | refine LeS.bind ?_ (fun _ => ?_) | refine Le.on (fun _ => ?_) (fun _ => ?_) | refine LeS.on (fun _ => ?_) (fun _ => ?_) | refine Le.ptr (fun _ => ?_) ?_ | refine LeS.ptr (fun _ => ?_) ?_ | refine Le.loopN (fun _ => ?_))

def kernel_two_2.e (n_ : Nat) (x0 : Nat) (x1 : Nat) : Option Nat :=
  some (fsub x0 x1)
theorem kernel_two_2.e_le (n_ : Nat) (x0 : Nat) (x1 : Nat)  : Le (kernel_two_2.e n_ x0 x1) (kernel_two_2.f x0 x1) := by
  unfold kernel_two_2.e kernel_two_2.f
  repeat' (with_reducible first | exact Le.leaf _ | exact Le.none _ | exact LeS.next _ | exact LeS.done _ | exact LeS.bad _ | refine Le.ite ?_ ?_ | refine LeS.ite ?_ ?_ | refine Le.bind ?_ (fun _ => ?_) | refine LeS.bind ?_ (fun _ => ?_) | refine Le.on (fun _ => ?_) (fun _ => ?_) | refine LeS.on (fun _ => ?_) (fun _ => ?_) | refine Le.ptr (fun _ => ?_) ?_ | refine LeS.ptr (fun _ => ?_) ?_ | refine Le.loopN (fun _ => ?_))

def kernel_two_3.e (n_ : Nat) (x0 : Nat) (x1 : Nat) : Option Nat :=
  some (fmul x0 x1)
theorem kernel_two_3.e_le (n_ : Nat) (x0 : Nat) (x1 : Nat)  : Le (kernel_two_3.e n_ x0 x1) (kernel_two_3.f x0 x1) := by
  unfold kernel_two_3.e kernel_two_3.f
  repeat' (with_reducible first | exact Le.leaf _ | exact Le.none _ | exact LeS.next _ | exact LeS.done _ | exact LeS.bad _ | refine Le.ite ?_ ?_ | refine LeS.ite ?_ ?_ | refine Le.bind ?_ (fun _ => ?_) | refine LeS.bind ?_ (fun _ => ?_) | refine Le.on (fun _ => ?_) (fun _ => ?_) | refine LeS.on (fun _ => ?_) (fun _ => ?_) | refine Le.ptr (fun _ => ?_) ?_ | refine LeS.ptr (fun _ => ?_) ?_ | refine Le.loopN (fun _ => ?_))

def kernel_two_4.e (n_ : Nat) (x0 : Nat) (x1 : Nat) : Option Nat :=
  some (fdiv x0 x1)
theorem kernel_two_4.e_le (n_ : Nat) (x0 : Nat) (x1 : Nat)  : Le (kernel_two_4.e n_ x0 x1) (kernel_two_4.f x0 x1) := by
  unfold kernel_two_4.e kernel_two_4.f
  repeat' (with_reducible first | exact Le.leaf _ | exact Le.none _ | exact LeS.next _ | exact LeS.done _ | exact LeS.bad _ | refine Le.ite ?_ ?_ | refine LeS.ite ?_ ?_ | refine Le.bind ?_ (fun _ => ?_) | refine LeS.bind ?_ (fun _ => ?_) | refine Le.on (fun _ => ?_) (fun _ => ?_) | refine LeS.on (fun _ => ?_) (fun _ => ?_) | refine Le.ptr (fun _ => ?_) ?_ | refine LeS.ptr (fun _ => ?_) ?_ | refine Le.loopN (fun _ => ?_))

def kernel_Two.l0e (n_ : Nat) (r93 : (Tensor × Int)) (r77 : ((List Int) × Int)) (x1 : Tensor) (x2 : Tensor) (s122 : (Int × (List Nat))) : Step (Int × (List Nat)) (Int × (List Nat)) :=
  if s122.1 < (r93.1.Data.length : Int) then (bindS (shape_Place.e n_ r77.1 s122.1) fun r134 =>
  bindS (kernel_from.e n_ x1.Shape r134) fun r147 =>
  if 0 ≤ r147 ∧ r147 < (x1.Data.length : Int) then (bindS (kernel_from.e n_ x2.Shape r134) fun r149 =>
  if 0 ≤ r149 ∧ r149 < (x2.Data.length : Int) then (bindS (kernel_two_1.e n_ (rd x1.Data r147) (rd x2.Data r149)) fun r151 =>
  if 0 ≤ s122.1 ∧ s122.1 < (s122.2.length : Int) then (.next ((w64 (s122.1 + 1)), (put s122.2 s122.1 r151)))
  else .bad)
  else .bad)
  else .bad)
  else (.done (s122.1, s122.2))
theorem kernel_Two.l0e_le (n_ : Nat) (r93 : (Tensor × Int)) (r77 : ((List Int) × Int)) (x1 : Tensor) (x2 : Tensor) (s122 : (Int × (List Nat)))  : LeS (kernel_Two.l0e n_ r93 r77 x1 x2 s122) (kernel_Two.l0 r93 r77 x1 x2 s122) := by
  unfold kernel_Two.l0e kernel_Two.l0
  repeat' (with_reducible first | exact Le.leaf _ | exact Le.none _ | exact LeS.next _ | exact LeS.done _ | exact LeS.bad _ | refine Le.ite ?_ ?_ | refine LeS.ite ?_ ?_ | refine Le.bind ?_ (fun _ => ?_) | refine LeS.bind ?_ (fun _ => ?_) | refine Le.on (fun _ => ?_) (fun _ => ?_) | refine LeS.on (fun _ => ?_) (fun _ => ?_) | refine Le.ptr (fun _ => ?_) ?_ | refine LeS.ptr (fun _ => ?_) ?_ | refine Le.loopN (fun _ => ?_) | apply kernel_from.e_le | apply kernel_two_1.e_le | apply shape_Place.e_le)
def kernel_Two.l1e (n_ : Nat) (r390 : (Tensor × Int)) (r374 : ((List Int) × Int)) (x1 : Tensor) (x2 : Tensor) (s419 : (Int × (List Nat))) : Step (Int × (List Nat)) (Int × (List Nat)) :=
  if s419.1 < (r390.1.Data.length : Int) then (bindS (shape_Place.e n_ r374.1 s419.1) fun r431 =>
  bindS (kernel_from.e n_ x1.Shape r431) fun r444 =>
  if 0 ≤ r444 ∧ r444 < (x1.Data.length : Int) then (bindS (kernel_from.e n_ x2.Shape r431) fun r446 =>
  if 0 ≤ r446 ∧ r446 < (x2.Data.length : Int) then (bindS (kernel_two_2.e n_ (rd x1.Data r444) (rd x2.Data r446)) fun r448 =>
  if 0 ≤ s419.1 ∧ s419.1 < (s419.2.length : Int) then (.next ((w64 (s419.1 + 1)), (put s419.2 s419.1 r448)))
  else .bad)
  else .bad)
  else .bad)
  else (.done (s419.1, s419.2))
theorem kernel_Two.l1e_le (n_ : Nat) (r390 : (Tensor × Int)) (r374 : ((List Int) × Int)) (x1 : Tensor) (x2 : Tensor) (s419 : (Int × (List Nat)))  : LeS (kernel_Two.l1e n_ r390 r374 x1 x2 s419) (kernel_Two.l1 r390 r374 x1 x2 s419) := by
  unfold kernel_Two.l1e kernel_Two.l1
  repeat' (with_reducible first | exact Le.leaf _ | exact Le.none _ | exact LeS.next _ | exact LeS.done _ | exact LeS.bad _ | refine Le.ite ?_ ?_ | refine LeS.ite ?_ ?_ | refine Le.bind ?_ (fun _ => ?_) | refine LeS.bind ?_ (fun _ => ?_) | refine Le.on (fun _ => ?_) (fun _ => ?_) | refine LeS.on (fun _ => ?_) (fun _ => ?_) | refine Le.ptr (fun _ => ?_) ?_ | refine LeS.ptr (fun _ => ?_) ?_ | refine Le.loopN (fun _ => ?_) | apply kernel_from.e_le | apply kernel_two_2.e_le | apply shape_Place.e_le)
def kernel_Two.l2e (n_ : Nat) (r687 : (Tensor × Int)) (r671 : ((List Int) × Int)) (x1 : Tensor) (x2 : Tensor) (s716 : (Int × (List Nat))) : Step (Int × (List Nat)) (Int × (List Nat)) :=
  if s716.1 < (r687.1.Data.length : Int) then (bindS (shape_Place.e n_ r671.1 s716.1) fun r728 =>
  bindS (kernel_from.e n_ x1.Shape r728) fun r741 =>
  if 0 ≤ r741 ∧ r741 < (x1.Data.length : Int) then (bindS (kernel_from.e n_ x2.Shape r728) fun r743 =>
  if 0 ≤ r743 ∧ r743 < (x2.Data.length : Int) then (bindS (kernel_two_3.e n_ (rd x1.Data r741) (rd x2.Data r743)) fun r745 =>
  if 0 ≤ s716.1 ∧ s716.1 < (s716.2.length : Int) then (.next ((w64 (s716.1 + 1)), (put s716.2 s716.1 r745)))
  else .bad)
  else .bad)
  else .bad)
  else (.done (s716.1, s716.2))
theorem kernel_Two.l2e_le (n_ : Nat) (r687 : (Tensor × Int)) (r671 : ((List Int) × Int)) (x1 : Tensor) (x2 : Tensor) (s716 : (Int × (List Nat)))  : LeS (kernel_Two.l2e n_ r687 r671 x1 x2 s716) (kernel_Two.l2 r687 r671 x1 x2 s716) := by
  unfold kernel_Two.l2e kernel_Two.l2
  repeat' (with_reducible first | exact Le.leaf _ | exact Le.none _ | exact LeS.next _ | exact LeS.done _ | exact LeS.bad _ | refine Le.ite ?_ ?_ | refine LeS.ite ?_ ?_ | refine Le.bind ?_ (fun _ => ?_) | refine LeS.bind ?_ (fun _ => ?_) | refine Le.on (fun _ => ?_) (fun _ => ?_) | refine LeS.on (fun _ => ?_) (fun _ => ?_) | refine Le.ptr (fun _ => ?_) ?_ | refine LeS.ptr (fun _ => ?_) ?_ | refine Le.loopN (fun _ => ?_) | apply kernel_from.e_le | apply kernel_two_3.e_le | apply shape_Place.e_le)
def kernel_Two.l3e (n_ : Nat) (r984 : (Tensor × Int)) (r968 : ((List Int) × Int)) (x1 : Tensor) (x2 : Tensor) (s1013 : (Int × (List Nat))) : Step (Int × (List Nat)) (Int × (List Nat)) :=
  if s1013.1 < (r984.1.Data.length : Int) then (bindS (shape_Place.e n_ r968.1 s1013.1) fun r1025 =>
  bindS (kernel_from.e n_ x1.Shape r1025) fun r1038 =>
  if 0 ≤ r1038 ∧ r1038 < (x1.Data.length : Int) then (bindS (kernel_from.e n_ x2.Shape r1025) fun r1040 =>
  if 0 ≤ r1040 ∧ r1040 < (x2.Data.length : Int) then (bindS (kernel_two_4.e n_ (rd x1.Data r1038) (rd x2.Data r1040)) fun r1042 =>
  if 0 ≤ s1013.1 ∧ s1013.1 < (s1013.2.length : Int) then (.next ((w64 (s1013.1 + 1)), (put s1013.2 s1013.1 r1042)))
  else .bad)
  else .bad)
  else .bad)
  else (.done (s1013.1, s1013.2))
theorem kernel_Two.l3e_le (n_ : Nat) (r984 : (Tensor × Int)) (r968 : ((List Int) × Int)) (x1 : Tensor) (x2 : Tensor) (s1013 : (Int × (List Nat)))  : LeS (kernel_Two.l3e n_ r984 r968 x1 x2 s1013) (kernel_Two.l3 r984 r968 x1 x2 s1013) := by
  unfold kernel_Two.l3e kernel_Two.l3
  repeat' (with_reducible first | exact Le.leaf _ | exact Le.none _ | exact LeS.next _ | exact LeS.done _ | exact LeS.bad _ | refine Le.ite ?_ ?_ | refine LeS.ite ?_ ?_ | refine Le.bind ?_ (fun _ => ?_) | refine LeS.bind ?_ (fun _ => ?_) | refine Le.on (fun _ => ?_) (fun _ => ?_) | refine LeS.on (fun _ => ?_) (fun _ => ?_) | refine Le.ptr (fun _ => ?_) ?_ | refine LeS.ptr (fun _ => ?_) ?_ | refine Le.loopN (fun _ => ?_) | apply kernel_from.e_le | apply kernel_two_4.e_le | apply shape_Place.e_le)
def kernel_Two.e (n_ : Nat) (x0 : Int) (x1 : Tensor) (x2 : Tensor) : Option (Tensor × Int) :=
  if x0 = 4 then ((tensor_May.e n_ x1).bind fun r56 =>
  if r56 = true then ((tensor_May.e n_ x2).bind fun r58 =>
  if r58 = true then ((shape_Spread.e n_ x1.Shape x2.Shape).bind fun r77 =>
  if r77.2 = 0 then ((tensor_New.e n_ r77.1 0).bind fun r93 =>
  (loopN n_ (kernel_Two.l0e n_ r93 r77 x1 x2) (0, r93.1.Data)).bind fun r123 =>
  some ((⟨r93.1.Shape, r123.2⟩ : Tensor), 0))
  else (some ((⟨([] : (List Int)), ([] : (List Nat))⟩ : Tensor), r77.2)))
  else (some ((⟨([] : (List Int)), ([] : (List Nat))⟩ : Tensor), 2)))
  else (some ((⟨([] : (List Int)), ([] : (List Nat))⟩ : Tensor), 2)))
  else (if x0 = 5 then ((tensor_May.e n_ x1).bind fun r354 =>
  if r354 = true then ((tensor_May.e n_ x2).bind fun r356 =>
  if r356 = true then ((shape_Spread.e n_ x1.Shape x2.Shape).bind fun r374 =>
  if r374.2 = 0 then ((tensor_New.e n_ r374.1 0).bind fun r390 =>
  (loopN n_ (kernel_Two.l1e n_ r390 r374 x1 x2) (0, r390.1.Data)).bind fun r420 =>
  some ((⟨r390.1.Shape, r420.2⟩ : Tensor), 0))
  else (some ((⟨([] : (List Int)), ([] : (List Nat))⟩ : Tensor), r374.2)))
  else (some ((⟨([] : (List Int)), ([] : (List Nat))⟩ : Tensor), 2)))
  else (some ((⟨([] : (List Int)), ([] : (List Nat))⟩ : Tensor), 2)))
  else (if x0 = 6 then ((tensor_May.e n_ x1).bind fun r651 =>
  if r651 = true then ((tensor_May.e n_ x2).bind fun r653 =>
  if r653 = true then ((shape_Spread.e n_ x1.Shape x2.Shape).bind fun r671 =>
  if r671.2 = 0 then ((tensor_New.e n_ r671.1 0).bind fun r687 =>
  (loopN n_ (kernel_Two.l2e n_ r687 r671 x1 x2) (0, r687.1.Data)).bind fun r717 =>
  some ((⟨r687.1.Shape, r717.2⟩ : Tensor), 0))
  else (some ((⟨([] : (List Int)), ([] : (List Nat))⟩ : Tensor), r671.2)))
  else (some ((⟨([] : (List Int)), ([] : (List Nat))⟩ : Tensor), 2)))
  else (some ((⟨([] : (List Int)), ([] : (List Nat))⟩ : Tensor), 2)))
  else (if x0 = 7 then ((tensor_May.e n_ x1).bind fun r948 =>
  if r948 = true then ((tensor_May.e n_ x2).bind fun r950 =>
  if r950 = true then ((shape_Spread.e n_ x1.Shape x2.Shape).bind fun r968 =>
  if r968.2 = 0 then ((tensor_New.e n_ r968.1 0).bind fun r984 =>
  (loopN n_ (kernel_Two.l3e n_ r984 r968 x1 x2) (0, r984.1.Data)).bind fun r1014 =>
  some ((⟨r984.1.Shape, r1014.2⟩ : Tensor), 0))
  else (some ((⟨([] : (List Int)), ([] : (List Nat))⟩ : Tensor), r968.2)))
  else (some ((⟨([] : (List Int)), ([] : (List Nat))⟩ : Tensor), 2)))
  else (some ((⟨([] : (List Int)), ([] : (List Nat))⟩ : Tensor), 2)))
  else (some ((⟨([] : (List Int)), ([] : (List Nat))⟩ : Tensor), 4)))))
theorem kernel_Two.e_le (n_ : Nat) (x0 : Int) (x1 : Tensor) (x2 : Tensor)  : Le (kernel_Two.e n_ x0 x1 x2) (kernel_Two.f x0 x1 x2) := by
  unfold kernel_Two.e kernel_Two.f
  repeat' (with_reducible first | exact Le.leaf _ | exact Le.none _ | exact LeS.next _ | exact LeS.done _ | exact LeS.bad _ | refine Le.ite ?_ ?_ | refine LeS.ite ?_ ?_ | refine Le.bind ?_ (fun _ => ?_) | refine LeS.bind ?_ (fun _ => ?_) | refine Le.on (fun _ => ?_) (fun _ => ?_) | refine LeS.on (fun _ => ?_) (fun _ => ?_) | refine Le.ptr (fun _ => ?_) ?_ | refine LeS.ptr (fun _ => ?_) ?_ | refine Le.loopN (fun _ => ?_) | apply shape_Spread.e_le | apply tensor_May.e_le | apply tensor_New.e_le | apply kernel_Two.l0e_le | apply kernel_Two.l1e_le | apply kernel_Two.l2e_le | apply kernel_Two.l3e_le)

def shelf_Shelf_Commit.l0e (n_ : Nat) (x1 : (List Tensor)) (x0 : Shelf) (s28 : Int) : Step Int (Out2 Int ((List Tensor) × Int)) :=
  if s28 < (x1.length : Int) then (if 0 ≤ s28 ∧ s28 < (x1.length : Int) then (bindS (tensor_May.e n_ (⟨(rd x1 s28).Shape, (rd x1 s28).Data⟩ : Tensor)) fun r65 =>
  if r65 = true then (if 0 ≤ s28 ∧ s28 < (x0.l.length : Int) then (bindS (shape_Same.e n_ (rd x1 s28).Shape (rd x0.l s28).Shape) fun r68 =>
  if r68 = true then (.next (w64 (s28 + 1)))
  else (.done (.ret (x0.grads, 2))))
  else .bad)
  else (.done (.ret (x0.grads, 2))))
  else .bad)
  else (.done (.go s28))
theorem shelf_Shelf_Commit.l0e_le (n_ : Nat) (x1 : (List Tensor)) (x0 : Shelf) (s28 : Int)  : LeS (shelf_Shelf_Commit.l0e n_ x1 x0 s28) (shelf_Shelf_Commit.l0 x1 x0 s28) := by
  unfold shelf_Shelf_Commit.l0e shelf_Shelf_Commit.l0
  repeat' (with_reducible first | exact Le.leaf _ | exact Le.none _ | exact LeS.next _ | exact LeS.done _ | exact LeS.bad _ | refine Le.ite ?_ ?_ | refine LeS.ite ?_ ?_ | refine Le.bind ?_ (fun _ => ?_) | refine LeS.bind ?_ (fun _ => ?_) | refine Le.on (fun _ => ?_) (fun _ => ?_) | refine LeS.on (fun _ => ?_) (fun _ => ?_) | refine Le.ptr (fun _ => ?_) ?_ | refine LeS.ptr (fun _ => ?_) ?_ | refine Le.loopN (fun _ => ?_) | apply shape_Same.e_le | apply tensor_May.e_le)
def shelf_Shelf_Commit.l1e (n_ : Nat) (x1 : (List Tensor)) (s281 : (Int × (List Tensor))) : Step (Int × (List Tensor)) (Int × (List Tensor)) :=
  if s281.1 < (x1.length : Int) then (if 0 ≤ s281.1 ∧ s281.1 < (x1.length : Int) then (if 0 ≤ s281.1 ∧ s281.1 < (s281.2.length : Int) then (bindS (kernel_Two.e n_ 4 (⟨(rd s281.2 s281.1).Shape, (rd s281.2 s281.1).Data⟩ : Tensor) (⟨(rd x1 s281.1).Shape, (rd x1 s281.1).Data⟩ : Tensor)) fun r318 =>
  .next ((w64 (s281.1 + 1)), (put s281.2 s281.1 r318.1)))
  else .bad)
  else .bad)
  else (.done (s281.1, s281.2))
theorem shelf_Shelf_Commit.l1e_le (n_ : Nat) (x1 : (List Tensor)) (s281 : (Int × (List Tensor)))  : LeS (shelf_Shelf_Commit.l1e n_ x1 s281) (shelf_Shelf_Commit.l1 x1 s281) := by
  unfold shelf_Shelf_Commit.l1e shelf_Shelf_Commit.l1
  repeat' (with_reducible first | exact Le.leaf _ | exact Le.none _ | exact LeS.next _ | exact LeS.done _ | exact LeS.bad _ | refine Le.ite ?_ ?_ | refine LeS.ite ?_ ?_ | refine Le.bind ?_ (fun _ => ?_) | refine LeS.bind ?_ (fun _ => ?_) | refine Le.on (fun _ => ?_) (fun _ => ?_) | refine LeS.on (fun _ => ?_) (fun _ => ?_) | refine Le.ptr (fun _ => ?_) ?_ | refine LeS.ptr (fun _ => ?_) ?_ | refine Le.loopN (fun _ => ?_) | apply kernel_Two.e_le)
def shelf_Shelf_Commit.e (n_ : Nat) (x0 : Shelf) (x1 : (List Tensor)) : Option ((List Tensor) × Int) :=
  if (x1.length : Int) = (x0.l.length : Int) then ((loopN n_ (shelf_Shelf_Commit.l0e n_ x1 x0) 0).bind fun r29 =>
  r29.on (fun yr29 =>
  (loopN n_ (shelf_Shelf_Commit.l1e n_ x1) (0, x0.grads)).bind fun r282 =>
  some (r282.2, 0)) (fun y => some y))
  else (some (x0.grads, 1))
theorem shelf_Shelf_Commit.e_le (n_ : Nat) (x0 : Shelf) (x1 : (List Tensor))  : Le (shelf_Shelf_Commit.e n_ x0 x1) (shelf_Shelf_Commit.f x0 x1) := by
  unfold shelf_Shelf_Commit.e shelf_Shelf_Commit.f
  repeat' (with_reducible first | exact Le.leaf _ | exact Le.none _ | exact LeS.next _ | exact LeS.done _ | exact LeS.bad _ | refine Le.ite ?_ ?_ | refine LeS.ite ?_ ?_ | refine Le.bind ?_ (fun _ => ?_) | refine LeS.bind ?_ (fun _ => ?_) | refine Le.on (fun _ => ?_) (fun _ => ?_) | refine LeS.on (fun _ => ?_) (fun _ => ?_) | refine Le.ptr (fun _ => ?_) ?_ | refine LeS.ptr (fun _ => ?_) ?_ | refine Le.loopN (fun _ => ?_) | apply shelf_Shelf_Commit.l0e_le | apply shelf_Shelf_Commit.l1e_le)

def shelf_Shelf_there.e (n_ : Nat) (x0 : Shelf) (x1 : Int) : Option Int :=
  if x1 < 0 then (some 7)
  else (if (x0.l.length : Int) ≤ x1 then (some 7)
  else (some 0))
theorem shelf_Shelf_there.e_le (n_ : Nat) (x0 : Shelf) (x1 : Int)  : Le (shelf_Shelf_there.e n_ x0 x1) (shelf_Shelf_there.f x0 x1) := by
  unfold shelf_Shelf_there.e shelf_Shelf_there.f
  repeat' (with_reducible first | exact Le.leaf _ | exact Le.none _ | exact LeS.next _ | exact LeS.done _ | exact LeS.bad _ | refine Le.ite ?_ ?_ | refine LeS.ite ?_ ?_ | refine Le.bind ?_ (fun _ => ?_) | refine LeS.bind ?_ (fun _ => ?_) | refine Le.on (fun _ => ?_) (fun _ => ?_) | refine LeS.on (fun _ => ?_) (fun _ => ?_) | refine Le.ptr (fun _ => ?_) ?_ | refine LeS.ptr (fun _ => ?_) ?_ | refine Le.loopN (fun _ => ?_))

def shelf_Shelf_Grad.e (n_ : Nat) (x0 : Shelf) (x1 : Int) : Option (Tensor × Int) :=
  (shelf_Shelf_there.e n_ x0 x1).bind fun r30 =>
  if r30 = 0 then (if 0 ≤ x1 ∧ x1 < (x0.grads.length : Int) then ((tensor_Copy.e n_ (⟨(rd x0.grads x1).Shape, (rd x0.grads x1).Data⟩ : Tensor)).bind fun r44 =>
  some (r44, 0))
  else none)
  else (some ((⟨([] : (List Int)), ([] : (List Nat))⟩ : Tensor), r30))
theorem shelf_Shelf_Grad.e_le (n_ : Nat) (x0 : Shelf) (x1 : Int)  : Le (shelf_Shelf_Grad.e n_ x0 x1) (shelf_Shelf_Grad.f x0 x1) := by
  unfold shelf_Shelf_Grad.e shelf_Shelf_Grad.f
  repeat' (with_reducible first | exact Le.leaf _ | exact Le.none _ | exact LeS.next _ | exact LeS.done _ | exact LeS.bad _ | refine Le.ite ?_ ?_ | refine LeS.ite ?_ ?_ | refine Le.bind ?_ (fun _ => ?_) | refine LeS.bind ?_ (fun _ => ?_) | refine Le.on (fun _ => ?_) (fun _ => ?_) | refine LeS.on (fun _ => ?_) (fun _ => ?_) | refine Le.ptr (fun _ => ?_) ?_ | refine LeS.ptr (fun _ => ?_) ?_ | refine Le.loopN (fun _ => ?_) | apply shelf_Shelf_there.e_le | apply tensor_Copy.e_le)

def law19_awake.e (n_ : Nat)  : Option Bool :=
  (law19_awake_1.e n_ 4619567317775286272).bind fun r25 =>
  (shelf_New.e n_ ([r25] : List Tensor)).bind fun r26 =>
  onPtr r26.1 (fun y28 =>
  if r26.2 = 0 then ((law19_awake_1.e n_ 4607182418800017408).bind fun r107 =>
  (shelf_Shelf_Commit.e n_ y28 ([r107] : List Tensor)).bind fun r108 =>
  if r108.2 = 0 then ((law19_awake_1.e n_ 4611686018427387904).bind fun r110 =>
  (shelf_Shelf_Commit.e n_ (⟨y28.l, y28.vers, r108.1⟩ : Shelf) ([r110] : List Tensor)).bind fun r111 =>
  if r111.2 = 0 then ((shelf_Shelf_Grad.e n_ (⟨y28.l, y28.vers, r111.1⟩ : Shelf) 0).bind fun r170 =>
  if r170.2 = 0 then (if (r170.1.Data.length : Int) = 1 then (if (0 : Int) ≤ 0 ∧ 0 < (r170.1.Data.length : Int) then (if (feq (rd r170.1.Data 0) 4613937818241073152) = true then (some true)
  else (some false))
  else none)
  else (some false))
  else (some false))
  else (some false))
  else (some false))
  else (some false)) (if r26.2 = 0 then (some false)
  else (some false))
theorem law19_awake.e_le (n_ : Nat)   : Le (law19_awake.e n_ ) (law19_awake.f ) := by
  unfold law19_awake.e law19_awake.f
  repeat' (with_reducible first | exact Le.leaf _ | exact Le.none _ | exact LeS.next _ | exact LeS.done _ | exact LeS.bad _ | refine Le.ite ?_ ?_ | refine LeS.ite ?_ ?_ | refine Le.bind ?_ (fun _ => ?_) | refine LeS.bind ?_ (fun _ => ?_) | refine Le.on (fun _ => ?_) (fun _ => ?_) | refine LeS.on (fun _ => ?_) (fun _ => ?_) | refine Le.ptr (fun _ => ?_) ?_ | refine LeS.ptr (fun _ => ?_) ?_ | refine Le.loopN (fun _ => ?_) | apply law19_awake_1.e_le | apply shelf_New.e_le | apply shelf_Shelf_Commit.e_le | apply shelf_Shelf_Grad.e_le)
end Go.Proofs.Yteaoijahdinciaa
