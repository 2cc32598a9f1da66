/- Printed by gen.py. -/
import Derived.Test.YtkcgiolledmbnacF4
namespace Go.Proofs.Ytkcgiolledmbnac
open Go Go.RowKit
set_option linter.unusedSimpArgs false
set_option linter.unusedVariables false
set_option linter.unnecessarySimpa false
def shape_Size_1.e (n_ : Nat) (x0 : Int) : Option Bool :=
  if x0 < 1 then (some true)
  else (some false)
theorem shape_Size_1.e_le (n_ : Nat) (x0 : Int)  : Le (shape_Size_1.e n_ x0) (shape_Size_1.f x0) := by
  unfold shape_Size_1.e shape_Size_1.f
  repeat' (with_reducible first | exact Le.leaf _ | exact Le.none _ | exact LeS.next _ | exact LeS.done _ | exact LeS.bad _ | refine Le.ite ?_ ?_ | refine LeS.ite ?_ ?_ | refine Le.bind ?_ (fun _ => ?_) | refine LeS.bind ?_ (fun _ => ?_) | refine Le.on (fun _ => ?_) (fun _ => ?_) | refine LeS.on (fun _ => ?_) (fun _ => ?_) | refine Le.ptr (fun _ => ?_) ?_ | refine LeS.ptr (fun _ => ?_) ?_ | refine Le.loopN (fun _ => ?_))

def slices_IndexFunc_int_shape_Size_1.l0e (n_ : Nat) (x0 : (List Int)) (s25 : Int) : Step Int (Out2 Int Int) :=
  if s25 < (x0.length : Int) then (if 0 ≤ s25 ∧ s25 < (x0.length : Int) then (bindS (shape_Size_1.e n_ (rd x0 s25)) fun r38 =>
  if r38 = true then (.done (.ret s25))
  else (.next (w64 (s25 + 1))))
  else .bad)
  else (.done (.go s25))
theorem slices_IndexFunc_int_shape_Size_1.l0e_le (n_ : Nat) (x0 : (List Int)) (s25 : Int)  : LeS (slices_IndexFunc_int_shape_Size_1.l0e n_ x0 s25) (slices_IndexFunc_int_shape_Size_1.l0 x0 s25) := by
  unfold slices_IndexFunc_int_shape_Size_1.l0e slices_IndexFunc_int_shape_Size_1.l0
  repeat' (with_reducible first | exact Le.leaf _ | exact Le.none _ | exact LeS.next _ | exact LeS.done _ | exact LeS.bad _ | refine Le.ite ?_ ?_ | refine LeS.ite ?_ ?_ | refine Le.bind ?_ (fun _ => ?_) | refine LeS.bind ?_ (fun _ => ?_) | refine Le.on (fun _ => ?_) (fun _ => ?_) | refine LeS.on (fun _ => ?_) (fun _ => ?_) | refine Le.ptr (fun _ => ?_) ?_ | refine LeS.ptr (fun _ => ?_) ?_ | refine Le.loopN (fun _ => ?_) | apply shape_Size_1.e_le)
def slices_IndexFunc_int_shape_Size_1.e (n_ : Nat) (x0 : (List Int)) : Option Int :=
  (loopN n_ (slices_IndexFunc_int_shape_Size_1.l0e n_ x0) 0).bind fun r26 =>
  r26.on (fun yr26 =>
  some (-1)) (fun y => some y)
theorem slices_IndexFunc_int_shape_Size_1.e_le (n_ : Nat) (x0 : (List Int))  : Le (slices_IndexFunc_int_shape_Size_1.e n_ x0) (slices_IndexFunc_int_shape_Size_1.f x0) := by
  unfold slices_IndexFunc_int_shape_Size_1.e slices_IndexFunc_int_shape_Size_1.f
  repeat' (with_reducible first | exact Le.leaf _ | exact Le.none _ | exact LeS.next _ | exact LeS.done _ | exact LeS.bad _ | refine Le.ite ?_ ?_ | refine LeS.ite ?_ ?_ | refine Le.bind ?_ (fun _ => ?_) | refine LeS.bind ?_ (fun _ => ?_) | refine Le.on (fun _ => ?_) (fun _ => ?_) | refine LeS.on (fun _ => ?_) (fun _ => ?_) | refine Le.ptr (fun _ => ?_) ?_ | refine LeS.ptr (fun _ => ?_) ?_ | refine Le.loopN (fun _ => ?_) | apply slices_IndexFunc_int_shape_Size_1.l0e_le)

def slices_ContainsFunc_int_shape_Size_1.e (n_ : Nat) (x0 : (List Int)) : Option Bool :=
  (slices_IndexFunc_int_shape_Size_1.e n_ x0).bind fun r23 =>
  if 0 ≤ r23 then (some true)
  else (some false)
theorem slices_ContainsFunc_int_shape_Size_1.e_le (n_ : Nat) (x0 : (List Int))  : Le (slices_ContainsFunc_int_shape_Size_1.e n_ x0) (slices_ContainsFunc_int_shape_Size_1.f x0) := by
  unfold slices_ContainsFunc_int_shape_Size_1.e slices_ContainsFunc_int_shape_Size_1.f
  repeat' (with_reducible first | exact Le.leaf _ | exact Le.none _ | exact LeS.next _ | exact LeS.done _ | exact LeS.bad _ | refine Le.ite ?_ ?_ | refine LeS.ite ?_ ?_ | refine Le.bind ?_ (fun _ => ?_) | refine LeS.bind ?_ (fun _ => ?_) | refine Le.on (fun _ => ?_) (fun _ => ?_) | refine LeS.on (fun _ => ?_) (fun _ => ?_) | refine Le.ptr (fun _ => ?_) ?_ | refine LeS.ptr (fun _ => ?_) ?_ | refine Le.loopN (fun _ => ?_) | apply slices_IndexFunc_int_shape_Size_1.e_le)

def shape_Size.l0e (n_ : Nat) (x0 : (List Int)) (s51 : (Int × Int)) : Step (Int × Int) (Out2 (Int × Int) (Int × Int)) :=
  if s51.2 < (x0.length : Int) then (if 0 ≤ s51.2 ∧ s51.2 < (x0.length : Int) then (if s51.1 ≠ 0 then (if (w64 (Int.tdiv 4096 s51.1)) < (rd x0 s51.2) then (.done (.ret (0, 3)))
  else (.next ((w64 (s51.1 * (rd x0 s51.2))), (w64 (s51.2 + 1)))))
  else .bad)
  else .bad)
  else (.done (.go (s51.1, s51.2)))
theorem shape_Size.l0e_le (n_ : Nat) (x0 : (List Int)) (s51 : (Int × Int))  : LeS (shape_Size.l0e n_ x0 s51) (shape_Size.l0 x0 s51) := by
  unfold shape_Size.l0e shape_Size.l0
  repeat' (with_reducible first | exact Le.leaf _ | exact Le.none _ | exact LeS.next _ | exact LeS.done _ | exact LeS.bad _ | refine Le.ite ?_ ?_ | refine LeS.ite ?_ ?_ | refine Le.bind ?_ (fun _ => ?_) | refine LeS.bind ?_ (fun _ => ?_) | refine Le.on (fun _ => ?_) (fun _ => ?_) | refine LeS.on (fun _ => ?_) (fun _ => ?_) | refine Le.ptr (fun _ => ?_) ?_ | refine LeS.ptr (fun _ => ?_) ?_ | refine Le.loopN (fun _ => ?_))
def shape_Size.e (n_ : Nat) (x0 : (List Int)) : Option (Int × Int) :=
  if 4 < (x0.length : Int) then (some (0, 2))
  else ((slices_ContainsFunc_int_shape_Size_1.e n_ x0).bind fun r31 =>
  if r31 = true then (some (0, 2))
  else ((loopN n_ (shape_Size.l0e n_ x0) (1, 0)).bind fun r52 =>
  r52.on (fun yr52 =>
  some (yr52.1, 0)) (fun y => some y)))
theorem shape_Size.e_le (n_ : Nat) (x0 : (List Int))  : Le (shape_Size.e n_ x0) (shape_Size.f x0) := by
  unfold shape_Size.e shape_Size.f
  repeat' (with_reducible first | exact Le.leaf _ | exact Le.none _ | exact LeS.next _ | exact LeS.done _ | exact LeS.bad _ | refine Le.ite ?_ ?_ | refine LeS.ite ?_ ?_ | refine Le.bind ?_ (fun _ => ?_) | refine LeS.bind ?_ (fun _ => ?_) | refine Le.on (fun _ => ?_) (fun _ => ?_) | refine LeS.on (fun _ => ?_) (fun _ => ?_) | refine Le.ptr (fun _ => ?_) ?_ | refine LeS.ptr (fun _ => ?_) ?_ | refine Le.loopN (fun _ => ?_) | apply slices_ContainsFunc_int_shape_Size_1.e_le | apply shape_Size.l0e_le)

def slices_Clone_int.e (n_ : Nat) (x0 : (List Int)) : Option (List Int) :=
  if 0 + x0.length ≤ 549755813888 then (some (([] : List Int) ++ x0))
  else none
theorem slices_Clone_int.e_le (n_ : Nat) (x0 : (List Int))  : Le (slices_Clone_int.e n_ x0) (slices_Clone_int.f x0) := by
  unfold slices_Clone_int.e slices_Clone_int.f
  repeat' (with_reducible first | exact Le.leaf _ | exact Le.none _ | exact LeS.next _ | exact LeS.done _ | exact LeS.bad _ | refine Le.ite ?_ ?_ | refine LeS.ite ?_ ?_ | refine Le.bind ?_ (fun _ => ?_) | refine LeS.bind ?_ (fun _ => ?_) | refine Le.on (fun _ => ?_) (fun _ => ?_) | refine LeS.on (fun _ => ?_) (fun _ => ?_) | refine Le.ptr (fun _ => ?_) ?_ | refine LeS.ptr (fun _ => ?_) ?_ | refine Le.loopN (fun _ => ?_))

def bits_Mul64.e (n_ : Nat) (x0 : Int) (x1 : Int) : Option (Int × Int) :=
  some ((IntKind.wrap .u64 ((IntKind.wrap .u64 ((IntKind.wrap .u64 ((Int.fdiv x0 (2 ^ 32)) * (Int.fdiv x1 (2 ^ 32)))) + (Int.fdiv (IntKind.wrap .u64 ((IntKind.wrap .u64 ((Int.fdiv x0 (2 ^ 32)) * (bits .and .u64 x1 4294967295))) + (Int.fdiv (IntKind.wrap .u64 ((bits .and .u64 x0 4294967295) * (bits .and .u64 x1 4294967295))) (2 ^ 32)))) (2 ^ 32)))) + (Int.fdiv (IntKind.wrap .u64 ((bits .and .u64 (IntKind.wrap .u64 ((IntKind.wrap .u64 ((Int.fdiv x0 (2 ^ 32)) * (bits .and .u64 x1 4294967295))) + (Int.fdiv (IntKind.wrap .u64 ((bits .and .u64 x0 4294967295) * (bits .and .u64 x1 4294967295))) (2 ^ 32)))) 4294967295) + (IntKind.wrap .u64 ((bits .and .u64 x0 4294967295) * (Int.fdiv x1 (2 ^ 32)))))) (2 ^ 32)))), (IntKind.wrap .u64 (x0 * x1)))
theorem bits_Mul64.e_le (n_ : Nat) (x0 : Int) (x1 : Int)  : Le (bits_Mul64.e n_ x0 x1) (bits_Mul64.f x0 x1) := by
  unfold bits_Mul64.e bits_Mul64.f
  repeat' (with_reducible first | exact Le.leaf _ | exact Le.none _ | exact LeS.next _ | exact LeS.done _ | exact LeS.bad _ | refine Le.ite ?_ ?_ | refine LeS.ite ?_ ?_ | refine Le.bind ?_ (fun _ => ?_) | refine LeS.bind ?_ (fun _ => ?_) | refine Le.on (fun _ => ?_) (fun _ => ?_) | refine LeS.on (fun _ => ?_) (fun _ => ?_) | refine Le.ptr (fun _ => ?_) ?_ | refine LeS.ptr (fun _ => ?_) ?_ | refine Le.loopN (fun _ => ?_))

def bits_Mul.e (n_ : Nat) (x0 : Int) (x1 : Int) : Option (Int × Int) :=
  (bits_Mul64.e n_ x0 x1).bind fun r23 =>
  some (r23.1, r23.2)
theorem bits_Mul.e_le (n_ : Nat) (x0 : Int) (x1 : Int)  : Le (bits_Mul.e n_ x0 x1) (bits_Mul.f x0 x1) := by
  unfold bits_Mul.e bits_Mul.f
  repeat' (with_reducible first | exact Le.leaf _ | exact Le.none _ | exact LeS.next _ | exact LeS.done _ | exact LeS.bad _ | refine Le.ite ?_ ?_ | refine LeS.ite ?_ ?_ | refine Le.bind ?_ (fun _ => ?_) | refine LeS.bind ?_ (fun _ => ?_) | refine Le.on (fun _ => ?_) (fun _ => ?_) | refine LeS.on (fun _ => ?_) (fun _ => ?_) | refine Le.ptr (fun _ => ?_) ?_ | refine LeS.ptr (fun _ => ?_) ?_ | refine Le.loopN (fun _ => ?_) | apply bits_Mul64.e_le)

def slices_Repeat_float64.l0e (n_ : Nat)  (s75 : (Int × (List Nat))) : Step (Int × (List Nat)) (Int × (List Nat)) :=
  if s75.1 < (s75.2.length : Int) then (if 0 ≤ s75.1 ∧ s75.1 ≤ (s75.2.length : Int) then (.next ((w64 (s75.1 + ((List.take (min ((s75.1).toNat - 0) (s75.2.length - (s75.1).toNat)) s75.2).length : Int))), (cpy s75.2 ((s75.1).toNat) (List.take (min ((s75.1).toNat - 0) (s75.2.length - (s75.1).toNat)) s75.2))))
  else .bad)
  else (.done (s75.1, s75.2))
theorem slices_Repeat_float64.l0e_le (n_ : Nat)  (s75 : (Int × (List Nat)))  : LeS (slices_Repeat_float64.l0e n_ s75) (slices_Repeat_float64.l0 s75) := by
  unfold slices_Repeat_float64.l0e slices_Repeat_float64.l0
  repeat' (with_reducible first | exact Le.leaf _ | exact Le.none _ | exact LeS.next _ | exact LeS.done _ | exact LeS.bad _ | refine Le.ite ?_ ?_ | refine LeS.ite ?_ ?_ | refine Le.bind ?_ (fun _ => ?_) | refine LeS.bind ?_ (fun _ => ?_) | refine Le.on (fun _ => ?_) (fun _ => ?_) | refine LeS.on (fun _ => ?_) (fun _ => ?_) | refine Le.ptr (fun _ => ?_) ?_ | refine LeS.ptr (fun _ => ?_) ?_ | refine Le.loopN (fun _ => ?_))
def slices_Repeat_float64.e (n_ : Nat) (x0 : (List Nat)) (x1 : Int) : Option (List Nat) :=
  if x1 < 0 then none
  else ((bits_Mul.e n_ (IntKind.wrap .u64 ((x0.length : Int))) (IntKind.wrap .u64 (x1))).bind fun r28 =>
  if 0 < r28.1 then none
  else (if 9223372036854775807 < r28.2 then none
  else (if 0 ≤ (w64 (r28.2)) ∧ (w64 (r28.2)) ≤ 1099511627776 then ((loopN n_ (slices_Repeat_float64.l0e n_) (((List.take ((List.replicate ((w64 (r28.2))).toNat (0 : Nat)).length) x0).length : Int), (cpy (List.replicate ((w64 (r28.2))).toNat (0 : Nat)) 0 (List.take ((List.replicate ((w64 (r28.2))).toNat (0 : Nat)).length) x0)))).bind fun r76 =>
  some r76.2)
  else none)))
theorem slices_Repeat_float64.e_le (n_ : Nat) (x0 : (List Nat)) (x1 : Int)  : Le (slices_Repeat_float64.e n_ x0 x1) (slices_Repeat_float64.f x0 x1) := by
  unfold slices_Repeat_float64.e slices_Repeat_float64.f
  repeat' (with_reducible first | exact Le.leaf _ | exact Le.none _ | exact LeS.next _ | exact LeS.done _ | exact LeS.bad _ | refine Le.ite ?_ ?_ | refine LeS.ite ?_ ?_ | refine Le.bind ?_ (fun _ => ?_) | refine LeS.bind ?_ (fun _ => ?_) | refine Le.on (fun _ => ?_) (fun _ => ?_) | refine LeS.on (fun _ => ?_) (fun _ => ?_) | refine Le.ptr (fun _ => ?_) ?_ | refine LeS.ptr (fun _ => ?_) ?_ | refine Le.loopN (fun _ => ?_) | apply bits_Mul.e_le | apply slices_Repeat_float64.l0e_le)

def tensor_New.e (n_ : Nat) (x0 : (List Int)) (x1 : Nat) : Option (Tensor × Int) :=
  (shape_Size.e n_ x0).bind fun r30 =>
  if r30.2 = 0 then ((slices_Clone_int.e n_ x0).bind fun r43 =>
  (slices_Repeat_float64.e n_ ([x1] : List Nat) r30.1).bind fun r44 =>
  some ((⟨r43, r44⟩ : Tensor), 0))
  else (some ((⟨([] : (List Int)), ([] : (List Nat))⟩ : Tensor), r30.2))
theorem tensor_New.e_le (n_ : Nat) (x0 : (List Int)) (x1 : Nat)  : Le (tensor_New.e n_ x0 x1) (tensor_New.f x0 x1) := by
  unfold tensor_New.e tensor_New.f
  repeat' (with_reducible first | exact Le.leaf _ | exact Le.none _ | exact LeS.next _ | exact LeS.done _ | exact LeS.bad _ | refine Le.ite ?_ ?_ | refine LeS.ite ?_ ?_ | refine Le.bind ?_ (fun _ => ?_) | refine LeS.bind ?_ (fun _ => ?_) | refine Le.on (fun _ => ?_) (fun _ => ?_) | refine LeS.on (fun _ => ?_) (fun _ => ?_) | refine Le.ptr (fun _ => ?_) ?_ | refine LeS.ptr (fun _ => ?_) ?_ | refine Le.loopN (fun _ => ?_) | apply shape_Size.e_le | apply slices_Clone_int.e_le | apply slices_Repeat_float64.e_le)

def shape_May.e (n_ : Nat) (x0 : (List Int)) : Option Bool :=
  (shape_Size.e n_ x0).bind fun r23 =>
  if r23.2 = 0 then (some true)
  else (some false)
theorem shape_May.e_le (n_ : Nat) (x0 : (List Int))  : Le (shape_May.e n_ x0) (shape_May.f x0) := by
  unfold shape_May.e shape_May.f
  repeat' (with_reducible first | exact Le.leaf _ | exact Le.none _ | exact LeS.next _ | exact LeS.done _ | exact LeS.bad _ | refine Le.ite ?_ ?_ | refine LeS.ite ?_ ?_ | refine Le.bind ?_ (fun _ => ?_) | refine LeS.bind ?_ (fun _ => ?_) | refine Le.on (fun _ => ?_) (fun _ => ?_) | refine LeS.on (fun _ => ?_) (fun _ => ?_) | refine Le.ptr (fun _ => ?_) ?_ | refine LeS.ptr (fun _ => ?_) ?_ | refine Le.loopN (fun _ => ?_) | apply shape_Size.e_le)

def shape_Index.l0e (n_ : Nat) (x1 : (List Int)) (x0 : (List Int)) (s39 : (Int × Int)) : Step (Int × Int) (Out2 (Int × Int) Int) :=
  if s39.2 < (x1.length : Int) then (if 0 ≤ s39.2 ∧ s39.2 < (x1.length : Int) then (if (rd x1 s39.2) < 0 then (.done (.ret (-1)))
  else (if 0 ≤ s39.2 ∧ s39.2 < (x0.length : Int) then (if (rd x0 s39.2) ≤ (rd x1 s39.2) then (.done (.ret (-1)))
  else (.next ((w64 ((w64 (s39.1 * (rd x0 s39.2))) + (rd x1 s39.2))), (w64 (s39.2 + 1)))))
  else .bad))
  else .bad)
  else (.done (.go (s39.1, s39.2)))
theorem shape_Index.l0e_le (n_ : Nat) (x1 : (List Int)) (x0 : (List Int)) (s39 : (Int × Int))  : LeS (shape_Index.l0e n_ x1 x0 s39) (shape_Index.l0 x1 x0 s39) := by
  unfold shape_Index.l0e shape_Index.l0
  repeat' (with_reducible first | exact Le.leaf _ | exact Le.none _ | exact LeS.next _ | exact LeS.done _ | exact LeS.bad _ | refine Le.ite ?_ ?_ | refine LeS.ite ?_ ?_ | refine Le.bind ?_ (fun _ => ?_) | refine LeS.bind ?_ (fun _ => ?_) | refine Le.on (fun _ => ?_) (fun _ => ?_) | refine LeS.on (fun _ => ?_) (fun _ => ?_) | refine Le.ptr (fun _ => ?_) ?_ | refine LeS.ptr (fun _ => ?_) ?_ | refine Le.loopN (fun _ => ?_))
def shape_Index.e (n_ : Nat) (x0 : (List Int)) (x1 : (List Int)) : Option Int :=
  (shape_May.e n_ x0).bind fun r23 =>
  if r23 = true then (if (x1.length : Int) = (x0.length : Int) then ((loopN n_ (shape_Index.l0e n_ x1 x0) (0, 0)).bind fun r40 =>
  r40.on (fun yr40 =>
  some yr40.1) (fun y => some y))
  else (some (-1)))
  else (some (-1))
theorem shape_Index.e_le (n_ : Nat) (x0 : (List Int)) (x1 : (List Int))  : Le (shape_Index.e n_ x0 x1) (shape_Index.f x0 x1) := by
  unfold shape_Index.e shape_Index.f
  repeat' (with_reducible first | exact Le.leaf _ | exact Le.none _ | exact LeS.next _ | exact LeS.done _ | exact LeS.bad _ | refine Le.ite ?_ ?_ | refine LeS.ite ?_ ?_ | refine Le.bind ?_ (fun _ => ?_) | refine LeS.bind ?_ (fun _ => ?_) | refine Le.on (fun _ => ?_) (fun _ => ?_) | refine LeS.on (fun _ => ?_) (fun _ => ?_) | refine Le.ptr (fun _ => ?_) ?_ | refine LeS.ptr (fun _ => ?_) ?_ | refine Le.loopN (fun _ => ?_) | apply shape_May.e_le | apply shape_Index.l0e_le)

def tensor_May.e (n_ : Nat) (x0 : Tensor) : Option Bool :=
  (shape_Size.e n_ x0.Shape).bind fun r30 =>
  if r30.2 = 0 then (if (x0.Data.length : Int) = r30.1 then (some true)
  else (some false))
  else (some false)
theorem tensor_May.e_le (n_ : Nat) (x0 : Tensor)  : Le (tensor_May.e n_ x0) (tensor_May.f x0) := by
  unfold tensor_May.e tensor_May.f
  repeat' (with_reducible first | exact Le.leaf _ | exact Le.none _ | exact LeS.next _ | exact LeS.done _ | exact LeS.bad _ | refine Le.ite ?_ ?_ | refine LeS.ite ?_ ?_ | refine Le.bind ?_ (fun _ => ?_) | refine LeS.bind ?_ (fun _ => ?_) | refine Le.on (fun _ => ?_) (fun _ => ?_) | refine LeS.on (fun _ => ?_) (fun _ => ?_) | refine Le.ptr (fun _ => ?_) ?_ | refine LeS.ptr (fun _ => ?_) ?_ | refine Le.loopN (fun _ => ?_) | apply shape_Size.e_le)

def tensor_At.e (n_ : Nat) (x0 : Tensor) (x1 : (List Int)) : Option (Nat × Bool) :=
  (shape_Index.e n_ x0.Shape x1).bind fun r30 =>
  (tensor_May.e n_ x0).bind fun r41 =>
  if r41 = true then (if r30 < 0 then (some (0, false))
  else (if 0 ≤ r30 ∧ r30 < (x0.Data.length : Int) then (some ((rd x0.Data r30), true))
  else none))
  else (some (0, false))
theorem tensor_At.e_le (n_ : Nat) (x0 : Tensor) (x1 : (List Int))  : Le (tensor_At.e n_ x0 x1) (tensor_At.f x0 x1) := by
  unfold tensor_At.e tensor_At.f
  repeat' (with_reducible first | exact Le.leaf _ | exact Le.none _ | exact LeS.next _ | exact LeS.done _ | exact LeS.bad _ | refine Le.ite ?_ ?_ | refine LeS.ite ?_ ?_ | refine Le.bind ?_ (fun _ => ?_) | refine LeS.bind ?_ (fun _ => ?_) | refine Le.on (fun _ => ?_) (fun _ => ?_) | refine LeS.on (fun _ => ?_) (fun _ => ?_) | refine Le.ptr (fun _ => ?_) ?_ | refine LeS.ptr (fun _ => ?_) ?_ | refine Le.loopN (fun _ => ?_) | apply shape_Index.e_le | apply tensor_May.e_le)

def math_IsNaN.e (n_ : Nat) (x0 : Nat) : Option Bool :=
  if (fne x0 x0) = true then (some true)
  else (some false)
theorem math_IsNaN.e_le (n_ : Nat) (x0 : Nat)  : Le (math_IsNaN.e n_ x0) (math_IsNaN.f x0) := by
  unfold math_IsNaN.e math_IsNaN.f
  repeat' (with_reducible first | exact Le.leaf _ | exact Le.none _ | exact LeS.next _ | exact LeS.done _ | exact LeS.bad _ | refine Le.ite ?_ ?_ | refine LeS.ite ?_ ?_ | refine Le.bind ?_ (fun _ => ?_) | refine LeS.bind ?_ (fun _ => ?_) | refine Le.on (fun _ => ?_) (fun _ => ?_) | refine LeS.on (fun _ => ?_) (fun _ => ?_) | refine Le.ptr (fun _ => ?_) ?_ | refine LeS.ptr (fun _ => ?_) ?_ | refine Le.loopN (fun _ => ?_))

def math_Abs.e (n_ : Nat) (x0 : Nat) : Option Nat := some (fabs x0)
theorem math_Abs.e_le (n_ : Nat) (x0 : Nat)  : Le (math_Abs.e n_ x0) (math_Abs.f x0) := by
  unfold math_Abs.e math_Abs.f
  repeat' (with_reducible first | exact Le.leaf _ | exact Le.none _ | exact LeS.next _ | exact LeS.done _ | exact LeS.bad _ | refine Le.ite ?_ ?_ | refine LeS.ite ?_ ?_ | refine Le.bind ?_ (fun _ => ?_) | refine LeS.bind ?_ (fun _ => ?_) | refine Le.on (fun _ => ?_) (fun _ => ?_) | refine LeS.on (fun _ => ?_) (fun _ => ?_) | refine Le.ptr (fun _ => ?_) ?_ | refine LeS.ptr (fun _ => ?_) ?_ | refine Le.loopN (fun _ => ?_))

def math_IsInf.e (n_ : Nat) (x0 : Nat) (x1 : Int) : Option Bool :=
  if x1 = 0 then ((math_Abs.e n_ x0).bind fun r26 =>
  if (fgt r26 9218868437227405311) = true then (some true)
  else (some false))
  else (if x1 < 0 then (if (fgt (fneg x0) 9218868437227405311) = true then (some true)
  else (some false))
  else (if (fgt x0 9218868437227405311) = true then (some true)
  else (some false)))
theorem math_IsInf.e_le (n_ : Nat) (x0 : Nat) (x1 : Int)  : Le (math_IsInf.e n_ x0 x1) (math_IsInf.f x0 x1) := by
  unfold math_IsInf.e math_IsInf.f
  repeat' (with_reducible first | exact Le.leaf _ | exact Le.none _ | exact LeS.next _ | exact LeS.done _ | exact LeS.bad _ | refine Le.ite ?_ ?_ | refine LeS.ite ?_ ?_ | refine Le.bind ?_ (fun _ => ?_) | refine LeS.bind ?_ (fun _ => ?_) | refine Le.on (fun _ => ?_) (fun _ => ?_) | refine LeS.on (fun _ => ?_) (fun _ => ?_) | refine Le.ptr (fun _ => ?_) ?_ | refine LeS.ptr (fun _ => ?_) ?_ | refine Le.loopN (fun _ => ?_) | apply math_Abs.e_le)

def tensor_odd.e (n_ : Nat) (x0 : Nat) : Option Bool :=
  (math_IsNaN.e n_ x0).bind fun r23 =>
  if r23 = true then (some true)
  else ((math_IsInf.e n_ x0 0).bind fun r36 =>
  some r36)
theorem tensor_odd.e_le (n_ : Nat) (x0 : Nat)  : Le (tensor_odd.e n_ x0) (tensor_odd.f x0) := by
  unfold tensor_odd.e tensor_odd.f
  repeat' (with_reducible first | exact Le.leaf _ | exact Le.none _ | exact LeS.next _ | exact LeS.done _ | exact LeS.bad _ | refine Le.ite ?_ ?_ | refine LeS.ite ?_ ?_ | refine Le.bind ?_ (fun _ => ?_) | refine LeS.bind ?_ (fun _ => ?_) | refine Le.on (fun _ => ?_) (fun _ => ?_) | refine LeS.on (fun _ => ?_) (fun _ => ?_) | refine Le.ptr (fun _ => ?_) ?_ | refine LeS.ptr (fun _ => ?_) ?_ | refine Le.loopN (fun _ => ?_) | apply math_IsInf.e_le | apply math_IsNaN.e_le)

def slices_IndexFunc_float64_tensor_odd.l0e (n_ : Nat) (x0 : (List Nat)) (s25 : Int) : Step Int (Out2 Int Int) :=
  if s25 < (x0.length : Int) then (if 0 ≤ s25 ∧ s25 < (x0.length : Int) then (bindS (tensor_odd.e n_ (rd x0 s25)) fun r38 =>
  if r38 = true then (.done (.ret s25))
  else (.next (w64 (s25 + 1))))
  else .bad)
  else (.done (.go s25))
theorem slices_IndexFunc_float64_tensor_odd.l0e_le (n_ : Nat) (x0 : (List Nat)) (s25 : Int)  : LeS (slices_IndexFunc_float64_tensor_odd.l0e n_ x0 s25) (slices_IndexFunc_float64_tensor_odd.l0 x0 s25) := by
  unfold slices_IndexFunc_float64_tensor_odd.l0e slices_IndexFunc_float64_tensor_odd.l0
  repeat' (with_reducible first | exact Le.leaf _ | exact Le.none _ | exact LeS.next _ | exact LeS.done _ | exact LeS.bad _ | refine Le.ite ?_ ?_ | refine LeS.ite ?_ ?_ | refine Le.bind ?_ (fun _ => ?_) | refine LeS.bind ?_ (fun _ => ?_) | refine Le.on (fun _ => ?_) (fun _ => ?_) | refine LeS.on (fun _ => ?_) (fun _ => ?_) | refine Le.ptr (fun _ => ?_) ?_ | refine LeS.ptr (fun _ => ?_) ?_ | refine Le.loopN (fun _ => ?_) | apply tensor_odd.e_le)
def slices_IndexFunc_float64_tensor_odd.e (n_ : Nat) (x0 : (List Nat)) : Option Int :=
  (loopN n_ (slices_IndexFunc_float64_tensor_odd.l0e n_ x0) 0).bind fun r26 =>
  r26.on (fun yr26 =>
  some (-1)) (fun y => some y)
theorem slices_IndexFunc_float64_tensor_odd.e_le (n_ : Nat) (x0 : (List Nat))  : Le (slices_IndexFunc_float64_tensor_odd.e n_ x0) (slices_IndexFunc_float64_tensor_odd.f x0) := by
  unfold slices_IndexFunc_float64_tensor_odd.e slices_IndexFunc_float64_tensor_odd.f
  repeat' (with_reducible first | exact Le.leaf _ | exact Le.none _ | exact LeS.next _ | exact LeS.done _ | exact LeS.bad _ | refine Le.ite ?_ ?_ | refine LeS.ite ?_ ?_ | refine Le.bind ?_ (fun _ => ?_) | refine LeS.bind ?_ (fun _ => ?_) | refine Le.on (fun _ => ?_) (fun _ => ?_) | refine LeS.on (fun _ => ?_) (fun _ => ?_) | refine Le.ptr (fun _ => ?_) ?_ | refine LeS.ptr (fun _ => ?_) ?_ | refine Le.loopN (fun _ => ?_) | apply slices_IndexFunc_float64_tensor_odd.l0e_le)

def slices_ContainsFunc_float64_tensor_odd.e (n_ : Nat) (x0 : (List Nat)) : Option Bool :=
  (slices_IndexFunc_float64_tensor_odd.e n_ x0).bind fun r23 =>
  if 0 ≤ r23 then (some true)
  else (some false)
theorem slices_ContainsFunc_float64_tensor_odd.e_le (n_ : Nat) (x0 : (List Nat))  : Le (slices_ContainsFunc_float64_tensor_odd.e n_ x0) (slices_ContainsFunc_float64_tensor_odd.f x0) := by
  unfold slices_ContainsFunc_float64_tensor_odd.e slices_ContainsFunc_float64_tensor_odd.f
  repeat' (with_reducible first | exact Le.leaf _ | exact Le.none _ | exact LeS.next _ | exact LeS.done _ | exact LeS.bad _ | refine Le.ite ?_ ?_ | refine LeS.ite ?_ ?_ | refine Le.bind ?_ (fun _ => ?_) | refine LeS.bind ?_ (fun _ => ?_) | refine Le.on (fun _ => ?_) (fun _ => ?_) | refine LeS.on (fun _ => ?_) (fun _ => ?_) | refine Le.ptr (fun _ => ?_) ?_ | refine LeS.ptr (fun _ => ?_) ?_ | refine Le.loopN (fun _ => ?_) | apply slices_IndexFunc_float64_tensor_odd.e_le)

def tensor_Finite.e (n_ : Nat) (x0 : Tensor) : Option Bool :=
  (tensor_May.e n_ x0).bind fun r30 =>
  if r30 = true then ((slices_ContainsFunc_float64_tensor_odd.e n_ x0.Data).bind fun r32 =>
  if r32 = true then (some false)
  else (some true))
  else (some false)
theorem tensor_Finite.e_le (n_ : Nat) (x0 : Tensor)  : Le (tensor_Finite.e n_ x0) (tensor_Finite.f x0) := by
  unfold tensor_Finite.e tensor_Finite.f
  repeat' (with_reducible first | exact Le.leaf _ | exact Le.none _ | exact LeS.next _ | exact LeS.done _ | exact LeS.bad _ | refine Le.ite ?_ ?_ | refine LeS.ite ?_ ?_ | refine Le.bind ?_ (fun _ => ?_) | refine LeS.bind ?_ (fun _ => ?_) | refine Le.on (fun _ => ?_) (fun _ => ?_) | refine LeS.on (fun _ => ?_) (fun _ => ?_) | refine Le.ptr (fun _ => ?_) ?_ | refine LeS.ptr (fun _ => ?_) ?_ | refine Le.loopN (fun _ => ?_) | apply slices_ContainsFunc_float64_tensor_odd.e_le | apply tensor_May.e_le)

def slices_Equal_int.l0e (n_ : Nat) (x0 : (List Int)) (x1 : (List Int)) (s28 : Int) : Step Int (Out2 Int Bool) :=
  if s28 < (x0.length : Int) then (if 0 ≤ s28 ∧ s28 < (x0.length : Int) then (if 0 ≤ s28 ∧ s28 < (x1.length : Int) then (if (rd x0 s28) = (rd x1 s28) then (.next (w64 (s28 + 1)))
  else (.done (.ret false)))
  else .bad)
  else .bad)
  else (.done (.go s28))
theorem slices_Equal_int.l0e_le (n_ : Nat) (x0 : (List Int)) (x1 : (List Int)) (s28 : Int)  : LeS (slices_Equal_int.l0e n_ x0 x1 s28) (slices_Equal_int.l0 x0 x1 s28) := by
  unfold slices_Equal_int.l0e slices_Equal_int.l0
  repeat' (with_reducible first | exact Le.leaf _ | exact Le.none _ | exact LeS.next _ | exact LeS.done _ | exact LeS.bad _ | refine Le.ite ?_ ?_ | refine LeS.ite ?_ ?_ | refine Le.bind ?_ (fun _ => ?_) | refine LeS.bind ?_ (fun _ => ?_) | refine Le.on (fun _ => ?_) (fun _ => ?_) | refine LeS.on (fun _ => ?_) (fun _ => ?_) | refine Le.ptr (fun _ => ?_) ?_ | refine LeS.ptr (fun _ => ?_) ?_ | refine Le.loopN (fun _ => ?_))
def slices_Equal_int.e (n_ : Nat) (x0 : (List Int)) (x1 : (List Int)) : Option Bool :=
  if (x0.length : Int) = (x1.length : Int) then ((loopN n_ (slices_Equal_int.l0e n_ x0 x1) 0).bind fun r29 =>
  r29.on (fun yr29 =>
  some true) (fun y => some y))
  else (some false)
theorem slices_Equal_int.e_le (n_ : Nat) (x0 : (List Int)) (x1 : (List Int))  : Le (slices_Equal_int.e n_ x0 x1) (slices_Equal_int.f x0 x1) := by
  unfold slices_Equal_int.e slices_Equal_int.f
  repeat' (with_reducible first | exact Le.leaf _ | exact Le.none _ | exact LeS.next _ | exact LeS.done _ | exact LeS.bad _ | refine Le.ite ?_ ?_ | refine LeS.ite ?_ ?_ | refine Le.bind ?_ (fun _ => ?_) | refine LeS.bind ?_ (fun _ => ?_) | refine Le.on (fun _ => ?_) (fun _ => ?_) | refine LeS.on (fun _ => ?_) (fun _ => ?_) | refine Le.ptr (fun _ => ?_) ?_ | refine LeS.ptr (fun _ => ?_) ?_ | refine Le.loopN (fun _ => ?_) | apply slices_Equal_int.l0e_le)

def shape_Same.e (n_ : Nat) (x0 : (List Int)) (x1 : (List Int)) : Option Bool :=
  (slices_Equal_int.e n_ x0 x1).bind fun r23 =>
  some r23
theorem shape_Same.e_le (n_ : Nat) (x0 : (List Int)) (x1 : (List Int))  : Le (shape_Same.e n_ x0 x1) (shape_Same.f x0 x1) := by
  unfold shape_Same.e shape_Same.f
  repeat' (with_reducible first | exact Le.leaf _ | exact Le.none _ | exact LeS.next _ | exact LeS.done _ | exact LeS.bad _ | refine Le.ite ?_ ?_ | refine LeS.ite ?_ ?_ | refine Le.bind ?_ (fun _ => ?_) | refine LeS.bind ?_ (fun _ => ?_) | refine Le.on (fun _ => ?_) (fun _ => ?_) | refine LeS.on (fun _ => ?_) (fun _ => ?_) | refine Le.ptr (fun _ => ?_) ?_ | refine LeS.ptr (fun _ => ?_) ?_ | refine Le.loopN (fun _ => ?_) | apply slices_Equal_int.e_le)

def real_Bits.e (n_ : Nat) (x0 : Nat) : Option Int :=
  if (fne x0 x0) = true then (some 9221120237041090561)
  else (some (x0 : Int))
theorem real_Bits.e_le (n_ : Nat) (x0 : Nat)  : Le (real_Bits.e n_ x0) (real_Bits.f x0) := by
  unfold real_Bits.e real_Bits.f
  repeat' (with_reducible first | exact Le.leaf _ | exact Le.none _ | exact LeS.next _ | exact LeS.done _ | exact LeS.bad _ | refine Le.ite ?_ ?_ | refine LeS.ite ?_ ?_ | refine Le.bind ?_ (fun _ => ?_) | refine LeS.bind ?_ (fun _ => ?_) | refine Le.on (fun _ => ?_) (fun _ => ?_) | refine LeS.on (fun _ => ?_) (fun _ => ?_) | refine Le.ptr (fun _ => ?_) ?_ | refine LeS.ptr (fun _ => ?_) ?_ | refine Le.loopN (fun _ => ?_))

def real_Same.e (n_ : Nat) (x0 : Nat) (x1 : Nat) : Option Bool :=
  (real_Bits.e n_ x0).bind fun r23 =>
  (real_Bits.e n_ x1).bind fun r24 =>
  if r23 = r24 then (some true)
  else (some false)
theorem real_Same.e_le (n_ : Nat) (x0 : Nat) (x1 : Nat)  : Le (real_Same.e n_ x0 x1) (real_Same.f x0 x1) := by
  unfold real_Same.e real_Same.f
  repeat' (with_reducible first | exact Le.leaf _ | exact Le.none _ | exact LeS.next _ | exact LeS.done _ | exact LeS.bad _ | refine Le.ite ?_ ?_ | refine LeS.ite ?_ ?_ | refine Le.bind ?_ (fun _ => ?_) | refine LeS.bind ?_ (fun _ => ?_) | refine Le.on (fun _ => ?_) (fun _ => ?_) | refine LeS.on (fun _ => ?_) (fun _ => ?_) | refine Le.ptr (fun _ => ?_) ?_ | refine LeS.ptr (fun _ => ?_) ?_ | refine Le.loopN (fun _ => ?_) | apply real_Bits.e_le)

def slices_EqualFunc_float64_real_Same.l0e (n_ : Nat) (x0 : (List Nat)) (x1 : (List Nat)) (s28 : Int) : Step Int (Out2 Int Bool) :=
  if s28 < (x0.length : Int) then (if 0 ≤ s28 ∧ s28 < (x0.length : Int) then (if 0 ≤ s28 ∧ s28 < (x1.length : Int) then (bindS (real_Same.e n_ (rd x0 s28) (rd x1 s28)) fun r48 =>
  if r48 = true then (.next (w64 (s28 + 1)))
  else (.done (.ret false)))
  else .bad)
  else .bad)
  else (.done (.go s28))
theorem slices_EqualFunc_float64_real_Same.l0e_le (n_ : Nat) (x0 : (List Nat)) (x1 : (List Nat)) (s28 : Int)  : LeS (slices_EqualFunc_float64_real_Same.l0e n_ x0 x1 s28) (slices_EqualFunc_float64_real_Same.l0 x0 x1 s28) := by
  unfold slices_EqualFunc_float64_real_Same.l0e slices_EqualFunc_float64_real_Same.l0
  repeat' (with_reducible first | exact Le.leaf _ | exact Le.none _ | exact LeS.next _ | exact LeS.done _ | exact LeS.bad _ | refine Le.ite ?_ ?_ | refine LeS.ite ?_ ?_ | refine Le.bind ?_ (fun _ => ?_) | refine LeS.bind ?_ (fun _ => ?_) | refine Le.on (fun _ => ?_) (fun _ => ?_) | refine LeS.on (fun _ => ?_) (fun _ => ?_) | refine Le.ptr (fun _ => ?_) ?_ | refine LeS.ptr (fun _ => ?_) ?_ | refine Le.loopN (fun _ => ?_) | apply real_Same.e_le)
def slices_EqualFunc_float64_real_Same.e (n_ : Nat) (x0 : (List Nat)) (x1 : (List Nat)) : Option Bool :=
  if (x0.length : Int) = (x1.length : Int) then ((loopN n_ (slices_EqualFunc_float64_real_Same.l0e n_ x0 x1) 0).bind fun r29 =>
  r29.on (fun yr29 =>
  some true) (fun y => some y))
  else (some false)
theorem slices_EqualFunc_float64_real_Same.e_le (n_ : Nat) (x0 : (List Nat)) (x1 : (List Nat))  : Le (slices_EqualFunc_float64_real_Same.e n_ x0 x1) (slices_EqualFunc_float64_real_Same.f x0 x1) := by
  unfold slices_EqualFunc_float64_real_Same.e slices_EqualFunc_float64_real_Same.f
  repeat' (with_reducible first | exact Le.leaf _ | exact Le.none _ | exact LeS.next _ | exact LeS.done _ | exact LeS.bad _ | refine Le.ite ?_ ?_ | refine LeS.ite ?_ ?_ | refine Le.bind ?_ (fun _ => ?_) | refine LeS.bind ?_ (fun _ => ?_) | refine Le.on (fun _ => ?_) (fun _ => ?_) | refine LeS.on (fun _ => ?_) (fun _ => ?_) | refine Le.ptr (fun _ => ?_) ?_ | refine LeS.ptr (fun _ => ?_) ?_ | refine Le.loopN (fun _ => ?_) | apply slices_EqualFunc_float64_real_Same.l0e_le)

def tensor_Same.e (n_ : Nat) (x0 : Tensor) (x1 : Tensor) : Option Bool :=
  (shape_Same.e n_ x0.Shape x1.Shape).bind fun r37 =>
  if r37 = true then ((slices_EqualFunc_float64_real_Same.e n_ x0.Data x1.Data).bind fun r39 =>
  some r39)
  else (some false)
theorem tensor_Same.e_le (n_ : Nat) (x0 : Tensor) (x1 : Tensor)  : Le (tensor_Same.e n_ x0 x1) (tensor_Same.f x0 x1) := by
  unfold tensor_Same.e tensor_Same.f
  repeat' (with_reducible first | exact Le.leaf _ | exact Le.none _ | exact LeS.next _ | exact LeS.done _ | exact LeS.bad _ | refine Le.ite ?_ ?_ | refine LeS.ite ?_ ?_ | refine Le.bind ?_ (fun _ => ?_) | refine LeS.bind ?_ (fun _ => ?_) | refine Le.on (fun _ => ?_) (fun _ => ?_) | refine LeS.on (fun _ => ?_) (fun _ => ?_) | refine Le.ptr (fun _ => ?_) ?_ | refine LeS.ptr (fun _ => ?_) ?_ | refine Le.loopN (fun _ => ?_) | apply shape_Same.e_le | apply slices_EqualFunc_float64_real_Same.e_le)

def law3_awake.e (n_ : Nat)  : Option Bool :=
  (tensor_New.e n_ ([2] : List Int) 4607182418800017408).bind fun r23 =>
  (tensor_At.e n_ r23.1 ([1] : List Int)).bind fun r58 =>
  if r23.2 = 0 then (if r58.2 = true then (if (feq r58.1 4607182418800017408) = true then ((tensor_May.e n_ r23.1).bind fun r81 =>
  if r81 = true then ((tensor_Finite.e n_ r23.1).bind fun r83 =>
  if r83 = true then ((tensor_Same.e n_ r23.1 r23.1).bind fun r85 =>
  some r85)
  else (some false))
  else (some false))
  else (some false))
  else (some false))
  else (some false)
theorem law3_awake.e_le (n_ : Nat)   : Le (law3_awake.e n_ ) (law3_awake.f ) := by
  unfold law3_awake.e law3_awake.f
  repeat' (with_reducible first | exact Le.leaf _ | exact Le.none _ | exact LeS.next _ | exact LeS.done _ | exact LeS.bad _ | refine Le.ite ?_ ?_ | refine LeS.ite ?_ ?_ | refine Le.bind ?_ (fun _ => ?_) | refine LeS.bind ?_ (fun _ => ?_) | refine Le.on (fun _ => ?_) (fun _ => ?_) | refine LeS.on (fun _ => ?_) (fun _ => ?_) | refine Le.ptr (fun _ => ?_) ?_ | refine LeS.ptr (fun _ => ?_) ?_ | refine Le.loopN (fun _ => ?_) | apply tensor_At.e_le | apply tensor_Finite.e_le | apply tensor_May.e_le | apply tensor_New.e_le | apply tensor_Same.e_le)
end Go.Proofs.Ytkcgiolledmbnac
