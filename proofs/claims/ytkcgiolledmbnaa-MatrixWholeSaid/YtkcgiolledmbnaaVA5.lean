/- Printed by gen.py. -/
import Derived.Test.YtkcgiolledmbnaaF3
namespace Go.Proofs.Ytkcgiolledmbnaa
open Go Go.RowKit
set_option linter.unusedSimpArgs false
set_option linter.unusedVariables false
set_option linter.unnecessarySimpa false
def shape_Size_1.e (n_ : Nat) (x0 : Int) : Option Bool :=
  if x0 < 1 then (some true)
  else (some false)
theorem shape_Size_1.e_le (n_ : Nat) (x0 : Int)  : Le (shape_Size_1.e n_ x0) (shape_Size_1.f x0) := by
  unfold shape_Size_1.e shape_Size_1.f
  repeat' (with_reducible first | exact Le.leaf _ | exact Le.none _ | exact LeS.next _ | exact LeS.done _ | exact LeS.bad _ | refine Le.ite ?_ ?_ | refine LeS.ite ?_ ?_ | refine Le.bind ?_ (fun _ => ?_) | refine LeS.bind ?_ (fun _ => ?_) | refine Le.on (fun _ => ?_) (fun _ => ?_) | refine LeS.on (fun _ => ?_) (fun _ => ?_) | refine Le.ptr (fun _ => ?_) ?_ | refine LeS.ptr (fun _ => ?_) ?_ | refine Le.loopN (fun _ => ?_))

def slices_IndexFunc_int_shape_Size_1.l0e (n_ : Nat) (x0 : (List Int)) (s25 : Int) : Step Int (Out2 Int Int) :=
  if s25 < (x0.length : Int) then (if 0 ≤ s25 ∧ s25 < (x0.length : Int) then (bindS (shape_Size_1.e n_ (rd x0 s25)) fun r38 =>
  if r38 = true then (.done (.ret s25))
  else (.next (w64 (s25 + 1))))
  else .bad)
  else (.done (.go s25))
theorem slices_IndexFunc_int_shape_Size_1.l0e_le (n_ : Nat) (x0 : (List Int)) (s25 : Int)  : LeS (slices_IndexFunc_int_shape_Size_1.l0e n_ x0 s25) (slices_IndexFunc_int_shape_Size_1.l0 x0 s25) := by
  unfold slices_IndexFunc_int_shape_Size_1.l0e slices_IndexFunc_int_shape_Size_1.l0
  repeat' (with_reducible first | exact Le.leaf _ | exact Le.none _ | exact LeS.next _ | exact LeS.done _ | exact LeS.bad _ | refine Le.ite ?_ ?_ | refine LeS.ite ?_ ?_ | refine Le.bind ?_ (fun _ => ?_) | refine LeS.bind ?_ (fun _ => ?_) | refine Le.on (fun _ => ?_) (fun _ => ?_) | refine LeS.on (fun _ => ?_) (fun _ => ?_) | refine Le.ptr (fun _ => ?_) ?_ | refine LeS.ptr (fun _ => ?_) ?_ | refine Le.loopN (fun _ => ?_) | apply shape_Size_1.e_le)
def slices_IndexFunc_int_shape_Size_1.e (n_ : Nat) (x0 : (List Int)) : Option Int :=
  (loopN n_ (slices_IndexFunc_int_shape_Size_1.l0e n_ x0) 0).bind fun r26 =>
  r26.on (fun yr26 =>
  some (-1)) (fun y => some y)
theorem slices_IndexFunc_int_shape_Size_1.e_le (n_ : Nat) (x0 : (List Int))  : Le (slices_IndexFunc_int_shape_Size_1.e n_ x0) (slices_IndexFunc_int_shape_Size_1.f x0) := by
  unfold slices_IndexFunc_int_shape_Size_1.e slices_IndexFunc_int_shape_Size_1.f
  repeat' (with_reducible first | exact Le.leaf _ | exact Le.none _ | exact LeS.next _ | exact LeS.done _ | exact LeS.bad _ | refine Le.ite ?_ ?_ | refine LeS.ite ?_ ?_ | refine Le.bind ?_ (fun _ => ?_) | refine LeS.bind ?_ (fun _ => ?_) | refine Le.on (fun _ => ?_) (fun _ => ?_) | refine LeS.on (fun _ => ?_) (fun _ => ?_) | refine Le.ptr (fun _ => ?_) ?_ | refine LeS.ptr (fun _ => ?_) ?_ | refine Le.loopN (fun _ => ?_) | apply slices_IndexFunc_int_shape_Size_1.l0e_le)

def slices_ContainsFunc_int_shape_Size_1.e (n_ : Nat) (x0 : (List Int)) : Option Bool :=
  (slices_IndexFunc_int_shape_Size_1.e n_ x0).bind fun r23 =>
  if 0 ≤ r23 then (some true)
  else (some false)
theorem slices_ContainsFunc_int_shape_Size_1.e_le (n_ : Nat) (x0 : (List Int))  : Le (slices_ContainsFunc_int_shape_Size_1.e n_ x0) (slices_ContainsFunc_int_shape_Size_1.f x0) := by
  unfold slices_ContainsFunc_int_shape_Size_1.e slices_ContainsFunc_int_shape_Size_1.f
  repeat' (with_reducible first | exact Le.leaf _ | exact Le.none _ | exact LeS.next _ | exact LeS.done _ | exact LeS.bad _ | refine Le.ite ?_ ?_ | refine LeS.ite ?_ ?_ | refine Le.bind ?_ (fun _ => ?_) | refine LeS.bind ?_ (fun _ => ?_) | refine Le.on (fun _ => ?_) (fun _ => ?_) | refine LeS.on (fun _ => ?_) (fun _ => ?_) | refine Le.ptr (fun _ => ?_) ?_ | refine LeS.ptr (fun _ => ?_) ?_ | refine Le.loopN (fun _ => ?_) | apply slices_IndexFunc_int_shape_Size_1.e_le)

def shape_Size.l0e (n_ : Nat) (x0 : (List Int)) (s51 : (Int × Int)) : Step (Int × Int) (Out2 (Int × Int) (Int × Int)) :=
  if s51.2 < (x0.length : Int) then (if 0 ≤ s51.2 ∧ s51.2 < (x0.length : Int) then (if s51.1 ≠ 0 then (if (w64 (Int.tdiv 4096 s51.1)) < (rd x0 s51.2) then (.done (.ret (0, 3)))
  else (.next ((w64 (s51.1 * (rd x0 s51.2))), (w64 (s51.2 + 1)))))
  else .bad)
  else .bad)
  else (.done (.go (s51.1, s51.2)))
theorem shape_Size.l0e_le (n_ : Nat) (x0 : (List Int)) (s51 : (Int × Int))  : LeS (shape_Size.l0e n_ x0 s51) (shape_Size.l0 x0 s51) := by
  unfold shape_Size.l0e shape_Size.l0
  repeat' (with_reducible first | exact Le.leaf _ | exact Le.none _ | exact LeS.next _ | exact LeS.done _ | exact LeS.bad _ | refine Le.ite ?_ ?_ | refine LeS.ite ?_ ?_ | refine Le.bind ?_ (fun _ => ?_) | refine LeS.bind ?_ (fun _ => ?_) | refine Le.on (fun _ => ?_) (fun _ => ?_) | refine LeS.on (fun _ => ?_) (fun _ => ?_) | refine Le.ptr (fun _ => ?_) ?_ | refine LeS.ptr (fun _ => ?_) ?_ | refine Le.loopN (fun _ => ?_))
def shape_Size.e (n_ : Nat) (x0 : (List Int)) : Option (Int × Int) :=
  if 4 < (x0.length : Int) then (some (0, 2))
  else ((slices_ContainsFunc_int_shape_Size_1.e n_ x0).bind fun r31 =>
  if r31 = true then (some (0, 2))
  else ((loopN n_ (shape_Size.l0e n_ x0) (1, 0)).bind fun r52 =>
  r52.on (fun yr52 =>
  some (yr52.1, 0)) (fun y => some y)))
theorem shape_Size.e_le (n_ : Nat) (x0 : (List Int))  : Le (shape_Size.e n_ x0) (shape_Size.f x0) := by
  unfold shape_Size.e shape_Size.f
  repeat' (with_reducible first | exact Le.leaf _ | exact Le.none _ | exact LeS.next _ | exact LeS.done _ | exact LeS.bad _ | refine Le.ite ?_ ?_ | refine LeS.ite ?_ ?_ | refine Le.bind ?_ (fun _ => ?_) | refine LeS.bind ?_ (fun _ => ?_) | refine Le.on (fun _ => ?_) (fun _ => ?_) | refine LeS.on (fun _ => ?_) (fun _ => ?_) | refine Le.ptr (fun _ => ?_) ?_ | refine LeS.ptr (fun _ => ?_) ?_ | refine Le.loopN (fun _ => ?_) | apply slices_ContainsFunc_int_shape_Size_1.e_le | apply shape_Size.l0e_le)

def tensor_May.e (n_ : Nat) (x0 : Tensor) : Option Bool :=
  (shape_Size.e n_ x0.Shape).bind fun r30 =>
  if r30.2 = 0 then (if (x0.Data.length : Int) = r30.1 then (some true)
  else (some false))
  else (some false)
theorem tensor_May.e_le (n_ : Nat) (x0 : Tensor)  : Le (tensor_May.e n_ x0) (tensor_May.f x0) := by
  unfold tensor_May.e tensor_May.f
  repeat' (with_reducible first | exact Le.leaf _ | exact Le.none _ | exact LeS.next _ | exact LeS.done _ | exact LeS.bad _ | refine Le.ite ?_ ?_ | refine LeS.ite ?_ ?_ | refine Le.bind ?_ (fun _ => ?_) | refine LeS.bind ?_ (fun _ => ?_) | refine Le.on (fun _ => ?_) (fun _ => ?_) | refine LeS.on (fun _ => ?_) (fun _ => ?_) | refine Le.ptr (fun _ => ?_) ?_ | refine LeS.ptr (fun _ => ?_) ?_ | refine Le.loopN (fun _ => ?_) | apply shape_Size.e_le)

def matrix_flat.e (n_ : Nat) (x0 : Tensor) : Option Bool :=
  (tensor_May.e n_ x0).bind fun r30 =>
  if r30 = true then (if (x0.Shape.length : Int) = 2 then (some true)
  else (some false))
  else (some false)
theorem matrix_flat.e_le (n_ : Nat) (x0 : Tensor)  : Le (matrix_flat.e n_ x0) (matrix_flat.f x0) := by
  unfold matrix_flat.e matrix_flat.f
  repeat' (with_reducible first | exact Le.leaf _ | exact Le.none _ | exact LeS.next _ | exact LeS.done _ | exact LeS.bad _ | refine Le.ite ?_ ?_ | refine LeS.ite ?_ ?_ | refine Le.bind ?_ (fun _ => ?_) | refine LeS.bind ?_ (fun _ => ?_) | refine Le.on (fun _ => ?_) (fun _ => ?_) | refine LeS.on (fun _ => ?_) (fun _ => ?_) | refine Le.ptr (fun _ => ?_) ?_ | refine LeS.ptr (fun _ => ?_) ?_ | refine Le.loopN (fun _ => ?_) | apply tensor_May.e_le)

def slices_Clone_int.e (n_ : Nat) (x0 : (List Int)) : Option (List Int) :=
  if 0 + x0.length ≤ 549755813888 then (some (([] : List Int) ++ x0))
  else none
theorem slices_Clone_int.e_le (n_ : Nat) (x0 : (List Int))  : Le (slices_Clone_int.e n_ x0) (slices_Clone_int.f x0) := by
  unfold slices_Clone_int.e slices_Clone_int.f
  repeat' (with_reducible first | exact Le.leaf _ | exact Le.none _ | exact LeS.next _ | exact LeS.done _ | exact LeS.bad _ | refine Le.ite ?_ ?_ | refine LeS.ite ?_ ?_ | refine Le.bind ?_ (fun _ => ?_) | refine LeS.bind ?_ (fun _ => ?_) | refine Le.on (fun _ => ?_) (fun _ => ?_) | refine LeS.on (fun _ => ?_) (fun _ => ?_) | refine Le.ptr (fun _ => ?_) ?_ | refine LeS.ptr (fun _ => ?_) ?_ | refine Le.loopN (fun _ => ?_))

def bits_Mul64.e (n_ : Nat) (x0 : Int) (x1 : Int) : Option (Int × Int) :=
  some ((IntKind.wrap .u64 ((IntKind.wrap .u64 ((IntKind.wrap .u64 ((Int.fdiv x0 (2 ^ 32)) * (Int.fdiv x1 (2 ^ 32)))) + (Int.fdiv (IntKind.wrap .u64 ((IntKind.wrap .u64 ((Int.fdiv x0 (2 ^ 32)) * (bits .and .u64 x1 4294967295))) + (Int.fdiv (IntKind.wrap .u64 ((bits .and .u64 x0 4294967295) * (bits .and .u64 x1 4294967295))) (2 ^ 32)))) (2 ^ 32)))) + (Int.fdiv (IntKind.wrap .u64 ((bits .and .u64 (IntKind.wrap .u64 ((IntKind.wrap .u64 ((Int.fdiv x0 (2 ^ 32)) * (bits .and .u64 x1 4294967295))) + (Int.fdiv (IntKind.wrap .u64 ((bits .and .u64 x0 4294967295) * (bits .and .u64 x1 4294967295))) (2 ^ 32)))) 4294967295) + (IntKind.wrap .u64 ((bits .and .u64 x0 4294967295) * (Int.fdiv x1 (2 ^ 32)))))) (2 ^ 32)))), (IntKind.wrap .u64 (x0 * x1)))
theorem bits_Mul64.e_le (n_ : Nat) (x0 : Int) (x1 : Int)  : Le (bits_Mul64.e n_ x0 x1) (bits_Mul64.f x0 x1) := by
  unfold bits_Mul64.e bits_Mul64.f
  repeat' (with_reducible first | exact Le.leaf _ | exact Le.none _ | exact LeS.next _ | exact LeS.done _ | exact LeS.bad _ | refine Le.ite ?_ ?_ | refine LeS.ite ?_ ?_ | refine Le.bind ?_ (fun _ => ?_) | refine LeS.bind ?_ (fun _ => ?_) | refine Le.on (fun _ => ?_) (fun _ => ?_) | refine LeS.on (fun _ => ?_) (fun _ => ?_) | refine Le.ptr (fun _ => ?_) ?_ | refine LeS.ptr (fun _ => ?_) ?_ | refine Le.loopN (fun _ => ?_))

def bits_Mul.e (n_ : Nat) (x0 : Int) (x1 : Int) : Option (Int × Int) :=
  (bits_Mul64.e n_ x0 x1).bind fun r23 =>
  some (r23.1, r23.2)
theorem bits_Mul.e_le (n_ : Nat) (x0 : Int) (x1 : Int)  : Le (bits_Mul.e n_ x0 x1) (bits_Mul.f x0 x1) := by
  unfold bits_Mul.e bits_Mul.f
  repeat' (with_reducible first | exact Le.leaf _ | exact Le.none _ | exact LeS.next _ | exact LeS.done _ | exact LeS.bad _ | refine Le.ite ?_ ?_ | refine LeS.ite ?_ ?_ | refine Le.bind ?_ (fun _ => ?_) | refine LeS.bind ?_ (fun _ => ?_) | refine Le.on (fun _ => ?_) (fun _ => ?_) | refine LeS.on (fun _ => ?_) (fun _ => ?_) | refine Le.ptr (fun _ => ?_) ?_ | refine LeS.ptr (fun _ => ?_) ?_ | refine Le.loopN (fun _ => ?_) | apply bits_Mul64.e_le)

def slices_Repeat_float64.l0e (n_ : Nat)  (s75 : (Int × (List Nat))) : Step (Int × (List Nat)) (Int × (List Nat)) :=
  if s75.1 < (s75.2.length : Int) then (if 0 ≤ s75.1 ∧ s75.1 ≤ (s75.2.length : Int) then (.next ((w64 (s75.1 + ((List.take (min ((s75.1).toNat - 0) (s75.2.length - (s75.1).toNat)) s75.2).length : Int))), (cpy s75.2 ((s75.1).toNat) (List.take (min ((s75.1).toNat - 0) (s75.2.length - (s75.1).toNat)) s75.2))))
  else .bad)
  else (.done (s75.1, s75.2))
theorem slices_Repeat_float64.l0e_le (n_ : Nat)  (s75 : (Int × (List Nat)))  : LeS (slices_Repeat_float64.l0e n_ s75) (slices_Repeat_float64.l0 s75) := by
  unfold slices_Repeat_float64.l0e slices_Repeat_float64.l0
  repeat' (with_reducible first | exact Le.leaf _ | exact Le.none _ | exact LeS.next _ | exact LeS.done _ | exact LeS.bad _ | refine Le.ite ?_ ?_ | refine LeS.ite ?_ ?_ | refine Le.bind ?_ (fun _ => ?_) | refine LeS.bind ?_ (fun _ => ?_) | refine Le.on (fun _ => ?_) (fun _ => ?_) | refine LeS.on (fun _ => ?_) (fun _ => ?_) | refine Le.ptr (fun _ => ?_) ?_ | refine LeS.ptr (fun _ => ?_) ?_ | refine Le.loopN (fun _ => ?_))
def slices_Repeat_float64.e (n_ : Nat) (x0 : (List Nat)) (x1 : Int) : Option (List Nat) :=
  if x1 < 0 then none
  else ((bits_Mul.e n_ (IntKind.wrap .u64 ((x0.length : Int))) (IntKind.wrap .u64 (x1))).bind fun r28 =>
  if 0 < r28.1 then none
  else (if 9223372036854775807 < r28.2 then none
  else (if 0 ≤ (w64 (r28.2)) ∧ (w64 (r28.2)) ≤ 1099511627776 then ((loopN n_ (slices_Repeat_float64.l0e n_) (((List.take ((List.replicate ((w64 (r28.2))).toNat (0 : Nat)).length) x0).length : Int), (cpy (List.replicate ((w64 (r28.2))).toNat (0 : Nat)) 0 (List.take ((List.replicate ((w64 (r28.2))).toNat (0 : Nat)).length) x0)))).bind fun r76 =>
  some r76.2)
  else none)))
theorem slices_Repeat_float64.e_le (n_ : Nat) (x0 : (List Nat)) (x1 : Int)  : Le (slices_Repeat_float64.e n_ x0 x1) (slices_Repeat_float64.f x0 x1) := by
  unfold slices_Repeat_float64.e slices_Repeat_float64.f
  repeat' (with_reducible first | exact Le.leaf _ | exact Le.none _ | exact LeS.next _ | exact LeS.done _ | exact LeS.bad _ | refine Le.ite ?_ ?_ | refine LeS.ite ?_ ?_ | refine Le.bind ?_ (fun _ => ?_) | refine LeS.bind ?_ (fun _ => ?_) | refine Le.on (fun _ => ?_) (fun _ => ?_) | refine LeS.on (fun _ => ?_) (fun _ => ?_) | refine Le.ptr (fun _ => ?_) ?_ | refine LeS.ptr (fun _ => ?_) ?_ | refine Le.loopN (fun _ => ?_) | apply bits_Mul.e_le | apply slices_Repeat_float64.l0e_le)

def tensor_New.e (n_ : Nat) (x0 : (List Int)) (x1 : Nat) : Option (Tensor × Int) :=
  (shape_Size.e n_ x0).bind fun r30 =>
  if r30.2 = 0 then ((slices_Clone_int.e n_ x0).bind fun r43 =>
  (slices_Repeat_float64.e n_ ([x1] : List Nat) r30.1).bind fun r44 =>
  some ((⟨r43, r44⟩ : Tensor), 0))
  else (some ((⟨([] : (List Int)), ([] : (List Nat))⟩ : Tensor), r30.2))
theorem tensor_New.e_le (n_ : Nat) (x0 : (List Int)) (x1 : Nat)  : Le (tensor_New.e n_ x0 x1) (tensor_New.f x0 x1) := by
  unfold tensor_New.e tensor_New.f
  repeat' (with_reducible first | exact Le.leaf _ | exact Le.none _ | exact LeS.next _ | exact LeS.done _ | exact LeS.bad _ | refine Le.ite ?_ ?_ | refine LeS.ite ?_ ?_ | refine Le.bind ?_ (fun _ => ?_) | refine LeS.bind ?_ (fun _ => ?_) | refine Le.on (fun _ => ?_) (fun _ => ?_) | refine LeS.on (fun _ => ?_) (fun _ => ?_) | refine Le.ptr (fun _ => ?_) ?_ | refine LeS.ptr (fun _ => ?_) ?_ | refine Le.loopN (fun _ => ?_) | apply shape_Size.e_le | apply slices_Clone_int.e_le | apply slices_Repeat_float64.e_le)

def real_Real_Times.e (n_ : Nat) (x0 : Nat) (x1 : Nat) : Option Nat :=
  some (fmul x0 x1)
theorem real_Real_Times.e_le (n_ : Nat) (x0 : Nat) (x1 : Nat)  : Le (real_Real_Times.e n_ x0 x1) (real_Real_Times.f x0 x1) := by
  unfold real_Real_Times.e real_Real_Times.f
  repeat' (with_reducible first | exact Le.leaf _ | exact Le.none _ | exact LeS.next _ | exact LeS.done _ | exact LeS.bad _ | refine Le.ite ?_ ?_ | refine LeS.ite ?_ ?_ | refine Le.bind ?_ (fun _ => ?_) | refine LeS.bind ?_ (fun _ => ?_) | refine Le.on (fun _ => ?_) (fun _ => ?_) | refine LeS.on (fun _ => ?_) (fun _ => ?_) | refine Le.ptr (fun _ => ?_) ?_ | refine LeS.ptr (fun _ => ?_) ?_ | refine Le.loopN (fun _ => ?_))

def real_Real_Plus.e (n_ : Nat) (x0 : Nat) (x1 : Nat) : Option Nat :=
  some (fadd x0 x1)
theorem real_Real_Plus.e_le (n_ : Nat) (x0 : Nat) (x1 : Nat)  : Le (real_Real_Plus.e n_ x0 x1) (real_Real_Plus.f x0 x1) := by
  unfold real_Real_Plus.e real_Real_Plus.f
  repeat' (with_reducible first | exact Le.leaf _ | exact Le.none _ | exact LeS.next _ | exact LeS.done _ | exact LeS.bad _ | refine Le.ite ?_ ?_ | refine LeS.ite ?_ ?_ | refine Le.bind ?_ (fun _ => ?_) | refine LeS.bind ?_ (fun _ => ?_) | refine Le.on (fun _ => ?_) (fun _ => ?_) | refine LeS.on (fun _ => ?_) (fun _ => ?_) | refine Le.ptr (fun _ => ?_) ?_ | refine LeS.ptr (fun _ => ?_) ?_ | refine Le.loopN (fun _ => ?_))

def real_Row.l0e (n_ : Nat) (x0 : (List Nat)) (s28 : (Nat × Int)) : Step (Nat × Int) (Nat × Int) :=
  if s28.2 < (x0.length : Int) then (if 0 ≤ s28.2 ∧ s28.2 < (x0.length : Int) then (bindS (real_Real_Plus.e n_ s28.1 (rd x0 s28.2)) fun r44 =>
  .next (r44, (w64 (s28.2 + 1))))
  else .bad)
  else (.done (s28.1, s28.2))
theorem real_Row.l0e_le (n_ : Nat) (x0 : (List Nat)) (s28 : (Nat × Int))  : LeS (real_Row.l0e n_ x0 s28) (real_Row.l0 x0 s28) := by
  unfold real_Row.l0e real_Row.l0
  repeat' (with_reducible first | exact Le.leaf _ | exact Le.none _ | exact LeS.next _ | exact LeS.done _ | exact LeS.bad _ | refine Le.ite ?_ ?_ | refine LeS.ite ?_ ?_ | refine Le.bind ?_ (fun _ => ?_) | refine LeS.bind ?_ (fun _ => ?_) | refine Le.on (fun _ => ?_) (fun _ => ?_) | refine LeS.on (fun _ => ?_) (fun _ => ?_) | refine Le.ptr (fun _ => ?_) ?_ | refine LeS.ptr (fun _ => ?_) ?_ | refine Le.loopN (fun _ => ?_) | apply real_Real_Plus.e_le)
def real_Row.e (n_ : Nat) (x0 : (List Nat)) : Option Nat :=
  (loopN n_ (real_Row.l0e n_ x0) (0, 0)).bind fun r30 =>
  some r30.1
theorem real_Row.e_le (n_ : Nat) (x0 : (List Nat))  : Le (real_Row.e n_ x0) (real_Row.f x0) := by
  unfold real_Row.e real_Row.f
  repeat' (with_reducible first | exact Le.leaf _ | exact Le.none _ | exact LeS.next _ | exact LeS.done _ | exact LeS.bad _ | refine Le.ite ?_ ?_ | refine LeS.ite ?_ ?_ | refine Le.bind ?_ (fun _ => ?_) | refine LeS.bind ?_ (fun _ => ?_) | refine Le.on (fun _ => ?_) (fun _ => ?_) | refine LeS.on (fun _ => ?_) (fun _ => ?_) | refine Le.ptr (fun _ => ?_) ?_ | refine LeS.ptr (fun _ => ?_) ?_ | refine Le.loopN (fun _ => ?_) | apply real_Row.l0e_le)

def matrix_Mul.l2e (n_ : Nat) (x0 : Tensor) (s185 : (Int × (List Nat) × (List Nat))) (x1 : Tensor) (s199 : (Int × (List Nat) × (List Nat))) (s213 : (Int × (List Nat))) : Step (Int × (List Nat)) (Int × (List Nat)) :=
  if s213.1 < (rd x0.Shape 1) then (if 0 ≤ (w64 ((w64 (s185.1 * (rd x0.Shape 1))) + s213.1)) ∧ (w64 ((w64 (s185.1 * (rd x0.Shape 1))) + s213.1)) < (x0.Data.length : Int) then (if 0 ≤ (w64 ((w64 (s213.1 * (rd x1.Shape 1))) + s199.1)) ∧ (w64 ((w64 (s213.1 * (rd x1.Shape 1))) + s199.1)) < (x1.Data.length : Int) then (bindS (real_Real_Times.e n_ (rd x0.Data (w64 ((w64 (s185.1 * (rd x0.Shape 1))) + s213.1))) (rd x1.Data (w64 ((w64 (s213.1 * (rd x1.Shape 1))) + s199.1)))) fun r227 =>
  if 0 ≤ s213.1 ∧ s213.1 < (s213.2.length : Int) then (.next ((w64 (s213.1 + 1)), (put s213.2 s213.1 r227)))
  else .bad)
  else .bad)
  else .bad)
  else (.done (s213.1, s213.2))
theorem matrix_Mul.l2e_le (n_ : Nat) (x0 : Tensor) (s185 : (Int × (List Nat) × (List Nat))) (x1 : Tensor) (s199 : (Int × (List Nat) × (List Nat))) (s213 : (Int × (List Nat)))  : LeS (matrix_Mul.l2e n_ x0 s185 x1 s199 s213) (matrix_Mul.l2 x0 s185 x1 s199 s213) := by
  unfold matrix_Mul.l2e matrix_Mul.l2
  repeat' (with_reducible first | exact Le.leaf _ | exact Le.none _ | exact LeS.next _ | exact LeS.done _ | exact LeS.bad _ | refine Le.ite ?_ ?_ | refine LeS.ite ?_ ?_ | refine Le.bind ?_ (fun _ => ?_) | refine LeS.bind ?_ (fun _ => ?_) | refine Le.on (fun _ => ?_) (fun _ => ?_) | refine LeS.on (fun _ => ?_) (fun _ => ?_) | refine Le.ptr (fun _ => ?_) ?_ | refine LeS.ptr (fun _ => ?_) ?_ | refine Le.loopN (fun _ => ?_) | apply real_Real_Times.e_le)
def matrix_Mul.l1e (n_ : Nat) (x1 : Tensor) (x0 : Tensor) (s185 : (Int × (List Nat) × (List Nat))) (s199 : (Int × (List Nat) × (List Nat))) : Step (Int × (List Nat) × (List Nat)) (Int × (List Nat) × (List Nat)) :=
  if s199.1 < (rd x1.Shape 1) then (bindS (loopN n_ (matrix_Mul.l2e n_ x0 s185 x1 s199) (0, s199.2.1)) fun r214 =>
  bindS (real_Row.e n_ r214.2) fun r302 =>
  if 0 ≤ (w64 ((w64 (s185.1 * (rd x1.Shape 1))) + s199.1)) ∧ (w64 ((w64 (s185.1 * (rd x1.Shape 1))) + s199.1)) < (s199.2.2.length : Int) then (.next ((w64 (s199.1 + 1)), r214.2, (put s199.2.2 (w64 ((w64 (s185.1 * (rd x1.Shape 1))) + s199.1)) r302)))
  else .bad)
  else (.done (s199.1, s199.2.1, s199.2.2))
theorem matrix_Mul.l1e_le (n_ : Nat) (x1 : Tensor) (x0 : Tensor) (s185 : (Int × (List Nat) × (List Nat))) (s199 : (Int × (List Nat) × (List Nat)))  : LeS (matrix_Mul.l1e n_ x1 x0 s185 s199) (matrix_Mul.l1 x1 x0 s185 s199) := by
  unfold matrix_Mul.l1e matrix_Mul.l1
  repeat' (with_reducible first | exact Le.leaf _ | exact Le.none _ | exact LeS.next _ | exact LeS.done _ | exact LeS.bad _ | refine Le.ite ?_ ?_ | refine LeS.ite ?_ ?_ | refine Le.bind ?_ (fun _ => ?_) | refine LeS.bind ?_ (fun _ => ?_) | refine Le.on (fun _ => ?_) (fun _ => ?_) | refine LeS.on (fun _ => ?_) (fun _ => ?_) | refine Le.ptr (fun _ => ?_) ?_ | refine LeS.ptr (fun _ => ?_) ?_ | refine Le.loopN (fun _ => ?_) | apply real_Row.e_le | apply matrix_Mul.l2e_le)
def matrix_Mul.l0e (n_ : Nat) (x0 : Tensor) (x1 : Tensor) (s185 : (Int × (List Nat) × (List Nat))) : Step (Int × (List Nat) × (List Nat)) (Int × (List Nat) × (List Nat)) :=
  if s185.1 < (rd x0.Shape 0) then (bindS (loopN n_ (matrix_Mul.l1e n_ x1 x0 s185) (0, s185.2.1, s185.2.2)) fun r200 =>
  .next ((w64 (s185.1 + 1)), r200.2.1, r200.2.2))
  else (.done (s185.1, s185.2.1, s185.2.2))
theorem matrix_Mul.l0e_le (n_ : Nat) (x0 : Tensor) (x1 : Tensor) (s185 : (Int × (List Nat) × (List Nat)))  : LeS (matrix_Mul.l0e n_ x0 x1 s185) (matrix_Mul.l0 x0 x1 s185) := by
  unfold matrix_Mul.l0e matrix_Mul.l0
  repeat' (with_reducible first | exact Le.leaf _ | exact Le.none _ | exact LeS.next _ | exact LeS.done _ | exact LeS.bad _ | refine Le.ite ?_ ?_ | refine LeS.ite ?_ ?_ | refine Le.bind ?_ (fun _ => ?_) | refine LeS.bind ?_ (fun _ => ?_) | refine Le.on (fun _ => ?_) (fun _ => ?_) | refine LeS.on (fun _ => ?_) (fun _ => ?_) | refine Le.ptr (fun _ => ?_) ?_ | refine LeS.ptr (fun _ => ?_) ?_ | refine Le.loopN (fun _ => ?_) | apply matrix_Mul.l1e_le)
def matrix_Mul.e (n_ : Nat) (x0 : Tensor) (x1 : Tensor) : Option (Tensor × Int) :=
  (matrix_flat.e n_ x0).bind fun r44 =>
  if r44 = true then ((matrix_flat.e n_ x1).bind fun r46 =>
  if r46 = true then (if (0 : Int) ≤ 1 ∧ 1 < (x0.Shape.length : Int) then (if (0 : Int) ≤ 0 ∧ 0 < (x1.Shape.length : Int) then (if (rd x0.Shape 1) = (rd x1.Shape 0) then (if (0 : Int) ≤ 0 ∧ 0 < (x0.Shape.length : Int) then (if (0 : Int) ≤ 1 ∧ 1 < (x1.Shape.length : Int) then ((shape_Size.e n_ ([(rd x0.Shape 0), (rd x1.Shape 1)] : List Int)).bind fun r128 =>
  if r128.2 = 0 then ((tensor_New.e n_ ([(rd x0.Shape 0), (rd x1.Shape 1)] : List Int) 0).bind fun r141 =>
  if 0 ≤ (rd x0.Shape 1) ∧ (rd x0.Shape 1) ≤ 1099511627776 then ((loopN n_ (matrix_Mul.l0e n_ x0 x1) (0, (List.replicate ((rd x0.Shape 1)).toNat (0 : Nat)), r141.1.Data)).bind fun r186 =>
  some ((⟨r141.1.Shape, r186.2.2⟩ : Tensor), 0))
  else none)
  else (some ((⟨([] : (List Int)), ([] : (List Nat))⟩ : Tensor), r128.2)))
  else none)
  else none)
  else (some ((⟨([] : (List Int)), ([] : (List Nat))⟩ : Tensor), 2)))
  else none)
  else none)
  else (some ((⟨([] : (List Int)), ([] : (List Nat))⟩ : Tensor), 2)))
  else (some ((⟨([] : (List Int)), ([] : (List Nat))⟩ : Tensor), 2))
theorem matrix_Mul.e_le (n_ : Nat) (x0 : Tensor) (x1 : Tensor)  : Le (matrix_Mul.e n_ x0 x1) (matrix_Mul.f x0 x1) := by
  unfold matrix_Mul.e matrix_Mul.f
  repeat' (with_reducible first | exact Le.leaf _ | exact Le.none _ | exact LeS.next _ | exact LeS.done _ | exact LeS.bad _ | refine Le.ite ?_ ?_ | refine LeS.ite ?_ ?_ | refine Le.bind ?_ (fun _ => ?_) | refine LeS.bind ?_ (fun _ => ?_) | refine Le.on (fun _ => ?_) (fun _ => ?_) | refine LeS.on (fun _ => ?_) (fun _ => ?_) | refine Le.ptr (fun _ => ?_) ?_ | refine LeS.ptr (fun _ => ?_) ?_ | refine Le.loopN (fun _ => ?_) | apply matrix_flat.e_le | apply shape_Size.e_le | apply tensor_New.e_le | apply matrix_Mul.l0e_le)

def law5_awake.e (n_ : Nat)  : Option Bool :=
  (matrix_Mul.e n_ (⟨([1, 2] : List Int), ([4607182418800017408, 4611686018427387904] : List Nat)⟩ : Tensor) (⟨([2, 1] : List Int), ([4613937818241073152, 4616189618054758400] : List Nat)⟩ : Tensor)).bind fun r23 =>
  if r23.2 = 0 then (if (r23.1.Data.length : Int) = 1 then (if (0 : Int) ≤ 0 ∧ 0 < (r23.1.Data.length : Int) then (if (feq (rd r23.1.Data 0) 4622382067542392832) = true then (some true)
  else (some false))
  else none)
  else (some false))
  else (some false)
theorem law5_awake.e_le (n_ : Nat)   : Le (law5_awake.e n_ ) (law5_awake.f ) := by
  unfold law5_awake.e law5_awake.f
  repeat' (with_reducible first | exact Le.leaf _ | exact Le.none _ | exact LeS.next _ | exact LeS.done _ | exact LeS.bad _ | refine Le.ite ?_ ?_ | refine LeS.ite ?_ ?_ | refine Le.bind ?_ (fun _ => ?_) | refine LeS.bind ?_ (fun _ => ?_) | refine Le.on (fun _ => ?_) (fun _ => ?_) | refine LeS.on (fun _ => ?_) (fun _ => ?_) | refine Le.ptr (fun _ => ?_) ?_ | refine LeS.ptr (fun _ => ?_) ?_ | refine Le.loopN (fun _ => ?_) | apply matrix_Mul.e_le)
end Go.Proofs.Ytkcgiolledmbnaa
