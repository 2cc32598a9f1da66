/- Printed by gen.py. -/
import Derived.Test.YtkdhahdfkonilaaDoorLScriptKnown
namespace Go.Proofs.YtkdhahdfkonilaaDoor
open Go Go.RowKit
set_option linter.unusedSimpArgs false
set_option linter.unusedVariables false
set_option linter.unnecessarySimpa false
def op_May.e (n_ : Nat) (x0 : Int) : Option Bool :=
  if 1 ≤ x0 then (if x0 ≤ 16 then (some true)
  else (some false))
  else (some false)
theorem op_May.e_le (n_ : Nat) (x0 : Int)  : Le (op_May.e n_ x0) (op_May.f x0) := by
  unfold op_May.e op_May.f
  repeat' (with_reducible first | exact Le.leaf _ | exact Le.none _ | exact Le.refl _ | exact LeS.next _ | exact LeS.done _ | exact LeS.bad _ | refine Le.ite ?_ ?_ | refine LeS.ite ?_ ?_ | refine Le.bind ?_ (fun _ => ?_) | refine LeS.bind ?_ (fun _ => ?_) | refine Le.on (fun _ => ?_) (fun _ => ?_) | refine LeS.on (fun _ => ?_) (fun _ => ?_) | refine Le.ptr (fun _ => ?_) ?_ | refine LeS.ptr (fun _ => ?_) ?_ | refine Le.loopN (fun _ => ?_))

def op_Name.e (n_ : Nat) (x0 : Int) : Option (List UInt8) :=
  (op_May.e n_ x0).bind fun r23 =>
  if r23 = true then ((strings_Fields.f ([108, 101, 97, 102, 32, 99, 111, 110, 115, 116, 32, 112, 97, 114, 97, 109, 32, 97, 100, 100, 32, 115, 117, 98, 32, 109, 117, 108, 32, 100, 105, 118, 32, 110, 101, 103, 32, 101, 120, 112, 32, 108, 111, 103, 32, 114, 101, 108, 117, 32, 109, 97, 116, 109, 117, 108, 32, 115, 117, 109, 32, 98, 114, 111, 97, 100, 99, 97, 115, 116, 32, 114, 101, 115, 104, 97, 112, 101, 32, 99, 97, 108, 108] : List UInt8)).bind fun r34 =>
  if 0 ≤ (w64 (x0 - 1)) ∧ (w64 (x0 - 1)) < (r34.length : Int) then (some (rd r34 (w64 (x0 - 1))))
  else none)
  else (some ([] : List UInt8))
theorem op_Name.e_le (n_ : Nat) (x0 : Int)  : Le (op_Name.e n_ x0) (op_Name.f x0) := by
  unfold op_Name.e op_Name.f
  repeat' (with_reducible first | exact Le.leaf _ | exact Le.none _ | exact Le.refl _ | exact LeS.next _ | exact LeS.done _ | exact LeS.bad _ | refine Le.ite ?_ ?_ | refine LeS.ite ?_ ?_ | refine Le.bind ?_ (fun _ => ?_) | refine LeS.bind ?_ (fun _ => ?_) | refine Le.on (fun _ => ?_) (fun _ => ?_) | refine LeS.on (fun _ => ?_) (fun _ => ?_) | refine Le.ptr (fun _ => ?_) ?_ | refine LeS.ptr (fun _ => ?_) ?_ | refine Le.loopN (fun _ => ?_) | apply op_May.e_le)

def script_number.e (n_ : Nat) (x0 : (List UInt8)) : Option (Int × Bool) :=
  if 9 < (x0.length : Int) then (some (0, false))
  else ((strconv_Atoi.f x0).bind fun r32 =>
  if r32.2 = true then (if 0 ≤ r32.1 then ((strconv_Itoa.f r32.1).bind fun r45 =>
  if r45 = x0 then (some (r32.1, true))
  else (some (r32.1, false)))
  else (some (r32.1, false)))
  else (some (r32.1, false)))
theorem script_number.e_le (n_ : Nat) (x0 : (List UInt8))  : Le (script_number.e n_ x0) (script_number.f x0) := by
  unfold script_number.e script_number.f
  repeat' (with_reducible first | exact Le.leaf _ | exact Le.none _ | exact Le.refl _ | exact LeS.next _ | exact LeS.done _ | exact LeS.bad _ | refine Le.ite ?_ ?_ | refine LeS.ite ?_ ?_ | refine Le.bind ?_ (fun _ => ?_) | refine LeS.bind ?_ (fun _ => ?_) | refine Le.on (fun _ => ?_) (fun _ => ?_) | refine LeS.on (fun _ => ?_) (fun _ => ?_) | refine Le.ptr (fun _ => ?_) ?_ | refine LeS.ptr (fun _ => ?_) ?_ | refine Le.loopN (fun _ => ?_))

def real_Bits.e (n_ : Nat) (x0 : Nat) : Option Int :=
  if (fne x0 x0) = true then (some 9221120237041090561)
  else (some (x0 : Int))
theorem real_Bits.e_le (n_ : Nat) (x0 : Nat)  : Le (real_Bits.e n_ x0) (real_Bits.f x0) := by
  unfold real_Bits.e real_Bits.f
  repeat' (with_reducible first | exact Le.leaf _ | exact Le.none _ | exact Le.refl _ | exact LeS.next _ | exact LeS.done _ | exact LeS.bad _ | refine Le.ite ?_ ?_ | refine LeS.ite ?_ ?_ | refine Le.bind ?_ (fun _ => ?_) | refine LeS.bind ?_ (fun _ => ?_) | refine Le.on (fun _ => ?_) (fun _ => ?_) | refine LeS.on (fun _ => ?_) (fun _ => ?_) | refine Le.ptr (fun _ => ?_) ?_ | refine LeS.ptr (fun _ => ?_) ?_ | refine Le.loopN (fun _ => ?_))

def script_Parse.l0e (n_ : Nat) (x0 : (List UInt8)) (s30 : (Int × Int)) : Step (Int × Int) (Out2 (Int × Int) (Nat × Bool)) :=
  if s30.2 < (x0.length : Int) then (if 0 ≤ s30.2 ∧ s30.2 < (x0.length : Int) then (bindS (strings_IndexByte.f ([48, 49, 50, 51, 52, 53, 54, 55, 56, 57, 97, 98, 99, 100, 101, 102] : List UInt8) (chr x0 s30.2)) fun r43 =>
  if r43 < 0 then (.done (.ret (0, false)))
  else (.next ((bits .or .u64 (IntKind.wrap .u64 (s30.1 * 2 ^ 4)) (IntKind.wrap .u64 (r43))), (w64 (s30.2 + 1)))))
  else .bad)
  else (.done (.go (s30.1, s30.2)))
theorem script_Parse.l0e_le (n_ : Nat) (x0 : (List UInt8)) (s30 : (Int × Int))  : LeS (script_Parse.l0e n_ x0 s30) (script_Parse.l0 x0 s30) := by
  unfold script_Parse.l0e script_Parse.l0
  repeat' (with_reducible first | exact Le.leaf _ | exact Le.none _ | exact Le.refl _ | exact LeS.next _ | exact LeS.done _ | exact LeS.bad _ | refine Le.ite ?_ ?_ | refine LeS.ite ?_ ?_ | refine Le.bind ?_ (fun _ => ?_) | refine LeS.bind ?_ (fun _ => ?_) | refine Le.on (fun _ => ?_) (fun _ => ?_) | refine LeS.on (fun _ => ?_) (fun _ => ?_) | refine Le.ptr (fun _ => ?_) ?_ | refine LeS.ptr (fun _ => ?_) ?_ | refine Le.loopN (fun _ => ?_))
def script_Parse.e (n_ : Nat) (x0 : (List UInt8)) : Option (Nat × Bool) :=
  if (x0.length : Int) = 16 then ((loopN n_ (script_Parse.l0e n_ x0) (0, 0)).bind fun r31 =>
  r31.on (fun yr31 =>
  if 0 ≤ yr31.1 ∧ yr31.1 < 18446744073709551616 then ((real_Bits.e n_ (canon (yr31.1).toNat)).bind fun r82 =>
  if r82 = yr31.1 then (some ((canon (yr31.1).toNat), true))
  else (some (0, false)))
  else none) (fun y => some y))
  else (some (0, false))
theorem script_Parse.e_le (n_ : Nat) (x0 : (List UInt8))  : Le (script_Parse.e n_ x0) (script_Parse.f x0) := by
  unfold script_Parse.e script_Parse.f
  repeat' (with_reducible first | exact Le.leaf _ | exact Le.none _ | exact Le.refl _ | exact LeS.next _ | exact LeS.done _ | exact LeS.bad _ | refine Le.ite ?_ ?_ | refine LeS.ite ?_ ?_ | refine Le.bind ?_ (fun _ => ?_) | refine LeS.bind ?_ (fun _ => ?_) | refine Le.on (fun _ => ?_) (fun _ => ?_) | refine LeS.on (fun _ => ?_) (fun _ => ?_) | refine Le.ptr (fun _ => ?_) ?_ | refine LeS.ptr (fun _ => ?_) ?_ | refine Le.loopN (fun _ => ?_) | apply real_Bits.e_le | apply script_Parse.l0e_le)

def script_hook.e (n_ : Nat) (x0 : (List UInt8)) : Option (Hook × Bool) :=
  (strings_Cut.f x0 ([44] : List UInt8)).bind fun r30 =>
  (script_number.e n_ r30.1).bind fun r40 =>
  (script_Parse.e n_ r30.2.1).bind fun r50 =>
  if r40.2 = true then (some ((⟨r40.1, r50.1⟩ : Hook), r50.2))
  else (some ((⟨r40.1, r50.1⟩ : Hook), false))
theorem script_hook.e_le (n_ : Nat) (x0 : (List UInt8))  : Le (script_hook.e n_ x0) (script_hook.f x0) := by
  unfold script_hook.e script_hook.f
  repeat' (with_reducible first | exact Le.leaf _ | exact Le.none _ | exact Le.refl _ | exact LeS.next _ | exact LeS.done _ | exact LeS.bad _ | refine Le.ite ?_ ?_ | refine LeS.ite ?_ ?_ | refine Le.bind ?_ (fun _ => ?_) | refine LeS.bind ?_ (fun _ => ?_) | refine Le.on (fun _ => ?_) (fun _ => ?_) | refine LeS.on (fun _ => ?_) (fun _ => ?_) | refine Le.ptr (fun _ => ?_) ?_ | refine LeS.ptr (fun _ => ?_) ?_ | refine Le.loopN (fun _ => ?_) | apply script_Parse.e_le | apply script_number.e_le)

def script_word.e (n_ : Nat) (x0 : Node) (x1 : (List UInt8)) (x2 : (List UInt8)) : Option ((List Int) × (List Int) × Int × Tensor × (List Hook) × Bool) :=
  (script_number.e n_ x2).bind fun r23 =>
  if x1 = ([105] : List UInt8) then (if x0.In.length + 1 ≤ 549755813888 then (some ((x0.In ++ ([r23.1] : List Int)), x0.To, x0.No, x0.Val, x0.Hooks, r23.2))
  else none)
  else (if x1 = ([116] : List UInt8) then (if x0.To.length + 1 ≤ 549755813888 then (some (x0.In, (x0.To ++ ([r23.1] : List Int)), x0.No, x0.Val, x0.Hooks, r23.2))
  else none)
  else (if x1 = ([110] : List UInt8) then (some (x0.In, x0.To, r23.1, x0.Val, x0.Hooks, r23.2))
  else (if x1 = ([115] : List UInt8) then (if x0.Val.Shape.length + 1 ≤ 549755813888 then (some (x0.In, x0.To, x0.No, (⟨(x0.Val.Shape ++ ([r23.1] : List Int)), x0.Val.Data⟩ : Tensor), x0.Hooks, r23.2))
  else none)
  else (if x1 = ([118] : List UInt8) then ((script_Parse.e n_ x2).bind fun r165 =>
  if x0.Val.Data.length + 1 ≤ 549755813888 then (some (x0.In, x0.To, x0.No, (⟨x0.Val.Shape, (x0.Val.Data ++ ([r165.1] : List Nat))⟩ : Tensor), x0.Hooks, r165.2))
  else none)
  else (if x1 = ([104] : List UInt8) then ((script_hook.e n_ x2).bind fun r215 =>
  if x0.Hooks.length + 1 ≤ 549755813888 then (some (x0.In, x0.To, x0.No, x0.Val, (x0.Hooks ++ ([r215.1] : List Hook)), r215.2))
  else none)
  else (some (x0.In, x0.To, x0.No, x0.Val, x0.Hooks, false)))))))
theorem script_word.e_le (n_ : Nat) (x0 : Node) (x1 : (List UInt8)) (x2 : (List UInt8))  : Le (script_word.e n_ x0 x1 x2) (script_word.f x0 x1 x2) := by
  unfold script_word.e script_word.f
  repeat' (with_reducible first | exact Le.leaf _ | exact Le.none _ | exact Le.refl _ | exact LeS.next _ | exact LeS.done _ | exact LeS.bad _ | refine Le.ite ?_ ?_ | refine LeS.ite ?_ ?_ | refine Le.bind ?_ (fun _ => ?_) | refine LeS.bind ?_ (fun _ => ?_) | refine Le.on (fun _ => ?_) (fun _ => ?_) | refine LeS.on (fun _ => ?_) (fun _ => ?_) | refine Le.ptr (fun _ => ?_) ?_ | refine LeS.ptr (fun _ => ?_) ?_ | refine Le.loopN (fun _ => ?_) | apply script_Parse.e_le | apply script_hook.e_le | apply script_number.e_le)

def script_writer_nums.l0e (n_ : Nat) (x2 : (List Int)) (x1 : (List UInt8)) (s25 : (Int × Bool × (List (List UInt8)))) : Step (Int × Bool × (List (List UInt8))) (Int × Bool × (List (List UInt8))) :=
  if s25.1 < (x2.length : Int) then (if 0 ≤ s25.1 ∧ s25.1 < (x2.length : Int) then (if s25.2.1 = true then (bindS (strconv_Itoa.f (rd x2 s25.1)) fun r48 =>
  if x1.length + r48.length ≤ 9223372036854775807 then (if s25.2.2.length + 1 ≤ 549755813888 then (.next ((w64 (s25.1 + 1)), true, (s25.2.2 ++ ([(x1 ++ r48)] : List (List UInt8)))))
  else .bad)
  else .bad)
  else (if (rd x2 s25.1) < 0 then (bindS (strconv_Itoa.f (rd x2 s25.1)) fun r162 =>
  if x1.length + r162.length ≤ 9223372036854775807 then (if s25.2.2.length + 1 ≤ 549755813888 then (.next ((w64 (s25.1 + 1)), true, (s25.2.2 ++ ([(x1 ++ r162)] : List (List UInt8)))))
  else .bad)
  else .bad)
  else (if 999999999 < (rd x2 s25.1) then (bindS (strconv_Itoa.f (rd x2 s25.1)) fun r275 =>
  if x1.length + r275.length ≤ 9223372036854775807 then (if s25.2.2.length + 1 ≤ 549755813888 then (.next ((w64 (s25.1 + 1)), true, (s25.2.2 ++ ([(x1 ++ r275)] : List (List UInt8)))))
  else .bad)
  else .bad)
  else (bindS (strconv_Itoa.f (rd x2 s25.1)) fun r387 =>
  if x1.length + r387.length ≤ 9223372036854775807 then (if s25.2.2.length + 1 ≤ 549755813888 then (.next ((w64 (s25.1 + 1)), false, (s25.2.2 ++ ([(x1 ++ r387)] : List (List UInt8)))))
  else .bad)
  else .bad))))
  else .bad)
  else (.done (s25.1, s25.2.1, s25.2.2))
theorem script_writer_nums.l0e_le (n_ : Nat) (x2 : (List Int)) (x1 : (List UInt8)) (s25 : (Int × Bool × (List (List UInt8))))  : LeS (script_writer_nums.l0e n_ x2 x1 s25) (script_writer_nums.l0 x2 x1 s25) := by
  unfold script_writer_nums.l0e script_writer_nums.l0
  repeat' (with_reducible first | exact Le.leaf _ | exact Le.none _ | exact Le.refl _ | exact LeS.next _ | exact LeS.done _ | exact LeS.bad _ | refine Le.ite ?_ ?_ | refine LeS.ite ?_ ?_ | refine Le.bind ?_ (fun _ => ?_) | refine LeS.bind ?_ (fun _ => ?_) | refine Le.on (fun _ => ?_) (fun _ => ?_) | refine LeS.on (fun _ => ?_) (fun _ => ?_) | refine Le.ptr (fun _ => ?_) ?_ | refine LeS.ptr (fun _ => ?_) ?_ | refine Le.loopN (fun _ => ?_))
def script_writer_nums.e (n_ : Nat) (x0 : Writer) (x1 : (List UInt8)) (x2 : (List Int)) : Option ((List (List UInt8)) × Bool) :=
  (loopN n_ (script_writer_nums.l0e n_ x2 x1) (0, x0.bad, x0.b)).bind fun r28 =>
  some (r28.2.2, r28.2.1)
theorem script_writer_nums.e_le (n_ : Nat) (x0 : Writer) (x1 : (List UInt8)) (x2 : (List Int))  : Le (script_writer_nums.e n_ x0 x1 x2) (script_writer_nums.f x0 x1 x2) := by
  unfold script_writer_nums.e script_writer_nums.f
  repeat' (with_reducible first | exact Le.leaf _ | exact Le.none _ | exact Le.refl _ | exact LeS.next _ | exact LeS.done _ | exact LeS.bad _ | refine Le.ite ?_ ?_ | refine LeS.ite ?_ ?_ | refine Le.bind ?_ (fun _ => ?_) | refine LeS.bind ?_ (fun _ => ?_) | refine Le.on (fun _ => ?_) (fun _ => ?_) | refine LeS.on (fun _ => ?_) (fun _ => ?_) | refine Le.ptr (fun _ => ?_) ?_ | refine LeS.ptr (fun _ => ?_) ?_ | refine Le.loopN (fun _ => ?_) | apply script_writer_nums.l0e_le)

def script_Number.l0e (n_ : Nat)  (s46 : (Int × Int × (List Int))) : Step (Int × Int × (List Int)) (Int × Int × (List Int)) :=
  if s46.2.1 < (((List.replicate (16 : Int).toNat (0 : Int)).length : Nat) : Int) then (if 0 ≤ (bits .and .u64 s46.1 15) ∧ (bits .and .u64 s46.1 15) < (([48, 49, 50, 51, 52, 53, 54, 55, 56, 57, 97, 98, 99, 100, 101, 102] : List UInt8).length : Int) then (if 0 ≤ (w64 (15 - s46.2.1)) ∧ (w64 (15 - s46.2.1)) < (s46.2.2.length : Int) then (.next ((Int.fdiv s46.1 (2 ^ 4)), (w64 (s46.2.1 + 1)), (put s46.2.2 (w64 (15 - s46.2.1)) (chr ([48, 49, 50, 51, 52, 53, 54, 55, 56, 57, 97, 98, 99, 100, 101, 102] : List UInt8) (bits .and .u64 s46.1 15)))))
  else .bad)
  else .bad)
  else (.done (s46.1, s46.2.1, s46.2.2))
theorem script_Number.l0e_le (n_ : Nat)  (s46 : (Int × Int × (List Int)))  : LeS (script_Number.l0e n_ s46) (script_Number.l0 s46) := by
  unfold script_Number.l0e script_Number.l0
  repeat' (with_reducible first | exact Le.leaf _ | exact Le.none _ | exact Le.refl _ | exact LeS.next _ | exact LeS.done _ | exact LeS.bad _ | refine Le.ite ?_ ?_ | refine LeS.ite ?_ ?_ | refine Le.bind ?_ (fun _ => ?_) | refine LeS.bind ?_ (fun _ => ?_) | refine Le.on (fun _ => ?_) (fun _ => ?_) | refine LeS.on (fun _ => ?_) (fun _ => ?_) | refine Le.ptr (fun _ => ?_) ?_ | refine LeS.ptr (fun _ => ?_) ?_ | refine Le.loopN (fun _ => ?_))
def script_Number.e (n_ : Nat) (x0 : Nat) : Option (List UInt8) :=
  (real_Bits.e n_ x0).bind fun r23 =>
  (loopN n_ (script_Number.l0e n_) (r23, 0, (List.replicate (16 : Int).toNat (0 : Int)))).bind fun r47 =>
  some (bytesOf r47.2.2)
theorem script_Number.e_le (n_ : Nat) (x0 : Nat)  : Le (script_Number.e n_ x0) (script_Number.f x0) := by
  unfold script_Number.e script_Number.f
  repeat' (with_reducible first | exact Le.leaf _ | exact Le.none _ | exact Le.refl _ | exact LeS.next _ | exact LeS.done _ | exact LeS.bad _ | refine Le.ite ?_ ?_ | refine LeS.ite ?_ ?_ | refine Le.bind ?_ (fun _ => ?_) | refine LeS.bind ?_ (fun _ => ?_) | refine Le.on (fun _ => ?_) (fun _ => ?_) | refine LeS.on (fun _ => ?_) (fun _ => ?_) | refine Le.ptr (fun _ => ?_) ?_ | refine LeS.ptr (fun _ => ?_) ?_ | refine Le.loopN (fun _ => ?_) | apply real_Bits.e_le | apply script_Number.l0e_le)

def script_writer_node.l0e (n_ : Nat) (x1 : Node) (s172 : (Int × (List (List UInt8)))) : Step (Int × (List (List UInt8))) (Int × (List (List UInt8))) :=
  if s172.1 < (x1.Val.Data.length : Int) then (if 0 ≤ s172.1 ∧ s172.1 < (x1.Val.Data.length : Int) then (bindS (script_Number.e n_ (rd x1.Val.Data s172.1)) fun r189 =>
  if ([118, 58] : List UInt8).length + r189.length ≤ 9223372036854775807 then (if s172.2.length + 1 ≤ 549755813888 then (.next ((w64 (s172.1 + 1)), (s172.2 ++ ([(([118, 58] : List UInt8) ++ r189)] : List (List UInt8)))))
  else .bad)
  else .bad)
  else .bad)
  else (.done (s172.1, s172.2))
theorem script_writer_node.l0e_le (n_ : Nat) (x1 : Node) (s172 : (Int × (List (List UInt8))))  : LeS (script_writer_node.l0e n_ x1 s172) (script_writer_node.l0 x1 s172) := by
  unfold script_writer_node.l0e script_writer_node.l0
  repeat' (with_reducible first | exact Le.leaf _ | exact Le.none _ | exact Le.refl _ | exact LeS.next _ | exact LeS.done _ | exact LeS.bad _ | refine Le.ite ?_ ?_ | refine LeS.ite ?_ ?_ | refine Le.bind ?_ (fun _ => ?_) | refine LeS.bind ?_ (fun _ => ?_) | refine Le.on (fun _ => ?_) (fun _ => ?_) | refine LeS.on (fun _ => ?_) (fun _ => ?_) | refine Le.ptr (fun _ => ?_) ?_ | refine LeS.ptr (fun _ => ?_) ?_ | refine Le.loopN (fun _ => ?_) | apply script_Number.e_le)
def script_writer_node.l1e (n_ : Nat) (x1 : Node) (s306 : (Int × Bool × (List (List UInt8)))) : Step (Int × Bool × (List (List UInt8))) (Int × Bool × (List (List UInt8))) :=
  if s306.1 < (x1.Hooks.length : Int) then (if 0 ≤ s306.1 ∧ s306.1 < (x1.Hooks.length : Int) then (bindS (script_writer_nums.e n_ (⟨s306.2.2, s306.2.1⟩ : Writer) ([104, 58] : List UInt8) ([((rd x1.Hooks s306.1).Do)] : List Int)) fun r337 =>
  if 0 ≤ (w64 ((r337.1.length : Int) - 1)) ∧ (w64 ((r337.1.length : Int) - 1)) < (r337.1.length : Int) then (bindS (script_Number.e n_ ((rd x1.Hooks s306.1).X)) fun r356 =>
  if ([44] : List UInt8).length + r356.length ≤ 9223372036854775807 then (if (rd r337.1 (w64 ((r337.1.length : Int) - 1))).length + (([44] : List UInt8) ++ r356).length ≤ 9223372036854775807 then (.next ((w64 (s306.1 + 1)), r337.2, (put r337.1 (w64 ((r337.1.length : Int) - 1)) ((rd r337.1 (w64 ((r337.1.length : Int) - 1))) ++ (([44] : List UInt8) ++ r356)))))
  else .bad)
  else .bad)
  else .bad)
  else .bad)
  else (.done (s306.1, s306.2.1, s306.2.2))
theorem script_writer_node.l1e_le (n_ : Nat) (x1 : Node) (s306 : (Int × Bool × (List (List UInt8))))  : LeS (script_writer_node.l1e n_ x1 s306) (script_writer_node.l1 x1 s306) := by
  unfold script_writer_node.l1e script_writer_node.l1
  repeat' (with_reducible first | exact Le.leaf _ | exact Le.none _ | exact Le.refl _ | exact LeS.next _ | exact LeS.done _ | exact LeS.bad _ | refine Le.ite ?_ ?_ | refine LeS.ite ?_ ?_ | refine Le.bind ?_ (fun _ => ?_) | refine LeS.bind ?_ (fun _ => ?_) | refine Le.on (fun _ => ?_) (fun _ => ?_) | refine LeS.on (fun _ => ?_) (fun _ => ?_) | refine Le.ptr (fun _ => ?_) ?_ | refine LeS.ptr (fun _ => ?_) ?_ | refine Le.loopN (fun _ => ?_) | apply script_Number.e_le | apply script_writer_nums.e_le)
def script_writer_node.e (n_ : Nat) (x0 : Writer) (x1 : Node) : Option ((List (List UInt8)) × Bool) :=
  if x0.bad = true then ((op_Name.e n_ x1.Op).bind fun r35 =>
  if x0.b.length + 1 ≤ 549755813888 then ((script_writer_nums.e n_ (⟨(x0.b ++ ([r35] : List (List UInt8))), true⟩ : Writer) ([105, 58] : List UInt8) x1.In).bind fun r135 =>
  (script_writer_nums.e n_ (⟨r135.1, r135.2⟩ : Writer) ([116, 58] : List UInt8) x1.To).bind fun r145 =>
  if x1.No = 0 then ((script_writer_nums.e n_ (⟨r145.1, r145.2⟩ : Writer) ([115, 58] : List UInt8) x1.Val.Shape).bind fun r158 =>
  (loopN n_ (script_writer_node.l0e n_ x1) (0, r158.1)).bind fun r175 =>
  (loopN n_ (script_writer_node.l1e n_ x1) (0, r158.2, r175.2)).bind fun r309 =>
  some (r309.2.2, r309.2.1))
  else ((script_writer_nums.e n_ (⟨r145.1, r145.2⟩ : Writer) ([110, 58] : List UInt8) ([x1.No] : List Int)).bind fun r422 =>
  (script_writer_nums.e n_ (⟨r422.1, r422.2⟩ : Writer) ([115, 58] : List UInt8) x1.Val.Shape).bind fun r440 =>
  (loopN n_ (script_writer_node.l0e n_ x1) (0, r440.1)).bind fun r457 =>
  (loopN n_ (script_writer_node.l1e n_ x1) (0, r440.2, r457.2)).bind fun r591 =>
  some (r591.2.2, r591.2.1)))
  else none)
  else ((op_May.e n_ x1.Op).bind fun r702 =>
  if r702 = true then ((op_Name.e n_ x1.Op).bind fun r717 =>
  if x0.b.length + 1 ≤ 549755813888 then ((script_writer_nums.e n_ (⟨(x0.b ++ ([r717] : List (List UInt8))), false⟩ : Writer) ([105, 58] : List UInt8) x1.In).bind fun r816 =>
  (script_writer_nums.e n_ (⟨r816.1, r816.2⟩ : Writer) ([116, 58] : List UInt8) x1.To).bind fun r826 =>
  if x1.No = 0 then ((script_writer_nums.e n_ (⟨r826.1, r826.2⟩ : Writer) ([115, 58] : List UInt8) x1.Val.Shape).bind fun r839 =>
  (loopN n_ (script_writer_node.l0e n_ x1) (0, r839.1)).bind fun r856 =>
  (loopN n_ (script_writer_node.l1e n_ x1) (0, r839.2, r856.2)).bind fun r990 =>
  some (r990.2.2, r990.2.1))
  else ((script_writer_nums.e n_ (⟨r826.1, r826.2⟩ : Writer) ([110, 58] : List UInt8) ([x1.No] : List Int)).bind fun r1103 =>
  (script_writer_nums.e n_ (⟨r1103.1, r1103.2⟩ : Writer) ([115, 58] : List UInt8) x1.Val.Shape).bind fun r1121 =>
  (loopN n_ (script_writer_node.l0e n_ x1) (0, r1121.1)).bind fun r1138 =>
  (loopN n_ (script_writer_node.l1e n_ x1) (0, r1121.2, r1138.2)).bind fun r1272 =>
  some (r1272.2.2, r1272.2.1)))
  else none)
  else ((op_Name.e n_ x1.Op).bind fun r1396 =>
  if x0.b.length + 1 ≤ 549755813888 then ((script_writer_nums.e n_ (⟨(x0.b ++ ([r1396] : List (List UInt8))), true⟩ : Writer) ([105, 58] : List UInt8) x1.In).bind fun r1495 =>
  (script_writer_nums.e n_ (⟨r1495.1, r1495.2⟩ : Writer) ([116, 58] : List UInt8) x1.To).bind fun r1505 =>
  if x1.No = 0 then ((script_writer_nums.e n_ (⟨r1505.1, r1505.2⟩ : Writer) ([115, 58] : List UInt8) x1.Val.Shape).bind fun r1518 =>
  (loopN n_ (script_writer_node.l0e n_ x1) (0, r1518.1)).bind fun r1535 =>
  (loopN n_ (script_writer_node.l1e n_ x1) (0, r1518.2, r1535.2)).bind fun r1669 =>
  some (r1669.2.2, r1669.2.1))
  else ((script_writer_nums.e n_ (⟨r1505.1, r1505.2⟩ : Writer) ([110, 58] : List UInt8) ([x1.No] : List Int)).bind fun r1782 =>
  (script_writer_nums.e n_ (⟨r1782.1, r1782.2⟩ : Writer) ([115, 58] : List UInt8) x1.Val.Shape).bind fun r1800 =>
  (loopN n_ (script_writer_node.l0e n_ x1) (0, r1800.1)).bind fun r1817 =>
  (loopN n_ (script_writer_node.l1e n_ x1) (0, r1800.2, r1817.2)).bind fun r1951 =>
  some (r1951.2.2, r1951.2.1)))
  else none))
theorem script_writer_node.e_le (n_ : Nat) (x0 : Writer) (x1 : Node)  : Le (script_writer_node.e n_ x0 x1) (script_writer_node.f x0 x1) := by
  unfold script_writer_node.e script_writer_node.f
  repeat' (with_reducible first | exact Le.leaf _ | exact Le.none _ | exact Le.refl _ | exact LeS.next _ | exact LeS.done _ | exact LeS.bad _ | refine Le.ite ?_ ?_ | refine LeS.ite ?_ ?_ | refine Le.bind ?_ (fun _ => ?_) | refine LeS.bind ?_ (fun _ => ?_) | refine Le.on (fun _ => ?_) (fun _ => ?_) | refine LeS.on (fun _ => ?_) (fun _ => ?_) | refine Le.ptr (fun _ => ?_) ?_ | refine LeS.ptr (fun _ => ?_) ?_ | refine Le.loopN (fun _ => ?_) | apply op_May.e_le | apply op_Name.e_le | apply script_writer_nums.e_le | apply script_writer_node.l0e_le | apply script_writer_node.l1e_le)

def slices_Equal_string.l0e (n_ : Nat) (x0 : (List (List UInt8))) (x1 : (List (List UInt8))) (s28 : Int) : Step Int (Out2 Int Bool) :=
  if s28 < (x0.length : Int) then (if 0 ≤ s28 ∧ s28 < (x0.length : Int) then (if 0 ≤ s28 ∧ s28 < (x1.length : Int) then (if (rd x0 s28) = (rd x1 s28) then (.next (w64 (s28 + 1)))
  else (.done (.ret false)))
  else .bad)
  else .bad)
  else (.done (.go s28))
theorem slices_Equal_string.l0e_le (n_ : Nat) (x0 : (List (List UInt8))) (x1 : (List (List UInt8))) (s28 : Int)  : LeS (slices_Equal_string.l0e n_ x0 x1 s28) (slices_Equal_string.l0 x0 x1 s28) := by
  unfold slices_Equal_string.l0e slices_Equal_string.l0
  repeat' (with_reducible first | exact Le.leaf _ | exact Le.none _ | exact Le.refl _ | exact LeS.next _ | exact LeS.done _ | exact LeS.bad _ | refine Le.ite ?_ ?_ | refine LeS.ite ?_ ?_ | refine Le.bind ?_ (fun _ => ?_) | refine LeS.bind ?_ (fun _ => ?_) | refine Le.on (fun _ => ?_) (fun _ => ?_) | refine LeS.on (fun _ => ?_) (fun _ => ?_) | refine Le.ptr (fun _ => ?_) ?_ | refine LeS.ptr (fun _ => ?_) ?_ | refine Le.loopN (fun _ => ?_))
def slices_Equal_string.e (n_ : Nat) (x0 : (List (List UInt8))) (x1 : (List (List UInt8))) : Option Bool :=
  if (x0.length : Int) = (x1.length : Int) then ((loopN n_ (slices_Equal_string.l0e n_ x0 x1) 0).bind fun r29 =>
  r29.on (fun yr29 =>
  some true) (fun y => some y))
  else (some false)
theorem slices_Equal_string.e_le (n_ : Nat) (x0 : (List (List UInt8))) (x1 : (List (List UInt8)))  : Le (slices_Equal_string.e n_ x0 x1) (slices_Equal_string.f x0 x1) := by
  unfold slices_Equal_string.e slices_Equal_string.f
  repeat' (with_reducible first | exact Le.leaf _ | exact Le.none _ | exact Le.refl _ | exact LeS.next _ | exact LeS.done _ | exact LeS.bad _ | refine Le.ite ?_ ?_ | refine LeS.ite ?_ ?_ | refine Le.bind ?_ (fun _ => ?_) | refine LeS.bind ?_ (fun _ => ?_) | refine Le.on (fun _ => ?_) (fun _ => ?_) | refine LeS.on (fun _ => ?_) (fun _ => ?_) | refine Le.ptr (fun _ => ?_) ?_ | refine LeS.ptr (fun _ => ?_) ?_ | refine Le.loopN (fun _ => ?_) | apply slices_Equal_string.l0e_le)

def script_node.l0e (n_ : Nat) (r30 : (List (List UInt8))) (s58 : (Int × Int)) : Step (Int × Int) (Int × Int) :=
  if s58.1 ≤ 16 then (bindS (op_Name.e n_ s58.1) fun r69 =>
  if (0 : Int) ≤ 0 ∧ 0 < (r30.length : Int) then (if r69 = (rd r30 0) then (.next ((w64 (s58.1 + 1)), s58.1))
  else (.next ((w64 (s58.1 + 1)), s58.2)))
  else .bad)
  else (.done (s58.1, s58.2))
theorem script_node.l0e_le (n_ : Nat) (r30 : (List (List UInt8))) (s58 : (Int × Int))  : LeS (script_node.l0e n_ r30 s58) (script_node.l0 r30 s58) := by
  unfold script_node.l0e script_node.l0
  repeat' (with_reducible first | exact Le.leaf _ | exact Le.none _ | exact Le.refl _ | exact LeS.next _ | exact LeS.done _ | exact LeS.bad _ | refine Le.ite ?_ ?_ | refine LeS.ite ?_ ?_ | refine Le.bind ?_ (fun _ => ?_) | refine LeS.bind ?_ (fun _ => ?_) | refine Le.on (fun _ => ?_) (fun _ => ?_) | refine LeS.on (fun _ => ?_) (fun _ => ?_) | refine Le.ptr (fun _ => ?_) ?_ | refine LeS.ptr (fun _ => ?_) ?_ | refine Le.loopN (fun _ => ?_) | apply op_Name.e_le)
def script_node.l1e (n_ : Nat) (r30 : (List (List UInt8))) (r59 : (Int × Int)) (s179 : (Int × Int × (List Hook) × (List Nat) × (List Int) × (List Int) × (List Int))) : Step (Int × Int × (List Hook) × (List Nat) × (List Int) × (List Int) × (List Int)) (Out2 (Int × Int × (List Hook) × (List Nat) × (List Int) × (List Int) × (List Int)) (Node × Bool)) :=
  if s179.1 < (((r30.length - ((1 : Int)).toNat) : Nat) : Int) then (if 0 ≤ s179.1 ∧ s179.1 < (((r30.length - ((1 : Int)).toNat) : Nat) : Int) then (bindS (strings_Cut.f (rd ((List.take r30.length r30).drop (((1 : Int)).toNat)) s179.1) ([58] : List UInt8)) fun r205 =>
  if r205.2.2 = true then (bindS (script_word.e n_ (⟨r59.2, s179.2.2.2.2.2.2, s179.2.2.2.2.2.1, s179.2.1, (⟨s179.2.2.2.2.1, s179.2.2.2.1⟩ : Tensor), s179.2.2.1⟩ : Node) r205.1 r205.2.1) fun r216 =>
  if r216.2.2.2.2.2 = true then (.next ((w64 (s179.1 + 1)), r216.2.2.1, r216.2.2.2.2.1, r216.2.2.2.1.Data, r216.2.2.2.1.Shape, r216.2.1, r216.1))
  else (.done (.ret ((⟨0, ([] : (List Int)), ([] : (List Int)), 0, (⟨([] : (List Int)), ([] : (List Nat))⟩ : Tensor), ([] : (List Hook))⟩ : Node), false))))
  else (.done (.ret ((⟨0, ([] : (List Int)), ([] : (List Int)), 0, (⟨([] : (List Int)), ([] : (List Nat))⟩ : Tensor), ([] : (List Hook))⟩ : Node), false))))
  else .bad)
  else (.done (.go (s179.1, s179.2.1, s179.2.2.1, s179.2.2.2.1, s179.2.2.2.2.1, s179.2.2.2.2.2.1, s179.2.2.2.2.2.2)))
theorem script_node.l1e_le (n_ : Nat) (r30 : (List (List UInt8))) (r59 : (Int × Int)) (s179 : (Int × Int × (List Hook) × (List Nat) × (List Int) × (List Int) × (List Int)))  : LeS (script_node.l1e n_ r30 r59 s179) (script_node.l1 r30 r59 s179) := by
  unfold script_node.l1e script_node.l1
  repeat' (with_reducible first | exact Le.leaf _ | exact Le.none _ | exact Le.refl _ | exact LeS.next _ | exact LeS.done _ | exact LeS.bad _ | refine Le.ite ?_ ?_ | refine LeS.ite ?_ ?_ | refine Le.bind ?_ (fun _ => ?_) | refine LeS.bind ?_ (fun _ => ?_) | refine Le.on (fun _ => ?_) (fun _ => ?_) | refine LeS.on (fun _ => ?_) (fun _ => ?_) | refine Le.ptr (fun _ => ?_) ?_ | refine LeS.ptr (fun _ => ?_) ?_ | refine Le.loopN (fun _ => ?_) | apply script_word.e_le)
def script_node.e (n_ : Nat) (x0 : (List UInt8)) : Option (Node × Bool) :=
  (strings_Split.f x0 ([32] : List UInt8)).bind fun r30 =>
  (loopN n_ (script_node.l0e n_ r30) (1, 0)).bind fun r59 =>
  if 0 ≤ (1 : Int) ∧ (1 : Int) ≤ (r30.length : Int) then ((loopN n_ (script_node.l1e n_ r30 r59) (0, 0, ([] : (List Hook)), ([] : (List Nat)), ([] : (List Int)), ([] : (List Int)), ([] : (List Int)))).bind fun r190 =>
  r190.on (fun yr190 =>
  (script_writer_node.e n_ (⟨([] : (List (List UInt8))), false⟩ : Writer) (⟨r59.2, yr190.2.2.2.2.2.2, yr190.2.2.2.2.2.1, yr190.2.1, (⟨yr190.2.2.2.2.1, yr190.2.2.2.1⟩ : Tensor), yr190.2.2.1⟩ : Node)).bind fun r314 =>
  if r314.2 = true then (some ((⟨r59.2, yr190.2.2.2.2.2.2, yr190.2.2.2.2.2.1, yr190.2.1, (⟨yr190.2.2.2.2.1, yr190.2.2.2.1⟩ : Tensor), yr190.2.2.1⟩ : Node), false))
  else ((slices_Equal_string.e n_ r314.1 r30).bind fun r361 =>
  some ((⟨r59.2, yr190.2.2.2.2.2.2, yr190.2.2.2.2.2.1, yr190.2.1, (⟨yr190.2.2.2.2.1, yr190.2.2.2.1⟩ : Tensor), yr190.2.2.1⟩ : Node), r361))) (fun y => some y))
  else none
theorem script_node.e_le (n_ : Nat) (x0 : (List UInt8))  : Le (script_node.e n_ x0) (script_node.f x0) := by
  unfold script_node.e script_node.f
  repeat' (with_reducible first | exact Le.leaf _ | exact Le.none _ | exact Le.refl _ | exact LeS.next _ | exact LeS.done _ | exact LeS.bad _ | refine Le.ite ?_ ?_ | refine LeS.ite ?_ ?_ | refine Le.bind ?_ (fun _ => ?_) | refine LeS.bind ?_ (fun _ => ?_) | refine Le.on (fun _ => ?_) (fun _ => ?_) | refine LeS.on (fun _ => ?_) (fun _ => ?_) | refine Le.ptr (fun _ => ?_) ?_ | refine LeS.ptr (fun _ => ?_) ?_ | refine Le.loopN (fun _ => ?_) | apply script_writer_node.e_le | apply slices_Equal_string.e_le | apply script_node.l0e_le | apply script_node.l1e_le)

def script_Read.l0e (n_ : Nat)  (s41 : ((List UInt8) × (List Node))) : Step ((List UInt8) × (List Node)) (Out2 ((List UInt8) × (List Node)) (Graph × Int)) :=
  if s41.1 = ([] : List UInt8) then (.done (.go (s41.1, s41.2)))
  else (bindS (strings_Cut.f s41.1 ([10] : List UInt8)) fun r55 =>
  bindS (script_node.e n_ r55.1) fun r66 =>
  if r55.2.2 = true then (if r66.2 = true then (if s41.2.length + 1 ≤ 549755813888 then (.next (r55.2.1, (s41.2 ++ ([r66.1] : List Node))))
  else .bad)
  else (.done (.ret ((⟨([] : (List Node))⟩ : Graph), 14))))
  else (.done (.ret ((⟨([] : (List Node))⟩ : Graph), 14))))
theorem script_Read.l0e_le (n_ : Nat)  (s41 : ((List UInt8) × (List Node)))  : LeS (script_Read.l0e n_ s41) (script_Read.l0 s41) := by
  unfold script_Read.l0e script_Read.l0
  repeat' (with_reducible first | exact Le.leaf _ | exact Le.none _ | exact Le.refl _ | exact LeS.next _ | exact LeS.done _ | exact LeS.bad _ | refine Le.ite ?_ ?_ | refine LeS.ite ?_ ?_ | refine Le.bind ?_ (fun _ => ?_) | refine LeS.bind ?_ (fun _ => ?_) | refine Le.on (fun _ => ?_) (fun _ => ?_) | refine LeS.on (fun _ => ?_) (fun _ => ?_) | refine Le.ptr (fun _ => ?_) ?_ | refine LeS.ptr (fun _ => ?_) ?_ | refine Le.loopN (fun _ => ?_) | apply script_node.e_le)
def script_Read.e (n_ : Nat) (x0 : (List UInt8)) : Option (Graph × Int) :=
  (loopN n_ (script_Read.l0e n_) (x0, ([] : (List Node)))).bind fun r44 =>
  r44.on (fun yr44 =>
  if 256 < (yr44.2.length : Int) then (some ((⟨([] : (List Node))⟩ : Graph), 13))
  else (some ((⟨yr44.2⟩ : Graph), 0))) (fun y => some y)
theorem script_Read.e_le (n_ : Nat) (x0 : (List UInt8))  : Le (script_Read.e n_ x0) (script_Read.f x0) := by
  unfold script_Read.e script_Read.f
  repeat' (with_reducible first | exact Le.leaf _ | exact Le.none _ | exact Le.refl _ | exact LeS.next _ | exact LeS.done _ | exact LeS.bad _ | refine Le.ite ?_ ?_ | refine LeS.ite ?_ ?_ | refine Le.bind ?_ (fun _ => ?_) | refine LeS.bind ?_ (fun _ => ?_) | refine Le.on (fun _ => ?_) (fun _ => ?_) | refine LeS.on (fun _ => ?_) (fun _ => ?_) | refine Le.ptr (fun _ => ?_) ?_ | refine LeS.ptr (fun _ => ?_) ?_ | refine Le.loopN (fun _ => ?_) | apply script_Read.l0e_le)

def script_Text.l0e (n_ : Nat) (x0 : Graph) (s53 : (Int × Bool × (List UInt8))) : Step (Int × Bool × (List UInt8)) (Out2 (Int × Bool × (List UInt8)) (List UInt8)) :=
  if s53.1 < (x0.L.length : Int) then (if 0 ≤ s53.1 ∧ s53.1 < (x0.L.length : Int) then (bindS (script_writer_node.e n_ (⟨([] : (List (List UInt8))), false⟩ : Writer) (⟨((rd x0.L s53.1).Op), ((rd x0.L s53.1).In), ((rd x0.L s53.1).To), ((rd x0.L s53.1).No), (⟨(((rd x0.L s53.1).Val).Shape), (((rd x0.L s53.1).Val).Data)⟩ : Tensor), ((rd x0.L s53.1).Hooks)⟩ : Node)) fun r110 =>
  if r110.2 = true then (.done (.ret ([] : List UInt8)))
  else (bindS (strings_Join.f r110.1 ([32] : List UInt8)) fun r130 =>
  if r130.length + ([10] : List UInt8).length ≤ 9223372036854775807 then (if s53.2.2.length + (r130 ++ ([10] : List UInt8)).length ≤ 140737488355328 then (.next ((w64 (s53.1 + 1)), true, (s53.2.2 ++ (r130 ++ ([10] : List UInt8)))))
  else .bad)
  else .bad))
  else .bad)
  else (.done (.go (s53.1, s53.2.1, s53.2.2)))
theorem script_Text.l0e_le (n_ : Nat) (x0 : Graph) (s53 : (Int × Bool × (List UInt8)))  : LeS (script_Text.l0e n_ x0 s53) (script_Text.l0 x0 s53) := by
  unfold script_Text.l0e script_Text.l0
  repeat' (with_reducible first | exact Le.leaf _ | exact Le.none _ | exact Le.refl _ | exact LeS.next _ | exact LeS.done _ | exact LeS.bad _ | refine Le.ite ?_ ?_ | refine LeS.ite ?_ ?_ | refine Le.bind ?_ (fun _ => ?_) | refine LeS.bind ?_ (fun _ => ?_) | refine Le.on (fun _ => ?_) (fun _ => ?_) | refine LeS.on (fun _ => ?_) (fun _ => ?_) | refine Le.ptr (fun _ => ?_) ?_ | refine LeS.ptr (fun _ => ?_) ?_ | refine Le.loopN (fun _ => ?_) | apply script_writer_node.e_le)
def script_Text.e (n_ : Nat) (x0 : Graph) : Option (List UInt8) :=
  if 256 < (x0.L.length : Int) then (some ([] : List UInt8))
  else ((loopN n_ (script_Text.l0e n_ x0) (0, false, ([] : List UInt8))).bind fun r56 =>
  r56.on (fun yr56 =>
  some yr56.2.2) (fun y => some y))
theorem script_Text.e_le (n_ : Nat) (x0 : Graph)  : Le (script_Text.e n_ x0) (script_Text.f x0) := by
  unfold script_Text.e script_Text.f
  repeat' (with_reducible first | exact Le.leaf _ | exact Le.none _ | exact Le.refl _ | exact LeS.next _ | exact LeS.done _ | exact LeS.bad _ | refine Le.ite ?_ ?_ | refine LeS.ite ?_ ?_ | refine Le.bind ?_ (fun _ => ?_) | refine LeS.bind ?_ (fun _ => ?_) | refine Le.on (fun _ => ?_) (fun _ => ?_) | refine LeS.on (fun _ => ?_) (fun _ => ?_) | refine Le.ptr (fun _ => ?_) ?_ | refine LeS.ptr (fun _ => ?_) ?_ | refine Le.loopN (fun _ => ?_) | apply script_Text.l0e_le)

def law24_awake.e (n_ : Nat)  : Option Bool :=
  (script_Read.e n_ ([97, 100, 100, 32, 105, 58, 48, 32, 105, 58, 49, 10] : List UInt8)).bind fun r23 =>
  if r23.2 = 0 then (if (r23.1.L.length : Int) = 1 then (if (0 : Int) ≤ 0 ∧ 0 < (r23.1.L.length : Int) then (if (rd r23.1.L 0).Op = 4 then ((script_Text.e n_ r23.1).bind fun r51 =>
  if r51 = ([97, 100, 100, 32, 105, 58, 48, 32, 105, 58, 49, 10] : List UInt8) then ((script_Number.e n_ 4607182418800017408).bind fun r53 =>
  if r53 = ([51, 102, 102, 48, 48, 48, 48, 48, 48, 48, 48, 48, 48, 48, 48, 48] : List UInt8) then (some true)
  else (some false))
  else (some false))
  else (some false))
  else none)
  else (some false))
  else (some false)
theorem law24_awake.e_le (n_ : Nat)   : Le (law24_awake.e n_ ) (law24_awake.f ) := by
  unfold law24_awake.e law24_awake.f
  repeat' (with_reducible first | exact Le.leaf _ | exact Le.none _ | exact Le.refl _ | exact LeS.next _ | exact LeS.done _ | exact LeS.bad _ | refine Le.ite ?_ ?_ | refine LeS.ite ?_ ?_ | refine Le.bind ?_ (fun _ => ?_) | refine LeS.bind ?_ (fun _ => ?_) | refine Le.on (fun _ => ?_) (fun _ => ?_) | refine LeS.on (fun _ => ?_) (fun _ => ?_) | refine Le.ptr (fun _ => ?_) ?_ | refine LeS.ptr (fun _ => ?_) ?_ | refine Le.loopN (fun _ => ?_) | apply script_Number.e_le | apply script_Read.e_le | apply script_Text.e_le)

def law24_ScriptKnown.l0e (n_ : Nat)  (s225 : Int) : Step Int (Out2 Int Bool) :=
  if s225 < (17 : Int) then (if 0 ≤ s225 ∧ s225 < (17 : Int) then (bindS (script_Read.e n_ (rd ([([97, 100, 100] : List UInt8), ([102, 111, 111, 10] : List UInt8), ([97, 100, 100, 32, 105, 58, 10] : List UInt8), ([97, 100, 100, 32, 105, 58, 48, 49, 10] : List UInt8), ([97, 100, 100, 32, 105, 58, 49, 50, 51, 52, 53, 54, 55, 56, 57, 48, 10] : List UInt8), ([97, 100, 100, 32, 32, 105, 58, 48, 10] : List UInt8), ([97, 100, 100, 32, 105, 58, 48, 32, 10] : List UInt8), ([97, 100, 100, 32, 116, 58, 49, 32, 105, 58, 48, 10] : List UInt8), ([108, 101, 97, 102, 32, 110, 58, 48, 10] : List UInt8), ([108, 101, 97, 102, 32, 118, 58, 51, 102, 102, 10] : List UInt8), ([108, 101, 97, 102, 32, 118, 58, 55, 102, 102, 56, 48, 48, 48, 48, 48, 48, 48, 48, 48, 48, 48, 48, 10] : List UInt8), ([108, 101, 97, 102, 32, 104, 58, 49, 10] : List UInt8), ([108, 101, 97, 102, 32, 104, 58, 44, 51, 102, 102, 48, 48, 48, 48, 48, 48, 48, 48, 48, 48, 48, 48, 48, 10] : List UInt8), ([10] : List UInt8), ([108, 101, 97, 102, 32, 110, 58, 49, 32, 110, 58, 50, 10] : List UInt8), ([76, 101, 97, 102, 10] : List UInt8), ([108, 101, 97, 102, 32, 113, 58, 49, 10] : List UInt8)] : List (List UInt8)) s225)) fun r236 =>
  if r236.2 = 14 then (.next (w64 (s225 + 1)))
  else (.done (.ret false)))
  else .bad)
  else (.done (.go s225))
theorem law24_ScriptKnown.l0e_le (n_ : Nat)  (s225 : Int)  : LeS (law24_ScriptKnown.l0e n_ s225) (law24_ScriptKnown.l0 s225) := by
  unfold law24_ScriptKnown.l0e law24_ScriptKnown.l0
  repeat' (with_reducible first | exact Le.leaf _ | exact Le.none _ | exact Le.refl _ | exact LeS.next _ | exact LeS.done _ | exact LeS.bad _ | refine Le.ite ?_ ?_ | refine LeS.ite ?_ ?_ | refine Le.bind ?_ (fun _ => ?_) | refine LeS.bind ?_ (fun _ => ?_) | refine Le.on (fun _ => ?_) (fun _ => ?_) | refine LeS.on (fun _ => ?_) (fun _ => ?_) | refine Le.ptr (fun _ => ?_) ?_ | refine LeS.ptr (fun _ => ?_) ?_ | refine Le.loopN (fun _ => ?_) | apply script_Read.e_le)
def law24_ScriptKnown.l1e (n_ : Nat)  (s287 : ((List UInt8) × Int)) : Step ((List UInt8) × Int) ((List UInt8) × Int) :=
  if s287.2 ≤ 256 then (if s287.1.length + ([108, 101, 97, 102, 10] : List UInt8).length ≤ 9223372036854775807 then (.next ((s287.1 ++ ([108, 101, 97, 102, 10] : List UInt8)), (w64 (s287.2 + 1))))
  else .bad)
  else (.done (s287.1, s287.2))
theorem law24_ScriptKnown.l1e_le (n_ : Nat)  (s287 : ((List UInt8) × Int))  : LeS (law24_ScriptKnown.l1e n_ s287) (law24_ScriptKnown.l1 s287) := by
  unfold law24_ScriptKnown.l1e law24_ScriptKnown.l1
  repeat' (with_reducible first | exact Le.leaf _ | exact Le.none _ | exact Le.refl _ | exact LeS.next _ | exact LeS.done _ | exact LeS.bad _ | refine Le.ite ?_ ?_ | refine LeS.ite ?_ ?_ | refine Le.bind ?_ (fun _ => ?_) | refine LeS.bind ?_ (fun _ => ?_) | refine Le.on (fun _ => ?_) (fun _ => ?_) | refine LeS.on (fun _ => ?_) (fun _ => ?_) | refine Le.ptr (fun _ => ?_) ?_ | refine LeS.ptr (fun _ => ?_) ?_ | refine Le.loopN (fun _ => ?_))
def law24_ScriptKnown.e (n_ : Nat)  : Option Bool :=
  (law24_awake.e n_).bind fun r23 =>
  if r23 = true then ((script_Read.e n_ ([112, 97, 114, 97, 109, 10, 108, 101, 97, 102, 32, 110, 58, 51, 32, 104, 58, 49, 44, 52, 48, 48, 48, 48, 48, 48, 48, 48, 48, 48, 48, 48, 48, 48, 48, 10, 99, 111, 110, 115, 116, 32, 115, 58, 50, 32, 118, 58, 51, 102, 102, 48, 48, 48, 48, 48, 48, 48, 48, 48, 48, 48, 48, 48, 32, 118, 58, 55, 102, 102, 56, 48, 48, 48, 48, 48, 48, 48, 48, 48, 48, 48, 49, 10, 98, 114, 111, 97, 100, 99, 97, 115, 116, 32, 105, 58, 48, 32, 116, 58, 50, 32, 116, 58, 50, 10, 99, 97, 108, 108, 32, 105, 58, 51, 32, 110, 58, 49, 10] : List UInt8)).bind fun r34 =>
  if r34.2 = 0 then (if (r34.1.L.length : Int) = 5 then (if (0 : Int) ≤ 1 ∧ 1 < (r34.1.L.length : Int) then (if (rd r34.1.L 1).No = 3 then (if (0 : Int) ≤ 0 ∧ 0 < ((((rd r34.1.L 1).Hooks).length : Nat) : Int) then (if (fne ((rd ((rd r34.1.L 1).Hooks) 0).X) 4611686018427387904) = true then (some false)
  else (if (0 : Int) ≤ 2 ∧ 2 < (r34.1.L.length : Int) then (if (((((rd r34.1.L 2).Val).Data).length : Nat) : Int) = 2 then (if (0 : Int) ≤ 4 ∧ 4 < (r34.1.L.length : Int) then (if (rd r34.1.L 4).No = 1 then ((script_Text.e n_ r34.1).bind fun r121 =>
  if r121 = ([112, 97, 114, 97, 109, 10, 108, 101, 97, 102, 32, 110, 58, 51, 32, 104, 58, 49, 44, 52, 48, 48, 48, 48, 48, 48, 48, 48, 48, 48, 48, 48, 48, 48, 48, 10, 99, 111, 110, 115, 116, 32, 115, 58, 50, 32, 118, 58, 51, 102, 102, 48, 48, 48, 48, 48, 48, 48, 48, 48, 48, 48, 48, 48, 32, 118, 58, 55, 102, 102, 56, 48, 48, 48, 48, 48, 48, 48, 48, 48, 48, 48, 49, 10, 98, 114, 111, 97, 100, 99, 97, 115, 116, 32, 105, 58, 48, 32, 116, 58, 50, 32, 116, 58, 50, 10, 99, 97, 108, 108, 32, 105, 58, 51, 32, 110, 58, 49, 10] : List UInt8) then ((loopN n_ (law24_ScriptKnown.l0e n_) 0).bind fun r226 =>
  r226.on (fun yr226 =>
  (loopN n_ (law24_ScriptKnown.l1e n_) (([] : List UInt8), 0)).bind fun r288 =>
  (script_Read.e n_ r288.1).bind fun r308 =>
  if 0 ≤ (5 : Int) ∧ (5 : Int) ≤ (r288.1.length : Int) then ((script_Read.e n_ (slc r288.1 (5 : Int) (r288.1.length : Int))).bind fun r336 =>
  (script_Read.e n_ ([] : List UInt8)).bind fun r362 =>
  if r308.2 = 13 then (if r336.2 = 0 then (if (r336.1.L.length : Int) = 256 then (if r362.2 = 0 then (if (r362.1.L.length : Int) = 0 then ((script_Number.e n_ 13835058055282163712).bind fun r391 =>
  if r391 = ([99, 48, 48, 48, 48, 48, 48, 48, 48, 48, 48, 48, 48, 48, 48, 48] : List UInt8) then ((script_Text.e n_ (⟨([(⟨0, ([] : (List Int)), ([] : (List Int)), 0, (⟨([] : (List Int)), ([] : (List Nat))⟩ : Tensor), ([] : (List Hook))⟩ : Node)] : List Node)⟩ : Graph)).bind fun r393 =>
  if r393 = ([] : List UInt8) then (some true)
  else (some false))
  else (some false))
  else (some false))
  else (some false))
  else (some false))
  else (some false))
  else (some false))
  else none) (fun y => some y))
  else (some false))
  else (some false))
  else none)
  else (some false))
  else none))
  else none)
  else (some false))
  else none)
  else (some false))
  else (some false))
  else (some false)
theorem law24_ScriptKnown.e_le (n_ : Nat)   : Le (law24_ScriptKnown.e n_ ) (law24_ScriptKnown.f ) := by
  unfold law24_ScriptKnown.e law24_ScriptKnown.f
  repeat' (with_reducible first | exact Le.leaf _ | exact Le.none _ | exact Le.refl _ | exact LeS.next _ | exact LeS.done _ | exact LeS.bad _ | refine Le.ite ?_ ?_ | refine LeS.ite ?_ ?_ | refine Le.bind ?_ (fun _ => ?_) | refine LeS.bind ?_ (fun _ => ?_) | refine Le.on (fun _ => ?_) (fun _ => ?_) | refine LeS.on (fun _ => ?_) (fun _ => ?_) | refine Le.ptr (fun _ => ?_) ?_ | refine LeS.ptr (fun _ => ?_) ?_ | refine Le.loopN (fun _ => ?_) | apply law24_awake.e_le | apply script_Number.e_le | apply script_Read.e_le | apply script_Text.e_le | apply law24_ScriptKnown.l0e_le | apply law24_ScriptKnown.l1e_le)
end Go.Proofs.YtkdhahdfkonilaaDoor
