/- What data there are, and which functions may be called (printed by gen.py). -/
import Derived.Test.YtkcgiolledmbnabE11
import Derived.Test.YtkcgiolledmbnabProg
namespace Go.Proofs.Ytkcgiolledmbnab
open Go Go.RowKit
set_option linter.unusedSimpArgs false
set_option linter.unusedVariables false
def PtrP {α : Type} (o : Option α) (N : Prop) (S : α → Prop) : Prop := match o with | none => N | some y => S y
theorem PtrP_no {α : Type} {N : Prop} {S : α → Prop} (h : N) : PtrP none N S := h
theorem PtrP_so {α : Type} {y : α} {N : Prop} {S : α → Prop} (h : S y) : PtrP (some y) N S := h
structure Tensor where
  Shape : (List Int)
  Data : (List Nat)
instance : Inhabited Tensor := ⟨⟨[], []⟩⟩
def kTensor : Kd Tensor := Kd.iso (Kd.pair (Kd.slice (Kd.int .i64)) (Kd.slice Kd.float)) (fun x => (x.Shape, x.Data))
theorem kTensor.open {S : Nat → Prop} {w : World} {us : List Value} {x : Tensor} (h : kTensor.rep S w us x) : ∃ A0 c0 A1 c1, us = [.slice A0 x.Shape.length c0, .slice A1 x.Data.length c1] ∧ (Cp A0 x.Shape.length c0 ∧ Sl (Kd.int .i64) S w A0 x.Shape) ∧ (Cp A1 x.Data.length c1 ∧ Sl Kd.float S w A1 x.Data) := by
  obtain ⟨_, _, rfl, ⟨A0, c0, rfl, h0⟩, ⟨A1, c1, rfl, h1⟩⟩ := h
  exact ⟨A0, c0, A1, c1, rfl, h0, h1⟩
theorem kTensor.mk {S : Nat → Prop} {w : World} (x : Tensor) {A0 : Option Addr} {c0 : Nat} (h0 : Cp A0 x.Shape.length c0 ∧ Sl (Kd.int .i64) S w A0 x.Shape) {A1 : Option Addr} {c1 : Nat} (h1 : Cp A1 x.Data.length c1 ∧ Sl Kd.float S w A1 x.Data) : kTensor.rep S w [.slice A0 x.Shape.length c0, .slice A1 x.Data.length c1] x := ⟨[.slice A0 x.Shape.length c0], [.slice A1 x.Data.length c1], rfl, ⟨A0, c0, rfl, h0⟩, ⟨A1, c1, rfl, h1⟩⟩
theorem kTensor.zero (S : Nat → Prop) (w : World) : kTensor.rep S w [.slice none 0 0, .slice none 0 0] default := kTensor.mk default ⟨⟨Nat.le_refl _, fun _ => rfl⟩, .inl rfl⟩ ⟨⟨Nat.le_refl _, fun _ => rfl⟩, .inl rfl⟩
structure Slots where
  s : (List Int)
  l : (List Tensor)
  filled : (List Bool)
  left : Int
instance : Inhabited Slots := ⟨⟨[], [], [], 0⟩⟩
def kSlots : Kd Slots := Kd.iso (Kd.pair (Kd.slice (Kd.int .i64)) (Kd.pair (Kd.slice kTensor) (Kd.pair (Kd.slice Kd.bool) (Kd.int .i64)))) (fun x => (x.s, (x.l, (x.filled, x.left))))
theorem kSlots.open {S : Nat → Prop} {w : World} {us : List Value} {x : Slots} (h : kSlots.rep S w us x) : ∃ A0 c0 A1 c1 A2 c2, us = [.slice A0 x.s.length c0, .slice A1 x.l.length c1, .slice A2 x.filled.length c2, .int .i64 x.left] ∧ (Cp A0 x.s.length c0 ∧ Sl (Kd.int .i64) S w A0 x.s) ∧ (Cp A1 x.l.length c1 ∧ Sl kTensor S w A1 x.l) ∧ (Cp A2 x.filled.length c2 ∧ Sl Kd.bool S w A2 x.filled) := by
  obtain ⟨_, _, rfl, ⟨A0, c0, rfl, h0⟩, ⟨_, _, rfl, ⟨A1, c1, rfl, h1⟩, ⟨_, _, rfl, ⟨A2, c2, rfl, h2⟩, rfl⟩⟩⟩ := h
  exact ⟨A0, c0, A1, c1, A2, c2, rfl, h0, h1, h2⟩
theorem kSlots.mk {S : Nat → Prop} {w : World} (x : Slots) {A0 : Option Addr} {c0 : Nat} (h0 : Cp A0 x.s.length c0 ∧ Sl (Kd.int .i64) S w A0 x.s) {A1 : Option Addr} {c1 : Nat} (h1 : Cp A1 x.l.length c1 ∧ Sl kTensor S w A1 x.l) {A2 : Option Addr} {c2 : Nat} (h2 : Cp A2 x.filled.length c2 ∧ Sl Kd.bool S w A2 x.filled) : kSlots.rep S w [.slice A0 x.s.length c0, .slice A1 x.l.length c1, .slice A2 x.filled.length c2, .int .i64 x.left] x := ⟨[.slice A0 x.s.length c0], [.slice A1 x.l.length c1, .slice A2 x.filled.length c2, .int .i64 x.left], rfl, ⟨A0, c0, rfl, h0⟩, ⟨[.slice A1 x.l.length c1], [.slice A2 x.filled.length c2, .int .i64 x.left], rfl, ⟨A1, c1, rfl, h1⟩, ⟨[.slice A2 x.filled.length c2], [.int .i64 x.left], rfl, ⟨A2, c2, rfl, h2⟩, rfl⟩⟩⟩
theorem kSlots.zero (S : Nat → Prop) (w : World) : kSlots.rep S w [.slice none 0 0, .slice none 0 0, .slice none 0 0, .int .i64 0] default := kSlots.mk default ⟨⟨Nat.le_refl _, fun _ => rfl⟩, .inl rfl⟩ ⟨⟨Nat.le_refl _, fun _ => rfl⟩, .inl rfl⟩ ⟨⟨Nat.le_refl _, fun _ => rfl⟩, .inl rfl⟩
theorem callable15 : callable Try.prog 15 = true := by kernel_rfl
theorem callable16 : callable Try.prog 16 = true := by kernel_rfl
theorem callable17 : callable Try.prog 17 = true := by kernel_rfl
theorem callable18 : callable Try.prog 18 = true := by kernel_rfl
theorem callable19 : callable Try.prog 19 = true := by kernel_rfl
theorem callable20 : callable Try.prog 20 = true := by kernel_rfl
theorem callable21 : callable Try.prog 21 = true := by kernel_rfl
theorem callable22 : callable Try.prog 22 = true := by kernel_rfl
theorem callable23 : callable Try.prog 23 = true := by kernel_rfl
theorem callable27 : callable Try.prog 27 = true := by kernel_rfl
theorem callable28 : callable Try.prog 28 = true := by kernel_rfl
theorem callable30 : callable Try.prog 30 = true := by kernel_rfl
theorem callable31 : callable Try.prog 31 = true := by kernel_rfl
theorem callable32 : callable Try.prog 32 = true := by kernel_rfl
theorem callable35 : callable Try.prog 35 = true := by kernel_rfl
theorem callable38 : callable Try.prog 38 = true := by kernel_rfl
theorem callable48 : callable Try.prog 48 = true := by kernel_rfl
theorem callable49 : callable Try.prog 49 = true := by kernel_rfl
theorem callable50 : callable Try.prog 50 = true := by kernel_rfl
theorem callable51 : callable Try.prog 51 = true := by kernel_rfl
theorem callable52 : callable Try.prog 52 = true := by kernel_rfl
theorem callable53 : callable Try.prog 53 = true := by kernel_rfl
theorem callable54 : callable Try.prog 54 = true := by kernel_rfl
theorem callable59 : callable Try.prog 59 = true := by kernel_rfl
theorem callable62 : callable Try.prog 62 = true := by kernel_rfl
theorem callable75 : callable Try.prog 75 = true := by kernel_rfl
theorem callable76 : callable Try.prog 76 = true := by kernel_rfl
theorem callable77 : callable Try.prog 77 = true := by kernel_rfl
theorem callable78 : callable Try.prog 78 = true := by kernel_rfl
theorem callable79 : callable Try.prog 79 = true := by kernel_rfl
theorem callable80 : callable Try.prog 80 = true := by kernel_rfl
theorem callable81 : callable Try.prog 81 = true := by kernel_rfl
theorem callable91 : callable Try.prog 91 = true := by kernel_rfl
theorem callable93 : callable Try.prog 93 = true := by kernel_rfl
end Go.Proofs.Ytkcgiolledmbnab
