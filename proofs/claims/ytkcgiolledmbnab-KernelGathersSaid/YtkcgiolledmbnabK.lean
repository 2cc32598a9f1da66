/- What data there are, and which functions may be called (printed by gen.py). -/
import Derived.Test.YtkcgiolledmbnabE12
import Derived.Test.YtkcgiolledmbnabProg
namespace Go.Proofs.Ytkcgiolledmbnab
open Go Go.RowKit
set_option linter.unusedSimpArgs false
set_option linter.unusedVariables false
def PtrP {α : Type} (o : Option α) (N : Prop) (S : α → Prop) : Prop := match o with | none => N | some y => S y
theorem PtrP_no {α : Type} {N : Prop} {S : α → Prop} (h : N) : PtrP none N S := h
theorem PtrP_so {α : Type} {y : α} {N : Prop} {S : α → Prop} (h : S y) : PtrP (some y) N S := h
structure Tensor where
  Shape : (List Int)
  Data : (List Nat)
instance : Inhabited Tensor := ⟨⟨[], []⟩⟩
def kTensor : Kd Tensor := Kd.iso (Kd.pair (Kd.slice (Kd.int .i64)) (Kd.slice Kd.float)) (fun x => (x.Shape, x.Data))
theorem kTensor.open {S : Nat → Prop} {w : World} {us : List Value} {x : Tensor} (h : kTensor.rep S w us x) : ∃ A0 c0 A1 c1, us = [.slice A0 x.Shape.length c0, .slice A1 x.Data.length c1] ∧ (Cp A0 x.Shape.length c0 ∧ Sl (Kd.int .i64) S w A0 x.Shape) ∧ (Cp A1 x.Data.length c1 ∧ Sl Kd.float S w A1 x.Data) := by
  obtain ⟨_, _, rfl, ⟨A0, c0, rfl, h0⟩, ⟨A1, c1, rfl, h1⟩⟩ := h
  exact ⟨A0, c0, A1, c1, rfl, h0, h1⟩
theorem kTensor.mk {S : Nat → Prop} {w : World} (x : Tensor) {A0 : Option Addr} {c0 : Nat} (h0 : Cp A0 x.Shape.length c0 ∧ Sl (Kd.int .i64) S w A0 x.Shape) {A1 : Option Addr} {c1 : Nat} (h1 : Cp A1 x.Data.length c1 ∧ Sl Kd.float S w A1 x.Data) : kTensor.rep S w [.slice A0 x.Shape.length c0, .slice A1 x.Data.length c1] x := ⟨[.slice A0 x.Shape.length c0], [.slice A1 x.Data.length c1], rfl, ⟨A0, c0, rfl, h0⟩, ⟨A1, c1, rfl, h1⟩⟩
theorem kTensor.zero (S : Nat → Prop) (w : World) : kTensor.rep S w [.slice none 0 0, .slice none 0 0] default := kTensor.mk default ⟨⟨Nat.le_refl _, fun _ => rfl⟩, .inl rfl⟩ ⟨⟨Nat.le_refl _, fun _ => rfl⟩, .inl rfl⟩
theorem callable27 : callable Try.prog 27 = true := by kernel_rfl
theorem callable30 : callable Try.prog 30 = true := by kernel_rfl
theorem callable31 : callable Try.prog 31 = true := by kernel_rfl
theorem callable32 : callable Try.prog 32 = true := by kernel_rfl
theorem callable38 : callable Try.prog 38 = true := by kernel_rfl
theorem callable43 : callable Try.prog 43 = true := by kernel_rfl
theorem callable45 : callable Try.prog 45 = true := by kernel_rfl
theorem callable47 : callable Try.prog 47 = true := by kernel_rfl
theorem callable48 : callable Try.prog 48 = true := by kernel_rfl
theorem callable50 : callable Try.prog 50 = true := by kernel_rfl
theorem callable53 : callable Try.prog 53 = true := by kernel_rfl
theorem callable54 : callable Try.prog 54 = true := by kernel_rfl
theorem callable59 : callable Try.prog 59 = true := by kernel_rfl
theorem callable60 : callable Try.prog 60 = true := by kernel_rfl
theorem callable70 : callable Try.prog 70 = true := by kernel_rfl
theorem callable71 : callable Try.prog 71 = true := by kernel_rfl
theorem callable72 : callable Try.prog 72 = true := by kernel_rfl
theorem callable73 : callable Try.prog 73 = true := by kernel_rfl
theorem callable74 : callable Try.prog 74 = true := by kernel_rfl
theorem callable75 : callable Try.prog 75 = true := by kernel_rfl
theorem callable77 : callable Try.prog 77 = true := by kernel_rfl
theorem callable78 : callable Try.prog 78 = true := by kernel_rfl
theorem callable79 : callable Try.prog 79 = true := by kernel_rfl
theorem callable80 : callable Try.prog 80 = true := by kernel_rfl
theorem callable81 : callable Try.prog 81 = true := by kernel_rfl
theorem callable82 : callable Try.prog 82 = true := by kernel_rfl
theorem callable86 : callable Try.prog 86 = true := by kernel_rfl
theorem callable87 : callable Try.prog 87 = true := by kernel_rfl
theorem callable88 : callable Try.prog 88 = true := by kernel_rfl
theorem callable89 : callable Try.prog 89 = true := by kernel_rfl
theorem callable90 : callable Try.prog 90 = true := by kernel_rfl
theorem callable91 : callable Try.prog 91 = true := by kernel_rfl
theorem callable93 : callable Try.prog 93 = true := by kernel_rfl
end Go.Proofs.Ytkcgiolledmbnab
