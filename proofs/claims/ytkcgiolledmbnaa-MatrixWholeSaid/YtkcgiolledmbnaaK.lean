/- What data there are, and which functions may be called (printed by gen.py). -/
import Derived.Test.YtkcgiolledmbnaaE11
import Derived.Test.YtkcgiolledmbnaaProg
namespace Go.Proofs.Ytkcgiolledmbnaa
open Go Go.RowKit
set_option linter.unusedSimpArgs false
set_option linter.unusedVariables false
structure Tensor where
  Shape : (List Int)
  Data : (List Nat)
instance : Inhabited Tensor := ⟨⟨[], []⟩⟩
def kTensor : Kd Tensor := Kd.iso (Kd.pair (Kd.slice (Kd.int .i64)) (Kd.slice Kd.float)) (fun x => (x.Shape, x.Data))
theorem kTensor.open {S : Nat → Prop} {w : World} {us : List Value} {x : Tensor} (h : kTensor.rep S w us x) : ∃ A0 c0 A1 c1, us = [.slice A0 x.Shape.length c0, .slice A1 x.Data.length c1] ∧ (Cp A0 x.Shape.length c0 ∧ Sl (Kd.int .i64) S w A0 x.Shape) ∧ (Cp A1 x.Data.length c1 ∧ Sl Kd.float S w A1 x.Data) := by
  obtain ⟨_, _, rfl, ⟨A0, c0, rfl, h0⟩, ⟨A1, c1, rfl, h1⟩⟩ := h
  exact ⟨A0, c0, A1, c1, rfl, h0, h1⟩
theorem kTensor.mk {S : Nat → Prop} {w : World} (x : Tensor) {A0 : Option Addr} {c0 : Nat} (h0 : Cp A0 x.Shape.length c0 ∧ Sl (Kd.int .i64) S w A0 x.Shape) {A1 : Option Addr} {c1 : Nat} (h1 : Cp A1 x.Data.length c1 ∧ Sl Kd.float S w A1 x.Data) : kTensor.rep S w [.slice A0 x.Shape.length c0, .slice A1 x.Data.length c1] x := ⟨[.slice A0 x.Shape.length c0], [.slice A1 x.Data.length c1], rfl, ⟨A0, c0, rfl, h0⟩, ⟨A1, c1, rfl, h1⟩⟩
theorem kTensor.zero (S : Nat → Prop) (w : World) : kTensor.rep S w [.slice none 0 0, .slice none 0 0] default := kTensor.mk default ⟨⟨Nat.le_refl _, fun _ => rfl⟩, .inl rfl⟩ ⟨⟨Nat.le_refl _, fun _ => rfl⟩, .inl rfl⟩
theorem callable18 : callable Try.prog 18 = true := by kernel_rfl
theorem callable21 : callable Try.prog 21 = true := by kernel_rfl
theorem callable24 : callable Try.prog 24 = true := by kernel_rfl
theorem callable32 : callable Try.prog 32 = true := by kernel_rfl
theorem callable33 : callable Try.prog 33 = true := by kernel_rfl
theorem callable34 : callable Try.prog 34 = true := by kernel_rfl
theorem callable35 : callable Try.prog 35 = true := by kernel_rfl
theorem callable36 : callable Try.prog 36 = true := by kernel_rfl
theorem callable37 : callable Try.prog 37 = true := by kernel_rfl
theorem callable38 : callable Try.prog 38 = true := by kernel_rfl
theorem callable40 : callable Try.prog 40 = true := by kernel_rfl
theorem callable41 : callable Try.prog 41 = true := by kernel_rfl
theorem callable42 : callable Try.prog 42 = true := by kernel_rfl
theorem callable43 : callable Try.prog 43 = true := by kernel_rfl
theorem callable50 : callable Try.prog 50 = true := by kernel_rfl
theorem callable51 : callable Try.prog 51 = true := by kernel_rfl
theorem callable53 : callable Try.prog 53 = true := by kernel_rfl
theorem callable54 : callable Try.prog 54 = true := by kernel_rfl
theorem callable55 : callable Try.prog 55 = true := by kernel_rfl
theorem callable56 : callable Try.prog 56 = true := by kernel_rfl
theorem callable57 : callable Try.prog 57 = true := by kernel_rfl
theorem callable58 : callable Try.prog 58 = true := by kernel_rfl
theorem callable60 : callable Try.prog 60 = true := by kernel_rfl
theorem callable63 : callable Try.prog 63 = true := by kernel_rfl
theorem callable64 : callable Try.prog 64 = true := by kernel_rfl
theorem callable65 : callable Try.prog 65 = true := by kernel_rfl
theorem callable66 : callable Try.prog 66 = true := by kernel_rfl
theorem callable69 : callable Try.prog 69 = true := by kernel_rfl
theorem callable70 : callable Try.prog 70 = true := by kernel_rfl
theorem callable73 : callable Try.prog 73 = true := by kernel_rfl
end Go.Proofs.Ytkcgiolledmbnaa
