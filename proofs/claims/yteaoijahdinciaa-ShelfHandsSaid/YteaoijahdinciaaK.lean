/- What data there are, and which functions may be called (printed by gen.py). -/
import Derived.Test.YteaoijahdinciaaE13
import Derived.Test.YteaoijahdinciaaProg
namespace Go.Proofs.Yteaoijahdinciaa
open Go Go.RowKit
set_option linter.unusedSimpArgs false
set_option linter.unusedVariables false
def PtrP {α : Type} (o : Option α) (N : Prop) (S : α → Prop) : Prop := match o with | none => N | some y => S y
theorem PtrP_no {α : Type} {N : Prop} {S : α → Prop} (h : N) : PtrP none N S := h
theorem PtrP_so {α : Type} {y : α} {N : Prop} {S : α → Prop} (h : S y) : PtrP (some y) N S := h
structure Tensor where
  Shape : (List Int)
  Data : (List Nat)
instance : Inhabited Tensor := ⟨⟨[], []⟩⟩
def kTensor : Kd Tensor := Kd.iso (Kd.pair (Kd.slice (Kd.int .i64)) (Kd.slice Kd.float)) (fun x => (x.Shape, x.Data))
theorem kTensor.open {S : Nat → Prop} {w : World} {us : List Value} {x : Tensor} (h : kTensor.rep S w us x) : ∃ A0 c0 A1 c1, us = [.slice A0 x.Shape.length c0, .slice A1 x.Data.length c1] ∧ (Cp A0 x.Shape.length c0 ∧ Sl (Kd.int .i64) S w A0 x.Shape) ∧ (Cp A1 x.Data.length c1 ∧ Sl Kd.float S w A1 x.Data) := by
  obtain ⟨_, _, rfl, ⟨A0, c0, rfl, h0⟩, ⟨A1, c1, rfl, h1⟩⟩ := h
  exact ⟨A0, c0, A1, c1, rfl, h0, h1⟩
theorem kTensor.mk {S : Nat → Prop} {w : World} (x : Tensor) {A0 : Option Addr} {c0 : Nat} (h0 : Cp A0 x.Shape.length c0 ∧ Sl (Kd.int .i64) S w A0 x.Shape) {A1 : Option Addr} {c1 : Nat} (h1 : Cp A1 x.Data.length c1 ∧ Sl Kd.float S w A1 x.Data) : kTensor.rep S w [.slice A0 x.Shape.length c0, .slice A1 x.Data.length c1] x := ⟨[.slice A0 x.Shape.length c0], [.slice A1 x.Data.length c1], rfl, ⟨A0, c0, rfl, h0⟩, ⟨A1, c1, rfl, h1⟩⟩
theorem kTensor.zero (S : Nat → Prop) (w : World) : kTensor.rep S w [.slice none 0 0, .slice none 0 0] default := kTensor.mk default ⟨⟨Nat.le_refl _, fun _ => rfl⟩, .inl rfl⟩ ⟨⟨Nat.le_refl _, fun _ => rfl⟩, .inl rfl⟩
structure Shelf where
  l : (List Tensor)
  vers : (List Int)
  grads : (List Tensor)
instance : Inhabited Shelf := ⟨⟨[], [], []⟩⟩
def kShelf : Kd Shelf := Kd.iso (Kd.pair (Kd.slice kTensor) (Kd.pair (Kd.slice (Kd.int .i64)) (Kd.slice kTensor))) (fun x => (x.l, (x.vers, x.grads)))
theorem kShelf.open {S : Nat → Prop} {w : World} {us : List Value} {x : Shelf} (h : kShelf.rep S w us x) : ∃ A0 c0 A1 c1 A2 c2, us = [.slice A0 x.l.length c0, .slice A1 x.vers.length c1, .slice A2 x.grads.length c2] ∧ (Cp A0 x.l.length c0 ∧ Sl kTensor S w A0 x.l) ∧ (Cp A1 x.vers.length c1 ∧ Sl (Kd.int .i64) S w A1 x.vers) ∧ (Cp A2 x.grads.length c2 ∧ Sl kTensor S w A2 x.grads) := by
  obtain ⟨_, _, rfl, ⟨A0, c0, rfl, h0⟩, ⟨_, _, rfl, ⟨A1, c1, rfl, h1⟩, ⟨A2, c2, rfl, h2⟩⟩⟩ := h
  exact ⟨A0, c0, A1, c1, A2, c2, rfl, h0, h1, h2⟩
theorem kShelf.mk {S : Nat → Prop} {w : World} (x : Shelf) {A0 : Option Addr} {c0 : Nat} (h0 : Cp A0 x.l.length c0 ∧ Sl kTensor S w A0 x.l) {A1 : Option Addr} {c1 : Nat} (h1 : Cp A1 x.vers.length c1 ∧ Sl (Kd.int .i64) S w A1 x.vers) {A2 : Option Addr} {c2 : Nat} (h2 : Cp A2 x.grads.length c2 ∧ Sl kTensor S w A2 x.grads) : kShelf.rep S w [.slice A0 x.l.length c0, .slice A1 x.vers.length c1, .slice A2 x.grads.length c2] x := ⟨[.slice A0 x.l.length c0], [.slice A1 x.vers.length c1, .slice A2 x.grads.length c2], rfl, ⟨A0, c0, rfl, h0⟩, ⟨[.slice A1 x.vers.length c1], [.slice A2 x.grads.length c2], rfl, ⟨A1, c1, rfl, h1⟩, ⟨A2, c2, rfl, h2⟩⟩⟩
theorem kShelf.zero (S : Nat → Prop) (w : World) : kShelf.rep S w [.slice none 0 0, .slice none 0 0, .slice none 0 0] default := kShelf.mk default ⟨⟨Nat.le_refl _, fun _ => rfl⟩, .inl rfl⟩ ⟨⟨Nat.le_refl _, fun _ => rfl⟩, .inl rfl⟩ ⟨⟨Nat.le_refl _, fun _ => rfl⟩, .inl rfl⟩
structure Shelf65 where
  T : (List Tensor)
  G : (List Tensor)
  V : (List Int)
instance : Inhabited Shelf65 := ⟨⟨[], [], []⟩⟩
def kShelf65 : Kd Shelf65 := Kd.iso (Kd.pair (Kd.slice kTensor) (Kd.pair (Kd.slice kTensor) (Kd.slice (Kd.int .i64)))) (fun x => (x.T, (x.G, x.V)))
theorem kShelf65.open {S : Nat → Prop} {w : World} {us : List Value} {x : Shelf65} (h : kShelf65.rep S w us x) : ∃ A0 c0 A1 c1 A2 c2, us = [.slice A0 x.T.length c0, .slice A1 x.G.length c1, .slice A2 x.V.length c2] ∧ (Cp A0 x.T.length c0 ∧ Sl kTensor S w A0 x.T) ∧ (Cp A1 x.G.length c1 ∧ Sl kTensor S w A1 x.G) ∧ (Cp A2 x.V.length c2 ∧ Sl (Kd.int .i64) S w A2 x.V) := by
  obtain ⟨_, _, rfl, ⟨A0, c0, rfl, h0⟩, ⟨_, _, rfl, ⟨A1, c1, rfl, h1⟩, ⟨A2, c2, rfl, h2⟩⟩⟩ := h
  exact ⟨A0, c0, A1, c1, A2, c2, rfl, h0, h1, h2⟩
theorem kShelf65.mk {S : Nat → Prop} {w : World} (x : Shelf65) {A0 : Option Addr} {c0 : Nat} (h0 : Cp A0 x.T.length c0 ∧ Sl kTensor S w A0 x.T) {A1 : Option Addr} {c1 : Nat} (h1 : Cp A1 x.G.length c1 ∧ Sl kTensor S w A1 x.G) {A2 : Option Addr} {c2 : Nat} (h2 : Cp A2 x.V.length c2 ∧ Sl (Kd.int .i64) S w A2 x.V) : kShelf65.rep S w [.slice A0 x.T.length c0, .slice A1 x.G.length c1, .slice A2 x.V.length c2] x := ⟨[.slice A0 x.T.length c0], [.slice A1 x.G.length c1, .slice A2 x.V.length c2], rfl, ⟨A0, c0, rfl, h0⟩, ⟨[.slice A1 x.G.length c1], [.slice A2 x.V.length c2], rfl, ⟨A1, c1, rfl, h1⟩, ⟨A2, c2, rfl, h2⟩⟩⟩
theorem kShelf65.zero (S : Nat → Prop) (w : World) : kShelf65.rep S w [.slice none 0 0, .slice none 0 0, .slice none 0 0] default := kShelf65.mk default ⟨⟨Nat.le_refl _, fun _ => rfl⟩, .inl rfl⟩ ⟨⟨Nat.le_refl _, fun _ => rfl⟩, .inl rfl⟩ ⟨⟨Nat.le_refl _, fun _ => rfl⟩, .inl rfl⟩
theorem callable9 : callable Try.prog 9 = true := by kernel_rfl
theorem callable10 : callable Try.prog 10 = true := by kernel_rfl
theorem callable11 : callable Try.prog 11 = true := by kernel_rfl
theorem callable13 : callable Try.prog 13 = true := by kernel_rfl
theorem callable14 : callable Try.prog 14 = true := by kernel_rfl
theorem callable15 : callable Try.prog 15 = true := by kernel_rfl
theorem callable16 : callable Try.prog 16 = true := by kernel_rfl
theorem callable17 : callable Try.prog 17 = true := by kernel_rfl
theorem callable18 : callable Try.prog 18 = true := by kernel_rfl
theorem callable20 : callable Try.prog 20 = true := by kernel_rfl
theorem callable21 : callable Try.prog 21 = true := by kernel_rfl
theorem callable22 : callable Try.prog 22 = true := by kernel_rfl
theorem callable24 : callable Try.prog 24 = true := by kernel_rfl
theorem callable29 : callable Try.prog 29 = true := by kernel_rfl
theorem callable30 : callable Try.prog 30 = true := by kernel_rfl
theorem callable31 : callable Try.prog 31 = true := by kernel_rfl
theorem callable32 : callable Try.prog 32 = true := by kernel_rfl
theorem callable33 : callable Try.prog 33 = true := by kernel_rfl
theorem callable34 : callable Try.prog 34 = true := by kernel_rfl
theorem callable35 : callable Try.prog 35 = true := by kernel_rfl
theorem callable36 : callable Try.prog 36 = true := by kernel_rfl
theorem callable37 : callable Try.prog 37 = true := by kernel_rfl
theorem callable38 : callable Try.prog 38 = true := by kernel_rfl
theorem callable39 : callable Try.prog 39 = true := by kernel_rfl
theorem callable40 : callable Try.prog 40 = true := by kernel_rfl
theorem callable41 : callable Try.prog 41 = true := by kernel_rfl
theorem callable44 : callable Try.prog 44 = true := by kernel_rfl
theorem callable45 : callable Try.prog 45 = true := by kernel_rfl
theorem callable46 : callable Try.prog 46 = true := by kernel_rfl
theorem callable47 : callable Try.prog 47 = true := by kernel_rfl
theorem callable48 : callable Try.prog 48 = true := by kernel_rfl
theorem callable49 : callable Try.prog 49 = true := by kernel_rfl
theorem callable50 : callable Try.prog 50 = true := by kernel_rfl
theorem callable51 : callable Try.prog 51 = true := by kernel_rfl
theorem callable52 : callable Try.prog 52 = true := by kernel_rfl
theorem callable53 : callable Try.prog 53 = true := by kernel_rfl
theorem callable58 : callable Try.prog 58 = true := by kernel_rfl
theorem callable59 : callable Try.prog 59 = true := by kernel_rfl
theorem callable60 : callable Try.prog 60 = true := by kernel_rfl
theorem callable61 : callable Try.prog 61 = true := by kernel_rfl
theorem callable62 : callable Try.prog 62 = true := by kernel_rfl
theorem callable63 : callable Try.prog 63 = true := by kernel_rfl
theorem callable64 : callable Try.prog 64 = true := by kernel_rfl
theorem callable65 : callable Try.prog 65 = true := by kernel_rfl
theorem callable66 : callable Try.prog 66 = true := by kernel_rfl
theorem callable67 : callable Try.prog 67 = true := by kernel_rfl
theorem callable71 : callable Try.prog 71 = true := by kernel_rfl
theorem callable72 : callable Try.prog 72 = true := by kernel_rfl
theorem callable74 : callable Try.prog 74 = true := by kernel_rfl
end Go.Proofs.Yteaoijahdinciaa
