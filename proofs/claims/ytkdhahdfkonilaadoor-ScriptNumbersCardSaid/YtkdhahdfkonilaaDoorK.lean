/- What data there are, and which functions may be called (printed by gen.py). -/
import Derived.Test.YtkdhahdfkonilaaDoorE16
import Derived.Test.YtkdhahdfkonilaaDoorProg
namespace Go.Proofs.YtkdhahdfkonilaaDoor
open Go Go.RowKit
set_option linter.unusedSimpArgs false
set_option linter.unusedVariables false
def PtrP {α : Type} (o : Option α) (N : Prop) (S : α → Prop) : Prop := match o with | none => N | some y => S y
theorem PtrP_no {α : Type} {N : Prop} {S : α → Prop} (h : N) : PtrP none N S := h
theorem PtrP_so {α : Type} {y : α} {N : Prop} {S : α → Prop} (h : S y) : PtrP (some y) N S := h
structure Tensor where
  Shape : (List Int)
  Data : (List Nat)
instance : Inhabited Tensor := ⟨⟨[], []⟩⟩
def kTensor : Kd Tensor := Kd.iso (Kd.pair (Kd.slice (Kd.int .i64)) (Kd.slice Kd.float)) (fun x => (x.Shape, x.Data))
theorem kTensor.open {S : Nat → Prop} {w : World} {us : List Value} {x : Tensor} (h : kTensor.rep S w us x) : ∃ A0 c0 A1 c1, us = [.slice A0 x.Shape.length c0, .slice A1 x.Data.length c1] ∧ (Cp A0 x.Shape.length c0 ∧ Sl (Kd.int .i64) S w A0 x.Shape) ∧ (Cp A1 x.Data.length c1 ∧ Sl Kd.float S w A1 x.Data) := by
  obtain ⟨_, _, rfl, ⟨A0, c0, rfl, h0⟩, ⟨A1, c1, rfl, h1⟩⟩ := h
  exact ⟨A0, c0, A1, c1, rfl, h0, h1⟩
theorem kTensor.mk {S : Nat → Prop} {w : World} (x : Tensor) {A0 : Option Addr} {c0 : Nat} (h0 : Cp A0 x.Shape.length c0 ∧ Sl (Kd.int .i64) S w A0 x.Shape) {A1 : Option Addr} {c1 : Nat} (h1 : Cp A1 x.Data.length c1 ∧ Sl Kd.float S w A1 x.Data) : kTensor.rep S w [.slice A0 x.Shape.length c0, .slice A1 x.Data.length c1] x := ⟨[.slice A0 x.Shape.length c0], [.slice A1 x.Data.length c1], rfl, ⟨A0, c0, rfl, h0⟩, ⟨A1, c1, rfl, h1⟩⟩
theorem kTensor.zero (S : Nat → Prop) (w : World) : kTensor.rep S w [.slice none 0 0, .slice none 0 0] default := kTensor.mk default ⟨⟨Nat.le_refl _, fun _ => rfl⟩, .inl rfl⟩ ⟨⟨Nat.le_refl _, fun _ => rfl⟩, .inl rfl⟩
structure Hook where
  Do : Int
  X : Nat
instance : Inhabited Hook := ⟨⟨0, 0⟩⟩
def kHook : Kd Hook := Kd.iso (Kd.pair (Kd.int .i64) Kd.float) (fun x => (x.Do, x.X))
theorem kHook.open {S : Nat → Prop} {w : World} {us : List Value} {x : Hook} (h : kHook.rep S w us x) : ∃ b0, us = [.int .i64 x.Do, .float .f64 b0] ∧ (FR b0 x.X) := by
  obtain ⟨_, _, rfl, rfl, ⟨b0, rfl, h0⟩⟩ := h
  exact ⟨b0, rfl, h0⟩
theorem kHook.mk {S : Nat → Prop} {w : World} (x : Hook) {b0 : Nat} (h0 : FR b0 x.X) : kHook.rep S w [.int .i64 x.Do, .float .f64 b0] x := ⟨[.int .i64 x.Do], [.float .f64 b0], rfl, rfl, ⟨b0, rfl, h0⟩⟩
theorem kHook.zero (S : Nat → Prop) (w : World) : kHook.rep S w [.int .i64 0, .float .f64 0] default := kHook.mk default (FR.lit (by kernel_rfl) (by kernel_rfl))
structure Node where
  Op : Int
  In : (List Int)
  To : (List Int)
  No : Int
  Val : Tensor
  Hooks : (List Hook)
instance : Inhabited Node := ⟨⟨0, [], [], 0, (default : Tensor), []⟩⟩
def kNode : Kd Node := Kd.iso (Kd.pair (Kd.int .i64) (Kd.pair (Kd.slice (Kd.int .i64)) (Kd.pair (Kd.slice (Kd.int .i64)) (Kd.pair (Kd.int .i64) (Kd.pair kTensor (Kd.slice kHook)))))) (fun x => (x.Op, (x.In, (x.To, (x.No, (x.Val, x.Hooks))))))
theorem kNode.open {S : Nat → Prop} {w : World} {us : List Value} {x : Node} (h : kNode.rep S w us x) : ∃ A0 c0 A1 c1 A2 c2 A3 c3 A4 c4, us = [.int .i64 x.Op, .slice A0 x.In.length c0, .slice A1 x.To.length c1, .int .i64 x.No, .slice A2 x.Val.Shape.length c2, .slice A3 x.Val.Data.length c3, .slice A4 x.Hooks.length c4] ∧ (Cp A0 x.In.length c0 ∧ Sl (Kd.int .i64) S w A0 x.In) ∧ (Cp A1 x.To.length c1 ∧ Sl (Kd.int .i64) S w A1 x.To) ∧ (Cp A2 x.Val.Shape.length c2 ∧ Sl (Kd.int .i64) S w A2 x.Val.Shape) ∧ (Cp A3 x.Val.Data.length c3 ∧ Sl Kd.float S w A3 x.Val.Data) ∧ (Cp A4 x.Hooks.length c4 ∧ Sl kHook S w A4 x.Hooks) := by
  obtain ⟨_, _, rfl, rfl, ⟨_, _, rfl, ⟨A0, c0, rfl, h0⟩, ⟨_, _, rfl, ⟨A1, c1, rfl, h1⟩, ⟨_, _, rfl, rfl, ⟨_, _, rfl, ⟨_, _, rfl, ⟨A2, c2, rfl, h2⟩, ⟨A3, c3, rfl, h3⟩⟩, ⟨A4, c4, rfl, h4⟩⟩⟩⟩⟩⟩ := h
  exact ⟨A0, c0, A1, c1, A2, c2, A3, c3, A4, c4, rfl, h0, h1, h2, h3, h4⟩
theorem kNode.mk {S : Nat → Prop} {w : World} (x : Node) {A0 : Option Addr} {c0 : Nat} (h0 : Cp A0 x.In.length c0 ∧ Sl (Kd.int .i64) S w A0 x.In) {A1 : Option Addr} {c1 : Nat} (h1 : Cp A1 x.To.length c1 ∧ Sl (Kd.int .i64) S w A1 x.To) {A2 : Option Addr} {c2 : Nat} (h2 : Cp A2 x.Val.Shape.length c2 ∧ Sl (Kd.int .i64) S w A2 x.Val.Shape) {A3 : Option Addr} {c3 : Nat} (h3 : Cp A3 x.Val.Data.length c3 ∧ Sl Kd.float S w A3 x.Val.Data) {A4 : Option Addr} {c4 : Nat} (h4 : Cp A4 x.Hooks.length c4 ∧ Sl kHook S w A4 x.Hooks) : kNode.rep S w [.int .i64 x.Op, .slice A0 x.In.length c0, .slice A1 x.To.length c1, .int .i64 x.No, .slice A2 x.Val.Shape.length c2, .slice A3 x.Val.Data.length c3, .slice A4 x.Hooks.length c4] x := ⟨[.int .i64 x.Op], [.slice A0 x.In.length c0, .slice A1 x.To.length c1, .int .i64 x.No, .slice A2 x.Val.Shape.length c2, .slice A3 x.Val.Data.length c3, .slice A4 x.Hooks.length c4], rfl, rfl, ⟨[.slice A0 x.In.length c0], [.slice A1 x.To.length c1, .int .i64 x.No, .slice A2 x.Val.Shape.length c2, .slice A3 x.Val.Data.length c3, .slice A4 x.Hooks.length c4], rfl, ⟨A0, c0, rfl, h0⟩, ⟨[.slice A1 x.To.length c1], [.int .i64 x.No, .slice A2 x.Val.Shape.length c2, .slice A3 x.Val.Data.length c3, .slice A4 x.Hooks.length c4], rfl, ⟨A1, c1, rfl, h1⟩, ⟨[.int .i64 x.No], [.slice A2 x.Val.Shape.length c2, .slice A3 x.Val.Data.length c3, .slice A4 x.Hooks.length c4], rfl, rfl, ⟨[.slice A2 x.Val.Shape.length c2, .slice A3 x.Val.Data.length c3], [.slice A4 x.Hooks.length c4], rfl, ⟨[.slice A2 x.Val.Shape.length c2], [.slice A3 x.Val.Data.length c3], rfl, ⟨A2, c2, rfl, h2⟩, ⟨A3, c3, rfl, h3⟩⟩, ⟨A4, c4, rfl, h4⟩⟩⟩⟩⟩⟩
theorem kNode.zero (S : Nat → Prop) (w : World) : kNode.rep S w [.int .i64 0, .slice none 0 0, .slice none 0 0, .int .i64 0, .slice none 0 0, .slice none 0 0, .slice none 0 0] default := kNode.mk default ⟨⟨Nat.le_refl _, fun _ => rfl⟩, .inl rfl⟩ ⟨⟨Nat.le_refl _, fun _ => rfl⟩, .inl rfl⟩ ⟨⟨Nat.le_refl _, fun _ => rfl⟩, .inl rfl⟩ ⟨⟨Nat.le_refl _, fun _ => rfl⟩, .inl rfl⟩ ⟨⟨Nat.le_refl _, fun _ => rfl⟩, .inl rfl⟩
structure Graph where
  L : (List Node)
instance : Inhabited Graph := ⟨⟨[]⟩⟩
def kGraph : Kd Graph := Kd.iso (Kd.slice kNode) (fun x => x.L)
theorem kGraph.open {S : Nat → Prop} {w : World} {us : List Value} {x : Graph} (h : kGraph.rep S w us x) : ∃ A0 c0, us = [.slice A0 x.L.length c0] ∧ (Cp A0 x.L.length c0 ∧ Sl kNode S w A0 x.L) := by
  obtain ⟨A0, c0, rfl, h0⟩ := h
  exact ⟨A0, c0, rfl, h0⟩
theorem kGraph.mk {S : Nat → Prop} {w : World} (x : Graph) {A0 : Option Addr} {c0 : Nat} (h0 : Cp A0 x.L.length c0 ∧ Sl kNode S w A0 x.L) : kGraph.rep S w [.slice A0 x.L.length c0] x := ⟨A0, c0, rfl, h0⟩
theorem kGraph.zero (S : Nat → Prop) (w : World) : kGraph.rep S w [.slice none 0 0] default := kGraph.mk default ⟨⟨Nat.le_refl _, fun _ => rfl⟩, .inl rfl⟩
structure Writer where
  b : (List (List UInt8))
  bad : Bool
instance : Inhabited Writer := ⟨⟨[], false⟩⟩
def kWriter : Kd Writer := Kd.iso (Kd.pair (Kd.slice Kd.str) Kd.bool) (fun x => (x.b, x.bad))
theorem kWriter.open {S : Nat → Prop} {w : World} {us : List Value} {x : Writer} (h : kWriter.rep S w us x) : ∃ A0 c0, us = [.slice A0 x.b.length c0, .bool x.bad] ∧ (Cp A0 x.b.length c0 ∧ Sl Kd.str S w A0 x.b) := by
  obtain ⟨_, _, rfl, ⟨A0, c0, rfl, h0⟩, rfl⟩ := h
  exact ⟨A0, c0, rfl, h0⟩
theorem kWriter.mk {S : Nat → Prop} {w : World} (x : Writer) {A0 : Option Addr} {c0 : Nat} (h0 : Cp A0 x.b.length c0 ∧ Sl Kd.str S w A0 x.b) : kWriter.rep S w [.slice A0 x.b.length c0, .bool x.bad] x := ⟨[.slice A0 x.b.length c0], [.bool x.bad], rfl, ⟨A0, c0, rfl, h0⟩, rfl⟩
theorem kWriter.zero (S : Nat → Prop) (w : World) : kWriter.rep S w [.slice none 0 0, .bool false] default := kWriter.mk default ⟨⟨Nat.le_refl _, fun _ => rfl⟩, .inl rfl⟩
theorem callable9 : callable Tryd.prog 9 = true := by kernel_rfl
theorem callable10 : callable Tryd.prog 10 = true := by kernel_rfl
theorem callable11 : callable Tryd.prog 11 = true := by kernel_rfl
theorem callable12 : callable Tryd.prog 12 = true := by kernel_rfl
theorem callable13 : callable Tryd.prog 13 = true := by kernel_rfl
theorem callable14 : callable Tryd.prog 14 = true := by kernel_rfl
theorem callable15 : callable Tryd.prog 15 = true := by kernel_rfl
theorem callable16 : callable Tryd.prog 16 = true := by kernel_rfl
theorem callable18 : callable Tryd.prog 18 = true := by kernel_rfl
theorem callable19 : callable Tryd.prog 19 = true := by kernel_rfl
theorem callable20 : callable Tryd.prog 20 = true := by kernel_rfl
theorem callable21 : callable Tryd.prog 21 = true := by kernel_rfl
theorem callable22 : callable Tryd.prog 22 = true := by kernel_rfl
theorem callable23 : callable Tryd.prog 23 = true := by kernel_rfl
theorem callable24 : callable Tryd.prog 24 = true := by kernel_rfl
theorem callable25 : callable Tryd.prog 25 = true := by kernel_rfl
theorem callable26 : callable Tryd.prog 26 = true := by kernel_rfl
theorem callable27 : callable Tryd.prog 27 = true := by kernel_rfl
theorem callable28 : callable Tryd.prog 28 = true := by kernel_rfl
theorem callable29 : callable Tryd.prog 29 = true := by kernel_rfl
theorem callable30 : callable Tryd.prog 30 = true := by kernel_rfl
theorem callable31 : callable Tryd.prog 31 = true := by kernel_rfl
theorem callable32 : callable Tryd.prog 32 = true := by kernel_rfl
theorem callable33 : callable Tryd.prog 33 = true := by kernel_rfl
theorem callable34 : callable Tryd.prog 34 = true := by kernel_rfl
theorem callable35 : callable Tryd.prog 35 = true := by kernel_rfl
theorem callable36 : callable Tryd.prog 36 = true := by kernel_rfl
theorem callable37 : callable Tryd.prog 37 = true := by kernel_rfl
theorem callable38 : callable Tryd.prog 38 = true := by kernel_rfl
theorem callable42 : callable Tryd.prog 42 = true := by kernel_rfl
theorem callable43 : callable Tryd.prog 43 = true := by kernel_rfl
theorem callable44 : callable Tryd.prog 44 = true := by kernel_rfl
theorem callable47 : callable Tryd.prog 47 = true := by kernel_rfl
theorem callable48 : callable Tryd.prog 48 = true := by kernel_rfl
theorem callable53 : callable Tryd.prog 53 = true := by kernel_rfl
theorem callable54 : callable Tryd.prog 54 = true := by kernel_rfl
theorem callable66 : callable Tryd.prog 66 = true := by kernel_rfl
end Go.Proofs.YtkdhahdfkonilaaDoor
