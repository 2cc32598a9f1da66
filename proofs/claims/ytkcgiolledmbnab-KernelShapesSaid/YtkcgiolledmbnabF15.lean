/- Printed by gen.py. -/
import Derived.Test.YtkcgiolledmbnabK
namespace Go.Proofs.Ytkcgiolledmbnab
open Go Go.RowKit
set_option linter.unusedSimpArgs false
set_option linter.unusedVariables false
set_option linter.unnecessarySimpa false
/-! ### backstitch/kernel.two$1 -/
noncomputable def kernel_two_1.f (x0 : Nat) (x1 : Nat) : Option Nat :=
  some (fadd x0 x1)
set_option maxRecDepth 100000 in
set_option maxHeartbeats 4000000 in
theorem kernel_two_1.calls (M : List (Option Nat)) (w0 : World) (x0 : Nat) (b0 : Nat) (h0 : FR b0 x0) (x1 : Nat) (b1 : Nat) (h1 : FR b1 x1) (hm0 : Mem [] M w0 [] w0) (r : Nat) (H0 : kernel_two_1.f x0 x1 = some r) :
    Calls Try.prog 86 [.float .f64 b0, .float .f64 b1].toArray w0 (fun x w' => ∃ v, x = .returned v ∧ ∃ br0, v = .float .f64 br0 ∧ FR br0 r ∧ Mem [] M w0 [] w') := by
  unfold kernel_two_1.f at H0
  refine enter (n := 8) Try.func86 rfl rfl (by kernel_rfl) fun a0 (hf0 : Fr 8 a0 [(0, .float .f64 b0), (1, .float .f64 b1)]) => ?_
  refine wp_seq ?_
  refine reg [] [0, 1] [(0, .float .f64 b0), (1, .float .f64 b1)] [] hf0 (by kernel_rfl) trivial fun a21 hf22 => ?_
  refine thenN ?_
  refine wp_seq ?_
  refine inReg ?_
  refine go 2 [] [5, 6] [(5, .float .f64 b0), (6, .float .f64 b1)] [] hf22 (by kernel_rfl) trivial fun a23 hf24 => ?_
  refine listOf hf24 rfl (by kernel_rfl) (aArith (k := 0) (b := b0) (c := b1) (x := x0) (y := x1) (d := 7) hf24 (by kernel_rfl) (by kernel_rfl) h0 h1 ?_)
  intro b25 w26 a27 hb25 hg29 hf28
  replace hb25 : FR b25 (fadd x0 x1) := hb25
  have hm30 := hm0.still hg29
  refine go 1 [] [4] [(4, .float .f64 b25)] [] hf28 (by kernel_rfl) trivial fun a31 hf32 => ?_
  refine endL rfl ?_
  refine thenN ?_
  refine wp_ret ?_
  have hm33 : Mem [] M w0 [] w26 := hm30.sel [] _ rfl (by kernel_rfl)
  obtain rfl := Option.some.inj H0
  refine ret [] [.float .f64 b25] [] hf32 (by kernel_rfl) trivial ?_
  exact ⟨_, rfl, b25, rfl, hb25, hm33⟩

/-! ### backstitch/kernel.two$2 -/
noncomputable def kernel_two_2.f (x0 : Nat) (x1 : Nat) : Option Nat :=
  some (fsub x0 x1)
set_option maxRecDepth 100000 in
set_option maxHeartbeats 4000000 in
theorem kernel_two_2.calls (M : List (Option Nat)) (w0 : World) (x0 : Nat) (b0 : Nat) (h0 : FR b0 x0) (x1 : Nat) (b1 : Nat) (h1 : FR b1 x1) (hm0 : Mem [] M w0 [] w0) (r : Nat) (H0 : kernel_two_2.f x0 x1 = some r) :
    Calls Try.prog 87 [.float .f64 b0, .float .f64 b1].toArray w0 (fun x w' => ∃ v, x = .returned v ∧ ∃ br0, v = .float .f64 br0 ∧ FR br0 r ∧ Mem [] M w0 [] w') := by
  unfold kernel_two_2.f at H0
  refine enter (n := 8) Try.func87 rfl rfl (by kernel_rfl) fun a0 (hf0 : Fr 8 a0 [(0, .float .f64 b0), (1, .float .f64 b1)]) => ?_
  refine wp_seq ?_
  refine reg [] [0, 1] [(0, .float .f64 b0), (1, .float .f64 b1)] [] hf0 (by kernel_rfl) trivial fun a21 hf22 => ?_
  refine thenN ?_
  refine wp_seq ?_
  refine inReg ?_
  refine go 2 [] [5, 6] [(5, .float .f64 b0), (6, .float .f64 b1)] [] hf22 (by kernel_rfl) trivial fun a23 hf24 => ?_
  refine listOf hf24 rfl (by kernel_rfl) (aArith (k := 1) (b := b0) (c := b1) (x := x0) (y := x1) (d := 7) hf24 (by kernel_rfl) (by kernel_rfl) h0 h1 ?_)
  intro b25 w26 a27 hb25 hg29 hf28
  replace hb25 : FR b25 (fsub x0 x1) := hb25
  have hm30 := hm0.still hg29
  refine go 1 [] [4] [(4, .float .f64 b25)] [] hf28 (by kernel_rfl) trivial fun a31 hf32 => ?_
  refine endL rfl ?_
  refine thenN ?_
  refine wp_ret ?_
  have hm33 : Mem [] M w0 [] w26 := hm30.sel [] _ rfl (by kernel_rfl)
  obtain rfl := Option.some.inj H0
  refine ret [] [.float .f64 b25] [] hf32 (by kernel_rfl) trivial ?_
  exact ⟨_, rfl, b25, rfl, hb25, hm33⟩

/-! ### backstitch/kernel.two$3 -/
noncomputable def kernel_two_3.f (x0 : Nat) (x1 : Nat) : Option Nat :=
  some (fmul x0 x1)
set_option maxRecDepth 100000 in
set_option maxHeartbeats 4000000 in
theorem kernel_two_3.calls (M : List (Option Nat)) (w0 : World) (x0 : Nat) (b0 : Nat) (h0 : FR b0 x0) (x1 : Nat) (b1 : Nat) (h1 : FR b1 x1) (hm0 : Mem [] M w0 [] w0) (r : Nat) (H0 : kernel_two_3.f x0 x1 = some r) :
    Calls Try.prog 88 [.float .f64 b0, .float .f64 b1].toArray w0 (fun x w' => ∃ v, x = .returned v ∧ ∃ br0, v = .float .f64 br0 ∧ FR br0 r ∧ Mem [] M w0 [] w') := by
  unfold kernel_two_3.f at H0
  refine enter (n := 8) Try.func88 rfl rfl (by kernel_rfl) fun a0 (hf0 : Fr 8 a0 [(0, .float .f64 b0), (1, .float .f64 b1)]) => ?_
  refine wp_seq ?_
  refine reg [] [0, 1] [(0, .float .f64 b0), (1, .float .f64 b1)] [] hf0 (by kernel_rfl) trivial fun a21 hf22 => ?_
  refine thenN ?_
  refine wp_seq ?_
  refine inReg ?_
  refine go 2 [] [5, 6] [(5, .float .f64 b0), (6, .float .f64 b1)] [] hf22 (by kernel_rfl) trivial fun a23 hf24 => ?_
  refine listOf hf24 rfl (by kernel_rfl) (aArith (k := 2) (b := b0) (c := b1) (x := x0) (y := x1) (d := 7) hf24 (by kernel_rfl) (by kernel_rfl) h0 h1 ?_)
  intro b25 w26 a27 hb25 hg29 hf28
  replace hb25 : FR b25 (fmul x0 x1) := hb25
  have hm30 := hm0.still hg29
  refine go 1 [] [4] [(4, .float .f64 b25)] [] hf28 (by kernel_rfl) trivial fun a31 hf32 => ?_
  refine endL rfl ?_
  refine thenN ?_
  refine wp_ret ?_
  have hm33 : Mem [] M w0 [] w26 := hm30.sel [] _ rfl (by kernel_rfl)
  obtain rfl := Option.some.inj H0
  refine ret [] [.float .f64 b25] [] hf32 (by kernel_rfl) trivial ?_
  exact ⟨_, rfl, b25, rfl, hb25, hm33⟩

/-! ### backstitch/kernel.two$4 -/
noncomputable def kernel_two_4.f (x0 : Nat) (x1 : Nat) : Option Nat :=
  some (fdiv x0 x1)
set_option maxRecDepth 100000 in
set_option maxHeartbeats 4000000 in
theorem kernel_two_4.calls (M : List (Option Nat)) (w0 : World) (x0 : Nat) (b0 : Nat) (h0 : FR b0 x0) (x1 : Nat) (b1 : Nat) (h1 : FR b1 x1) (hm0 : Mem [] M w0 [] w0) (r : Nat) (H0 : kernel_two_4.f x0 x1 = some r) :
    Calls Try.prog 89 [.float .f64 b0, .float .f64 b1].toArray w0 (fun x w' => ∃ v, x = .returned v ∧ ∃ br0, v = .float .f64 br0 ∧ FR br0 r ∧ Mem [] M w0 [] w') := by
  unfold kernel_two_4.f at H0
  refine enter (n := 8) Try.func89 rfl rfl (by kernel_rfl) fun a0 (hf0 : Fr 8 a0 [(0, .float .f64 b0), (1, .float .f64 b1)]) => ?_
  refine wp_seq ?_
  refine reg [] [0, 1] [(0, .float .f64 b0), (1, .float .f64 b1)] [] hf0 (by kernel_rfl) trivial fun a21 hf22 => ?_
  refine thenN ?_
  refine wp_seq ?_
  refine inReg ?_
  refine go 2 [] [5, 6] [(5, .float .f64 b0), (6, .float .f64 b1)] [] hf22 (by kernel_rfl) trivial fun a23 hf24 => ?_
  refine listOf hf24 rfl (by kernel_rfl) (aArith (k := 3) (b := b0) (c := b1) (x := x0) (y := x1) (d := 7) hf24 (by kernel_rfl) (by kernel_rfl) h0 h1 ?_)
  intro b25 w26 a27 hb25 hg29 hf28
  replace hb25 : FR b25 (fdiv x0 x1) := hb25
  have hm30 := hm0.still hg29
  refine go 1 [] [4] [(4, .float .f64 b25)] [] hf28 (by kernel_rfl) trivial fun a31 hf32 => ?_
  refine endL rfl ?_
  refine thenN ?_
  refine wp_ret ?_
  have hm33 : Mem [] M w0 [] w26 := hm30.sel [] _ rfl (by kernel_rfl)
  obtain rfl := Option.some.inj H0
  refine ret [] [.float .f64 b25] [] hf32 (by kernel_rfl) trivial ?_
  exact ⟨_, rfl, b25, rfl, hb25, hm33⟩
end Go.Proofs.Ytkcgiolledmbnab
