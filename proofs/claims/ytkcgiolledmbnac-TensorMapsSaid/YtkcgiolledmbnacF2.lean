/- Printed by gen.py. -/
import Derived.Test.YtkcgiolledmbnacF1
namespace Go.Proofs.Ytkcgiolledmbnac
open Go Go.RowKit
set_option linter.unusedSimpArgs false
set_option linter.unusedVariables false
set_option linter.unnecessarySimpa false
/-! ### backstitch/tensor.At -/
noncomputable def tensor_At.f (x0 : Tensor) (x1 : (List Int)) : Option (Nat × Bool) :=
  (shape_Index.f x0.Shape x1).bind fun r30 =>
  (tensor_May.f x0).bind fun r41 =>
  if r41 = true then (if r30 < 0 then (some (0, false))
  else (if 0 ≤ r30 ∧ r30 < (x0.Data.length : Int) then (some ((rd x0.Data r30), true))
  else none))
  else (some (0, false))
set_option maxRecDepth 100000 in
set_option maxHeartbeats 4000000 in
theorem tensor_At.calls (M : List (Option Nat)) (w0 : World) (x0 : Tensor) (A0_0 : Option Addr) (n0_0 c0_0 : Nat) (e0_0 : n0_0 = x0.Shape.length) (A0_1 : Option Addr) (n0_1 c0_1 : Nat) (e0_1 : n0_1 = x0.Data.length) (x1 : (List Int)) (A1 : Option Addr) (n1 c1 : Nat) (e1 : n1 = x1.length) (hm0 : Mem [] M w0 [.sl (Kd.int .i64) A0_0 c0_0 x0.Shape, .sl Kd.float A0_1 c0_1 x0.Data, .sl (Kd.int .i64) A1 c1 x1] w0) (r : (Nat × Bool)) (H0 : tensor_At.f x0 x1 = some r) :
    Calls Try.prog 24 [.agg #[.slice A0_0 n0_0 c0_0, .slice A0_1 n0_1 c0_1], .slice A1 n1 c1].toArray w0 (fun x w' => ∃ v, x = .returned v ∧ ∃ br0, v = .tuple #[.float .f64 br0, .bool r.2] ∧ FR br0 r.1 ∧ Mem [] M w0 [] w') := by
  subst e0_0
  subst e0_1
  subst e1
  unfold tensor_At.f at H0
  refine enter (n := 23) Try.func24 rfl rfl (by kernel_rfl) fun a0 (hf0 : Fr 23 a0 [(0, .agg #[.slice A0_0 x0.Shape.length c0_0, .slice A0_1 x0.Data.length c0_1]), (1, .slice A1 x1.length c1)]) => ?_
  refine wp_seq ?_
  refine inReg ?_
  refine listOf hf0 rfl (by kernel_rfl) (aNew (cs := [.slice A0_0 x0.Shape.length c0_0, .slice A0_1 x0.Data.length c0_1]) (T := 25) (d := 2) hf0 (by kernel_rfl) (by kernel_rfl) ?_)
  intro b21 w22 a23 hbb21 hx25 hg26 hf24
  have hm27 := hm0.box hbb21 hx25 hg26
  refine go 2 [] [1, 2] [(1, .slice A1 x1.length c1), (2, .pointer (some ⟨b21, 0, none⟩))] [] hf24 (by kernel_rfl) trivial fun a28 hf29 => ?_
  refine endL rfl ?_
  refine thenN ?_
  refine wp_seq ?_
  obtain ⟨r30, hr30, H0⟩ := ob_split H0
  refine inReg ?_
  refine go 3 [.slice A0_0 x0.Shape.length c0_0] [2, 8, 9] [(2, .pointer (some ⟨b21, 0, none⟩)), (8, .slice A0_0 x0.Shape.length c0_0), (9, .slice A1 x1.length c1)] [.cell ⟨b21, 0, none⟩ (.slice A0_0 x0.Shape.length c0_0)] hf29 (by kernel_rfl) ⟨(hm27.cell 0 rfl rfl), trivial⟩ fun a31 hf32 => ?_
  refine listOf hf32 rfl (by kernel_rfl) (aCall (fid := 45) (args := [.slice A0_0 x0.Shape.length c0_0, .slice A1 x1.length c1]) (d := 10) hf32 (by kernel_rfl) (by kernel_rfl) callable45 (shape_Index.calls _ _ x0.Shape A0_0 x0.Shape.length c0_0 rfl x1 A1 x1.length c1 rfl (hm27.give [1, 3] [.sl (Kd.int .i64) A0_0 c0_0 x0.Shape, .sl (Kd.int .i64) A1 c1 x1] rfl rfl) r30 hr30) ?_)
  rintro _ w33 a34 ⟨rfl, hk36⟩ hf35
  have hm37 := hm27.still hk36.cum.none
  refine go 1 [] [2, 6] [(2, .pointer (some ⟨b21, 0, none⟩)), (6, .int .i64 r30)] [] hf35 (by kernel_rfl) trivial fun a38 hf39 => ?_
  refine endL rfl ?_
  have hm40 := hm37.sel [0, 1, 2] _ rfl (by kernel_rfl)
  refine thenN ?_
  refine wp_seq ?_
  refine wp_seq ?_
  obtain ⟨r41, hr41, H0⟩ := ob_split H0
  rcases ifb_split H0 with ⟨c42, H0⟩ | ⟨c42, H0⟩
  rotate_left
  · refine inReg ?_
    refine go 1 [.agg #[.slice A0_0 x0.Shape.length c0_0, .slice A0_1 x0.Data.length c0_1]] [2, 6, 11] [(2, .pointer (some ⟨b21, 0, none⟩)), (6, .int .i64 r30), (11, .agg #[.slice A0_0 x0.Shape.length c0_0, .slice A0_1 x0.Data.length c0_1])] [.cell ⟨b21, 0, none⟩ (.slice A0_0 x0.Shape.length c0_0), .cell ⟨b21, 1, none⟩ (.slice A0_1 x0.Data.length c0_1)] hf39 (by kernel_rfl) ⟨(hm40.cell 0 rfl rfl), (hm40.cell 0 rfl rfl), trivial⟩ fun a76 hf77 => ?_
    refine listOf hf77 rfl (by kernel_rfl) (aCall (fid := 25) (args := [.agg #[.slice A0_0 x0.Shape.length c0_0, .slice A0_1 x0.Data.length c0_1]]) (d := 12) hf77 (by kernel_rfl) (by kernel_rfl) callable25 (tensor_May.calls _ _ x0 A0_0 x0.Shape.length c0_0 rfl A0_1 x0.Data.length c0_1 rfl (hm40.give [1, 2] [.sl (Kd.int .i64) A0_0 c0_0 x0.Shape, .sl Kd.float A0_1 c0_1 x0.Data] rfl rfl) r41 hr41) ?_)
    rintro _ w78 a79 ⟨rfl, hk81⟩ hf80
    have hm82 := hm40.still hk81.cum.none
    rw [c42] at hf80
    refine go 5 [] [2, 6, 17] [(2, .pointer (some ⟨b21, 0, none⟩)), (6, .int .i64 r30), (17, .bool true)] [] hf80 (by kernel_rfl) trivial fun a83 hf84 => ?_
    refine endL rfl ?_
    refine thenN ?_
    refine condT hf84 (by kernel_rfl) ?_
    refine wp_seq ?_
    refine reg [] [4, 5] [(4, .float .f64 0), (5, .bool false)] [] hf84 (by kernel_rfl) trivial fun a85 hf86 => ?_
    have hm87 := hm82.sel [] _ rfl (by kernel_rfl)
    refine thenN ?_
    refine wp_ret ?_
    refine thenR ?_
    have hm88 : Mem [] M w0 [] w78 := hm87.sel [] _ rfl (by kernel_rfl)
    obtain rfl := Option.some.inj H0
    refine ret [] [.float .f64 0, .bool false] [] hf86 (by kernel_rfl) trivial ?_
    exact ⟨_, rfl, 0, rfl, (FR.lit (by kernel_rfl) (by kernel_rfl)), hm88⟩
  rcases if_split H0 with ⟨c43, H0⟩ | ⟨c43, H0⟩
  · refine inReg ?_
    refine go 1 [.agg #[.slice A0_0 x0.Shape.length c0_0, .slice A0_1 x0.Data.length c0_1]] [2, 6, 11] [(2, .pointer (some ⟨b21, 0, none⟩)), (6, .int .i64 r30), (11, .agg #[.slice A0_0 x0.Shape.length c0_0, .slice A0_1 x0.Data.length c0_1])] [.cell ⟨b21, 0, none⟩ (.slice A0_0 x0.Shape.length c0_0), .cell ⟨b21, 1, none⟩ (.slice A0_1 x0.Data.length c0_1)] hf39 (by kernel_rfl) ⟨(hm40.cell 0 rfl rfl), (hm40.cell 0 rfl rfl), trivial⟩ fun a44 hf45 => ?_
    refine listOf hf45 rfl (by kernel_rfl) (aCall (fid := 25) (args := [.agg #[.slice A0_0 x0.Shape.length c0_0, .slice A0_1 x0.Data.length c0_1]]) (d := 12) hf45 (by kernel_rfl) (by kernel_rfl) callable25 (tensor_May.calls _ _ x0 A0_0 x0.Shape.length c0_0 rfl A0_1 x0.Data.length c0_1 rfl (hm40.give [1, 2] [.sl (Kd.int .i64) A0_0 c0_0 x0.Shape, .sl Kd.float A0_1 c0_1 x0.Data] rfl rfl) r41 hr41) ?_)
    rintro _ w46 a47 ⟨rfl, hk49⟩ hf48
    have hm50 := hm40.still hk49.cum.none
    rw [c42] at hf48
    refine go 5 [.bool true] [2, 6, 17] [(2, .pointer (some ⟨b21, 0, none⟩)), (6, .int .i64 r30), (17, .bool true)] [.is (decide (r30 < 0) = true)] hf48 (by kernel_rfl) ⟨(decide_eq_true c43), trivial⟩ fun a51 hf52 => ?_
    refine endL rfl ?_
    refine thenN ?_
    refine condT hf52 (by kernel_rfl) ?_
    refine wp_seq ?_
    refine reg [] [4, 5] [(4, .float .f64 0), (5, .bool false)] [] hf52 (by kernel_rfl) trivial fun a53 hf54 => ?_
    have hm55 := hm50.sel [] _ rfl (by kernel_rfl)
    refine thenN ?_
    refine wp_ret ?_
    refine thenR ?_
    have hm56 : Mem [] M w0 [] w46 := hm55.sel [] _ rfl (by kernel_rfl)
    obtain rfl := Option.some.inj H0
    refine ret [] [.float .f64 0, .bool false] [] hf54 (by kernel_rfl) trivial ?_
    exact ⟨_, rfl, 0, rfl, (FR.lit (by kernel_rfl) (by kernel_rfl)), hm56⟩
  refine inReg ?_
  refine go 1 [.agg #[.slice A0_0 x0.Shape.length c0_0, .slice A0_1 x0.Data.length c0_1]] [2, 6, 11] [(2, .pointer (some ⟨b21, 0, none⟩)), (6, .int .i64 r30), (11, .agg #[.slice A0_0 x0.Shape.length c0_0, .slice A0_1 x0.Data.length c0_1])] [.cell ⟨b21, 0, none⟩ (.slice A0_0 x0.Shape.length c0_0), .cell ⟨b21, 1, none⟩ (.slice A0_1 x0.Data.length c0_1)] hf39 (by kernel_rfl) ⟨(hm40.cell 0 rfl rfl), (hm40.cell 0 rfl rfl), trivial⟩ fun a58 hf59 => ?_
  refine listOf hf59 rfl (by kernel_rfl) (aCall (fid := 25) (args := [.agg #[.slice A0_0 x0.Shape.length c0_0, .slice A0_1 x0.Data.length c0_1]]) (d := 12) hf59 (by kernel_rfl) (by kernel_rfl) callable25 (tensor_May.calls _ _ x0 A0_0 x0.Shape.length c0_0 rfl A0_1 x0.Data.length c0_1 rfl (hm40.give [1, 2] [.sl (Kd.int .i64) A0_0 c0_0 x0.Shape, .sl Kd.float A0_1 c0_1 x0.Data] rfl rfl) r41 hr41) ?_)
  rintro _ w60 a61 ⟨rfl, hk63⟩ hf62
  have hm65 := hm40.still hk63.cum.none
  rw [c42] at hf62
  refine go 5 [.bool false] [2, 6, 17] [(2, .pointer (some ⟨b21, 0, none⟩)), (6, .int .i64 r30), (17, .bool false)] [.is (decide (r30 < 0) = false)] hf62 (by kernel_rfl) ⟨(decide_eq_false c43), trivial⟩ fun a66 hf67 => ?_
  refine endL rfl ?_
  refine thenN ?_
  refine condF hf67 (by kernel_rfl) ?_
  refine wp_skip ?_
  refine thenN ?_
  refine wp_seq ?_
  obtain ⟨g68, H0⟩ := if_guard H0
  have q69 := (hm65.slAt 2 rfl).float r30 g68.1 g68.2
  obtain ⟨b70, hb70, kb70⟩ := q69.2
  refine reg [.slice A0_1 x0.Data.length c0_1, .float .f64 b70] [4, 5] [(4, .float .f64 b70), (5, .bool true)] [.cell ⟨b21, 1, none⟩ (.slice A0_1 x0.Data.length c0_1), .is (Option.isSome A0_1 = true), .is (0 ≤ r30 ∧ r30 < (x0.Data.length : Int)), .cell ((ad A0_1).add ((r30).toNat * 1)) (.float .f64 b70)] hf67 (by kernel_rfl) ⟨(hm65.cell 0 rfl rfl), q69.1, g68, kb70, trivial⟩ fun a71 hf72 => ?_
  have hm73 := hm65.sel [] _ rfl (by kernel_rfl)
  refine thenN ?_
  refine wp_ret ?_
  have hm74 : Mem [] M w0 [] w60 := hm73.sel [] _ rfl (by kernel_rfl)
  obtain rfl := Option.some.inj H0
  refine ret [] [.float .f64 b70, .bool true] [] hf72 (by kernel_rfl) trivial ?_
  exact ⟨_, rfl, b70, rfl, hb70, hm74⟩

/-! ### math.IsNaN -/
noncomputable def math_IsNaN.f (x0 : Nat) : Option Bool :=
  if (fne x0 x0) = true then (some true)
  else (some false)
set_option maxRecDepth 100000 in
set_option maxHeartbeats 4000000 in
theorem math_IsNaN.calls (M : List (Option Nat)) (w0 : World) (x0 : Nat) (b0 : Nat) (h0 : FR b0 x0) (hm0 : Mem [] M w0 [] w0) (r : Bool) (H0 : math_IsNaN.f x0 = some r) :
    Calls Try.prog 64 [.float .f64 b0].toArray w0 (fun x w' => ∃ v, x = .returned v ∧ v = .bool r ∧ Mem [] M w0 [] w') := by
  unfold math_IsNaN.f at H0
  refine enter (n := 6) Try.func64 rfl rfl (by kernel_rfl) fun a0 (hf0 : Fr 6 a0 [(0, .float .f64 b0)]) => ?_
  refine wp_seq ?_
  refine reg [] [0] [(0, .float .f64 b0)] [] hf0 (by kernel_rfl) trivial fun a21 hf22 => ?_
  refine thenN ?_
  refine wp_seq ?_
  rcases ifb_split H0 with ⟨c23, H0⟩ | ⟨c23, H0⟩
  · refine reg [.bool true] [2] [(2, .bool true)] [.is ((FloatKind.f64.format.order b0 b0 != some .eq) = true)] hf22 (by kernel_rfl) ⟨(ftNe h0 h0 c23), trivial⟩ fun a24 hf25 => ?_
    refine thenN ?_
    refine wp_ret ?_
    have hm26 : Mem [] M w0 [] w0 := hm0.sel [] _ rfl (by kernel_rfl)
    obtain rfl := Option.some.inj H0
    refine ret [] [.bool true] [] hf25 (by kernel_rfl) trivial ?_
    exact ⟨_, rfl, rfl, hm26⟩
  refine reg [.bool false] [2] [(2, .bool false)] [.is ((FloatKind.f64.format.order b0 b0 != some .eq) = false)] hf22 (by kernel_rfl) ⟨(ftNe h0 h0 c23), trivial⟩ fun a28 hf29 => ?_
  refine thenN ?_
  refine wp_ret ?_
  have hm30 : Mem [] M w0 [] w0 := hm0.sel [] _ rfl (by kernel_rfl)
  obtain rfl := Option.some.inj H0
  refine ret [] [.bool false] [] hf29 (by kernel_rfl) trivial ?_
  exact ⟨_, rfl, rfl, hm30⟩

/-! ### math.Abs -/
noncomputable def math_Abs.f (x0 : Nat) : Option Nat := some (fabs x0)
set_option maxRecDepth 100000 in
theorem math_Abs.calls (M : List (Option Nat)) (w0 : World) (x0 : Nat) (b0 : Nat) (h0 : FR b0 x0) (hm0 : Mem [] M w0 [] w0) (r : Nat) (H0 : math_Abs.f x0 = some r) :
    Calls Try.prog 77 [.float .f64 b0].toArray w0 (fun x w' => ∃ v, x = .returned v ∧ ∃ b, v = .float .f64 b ∧ FR b r ∧ Mem [] M w0 [] w') := by
  unfold math_Abs.f at H0
  obtain rfl := Option.some.inj H0
  refine enter (n := 7) Try.func77 rfl rfl (by kernel_rfl) fun a0 (hf0 : Fr 7 a0 [(0, .float .f64 b0)]) => ?_
  refine wp_seq ?_
  refine reg [] [0] [(0, .float .f64 b0)] [] hf0 (by kernel_rfl) trivial fun a1 hf2 => ?_
  refine thenN ?_
  refine wp_seq ?_
  refine inReg ?_
  refine go 1 [] [3] [(3, .float .f64 b0)] [] hf2 (by kernel_rfl) trivial fun a3 hf3 => ?_
  refine listOf hf3 rfl (by kernel_rfl) (aExtern (fid := 52) (args := [.float .f64 b0]) (d := 4) (R := fun v w' => v = .int .u64 (b0 : Int) ∧ w0 = w') hf3 (by kernel_rfl) (by kernel_rfl) ⟨_, Try.func52, rfl, rfl, by kernel_rfl, rfl⟩ ⟨_, _, run_bits _, rfl, rfl⟩ ?_)
  rintro _ _ a4 ⟨rfl, rfl⟩ hf4
  refine listOf hf4 rfl (by kernel_rfl) (aBin (.int .u64 ((b0 % 2 ^ 63 : Nat) : Int)) hf4 rfl (by kernel_rfl) (fun _ _ => rfl) (run_andNot_sign h0.1) ?_)
  intro a5 hf5
  refine listOf hf5 rfl (by kernel_rfl) (aExtern (fid := 78) (args := [.int .u64 ((b0 % 2 ^ 63 : Nat) : Int)]) (d := 6) (R := fun v w' => v = .float .f64 (b0 % 2 ^ 63) ∧ w0 = w') hf5 (by kernel_rfl) (by kernel_rfl) ⟨_, Try.func78, rfl, rfl, by kernel_rfl, rfl⟩ ⟨_, _, run_frombits _, rfl, rfl⟩ ?_)
  rintro _ _ a6 ⟨rfl, rfl⟩ hf6
  refine go 1 [] [2] [(2, .float .f64 (b0 % 2 ^ 63))] [] hf6 (by kernel_rfl) trivial fun a7 hf7 => ?_
  refine endL rfl ?_
  refine thenN ?_
  refine wp_ret ?_
  refine ret [] [.float .f64 (b0 % 2 ^ 63)] [] hf7 (by kernel_rfl) trivial ?_
  exact ⟨_, rfl, _, rfl, h0.abs, hm0⟩

/-! ### math.IsInf -/
noncomputable def math_IsInf.f (x0 : Nat) (x1 : Int) : Option Bool :=
  if x1 = 0 then ((math_Abs.f x0).bind fun r26 =>
  if (fgt r26 9218868437227405311) = true then (some true)
  else (some false))
  else (if x1 < 0 then (if (fgt (fneg x0) 9218868437227405311) = true then (some true)
  else (some false))
  else (if (fgt x0 9218868437227405311) = true then (some true)
  else (some false)))
set_option maxRecDepth 100000 in
set_option maxHeartbeats 4000000 in
theorem math_IsInf.calls (M : List (Option Nat)) (w0 : World) (x0 : Nat) (b0 : Nat) (h0 : FR b0 x0) (x1 : Int) (hm0 : Mem [] M w0 [] w0) (r : Bool) (H0 : math_IsInf.f x0 x1 = some r) :
    Calls Try.prog 65 [.float .f64 b0, .int .i64 x1].toArray w0 (fun x w' => ∃ v, x = .returned v ∧ v = .bool r ∧ Mem [] M w0 [] w') := by
  unfold math_IsInf.f at H0
  refine enter (n := 15) Try.func65 rfl rfl (by kernel_rfl) fun a0 (hf0 : Fr 15 a0 [(0, .float .f64 b0), (1, .int .i64 x1)]) => ?_
  refine wp_seq ?_
  refine reg [] [0, 1] [(0, .float .f64 b0), (1, .int .i64 x1)] [] hf0 (by kernel_rfl) trivial fun a21 hf22 => ?_
  refine thenN ?_
  refine wp_seq ?_
  refine wp_seq ?_
  rcases if_split H0 with ⟨c23, H0⟩ | ⟨c23, H0⟩
  · refine reg [.bool true] [0, 1, 6] [(0, .float .f64 b0), (1, .int .i64 x1), (6, .bool true)] [.is (((x1 : Int) == 0) = true)] hf22 (by kernel_rfl) ⟨(eqT c23), trivial⟩ fun a24 hf25 => ?_
    refine thenN ?_
    refine condT hf25 (by kernel_rfl) ?_
    obtain ⟨r26, hr26, H0⟩ := ob_split H0
    refine inReg ?_
    refine go 1 [] [0, 7] [(0, .float .f64 b0), (7, .float .f64 b0)] [] hf25 (by kernel_rfl) trivial fun a27 hf28 => ?_
    refine listOf hf28 rfl (by kernel_rfl) (aCall (fid := 77) (args := [.float .f64 b0]) (d := 8) hf28 (by kernel_rfl) (by kernel_rfl) callable77 (math_Abs.calls _ _ x0 b0 h0 (hm0.give [] [] rfl rfl) r26 hr26) ?_)
    rintro _ w30 a31 ⟨b29, rfl, hb29, hk33⟩ hf32
    have hm34 := hm0.still hk33.cum.none
    refine go 1 [] [0] [(0, .float .f64 b29)] [] hf32 (by kernel_rfl) trivial fun a35 hf36 => ?_
    refine endL rfl ?_
    refine thenN ?_
    refine wp_seq ?_
    rcases ifb_split H0 with ⟨c37, H0⟩ | ⟨c37, H0⟩
    · refine reg [.bool true] [4] [(4, .bool true)] [.is ((FloatKind.f64.format.order b29 9218868437227405311 == some .gt) = true)] hf36 (by kernel_rfl) ⟨(ftGt hb29 (FR.lit (by kernel_rfl) (by kernel_rfl)) c37), trivial⟩ fun a38 hf39 => ?_
      refine thenN ?_
      refine wp_ret ?_
      have hm40 : Mem [] M w0 [] w30 := hm34.sel [] _ rfl (by kernel_rfl)
      obtain rfl := Option.some.inj H0
      refine ret [] [.bool true] [] hf39 (by kernel_rfl) trivial ?_
      exact ⟨_, rfl, rfl, hm40⟩
    refine reg [.bool false] [4] [(4, .bool false)] [.is ((FloatKind.f64.format.order b29 9218868437227405311 == some .gt) = false)] hf36 (by kernel_rfl) ⟨(ftGt hb29 (FR.lit (by kernel_rfl) (by kernel_rfl)) c37), trivial⟩ fun a42 hf43 => ?_
    refine thenN ?_
    refine wp_ret ?_
    have hm44 : Mem [] M w0 [] w30 := hm34.sel [] _ rfl (by kernel_rfl)
    obtain rfl := Option.some.inj H0
    refine ret [] [.bool false] [] hf43 (by kernel_rfl) trivial ?_
    exact ⟨_, rfl, rfl, hm44⟩
  refine reg [.bool false] [0, 1, 6] [(0, .float .f64 b0), (1, .int .i64 x1), (6, .bool false)] [.is (((x1 : Int) == 0) = false)] hf22 (by kernel_rfl) ⟨(eqF c23), trivial⟩ fun a46 hf47 => ?_
  refine thenN ?_
  refine condF hf47 (by kernel_rfl) ?_
  refine wp_seq ?_
  rcases if_split H0 with ⟨c48, H0⟩ | ⟨c48, H0⟩
  · refine reg [.bool true] [0, 10] [(0, .float .f64 b0), (10, .bool true)] [.is (decide (x1 < 0) = true)] hf47 (by kernel_rfl) ⟨(decide_eq_true c48), trivial⟩ fun a49 hf50 => ?_
    refine thenN ?_
    refine condT hf50 (by kernel_rfl) ?_
    refine reg [] [0] [(0, .float .f64 (Op.negFloat .f64 b0))] [] hf50 (by kernel_rfl) trivial fun a51 hf52 => ?_
    refine thenN ?_
    refine wp_seq ?_
    rcases ifb_split H0 with ⟨c53, H0⟩ | ⟨c53, H0⟩
    · refine reg [.bool true] [4] [(4, .bool true)] [.is ((FloatKind.f64.format.order (Op.negFloat .f64 b0) 9218868437227405311 == some .gt) = true)] hf52 (by kernel_rfl) ⟨(ftGt (FR.neg h0) (FR.lit (by kernel_rfl) (by kernel_rfl)) c53), trivial⟩ fun a54 hf55 => ?_
      refine thenN ?_
      refine wp_ret ?_
      have hm56 : Mem [] M w0 [] w0 := hm0.sel [] _ rfl (by kernel_rfl)
      obtain rfl := Option.some.inj H0
      refine ret [] [.bool true] [] hf55 (by kernel_rfl) trivial ?_
      exact ⟨_, rfl, rfl, hm56⟩
    refine reg [.bool false] [4] [(4, .bool false)] [.is ((FloatKind.f64.format.order (Op.negFloat .f64 b0) 9218868437227405311 == some .gt) = false)] hf52 (by kernel_rfl) ⟨(ftGt (FR.neg h0) (FR.lit (by kernel_rfl) (by kernel_rfl)) c53), trivial⟩ fun a58 hf59 => ?_
    refine thenN ?_
    refine wp_ret ?_
    have hm60 : Mem [] M w0 [] w0 := hm0.sel [] _ rfl (by kernel_rfl)
    obtain rfl := Option.some.inj H0
    refine ret [] [.bool false] [] hf59 (by kernel_rfl) trivial ?_
    exact ⟨_, rfl, rfl, hm60⟩
  refine reg [.bool false] [0, 10] [(0, .float .f64 b0), (10, .bool false)] [.is (decide (x1 < 0) = false)] hf47 (by kernel_rfl) ⟨(decide_eq_false c48), trivial⟩ fun a62 hf63 => ?_
  refine thenN ?_
  refine condF hf63 (by kernel_rfl) ?_
  refine wp_skip ?_
  refine thenN ?_
  refine wp_seq ?_
  rcases ifb_split H0 with ⟨c65, H0⟩ | ⟨c65, H0⟩
  · refine reg [.bool true] [4] [(4, .bool true)] [.is ((FloatKind.f64.format.order b0 9218868437227405311 == some .gt) = true)] hf63 (by kernel_rfl) ⟨(ftGt h0 (FR.lit (by kernel_rfl) (by kernel_rfl)) c65), trivial⟩ fun a66 hf67 => ?_
    refine thenN ?_
    refine wp_ret ?_
    have hm68 : Mem [] M w0 [] w0 := hm0.sel [] _ rfl (by kernel_rfl)
    obtain rfl := Option.some.inj H0
    refine ret [] [.bool true] [] hf67 (by kernel_rfl) trivial ?_
    exact ⟨_, rfl, rfl, hm68⟩
  refine reg [.bool false] [4] [(4, .bool false)] [.is ((FloatKind.f64.format.order b0 9218868437227405311 == some .gt) = false)] hf63 (by kernel_rfl) ⟨(ftGt h0 (FR.lit (by kernel_rfl) (by kernel_rfl)) c65), trivial⟩ fun a70 hf71 => ?_
  refine thenN ?_
  refine wp_ret ?_
  have hm72 : Mem [] M w0 [] w0 := hm0.sel [] _ rfl (by kernel_rfl)
  obtain rfl := Option.some.inj H0
  refine ret [] [.bool false] [] hf71 (by kernel_rfl) trivial ?_
  exact ⟨_, rfl, rfl, hm72⟩

/-! ### backstitch/tensor.odd -/
noncomputable def tensor_odd.f (x0 : Nat) : Option Bool :=
  (math_IsNaN.f x0).bind fun r23 =>
  if r23 = true then (some true)
  else ((math_IsInf.f x0 0).bind fun r36 =>
  some r36)
set_option maxRecDepth 100000 in
set_option maxHeartbeats 4000000 in
theorem tensor_odd.calls (M : List (Option Nat)) (w0 : World) (x0 : Nat) (b0 : Nat) (h0 : FR b0 x0) (hm0 : Mem [] M w0 [] w0) (r : Bool) (H0 : tensor_odd.f x0 = some r) :
    Calls Try.prog 47 [.float .f64 b0].toArray w0 (fun x w' => ∃ v, x = .returned v ∧ v = .bool r ∧ Mem [] M w0 [] w') := by
  unfold tensor_odd.f at H0
  refine enter (n := 9) Try.func47 rfl rfl (by kernel_rfl) fun a0 (hf0 : Fr 9 a0 [(0, .float .f64 b0)]) => ?_
  refine wp_seq ?_
  refine reg [] [0] [(0, .float .f64 b0)] [] hf0 (by kernel_rfl) trivial fun a21 hf22 => ?_
  refine thenN ?_
  refine wp_seq ?_
  obtain ⟨r23, hr23, H0⟩ := ob_split H0
  rcases ifb_split H0 with ⟨c24, H0⟩ | ⟨c24, H0⟩
  · refine inReg ?_
    refine go 1 [] [0, 3] [(0, .float .f64 b0), (3, .float .f64 b0)] [] hf22 (by kernel_rfl) trivial fun a25 hf26 => ?_
    refine listOf hf26 rfl (by kernel_rfl) (aCall (fid := 64) (args := [.float .f64 b0]) (d := 4) hf26 (by kernel_rfl) (by kernel_rfl) callable64 (math_IsNaN.calls _ _ x0 b0 h0 (hm0.give [] [] rfl rfl) r23 hr23) ?_)
    rintro _ w27 a28 ⟨rfl, hk30⟩ hf29
    have hm31 := hm0.still hk30.cum.none
    rw [c24] at hf29
    refine go 5 [] [2] [(2, .bool true)] [] hf29 (by kernel_rfl) trivial fun a32 hf33 => ?_
    refine endL rfl ?_
    refine thenN ?_
    refine wp_ret ?_
    have hm34 : Mem [] M w0 [] w27 := hm31.sel [] _ rfl (by kernel_rfl)
    obtain rfl := Option.some.inj H0
    refine ret [] [.bool true] [] hf33 (by kernel_rfl) trivial ?_
    exact ⟨_, rfl, rfl, hm34⟩
  obtain ⟨r36, hr36, H0⟩ := ob_split H0
  refine inReg ?_
  refine go 1 [] [0, 3] [(0, .float .f64 b0), (3, .float .f64 b0)] [] hf22 (by kernel_rfl) trivial fun a37 hf38 => ?_
  refine listOf hf38 rfl (by kernel_rfl) (aCall (fid := 64) (args := [.float .f64 b0]) (d := 4) hf38 (by kernel_rfl) (by kernel_rfl) callable64 (math_IsNaN.calls _ _ x0 b0 h0 (hm0.give [] [] rfl rfl) r23 hr23) ?_)
  rintro _ w39 a40 ⟨rfl, hk42⟩ hf41
  have hm43 := hm0.still hk42.cum.none
  rw [c24] at hf41
  refine go 2 [] [5, 6] [(5, .bool false), (6, .float .f64 b0)] [] hf41 (by kernel_rfl) trivial fun a44 hf45 => ?_
  refine listOf hf45 rfl (by kernel_rfl) (aCall (fid := 65) (args := [.float .f64 b0, .int .i64 0]) (d := 7) hf45 (by kernel_rfl) (by kernel_rfl) callable65 (math_IsInf.calls _ _ x0 b0 h0 0 (hm43.give [] [] rfl rfl) r36 hr36) ?_)
  rintro _ w46 a47 ⟨rfl, hk49⟩ hf48
  have hm50 := hm43.still hk49.cum.none
  refine go 2 [] [2] [(2, .bool r36)] [] hf48 (by kernel_rfl) trivial fun a51 hf52 => ?_
  refine endL rfl ?_
  refine thenN ?_
  refine wp_ret ?_
  have hm53 : Mem [] M w0 [] w46 := hm50.sel [] _ rfl (by kernel_rfl)
  obtain rfl := Option.some.inj H0
  refine ret [] [.bool r36] [] hf52 (by kernel_rfl) trivial ?_
  exact ⟨_, rfl, rfl, hm53⟩

/-! ### slices.IndexFunc[[]float64,float64] -/
noncomputable def slices_IndexFunc_float64_tensor_odd.l0 (x0 : (List Nat)) (s25 : Int) : Step Int (Out2 Int Int) :=
  if s25 < (x0.length : Int) then (if 0 ≤ s25 ∧ s25 < (x0.length : Int) then (bindS (tensor_odd.f (rd x0 s25)) fun r38 =>
  if r38 = true then (.done (.ret s25))
  else (.next (w64 (s25 + 1))))
  else .bad)
  else (.done (.go s25))
noncomputable def slices_IndexFunc_float64_tensor_odd.f (x0 : (List Nat)) : Option Int :=
  (loop (slices_IndexFunc_float64_tensor_odd.l0 x0) 0).bind fun r26 =>
  r26.on (fun yr26 =>
  some (-1)) (fun y => some y)
set_option maxRecDepth 100000 in
set_option maxHeartbeats 4000000 in
theorem slices_IndexFunc_float64_tensor_odd.calls (M : List (Option Nat)) (w0 : World) (x0 : (List Nat)) (A0 : Option Addr) (n0 c0 : Nat) (e0 : n0 = x0.length) (hm0 : Mem [] M w0 [.sl Kd.float A0 c0 x0] w0) (r : Int) (H0 : slices_IndexFunc_float64_tensor_odd.f x0 = some r) :
    Calls Try.prog 63 [.slice A0 n0 c0, .func (.func 47) #[] #[]].toArray w0 (fun x w' => ∃ v, x = .returned v ∧ v = .int .i64 r ∧ Mem [] M w0 [] w') := by
  subst e0
  unfold slices_IndexFunc_float64_tensor_odd.f at H0
  refine enter (n := 19) Try.func63 rfl rfl (by kernel_rfl) fun a0 (hf0 : Fr 19 a0 [(0, .slice A0 x0.length c0), (1, .func (.func 47) #[] #[])]) => ?_
  refine wp_seq ?_
  refine reg [] [0, 1] [(0, .slice A0 x0.length c0), (1, .func (.func 47) #[] #[])] [] hf0 (by kernel_rfl) trivial fun a21 hf22 => ?_
  refine thenN ?_
  refine wp_seq ?_
  refine wp_seq ?_
  refine reg [] [0, 1, 7, 8] [(0, .slice A0 x0.length c0), (1, .func (.func 47) #[] #[]), (7, .int .i64 (x0.length : Int)), (8, .int .i64 0)] [] hf22 (by kernel_rfl) trivial fun a23 hf24 => ?_
  refine thenN ?_
  obtain ⟨r26, hr26, H0⟩ := ob_split H0
  refine wpBlock (Mid := fun (a : Act) (w : World) => ∃ yr26 : Int, r26 = .go yr26 ∧ Fr 19 a [(0, .slice A0 x0.length c0), (1, .func (.func 47) #[] #[]), (7, .int .i64 (x0.length : Int)), (8, .int .i64 yr26)] ∧ Mem [] M w0 [.sl Kd.float A0 c0 x0] w) ?_ ?_
  · refine wpLoop (slices_IndexFunc_float64_tensor_odd.l0 x0) r26 (fun (s25 : Int) (a : Act) (w : World) => Fr 19 a [(0, .slice A0 x0.length c0), (1, .func (.func 47) #[] #[]), (7, .int .i64 (x0.length : Int)), (8, .int .i64 s25)] ∧ Mem [] M w0 [.sl Kd.float A0 c0 x0] w) 0 hr26 ⟨hf24.sel (l := [0, 1, 7, 8]) (by kernel_rfl), hm0.sel [0] _ rfl (by kernel_rfl)⟩ ?_
    rintro g27 s25 a28 w29 H1 ⟨hf30, hm31⟩
    unfold slices_IndexFunc_float64_tensor_odd.l0 at H1
    refine wp_seq ?_
    rcases ifS_split H1 with ⟨c32, H1⟩ | ⟨c32, H1⟩
    rotate_left
    · refine reg [.bool false] [0, 1, 7, 8, 9] [(0, .slice A0 x0.length c0), (1, .func (.func 47) #[] #[]), (7, .int .i64 (x0.length : Int)), (8, .int .i64 s25), (9, .bool false)] [.is (decide (s25 < (x0.length : Int)) = false)] hf30 (by kernel_rfl) ⟨(decide_eq_false c32), trivial⟩ fun a56 hf57 => ?_
      refine thenN ?_
      refine wp_seq ?_
      refine condF hf57 (by kernel_rfl) ?_
      refine wp_exit ?_
      refine thenE ?_
      refine thenE ?_
      obtain rfl := Option.some.inj H1
      exact .inl ⟨rfl, s25, rfl, hf57.sel (l := [0, 1, 7, 8]) (by kernel_rfl), hm31.sel [0] _ rfl (by kernel_rfl)⟩
    refine reg [.bool true] [0, 1, 7, 8, 9] [(0, .slice A0 x0.length c0), (1, .func (.func 47) #[] #[]), (7, .int .i64 (x0.length : Int)), (8, .int .i64 s25), (9, .bool true)] [.is (decide (s25 < (x0.length : Int)) = true)] hf30 (by kernel_rfl) ⟨(decide_eq_true c32), trivial⟩ fun a33 hf34 => ?_
    refine thenN ?_
    refine wp_seq ?_
    refine condT hf34 (by kernel_rfl) ?_
    refine wp_skip ?_
    refine thenN ?_
    refine wp_seq ?_
    refine wp_block ?_
    refine wp_seq ?_
    refine reg [] [0, 1, 5, 7, 8] [(0, .slice A0 x0.length c0), (1, .func (.func 47) #[] #[]), (5, .int .i64 s25), (7, .int .i64 (x0.length : Int)), (8, .int .i64 s25)] [] hf34 (by kernel_rfl) trivial fun a35 hf36 => ?_
    refine thenN ?_
    refine wp_seq ?_
    obtain ⟨g37, H1⟩ := ifS_guard H1
    obtain ⟨r38, hr38, H1⟩ := obS_split H1
    have q39 := (hm31.slAt 0 rfl).float s25 g37.1 g37.2
    obtain ⟨b40, hb40, kb40⟩ := q39.2
    refine inReg ?_
    refine go 5 [.float .f64 b40] [0, 1, 5, 7, 8, 11, 15] [(0, .slice A0 x0.length c0), (1, .func (.func 47) #[] #[]), (5, .int .i64 s25), (7, .int .i64 (x0.length : Int)), (8, .int .i64 s25), (11, .func (.func 47) #[] #[]), (15, .float .f64 b40)] [.is (Option.isSome A0 = true), .is (0 ≤ s25 ∧ s25 < (x0.length : Int)), .cell ((ad A0).add ((s25).toNat * 1)) (.float .f64 b40)] hf36 (by kernel_rfl) ⟨q39.1, g37, kb40, trivial⟩ fun a41 hf42 => ?_
    refine listOf hf42 rfl (by kernel_rfl) (aCall (fid := 47) (args := [.float .f64 b40]) (d := 16) hf42 (by kernel_rfl) (by kernel_rfl) callable47 (tensor_odd.calls _ _ (rd x0 s25) b40 hb40 (hm31.give [] [] rfl rfl) r38 hr38) ?_)
    rintro _ w43 a44 ⟨rfl, hk46⟩ hf45
    have hm47 := hm31.still hk46.cum.none
    refine endL rfl ?_
    refine thenN ?_
    rcases ifbS_split H1 with ⟨c48, H1⟩ | ⟨c48, H1⟩
    rotate_left
    · rw [c48] at hf45
      refine condF hf45 (by kernel_rfl) ?_
      refine wp_skip ?_
      refine blkN ?_
      refine thenN ?_
      refine reg [] [0, 1, 7, 8] [(0, .slice A0 x0.length c0), (1, .func (.func 47) #[] #[]), (7, .int .i64 (x0.length : Int)), (8, .int .i64 (w64 (s25 + 1)))] [] hf45 (by kernel_rfl) trivial fun a54 hf55 => ?_
      exact ⟨(w64 (s25 + 1)), H1, hf55.sel (l := [0, 1, 7, 8]) (by kernel_rfl), hm47.sel [0] _ rfl (by kernel_rfl)⟩
    rw [c48] at hf45
    refine condT hf45 (by kernel_rfl) ?_
    refine wp_seq ?_
    refine reg [] [4] [(4, .int .i64 s25)] [] hf45 (by kernel_rfl) trivial fun a49 hf50 => ?_
    have hm51 := hm47.sel [] _ rfl (by kernel_rfl)
    refine thenN ?_
    refine wp_ret ?_
    refine blkR ?_
    refine thenR ?_
    refine thenR ?_
    refine .inr ⟨rfl, ?_⟩
    refine thenR ?_
    have hm52 : Mem [] M w0 [] w43 := hm51.sel [] _ rfl (by kernel_rfl)
    obtain rfl := Option.some.inj H1
    obtain rfl := Option.some.inj H0
    refine ret [] [.int .i64 s25] [] hf50 (by kernel_rfl) trivial ?_
    exact ⟨_, rfl, rfl, hm52⟩
  rintro a58 w59 ⟨yr26, rfl, hf60, hm61⟩
  refine thenN ?_
  refine wp_seq ?_
  refine reg [] [4] [(4, .int .i64 (-1))] [] hf60 (by kernel_rfl) trivial fun a62 hf63 => ?_
  have hm65 := hm61.sel [] _ rfl (by kernel_rfl)
  refine thenN ?_
  refine wp_ret ?_
  have hm66 : Mem [] M w0 [] w59 := hm65.sel [] _ rfl (by kernel_rfl)
  obtain rfl := Option.some.inj H0
  refine ret [] [.int .i64 (-1)] [] hf63 (by kernel_rfl) trivial ?_
  exact ⟨_, rfl, rfl, hm66⟩

/-! ### slices.ContainsFunc[[]float64,float64] -/
noncomputable def slices_ContainsFunc_float64_tensor_odd.f (x0 : (List Nat)) : Option Bool :=
  (slices_IndexFunc_float64_tensor_odd.f x0).bind fun r23 =>
  if 0 ≤ r23 then (some true)
  else (some false)
set_option maxRecDepth 100000 in
set_option maxHeartbeats 4000000 in
theorem slices_ContainsFunc_float64_tensor_odd.calls (M : List (Option Nat)) (w0 : World) (x0 : (List Nat)) (A0 : Option Addr) (n0 c0 : Nat) (e0 : n0 = x0.length) (hm0 : Mem [] M w0 [.sl Kd.float A0 c0 x0] w0) (r : Bool) (H0 : slices_ContainsFunc_float64_tensor_odd.f x0 = some r) :
    Calls Try.prog 46 [.slice A0 n0 c0, .func (.func 47) #[] #[]].toArray w0 (fun x w' => ∃ v, x = .returned v ∧ v = .bool r ∧ Mem [] M w0 [] w') := by
  subst e0
  unfold slices_ContainsFunc_float64_tensor_odd.f at H0
  refine enter (n := 9) Try.func46 rfl rfl (by kernel_rfl) fun a0 (hf0 : Fr 9 a0 [(0, .slice A0 x0.length c0), (1, .func (.func 47) #[] #[])]) => ?_
  refine wp_seq ?_
  refine reg [] [0, 1] [(0, .slice A0 x0.length c0), (1, .func (.func 47) #[] #[])] [] hf0 (by kernel_rfl) trivial fun a21 hf22 => ?_
  refine thenN ?_
  refine wp_seq ?_
  obtain ⟨r23, hr23, H0⟩ := ob_split H0
  rcases if_split H0 with ⟨c24, H0⟩ | ⟨c24, H0⟩
  · refine inReg ?_
    refine go 2 [] [5, 6] [(5, .slice A0 x0.length c0), (6, .func (.func 47) #[] #[])] [] hf22 (by kernel_rfl) trivial fun a25 hf26 => ?_
    refine listOf hf26 rfl (by kernel_rfl) (aCall (fid := 63) (args := [.slice A0 x0.length c0, .func (.func 47) #[] #[]]) (d := 7) hf26 (by kernel_rfl) (by kernel_rfl) callable63 (slices_IndexFunc_float64_tensor_odd.calls _ _ x0 A0 x0.length c0 rfl (hm0.give [0] [.sl Kd.float A0 c0 x0] rfl rfl) r23 hr23) ?_)
    rintro _ w27 a28 ⟨rfl, hk30⟩ hf29
    have hm31 := hm0.still hk30.cum.none
    refine go 2 [.bool true] [4] [(4, .bool true)] [.is (decide (0 ≤ r23) = true)] hf29 (by kernel_rfl) ⟨(decide_eq_true c24), trivial⟩ fun a32 hf33 => ?_
    refine endL rfl ?_
    have hm34 := hm31.sel [] _ rfl (by kernel_rfl)
    refine thenN ?_
    refine wp_ret ?_
    have hm35 : Mem [] M w0 [] w27 := hm34.sel [] _ rfl (by kernel_rfl)
    obtain rfl := Option.some.inj H0
    refine ret [] [.bool true] [] hf33 (by kernel_rfl) trivial ?_
    exact ⟨_, rfl, rfl, hm35⟩
  refine inReg ?_
  refine go 2 [] [5, 6] [(5, .slice A0 x0.length c0), (6, .func (.func 47) #[] #[])] [] hf22 (by kernel_rfl) trivial fun a37 hf38 => ?_
  refine listOf hf38 rfl (by kernel_rfl) (aCall (fid := 63) (args := [.slice A0 x0.length c0, .func (.func 47) #[] #[]]) (d := 7) hf38 (by kernel_rfl) (by kernel_rfl) callable63 (slices_IndexFunc_float64_tensor_odd.calls _ _ x0 A0 x0.length c0 rfl (hm0.give [0] [.sl Kd.float A0 c0 x0] rfl rfl) r23 hr23) ?_)
  rintro _ w39 a40 ⟨rfl, hk42⟩ hf41
  have hm43 := hm0.still hk42.cum.none
  refine go 2 [.bool false] [4] [(4, .bool false)] [.is (decide (0 ≤ r23) = false)] hf41 (by kernel_rfl) ⟨(decide_eq_false c24), trivial⟩ fun a44 hf45 => ?_
  refine endL rfl ?_
  have hm46 := hm43.sel [] _ rfl (by kernel_rfl)
  refine thenN ?_
  refine wp_ret ?_
  have hm47 : Mem [] M w0 [] w39 := hm46.sel [] _ rfl (by kernel_rfl)
  obtain rfl := Option.some.inj H0
  refine ret [] [.bool false] [] hf45 (by kernel_rfl) trivial ?_
  exact ⟨_, rfl, rfl, hm47⟩

/-! ### backstitch/tensor.Finite -/
noncomputable def tensor_Finite.f (x0 : Tensor) : Option Bool :=
  (tensor_May.f x0).bind fun r30 =>
  if r30 = true then ((slices_ContainsFunc_float64_tensor_odd.f x0.Data).bind fun r32 =>
  if r32 = true then (some false)
  else (some true))
  else (some false)
set_option maxRecDepth 100000 in
set_option maxHeartbeats 4000000 in
theorem tensor_Finite.calls (M : List (Option Nat)) (w0 : World) (x0 : Tensor) (A0_0 : Option Addr) (n0_0 c0_0 : Nat) (e0_0 : n0_0 = x0.Shape.length) (A0_1 : Option Addr) (n0_1 c0_1 : Nat) (e0_1 : n0_1 = x0.Data.length) (hm0 : Mem [] M w0 [.sl (Kd.int .i64) A0_0 c0_0 x0.Shape, .sl Kd.float A0_1 c0_1 x0.Data] w0) (r : Bool) (H0 : tensor_Finite.f x0 = some r) :
    Calls Try.prog 26 [.agg #[.slice A0_0 n0_0 c0_0, .slice A0_1 n0_1 c0_1]].toArray w0 (fun x w' => ∃ v, x = .returned v ∧ v = .bool r ∧ Mem [] M w0 [] w') := by
  subst e0_0
  subst e0_1
  unfold tensor_Finite.f at H0
  refine enter (n := 11) Try.func26 rfl rfl (by kernel_rfl) fun a0 (hf0 : Fr 11 a0 [(0, .agg #[.slice A0_0 x0.Shape.length c0_0, .slice A0_1 x0.Data.length c0_1])]) => ?_
  refine wp_seq ?_
  refine inReg ?_
  refine listOf hf0 rfl (by kernel_rfl) (aNew (cs := [.slice A0_0 x0.Shape.length c0_0, .slice A0_1 x0.Data.length c0_1]) (T := 25) (d := 1) hf0 (by kernel_rfl) (by kernel_rfl) ?_)
  intro b21 w22 a23 hbb21 hx25 hg26 hf24
  have hm27 := hm0.box hbb21 hx25 hg26
  refine go 1 [] [1] [(1, .pointer (some ⟨b21, 0, none⟩))] [] hf24 (by kernel_rfl) trivial fun a28 hf29 => ?_
  refine endL rfl ?_
  refine thenN ?_
  refine wp_seq ?_
  obtain ⟨r30, hr30, H0⟩ := ob_split H0
  rcases ifb_split H0 with ⟨c31, H0⟩ | ⟨c31, H0⟩
  rotate_left
  · refine inReg ?_
    refine go 1 [.agg #[.slice A0_0 x0.Shape.length c0_0, .slice A0_1 x0.Data.length c0_1]] [1, 3] [(1, .pointer (some ⟨b21, 0, none⟩)), (3, .agg #[.slice A0_0 x0.Shape.length c0_0, .slice A0_1 x0.Data.length c0_1])] [.cell ⟨b21, 0, none⟩ (.slice A0_0 x0.Shape.length c0_0), .cell ⟨b21, 1, none⟩ (.slice A0_1 x0.Data.length c0_1)] hf29 (by kernel_rfl) ⟨(hm27.cell 0 rfl rfl), (hm27.cell 0 rfl rfl), trivial⟩ fun a73 hf74 => ?_
    refine listOf hf74 rfl (by kernel_rfl) (aCall (fid := 25) (args := [.agg #[.slice A0_0 x0.Shape.length c0_0, .slice A0_1 x0.Data.length c0_1]]) (d := 4) hf74 (by kernel_rfl) (by kernel_rfl) callable25 (tensor_May.calls _ _ x0 A0_0 x0.Shape.length c0_0 rfl A0_1 x0.Data.length c0_1 rfl (hm27.give [1, 2] [.sl (Kd.int .i64) A0_0 c0_0 x0.Shape, .sl Kd.float A0_1 c0_1 x0.Data] rfl rfl) r30 hr30) ?_)
    rintro _ w75 a76 ⟨rfl, hk78⟩ hf77
    have hm79 := hm27.still hk78.cum.none
    rw [c31] at hf77
    refine go 7 [] [2] [(2, .bool false)] [] hf77 (by kernel_rfl) trivial fun a80 hf81 => ?_
    refine endL rfl ?_
    have hm82 := hm79.sel [] _ rfl (by kernel_rfl)
    refine thenN ?_
    refine wp_ret ?_
    have hm83 : Mem [] M w0 [] w75 := hm82.sel [] _ rfl (by kernel_rfl)
    obtain rfl := Option.some.inj H0
    refine ret [] [.bool false] [] hf81 (by kernel_rfl) trivial ?_
    exact ⟨_, rfl, rfl, hm83⟩
  obtain ⟨r32, hr32, H0⟩ := ob_split H0
  rcases ifb_split H0 with ⟨c33, H0⟩ | ⟨c33, H0⟩
  · refine inReg ?_
    refine go 1 [.agg #[.slice A0_0 x0.Shape.length c0_0, .slice A0_1 x0.Data.length c0_1]] [1, 3] [(1, .pointer (some ⟨b21, 0, none⟩)), (3, .agg #[.slice A0_0 x0.Shape.length c0_0, .slice A0_1 x0.Data.length c0_1])] [.cell ⟨b21, 0, none⟩ (.slice A0_0 x0.Shape.length c0_0), .cell ⟨b21, 1, none⟩ (.slice A0_1 x0.Data.length c0_1)] hf29 (by kernel_rfl) ⟨(hm27.cell 0 rfl rfl), (hm27.cell 0 rfl rfl), trivial⟩ fun a34 hf35 => ?_
    refine listOf hf35 rfl (by kernel_rfl) (aCall (fid := 25) (args := [.agg #[.slice A0_0 x0.Shape.length c0_0, .slice A0_1 x0.Data.length c0_1]]) (d := 4) hf35 (by kernel_rfl) (by kernel_rfl) callable25 (tensor_May.calls _ _ x0 A0_0 x0.Shape.length c0_0 rfl A0_1 x0.Data.length c0_1 rfl (hm27.give [1, 2] [.sl (Kd.int .i64) A0_0 c0_0 x0.Shape, .sl Kd.float A0_1 c0_1 x0.Data] rfl rfl) r30 hr30) ?_)
    rintro _ w36 a37 ⟨rfl, hk39⟩ hf38
    have hm40 := hm27.still hk39.cum.none
    rw [c31] at hf38
    refine go 3 [.slice A0_1 x0.Data.length c0_1] [5, 7] [(5, .bool true), (7, .slice A0_1 x0.Data.length c0_1)] [.cell ⟨b21, 1, none⟩ (.slice A0_1 x0.Data.length c0_1)] hf38 (by kernel_rfl) ⟨(hm40.cell 0 rfl rfl), trivial⟩ fun a41 hf42 => ?_
    refine listOf hf42 rfl (by kernel_rfl) (aCall (fid := 46) (args := [.slice A0_1 x0.Data.length c0_1, .func (.func 47) #[] #[]]) (d := 8) hf42 (by kernel_rfl) (by kernel_rfl) callable46 (slices_ContainsFunc_float64_tensor_odd.calls _ _ x0.Data A0_1 x0.Data.length c0_1 rfl (hm40.give [2] [.sl Kd.float A0_1 c0_1 x0.Data] rfl rfl) r32 hr32) ?_)
    rintro _ w43 a44 ⟨rfl, hk46⟩ hf45
    have hm47 := hm40.still hk46.cum.none
    rw [c33] at hf45
    refine go 3 [] [2] [(2, .bool false)] [] hf45 (by kernel_rfl) trivial fun a48 hf49 => ?_
    refine endL rfl ?_
    have hm50 := hm47.sel [] _ rfl (by kernel_rfl)
    refine thenN ?_
    refine wp_ret ?_
    have hm51 : Mem [] M w0 [] w43 := hm50.sel [] _ rfl (by kernel_rfl)
    obtain rfl := Option.some.inj H0
    refine ret [] [.bool false] [] hf49 (by kernel_rfl) trivial ?_
    exact ⟨_, rfl, rfl, hm51⟩
  refine inReg ?_
  refine go 1 [.agg #[.slice A0_0 x0.Shape.length c0_0, .slice A0_1 x0.Data.length c0_1]] [1, 3] [(1, .pointer (some ⟨b21, 0, none⟩)), (3, .agg #[.slice A0_0 x0.Shape.length c0_0, .slice A0_1 x0.Data.length c0_1])] [.cell ⟨b21, 0, none⟩ (.slice A0_0 x0.Shape.length c0_0), .cell ⟨b21, 1, none⟩ (.slice A0_1 x0.Data.length c0_1)] hf29 (by kernel_rfl) ⟨(hm27.cell 0 rfl rfl), (hm27.cell 0 rfl rfl), trivial⟩ fun a53 hf54 => ?_
  refine listOf hf54 rfl (by kernel_rfl) (aCall (fid := 25) (args := [.agg #[.slice A0_0 x0.Shape.length c0_0, .slice A0_1 x0.Data.length c0_1]]) (d := 4) hf54 (by kernel_rfl) (by kernel_rfl) callable25 (tensor_May.calls _ _ x0 A0_0 x0.Shape.length c0_0 rfl A0_1 x0.Data.length c0_1 rfl (hm27.give [1, 2] [.sl (Kd.int .i64) A0_0 c0_0 x0.Shape, .sl Kd.float A0_1 c0_1 x0.Data] rfl rfl) r30 hr30) ?_)
  rintro _ w55 a56 ⟨rfl, hk58⟩ hf57
  have hm59 := hm27.still hk58.cum.none
  rw [c31] at hf57
  refine go 3 [.slice A0_1 x0.Data.length c0_1] [5, 7] [(5, .bool true), (7, .slice A0_1 x0.Data.length c0_1)] [.cell ⟨b21, 1, none⟩ (.slice A0_1 x0.Data.length c0_1)] hf57 (by kernel_rfl) ⟨(hm59.cell 0 rfl rfl), trivial⟩ fun a60 hf61 => ?_
  refine listOf hf61 rfl (by kernel_rfl) (aCall (fid := 46) (args := [.slice A0_1 x0.Data.length c0_1, .func (.func 47) #[] #[]]) (d := 8) hf61 (by kernel_rfl) (by kernel_rfl) callable46 (slices_ContainsFunc_float64_tensor_odd.calls _ _ x0.Data A0_1 x0.Data.length c0_1 rfl (hm59.give [2] [.sl Kd.float A0_1 c0_1 x0.Data] rfl rfl) r32 hr32) ?_)
  rintro _ w62 a63 ⟨rfl, hk66⟩ hf65
  have hm67 := hm59.still hk66.cum.none
  rw [c33] at hf65
  refine go 3 [] [2] [(2, .bool true)] [] hf65 (by kernel_rfl) trivial fun a68 hf69 => ?_
  refine endL rfl ?_
  have hm70 := hm67.sel [] _ rfl (by kernel_rfl)
  refine thenN ?_
  refine wp_ret ?_
  have hm71 : Mem [] M w0 [] w62 := hm70.sel [] _ rfl (by kernel_rfl)
  obtain rfl := Option.some.inj H0
  refine ret [] [.bool true] [] hf69 (by kernel_rfl) trivial ?_
  exact ⟨_, rfl, rfl, hm71⟩
end Go.Proofs.Ytkcgiolledmbnac
