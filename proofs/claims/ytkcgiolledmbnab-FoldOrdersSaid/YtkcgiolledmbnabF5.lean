/- Printed by gen.py. -/
import Derived.Test.YtkcgiolledmbnabF1
import Derived.Test.YtkcgiolledmbnabF2
import Derived.Test.YtkcgiolledmbnabF3
import Derived.Test.YtkcgiolledmbnabF4
namespace Go.Proofs.Ytkcgiolledmbnab
open Go Go.RowKit
set_option linter.unusedSimpArgs false
set_option linter.unusedVariables false
set_option linter.unnecessarySimpa false
/-! ### (*backstitch/fold.Slots).Value -/
noncomputable def fold_Slots_Value.f (x0 : Slots) : Option (Tensor × Int) :=
  if 0 < x0.left then (some ((⟨([] : (List Int)), ([] : (List Nat))⟩ : Tensor), 1))
  else (if (x0.l.length : Int) = 0 then ((tensor_New.f x0.s 0).bind fun r50 =>
  some (r50.1, r50.2))
  else ((fold_Tree.f x0.l).bind fun r75 =>
  some (r75.1, r75.2)))
set_option maxRecDepth 100000 in
set_option maxHeartbeats 4000000 in
theorem fold_Slots_Value.calls (B0 : List (Option Nat)) (M : List (Option Nat)) (w0 : World) (x0 : Slots) (b0 : Nat) (A0_0 : Option Addr) (n0_0 c0_0 : Nat) (e0_0 : n0_0 = x0.s.length) (A0_1 : Option Addr) (n0_1 c0_1 : Nat) (e0_1 : n0_1 = x0.l.length) (A0_2 : Option Addr) (n0_2 c0_2 : Nat) (e0_2 : n0_2 = x0.filled.length) (hm0 : Mem B0 M w0 [.bx b0 [.slice A0_0 n0_0 c0_0, .slice A0_1 n0_1 c0_1, .slice A0_2 n0_2 c0_2, .int .i64 x0.left] 80, .ow kTensor 28 A0_1 c0_1 x0.l, .ow Kd.bool 4 A0_2 c0_2 x0.filled, .sl (Kd.int .i64) A0_0 c0_0 x0.s] w0) (r : (Tensor × Int)) (H0 : fold_Slots_Value.f x0 = some r) :
    Calls Try.prog 21 [.pointer (some ⟨b0, 0, none⟩)].toArray w0 (fun x w' => ∃ v, x = .returned v ∧ ∃ Ar0_0 cr0_0 Ar0_1 cr0_1, v = .tuple #[.agg #[.slice Ar0_0 r.1.Shape.length cr0_0, .slice Ar0_1 r.1.Data.length cr0_1], .int .i64 r.2] ∧ Mem B0 M w0 [.bx b0 [.slice A0_0 x0.s.length c0_0, .slice A0_1 x0.l.length c0_1, .slice A0_2 x0.filled.length c0_2, .int .i64 x0.left] 80, .ow kTensor 28 A0_1 c0_1 x0.l, .ow Kd.bool 4 A0_2 c0_2 x0.filled, .ow (Kd.int .i64) 3 Ar0_0 cr0_0 r.1.Shape, .ow Kd.float 44 Ar0_1 cr0_1 r.1.Data] w') := by
  subst e0_0
  subst e0_1
  subst e0_2
  unfold fold_Slots_Value.f at H0
  refine enter (n := 36) Try.func21 rfl rfl (by kernel_rfl) fun a0 (hf0 : Fr 36 a0 [(0, .pointer (some ⟨b0, 0, none⟩))]) => ?_
  refine wp_seq ?_
  refine inReg ?_
  refine listOf hf0 rfl (by kernel_rfl) (aNew (cs := [.slice none 0 0, .slice none 0 0]) (T := 28) (d := 2) hf0 (by kernel_rfl) (by kernel_rfl) ?_)
  intro b21 w22 a23 hbb21 hx25 hg26 hf24
  have hm27 := hm0.box hbb21 hx25 hg26
  refine go 1 [] [0, 2] [(0, .pointer (some ⟨b0, 0, none⟩)), (2, .pointer (some ⟨b21, 0, none⟩))] [] hf24 (by kernel_rfl) trivial fun a28 hf29 => ?_
  refine endL rfl ?_
  refine thenN ?_
  refine wp_seq ?_
  refine wp_block ?_
  refine wp_seq ?_
  rcases if_split H0 with ⟨c30, H0⟩ | ⟨c30, H0⟩
  · refine reg [.int .i64 x0.left, .bool true] [0, 2, 4] [(0, .pointer (some ⟨b0, 0, none⟩)), (2, .pointer (some ⟨b21, 0, none⟩)), (4, .bool true)] [.cell ⟨b0, 3, none⟩ (.int .i64 x0.left), .is (decide (0 < x0.left) = true)] hf29 (by kernel_rfl) ⟨(hm27.cell 1 rfl rfl), (decide_eq_true c30), trivial⟩ fun a31 hf32 => ?_
    refine thenN ?_
    refine condT hf32 (by kernel_rfl) ?_
    refine wp_seq ?_
    refine inReg ?_
    refine go 1 [] [2, 14] [(2, .pointer (some ⟨b21, 0, none⟩)), (14, .agg #[.slice none 0 0, .slice none 0 0])] [] hf32 (by kernel_rfl) trivial fun a33 hf34 => ?_
    refine listOf hf34 rfl (by kernel_rfl) (aStoreB (b := b21) (j := 0) (T := 28) (cs := [.slice none 0 0, .slice none 0 0]) (us := [.slice none 0 0, .slice none 0 0]) (cs' := [.slice none 0 0, .slice none 0 0]) hf34 (by kernel_rfl) (hm27.bxAt 0 rfl) (by kernel_rfl) (by kernel_rfl) (by kernel_rfl) ?_)
    intro w35 hx36 hg37
    have hm38 := hm27.setBox 0 _ rfl rfl hx36 hg37
    refine go 1 [] [2, 3] [(2, .pointer (some ⟨b21, 0, none⟩)), (3, .int .i64 1)] [] hf34 (by kernel_rfl) trivial fun a39 hf40 => ?_
    refine endL rfl ?_
    refine thenN ?_
    refine wp_ret ?_
    refine blkR ?_
    refine thenR ?_
    have hm41 := hm38.nilOw (Kd.int .i64) 3
    have hm42 := hm41.nilOw Kd.float 44
    have hm43 : Mem B0 M w0 [.bx b0 [.slice A0_0 x0.s.length c0_0, .slice A0_1 x0.l.length c0_1, .slice A0_2 x0.filled.length c0_2, .int .i64 x0.left] 80, .ow kTensor 28 A0_1 c0_1 x0.l, .ow Kd.bool 4 A0_2 c0_2 x0.filled, .ow (Kd.int .i64) 3 none 0 ([] : (List Int)), .ow Kd.float 44 none 0 ([] : (List Nat))] w35 := hm42.sel [3, 4, 5, 1, 0] _ rfl (by kernel_rfl)
    obtain rfl := Option.some.inj H0
    refine ret [.agg #[.slice none 0 0, .slice none 0 0]] [.agg #[.slice none 0 0, .slice none 0 0], .int .i64 1] [.cell ⟨b21, 0, none⟩ (.slice none 0 0), .cell ⟨b21, 1, none⟩ (.slice none 0 0)] hf40 (by kernel_rfl) ⟨(hm38.cell 0 rfl rfl), (hm38.cell 0 rfl rfl), trivial⟩ ?_
    exact ⟨_, rfl, none, 0, none, 0, rfl, hm43⟩
  refine reg [.int .i64 x0.left, .bool false] [0, 2, 4] [(0, .pointer (some ⟨b0, 0, none⟩)), (2, .pointer (some ⟨b21, 0, none⟩)), (4, .bool false)] [.cell ⟨b0, 3, none⟩ (.int .i64 x0.left), .is (decide (0 < x0.left) = false)] hf29 (by kernel_rfl) ⟨(hm27.cell 1 rfl rfl), (decide_eq_false c30), trivial⟩ fun a45 hf46 => ?_
  refine thenN ?_
  refine condF hf46 (by kernel_rfl) ?_
  refine wp_seq ?_
  rcases if_split H0 with ⟨c47, H0⟩ | ⟨c47, H0⟩
  · refine reg [.slice A0_1 x0.l.length c0_1, .bool true] [0, 2, 15] [(0, .pointer (some ⟨b0, 0, none⟩)), (2, .pointer (some ⟨b21, 0, none⟩)), (15, .bool true)] [.cell ⟨b0, 1, none⟩ (.slice A0_1 x0.l.length c0_1), .is ((((x0.l.length : Int) : Int) == 0) = true)] hf46 (by kernel_rfl) ⟨(hm27.cell 1 rfl rfl), (eqT c47), trivial⟩ fun a48 hf49 => ?_
    refine thenN ?_
    refine condT hf49 (by kernel_rfl) ?_
    refine wp_seq ?_
    obtain ⟨r50, hr50, H0⟩ := ob_split H0
    refine inReg ?_
    refine go 4 [.slice A0_0 x0.s.length c0_0] [2, 25] [(2, .pointer (some ⟨b21, 0, none⟩)), (25, .slice A0_0 x0.s.length c0_0)] [.cell ⟨b0, 0, none⟩ (.slice A0_0 x0.s.length c0_0)] hf49 (by kernel_rfl) ⟨(hm27.cell 1 rfl rfl), trivial⟩ fun a51 hf52 => ?_
    refine listOf hf52 rfl (by kernel_rfl) (aCall (fid := 27) (args := [.slice A0_0 x0.s.length c0_0, .float .f64 0]) (d := 26) hf52 (by kernel_rfl) (by kernel_rfl) callable27 (tensor_New.calls _ _ x0.s A0_0 x0.s.length c0_0 rfl 0 0 ((FR.lit (by kernel_rfl) (by kernel_rfl))) (hm27.give [4] [.sl (Kd.int .i64) A0_0 c0_0 x0.s] rfl rfl) r50 hr50) ?_)
    rintro _ w57 a58 ⟨A53, c54, A55, c56, rfl, hk60⟩ hf59
    have hm61 := hm27.back hk60
    refine go 2 [] [2, 27, 28] [(2, .pointer (some ⟨b21, 0, none⟩)), (27, .agg #[.slice A53 r50.1.Shape.length c54, .slice A55 r50.1.Data.length c56]), (28, .int .i64 r50.2)] [] hf59 (by kernel_rfl) trivial fun a62 hf63 => ?_
    refine listOf hf63 rfl (by kernel_rfl) (aStoreB (b := b21) (j := 0) (T := 28) (cs := [.slice none 0 0, .slice none 0 0]) (us := [.slice A53 r50.1.Shape.length c54, .slice A55 r50.1.Data.length c56]) (cs' := [.slice A53 r50.1.Shape.length c54, .slice A55 r50.1.Data.length c56]) hf63 (by kernel_rfl) (hm61.bxAt 2 rfl) (by kernel_rfl) (by kernel_rfl) (by kernel_rfl) ?_)
    intro w65 hx66 hg67
    have hm68 := hm61.setBox 2 _ rfl rfl hx66 hg67
    refine go 1 [] [2, 3] [(2, .pointer (some ⟨b21, 0, none⟩)), (3, .int .i64 r50.2)] [] hf63 (by kernel_rfl) trivial fun a69 hf70 => ?_
    refine endL rfl ?_
    refine thenN ?_
    refine wp_ret ?_
    refine blkR ?_
    refine thenR ?_
    have hm71 : Mem B0 M w0 [.bx b0 [.slice A0_0 x0.s.length c0_0, .slice A0_1 x0.l.length c0_1, .slice A0_2 x0.filled.length c0_2, .int .i64 x0.left] 80, .ow kTensor 28 A0_1 c0_1 x0.l, .ow Kd.bool 4 A0_2 c0_2 x0.filled, .ow (Kd.int .i64) 3 A53 c54 r50.1.Shape, .ow Kd.float 44 A55 c56 r50.1.Data] w65 := hm68.sel [3, 4, 5, 0, 1] _ rfl (by kernel_rfl)
    obtain rfl := Option.some.inj H0
    refine ret [.agg #[.slice A53 r50.1.Shape.length c54, .slice A55 r50.1.Data.length c56]] [.agg #[.slice A53 r50.1.Shape.length c54, .slice A55 r50.1.Data.length c56], .int .i64 r50.2] [.cell ⟨b21, 0, none⟩ (.slice A53 r50.1.Shape.length c54), .cell ⟨b21, 1, none⟩ (.slice A55 r50.1.Data.length c56)] hf70 (by kernel_rfl) ⟨(hm68.cell 2 rfl rfl), (hm68.cell 2 rfl rfl), trivial⟩ ?_
    exact ⟨_, rfl, A53, c54, A55, c56, rfl, hm71⟩
  refine reg [.slice A0_1 x0.l.length c0_1, .bool false] [0, 2, 15] [(0, .pointer (some ⟨b0, 0, none⟩)), (2, .pointer (some ⟨b21, 0, none⟩)), (15, .bool false)] [.cell ⟨b0, 1, none⟩ (.slice A0_1 x0.l.length c0_1), .is ((((x0.l.length : Int) : Int) == 0) = false)] hf46 (by kernel_rfl) ⟨(hm27.cell 1 rfl rfl), (eqF c47), trivial⟩ fun a73 hf74 => ?_
  refine thenN ?_
  refine condF hf74 (by kernel_rfl) ?_
  refine wp_skip ?_
  refine blkN ?_
  refine thenN ?_
  refine wp_seq ?_
  obtain ⟨r75, hr75, H0⟩ := ob_split H0
  refine inReg ?_
  refine go 4 [.slice A0_1 x0.l.length c0_1] [2, 32] [(2, .pointer (some ⟨b21, 0, none⟩)), (32, .slice A0_1 x0.l.length c0_1)] [.cell ⟨b0, 1, none⟩ (.slice A0_1 x0.l.length c0_1)] hf74 (by kernel_rfl) ⟨(hm27.cell 1 rfl rfl), trivial⟩ fun a76 hf77 => ?_
  have hm78 : Mem B0 M w0 [.bx b21 [.slice none 0 0, .slice none 0 0] 28, .bx b0 [.slice A0_0 x0.s.length c0_0, .slice A0_1 x0.l.length c0_1, .slice A0_2 x0.filled.length c0_2, .int .i64 x0.left] 80, .sl kTensor A0_1 c0_1 x0.l, .ow Kd.bool 4 A0_2 c0_2 x0.filled, .sl (Kd.int .i64) A0_0 c0_0 x0.s] w22 := hm27.seal 2 _ rfl rfl
  refine listOf hf77 rfl (by kernel_rfl) (aCall (fid := 17) (args := [.slice A0_1 x0.l.length c0_1]) (d := 33) hf77 (by kernel_rfl) (by kernel_rfl) callable17 (fold_Tree.calls _ _ x0.l A0_1 x0.l.length c0_1 rfl (hm78.give [2] [.sl kTensor A0_1 c0_1 x0.l] rfl rfl) r75 hr75) ?_)
  rintro _ w83 a84 ⟨A79, c80, A81, c82, rfl, hk86⟩ hf85
  have hm87 := hm27.backF hk86 ⟨Kd.flat_int _, Kd.flat_float, trivial⟩
  refine go 2 [] [2, 34, 35] [(2, .pointer (some ⟨b21, 0, none⟩)), (34, .agg #[.slice A79 r75.1.Shape.length c80, .slice A81 r75.1.Data.length c82]), (35, .int .i64 r75.2)] [] hf85 (by kernel_rfl) trivial fun a88 hf89 => ?_
  refine listOf hf89 rfl (by kernel_rfl) (aStoreB (b := b21) (j := 0) (T := 28) (cs := [.slice none 0 0, .slice none 0 0]) (us := [.slice A79 r75.1.Shape.length c80, .slice A81 r75.1.Data.length c82]) (cs' := [.slice A79 r75.1.Shape.length c80, .slice A81 r75.1.Data.length c82]) hf89 (by kernel_rfl) (hm87.bxAt 2 rfl) (by kernel_rfl) (by kernel_rfl) (by kernel_rfl) ?_)
  intro w90 hx91 hg92
  have hm93 := hm87.setBox 2 _ rfl rfl hx91 hg92
  refine go 1 [] [2, 3] [(2, .pointer (some ⟨b21, 0, none⟩)), (3, .int .i64 r75.2)] [] hf89 (by kernel_rfl) trivial fun a94 hf95 => ?_
  refine endL rfl ?_
  refine thenN ?_
  refine wp_ret ?_
  have hm96 : Mem B0 M w0 [.bx b0 [.slice A0_0 x0.s.length c0_0, .slice A0_1 x0.l.length c0_1, .slice A0_2 x0.filled.length c0_2, .int .i64 x0.left] 80, .ow kTensor 28 A0_1 c0_1 x0.l, .ow Kd.bool 4 A0_2 c0_2 x0.filled, .ow (Kd.int .i64) 3 A79 c80 r75.1.Shape, .ow Kd.float 44 A81 c82 r75.1.Data] w90 := hm93.sel [3, 4, 5, 0, 1] _ rfl (by kernel_rfl)
  obtain rfl := Option.some.inj H0
  refine ret [.agg #[.slice A79 r75.1.Shape.length c80, .slice A81 r75.1.Data.length c82]] [.agg #[.slice A79 r75.1.Shape.length c80, .slice A81 r75.1.Data.length c82], .int .i64 r75.2] [.cell ⟨b21, 0, none⟩ (.slice A79 r75.1.Shape.length c80), .cell ⟨b21, 1, none⟩ (.slice A81 r75.1.Data.length c82)] hf95 (by kernel_rfl) ⟨(hm93.cell 2 rfl rfl), (hm93.cell 2 rfl rfl), trivial⟩ ?_
  exact ⟨_, rfl, A79, c80, A81, c82, rfl, hm96⟩

/-! ### (*backstitch/fold.Slots).Left -/
noncomputable def fold_Slots_Left.f (x0 : Slots) : Option Int :=
  some x0.left
set_option maxRecDepth 100000 in
set_option maxHeartbeats 4000000 in
theorem fold_Slots_Left.calls (B0 : List (Option Nat)) (M : List (Option Nat)) (w0 : World) (x0 : Slots) (b0 : Nat) (A0_0 : Option Addr) (n0_0 c0_0 : Nat) (e0_0 : n0_0 = x0.s.length) (A0_1 : Option Addr) (n0_1 c0_1 : Nat) (e0_1 : n0_1 = x0.l.length) (A0_2 : Option Addr) (n0_2 c0_2 : Nat) (e0_2 : n0_2 = x0.filled.length) (hm0 : Mem B0 M w0 [.bx b0 [.slice A0_0 n0_0 c0_0, .slice A0_1 n0_1 c0_1, .slice A0_2 n0_2 c0_2, .int .i64 x0.left] 80, .ow kTensor 28 A0_1 c0_1 x0.l, .ow Kd.bool 4 A0_2 c0_2 x0.filled, .sl (Kd.int .i64) A0_0 c0_0 x0.s] w0) (r : Int) (H0 : fold_Slots_Left.f x0 = some r) :
    Calls Try.prog 22 [.pointer (some ⟨b0, 0, none⟩)].toArray w0 (fun x w' => ∃ v, x = .returned v ∧ v = .int .i64 r ∧ Mem B0 M w0 [.bx b0 [.slice A0_0 x0.s.length c0_0, .slice A0_1 x0.l.length c0_1, .slice A0_2 x0.filled.length c0_2, .int .i64 x0.left] 80, .ow kTensor 28 A0_1 c0_1 x0.l, .ow Kd.bool 4 A0_2 c0_2 x0.filled] w') := by
  subst e0_0
  subst e0_1
  subst e0_2
  unfold fold_Slots_Left.f at H0
  refine enter (n := 9) Try.func22 rfl rfl (by kernel_rfl) fun a0 (hf0 : Fr 9 a0 [(0, .pointer (some ⟨b0, 0, none⟩))]) => ?_
  refine wp_seq ?_
  refine reg [] [0] [(0, .pointer (some ⟨b0, 0, none⟩))] [] hf0 (by kernel_rfl) trivial fun a21 hf22 => ?_
  refine thenN ?_
  refine wp_seq ?_
  refine wp_seq ?_
  refine reg [] [0, 4] [(0, .pointer (some ⟨b0, 0, none⟩)), (4, .bool false)] [] hf22 (by kernel_rfl) trivial fun a23 hf24 => ?_
  refine thenN ?_
  refine condF hf24 (by kernel_rfl) ?_
  refine wp_skip ?_
  refine thenN ?_
  refine wp_seq ?_
  refine reg [.int .i64 x0.left] [2] [(2, .int .i64 x0.left)] [.cell ⟨b0, 3, none⟩ (.int .i64 x0.left)] hf24 (by kernel_rfl) ⟨(hm0.cell 0 rfl rfl), trivial⟩ fun a25 hf26 => ?_
  refine thenN ?_
  refine wp_ret ?_
  have hm27 : Mem B0 M w0 [.bx b0 [.slice A0_0 x0.s.length c0_0, .slice A0_1 x0.l.length c0_1, .slice A0_2 x0.filled.length c0_2, .int .i64 x0.left] 80, .ow kTensor 28 A0_1 c0_1 x0.l, .ow Kd.bool 4 A0_2 c0_2 x0.filled] w0 := hm0.sel [0, 1, 2] _ rfl (by kernel_rfl)
  obtain rfl := Option.some.inj H0
  refine ret [] [.int .i64 x0.left] [] hf26 (by kernel_rfl) trivial ?_
  exact ⟨_, rfl, rfl, hm27⟩

/-! ### backstitch/backstitchlaw8.awake -/
noncomputable def law8_awake.f  : Option Bool :=
  (fold_New.f ([1] : List Int) 2).bind fun r23 =>
  onPtr r23.1 (fun y25 =>
  if r23.2 = 0 then ((fold_Slots_Put.f y25 1 (⟨([1] : List Int), ([4611686018427387904] : List Nat)⟩ : Tensor)).bind fun r80 =>
  (fold_Slots_Put.f (⟨y25.s, r80.1, r80.2.1, r80.2.2.1⟩ : Slots) 0 (⟨([1] : List Int), ([4607182418800017408] : List Nat)⟩ : Tensor)).bind fun r111 =>
  (fold_Slots_Value.f (⟨y25.s, r111.1, r111.2.1, r111.2.2.1⟩ : Slots)).bind fun r142 =>
  if r80.2.2.2 = 0 then (if r111.2.2.2 = 0 then (if r142.2 = 0 then ((fold_Slots_Left.f (⟨y25.s, r111.1, r111.2.1, r111.2.2.1⟩ : Slots)).bind fun r174 =>
  if r174 = 0 then (if (r142.1.Data.length : Int) = 1 then (if (0 : Int) ≤ 0 ∧ 0 < (r142.1.Data.length : Int) then (if (feq (rd r142.1.Data 0) 4613937818241073152) = true then (some true)
  else (some false))
  else none)
  else (some false))
  else (some false))
  else (some false))
  else (some false))
  else (some false))
  else (some false)) (if r23.2 = 0 then (some false)
  else (some false))
set_option maxRecDepth 100000 in
set_option maxHeartbeats 4000000 in
theorem law8_awake.calls (M : List (Option Nat)) (w0 : World)  (hm0 : Mem [] M w0 [] w0) (r : Bool) (H0 : law8_awake.f = some r) :
    Calls Try.prog 15 [].toArray w0 (fun x w' => ∃ v, x = .returned v ∧ v = .bool r ∧ Mem [] M w0 [] w') := by
  unfold law8_awake.f at H0
  refine enter (n := 61) Try.func15 rfl rfl (by kernel_rfl) fun a0 (hf0 : Fr 61 a0 []) => ?_
  refine wp_seq ?_
  refine reg [] [] [] [] hf0 (by kernel_rfl) trivial fun a21 hf22 => ?_
  refine thenN ?_
  refine wp_seq ?_
  obtain ⟨r23, hr23, H0⟩ := ob_split H0
  rcases ptr_split H0 with ⟨c24, H0⟩ | ⟨y25, c24, H0⟩
  · refine inReg ?_
    refine listOf hf22 rfl (by kernel_rfl) (aLit (cs := [.int .i64 1]) (E := 3) (len := 1) (d := 8) hf22 (by kernel_rfl) (by kernel_rfl) ?_)
    intro b26 w27 a28 hbb26 hx30 hg31 hf29
    have hm0s := hm0.still hg31
    have hm32 := Mem.lit (kd := (Kd.int .i64)) (xs := ([1] : List Int)) hm0 hbb26 hx30 hg31 (Els.one (kd := (Kd.int .i64)) (us := [.int .i64 1]) (x := 1) rfl)
    refine listOf hf29 rfl (by kernel_rfl) (aCall (fid := 20) (args := [.slice (some ⟨b26, 0, none⟩) 1 1, .int .i64 2]) (d := 9) hf29 (by kernel_rfl) (by kernel_rfl) callable20 (fold_New.calls_n _ _ ([1] : List Int) (some ⟨b26, 0, none⟩) 1 1 rfl 2 (hm32.give [0] [.sl (Kd.int .i64) (some ⟨b26, 0, none⟩) 1 ([1] : List Int)] rfl rfl) r23 c24 hr23) ?_)
    rintro _ w33 a34 ⟨rfl, hk36⟩ hf35
    have hm37 := hm32.still hk36.cum.none
    refine go 5 [] [1, 2] [(1, .pointer none), (2, .int .i64 r23.2)] [] hf35 (by kernel_rfl) trivial fun a38 hf39 => ?_
    refine endL rfl ?_
    have hm40 := hm37.sel [] _ rfl (by kernel_rfl)
    refine thenN ?_
    refine wp_seq ?_
    refine wp_seq ?_
    rcases if_split H0 with ⟨c41, H0⟩ | ⟨c41, H0⟩
    · refine reg [.bool false] [1, 17] [(1, .pointer none), (17, .bool true)] [.is (((r23.2 : Int) != 0) = false)] hf39 (by kernel_rfl) ⟨(neF c41), trivial⟩ fun a42 hf43 => ?_
      refine thenN ?_
      refine condT hf43 (by kernel_rfl) ?_
      refine wp_seq ?_
      refine reg [] [0] [(0, .bool false)] [] hf43 (by kernel_rfl) trivial fun a44 hf45 => ?_
      refine thenN ?_
      refine wp_ret ?_
      refine thenR ?_
      have hm46 : Mem [] M w0 [] w33 := hm40.sel [] _ rfl (by kernel_rfl)
      obtain rfl := Option.some.inj H0
      refine ret [] [.bool false] [] hf45 (by kernel_rfl) trivial ?_
      exact ⟨_, rfl, rfl, hm46⟩
    refine reg [.bool true] [1, 17] [(1, .pointer none), (17, .bool true)] [.is (((r23.2 : Int) != 0) = true)] hf39 (by kernel_rfl) ⟨(neT c41), trivial⟩ fun a48 hf49 => ?_
    refine thenN ?_
    refine condT hf49 (by kernel_rfl) ?_
    refine wp_seq ?_
    refine reg [] [0] [(0, .bool false)] [] hf49 (by kernel_rfl) trivial fun a50 hf51 => ?_
    refine thenN ?_
    refine wp_ret ?_
    refine thenR ?_
    have hm52 : Mem [] M w0 [] w33 := hm40.sel [] _ rfl (by kernel_rfl)
    obtain rfl := Option.some.inj H0
    refine ret [] [.bool false] [] hf51 (by kernel_rfl) trivial ?_
    exact ⟨_, rfl, rfl, hm52⟩
  · refine inReg ?_
    refine listOf hf22 rfl (by kernel_rfl) (aLit (cs := [.int .i64 1]) (E := 3) (len := 1) (d := 8) hf22 (by kernel_rfl) (by kernel_rfl) ?_)
    intro b54 w55 a56 hbb54 hx58 hg59 hf57
    have hm0s := hm0.still hg59
    have hm60 := Mem.lit (kd := (Kd.int .i64)) (xs := ([1] : List Int)) hm0 hbb54 hx58 hg59 (Els.one (kd := (Kd.int .i64)) (us := [.int .i64 1]) (x := 1) rfl)
    refine listOf hf57 rfl (by kernel_rfl) (aCall (fid := 20) (args := [.slice (some ⟨b54, 0, none⟩) 1 1, .int .i64 2]) (d := 9) hf57 (by kernel_rfl) (by kernel_rfl) callable20 (fold_New.calls_s _ _ ([1] : List Int) (some ⟨b54, 0, none⟩) 1 1 rfl 2 (hm60.give [0] [.sl (Kd.int .i64) (some ⟨b54, 0, none⟩) 1 ([1] : List Int)] rfl rfl) r23 y25 c24 hr23) ?_)
    rintro _ w69 a70 ⟨b61, A62, c63, A65, c66, A67, c68, rfl, hk72⟩ hf71
    have hm73 := hm60.back hk72
    refine go 5 [] [1, 2] [(1, .pointer (some ⟨b61, 0, none⟩)), (2, .int .i64 r23.2)] [] hf71 (by kernel_rfl) trivial fun a74 hf75 => ?_
    refine endL rfl ?_
    have hm76 := hm73.sel [0, 1, 2, 3] _ rfl (by kernel_rfl)
    refine thenN ?_
    refine wp_seq ?_
    refine wp_seq ?_
    rcases if_split H0 with ⟨c77, H0⟩ | ⟨c77, H0⟩
    rotate_left
    · refine reg [.bool true] [1, 17] [(1, .pointer (some ⟨b61, 0, none⟩)), (17, .bool true)] [.is (((r23.2 : Int) != 0) = true)] hf75 (by kernel_rfl) ⟨(neT c77), trivial⟩ fun a246 hf247 => ?_
      refine thenN ?_
      refine condT hf247 (by kernel_rfl) ?_
      refine wp_seq ?_
      refine reg [] [0] [(0, .bool false)] [] hf247 (by kernel_rfl) trivial fun a248 hf249 => ?_
      have hm250 := hm76.sel [] _ rfl (by kernel_rfl)
      refine thenN ?_
      refine wp_ret ?_
      refine thenR ?_
      have hm251 : Mem [] M w0 [] w69 := hm250.sel [] _ rfl (by kernel_rfl)
      obtain rfl := Option.some.inj H0
      refine ret [] [.bool false] [] hf249 (by kernel_rfl) trivial ?_
      exact ⟨_, rfl, rfl, hm251⟩
    refine reg [.bool false] [1, 17] [(1, .pointer (some ⟨b61, 0, none⟩)), (17, .bool false)] [.is (((r23.2 : Int) != 0) = false)] hf75 (by kernel_rfl) ⟨(neF c77), trivial⟩ fun a78 hf79 => ?_
    refine thenN ?_
    refine condF hf79 (by kernel_rfl) ?_
    refine wp_skip ?_
    refine thenN ?_
    refine wp_seq ?_
    obtain ⟨r80, hr80, H0⟩ := ob_split H0
    refine inReg ?_
    refine go 1 [] [1, 18] [(1, .pointer (some ⟨b61, 0, none⟩)), (18, .pointer (some ⟨b61, 0, none⟩))] [] hf79 (by kernel_rfl) trivial fun a81 hf82 => ?_
    refine listOf hf82 rfl (by kernel_rfl) (aLit (cs := [.int .i64 1]) (E := 3) (len := 1) (d := 19) hf82 (by kernel_rfl) (by kernel_rfl) ?_)
    intro b83 w84 a85 hbb83 hx87 hg88 hf86
    have hm76s := hm76.still hg88
    have hm89 := Mem.lit (kd := (Kd.int .i64)) (xs := ([1] : List Int)) hm76 hbb83 hx87 hg88 (Els.one (kd := (Kd.int .i64)) (us := [.int .i64 1]) (x := 1) rfl)
    refine listOf hf86 rfl (by kernel_rfl) (aLit (cs := [.float .f64 4611686018427387904]) (E := 44) (len := 1) (d := 20) hf86 (by kernel_rfl) (by kernel_rfl) ?_)
    intro b90 w91 a92 hbb90 hx94 hg95 hf93
    have hm89s := hm89.still hg95
    have hm96 := Mem.lit (kd := Kd.float) (xs := ([4611686018427387904] : List Nat)) hm89 hbb90 hx94 hg95 (Els.one (kd := Kd.float) (us := [.float .f64 4611686018427387904]) (x := 4611686018427387904) ⟨_, rfl, (FR.lit (by kernel_rfl) (by kernel_rfl))⟩)
    refine go 1 [] [1, 18, 21] [(1, .pointer (some ⟨b61, 0, none⟩)), (18, .pointer (some ⟨b61, 0, none⟩)), (21, .agg #[.slice (some ⟨b83, 0, none⟩) 1 1, .slice (some ⟨b90, 0, none⟩) 1 1])] [] hf93 (by kernel_rfl) trivial fun a97 hf98 => ?_
    refine listOf hf98 rfl (by kernel_rfl) (aCall (fid := 23) (args := [.pointer (some ⟨b61, 0, none⟩), .int .i64 1, .agg #[.slice (some ⟨b83, 0, none⟩) 1 1, .slice (some ⟨b90, 0, none⟩) 1 1]]) (d := 22) hf98 (by kernel_rfl) (by kernel_rfl) callable23 (fold_Slots_Put.calls _ _ _ y25 b61 A62 y25.s.length c63 rfl A65 y25.l.length c66 rfl A67 y25.filled.length c68 rfl 1 (⟨([1] : List Int), ([4611686018427387904] : List Nat)⟩ : Tensor) (some ⟨b83, 0, none⟩) 1 1 rfl (some ⟨b90, 0, none⟩) 1 1 rfl (hm96.giveO [2, 4, 5] [0, 1, 3] [3, 1, 0] [.bx b61 [.slice A62 y25.s.length c63, .slice A65 y25.l.length c66, .slice A67 y25.filled.length c68, .int .i64 y25.left] 80, .ow kTensor 28 A65 c66 y25.l, .ow Kd.bool 4 A67 c68 y25.filled] _ [.sl (Kd.int .i64) A62 c63 y25.s, .sl (Kd.int .i64) (some ⟨b83, 0, none⟩) 1 ([1] : List Int), .sl Kd.float (some ⟨b90, 0, none⟩) 1 ([4611686018427387904] : List Nat)] rfl rfl rfl (by kernel_rfl) rfl) r80 hr80) ?_)
    rintro _ w103 a104 ⟨A99, c100, A101, c102, rfl, hk106⟩ hf105
    have hm107 := hm96.backO [2, 4, 5] [0, 1, 3] _ _ rfl rfl (by kernel_rfl) hk106
    refine go 1 [] [1, 3] [(1, .pointer (some ⟨b61, 0, none⟩)), (3, .int .i64 r80.2.2.2)] [] hf105 (by kernel_rfl) trivial fun a108 hf109 => ?_
    refine endL rfl ?_
    have hm110 := hm107.sel [0, 1, 2, 5] _ rfl (by kernel_rfl)
    refine thenN ?_
    refine wp_seq ?_
    obtain ⟨r111, hr111, H0⟩ := ob_split H0
    refine inReg ?_
    refine go 1 [] [1, 3, 23] [(1, .pointer (some ⟨b61, 0, none⟩)), (3, .int .i64 r80.2.2.2), (23, .pointer (some ⟨b61, 0, none⟩))] [] hf109 (by kernel_rfl) trivial fun a112 hf113 => ?_
    refine listOf hf113 rfl (by kernel_rfl) (aLit (cs := [.int .i64 1]) (E := 3) (len := 1) (d := 24) hf113 (by kernel_rfl) (by kernel_rfl) ?_)
    intro b114 w115 a116 hbb114 hx118 hg119 hf117
    have hm110s := hm110.still hg119
    have hm120 := Mem.lit (kd := (Kd.int .i64)) (xs := ([1] : List Int)) hm110 hbb114 hx118 hg119 (Els.one (kd := (Kd.int .i64)) (us := [.int .i64 1]) (x := 1) rfl)
    refine listOf hf117 rfl (by kernel_rfl) (aLit (cs := [.float .f64 4607182418800017408]) (E := 44) (len := 1) (d := 25) hf117 (by kernel_rfl) (by kernel_rfl) ?_)
    intro b121 w122 a123 hbb121 hx125 hg126 hf124
    have hm120s := hm120.still hg126
    have hm127 := Mem.lit (kd := Kd.float) (xs := ([4607182418800017408] : List Nat)) hm120 hbb121 hx125 hg126 (Els.one (kd := Kd.float) (us := [.float .f64 4607182418800017408]) (x := 4607182418800017408) ⟨_, rfl, (FR.lit (by kernel_rfl) (by kernel_rfl))⟩)
    refine go 1 [] [1, 3, 23, 26] [(1, .pointer (some ⟨b61, 0, none⟩)), (3, .int .i64 r80.2.2.2), (23, .pointer (some ⟨b61, 0, none⟩)), (26, .agg #[.slice (some ⟨b114, 0, none⟩) 1 1, .slice (some ⟨b121, 0, none⟩) 1 1])] [] hf124 (by kernel_rfl) trivial fun a128 hf129 => ?_
    refine listOf hf129 rfl (by kernel_rfl) (aCall (fid := 23) (args := [.pointer (some ⟨b61, 0, none⟩), .int .i64 0, .agg #[.slice (some ⟨b114, 0, none⟩) 1 1, .slice (some ⟨b121, 0, none⟩) 1 1]]) (d := 27) hf129 (by kernel_rfl) (by kernel_rfl) callable23 (fold_Slots_Put.calls _ _ _ (⟨y25.s, r80.1, r80.2.1, r80.2.2.1⟩ : Slots) b61 A62 y25.s.length c63 rfl A99 r80.1.length c100 rfl A101 r80.2.1.length c102 rfl 0 (⟨([1] : List Int), ([4607182418800017408] : List Nat)⟩ : Tensor) (some ⟨b114, 0, none⟩) 1 1 rfl (some ⟨b121, 0, none⟩) 1 1 rfl (hm127.giveO [2, 3, 4] [0, 1, 5] [5, 1, 0] [.bx b61 [.slice A62 y25.s.length c63, .slice A99 r80.1.length c100, .slice A101 r80.2.1.length c102, .int .i64 r80.2.2.1] 80, .ow kTensor 28 A99 c100 r80.1, .ow Kd.bool 4 A101 c102 r80.2.1] _ [.sl (Kd.int .i64) A62 c63 y25.s, .sl (Kd.int .i64) (some ⟨b114, 0, none⟩) 1 ([1] : List Int), .sl Kd.float (some ⟨b121, 0, none⟩) 1 ([4607182418800017408] : List Nat)] rfl rfl rfl (by kernel_rfl) rfl) r111 hr111) ?_)
    rintro _ w134 a135 ⟨A130, c131, A132, c133, rfl, hk137⟩ hf136
    have hm138 := hm127.backO [2, 3, 4] [0, 1, 5] _ _ rfl rfl (by kernel_rfl) hk137
    refine go 1 [] [1, 3, 4] [(1, .pointer (some ⟨b61, 0, none⟩)), (3, .int .i64 r80.2.2.2), (4, .int .i64 r111.2.2.2)] [] hf136 (by kernel_rfl) trivial fun a139 hf140 => ?_
    refine endL rfl ?_
    have hm141 := hm138.sel [0, 1, 2, 5] _ rfl (by kernel_rfl)
    refine thenN ?_
    refine wp_seq ?_
    obtain ⟨r142, hr142, H0⟩ := ob_split H0
    refine inReg ?_
    refine go 1 [] [1, 3, 4, 29] [(1, .pointer (some ⟨b61, 0, none⟩)), (3, .int .i64 r80.2.2.2), (4, .int .i64 r111.2.2.2), (29, .pointer (some ⟨b61, 0, none⟩))] [] hf140 (by kernel_rfl) trivial fun a143 hf144 => ?_
    refine listOf hf144 rfl (by kernel_rfl) (aCall (fid := 21) (args := [.pointer (some ⟨b61, 0, none⟩)]) (d := 30) hf144 (by kernel_rfl) (by kernel_rfl) callable21 (fold_Slots_Value.calls _ _ _ (⟨y25.s, r111.1, r111.2.1, r111.2.2.1⟩ : Slots) b61 A62 y25.s.length c63 rfl A130 r111.1.length c131 rfl A132 r111.2.1.length c133 rfl (hm141.giveO [0, 1, 2] [3] [3] [.bx b61 [.slice A62 y25.s.length c63, .slice A130 r111.1.length c131, .slice A132 r111.2.1.length c133, .int .i64 r111.2.2.1] 80, .ow kTensor 28 A130 c131 r111.1, .ow Kd.bool 4 A132 c133 r111.2.1] _ [.sl (Kd.int .i64) A62 c63 y25.s] rfl rfl rfl (by kernel_rfl) rfl) r142 hr142) ?_)
    rintro _ w149 a150 ⟨A145, c146, A147, c148, rfl, hk152⟩ hf151
    have hm153 := hm141.backO [0, 1, 2] [3] _ _ rfl rfl (by kernel_rfl) hk152
    have hm154 := hm153.seal 3 _ rfl rfl
    have hm155 := hm154.seal 4 _ rfl rfl
    refine go 3 [] [1, 3, 4, 31, 32] [(1, .pointer (some ⟨b61, 0, none⟩)), (3, .int .i64 r80.2.2.2), (4, .int .i64 r111.2.2.2), (31, .agg #[.slice A145 r142.1.Shape.length c146, .slice A147 r142.1.Data.length c148]), (32, .int .i64 r142.2)] [] hf151 (by kernel_rfl) trivial fun a156 hf157 => ?_
    refine listOf hf157 rfl (by kernel_rfl) (aNew (cs := [.slice none 0 0, .slice none 0 0]) (T := 28) (d := 5) hf157 (by kernel_rfl) (by kernel_rfl) ?_)
    intro b158 w159 a160 hbb158 hx162 hg163 hf161
    have hm164 := hm155.box hbb158 hx162 hg163
    refine listOf hf161 rfl (by kernel_rfl) (aStoreB (b := b158) (j := 0) (T := 28) (cs := [.slice none 0 0, .slice none 0 0]) (us := [.slice A145 r142.1.Shape.length c146, .slice A147 r142.1.Data.length c148]) (cs' := [.slice A145 r142.1.Shape.length c146, .slice A147 r142.1.Data.length c148]) hf161 (by kernel_rfl) (hm164.bxAt 0 rfl) (by kernel_rfl) (by kernel_rfl) (by kernel_rfl) ?_)
    intro w165 hx166 hg167
    have hm168 := hm164.setBox 0 _ rfl rfl hx166 hg167
    refine go 1 [] [1, 3, 4, 5, 6] [(1, .pointer (some ⟨b61, 0, none⟩)), (3, .int .i64 r80.2.2.2), (4, .int .i64 r111.2.2.2), (5, .pointer (some ⟨b158, 0, none⟩)), (6, .int .i64 r142.2)] [] hf161 (by kernel_rfl) trivial fun a169 hf170 => ?_
    refine endL rfl ?_
    refine thenN ?_
    refine wp_seq ?_
    rcases if_split H0 with ⟨c171, H0⟩ | ⟨c171, H0⟩
    rotate_left
    · refine reg [.bool false] [0] [(0, .bool false)] [.is (((r80.2.2.2 : Int) == 0) = false)] hf170 (by kernel_rfl) ⟨(eqF c171), trivial⟩ fun a241 hf242 => ?_
      have hm243 := hm168.sel [] _ rfl (by kernel_rfl)
      refine thenN ?_
      refine wp_ret ?_
      have hm244 : Mem [] M w0 [] w165 := hm243.sel [] _ rfl (by kernel_rfl)
      obtain rfl := Option.some.inj H0
      refine ret [] [.bool false] [] hf242 (by kernel_rfl) trivial ?_
      exact ⟨_, rfl, rfl, hm244⟩
    rcases if_split H0 with ⟨c172, H0⟩ | ⟨c172, H0⟩
    rotate_left
    · refine reg [.bool true, .bool false] [0] [(0, .bool false)] [.is (((r80.2.2.2 : Int) == 0) = true), .is (((r111.2.2.2 : Int) == 0) = false)] hf170 (by kernel_rfl) ⟨(eqT c171), (eqF c172), trivial⟩ fun a236 hf237 => ?_
      have hm238 := hm168.sel [] _ rfl (by kernel_rfl)
      refine thenN ?_
      refine wp_ret ?_
      have hm239 : Mem [] M w0 [] w165 := hm238.sel [] _ rfl (by kernel_rfl)
      obtain rfl := Option.some.inj H0
      refine ret [] [.bool false] [] hf237 (by kernel_rfl) trivial ?_
      exact ⟨_, rfl, rfl, hm239⟩
    rcases if_split H0 with ⟨c173, H0⟩ | ⟨c173, H0⟩
    rotate_left
    · refine reg [.bool true, .bool true, .bool false] [0] [(0, .bool false)] [.is (((r80.2.2.2 : Int) == 0) = true), .is (((r111.2.2.2 : Int) == 0) = true), .is (((r142.2 : Int) == 0) = false)] hf170 (by kernel_rfl) ⟨(eqT c171), (eqT c172), (eqF c173), trivial⟩ fun a231 hf232 => ?_
      have hm233 := hm168.sel [] _ rfl (by kernel_rfl)
      refine thenN ?_
      refine wp_ret ?_
      have hm234 : Mem [] M w0 [] w165 := hm233.sel [] _ rfl (by kernel_rfl)
      obtain rfl := Option.some.inj H0
      refine ret [] [.bool false] [] hf232 (by kernel_rfl) trivial ?_
      exact ⟨_, rfl, rfl, hm234⟩
    obtain ⟨r174, hr174, H0⟩ := ob_split H0
    rcases if_split H0 with ⟨c175, H0⟩ | ⟨c175, H0⟩
    rotate_left
    · refine inReg ?_
      refine go 12 [.bool true, .bool true, .bool true] [5, 43, 44] [(5, .pointer (some ⟨b158, 0, none⟩)), (43, .bool true), (44, .pointer (some ⟨b61, 0, none⟩))] [.is (((r80.2.2.2 : Int) == 0) = true), .is (((r111.2.2.2 : Int) == 0) = true), .is (((r142.2 : Int) == 0) = true)] hf170 (by kernel_rfl) ⟨(eqT c171), (eqT c172), (eqT c173), trivial⟩ fun a219 hf220 => ?_
      refine listOf hf220 rfl (by kernel_rfl) (aCall (fid := 22) (args := [.pointer (some ⟨b61, 0, none⟩)]) (d := 45) hf220 (by kernel_rfl) (by kernel_rfl) callable22 (fold_Slots_Left.calls _ _ _ (⟨y25.s, r111.1, r111.2.1, r111.2.2.1⟩ : Slots) b61 A62 y25.s.length c63 rfl A130 r111.1.length c131 rfl A132 r111.2.1.length c133 rfl (hm168.giveO [1, 2, 3] [0, 4, 5, 6] [6] [.bx b61 [.slice A62 y25.s.length c63, .slice A130 r111.1.length c131, .slice A132 r111.2.1.length c133, .int .i64 r111.2.2.1] 80, .ow kTensor 28 A130 c131 r111.1, .ow Kd.bool 4 A132 c133 r111.2.1] _ [.sl (Kd.int .i64) A62 c63 y25.s] rfl rfl rfl (by kernel_rfl) rfl) r174 hr174) ?_)
      rintro _ w221 a222 ⟨rfl, hk224⟩ hf223
      have hm225 := hm168.backO [1, 2, 3] [0, 4, 5, 6] _ _ rfl rfl (by kernel_rfl) hk224
      refine go 16 [.bool false] [0] [(0, .bool false)] [.is (((r174 : Int) == 0) = false)] hf223 (by kernel_rfl) ⟨(eqF c175), trivial⟩ fun a226 hf227 => ?_
      refine endL rfl ?_
      have hm228 := hm225.sel [] _ rfl (by kernel_rfl)
      refine thenN ?_
      refine wp_ret ?_
      have hm229 : Mem [] M w0 [] w221 := hm228.sel [] _ rfl (by kernel_rfl)
      obtain rfl := Option.some.inj H0
      refine ret [] [.bool false] [] hf227 (by kernel_rfl) trivial ?_
      exact ⟨_, rfl, rfl, hm229⟩
    rcases if_split H0 with ⟨c176, H0⟩ | ⟨c176, H0⟩
    rotate_left
    · refine inReg ?_
      refine go 12 [.bool true, .bool true, .bool true] [5, 43, 44] [(5, .pointer (some ⟨b158, 0, none⟩)), (43, .bool true), (44, .pointer (some ⟨b61, 0, none⟩))] [.is (((r80.2.2.2 : Int) == 0) = true), .is (((r111.2.2.2 : Int) == 0) = true), .is (((r142.2 : Int) == 0) = true)] hf170 (by kernel_rfl) ⟨(eqT c171), (eqT c172), (eqT c173), trivial⟩ fun a207 hf208 => ?_
      refine listOf hf208 rfl (by kernel_rfl) (aCall (fid := 22) (args := [.pointer (some ⟨b61, 0, none⟩)]) (d := 45) hf208 (by kernel_rfl) (by kernel_rfl) callable22 (fold_Slots_Left.calls _ _ _ (⟨y25.s, r111.1, r111.2.1, r111.2.2.1⟩ : Slots) b61 A62 y25.s.length c63 rfl A130 r111.1.length c131 rfl A132 r111.2.1.length c133 rfl (hm168.giveO [1, 2, 3] [0, 4, 5, 6] [6] [.bx b61 [.slice A62 y25.s.length c63, .slice A130 r111.1.length c131, .slice A132 r111.2.1.length c133, .int .i64 r111.2.2.1] 80, .ow kTensor 28 A130 c131 r111.1, .ow Kd.bool 4 A132 c133 r111.2.1] _ [.sl (Kd.int .i64) A62 c63 y25.s] rfl rfl rfl (by kernel_rfl) rfl) r174 hr174) ?_)
      rintro _ w209 a210 ⟨rfl, hk212⟩ hf211
      have hm213 := hm168.backO [1, 2, 3] [0, 4, 5, 6] _ _ rfl rfl (by kernel_rfl) hk212
      refine go 16 [.bool true, .slice A147 r142.1.Data.length c148, .bool false] [0] [(0, .bool false)] [.is (((r174 : Int) == 0) = true), .cell ⟨b158, 1, none⟩ (.slice A147 r142.1.Data.length c148), .is ((((r142.1.Data.length : Int) : Int) == 1) = false)] hf211 (by kernel_rfl) ⟨(eqT c175), (hm213.cell 3 rfl rfl), (eqF c176), trivial⟩ fun a214 hf215 => ?_
      refine endL rfl ?_
      have hm216 := hm213.sel [] _ rfl (by kernel_rfl)
      refine thenN ?_
      refine wp_ret ?_
      have hm217 : Mem [] M w0 [] w209 := hm216.sel [] _ rfl (by kernel_rfl)
      obtain rfl := Option.some.inj H0
      refine ret [] [.bool false] [] hf215 (by kernel_rfl) trivial ?_
      exact ⟨_, rfl, rfl, hm217⟩
    obtain ⟨g177, H0⟩ := if_guard H0
    rcases ifb_split H0 with ⟨c178, H0⟩ | ⟨c178, H0⟩
    · refine inReg ?_
      refine go 12 [.bool true, .bool true, .bool true] [5, 43, 44] [(5, .pointer (some ⟨b158, 0, none⟩)), (43, .bool true), (44, .pointer (some ⟨b61, 0, none⟩))] [.is (((r80.2.2.2 : Int) == 0) = true), .is (((r111.2.2.2 : Int) == 0) = true), .is (((r142.2 : Int) == 0) = true)] hf170 (by kernel_rfl) ⟨(eqT c171), (eqT c172), (eqT c173), trivial⟩ fun a179 hf180 => ?_
      refine listOf hf180 rfl (by kernel_rfl) (aCall (fid := 22) (args := [.pointer (some ⟨b61, 0, none⟩)]) (d := 45) hf180 (by kernel_rfl) (by kernel_rfl) callable22 (fold_Slots_Left.calls _ _ _ (⟨y25.s, r111.1, r111.2.1, r111.2.2.1⟩ : Slots) b61 A62 y25.s.length c63 rfl A130 r111.1.length c131 rfl A132 r111.2.1.length c133 rfl (hm168.giveO [1, 2, 3] [0, 4, 5, 6] [6] [.bx b61 [.slice A62 y25.s.length c63, .slice A130 r111.1.length c131, .slice A132 r111.2.1.length c133, .int .i64 r111.2.2.1] 80, .ow kTensor 28 A130 c131 r111.1, .ow Kd.bool 4 A132 c133 r111.2.1] _ [.sl (Kd.int .i64) A62 c63 y25.s] rfl rfl rfl (by kernel_rfl) rfl) r174 hr174) ?_)
      rintro _ w181 a182 ⟨rfl, hk184⟩ hf183
      have hm185 := hm168.backO [1, 2, 3] [0, 4, 5, 6] _ _ rfl rfl (by kernel_rfl) hk184
      have q186 := (hm185.slAt 5 rfl).float 0 g177.1 g177.2
      obtain ⟨b187, hb187, kb187⟩ := q186.2
      refine go 16 [.bool true, .slice A147 r142.1.Data.length c148, .bool true, .slice A147 r142.1.Data.length c148, .float .f64 b187, .bool true] [0] [(0, .bool true)] [.is (((r174 : Int) == 0) = true), .cell ⟨b158, 1, none⟩ (.slice A147 r142.1.Data.length c148), .is ((((r142.1.Data.length : Int) : Int) == 1) = true), .cell ⟨b158, 1, none⟩ (.slice A147 r142.1.Data.length c148), .is (Option.isSome A147 = true), .is ((0 : Int) ≤ 0 ∧ 0 < (r142.1.Data.length : Int)), .cell ((ad A147).add ((0 : Int).toNat * 1)) (.float .f64 b187), .is ((FloatKind.f64.format.order b187 4613937818241073152 == some .eq) = true)] hf183 (by kernel_rfl) ⟨(eqT c175), (hm185.cell 3 rfl rfl), (eqT c176), (hm185.cell 3 rfl rfl), q186.1, g177, kb187, (ftEq hb187 (FR.lit (by kernel_rfl) (by kernel_rfl)) c178), trivial⟩ fun a188 hf189 => ?_
      refine endL rfl ?_
      have hm190 := hm185.sel [] _ rfl (by kernel_rfl)
      refine thenN ?_
      refine wp_ret ?_
      have hm191 : Mem [] M w0 [] w181 := hm190.sel [] _ rfl (by kernel_rfl)
      obtain rfl := Option.some.inj H0
      refine ret [] [.bool true] [] hf189 (by kernel_rfl) trivial ?_
      exact ⟨_, rfl, rfl, hm191⟩
    refine inReg ?_
    refine go 12 [.bool true, .bool true, .bool true] [5, 43, 44] [(5, .pointer (some ⟨b158, 0, none⟩)), (43, .bool true), (44, .pointer (some ⟨b61, 0, none⟩))] [.is (((r80.2.2.2 : Int) == 0) = true), .is (((r111.2.2.2 : Int) == 0) = true), .is (((r142.2 : Int) == 0) = true)] hf170 (by kernel_rfl) ⟨(eqT c171), (eqT c172), (eqT c173), trivial⟩ fun a193 hf194 => ?_
    refine listOf hf194 rfl (by kernel_rfl) (aCall (fid := 22) (args := [.pointer (some ⟨b61, 0, none⟩)]) (d := 45) hf194 (by kernel_rfl) (by kernel_rfl) callable22 (fold_Slots_Left.calls _ _ _ (⟨y25.s, r111.1, r111.2.1, r111.2.2.1⟩ : Slots) b61 A62 y25.s.length c63 rfl A130 r111.1.length c131 rfl A132 r111.2.1.length c133 rfl (hm168.giveO [1, 2, 3] [0, 4, 5, 6] [6] [.bx b61 [.slice A62 y25.s.length c63, .slice A130 r111.1.length c131, .slice A132 r111.2.1.length c133, .int .i64 r111.2.2.1] 80, .ow kTensor 28 A130 c131 r111.1, .ow Kd.bool 4 A132 c133 r111.2.1] _ [.sl (Kd.int .i64) A62 c63 y25.s] rfl rfl rfl (by kernel_rfl) rfl) r174 hr174) ?_)
    rintro _ w195 a196 ⟨rfl, hk198⟩ hf197
    have hm199 := hm168.backO [1, 2, 3] [0, 4, 5, 6] _ _ rfl rfl (by kernel_rfl) hk198
    have q200 := (hm199.slAt 5 rfl).float 0 g177.1 g177.2
    obtain ⟨b201, hb201, kb201⟩ := q200.2
    refine go 16 [.bool true, .slice A147 r142.1.Data.length c148, .bool true, .slice A147 r142.1.Data.length c148, .float .f64 b201, .bool false] [0] [(0, .bool false)] [.is (((r174 : Int) == 0) = true), .cell ⟨b158, 1, none⟩ (.slice A147 r142.1.Data.length c148), .is ((((r142.1.Data.length : Int) : Int) == 1) = true), .cell ⟨b158, 1, none⟩ (.slice A147 r142.1.Data.length c148), .is (Option.isSome A147 = true), .is ((0 : Int) ≤ 0 ∧ 0 < (r142.1.Data.length : Int)), .cell ((ad A147).add ((0 : Int).toNat * 1)) (.float .f64 b201), .is ((FloatKind.f64.format.order b201 4613937818241073152 == some .eq) = false)] hf197 (by kernel_rfl) ⟨(eqT c175), (hm199.cell 3 rfl rfl), (eqT c176), (hm199.cell 3 rfl rfl), q200.1, g177, kb201, (ftEq hb201 (FR.lit (by kernel_rfl) (by kernel_rfl)) c178), trivial⟩ fun a202 hf203 => ?_
    refine endL rfl ?_
    have hm204 := hm199.sel [] _ rfl (by kernel_rfl)
    refine thenN ?_
    refine wp_ret ?_
    have hm205 : Mem [] M w0 [] w195 := hm204.sel [] _ rfl (by kernel_rfl)
    obtain rfl := Option.some.inj H0
    refine ret [] [.bool false] [] hf203 (by kernel_rfl) trivial ?_
    exact ⟨_, rfl, rfl, hm205⟩

/-! ### backstitch/backstitchlaw3.Small -/
noncomputable def law3_Small.f (x0 : Tensor) : Option Bool :=
  if (x0.Shape.length : Int) ≤ 40 then (if (x0.Data.length : Int) ≤ 8192 then (some true)
  else (some false))
  else (some false)
set_option maxRecDepth 100000 in
set_option maxHeartbeats 4000000 in
theorem law3_Small.calls (M : List (Option Nat)) (w0 : World) (x0 : Tensor) (A0_0 : Option Addr) (n0_0 c0_0 : Nat) (e0_0 : n0_0 = x0.Shape.length) (A0_1 : Option Addr) (n0_1 c0_1 : Nat) (e0_1 : n0_1 = x0.Data.length) (hm0 : Mem [] M w0 [.sl (Kd.int .i64) A0_0 c0_0 x0.Shape, .sl Kd.float A0_1 c0_1 x0.Data] w0) (r : Bool) (H0 : law3_Small.f x0 = some r) :
    Calls Try.prog 31 [.agg #[.slice A0_0 n0_0 c0_0, .slice A0_1 n0_1 c0_1]].toArray w0 (fun x w' => ∃ v, x = .returned v ∧ v = .bool r ∧ Mem [] M w0 [] w') := by
  subst e0_0
  subst e0_1
  unfold law3_Small.f at H0
  refine enter (n := 13) Try.func31 rfl rfl (by kernel_rfl) fun a0 (hf0 : Fr 13 a0 [(0, .agg #[.slice A0_0 x0.Shape.length c0_0, .slice A0_1 x0.Data.length c0_1])]) => ?_
  refine wp_seq ?_
  refine inReg ?_
  refine listOf hf0 rfl (by kernel_rfl) (aNew (cs := [.slice A0_0 x0.Shape.length c0_0, .slice A0_1 x0.Data.length c0_1]) (T := 28) (d := 1) hf0 (by kernel_rfl) (by kernel_rfl) ?_)
  intro b21 w22 a23 hbb21 hx25 hg26 hf24
  have hm27 := hm0.box hbb21 hx25 hg26
  refine go 1 [] [1] [(1, .pointer (some ⟨b21, 0, none⟩))] [] hf24 (by kernel_rfl) trivial fun a28 hf29 => ?_
  refine endL rfl ?_
  refine thenN ?_
  refine wp_seq ?_
  rcases if_split H0 with ⟨c30, H0⟩ | ⟨c30, H0⟩
  rotate_left
  · refine reg [.slice A0_0 x0.Shape.length c0_0, .bool false] [2] [(2, .bool false)] [.cell ⟨b21, 0, none⟩ (.slice A0_0 x0.Shape.length c0_0), .is (decide ((x0.Shape.length : Int) ≤ 40) = false)] hf29 (by kernel_rfl) ⟨(hm27.cell 0 rfl rfl), (decide_eq_false c30), trivial⟩ fun a42 hf43 => ?_
    have hm44 := hm27.sel [] _ rfl (by kernel_rfl)
    refine thenN ?_
    refine wp_ret ?_
    have hm45 : Mem [] M w0 [] w22 := hm44.sel [] _ rfl (by kernel_rfl)
    obtain rfl := Option.some.inj H0
    refine ret [] [.bool false] [] hf43 (by kernel_rfl) trivial ?_
    exact ⟨_, rfl, rfl, hm45⟩
  rcases if_split H0 with ⟨c31, H0⟩ | ⟨c31, H0⟩
  · refine reg [.slice A0_0 x0.Shape.length c0_0, .bool true, .slice A0_1 x0.Data.length c0_1, .bool true] [2] [(2, .bool true)] [.cell ⟨b21, 0, none⟩ (.slice A0_0 x0.Shape.length c0_0), .is (decide ((x0.Shape.length : Int) ≤ 40) = true), .cell ⟨b21, 1, none⟩ (.slice A0_1 x0.Data.length c0_1), .is (decide ((x0.Data.length : Int) ≤ 8192) = true)] hf29 (by kernel_rfl) ⟨(hm27.cell 0 rfl rfl), (decide_eq_true c30), (hm27.cell 0 rfl rfl), (decide_eq_true c31), trivial⟩ fun a32 hf33 => ?_
    have hm34 := hm27.sel [] _ rfl (by kernel_rfl)
    refine thenN ?_
    refine wp_ret ?_
    have hm35 : Mem [] M w0 [] w22 := hm34.sel [] _ rfl (by kernel_rfl)
    obtain rfl := Option.some.inj H0
    refine ret [] [.bool true] [] hf33 (by kernel_rfl) trivial ?_
    exact ⟨_, rfl, rfl, hm35⟩
  refine reg [.slice A0_0 x0.Shape.length c0_0, .bool true, .slice A0_1 x0.Data.length c0_1, .bool false] [2] [(2, .bool false)] [.cell ⟨b21, 0, none⟩ (.slice A0_0 x0.Shape.length c0_0), .is (decide ((x0.Shape.length : Int) ≤ 40) = true), .cell ⟨b21, 1, none⟩ (.slice A0_1 x0.Data.length c0_1), .is (decide ((x0.Data.length : Int) ≤ 8192) = false)] hf29 (by kernel_rfl) ⟨(hm27.cell 0 rfl rfl), (decide_eq_true c30), (hm27.cell 0 rfl rfl), (decide_eq_false c31), trivial⟩ fun a37 hf38 => ?_
  have hm39 := hm27.sel [] _ rfl (by kernel_rfl)
  refine thenN ?_
  refine wp_ret ?_
  have hm40 : Mem [] M w0 [] w22 := hm39.sel [] _ rfl (by kernel_rfl)
  obtain rfl := Option.some.inj H0
  refine ret [] [.bool false] [] hf38 (by kernel_rfl) trivial ?_
  exact ⟨_, rfl, rfl, hm40⟩
end Go.Proofs.Ytkcgiolledmbnab
