/- Printed by gen.py. -/
import Derived.Test.YtkcgiolledmbnabF11
import Derived.Test.YtkcgiolledmbnabF18
import Derived.Test.YtkcgiolledmbnabF4
import Derived.Test.YtkcgiolledmbnabF7
import Derived.Test.YtkcgiolledmbnabF8
namespace Go.Proofs.Ytkcgiolledmbnab
open Go Go.RowKit
set_option linter.unusedSimpArgs false
set_option linter.unusedVariables false
set_option linter.unnecessarySimpa false
/-! ### backstitch/backstitchlaw3.TensorMakes -/
noncomputable def law3_TensorMakes.f (x0 : (List Int)) (x1 : Nat) (x2 : (List Nat)) : Option Bool :=
  (law3_awake.f).bind fun r23 =>
  if r23 = true then (if 40 < (x0.length : Int) then (some true)
  else (if 8192 < (x2.length : Int) then (some true)
  else ((tensor_New.f x0 x1).bind fun r50 =>
  (ref1_New.f x0 x1).bind fun r80 =>
  (tensor_Of.f x0 x2).bind fun r109 =>
  if r50.2 = r80.2 then ((ref1_SameTensor.f r50.1 r80.1).bind fun r139 =>
  if r139 = true then ((ref1_Size.f x0).bind fun r151 =>
  if r151.2 = 0 then (if r151.1 = (x2.length : Int) then (if r109.2 = 0 then ((ref1_SameTensor.f r109.1 (⟨x0, x2⟩ : Tensor)).bind fun r168 =>
  some r168)
  else (some false))
  else (if r109.2 = 1 then (if (r109.1.Data.length : Int) = 0 then (some true)
  else (some false))
  else (some false)))
  else (if r109.2 = r151.2 then (some true)
  else (some false)))
  else (some false))
  else (some false))))
  else (some false)
set_option maxRecDepth 100000 in
set_option maxHeartbeats 4000000 in
theorem law3_TensorMakes.calls (M : List (Option Nat)) (w0 : World) (x0 : (List Int)) (A0 : Option Addr) (n0 c0 : Nat) (e0 : n0 = x0.length) (x1 : Nat) (b1 : Nat) (h1 : FR b1 x1) (x2 : (List Nat)) (A2 : Option Addr) (n2 c2 : Nat) (e2 : n2 = x2.length) (hm0 : Mem [] M w0 [.sl (Kd.int .i64) A0 c0 x0, .sl Kd.float A2 c2 x2] w0) (r : Bool) (H0 : law3_TensorMakes.f x0 x1 x2 = some r) :
    Calls Try.prog 8 [.slice A0 n0 c0, .float .f64 b1, .slice A2 n2 c2].toArray w0 (fun x w' => ∃ v, x = .returned v ∧ v = .bool r ∧ Mem [] M w0 [] w') := by
  subst e0
  subst e2
  unfold law3_TensorMakes.f at H0
  refine enter (n := 85) Try.func8 rfl rfl (by kernel_rfl) fun a0 (hf0 : Fr 85 a0 [(0, .slice A0 x0.length c0), (1, .float .f64 b1), (2, .slice A2 x2.length c2)]) => ?_
  refine wp_seq ?_
  refine reg [] [0, 1, 2] [(0, .slice A0 x0.length c0), (1, .float .f64 b1), (2, .slice A2 x2.length c2)] [] hf0 (by kernel_rfl) trivial fun a21 hf22 => ?_
  refine thenN ?_
  refine wp_seq ?_
  refine wp_seq ?_
  obtain ⟨r23, hr23, H0⟩ := ob_split H0
  rcases ifb_split H0 with ⟨c24, H0⟩ | ⟨c24, H0⟩
  · refine inReg ?_
    refine listOf hf22 rfl (by kernel_rfl) (aCall (fid := 26) (args := []) (d := 15) hf22 (by kernel_rfl) (by kernel_rfl) callable26 (law3_awake.calls _ _  (hm0.give [] [] rfl rfl) r23 hr23) ?_)
    rintro _ w25 a26 ⟨rfl, hk28⟩ hf27
    have hm29 := hm0.still hk28.cum.none
    rw [c24] at hf27
    refine go 1 [] [0, 1, 2, 16] [(0, .slice A0 x0.length c0), (1, .float .f64 b1), (2, .slice A2 x2.length c2), (16, .bool false)] [] hf27 (by kernel_rfl) trivial fun a30 hf31 => ?_
    refine endL rfl ?_
    refine thenN ?_
    refine condF hf31 (by kernel_rfl) ?_
    refine wp_skip ?_
    refine thenN ?_
    refine wp_seq ?_
    refine wp_seq ?_
    rcases if_split H0 with ⟨c32, H0⟩ | ⟨c32, H0⟩
    · refine reg [.bool true] [0, 1, 2, 24] [(0, .slice A0 x0.length c0), (1, .float .f64 b1), (2, .slice A2 x2.length c2), (24, .bool true)] [.is (decide (40 < (x0.length : Int)) = true)] hf31 (by kernel_rfl) ⟨(decide_eq_true c32), trivial⟩ fun a33 hf34 => ?_
      refine thenN ?_
      refine condT hf34 (by kernel_rfl) ?_
      refine wp_seq ?_
      refine reg [] [6] [(6, .bool true)] [] hf34 (by kernel_rfl) trivial fun a35 hf36 => ?_
      have hm37 := hm29.sel [] _ rfl (by kernel_rfl)
      refine thenN ?_
      refine wp_ret ?_
      refine thenR ?_
      have hm38 : Mem [] M w0 [] w25 := hm37.sel [] _ rfl (by kernel_rfl)
      obtain rfl := Option.some.inj H0
      refine ret [] [.bool true] [] hf36 (by kernel_rfl) trivial ?_
      exact ⟨_, rfl, rfl, hm38⟩
    · rcases if_split H0 with ⟨c40, H0⟩ | ⟨c40, H0⟩
      · refine reg [.bool false, .bool true] [0, 1, 2, 24] [(0, .slice A0 x0.length c0), (1, .float .f64 b1), (2, .slice A2 x2.length c2), (24, .bool true)] [.is (decide (40 < (x0.length : Int)) = false), .is (decide (8192 < (x2.length : Int)) = true)] hf31 (by kernel_rfl) ⟨(decide_eq_false c32), (decide_eq_true c40), trivial⟩ fun a41 hf42 => ?_
        refine thenN ?_
        refine condT hf42 (by kernel_rfl) ?_
        refine wp_seq ?_
        refine reg [] [6] [(6, .bool true)] [] hf42 (by kernel_rfl) trivial fun a43 hf44 => ?_
        have hm45 := hm29.sel [] _ rfl (by kernel_rfl)
        refine thenN ?_
        refine wp_ret ?_
        refine thenR ?_
        have hm46 : Mem [] M w0 [] w25 := hm45.sel [] _ rfl (by kernel_rfl)
        obtain rfl := Option.some.inj H0
        refine ret [] [.bool true] [] hf44 (by kernel_rfl) trivial ?_
        exact ⟨_, rfl, rfl, hm46⟩
      · refine reg [.bool false, .bool false] [0, 1, 2, 24] [(0, .slice A0 x0.length c0), (1, .float .f64 b1), (2, .slice A2 x2.length c2), (24, .bool false)] [.is (decide (40 < (x0.length : Int)) = false), .is (decide (8192 < (x2.length : Int)) = false)] hf31 (by kernel_rfl) ⟨(decide_eq_false c32), (decide_eq_false c40), trivial⟩ fun a48 hf49 => ?_
        refine thenN ?_
        refine condF hf49 (by kernel_rfl) ?_
        refine wp_skip ?_
        refine thenN ?_
        refine wp_seq ?_
        obtain ⟨r50, hr50, H0⟩ := ob_split H0
        refine inReg ?_
        refine go 2 [] [0, 1, 2, 26, 27] [(0, .slice A0 x0.length c0), (1, .float .f64 b1), (2, .slice A2 x2.length c2), (26, .slice A0 x0.length c0), (27, .float .f64 b1)] [] hf49 (by kernel_rfl) trivial fun a51 hf52 => ?_
        refine listOf hf52 rfl (by kernel_rfl) (aCall (fid := 27) (args := [.slice A0 x0.length c0, .float .f64 b1]) (d := 28) hf52 (by kernel_rfl) (by kernel_rfl) callable27 (tensor_New.calls _ _ x0 A0 x0.length c0 rfl x1 b1 h1 (hm29.give [0] [.sl (Kd.int .i64) A0 c0 x0] rfl rfl) r50 hr50) ?_)
        rintro _ w57 a58 ⟨A53, c54, A55, c56, rfl, hk60⟩ hf59
        have hm61 := hm29.back hk60
        have hm62 := hm61.seal 0 _ rfl rfl
        have hm63 := hm62.seal 1 _ rfl rfl
        refine go 3 [] [0, 1, 2, 29, 30] [(0, .slice A0 x0.length c0), (1, .float .f64 b1), (2, .slice A2 x2.length c2), (29, .agg #[.slice A53 r50.1.Shape.length c54, .slice A55 r50.1.Data.length c56]), (30, .int .i64 r50.2)] [] hf59 (by kernel_rfl) trivial fun a65 hf66 => ?_
        refine listOf hf66 rfl (by kernel_rfl) (aNew (cs := [.slice none 0 0, .slice none 0 0]) (T := 28) (d := 7) hf66 (by kernel_rfl) (by kernel_rfl) ?_)
        intro b67 w68 a69 hbb67 hx71 hg72 hf70
        have hm73 := hm63.box hbb67 hx71 hg72
        refine listOf hf70 rfl (by kernel_rfl) (aStoreB (b := b67) (j := 0) (T := 28) (cs := [.slice none 0 0, .slice none 0 0]) (us := [.slice A53 r50.1.Shape.length c54, .slice A55 r50.1.Data.length c56]) (cs' := [.slice A53 r50.1.Shape.length c54, .slice A55 r50.1.Data.length c56]) hf70 (by kernel_rfl) (hm73.bxAt 0 rfl) (by kernel_rfl) (by kernel_rfl) (by kernel_rfl) ?_)
        intro w74 hx75 hg76
        have hm77 := hm73.setBox 0 _ rfl rfl hx75 hg76
        refine go 1 [] [0, 1, 2, 7, 8] [(0, .slice A0 x0.length c0), (1, .float .f64 b1), (2, .slice A2 x2.length c2), (7, .pointer (some ⟨b67, 0, none⟩)), (8, .int .i64 r50.2)] [] hf70 (by kernel_rfl) trivial fun a78 hf79 => ?_
        refine endL rfl ?_
        refine thenN ?_
        refine wp_seq ?_
        obtain ⟨r80, hr80, H0⟩ := ob_split H0
        refine inReg ?_
        refine go 2 [] [0, 2, 7, 8, 32, 33] [(0, .slice A0 x0.length c0), (2, .slice A2 x2.length c2), (7, .pointer (some ⟨b67, 0, none⟩)), (8, .int .i64 r50.2), (32, .slice A0 x0.length c0), (33, .float .f64 b1)] [] hf79 (by kernel_rfl) trivial fun a81 hf82 => ?_
        refine listOf hf82 rfl (by kernel_rfl) (aCall (fid := 28) (args := [.slice A0 x0.length c0, .float .f64 b1]) (d := 34) hf82 (by kernel_rfl) (by kernel_rfl) callable28 (ref1_New.calls _ _ x0 A0 x0.length c0 rfl x1 b1 h1 (hm77.give [3] [.sl (Kd.int .i64) A0 c0 x0] rfl rfl) r80 hr80) ?_)
        rintro _ w87 a88 ⟨A83, c84, A85, c86, rfl, hk90⟩ hf89
        have hm91 := hm77.back hk90
        have hm92 := hm91.seal 0 _ rfl rfl
        have hm93 := hm92.seal 1 _ rfl rfl
        refine go 3 [] [0, 2, 7, 8, 35, 36] [(0, .slice A0 x0.length c0), (2, .slice A2 x2.length c2), (7, .pointer (some ⟨b67, 0, none⟩)), (8, .int .i64 r50.2), (35, .agg #[.slice A83 r80.1.Shape.length c84, .slice A85 r80.1.Data.length c86]), (36, .int .i64 r80.2)] [] hf89 (by kernel_rfl) trivial fun a94 hf95 => ?_
        refine listOf hf95 rfl (by kernel_rfl) (aNew (cs := [.slice none 0 0, .slice none 0 0]) (T := 28) (d := 9) hf95 (by kernel_rfl) (by kernel_rfl) ?_)
        intro b96 w97 a98 hbb96 hx100 hg101 hf99
        have hm102 := hm93.box hbb96 hx100 hg101
        refine listOf hf99 rfl (by kernel_rfl) (aStoreB (b := b96) (j := 0) (T := 28) (cs := [.slice none 0 0, .slice none 0 0]) (us := [.slice A83 r80.1.Shape.length c84, .slice A85 r80.1.Data.length c86]) (cs' := [.slice A83 r80.1.Shape.length c84, .slice A85 r80.1.Data.length c86]) hf99 (by kernel_rfl) (hm102.bxAt 0 rfl) (by kernel_rfl) (by kernel_rfl) (by kernel_rfl) ?_)
        intro w103 hx104 hg105
        have hm106 := hm102.setBox 0 _ rfl rfl hx104 hg105
        refine go 1 [] [0, 2, 7, 8, 9, 10] [(0, .slice A0 x0.length c0), (2, .slice A2 x2.length c2), (7, .pointer (some ⟨b67, 0, none⟩)), (8, .int .i64 r50.2), (9, .pointer (some ⟨b96, 0, none⟩)), (10, .int .i64 r80.2)] [] hf99 (by kernel_rfl) trivial fun a107 hf108 => ?_
        refine endL rfl ?_
        refine thenN ?_
        refine wp_seq ?_
        obtain ⟨r109, hr109, H0⟩ := ob_split H0
        refine inReg ?_
        refine go 2 [] [0, 2, 7, 8, 9, 10, 38, 39] [(0, .slice A0 x0.length c0), (2, .slice A2 x2.length c2), (7, .pointer (some ⟨b67, 0, none⟩)), (8, .int .i64 r50.2), (9, .pointer (some ⟨b96, 0, none⟩)), (10, .int .i64 r80.2), (38, .slice A0 x0.length c0), (39, .slice A2 x2.length c2)] [] hf108 (by kernel_rfl) trivial fun a110 hf111 => ?_
        refine listOf hf111 rfl (by kernel_rfl) (aCall (fid := 29) (args := [.slice A0 x0.length c0, .slice A2 x2.length c2]) (d := 40) hf111 (by kernel_rfl) (by kernel_rfl) callable29 (tensor_Of.calls _ _ x0 A0 x0.length c0 rfl x2 A2 x2.length c2 rfl (hm106.give [6, 7] [.sl (Kd.int .i64) A0 c0 x0, .sl Kd.float A2 c2 x2] rfl rfl) r109 hr109) ?_)
        rintro _ w116 a117 ⟨A112, c113, A114, c115, rfl, hk119⟩ hf118
        have hm120 := hm106.back hk119
        have hm121 := hm120.seal 0 _ rfl rfl
        have hm122 := hm121.seal 1 _ rfl rfl
        refine go 3 [] [0, 2, 7, 8, 9, 10, 41, 42] [(0, .slice A0 x0.length c0), (2, .slice A2 x2.length c2), (7, .pointer (some ⟨b67, 0, none⟩)), (8, .int .i64 r50.2), (9, .pointer (some ⟨b96, 0, none⟩)), (10, .int .i64 r80.2), (41, .agg #[.slice A112 r109.1.Shape.length c113, .slice A114 r109.1.Data.length c115]), (42, .int .i64 r109.2)] [] hf118 (by kernel_rfl) trivial fun a123 hf124 => ?_
        refine listOf hf124 rfl (by kernel_rfl) (aNew (cs := [.slice none 0 0, .slice none 0 0]) (T := 28) (d := 11) hf124 (by kernel_rfl) (by kernel_rfl) ?_)
        intro b125 w126 a127 hbb125 hx129 hg130 hf128
        have hm131 := hm122.box hbb125 hx129 hg130
        refine listOf hf128 rfl (by kernel_rfl) (aStoreB (b := b125) (j := 0) (T := 28) (cs := [.slice none 0 0, .slice none 0 0]) (us := [.slice A112 r109.1.Shape.length c113, .slice A114 r109.1.Data.length c115]) (cs' := [.slice A112 r109.1.Shape.length c113, .slice A114 r109.1.Data.length c115]) hf128 (by kernel_rfl) (hm131.bxAt 0 rfl) (by kernel_rfl) (by kernel_rfl) (by kernel_rfl) ?_)
        intro w132 hx133 hg134
        have hm135 := hm131.setBox 0 _ rfl rfl hx133 hg134
        refine go 1 [] [0, 2, 7, 8, 9, 10, 11, 12] [(0, .slice A0 x0.length c0), (2, .slice A2 x2.length c2), (7, .pointer (some ⟨b67, 0, none⟩)), (8, .int .i64 r50.2), (9, .pointer (some ⟨b96, 0, none⟩)), (10, .int .i64 r80.2), (11, .pointer (some ⟨b125, 0, none⟩)), (12, .int .i64 r109.2)] [] hf128 (by kernel_rfl) trivial fun a136 hf137 => ?_
        refine endL rfl ?_
        refine thenN ?_
        refine wp_seq ?_
        refine wp_seq ?_
        rcases if_split H0 with ⟨c138, H0⟩ | ⟨c138, H0⟩
        · obtain ⟨r139, hr139, H0⟩ := ob_split H0
          rcases ifb_split H0 with ⟨c140, H0⟩ | ⟨c140, H0⟩
          · refine inReg ?_
            refine go 6 [.bool false, .agg #[.slice A53 r50.1.Shape.length c54, .slice A55 r50.1.Data.length c56], .agg #[.slice A83 r80.1.Shape.length c84, .slice A85 r80.1.Data.length c86]] [0, 2, 11, 12, 46, 47, 48] [(0, .slice A0 x0.length c0), (2, .slice A2 x2.length c2), (11, .pointer (some ⟨b125, 0, none⟩)), (12, .int .i64 r109.2), (46, .bool false), (47, .agg #[.slice A53 r50.1.Shape.length c54, .slice A55 r50.1.Data.length c56]), (48, .agg #[.slice A83 r80.1.Shape.length c84, .slice A85 r80.1.Data.length c86])] [.is (((r50.2 : Int) != r80.2) = false), .cell ⟨b67, 0, none⟩ (.slice A53 r50.1.Shape.length c54), .cell ⟨b67, 1, none⟩ (.slice A55 r50.1.Data.length c56), .cell ⟨b96, 0, none⟩ (.slice A83 r80.1.Shape.length c84), .cell ⟨b96, 1, none⟩ (.slice A85 r80.1.Data.length c86)] hf137 (by kernel_rfl) ⟨(neF c138), (hm135.cell 6 rfl rfl), (hm135.cell 6 rfl rfl), (hm135.cell 3 rfl rfl), (hm135.cell 3 rfl rfl), trivial⟩ fun a141 hf142 => ?_
            refine listOf hf142 rfl (by kernel_rfl) (aCall (fid := 19) (args := [.agg #[.slice A53 r50.1.Shape.length c54, .slice A55 r50.1.Data.length c56], .agg #[.slice A83 r80.1.Shape.length c84, .slice A85 r80.1.Data.length c86]]) (d := 49) hf142 (by kernel_rfl) (by kernel_rfl) callable19 (ref1_SameTensor.calls _ _ r50.1 A53 r50.1.Shape.length c54 rfl A55 r50.1.Data.length c56 rfl r80.1 A83 r80.1.Shape.length c84 rfl A85 r80.1.Data.length c86 rfl (hm135.give [7, 8, 4, 5] [.sl (Kd.int .i64) A53 c54 r50.1.Shape, .sl Kd.float A55 c56 r50.1.Data, .sl (Kd.int .i64) A83 c84 r80.1.Shape, .sl Kd.float A85 c86 r80.1.Data] rfl rfl) r139 hr139) ?_)
            rintro _ w143 a144 ⟨rfl, hk146⟩ hf145
            have hm147 := hm135.still hk146.cum.none
            rw [c140] at hf145
            refine go 2 [] [0, 2, 11, 12, 51] [(0, .slice A0 x0.length c0), (2, .slice A2 x2.length c2), (11, .pointer (some ⟨b125, 0, none⟩)), (12, .int .i64 r109.2), (51, .bool false)] [] hf145 (by kernel_rfl) trivial fun a148 hf149 => ?_
            refine endL rfl ?_
            have hm150 := hm147.sel [0, 1, 2, 9, 10] _ rfl (by kernel_rfl)
            refine thenN ?_
            refine condF hf149 (by kernel_rfl) ?_
            refine wp_skip ?_
            refine thenN ?_
            refine wp_seq ?_
            obtain ⟨r151, hr151, H0⟩ := ob_split H0
            refine inReg ?_
            refine go 1 [] [0, 2, 11, 12, 53] [(0, .slice A0 x0.length c0), (2, .slice A2 x2.length c2), (11, .pointer (some ⟨b125, 0, none⟩)), (12, .int .i64 r109.2), (53, .slice A0 x0.length c0)] [] hf149 (by kernel_rfl) trivial fun a152 hf153 => ?_
            refine listOf hf153 rfl (by kernel_rfl) (aCall (fid := 30) (args := [.slice A0 x0.length c0]) (d := 54) hf153 (by kernel_rfl) (by kernel_rfl) callable30 (ref1_Size.calls _ _ x0 A0 x0.length c0 rfl (hm150.give [3] [.sl (Kd.int .i64) A0 c0 x0] rfl rfl) r151 hr151) ?_)
            rintro _ w154 a155 ⟨rfl, hk157⟩ hf156
            have hm158 := hm150.still hk157.cum.none
            refine go 5 [] [0, 2, 11, 12, 13, 14] [(0, .slice A0 x0.length c0), (2, .slice A2 x2.length c2), (11, .pointer (some ⟨b125, 0, none⟩)), (12, .int .i64 r109.2), (13, .int .i64 r151.1), (14, .int .i64 r151.2)] [] hf156 (by kernel_rfl) trivial fun a159 hf160 => ?_
            refine endL rfl ?_
            refine thenN ?_
            refine wp_seq ?_
            refine wp_block ?_
            refine wp_seq ?_
            rcases if_split H0 with ⟨c161, H0⟩ | ⟨c161, H0⟩
            · refine reg [.bool false] [0, 2, 11, 12, 13, 14, 57] [(0, .slice A0 x0.length c0), (2, .slice A2 x2.length c2), (11, .pointer (some ⟨b125, 0, none⟩)), (12, .int .i64 r109.2), (13, .int .i64 r151.1), (14, .int .i64 r151.2), (57, .bool false)] [.is (((r151.2 : Int) != 0) = false)] hf160 (by kernel_rfl) ⟨(neF c161), trivial⟩ fun a162 hf163 => ?_
              refine thenN ?_
              refine condF hf163 (by kernel_rfl) ?_
              refine wp_seq ?_
              rcases if_split H0 with ⟨c164, H0⟩ | ⟨c164, H0⟩
              · refine reg [.bool false] [0, 2, 11, 12, 63] [(0, .slice A0 x0.length c0), (2, .slice A2 x2.length c2), (11, .pointer (some ⟨b125, 0, none⟩)), (12, .int .i64 r109.2), (63, .bool false)] [.is (((r151.1 : Int) != (x2.length : Int)) = false)] hf163 (by kernel_rfl) ⟨(neF c164), trivial⟩ fun a165 hf166 => ?_
                refine thenN ?_
                refine condF hf166 (by kernel_rfl) ?_
                refine wp_skip ?_
                refine blkN ?_
                refine thenN ?_
                refine wp_seq ?_
                rcases if_split H0 with ⟨c167, H0⟩ | ⟨c167, H0⟩
                · obtain ⟨r168, hr168, H0⟩ := ob_split H0
                  refine inReg ?_
                  refine go 7 [.bool true, .agg #[.slice A112 r109.1.Shape.length c113, .slice A114 r109.1.Data.length c115]] [78, 79, 82] [(78, .bool true), (79, .agg #[.slice A112 r109.1.Shape.length c113, .slice A114 r109.1.Data.length c115]), (82, .agg #[.slice A0 x0.length c0, .slice A2 x2.length c2])] [.is (((r109.2 : Int) == 0) = true), .cell ⟨b125, 0, none⟩ (.slice A112 r109.1.Shape.length c113), .cell ⟨b125, 1, none⟩ (.slice A114 r109.1.Data.length c115)] hf166 (by kernel_rfl) ⟨(eqT c167), (hm158.cell 0 rfl rfl), (hm158.cell 0 rfl rfl), trivial⟩ fun a169 hf170 => ?_
                  refine listOf hf170 rfl (by kernel_rfl) (aCall (fid := 19) (args := [.agg #[.slice A112 r109.1.Shape.length c113, .slice A114 r109.1.Data.length c115], .agg #[.slice A0 x0.length c0, .slice A2 x2.length c2]]) (d := 83) hf170 (by kernel_rfl) (by kernel_rfl) callable19 (ref1_SameTensor.calls _ _ r109.1 A112 r109.1.Shape.length c113 rfl A114 r109.1.Data.length c115 rfl (⟨x0, x2⟩ : Tensor) A0 x0.length c0 rfl A2 x2.length c2 rfl (hm158.give [1, 2, 3, 4] [.sl (Kd.int .i64) A112 c113 r109.1.Shape, .sl Kd.float A114 c115 r109.1.Data, .sl (Kd.int .i64) A0 c0 x0, .sl Kd.float A2 c2 x2] rfl rfl) r168 hr168) ?_)
                  rintro _ w171 a172 ⟨rfl, hk174⟩ hf173
                  have hm175 := hm158.still hk174.cum.none
                  refine go 2 [] [6] [(6, .bool r168)] [] hf173 (by kernel_rfl) trivial fun a176 hf177 => ?_
                  refine endL rfl ?_
                  have hm178 := hm175.sel [] _ rfl (by kernel_rfl)
                  refine thenN ?_
                  refine wp_ret ?_
                  have hm179 : Mem [] M w0 [] w171 := hm178.sel [] _ rfl (by kernel_rfl)
                  obtain rfl := Option.some.inj H0
                  refine ret [] [.bool r168] [] hf177 (by kernel_rfl) trivial ?_
                  exact ⟨_, rfl, rfl, hm179⟩
                · refine reg [.bool false] [6] [(6, .bool false)] [.is (((r109.2 : Int) == 0) = false)] hf166 (by kernel_rfl) ⟨(eqF c167), trivial⟩ fun a181 hf182 => ?_
                  have hm183 := hm158.sel [] _ rfl (by kernel_rfl)
                  refine thenN ?_
                  refine wp_ret ?_
                  have hm184 : Mem [] M w0 [] w154 := hm183.sel [] _ rfl (by kernel_rfl)
                  obtain rfl := Option.some.inj H0
                  refine ret [] [.bool false] [] hf182 (by kernel_rfl) trivial ?_
                  exact ⟨_, rfl, rfl, hm184⟩
              · refine reg [.bool true] [0, 2, 11, 12, 63] [(0, .slice A0 x0.length c0), (2, .slice A2 x2.length c2), (11, .pointer (some ⟨b125, 0, none⟩)), (12, .int .i64 r109.2), (63, .bool true)] [.is (((r151.1 : Int) != (x2.length : Int)) = true)] hf163 (by kernel_rfl) ⟨(neT c164), trivial⟩ fun a186 hf187 => ?_
                refine thenN ?_
                refine condT hf187 (by kernel_rfl) ?_
                refine wp_seq ?_
                rcases if_split H0 with ⟨c188, H0⟩ | ⟨c188, H0⟩
                · rcases if_split H0 with ⟨c189, H0⟩ | ⟨c189, H0⟩
                  · refine reg [.bool true, .slice A114 r109.1.Data.length c115, .bool true] [6] [(6, .bool true)] [.is (((r109.2 : Int) == 1) = true), .cell ⟨b125, 1, none⟩ (.slice A114 r109.1.Data.length c115), .is ((((r109.1.Data.length : Int) : Int) == 0) = true)] hf187 (by kernel_rfl) ⟨(eqT c188), (hm158.cell 0 rfl rfl), (eqT c189), trivial⟩ fun a190 hf191 => ?_
                    have hm192 := hm158.sel [] _ rfl (by kernel_rfl)
                    refine thenN ?_
                    refine wp_ret ?_
                    refine blkR ?_
                    refine thenR ?_
                    have hm193 : Mem [] M w0 [] w154 := hm192.sel [] _ rfl (by kernel_rfl)
                    obtain rfl := Option.some.inj H0
                    refine ret [] [.bool true] [] hf191 (by kernel_rfl) trivial ?_
                    exact ⟨_, rfl, rfl, hm193⟩
                  · refine reg [.bool true, .slice A114 r109.1.Data.length c115, .bool false] [6] [(6, .bool false)] [.is (((r109.2 : Int) == 1) = true), .cell ⟨b125, 1, none⟩ (.slice A114 r109.1.Data.length c115), .is ((((r109.1.Data.length : Int) : Int) == 0) = false)] hf187 (by kernel_rfl) ⟨(eqT c188), (hm158.cell 0 rfl rfl), (eqF c189), trivial⟩ fun a195 hf196 => ?_
                    have hm197 := hm158.sel [] _ rfl (by kernel_rfl)
                    refine thenN ?_
                    refine wp_ret ?_
                    refine blkR ?_
                    refine thenR ?_
                    have hm198 : Mem [] M w0 [] w154 := hm197.sel [] _ rfl (by kernel_rfl)
                    obtain rfl := Option.some.inj H0
                    refine ret [] [.bool false] [] hf196 (by kernel_rfl) trivial ?_
                    exact ⟨_, rfl, rfl, hm198⟩
                · refine reg [.bool false] [6] [(6, .bool false)] [.is (((r109.2 : Int) == 1) = false)] hf187 (by kernel_rfl) ⟨(eqF c188), trivial⟩ fun a200 hf201 => ?_
                  have hm202 := hm158.sel [] _ rfl (by kernel_rfl)
                  refine thenN ?_
                  refine wp_ret ?_
                  refine blkR ?_
                  refine thenR ?_
                  have hm203 : Mem [] M w0 [] w154 := hm202.sel [] _ rfl (by kernel_rfl)
                  obtain rfl := Option.some.inj H0
                  refine ret [] [.bool false] [] hf201 (by kernel_rfl) trivial ?_
                  exact ⟨_, rfl, rfl, hm203⟩
            · refine reg [.bool true] [0, 2, 11, 12, 13, 14, 57] [(0, .slice A0 x0.length c0), (2, .slice A2 x2.length c2), (11, .pointer (some ⟨b125, 0, none⟩)), (12, .int .i64 r109.2), (13, .int .i64 r151.1), (14, .int .i64 r151.2), (57, .bool true)] [.is (((r151.2 : Int) != 0) = true)] hf160 (by kernel_rfl) ⟨(neT c161), trivial⟩ fun a205 hf206 => ?_
              refine thenN ?_
              refine condT hf206 (by kernel_rfl) ?_
              refine wp_seq ?_
              rcases if_split H0 with ⟨c207, H0⟩ | ⟨c207, H0⟩
              · refine reg [.bool true] [6] [(6, .bool true)] [.is (((r109.2 : Int) == r151.2) = true)] hf206 (by kernel_rfl) ⟨(eqT c207), trivial⟩ fun a208 hf209 => ?_
                have hm210 := hm158.sel [] _ rfl (by kernel_rfl)
                refine thenN ?_
                refine wp_ret ?_
                refine blkR ?_
                refine thenR ?_
                have hm211 : Mem [] M w0 [] w154 := hm210.sel [] _ rfl (by kernel_rfl)
                obtain rfl := Option.some.inj H0
                refine ret [] [.bool true] [] hf209 (by kernel_rfl) trivial ?_
                exact ⟨_, rfl, rfl, hm211⟩
              · refine reg [.bool false] [6] [(6, .bool false)] [.is (((r109.2 : Int) == r151.2) = false)] hf206 (by kernel_rfl) ⟨(eqF c207), trivial⟩ fun a213 hf214 => ?_
                have hm215 := hm158.sel [] _ rfl (by kernel_rfl)
                refine thenN ?_
                refine wp_ret ?_
                refine blkR ?_
                refine thenR ?_
                have hm216 : Mem [] M w0 [] w154 := hm215.sel [] _ rfl (by kernel_rfl)
                obtain rfl := Option.some.inj H0
                refine ret [] [.bool false] [] hf214 (by kernel_rfl) trivial ?_
                exact ⟨_, rfl, rfl, hm216⟩
          · refine inReg ?_
            refine go 6 [.bool false, .agg #[.slice A53 r50.1.Shape.length c54, .slice A55 r50.1.Data.length c56], .agg #[.slice A83 r80.1.Shape.length c84, .slice A85 r80.1.Data.length c86]] [0, 2, 11, 12, 46, 47, 48] [(0, .slice A0 x0.length c0), (2, .slice A2 x2.length c2), (11, .pointer (some ⟨b125, 0, none⟩)), (12, .int .i64 r109.2), (46, .bool false), (47, .agg #[.slice A53 r50.1.Shape.length c54, .slice A55 r50.1.Data.length c56]), (48, .agg #[.slice A83 r80.1.Shape.length c84, .slice A85 r80.1.Data.length c86])] [.is (((r50.2 : Int) != r80.2) = false), .cell ⟨b67, 0, none⟩ (.slice A53 r50.1.Shape.length c54), .cell ⟨b67, 1, none⟩ (.slice A55 r50.1.Data.length c56), .cell ⟨b96, 0, none⟩ (.slice A83 r80.1.Shape.length c84), .cell ⟨b96, 1, none⟩ (.slice A85 r80.1.Data.length c86)] hf137 (by kernel_rfl) ⟨(neF c138), (hm135.cell 6 rfl rfl), (hm135.cell 6 rfl rfl), (hm135.cell 3 rfl rfl), (hm135.cell 3 rfl rfl), trivial⟩ fun a218 hf219 => ?_
            refine listOf hf219 rfl (by kernel_rfl) (aCall (fid := 19) (args := [.agg #[.slice A53 r50.1.Shape.length c54, .slice A55 r50.1.Data.length c56], .agg #[.slice A83 r80.1.Shape.length c84, .slice A85 r80.1.Data.length c86]]) (d := 49) hf219 (by kernel_rfl) (by kernel_rfl) callable19 (ref1_SameTensor.calls _ _ r50.1 A53 r50.1.Shape.length c54 rfl A55 r50.1.Data.length c56 rfl r80.1 A83 r80.1.Shape.length c84 rfl A85 r80.1.Data.length c86 rfl (hm135.give [7, 8, 4, 5] [.sl (Kd.int .i64) A53 c54 r50.1.Shape, .sl Kd.float A55 c56 r50.1.Data, .sl (Kd.int .i64) A83 c84 r80.1.Shape, .sl Kd.float A85 c86 r80.1.Data] rfl rfl) r139 hr139) ?_)
            rintro _ w220 a221 ⟨rfl, hk223⟩ hf222
            have hm224 := hm135.still hk223.cum.none
            rw [c140] at hf222
            refine go 2 [] [0, 2, 11, 12, 51] [(0, .slice A0 x0.length c0), (2, .slice A2 x2.length c2), (11, .pointer (some ⟨b125, 0, none⟩)), (12, .int .i64 r109.2), (51, .bool true)] [] hf222 (by kernel_rfl) trivial fun a225 hf226 => ?_
            refine endL rfl ?_
            have hm227 := hm224.sel [0, 1, 2, 9, 10] _ rfl (by kernel_rfl)
            refine thenN ?_
            refine condT hf226 (by kernel_rfl) ?_
            refine wp_seq ?_
            refine reg [] [6] [(6, .bool false)] [] hf226 (by kernel_rfl) trivial fun a228 hf229 => ?_
            have hm230 := hm227.sel [] _ rfl (by kernel_rfl)
            refine thenN ?_
            refine wp_ret ?_
            refine thenR ?_
            have hm231 : Mem [] M w0 [] w220 := hm230.sel [] _ rfl (by kernel_rfl)
            obtain rfl := Option.some.inj H0
            refine ret [] [.bool false] [] hf229 (by kernel_rfl) trivial ?_
            exact ⟨_, rfl, rfl, hm231⟩
        · refine reg [.bool true] [0, 2, 11, 12, 51] [(0, .slice A0 x0.length c0), (2, .slice A2 x2.length c2), (11, .pointer (some ⟨b125, 0, none⟩)), (12, .int .i64 r109.2), (51, .bool true)] [.is (((r50.2 : Int) != r80.2) = true)] hf137 (by kernel_rfl) ⟨(neT c138), trivial⟩ fun a233 hf234 => ?_
          have hm235 := hm135.sel [0, 1, 2, 9, 10] _ rfl (by kernel_rfl)
          refine thenN ?_
          refine condT hf234 (by kernel_rfl) ?_
          refine wp_seq ?_
          refine reg [] [6] [(6, .bool false)] [] hf234 (by kernel_rfl) trivial fun a236 hf237 => ?_
          have hm238 := hm235.sel [] _ rfl (by kernel_rfl)
          refine thenN ?_
          refine wp_ret ?_
          refine thenR ?_
          have hm239 : Mem [] M w0 [] w132 := hm238.sel [] _ rfl (by kernel_rfl)
          obtain rfl := Option.some.inj H0
          refine ret [] [.bool false] [] hf237 (by kernel_rfl) trivial ?_
          exact ⟨_, rfl, rfl, hm239⟩
  · refine inReg ?_
    refine listOf hf22 rfl (by kernel_rfl) (aCall (fid := 26) (args := []) (d := 15) hf22 (by kernel_rfl) (by kernel_rfl) callable26 (law3_awake.calls _ _  (hm0.give [] [] rfl rfl) r23 hr23) ?_)
    rintro _ w241 a242 ⟨rfl, hk244⟩ hf243
    have hm245 := hm0.still hk244.cum.none
    rw [c24] at hf243
    refine go 1 [] [0, 1, 2, 16] [(0, .slice A0 x0.length c0), (1, .float .f64 b1), (2, .slice A2 x2.length c2), (16, .bool true)] [] hf243 (by kernel_rfl) trivial fun a246 hf247 => ?_
    refine endL rfl ?_
    refine thenN ?_
    refine condT hf247 (by kernel_rfl) ?_
    refine wp_seq ?_
    refine reg [] [6] [(6, .bool false)] [] hf247 (by kernel_rfl) trivial fun a248 hf249 => ?_
    have hm250 := hm245.sel [] _ rfl (by kernel_rfl)
    refine thenN ?_
    refine wp_ret ?_
    refine thenR ?_
    have hm251 : Mem [] M w0 [] w241 := hm250.sel [] _ rfl (by kernel_rfl)
    obtain rfl := Option.some.inj H0
    refine ret [] [.bool false] [] hf249 (by kernel_rfl) trivial ?_
    exact ⟨_, rfl, rfl, hm251⟩
end Go.Proofs.Ytkcgiolledmbnab
