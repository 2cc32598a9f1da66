/- Printed by gen.py. -/
import Derived.Test.YtkcgiolledmbnabF17
import Derived.Test.YtkcgiolledmbnabF5
import Derived.Test.YtkcgiolledmbnabF8
namespace Go.Proofs.Ytkcgiolledmbnab
open Go Go.RowKit
set_option linter.unusedSimpArgs false
set_option linter.unusedVariables false
set_option linter.unnecessarySimpa false
/-! ### backstitch/backstitchlaw4.KernelShapes -/
noncomputable def law4_KernelShapes.f (x0 : Tensor) (x1 : (List Int)) (x2 : (List Int)) : Option Bool :=
  (law4_awake.f).bind fun r30 =>
  if r30 = true then ((law3_Small.f x0).bind fun r39 =>
  if r39 = true then (if 40 < (x1.length : Int) then (some true)
  else (if 40 < (x2.length : Int) then (some true)
  else ((kernel_Reshape.f x0 x1).bind fun r81 =>
  if r81.2 = 0 then ((kernel_Reshape.f r81.1 x0.Shape).bind fun r114 =>
  (kernel_Reshape.f x0 x2).bind fun r143 =>
  (kernel_Reshape.f r81.1 x2).bind fun r172 =>
  if r114.2 = 0 then ((ref1_SameTensor.f r114.1 x0).bind fun r203 =>
  if r203 = true then (if r143.2 = r172.2 then ((ref1_SameTensor.f r143.1 r172.1).bind fun r206 =>
  some r206)
  else (some false))
  else (some false))
  else (some false))
  else (if (r81.1.Data.length : Int) = 0 then (some true)
  else (some false)))))
  else (some true))
  else (some false)
set_option maxRecDepth 100000 in
set_option maxHeartbeats 4000000 in
theorem law4_KernelShapes.calls (M : List (Option Nat)) (w0 : World) (x0 : Tensor) (A0_0 : Option Addr) (n0_0 c0_0 : Nat) (e0_0 : n0_0 = x0.Shape.length) (A0_1 : Option Addr) (n0_1 c0_1 : Nat) (e0_1 : n0_1 = x0.Data.length) (x1 : (List Int)) (A1 : Option Addr) (n1 c1 : Nat) (e1 : n1 = x1.length) (x2 : (List Int)) (A2 : Option Addr) (n2 c2 : Nat) (e2 : n2 = x2.length) (hm0 : Mem [] M w0 [.sl (Kd.int .i64) A0_0 c0_0 x0.Shape, .sl Kd.float A0_1 c0_1 x0.Data, .sl (Kd.int .i64) A1 c1 x1, .sl (Kd.int .i64) A2 c2 x2] w0) (r : Bool) (H0 : law4_KernelShapes.f x0 x1 x2 = some r) :
    Calls Try.prog 12 [.agg #[.slice A0_0 n0_0 c0_0, .slice A0_1 n0_1 c0_1], .slice A1 n1 c1, .slice A2 n2 c2].toArray w0 (fun x w' => ∃ v, x = .returned v ∧ v = .bool r ∧ Mem [] M w0 [] w') := by
  subst e0_0
  subst e0_1
  subst e1
  subst e2
  unfold law4_KernelShapes.f at H0
  refine enter (n := 78) Try.func12 rfl rfl (by kernel_rfl) fun a0 (hf0 : Fr 78 a0 [(0, .agg #[.slice A0_0 x0.Shape.length c0_0, .slice A0_1 x0.Data.length c0_1]), (1, .slice A1 x1.length c1), (2, .slice A2 x2.length c2)]) => ?_
  refine wp_seq ?_
  refine inReg ?_
  refine listOf hf0 rfl (by kernel_rfl) (aNew (cs := [.slice A0_0 x0.Shape.length c0_0, .slice A0_1 x0.Data.length c0_1]) (T := 28) (d := 3) hf0 (by kernel_rfl) (by kernel_rfl) ?_)
  intro b21 w22 a23 hbb21 hx25 hg26 hf24
  have hm27 := hm0.box hbb21 hx25 hg26
  refine go 1 [] [1, 2, 3] [(1, .slice A1 x1.length c1), (2, .slice A2 x2.length c2), (3, .pointer (some ⟨b21, 0, none⟩))] [] hf24 (by kernel_rfl) trivial fun a28 hf29 => ?_
  refine endL rfl ?_
  refine thenN ?_
  refine wp_seq ?_
  refine wp_seq ?_
  obtain ⟨r30, hr30, H0⟩ := ob_split H0
  rcases ifb_split H0 with ⟨c31, H0⟩ | ⟨c31, H0⟩
  · refine inReg ?_
    refine listOf hf29 rfl (by kernel_rfl) (aCall (fid := 43) (args := []) (d := 15) hf29 (by kernel_rfl) (by kernel_rfl) callable43 (law4_awake.calls _ _  (hm27.give [] [] rfl rfl) r30 hr30) ?_)
    rintro _ w32 a33 ⟨rfl, hk35⟩ hf34
    have hm36 := hm27.still hk35.cum.none
    rw [c31] at hf34
    refine go 1 [] [1, 2, 3, 16] [(1, .slice A1 x1.length c1), (2, .slice A2 x2.length c2), (3, .pointer (some ⟨b21, 0, none⟩)), (16, .bool false)] [] hf34 (by kernel_rfl) trivial fun a37 hf38 => ?_
    refine endL rfl ?_
    refine thenN ?_
    refine condF hf38 (by kernel_rfl) ?_
    refine wp_skip ?_
    refine thenN ?_
    refine wp_seq ?_
    refine wp_seq ?_
    obtain ⟨r39, hr39, H0⟩ := ob_split H0
    rcases ifb_split H0 with ⟨c40, H0⟩ | ⟨c40, H0⟩
    · rcases if_split H0 with ⟨c41, H0⟩ | ⟨c41, H0⟩
      · refine inReg ?_
        refine go 1 [.agg #[.slice A0_0 x0.Shape.length c0_0, .slice A0_1 x0.Data.length c0_1]] [1, 2, 3, 17] [(1, .slice A1 x1.length c1), (2, .slice A2 x2.length c2), (3, .pointer (some ⟨b21, 0, none⟩)), (17, .agg #[.slice A0_0 x0.Shape.length c0_0, .slice A0_1 x0.Data.length c0_1])] [.cell ⟨b21, 0, none⟩ (.slice A0_0 x0.Shape.length c0_0), .cell ⟨b21, 1, none⟩ (.slice A0_1 x0.Data.length c0_1)] hf38 (by kernel_rfl) ⟨(hm36.cell 0 rfl rfl), (hm36.cell 0 rfl rfl), trivial⟩ fun a42 hf43 => ?_
        refine listOf hf43 rfl (by kernel_rfl) (aCall (fid := 31) (args := [.agg #[.slice A0_0 x0.Shape.length c0_0, .slice A0_1 x0.Data.length c0_1]]) (d := 18) hf43 (by kernel_rfl) (by kernel_rfl) callable31 (law3_Small.calls _ _ x0 A0_0 x0.Shape.length c0_0 rfl A0_1 x0.Data.length c0_1 rfl (hm36.give [1, 2] [.sl (Kd.int .i64) A0_0 c0_0 x0.Shape, .sl Kd.float A0_1 c0_1 x0.Data] rfl rfl) r39 hr39) ?_)
        rintro _ w44 a45 ⟨rfl, hk47⟩ hf46
        have hm48 := hm36.still hk47.cum.none
        rw [c40] at hf46
        refine go 11 [.bool true] [1, 2, 3, 29] [(1, .slice A1 x1.length c1), (2, .slice A2 x2.length c2), (3, .pointer (some ⟨b21, 0, none⟩)), (29, .bool true)] [.is (decide (40 < (x1.length : Int)) = true)] hf46 (by kernel_rfl) ⟨(decide_eq_true c41), trivial⟩ fun a49 hf50 => ?_
        refine endL rfl ?_
        refine thenN ?_
        refine condT hf50 (by kernel_rfl) ?_
        refine wp_seq ?_
        refine reg [] [6] [(6, .bool true)] [] hf50 (by kernel_rfl) trivial fun a51 hf52 => ?_
        have hm53 := hm48.sel [] _ rfl (by kernel_rfl)
        refine thenN ?_
        refine wp_ret ?_
        refine thenR ?_
        have hm54 : Mem [] M w0 [] w44 := hm53.sel [] _ rfl (by kernel_rfl)
        obtain rfl := Option.some.inj H0
        refine ret [] [.bool true] [] hf52 (by kernel_rfl) trivial ?_
        exact ⟨_, rfl, rfl, hm54⟩
      · rcases if_split H0 with ⟨c56, H0⟩ | ⟨c56, H0⟩
        · refine inReg ?_
          refine go 1 [.agg #[.slice A0_0 x0.Shape.length c0_0, .slice A0_1 x0.Data.length c0_1]] [1, 2, 3, 17] [(1, .slice A1 x1.length c1), (2, .slice A2 x2.length c2), (3, .pointer (some ⟨b21, 0, none⟩)), (17, .agg #[.slice A0_0 x0.Shape.length c0_0, .slice A0_1 x0.Data.length c0_1])] [.cell ⟨b21, 0, none⟩ (.slice A0_0 x0.Shape.length c0_0), .cell ⟨b21, 1, none⟩ (.slice A0_1 x0.Data.length c0_1)] hf38 (by kernel_rfl) ⟨(hm36.cell 0 rfl rfl), (hm36.cell 0 rfl rfl), trivial⟩ fun a57 hf58 => ?_
          refine listOf hf58 rfl (by kernel_rfl) (aCall (fid := 31) (args := [.agg #[.slice A0_0 x0.Shape.length c0_0, .slice A0_1 x0.Data.length c0_1]]) (d := 18) hf58 (by kernel_rfl) (by kernel_rfl) callable31 (law3_Small.calls _ _ x0 A0_0 x0.Shape.length c0_0 rfl A0_1 x0.Data.length c0_1 rfl (hm36.give [1, 2] [.sl (Kd.int .i64) A0_0 c0_0 x0.Shape, .sl Kd.float A0_1 c0_1 x0.Data] rfl rfl) r39 hr39) ?_)
          rintro _ w59 a60 ⟨rfl, hk62⟩ hf61
          have hm63 := hm36.still hk62.cum.none
          rw [c40] at hf61
          refine go 11 [.bool false, .bool true] [1, 2, 3, 29] [(1, .slice A1 x1.length c1), (2, .slice A2 x2.length c2), (3, .pointer (some ⟨b21, 0, none⟩)), (29, .bool true)] [.is (decide (40 < (x1.length : Int)) = false), .is (decide (40 < (x2.length : Int)) = true)] hf61 (by kernel_rfl) ⟨(decide_eq_false c41), (decide_eq_true c56), trivial⟩ fun a65 hf66 => ?_
          refine endL rfl ?_
          refine thenN ?_
          refine condT hf66 (by kernel_rfl) ?_
          refine wp_seq ?_
          refine reg [] [6] [(6, .bool true)] [] hf66 (by kernel_rfl) trivial fun a67 hf68 => ?_
          have hm69 := hm63.sel [] _ rfl (by kernel_rfl)
          refine thenN ?_
          refine wp_ret ?_
          refine thenR ?_
          have hm70 : Mem [] M w0 [] w59 := hm69.sel [] _ rfl (by kernel_rfl)
          obtain rfl := Option.some.inj H0
          refine ret [] [.bool true] [] hf68 (by kernel_rfl) trivial ?_
          exact ⟨_, rfl, rfl, hm70⟩
        · refine inReg ?_
          refine go 1 [.agg #[.slice A0_0 x0.Shape.length c0_0, .slice A0_1 x0.Data.length c0_1]] [1, 2, 3, 17] [(1, .slice A1 x1.length c1), (2, .slice A2 x2.length c2), (3, .pointer (some ⟨b21, 0, none⟩)), (17, .agg #[.slice A0_0 x0.Shape.length c0_0, .slice A0_1 x0.Data.length c0_1])] [.cell ⟨b21, 0, none⟩ (.slice A0_0 x0.Shape.length c0_0), .cell ⟨b21, 1, none⟩ (.slice A0_1 x0.Data.length c0_1)] hf38 (by kernel_rfl) ⟨(hm36.cell 0 rfl rfl), (hm36.cell 0 rfl rfl), trivial⟩ fun a72 hf73 => ?_
          refine listOf hf73 rfl (by kernel_rfl) (aCall (fid := 31) (args := [.agg #[.slice A0_0 x0.Shape.length c0_0, .slice A0_1 x0.Data.length c0_1]]) (d := 18) hf73 (by kernel_rfl) (by kernel_rfl) callable31 (law3_Small.calls _ _ x0 A0_0 x0.Shape.length c0_0 rfl A0_1 x0.Data.length c0_1 rfl (hm36.give [1, 2] [.sl (Kd.int .i64) A0_0 c0_0 x0.Shape, .sl Kd.float A0_1 c0_1 x0.Data] rfl rfl) r39 hr39) ?_)
          rintro _ w74 a75 ⟨rfl, hk77⟩ hf76
          have hm78 := hm36.still hk77.cum.none
          rw [c40] at hf76
          refine go 11 [.bool false, .bool false] [1, 2, 3, 29] [(1, .slice A1 x1.length c1), (2, .slice A2 x2.length c2), (3, .pointer (some ⟨b21, 0, none⟩)), (29, .bool false)] [.is (decide (40 < (x1.length : Int)) = false), .is (decide (40 < (x2.length : Int)) = false)] hf76 (by kernel_rfl) ⟨(decide_eq_false c41), (decide_eq_false c56), trivial⟩ fun a79 hf80 => ?_
          refine endL rfl ?_
          refine thenN ?_
          refine condF hf80 (by kernel_rfl) ?_
          refine wp_skip ?_
          refine thenN ?_
          refine wp_seq ?_
          obtain ⟨r81, hr81, H0⟩ := ob_split H0
          refine inReg ?_
          refine go 2 [.agg #[.slice A0_0 x0.Shape.length c0_0, .slice A0_1 x0.Data.length c0_1]] [2, 3, 31, 32] [(2, .slice A2 x2.length c2), (3, .pointer (some ⟨b21, 0, none⟩)), (31, .agg #[.slice A0_0 x0.Shape.length c0_0, .slice A0_1 x0.Data.length c0_1]), (32, .slice A1 x1.length c1)] [.cell ⟨b21, 0, none⟩ (.slice A0_0 x0.Shape.length c0_0), .cell ⟨b21, 1, none⟩ (.slice A0_1 x0.Data.length c0_1)] hf80 (by kernel_rfl) ⟨(hm78.cell 0 rfl rfl), (hm78.cell 0 rfl rfl), trivial⟩ fun a82 hf83 => ?_
          refine listOf hf83 rfl (by kernel_rfl) (aCall (fid := 44) (args := [.agg #[.slice A0_0 x0.Shape.length c0_0, .slice A0_1 x0.Data.length c0_1], .slice A1 x1.length c1]) (d := 33) hf83 (by kernel_rfl) (by kernel_rfl) callable44 (kernel_Reshape.calls _ _ x0 A0_0 x0.Shape.length c0_0 rfl A0_1 x0.Data.length c0_1 rfl x1 A1 x1.length c1 rfl (hm78.give [1, 2, 3] [.sl (Kd.int .i64) A0_0 c0_0 x0.Shape, .sl Kd.float A0_1 c0_1 x0.Data, .sl (Kd.int .i64) A1 c1 x1] rfl rfl) r81 hr81) ?_)
          rintro _ w88 a89 ⟨A84, c85, A86, c87, rfl, hk91⟩ hf90
          have hm92 := hm78.back hk91
          have hm93 := hm92.seal 0 _ rfl rfl
          have hm94 := hm93.seal 1 _ rfl rfl
          refine go 3 [] [2, 3, 34, 35] [(2, .slice A2 x2.length c2), (3, .pointer (some ⟨b21, 0, none⟩)), (34, .agg #[.slice A84 r81.1.Shape.length c85, .slice A86 r81.1.Data.length c87]), (35, .int .i64 r81.2)] [] hf90 (by kernel_rfl) trivial fun a95 hf96 => ?_
          refine listOf hf96 rfl (by kernel_rfl) (aNew (cs := [.slice none 0 0, .slice none 0 0]) (T := 28) (d := 7) hf96 (by kernel_rfl) (by kernel_rfl) ?_)
          intro b97 w98 a99 hbb97 hx101 hg102 hf100
          have hm103 := hm94.box hbb97 hx101 hg102
          refine listOf hf100 rfl (by kernel_rfl) (aStoreB (b := b97) (j := 0) (T := 28) (cs := [.slice none 0 0, .slice none 0 0]) (us := [.slice A84 r81.1.Shape.length c85, .slice A86 r81.1.Data.length c87]) (cs' := [.slice A84 r81.1.Shape.length c85, .slice A86 r81.1.Data.length c87]) hf100 (by kernel_rfl) (hm103.bxAt 0 rfl) (by kernel_rfl) (by kernel_rfl) (by kernel_rfl) ?_)
          intro w104 hx105 hg106
          have hm107 := hm103.setBox 0 _ rfl rfl hx105 hg106
          refine go 1 [] [2, 3, 7, 8] [(2, .slice A2 x2.length c2), (3, .pointer (some ⟨b21, 0, none⟩)), (7, .pointer (some ⟨b97, 0, none⟩)), (8, .int .i64 r81.2)] [] hf100 (by kernel_rfl) trivial fun a108 hf109 => ?_
          refine endL rfl ?_
          have hm110 := hm107.sel [0, 1, 2, 3, 4, 5, 7] _ rfl (by kernel_rfl)
          refine thenN ?_
          refine wp_seq ?_
          refine wp_seq ?_
          rcases if_split H0 with ⟨c111, H0⟩ | ⟨c111, H0⟩
          · refine reg [.bool false] [2, 3, 7, 37] [(2, .slice A2 x2.length c2), (3, .pointer (some ⟨b21, 0, none⟩)), (7, .pointer (some ⟨b97, 0, none⟩)), (37, .bool false)] [.is (((r81.2 : Int) != 0) = false)] hf109 (by kernel_rfl) ⟨(neF c111), trivial⟩ fun a112 hf113 => ?_
            refine thenN ?_
            refine condF hf113 (by kernel_rfl) ?_
            refine wp_skip ?_
            refine thenN ?_
            refine wp_seq ?_
            obtain ⟨r114, hr114, H0⟩ := ob_split H0
            refine inReg ?_
            refine go 3 [.agg #[.slice A84 r81.1.Shape.length c85, .slice A86 r81.1.Data.length c87], .slice A0_0 x0.Shape.length c0_0] [2, 3, 7, 43, 45] [(2, .slice A2 x2.length c2), (3, .pointer (some ⟨b21, 0, none⟩)), (7, .pointer (some ⟨b97, 0, none⟩)), (43, .agg #[.slice A84 r81.1.Shape.length c85, .slice A86 r81.1.Data.length c87]), (45, .slice A0_0 x0.Shape.length c0_0)] [.cell ⟨b97, 0, none⟩ (.slice A84 r81.1.Shape.length c85), .cell ⟨b97, 1, none⟩ (.slice A86 r81.1.Data.length c87), .cell ⟨b21, 0, none⟩ (.slice A0_0 x0.Shape.length c0_0)] hf113 (by kernel_rfl) ⟨(hm110.cell 0 rfl rfl), (hm110.cell 0 rfl rfl), (hm110.cell 3 rfl rfl), trivial⟩ fun a115 hf116 => ?_
            refine listOf hf116 rfl (by kernel_rfl) (aCall (fid := 44) (args := [.agg #[.slice A84 r81.1.Shape.length c85, .slice A86 r81.1.Data.length c87], .slice A0_0 x0.Shape.length c0_0]) (d := 46) hf116 (by kernel_rfl) (by kernel_rfl) callable44 (kernel_Reshape.calls _ _ r81.1 A84 r81.1.Shape.length c85 rfl A86 r81.1.Data.length c87 rfl x0.Shape A0_0 x0.Shape.length c0_0 rfl (hm110.give [1, 2, 4] [.sl (Kd.int .i64) A84 c85 r81.1.Shape, .sl Kd.float A86 c87 r81.1.Data, .sl (Kd.int .i64) A0_0 c0_0 x0.Shape] rfl rfl) r114 hr114) ?_)
            rintro _ w121 a122 ⟨A117, c118, A119, c120, rfl, hk124⟩ hf123
            have hm125 := hm110.back hk124
            have hm126 := hm125.seal 0 _ rfl rfl
            have hm127 := hm126.seal 1 _ rfl rfl
            refine go 3 [] [2, 3, 7, 47, 48] [(2, .slice A2 x2.length c2), (3, .pointer (some ⟨b21, 0, none⟩)), (7, .pointer (some ⟨b97, 0, none⟩)), (47, .agg #[.slice A117 r114.1.Shape.length c118, .slice A119 r114.1.Data.length c120]), (48, .int .i64 r114.2)] [] hf123 (by kernel_rfl) trivial fun a128 hf129 => ?_
            refine listOf hf129 rfl (by kernel_rfl) (aNew (cs := [.slice none 0 0, .slice none 0 0]) (T := 28) (d := 9) hf129 (by kernel_rfl) (by kernel_rfl) ?_)
            intro b130 w131 a132 hbb130 hx134 hg135 hf133
            have hm136 := hm127.box hbb130 hx134 hg135
            refine listOf hf133 rfl (by kernel_rfl) (aStoreB (b := b130) (j := 0) (T := 28) (cs := [.slice none 0 0, .slice none 0 0]) (us := [.slice A117 r114.1.Shape.length c118, .slice A119 r114.1.Data.length c120]) (cs' := [.slice A117 r114.1.Shape.length c118, .slice A119 r114.1.Data.length c120]) hf133 (by kernel_rfl) (hm136.bxAt 0 rfl) (by kernel_rfl) (by kernel_rfl) (by kernel_rfl) ?_)
            intro w137 hx138 hg139
            have hm140 := hm136.setBox 0 _ rfl rfl hx138 hg139
            refine go 1 [] [2, 3, 7, 9, 10] [(2, .slice A2 x2.length c2), (3, .pointer (some ⟨b21, 0, none⟩)), (7, .pointer (some ⟨b97, 0, none⟩)), (9, .pointer (some ⟨b130, 0, none⟩)), (10, .int .i64 r114.2)] [] hf133 (by kernel_rfl) trivial fun a141 hf142 => ?_
            refine endL rfl ?_
            refine thenN ?_
            refine wp_seq ?_
            obtain ⟨r143, hr143, H0⟩ := ob_split H0
            refine inReg ?_
            refine go 2 [.agg #[.slice A0_0 x0.Shape.length c0_0, .slice A0_1 x0.Data.length c0_1]] [2, 3, 7, 9, 10, 50, 51] [(2, .slice A2 x2.length c2), (3, .pointer (some ⟨b21, 0, none⟩)), (7, .pointer (some ⟨b97, 0, none⟩)), (9, .pointer (some ⟨b130, 0, none⟩)), (10, .int .i64 r114.2), (50, .agg #[.slice A0_0 x0.Shape.length c0_0, .slice A0_1 x0.Data.length c0_1]), (51, .slice A2 x2.length c2)] [.cell ⟨b21, 0, none⟩ (.slice A0_0 x0.Shape.length c0_0), .cell ⟨b21, 1, none⟩ (.slice A0_1 x0.Data.length c0_1)] hf142 (by kernel_rfl) ⟨(hm140.cell 6 rfl rfl), (hm140.cell 6 rfl rfl), trivial⟩ fun a144 hf145 => ?_
            refine listOf hf145 rfl (by kernel_rfl) (aCall (fid := 44) (args := [.agg #[.slice A0_0 x0.Shape.length c0_0, .slice A0_1 x0.Data.length c0_1], .slice A2 x2.length c2]) (d := 52) hf145 (by kernel_rfl) (by kernel_rfl) callable44 (kernel_Reshape.calls _ _ x0 A0_0 x0.Shape.length c0_0 rfl A0_1 x0.Data.length c0_1 rfl x2 A2 x2.length c2 rfl (hm140.give [7, 8, 9] [.sl (Kd.int .i64) A0_0 c0_0 x0.Shape, .sl Kd.float A0_1 c0_1 x0.Data, .sl (Kd.int .i64) A2 c2 x2] rfl rfl) r143 hr143) ?_)
            rintro _ w150 a151 ⟨A146, c147, A148, c149, rfl, hk153⟩ hf152
            have hm154 := hm140.back hk153
            have hm155 := hm154.seal 0 _ rfl rfl
            have hm156 := hm155.seal 1 _ rfl rfl
            refine go 3 [] [2, 3, 7, 9, 10, 53, 54] [(2, .slice A2 x2.length c2), (3, .pointer (some ⟨b21, 0, none⟩)), (7, .pointer (some ⟨b97, 0, none⟩)), (9, .pointer (some ⟨b130, 0, none⟩)), (10, .int .i64 r114.2), (53, .agg #[.slice A146 r143.1.Shape.length c147, .slice A148 r143.1.Data.length c149]), (54, .int .i64 r143.2)] [] hf152 (by kernel_rfl) trivial fun a157 hf158 => ?_
            refine listOf hf158 rfl (by kernel_rfl) (aNew (cs := [.slice none 0 0, .slice none 0 0]) (T := 28) (d := 11) hf158 (by kernel_rfl) (by kernel_rfl) ?_)
            intro b159 w160 a161 hbb159 hx163 hg164 hf162
            have hm165 := hm156.box hbb159 hx163 hg164
            refine listOf hf162 rfl (by kernel_rfl) (aStoreB (b := b159) (j := 0) (T := 28) (cs := [.slice none 0 0, .slice none 0 0]) (us := [.slice A146 r143.1.Shape.length c147, .slice A148 r143.1.Data.length c149]) (cs' := [.slice A146 r143.1.Shape.length c147, .slice A148 r143.1.Data.length c149]) hf162 (by kernel_rfl) (hm165.bxAt 0 rfl) (by kernel_rfl) (by kernel_rfl) (by kernel_rfl) ?_)
            intro w166 hx167 hg168
            have hm169 := hm165.setBox 0 _ rfl rfl hx167 hg168
            refine go 1 [] [2, 3, 7, 9, 10, 11, 12] [(2, .slice A2 x2.length c2), (3, .pointer (some ⟨b21, 0, none⟩)), (7, .pointer (some ⟨b97, 0, none⟩)), (9, .pointer (some ⟨b130, 0, none⟩)), (10, .int .i64 r114.2), (11, .pointer (some ⟨b159, 0, none⟩)), (12, .int .i64 r143.2)] [] hf162 (by kernel_rfl) trivial fun a170 hf171 => ?_
            refine endL rfl ?_
            refine thenN ?_
            refine wp_seq ?_
            obtain ⟨r172, hr172, H0⟩ := ob_split H0
            refine inReg ?_
            refine go 2 [.agg #[.slice A84 r81.1.Shape.length c85, .slice A86 r81.1.Data.length c87]] [3, 9, 10, 11, 12, 56, 57] [(3, .pointer (some ⟨b21, 0, none⟩)), (9, .pointer (some ⟨b130, 0, none⟩)), (10, .int .i64 r114.2), (11, .pointer (some ⟨b159, 0, none⟩)), (12, .int .i64 r143.2), (56, .agg #[.slice A84 r81.1.Shape.length c85, .slice A86 r81.1.Data.length c87]), (57, .slice A2 x2.length c2)] [.cell ⟨b97, 0, none⟩ (.slice A84 r81.1.Shape.length c85), .cell ⟨b97, 1, none⟩ (.slice A86 r81.1.Data.length c87)] hf171 (by kernel_rfl) ⟨(hm169.cell 6 rfl rfl), (hm169.cell 6 rfl rfl), trivial⟩ fun a173 hf174 => ?_
            refine listOf hf174 rfl (by kernel_rfl) (aCall (fid := 44) (args := [.agg #[.slice A84 r81.1.Shape.length c85, .slice A86 r81.1.Data.length c87], .slice A2 x2.length c2]) (d := 58) hf174 (by kernel_rfl) (by kernel_rfl) callable44 (kernel_Reshape.calls _ _ r81.1 A84 r81.1.Shape.length c85 rfl A86 r81.1.Data.length c87 rfl x2 A2 x2.length c2 rfl (hm169.give [7, 8, 12] [.sl (Kd.int .i64) A84 c85 r81.1.Shape, .sl Kd.float A86 c87 r81.1.Data, .sl (Kd.int .i64) A2 c2 x2] rfl rfl) r172 hr172) ?_)
            rintro _ w179 a180 ⟨A175, c176, A177, c178, rfl, hk182⟩ hf181
            have hm183 := hm169.back hk182
            have hm184 := hm183.seal 0 _ rfl rfl
            have hm185 := hm184.seal 1 _ rfl rfl
            refine go 3 [] [3, 9, 10, 11, 12, 59, 60] [(3, .pointer (some ⟨b21, 0, none⟩)), (9, .pointer (some ⟨b130, 0, none⟩)), (10, .int .i64 r114.2), (11, .pointer (some ⟨b159, 0, none⟩)), (12, .int .i64 r143.2), (59, .agg #[.slice A175 r172.1.Shape.length c176, .slice A177 r172.1.Data.length c178]), (60, .int .i64 r172.2)] [] hf181 (by kernel_rfl) trivial fun a186 hf187 => ?_
            refine listOf hf187 rfl (by kernel_rfl) (aNew (cs := [.slice none 0 0, .slice none 0 0]) (T := 28) (d := 13) hf187 (by kernel_rfl) (by kernel_rfl) ?_)
            intro b188 w189 a190 hbb188 hx192 hg193 hf191
            have hm194 := hm185.box hbb188 hx192 hg193
            refine listOf hf191 rfl (by kernel_rfl) (aStoreB (b := b188) (j := 0) (T := 28) (cs := [.slice none 0 0, .slice none 0 0]) (us := [.slice A175 r172.1.Shape.length c176, .slice A177 r172.1.Data.length c178]) (cs' := [.slice A175 r172.1.Shape.length c176, .slice A177 r172.1.Data.length c178]) hf191 (by kernel_rfl) (hm194.bxAt 0 rfl) (by kernel_rfl) (by kernel_rfl) (by kernel_rfl) ?_)
            intro w195 hx196 hg197
            have hm198 := hm194.setBox 0 _ rfl rfl hx196 hg197
            refine go 1 [] [3, 9, 10, 11, 12, 13, 14] [(3, .pointer (some ⟨b21, 0, none⟩)), (9, .pointer (some ⟨b130, 0, none⟩)), (10, .int .i64 r114.2), (11, .pointer (some ⟨b159, 0, none⟩)), (12, .int .i64 r143.2), (13, .pointer (some ⟨b188, 0, none⟩)), (14, .int .i64 r172.2)] [] hf191 (by kernel_rfl) trivial fun a199 hf200 => ?_
            refine endL rfl ?_
            have hm201 := hm198.sel [0, 1, 2, 3, 4, 5, 6, 7, 8, 12, 13, 14] _ rfl (by kernel_rfl)
            refine thenN ?_
            refine wp_seq ?_
            rcases if_split H0 with ⟨c202, H0⟩ | ⟨c202, H0⟩
            · obtain ⟨r203, hr203, H0⟩ := ob_split H0
              rcases ifb_split H0 with ⟨c204, H0⟩ | ⟨c204, H0⟩
              · rcases if_split H0 with ⟨c205, H0⟩ | ⟨c205, H0⟩
                · obtain ⟨r206, hr206, H0⟩ := ob_split H0
                  refine inReg ?_
                  refine go 5 [.bool true, .agg #[.slice A117 r114.1.Shape.length c118, .slice A119 r114.1.Data.length c120], .agg #[.slice A0_0 x0.Shape.length c0_0, .slice A0_1 x0.Data.length c0_1]] [11, 12, 13, 14, 63, 64, 65] [(11, .pointer (some ⟨b159, 0, none⟩)), (12, .int .i64 r143.2), (13, .pointer (some ⟨b188, 0, none⟩)), (14, .int .i64 r172.2), (63, .bool true), (64, .agg #[.slice A117 r114.1.Shape.length c118, .slice A119 r114.1.Data.length c120]), (65, .agg #[.slice A0_0 x0.Shape.length c0_0, .slice A0_1 x0.Data.length c0_1])] [.is (((r114.2 : Int) == 0) = true), .cell ⟨b130, 0, none⟩ (.slice A117 r114.1.Shape.length c118), .cell ⟨b130, 1, none⟩ (.slice A119 r114.1.Data.length c120), .cell ⟨b21, 0, none⟩ (.slice A0_0 x0.Shape.length c0_0), .cell ⟨b21, 1, none⟩ (.slice A0_1 x0.Data.length c0_1)] hf200 (by kernel_rfl) ⟨(eqT c202), (hm201.cell 6 rfl rfl), (hm201.cell 6 rfl rfl), (hm201.cell 9 rfl rfl), (hm201.cell 9 rfl rfl), trivial⟩ fun a207 hf208 => ?_
                  refine listOf hf208 rfl (by kernel_rfl) (aCall (fid := 19) (args := [.agg #[.slice A117 r114.1.Shape.length c118, .slice A119 r114.1.Data.length c120], .agg #[.slice A0_0 x0.Shape.length c0_0, .slice A0_1 x0.Data.length c0_1]]) (d := 66) hf208 (by kernel_rfl) (by kernel_rfl) callable19 (ref1_SameTensor.calls _ _ r114.1 A117 r114.1.Shape.length c118 rfl A119 r114.1.Data.length c120 rfl x0 A0_0 x0.Shape.length c0_0 rfl A0_1 x0.Data.length c0_1 rfl (hm201.give [7, 8, 10, 11] [.sl (Kd.int .i64) A117 c118 r114.1.Shape, .sl Kd.float A119 c120 r114.1.Data, .sl (Kd.int .i64) A0_0 c0_0 x0.Shape, .sl Kd.float A0_1 c0_1 x0.Data] rfl rfl) r203 hr203) ?_)
                  rintro _ w209 a210 ⟨rfl, hk212⟩ hf211
                  have hm213 := hm201.still hk212.cum.none
                  rw [c204] at hf211
                  refine go 9 [.bool true, .agg #[.slice A146 r143.1.Shape.length c147, .slice A148 r143.1.Data.length c149], .agg #[.slice A175 r172.1.Shape.length c176, .slice A177 r172.1.Data.length c178]] [73, 74, 75] [(73, .bool true), (74, .agg #[.slice A146 r143.1.Shape.length c147, .slice A148 r143.1.Data.length c149]), (75, .agg #[.slice A175 r172.1.Shape.length c176, .slice A177 r172.1.Data.length c178])] [.is (((r143.2 : Int) == r172.2) = true), .cell ⟨b159, 0, none⟩ (.slice A146 r143.1.Shape.length c147), .cell ⟨b159, 1, none⟩ (.slice A148 r143.1.Data.length c149), .cell ⟨b188, 0, none⟩ (.slice A175 r172.1.Shape.length c176), .cell ⟨b188, 1, none⟩ (.slice A177 r172.1.Data.length c178)] hf211 (by kernel_rfl) ⟨(eqT c205), (hm213.cell 3 rfl rfl), (hm213.cell 3 rfl rfl), (hm213.cell 0 rfl rfl), (hm213.cell 0 rfl rfl), trivial⟩ fun a214 hf215 => ?_
                  refine listOf hf215 rfl (by kernel_rfl) (aCall (fid := 19) (args := [.agg #[.slice A146 r143.1.Shape.length c147, .slice A148 r143.1.Data.length c149], .agg #[.slice A175 r172.1.Shape.length c176, .slice A177 r172.1.Data.length c178]]) (d := 76) hf215 (by kernel_rfl) (by kernel_rfl) callable19 (ref1_SameTensor.calls _ _ r143.1 A146 r143.1.Shape.length c147 rfl A148 r143.1.Data.length c149 rfl r172.1 A175 r172.1.Shape.length c176 rfl A177 r172.1.Data.length c178 rfl (hm213.give [4, 5, 1, 2] [.sl (Kd.int .i64) A146 c147 r143.1.Shape, .sl Kd.float A148 c149 r143.1.Data, .sl (Kd.int .i64) A175 c176 r172.1.Shape, .sl Kd.float A177 c178 r172.1.Data] rfl rfl) r206 hr206) ?_)
                  rintro _ w216 a217 ⟨rfl, hk219⟩ hf218
                  have hm220 := hm213.still hk219.cum.none
                  refine go 2 [] [6] [(6, .bool r206)] [] hf218 (by kernel_rfl) trivial fun a221 hf222 => ?_
                  refine endL rfl ?_
                  have hm223 := hm220.sel [] _ rfl (by kernel_rfl)
                  refine thenN ?_
                  refine wp_ret ?_
                  have hm224 : Mem [] M w0 [] w216 := hm223.sel [] _ rfl (by kernel_rfl)
                  obtain rfl := Option.some.inj H0
                  refine ret [] [.bool r206] [] hf222 (by kernel_rfl) trivial ?_
                  exact ⟨_, rfl, rfl, hm224⟩
                · refine inReg ?_
                  refine go 5 [.bool true, .agg #[.slice A117 r114.1.Shape.length c118, .slice A119 r114.1.Data.length c120], .agg #[.slice A0_0 x0.Shape.length c0_0, .slice A0_1 x0.Data.length c0_1]] [11, 12, 13, 14, 63, 64, 65] [(11, .pointer (some ⟨b159, 0, none⟩)), (12, .int .i64 r143.2), (13, .pointer (some ⟨b188, 0, none⟩)), (14, .int .i64 r172.2), (63, .bool true), (64, .agg #[.slice A117 r114.1.Shape.length c118, .slice A119 r114.1.Data.length c120]), (65, .agg #[.slice A0_0 x0.Shape.length c0_0, .slice A0_1 x0.Data.length c0_1])] [.is (((r114.2 : Int) == 0) = true), .cell ⟨b130, 0, none⟩ (.slice A117 r114.1.Shape.length c118), .cell ⟨b130, 1, none⟩ (.slice A119 r114.1.Data.length c120), .cell ⟨b21, 0, none⟩ (.slice A0_0 x0.Shape.length c0_0), .cell ⟨b21, 1, none⟩ (.slice A0_1 x0.Data.length c0_1)] hf200 (by kernel_rfl) ⟨(eqT c202), (hm201.cell 6 rfl rfl), (hm201.cell 6 rfl rfl), (hm201.cell 9 rfl rfl), (hm201.cell 9 rfl rfl), trivial⟩ fun a226 hf227 => ?_
                  refine listOf hf227 rfl (by kernel_rfl) (aCall (fid := 19) (args := [.agg #[.slice A117 r114.1.Shape.length c118, .slice A119 r114.1.Data.length c120], .agg #[.slice A0_0 x0.Shape.length c0_0, .slice A0_1 x0.Data.length c0_1]]) (d := 66) hf227 (by kernel_rfl) (by kernel_rfl) callable19 (ref1_SameTensor.calls _ _ r114.1 A117 r114.1.Shape.length c118 rfl A119 r114.1.Data.length c120 rfl x0 A0_0 x0.Shape.length c0_0 rfl A0_1 x0.Data.length c0_1 rfl (hm201.give [7, 8, 10, 11] [.sl (Kd.int .i64) A117 c118 r114.1.Shape, .sl Kd.float A119 c120 r114.1.Data, .sl (Kd.int .i64) A0_0 c0_0 x0.Shape, .sl Kd.float A0_1 c0_1 x0.Data] rfl rfl) r203 hr203) ?_)
                  rintro _ w228 a229 ⟨rfl, hk231⟩ hf230
                  have hm232 := hm201.still hk231.cum.none
                  rw [c204] at hf230
                  refine go 12 [.bool false] [6] [(6, .bool false)] [.is (((r143.2 : Int) == r172.2) = false)] hf230 (by kernel_rfl) ⟨(eqF c205), trivial⟩ fun a233 hf234 => ?_
                  refine endL rfl ?_
                  have hm235 := hm232.sel [] _ rfl (by kernel_rfl)
                  refine thenN ?_
                  refine wp_ret ?_
                  have hm236 : Mem [] M w0 [] w228 := hm235.sel [] _ rfl (by kernel_rfl)
                  obtain rfl := Option.some.inj H0
                  refine ret [] [.bool false] [] hf234 (by kernel_rfl) trivial ?_
                  exact ⟨_, rfl, rfl, hm236⟩
              · refine inReg ?_
                refine go 5 [.bool true, .agg #[.slice A117 r114.1.Shape.length c118, .slice A119 r114.1.Data.length c120], .agg #[.slice A0_0 x0.Shape.length c0_0, .slice A0_1 x0.Data.length c0_1]] [11, 12, 13, 14, 63, 64, 65] [(11, .pointer (some ⟨b159, 0, none⟩)), (12, .int .i64 r143.2), (13, .pointer (some ⟨b188, 0, none⟩)), (14, .int .i64 r172.2), (63, .bool true), (64, .agg #[.slice A117 r114.1.Shape.length c118, .slice A119 r114.1.Data.length c120]), (65, .agg #[.slice A0_0 x0.Shape.length c0_0, .slice A0_1 x0.Data.length c0_1])] [.is (((r114.2 : Int) == 0) = true), .cell ⟨b130, 0, none⟩ (.slice A117 r114.1.Shape.length c118), .cell ⟨b130, 1, none⟩ (.slice A119 r114.1.Data.length c120), .cell ⟨b21, 0, none⟩ (.slice A0_0 x0.Shape.length c0_0), .cell ⟨b21, 1, none⟩ (.slice A0_1 x0.Data.length c0_1)] hf200 (by kernel_rfl) ⟨(eqT c202), (hm201.cell 6 rfl rfl), (hm201.cell 6 rfl rfl), (hm201.cell 9 rfl rfl), (hm201.cell 9 rfl rfl), trivial⟩ fun a238 hf239 => ?_
                refine listOf hf239 rfl (by kernel_rfl) (aCall (fid := 19) (args := [.agg #[.slice A117 r114.1.Shape.length c118, .slice A119 r114.1.Data.length c120], .agg #[.slice A0_0 x0.Shape.length c0_0, .slice A0_1 x0.Data.length c0_1]]) (d := 66) hf239 (by kernel_rfl) (by kernel_rfl) callable19 (ref1_SameTensor.calls _ _ r114.1 A117 r114.1.Shape.length c118 rfl A119 r114.1.Data.length c120 rfl x0 A0_0 x0.Shape.length c0_0 rfl A0_1 x0.Data.length c0_1 rfl (hm201.give [7, 8, 10, 11] [.sl (Kd.int .i64) A117 c118 r114.1.Shape, .sl Kd.float A119 c120 r114.1.Data, .sl (Kd.int .i64) A0_0 c0_0 x0.Shape, .sl Kd.float A0_1 c0_1 x0.Data] rfl rfl) r203 hr203) ?_)
                rintro _ w240 a241 ⟨rfl, hk243⟩ hf242
                have hm244 := hm201.still hk243.cum.none
                rw [c204] at hf242
                refine go 12 [] [6] [(6, .bool false)] [] hf242 (by kernel_rfl) trivial fun a245 hf246 => ?_
                refine endL rfl ?_
                have hm247 := hm244.sel [] _ rfl (by kernel_rfl)
                refine thenN ?_
                refine wp_ret ?_
                have hm248 : Mem [] M w0 [] w240 := hm247.sel [] _ rfl (by kernel_rfl)
                obtain rfl := Option.some.inj H0
                refine ret [] [.bool false] [] hf246 (by kernel_rfl) trivial ?_
                exact ⟨_, rfl, rfl, hm248⟩
            · refine reg [.bool false] [6] [(6, .bool false)] [.is (((r114.2 : Int) == 0) = false)] hf200 (by kernel_rfl) ⟨(eqF c202), trivial⟩ fun a250 hf251 => ?_
              have hm252 := hm201.sel [] _ rfl (by kernel_rfl)
              refine thenN ?_
              refine wp_ret ?_
              have hm253 : Mem [] M w0 [] w195 := hm252.sel [] _ rfl (by kernel_rfl)
              obtain rfl := Option.some.inj H0
              refine ret [] [.bool false] [] hf251 (by kernel_rfl) trivial ?_
              exact ⟨_, rfl, rfl, hm253⟩
          · refine reg [.bool true] [2, 3, 7, 37] [(2, .slice A2 x2.length c2), (3, .pointer (some ⟨b21, 0, none⟩)), (7, .pointer (some ⟨b97, 0, none⟩)), (37, .bool true)] [.is (((r81.2 : Int) != 0) = true)] hf109 (by kernel_rfl) ⟨(neT c111), trivial⟩ fun a255 hf256 => ?_
            refine thenN ?_
            refine condT hf256 (by kernel_rfl) ?_
            refine wp_seq ?_
            rcases if_split H0 with ⟨c257, H0⟩ | ⟨c257, H0⟩
            · refine reg [.slice A86 r81.1.Data.length c87, .bool true] [6] [(6, .bool true)] [.cell ⟨b97, 1, none⟩ (.slice A86 r81.1.Data.length c87), .is ((((r81.1.Data.length : Int) : Int) == 0) = true)] hf256 (by kernel_rfl) ⟨(hm110.cell 0 rfl rfl), (eqT c257), trivial⟩ fun a258 hf259 => ?_
              have hm260 := hm110.sel [] _ rfl (by kernel_rfl)
              refine thenN ?_
              refine wp_ret ?_
              refine thenR ?_
              have hm261 : Mem [] M w0 [] w104 := hm260.sel [] _ rfl (by kernel_rfl)
              obtain rfl := Option.some.inj H0
              refine ret [] [.bool true] [] hf259 (by kernel_rfl) trivial ?_
              exact ⟨_, rfl, rfl, hm261⟩
            · refine reg [.slice A86 r81.1.Data.length c87, .bool false] [6] [(6, .bool false)] [.cell ⟨b97, 1, none⟩ (.slice A86 r81.1.Data.length c87), .is ((((r81.1.Data.length : Int) : Int) == 0) = false)] hf256 (by kernel_rfl) ⟨(hm110.cell 0 rfl rfl), (eqF c257), trivial⟩ fun a263 hf264 => ?_
              have hm265 := hm110.sel [] _ rfl (by kernel_rfl)
              refine thenN ?_
              refine wp_ret ?_
              refine thenR ?_
              have hm266 : Mem [] M w0 [] w104 := hm265.sel [] _ rfl (by kernel_rfl)
              obtain rfl := Option.some.inj H0
              refine ret [] [.bool false] [] hf264 (by kernel_rfl) trivial ?_
              exact ⟨_, rfl, rfl, hm266⟩
    · refine inReg ?_
      refine go 1 [.agg #[.slice A0_0 x0.Shape.length c0_0, .slice A0_1 x0.Data.length c0_1]] [1, 2, 3, 17] [(1, .slice A1 x1.length c1), (2, .slice A2 x2.length c2), (3, .pointer (some ⟨b21, 0, none⟩)), (17, .agg #[.slice A0_0 x0.Shape.length c0_0, .slice A0_1 x0.Data.length c0_1])] [.cell ⟨b21, 0, none⟩ (.slice A0_0 x0.Shape.length c0_0), .cell ⟨b21, 1, none⟩ (.slice A0_1 x0.Data.length c0_1)] hf38 (by kernel_rfl) ⟨(hm36.cell 0 rfl rfl), (hm36.cell 0 rfl rfl), trivial⟩ fun a268 hf269 => ?_
      refine listOf hf269 rfl (by kernel_rfl) (aCall (fid := 31) (args := [.agg #[.slice A0_0 x0.Shape.length c0_0, .slice A0_1 x0.Data.length c0_1]]) (d := 18) hf269 (by kernel_rfl) (by kernel_rfl) callable31 (law3_Small.calls _ _ x0 A0_0 x0.Shape.length c0_0 rfl A0_1 x0.Data.length c0_1 rfl (hm36.give [1, 2] [.sl (Kd.int .i64) A0_0 c0_0 x0.Shape, .sl Kd.float A0_1 c0_1 x0.Data] rfl rfl) r39 hr39) ?_)
      rintro _ w270 a271 ⟨rfl, hk273⟩ hf272
      have hm274 := hm36.still hk273.cum.none
      rw [c40] at hf272
      refine go 11 [] [1, 2, 3, 29] [(1, .slice A1 x1.length c1), (2, .slice A2 x2.length c2), (3, .pointer (some ⟨b21, 0, none⟩)), (29, .bool true)] [] hf272 (by kernel_rfl) trivial fun a275 hf276 => ?_
      refine endL rfl ?_
      refine thenN ?_
      refine condT hf276 (by kernel_rfl) ?_
      refine wp_seq ?_
      refine reg [] [6] [(6, .bool true)] [] hf276 (by kernel_rfl) trivial fun a277 hf278 => ?_
      have hm279 := hm274.sel [] _ rfl (by kernel_rfl)
      refine thenN ?_
      refine wp_ret ?_
      refine thenR ?_
      have hm280 : Mem [] M w0 [] w270 := hm279.sel [] _ rfl (by kernel_rfl)
      obtain rfl := Option.some.inj H0
      refine ret [] [.bool true] [] hf278 (by kernel_rfl) trivial ?_
      exact ⟨_, rfl, rfl, hm280⟩
  · refine inReg ?_
    refine listOf hf29 rfl (by kernel_rfl) (aCall (fid := 43) (args := []) (d := 15) hf29 (by kernel_rfl) (by kernel_rfl) callable43 (law4_awake.calls _ _  (hm27.give [] [] rfl rfl) r30 hr30) ?_)
    rintro _ w282 a283 ⟨rfl, hk285⟩ hf284
    have hm286 := hm27.still hk285.cum.none
    rw [c31] at hf284
    refine go 1 [] [1, 2, 3, 16] [(1, .slice A1 x1.length c1), (2, .slice A2 x2.length c2), (3, .pointer (some ⟨b21, 0, none⟩)), (16, .bool true)] [] hf284 (by kernel_rfl) trivial fun a287 hf288 => ?_
    refine endL rfl ?_
    refine thenN ?_
    refine condT hf288 (by kernel_rfl) ?_
    refine wp_seq ?_
    refine reg [] [6] [(6, .bool false)] [] hf288 (by kernel_rfl) trivial fun a289 hf290 => ?_
    have hm291 := hm286.sel [] _ rfl (by kernel_rfl)
    refine thenN ?_
    refine wp_ret ?_
    refine thenR ?_
    have hm292 : Mem [] M w0 [] w282 := hm291.sel [] _ rfl (by kernel_rfl)
    obtain rfl := Option.some.inj H0
    refine ret [] [.bool false] [] hf290 (by kernel_rfl) trivial ?_
    exact ⟨_, rfl, rfl, hm292⟩
end Go.Proofs.Ytkcgiolledmbnab
