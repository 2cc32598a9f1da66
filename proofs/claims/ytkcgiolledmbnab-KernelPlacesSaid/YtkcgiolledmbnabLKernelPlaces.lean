/- Printed by gen.py. -/
import Derived.Test.YtkcgiolledmbnabF11
import Derived.Test.YtkcgiolledmbnabF22
import Derived.Test.YtkcgiolledmbnabF23
import Derived.Test.YtkcgiolledmbnabF24
import Derived.Test.YtkcgiolledmbnabF7
namespace Go.Proofs.Ytkcgiolledmbnab
open Go Go.RowKit
set_option linter.unusedSimpArgs false
set_option linter.unusedVariables false
set_option linter.unnecessarySimpa false
/-! ### backstitch/backstitchlaw4.KernelPlaces -/
noncomputable def law4_KernelPlaces.l0 (r67 : (Tensor × Int)) (r99 : (Tensor × Int)) (r129 : (Tensor × Int)) (s167 : Int) : Step Int (Out2 Int Bool) :=
  if s167 < (r67.1.Data.length : Int) then (if 0 ≤ s167 ∧ s167 < (r67.1.Data.length : Int) then (if 0 ≤ s167 ∧ s167 < (r99.1.Data.length : Int) then (if 0 ≤ s167 ∧ s167 < (r129.1.Data.length : Int) then (bindS (ref1_Same.f (rd r67.1.Data s167) (fadd (rd r99.1.Data s167) (rd r129.1.Data s167))) fun r180 =>
  if r180 = true then (.next (w64 (s167 + 1)))
  else (.done (.ret false)))
  else .bad)
  else .bad)
  else .bad)
  else (.done (.go s167))
noncomputable def law4_KernelPlaces.f (x0 : Tensor) (x1 : Tensor) : Option Bool :=
  (law4_awake.f).bind fun r37 =>
  if r37 = true then ((law3_Small.f x0).bind fun r46 =>
  if r46 = true then ((law3_Small.f x1).bind fun r48 =>
  if r48 = true then ((kernel_Two.f 4 x0 x1).bind fun r67 =>
  if r67.2 = 0 then ((kernel_Spread.f x0 r67.1.Shape).bind fun r99 =>
  (kernel_Spread.f x1 r67.1.Shape).bind fun r129 =>
  if r99.2 = 0 then (if r129.2 = 0 then (if (r99.1.Data.length : Int) = (r67.1.Data.length : Int) then (if (r129.1.Data.length : Int) = (r67.1.Data.length : Int) then ((loop (law4_KernelPlaces.l0 r67 r99 r129) 0).bind fun r168 =>
  r168.on (fun yr168 =>
  some true) (fun y => some y))
  else (some false))
  else (some false))
  else (some false))
  else (some false))
  else (if (r67.1.Data.length : Int) = 0 then (some true)
  else (some false)))
  else (some true))
  else (some true))
  else (some false)
set_option maxRecDepth 100000 in
set_option maxHeartbeats 4000000 in
theorem law4_KernelPlaces.calls (M : List (Option Nat)) (w0 : World) (x0 : Tensor) (A0_0 : Option Addr) (n0_0 c0_0 : Nat) (e0_0 : n0_0 = x0.Shape.length) (A0_1 : Option Addr) (n0_1 c0_1 : Nat) (e0_1 : n0_1 = x0.Data.length) (x1 : Tensor) (A1_0 : Option Addr) (n1_0 c1_0 : Nat) (e1_0 : n1_0 = x1.Shape.length) (A1_1 : Option Addr) (n1_1 c1_1 : Nat) (e1_1 : n1_1 = x1.Data.length) (hm0 : Mem [] M w0 [.sl (Kd.int .i64) A0_0 c0_0 x0.Shape, .sl Kd.float A0_1 c0_1 x0.Data, .sl (Kd.int .i64) A1_0 c1_0 x1.Shape, .sl Kd.float A1_1 c1_1 x1.Data] w0) (r : Bool) (H0 : law4_KernelPlaces.f x0 x1 = some r) :
    Calls Try.prog 13 [.agg #[.slice A0_0 n0_0 c0_0, .slice A0_1 n0_1 c0_1], .agg #[.slice A1_0 n1_0 c1_0, .slice A1_1 n1_1 c1_1]].toArray w0 (fun x w' => ∃ v, x = .returned v ∧ v = .bool r ∧ Mem [] M w0 [] w') := by
  subst e0_0
  subst e0_1
  subst e1_0
  subst e1_1
  unfold law4_KernelPlaces.f at H0
  refine enter (n := 97) Try.func13 rfl rfl (by kernel_rfl) fun a0 (hf0 : Fr 97 a0 [(0, .agg #[.slice A0_0 x0.Shape.length c0_0, .slice A0_1 x0.Data.length c0_1]), (1, .agg #[.slice A1_0 x1.Shape.length c1_0, .slice A1_1 x1.Data.length c1_1])]) => ?_
  refine wp_seq ?_
  refine inReg ?_
  refine listOf hf0 rfl (by kernel_rfl) (aNew (cs := [.slice A0_0 x0.Shape.length c0_0, .slice A0_1 x0.Data.length c0_1]) (T := 28) (d := 2) hf0 (by kernel_rfl) (by kernel_rfl) ?_)
  intro b21 w22 a23 hbb21 hx25 hg26 hf24
  have hm27 := hm0.box hbb21 hx25 hg26
  refine listOf hf24 rfl (by kernel_rfl) (aNew (cs := [.slice A1_0 x1.Shape.length c1_0, .slice A1_1 x1.Data.length c1_1]) (T := 28) (d := 3) hf24 (by kernel_rfl) (by kernel_rfl) ?_)
  intro b28 w29 a30 hbb28 hx32 hg33 hf31
  have hm34 := hm27.box hbb28 hx32 hg33
  refine go 1 [] [2, 3] [(2, .pointer (some ⟨b21, 0, none⟩)), (3, .pointer (some ⟨b28, 0, none⟩))] [] hf31 (by kernel_rfl) trivial fun a35 hf36 => ?_
  refine endL rfl ?_
  refine thenN ?_
  refine wp_seq ?_
  refine wp_seq ?_
  obtain ⟨r37, hr37, H0⟩ := ob_split H0
  rcases ifb_split H0 with ⟨c38, H0⟩ | ⟨c38, H0⟩
  · refine inReg ?_
    refine listOf hf36 rfl (by kernel_rfl) (aCall (fid := 43) (args := []) (d := 12) hf36 (by kernel_rfl) (by kernel_rfl) callable43 (law4_awake.calls _ _  (hm34.give [] [] rfl rfl) r37 hr37) ?_)
    rintro _ w39 a40 ⟨rfl, hk42⟩ hf41
    have hm43 := hm34.still hk42.cum.none
    rw [c38] at hf41
    refine go 1 [] [2, 3, 13] [(2, .pointer (some ⟨b21, 0, none⟩)), (3, .pointer (some ⟨b28, 0, none⟩)), (13, .bool false)] [] hf41 (by kernel_rfl) trivial fun a44 hf45 => ?_
    refine endL rfl ?_
    refine thenN ?_
    refine condF hf45 (by kernel_rfl) ?_
    refine wp_skip ?_
    refine thenN ?_
    refine wp_seq ?_
    refine wp_seq ?_
    obtain ⟨r46, hr46, H0⟩ := ob_split H0
    rcases ifb_split H0 with ⟨c47, H0⟩ | ⟨c47, H0⟩
    · obtain ⟨r48, hr48, H0⟩ := ob_split H0
      rcases ifb_split H0 with ⟨c49, H0⟩ | ⟨c49, H0⟩
      · refine inReg ?_
        refine go 1 [.agg #[.slice A0_0 x0.Shape.length c0_0, .slice A0_1 x0.Data.length c0_1]] [2, 3, 14] [(2, .pointer (some ⟨b21, 0, none⟩)), (3, .pointer (some ⟨b28, 0, none⟩)), (14, .agg #[.slice A0_0 x0.Shape.length c0_0, .slice A0_1 x0.Data.length c0_1])] [.cell ⟨b21, 0, none⟩ (.slice A0_0 x0.Shape.length c0_0), .cell ⟨b21, 1, none⟩ (.slice A0_1 x0.Data.length c0_1)] hf45 (by kernel_rfl) ⟨(hm43.cell 1 rfl rfl), (hm43.cell 1 rfl rfl), trivial⟩ fun a50 hf51 => ?_
        refine listOf hf51 rfl (by kernel_rfl) (aCall (fid := 31) (args := [.agg #[.slice A0_0 x0.Shape.length c0_0, .slice A0_1 x0.Data.length c0_1]]) (d := 15) hf51 (by kernel_rfl) (by kernel_rfl) callable31 (law3_Small.calls _ _ x0 A0_0 x0.Shape.length c0_0 rfl A0_1 x0.Data.length c0_1 rfl (hm43.give [2, 3] [.sl (Kd.int .i64) A0_0 c0_0 x0.Shape, .sl Kd.float A0_1 c0_1 x0.Data] rfl rfl) r46 hr46) ?_)
        rintro _ w52 a53 ⟨rfl, hk55⟩ hf54
        have hm56 := hm43.still hk55.cum.none
        rw [c47] at hf54
        refine go 3 [.agg #[.slice A1_0 x1.Shape.length c1_0, .slice A1_1 x1.Data.length c1_1]] [2, 3, 17, 18] [(2, .pointer (some ⟨b21, 0, none⟩)), (3, .pointer (some ⟨b28, 0, none⟩)), (17, .bool false), (18, .agg #[.slice A1_0 x1.Shape.length c1_0, .slice A1_1 x1.Data.length c1_1])] [.cell ⟨b28, 0, none⟩ (.slice A1_0 x1.Shape.length c1_0), .cell ⟨b28, 1, none⟩ (.slice A1_1 x1.Data.length c1_1)] hf54 (by kernel_rfl) ⟨(hm56.cell 0 rfl rfl), (hm56.cell 0 rfl rfl), trivial⟩ fun a57 hf58 => ?_
        refine listOf hf58 rfl (by kernel_rfl) (aCall (fid := 31) (args := [.agg #[.slice A1_0 x1.Shape.length c1_0, .slice A1_1 x1.Data.length c1_1]]) (d := 19) hf58 (by kernel_rfl) (by kernel_rfl) callable31 (law3_Small.calls _ _ x1 A1_0 x1.Shape.length c1_0 rfl A1_1 x1.Data.length c1_1 rfl (hm56.give [4, 5] [.sl (Kd.int .i64) A1_0 c1_0 x1.Shape, .sl Kd.float A1_1 c1_1 x1.Data] rfl rfl) r48 hr48) ?_)
        rintro _ w59 a60 ⟨rfl, hk62⟩ hf61
        have hm63 := hm56.still hk62.cum.none
        rw [c49] at hf61
        refine go 2 [] [2, 3, 21] [(2, .pointer (some ⟨b21, 0, none⟩)), (3, .pointer (some ⟨b28, 0, none⟩)), (21, .bool false)] [] hf61 (by kernel_rfl) trivial fun a65 hf66 => ?_
        refine endL rfl ?_
        refine thenN ?_
        refine condF hf66 (by kernel_rfl) ?_
        refine wp_skip ?_
        refine thenN ?_
        refine wp_seq ?_
        obtain ⟨r67, hr67, H0⟩ := ob_split H0
        refine inReg ?_
        refine go 2 [.agg #[.slice A0_0 x0.Shape.length c0_0, .slice A0_1 x0.Data.length c0_1], .agg #[.slice A1_0 x1.Shape.length c1_0, .slice A1_1 x1.Data.length c1_1]] [2, 3, 23, 24] [(2, .pointer (some ⟨b21, 0, none⟩)), (3, .pointer (some ⟨b28, 0, none⟩)), (23, .agg #[.slice A0_0 x0.Shape.length c0_0, .slice A0_1 x0.Data.length c0_1]), (24, .agg #[.slice A1_0 x1.Shape.length c1_0, .slice A1_1 x1.Data.length c1_1])] [.cell ⟨b21, 0, none⟩ (.slice A0_0 x0.Shape.length c0_0), .cell ⟨b21, 1, none⟩ (.slice A0_1 x0.Data.length c0_1), .cell ⟨b28, 0, none⟩ (.slice A1_0 x1.Shape.length c1_0), .cell ⟨b28, 1, none⟩ (.slice A1_1 x1.Data.length c1_1)] hf66 (by kernel_rfl) ⟨(hm63.cell 1 rfl rfl), (hm63.cell 1 rfl rfl), (hm63.cell 0 rfl rfl), (hm63.cell 0 rfl rfl), trivial⟩ fun a68 hf69 => ?_
        refine listOf hf69 rfl (by kernel_rfl) (aCall (fid := 45) (args := [.int .i64 4, .agg #[.slice A0_0 x0.Shape.length c0_0, .slice A0_1 x0.Data.length c0_1], .agg #[.slice A1_0 x1.Shape.length c1_0, .slice A1_1 x1.Data.length c1_1]]) (d := 25) hf69 (by kernel_rfl) (by kernel_rfl) callable45 (kernel_Two.calls _ _ 4 x0 A0_0 x0.Shape.length c0_0 rfl A0_1 x0.Data.length c0_1 rfl x1 A1_0 x1.Shape.length c1_0 rfl A1_1 x1.Data.length c1_1 rfl (hm63.give [2, 3, 4, 5] [.sl (Kd.int .i64) A0_0 c0_0 x0.Shape, .sl Kd.float A0_1 c0_1 x0.Data, .sl (Kd.int .i64) A1_0 c1_0 x1.Shape, .sl Kd.float A1_1 c1_1 x1.Data] rfl rfl) r67 hr67) ?_)
        rintro _ w74 a75 ⟨A70, c71, A72, c73, rfl, hk77⟩ hf76
        have hm78 := hm63.back hk77
        have hm79 := hm78.seal 0 _ rfl rfl
        have hm80 := hm79.seal 1 _ rfl rfl
        refine go 3 [] [2, 3, 26, 27] [(2, .pointer (some ⟨b21, 0, none⟩)), (3, .pointer (some ⟨b28, 0, none⟩)), (26, .agg #[.slice A70 r67.1.Shape.length c71, .slice A72 r67.1.Data.length c73]), (27, .int .i64 r67.2)] [] hf76 (by kernel_rfl) trivial fun a81 hf82 => ?_
        refine listOf hf82 rfl (by kernel_rfl) (aNew (cs := [.slice none 0 0, .slice none 0 0]) (T := 28) (d := 5) hf82 (by kernel_rfl) (by kernel_rfl) ?_)
        intro b83 w84 a85 hbb83 hx87 hg88 hf86
        have hm89 := hm80.box hbb83 hx87 hg88
        refine listOf hf86 rfl (by kernel_rfl) (aStoreB (b := b83) (j := 0) (T := 28) (cs := [.slice none 0 0, .slice none 0 0]) (us := [.slice A70 r67.1.Shape.length c71, .slice A72 r67.1.Data.length c73]) (cs' := [.slice A70 r67.1.Shape.length c71, .slice A72 r67.1.Data.length c73]) hf86 (by kernel_rfl) (hm89.bxAt 0 rfl) (by kernel_rfl) (by kernel_rfl) (by kernel_rfl) ?_)
        intro w90 hx91 hg92
        have hm93 := hm89.setBox 0 _ rfl rfl hx91 hg92
        refine go 1 [] [2, 3, 5, 6] [(2, .pointer (some ⟨b21, 0, none⟩)), (3, .pointer (some ⟨b28, 0, none⟩)), (5, .pointer (some ⟨b83, 0, none⟩)), (6, .int .i64 r67.2)] [] hf86 (by kernel_rfl) trivial fun a94 hf95 => ?_
        refine endL rfl ?_
        refine thenN ?_
        refine wp_seq ?_
        refine wp_seq ?_
        rcases if_split H0 with ⟨c96, H0⟩ | ⟨c96, H0⟩
        · refine reg [.bool false] [2, 3, 5, 29] [(2, .pointer (some ⟨b21, 0, none⟩)), (3, .pointer (some ⟨b28, 0, none⟩)), (5, .pointer (some ⟨b83, 0, none⟩)), (29, .bool false)] [.is (((r67.2 : Int) != 0) = false)] hf95 (by kernel_rfl) ⟨(neF c96), trivial⟩ fun a97 hf98 => ?_
          refine thenN ?_
          refine condF hf98 (by kernel_rfl) ?_
          refine wp_skip ?_
          refine thenN ?_
          refine wp_seq ?_
          obtain ⟨r99, hr99, H0⟩ := ob_split H0
          refine inReg ?_
          refine go 3 [.agg #[.slice A0_0 x0.Shape.length c0_0, .slice A0_1 x0.Data.length c0_1], .slice A70 r67.1.Shape.length c71] [3, 5, 35, 37] [(3, .pointer (some ⟨b28, 0, none⟩)), (5, .pointer (some ⟨b83, 0, none⟩)), (35, .agg #[.slice A0_0 x0.Shape.length c0_0, .slice A0_1 x0.Data.length c0_1]), (37, .slice A70 r67.1.Shape.length c71)] [.cell ⟨b21, 0, none⟩ (.slice A0_0 x0.Shape.length c0_0), .cell ⟨b21, 1, none⟩ (.slice A0_1 x0.Data.length c0_1), .cell ⟨b83, 0, none⟩ (.slice A70 r67.1.Shape.length c71)] hf98 (by kernel_rfl) ⟨(hm93.cell 4 rfl rfl), (hm93.cell 4 rfl rfl), (hm93.cell 0 rfl rfl), trivial⟩ fun a100 hf101 => ?_
          refine listOf hf101 rfl (by kernel_rfl) (aCall (fid := 46) (args := [.agg #[.slice A0_0 x0.Shape.length c0_0, .slice A0_1 x0.Data.length c0_1], .slice A70 r67.1.Shape.length c71]) (d := 38) hf101 (by kernel_rfl) (by kernel_rfl) callable46 (kernel_Spread.calls _ _ x0 A0_0 x0.Shape.length c0_0 rfl A0_1 x0.Data.length c0_1 rfl r67.1.Shape A70 r67.1.Shape.length c71 rfl (hm93.give [5, 6, 1] [.sl (Kd.int .i64) A0_0 c0_0 x0.Shape, .sl Kd.float A0_1 c0_1 x0.Data, .sl (Kd.int .i64) A70 c71 r67.1.Shape] rfl rfl) r99 hr99) ?_)
          rintro _ w106 a107 ⟨A102, c103, A104, c105, rfl, hk109⟩ hf108
          have hm110 := hm93.back hk109
          have hm111 := hm110.seal 0 _ rfl rfl
          have hm112 := hm111.seal 1 _ rfl rfl
          refine go 3 [] [3, 5, 39, 40] [(3, .pointer (some ⟨b28, 0, none⟩)), (5, .pointer (some ⟨b83, 0, none⟩)), (39, .agg #[.slice A102 r99.1.Shape.length c103, .slice A104 r99.1.Data.length c105]), (40, .int .i64 r99.2)] [] hf108 (by kernel_rfl) trivial fun a113 hf114 => ?_
          refine listOf hf114 rfl (by kernel_rfl) (aNew (cs := [.slice none 0 0, .slice none 0 0]) (T := 28) (d := 7) hf114 (by kernel_rfl) (by kernel_rfl) ?_)
          intro b115 w116 a117 hbb115 hx119 hg120 hf118
          have hm121 := hm112.box hbb115 hx119 hg120
          refine listOf hf118 rfl (by kernel_rfl) (aStoreB (b := b115) (j := 0) (T := 28) (cs := [.slice none 0 0, .slice none 0 0]) (us := [.slice A102 r99.1.Shape.length c103, .slice A104 r99.1.Data.length c105]) (cs' := [.slice A102 r99.1.Shape.length c103, .slice A104 r99.1.Data.length c105]) hf118 (by kernel_rfl) (hm121.bxAt 0 rfl) (by kernel_rfl) (by kernel_rfl) (by kernel_rfl) ?_)
          intro w122 hx123 hg124
          have hm125 := hm121.setBox 0 _ rfl rfl hx123 hg124
          refine go 1 [] [3, 5, 7, 8] [(3, .pointer (some ⟨b28, 0, none⟩)), (5, .pointer (some ⟨b83, 0, none⟩)), (7, .pointer (some ⟨b115, 0, none⟩)), (8, .int .i64 r99.2)] [] hf118 (by kernel_rfl) trivial fun a126 hf127 => ?_
          refine endL rfl ?_
          have hm128 := hm125.sel [0, 1, 2, 3, 4, 5, 6, 10, 11] _ rfl (by kernel_rfl)
          refine thenN ?_
          refine wp_seq ?_
          obtain ⟨r129, hr129, H0⟩ := ob_split H0
          refine inReg ?_
          refine go 3 [.agg #[.slice A1_0 x1.Shape.length c1_0, .slice A1_1 x1.Data.length c1_1], .slice A70 r67.1.Shape.length c71] [5, 7, 8, 42, 44] [(5, .pointer (some ⟨b83, 0, none⟩)), (7, .pointer (some ⟨b115, 0, none⟩)), (8, .int .i64 r99.2), (42, .agg #[.slice A1_0 x1.Shape.length c1_0, .slice A1_1 x1.Data.length c1_1]), (44, .slice A70 r67.1.Shape.length c71)] [.cell ⟨b28, 0, none⟩ (.slice A1_0 x1.Shape.length c1_0), .cell ⟨b28, 1, none⟩ (.slice A1_1 x1.Data.length c1_1), .cell ⟨b83, 0, none⟩ (.slice A70 r67.1.Shape.length c71)] hf127 (by kernel_rfl) ⟨(hm128.cell 6 rfl rfl), (hm128.cell 6 rfl rfl), (hm128.cell 3 rfl rfl), trivial⟩ fun a130 hf131 => ?_
          refine listOf hf131 rfl (by kernel_rfl) (aCall (fid := 46) (args := [.agg #[.slice A1_0 x1.Shape.length c1_0, .slice A1_1 x1.Data.length c1_1], .slice A70 r67.1.Shape.length c71]) (d := 45) hf131 (by kernel_rfl) (by kernel_rfl) callable46 (kernel_Spread.calls _ _ x1 A1_0 x1.Shape.length c1_0 rfl A1_1 x1.Data.length c1_1 rfl r67.1.Shape A70 r67.1.Shape.length c71 rfl (hm128.give [7, 8, 4] [.sl (Kd.int .i64) A1_0 c1_0 x1.Shape, .sl Kd.float A1_1 c1_1 x1.Data, .sl (Kd.int .i64) A70 c71 r67.1.Shape] rfl rfl) r129 hr129) ?_)
          rintro _ w136 a137 ⟨A132, c133, A134, c135, rfl, hk139⟩ hf138
          have hm140 := hm128.back hk139
          have hm141 := hm140.seal 0 _ rfl rfl
          have hm142 := hm141.seal 1 _ rfl rfl
          refine go 3 [] [5, 7, 8, 46, 47] [(5, .pointer (some ⟨b83, 0, none⟩)), (7, .pointer (some ⟨b115, 0, none⟩)), (8, .int .i64 r99.2), (46, .agg #[.slice A132 r129.1.Shape.length c133, .slice A134 r129.1.Data.length c135]), (47, .int .i64 r129.2)] [] hf138 (by kernel_rfl) trivial fun a143 hf144 => ?_
          refine listOf hf144 rfl (by kernel_rfl) (aNew (cs := [.slice none 0 0, .slice none 0 0]) (T := 28) (d := 9) hf144 (by kernel_rfl) (by kernel_rfl) ?_)
          intro b145 w146 a147 hbb145 hx149 hg150 hf148
          have hm151 := hm142.box hbb145 hx149 hg150
          refine listOf hf148 rfl (by kernel_rfl) (aStoreB (b := b145) (j := 0) (T := 28) (cs := [.slice none 0 0, .slice none 0 0]) (us := [.slice A132 r129.1.Shape.length c133, .slice A134 r129.1.Data.length c135]) (cs' := [.slice A132 r129.1.Shape.length c133, .slice A134 r129.1.Data.length c135]) hf148 (by kernel_rfl) (hm151.bxAt 0 rfl) (by kernel_rfl) (by kernel_rfl) (by kernel_rfl) ?_)
          intro w152 hx153 hg154
          have hm155 := hm151.setBox 0 _ rfl rfl hx153 hg154
          refine go 1 [] [5, 7, 8, 9, 10] [(5, .pointer (some ⟨b83, 0, none⟩)), (7, .pointer (some ⟨b115, 0, none⟩)), (8, .int .i64 r99.2), (9, .pointer (some ⟨b145, 0, none⟩)), (10, .int .i64 r129.2)] [] hf148 (by kernel_rfl) trivial fun a156 hf157 => ?_
          refine endL rfl ?_
          have hm158 := hm155.sel [0, 1, 2, 3, 4, 5, 6, 7, 8] _ rfl (by kernel_rfl)
          refine thenN ?_
          refine wp_seq ?_
          refine wp_seq ?_
          rcases if_split H0 with ⟨c159, H0⟩ | ⟨c159, H0⟩
          · rcases if_split H0 with ⟨c160, H0⟩ | ⟨c160, H0⟩
            · rcases if_split H0 with ⟨c161, H0⟩ | ⟨c161, H0⟩
              · rcases if_split H0 with ⟨c162, H0⟩ | ⟨c162, H0⟩
                · refine reg [.bool false, .bool false, .slice A104 r99.1.Data.length c105, .slice A72 r67.1.Data.length c73, .bool false, .slice A134 r129.1.Data.length c135, .slice A72 r67.1.Data.length c73, .bool false] [5, 7, 9, 71] [(5, .pointer (some ⟨b83, 0, none⟩)), (7, .pointer (some ⟨b115, 0, none⟩)), (9, .pointer (some ⟨b145, 0, none⟩)), (71, .bool false)] [.is (((r99.2 : Int) != 0) = false), .is (((r129.2 : Int) != 0) = false), .cell ⟨b115, 1, none⟩ (.slice A104 r99.1.Data.length c105), .cell ⟨b83, 1, none⟩ (.slice A72 r67.1.Data.length c73), .is ((((r99.1.Data.length : Int) : Int) != (r67.1.Data.length : Int)) = false), .cell ⟨b145, 1, none⟩ (.slice A134 r129.1.Data.length c135), .cell ⟨b83, 1, none⟩ (.slice A72 r67.1.Data.length c73), .is ((((r129.1.Data.length : Int) : Int) != (r67.1.Data.length : Int)) = false)] hf157 (by kernel_rfl) ⟨(neF c159), (neF c160), (hm158.cell 3 rfl rfl), (hm158.cell 6 rfl rfl), (neF c161), (hm158.cell 0 rfl rfl), (hm158.cell 6 rfl rfl), (neF c162), trivial⟩ fun a163 hf164 => ?_
                  refine thenN ?_
                  refine condF hf164 (by kernel_rfl) ?_
                  refine wp_skip ?_
                  refine thenN ?_
                  refine wp_seq ?_
                  refine wp_seq ?_
                  refine reg [] [5, 7, 9, 11] [(5, .pointer (some ⟨b83, 0, none⟩)), (7, .pointer (some ⟨b115, 0, none⟩)), (9, .pointer (some ⟨b145, 0, none⟩)), (11, .int .i64 0)] [] hf164 (by kernel_rfl) trivial fun a165 hf166 => ?_
                  refine thenN ?_
                  obtain ⟨r168, hr168, H0⟩ := ob_split H0
                  refine wpBlock (Mid := fun (a : Act) (w : World) => ∃ yr168 : Int, r168 = .go yr168 ∧ Fr 97 a [(5, .pointer (some ⟨b83, 0, none⟩)), (7, .pointer (some ⟨b115, 0, none⟩)), (9, .pointer (some ⟨b145, 0, none⟩)), (11, .int .i64 yr168)] ∧ Mem [] M w0 [.bx b145 [.slice A132 r129.1.Shape.length c133, .slice A134 r129.1.Data.length c135] 28, .sl (Kd.int .i64) A132 c133 r129.1.Shape, .sl Kd.float A134 c135 r129.1.Data, .bx b115 [.slice A102 r99.1.Shape.length c103, .slice A104 r99.1.Data.length c105] 28, .sl (Kd.int .i64) A102 c103 r99.1.Shape, .sl Kd.float A104 c105 r99.1.Data, .bx b83 [.slice A70 r67.1.Shape.length c71, .slice A72 r67.1.Data.length c73] 28, .sl (Kd.int .i64) A70 c71 r67.1.Shape, .sl Kd.float A72 c73 r67.1.Data] w) ?_ ?_
                  · refine wpLoop (law4_KernelPlaces.l0 r67 r99 r129) r168 (fun (s167 : Int) (a : Act) (w : World) => Fr 97 a [(5, .pointer (some ⟨b83, 0, none⟩)), (7, .pointer (some ⟨b115, 0, none⟩)), (9, .pointer (some ⟨b145, 0, none⟩)), (11, .int .i64 s167)] ∧ Mem [] M w0 [.bx b145 [.slice A132 r129.1.Shape.length c133, .slice A134 r129.1.Data.length c135] 28, .sl (Kd.int .i64) A132 c133 r129.1.Shape, .sl Kd.float A134 c135 r129.1.Data, .bx b115 [.slice A102 r99.1.Shape.length c103, .slice A104 r99.1.Data.length c105] 28, .sl (Kd.int .i64) A102 c103 r99.1.Shape, .sl Kd.float A104 c105 r99.1.Data, .bx b83 [.slice A70 r67.1.Shape.length c71, .slice A72 r67.1.Data.length c73] 28, .sl (Kd.int .i64) A70 c71 r67.1.Shape, .sl Kd.float A72 c73 r67.1.Data] w) 0 hr168 ⟨hf166.sel (l := [5, 7, 9, 11]) (by kernel_rfl), hm158.sel [0, 1, 2, 3, 4, 5, 6, 7, 8] _ rfl (by kernel_rfl)⟩ ?_
                    rintro g169 s167 a170 w171 H1 ⟨hf172, hm173⟩
                    unfold law4_KernelPlaces.l0 at H1
                    refine wp_seq ?_
                    refine wp_seq ?_
                    rcases ifS_split H1 with ⟨c174, H1⟩ | ⟨c174, H1⟩
                    · refine reg [.slice A72 r67.1.Data.length c73, .bool true] [5, 7, 9, 11, 76] [(5, .pointer (some ⟨b83, 0, none⟩)), (7, .pointer (some ⟨b115, 0, none⟩)), (9, .pointer (some ⟨b145, 0, none⟩)), (11, .int .i64 s167), (76, .bool true)] [.cell ⟨b83, 1, none⟩ (.slice A72 r67.1.Data.length c73), .is (decide (s167 < (r67.1.Data.length : Int)) = true)] hf172 (by kernel_rfl) ⟨(hm173.cell 6 rfl rfl), (decide_eq_true c174), trivial⟩ fun a175 hf176 => ?_
                      refine thenN ?_
                      refine condT hf176 (by kernel_rfl) ?_
                      refine wp_skip ?_
                      refine thenN ?_
                      refine wp_seq ?_
                      refine wp_block ?_
                      refine wp_seq ?_
                      obtain ⟨g177, H1⟩ := ifS_guard H1
                      obtain ⟨g178, H1⟩ := ifS_guard H1
                      obtain ⟨g179, H1⟩ := ifS_guard H1
                      obtain ⟨r180, hr180, H1⟩ := obS_split H1
                      rcases ifbS_split H1 with ⟨c181, H1⟩ | ⟨c181, H1⟩
                      · refine midReg (fun (a : Act) (w : World) => Fr 97 a [(5, .pointer (some ⟨b83, 0, none⟩)), (7, .pointer (some ⟨b115, 0, none⟩)), (9, .pointer (some ⟨b145, 0, none⟩)), (11, .int .i64 s167), (96, .bool false)] ∧ Mem [] M w0 [.bx b145 [.slice A132 r129.1.Shape.length c133, .slice A134 r129.1.Data.length c135] 28, .sl (Kd.int .i64) A132 c133 r129.1.Shape, .sl Kd.float A134 c135 r129.1.Data, .bx b115 [.slice A102 r99.1.Shape.length c103, .slice A104 r99.1.Data.length c105] 28, .sl (Kd.int .i64) A102 c103 r99.1.Shape, .sl Kd.float A104 c105 r99.1.Data, .bx b83 [.slice A70 r67.1.Shape.length c71, .slice A72 r67.1.Data.length c73] 28, .sl (Kd.int .i64) A70 c71 r67.1.Shape, .sl Kd.float A72 c73 r67.1.Data] w) ?_ ?_
                        · refine anyG [] (by kernel_rfl) fun w199 hg200 => ?_
                          have hm201 := hm173.still hg200
                          have q223 := (hm201.slAt 8 rfl).float s167 g177.1 g177.2
                          obtain ⟨b224, hb224, kb224⟩ := q223.2
                          have q225 := (hm201.slAt 5 rfl).float s167 g178.1 g178.2
                          obtain ⟨b226, hb226, kb226⟩ := q225.2
                          have q227 := (hm201.slAt 2 rfl).float s167 g179.1 g179.2
                          obtain ⟨b228, hb228, kb228⟩ := q227.2
                          refine quiet0 [0, 1, 2, 3, 4, 5, 6, 7, 8, 9, 10, 11, 12, 13, 14] [.slice A72 r67.1.Data.length c73, .float .f64 b224, .slice A104 r99.1.Data.length c105, .float .f64 b226, .slice A134 r129.1.Data.length c135, .float .f64 b228] [5, 7, 9, 11, 83, 88, 93] #[true, true, true, true, true, true, true, true, true, true, true, true, true, true, true, false, false, false] [(5, .pointer (some ⟨b83, 0, none⟩)), (7, .pointer (some ⟨b115, 0, none⟩)), (9, .pointer (some ⟨b145, 0, none⟩)), (11, .int .i64 s167), (83, .float .f64 b224), (88, .float .f64 b226), (93, .float .f64 b228)] [.cell ⟨b83, 1, none⟩ (.slice A72 r67.1.Data.length c73), .is (Option.isSome A72 = true), .is (0 ≤ s167 ∧ s167 < (r67.1.Data.length : Int)), .cell ((ad A72).add ((s167).toNat * 1)) (.float .f64 b224), .cell ⟨b115, 1, none⟩ (.slice A104 r99.1.Data.length c105), .is (Option.isSome A104 = true), .is (0 ≤ s167 ∧ s167 < (r99.1.Data.length : Int)), .cell ((ad A104).add ((s167).toNat * 1)) (.float .f64 b226), .cell ⟨b145, 1, none⟩ (.slice A134 r129.1.Data.length c135), .is (Option.isSome A134 = true), .is (0 ≤ s167 ∧ s167 < (r129.1.Data.length : Int)), .cell ((ad A134).add ((s167).toNat * 1)) (.float .f64 b228)] 3 rfl (by kernel_rfl) (fun _ _ _ _ _ h => nomatch h.1) hf176 (by kernel_rfl) ⟨(hm201.cell 6 rfl rfl), q223.1, g177, kb224, (hm201.cell 3 rfl rfl), q225.1, g178, kb226, (hm201.cell 0 rfl rfl), q227.1, g179, kb228, trivial⟩ fun a229 hf230 => ?_
                          refine all1 15 (by kernel_rfl) ?_
                          refine opOf hf230 rfl (by kernel_rfl) (aArith (k := 0) (b := b226) (c := b228) (x := (rd r99.1.Data s167)) (y := (rd r129.1.Data s167)) (d := 94) hf230 (by kernel_rfl) (by kernel_rfl) hb226 hb228 ?_)
                          intro b231 w232 a233 hb231 hg235 hf234
                          refine ⟨.inr (Gr.still hg235), ?_⟩
                          replace hb231 : FR b231 (fadd (rd r99.1.Data s167) (rd r129.1.Data s167)) := hb231
                          have hm236 := hm201.still hg235
                          refine all1 16 (by kernel_rfl) ?_
                          refine opOf hf234 rfl (by kernel_rfl) (aCall (fid := 35) (args := [.float .f64 b224, .float .f64 b231]) (d := 95) hf234 (by kernel_rfl) (by kernel_rfl) callable35 (ref1_Same.calls _ _ (rd r67.1.Data s167) b224 hb224 (fadd (rd r99.1.Data s167) (rd r129.1.Data s167)) b231 hb231 (hm236.give [] [] rfl rfl) r180 hr180) ?_)
                          rintro _ w237 a238 ⟨rfl, hk240⟩ hf239
                          refine ⟨.inr (Gr.still hk240.cum.none), ?_⟩
                          have hm241 := hm236.still hk240.cum.none
                          rw [c181] at hf239
                          refine quiet0 [17] [] [5, 7, 9, 11, 96] #[true, true, true, true, true, true, true, true, true, true, true, true, true, true, true, true, true, true] [(5, .pointer (some ⟨b83, 0, none⟩)), (7, .pointer (some ⟨b115, 0, none⟩)), (9, .pointer (some ⟨b145, 0, none⟩)), (11, .int .i64 s167), (96, .bool false)] [] 0 rfl (by kernel_rfl) (fun _ _ _ _ _ h => nomatch h.1) hf239 (by kernel_rfl) trivial fun a242 hf243 => ?_
                          refine allDone (by kernel_rfl) ⟨rfl, hf243.sel (l := [5, 7, 9, 11, 96]) (by kernel_rfl), hm241.sel [0, 1, 2, 3, 4, 5, 6, 7, 8] _ rfl (by kernel_rfl)⟩
                        rintro a244 w245 ⟨hf246, hm247⟩
                        refine thenN ?_
                        refine condF hf246 (by kernel_rfl) ?_
                        refine wp_skip ?_
                        refine blkN ?_
                        refine thenN ?_
                        refine reg [] [5, 7, 9, 11] [(5, .pointer (some ⟨b83, 0, none⟩)), (7, .pointer (some ⟨b115, 0, none⟩)), (9, .pointer (some ⟨b145, 0, none⟩)), (11, .int .i64 (w64 (s167 + 1)))] [] hf246 (by kernel_rfl) trivial fun a248 hf249 => ?_
                        exact ⟨(w64 (s167 + 1)), H1, hf249.sel (l := [5, 7, 9, 11]) (by kernel_rfl), hm247.sel [0, 1, 2, 3, 4, 5, 6, 7, 8] _ rfl (by kernel_rfl)⟩
                      · refine midReg (fun (a : Act) (w : World) => Fr 97 a [(5, .pointer (some ⟨b83, 0, none⟩)), (7, .pointer (some ⟨b115, 0, none⟩)), (9, .pointer (some ⟨b145, 0, none⟩)), (11, .int .i64 s167), (96, .bool true)] ∧ Mem [] M w0 [.bx b145 [.slice A132 r129.1.Shape.length c133, .slice A134 r129.1.Data.length c135] 28, .sl (Kd.int .i64) A132 c133 r129.1.Shape, .sl Kd.float A134 c135 r129.1.Data, .bx b115 [.slice A102 r99.1.Shape.length c103, .slice A104 r99.1.Data.length c105] 28, .sl (Kd.int .i64) A102 c103 r99.1.Shape, .sl Kd.float A104 c105 r99.1.Data, .bx b83 [.slice A70 r67.1.Shape.length c71, .slice A72 r67.1.Data.length c73] 28, .sl (Kd.int .i64) A70 c71 r67.1.Shape, .sl Kd.float A72 c73 r67.1.Data] w) ?_ ?_
                        · refine anyG [] (by kernel_rfl) fun w267 hg268 => ?_
                          have hm269 := hm173.still hg268
                          have q291 := (hm269.slAt 8 rfl).float s167 g177.1 g177.2
                          obtain ⟨b292, hb292, kb292⟩ := q291.2
                          have q293 := (hm269.slAt 5 rfl).float s167 g178.1 g178.2
                          obtain ⟨b294, hb294, kb294⟩ := q293.2
                          have q295 := (hm269.slAt 2 rfl).float s167 g179.1 g179.2
                          obtain ⟨b296, hb296, kb296⟩ := q295.2
                          refine quiet0 [0, 1, 2, 3, 4, 5, 6, 7, 8, 9, 10, 11, 12, 13, 14] [.slice A72 r67.1.Data.length c73, .float .f64 b292, .slice A104 r99.1.Data.length c105, .float .f64 b294, .slice A134 r129.1.Data.length c135, .float .f64 b296] [5, 7, 9, 11, 83, 88, 93] #[true, true, true, true, true, true, true, true, true, true, true, true, true, true, true, false, false, false] [(5, .pointer (some ⟨b83, 0, none⟩)), (7, .pointer (some ⟨b115, 0, none⟩)), (9, .pointer (some ⟨b145, 0, none⟩)), (11, .int .i64 s167), (83, .float .f64 b292), (88, .float .f64 b294), (93, .float .f64 b296)] [.cell ⟨b83, 1, none⟩ (.slice A72 r67.1.Data.length c73), .is (Option.isSome A72 = true), .is (0 ≤ s167 ∧ s167 < (r67.1.Data.length : Int)), .cell ((ad A72).add ((s167).toNat * 1)) (.float .f64 b292), .cell ⟨b115, 1, none⟩ (.slice A104 r99.1.Data.length c105), .is (Option.isSome A104 = true), .is (0 ≤ s167 ∧ s167 < (r99.1.Data.length : Int)), .cell ((ad A104).add ((s167).toNat * 1)) (.float .f64 b294), .cell ⟨b145, 1, none⟩ (.slice A134 r129.1.Data.length c135), .is (Option.isSome A134 = true), .is (0 ≤ s167 ∧ s167 < (r129.1.Data.length : Int)), .cell ((ad A134).add ((s167).toNat * 1)) (.float .f64 b296)] 3 rfl (by kernel_rfl) (fun _ _ _ _ _ h => nomatch h.1) hf176 (by kernel_rfl) ⟨(hm269.cell 6 rfl rfl), q291.1, g177, kb292, (hm269.cell 3 rfl rfl), q293.1, g178, kb294, (hm269.cell 0 rfl rfl), q295.1, g179, kb296, trivial⟩ fun a297 hf298 => ?_
                          refine all1 15 (by kernel_rfl) ?_
                          refine opOf hf298 rfl (by kernel_rfl) (aArith (k := 0) (b := b294) (c := b296) (x := (rd r99.1.Data s167)) (y := (rd r129.1.Data s167)) (d := 94) hf298 (by kernel_rfl) (by kernel_rfl) hb294 hb296 ?_)
                          intro b299 w300 a301 hb299 hg303 hf302
                          refine ⟨.inr (Gr.still hg303), ?_⟩
                          replace hb299 : FR b299 (fadd (rd r99.1.Data s167) (rd r129.1.Data s167)) := hb299
                          have hm304 := hm269.still hg303
                          refine all1 16 (by kernel_rfl) ?_
                          refine opOf hf302 rfl (by kernel_rfl) (aCall (fid := 35) (args := [.float .f64 b292, .float .f64 b299]) (d := 95) hf302 (by kernel_rfl) (by kernel_rfl) callable35 (ref1_Same.calls _ _ (rd r67.1.Data s167) b292 hb292 (fadd (rd r99.1.Data s167) (rd r129.1.Data s167)) b299 hb299 (hm304.give [] [] rfl rfl) r180 hr180) ?_)
                          rintro _ w305 a306 ⟨rfl, hk308⟩ hf307
                          refine ⟨.inr (Gr.still hk308.cum.none), ?_⟩
                          have hm309 := hm304.still hk308.cum.none
                          rw [c181] at hf307
                          refine quiet0 [17] [] [5, 7, 9, 11, 96] #[true, true, true, true, true, true, true, true, true, true, true, true, true, true, true, true, true, true] [(5, .pointer (some ⟨b83, 0, none⟩)), (7, .pointer (some ⟨b115, 0, none⟩)), (9, .pointer (some ⟨b145, 0, none⟩)), (11, .int .i64 s167), (96, .bool true)] [] 0 rfl (by kernel_rfl) (fun _ _ _ _ _ h => nomatch h.1) hf307 (by kernel_rfl) trivial fun a310 hf311 => ?_
                          refine allDone (by kernel_rfl) ⟨rfl, hf311.sel (l := [5, 7, 9, 11, 96]) (by kernel_rfl), hm309.sel [0, 1, 2, 3, 4, 5, 6, 7, 8] _ rfl (by kernel_rfl)⟩
                        rintro a312 w313 ⟨hf314, hm315⟩
                        refine thenN ?_
                        refine condT hf314 (by kernel_rfl) ?_
                        refine wp_seq ?_
                        refine reg [] [4] [(4, .bool false)] [] hf314 (by kernel_rfl) trivial fun a316 hf317 => ?_
                        have hm318 := hm315.sel [] _ rfl (by kernel_rfl)
                        refine thenN ?_
                        refine wp_ret ?_
                        refine blkR ?_
                        refine thenR ?_
                        refine thenR ?_
                        refine .inr ⟨rfl, ?_⟩
                        refine thenR ?_
                        have hm319 : Mem [] M w0 [] w313 := hm318.sel [] _ rfl (by kernel_rfl)
                        obtain rfl := Option.some.inj H1
                        obtain rfl := Option.some.inj H0
                        refine ret [] [.bool false] [] hf317 (by kernel_rfl) trivial ?_
                        exact ⟨_, rfl, rfl, hm319⟩
                    · refine reg [.slice A72 r67.1.Data.length c73, .bool false] [5, 7, 9, 11, 76] [(5, .pointer (some ⟨b83, 0, none⟩)), (7, .pointer (some ⟨b115, 0, none⟩)), (9, .pointer (some ⟨b145, 0, none⟩)), (11, .int .i64 s167), (76, .bool false)] [.cell ⟨b83, 1, none⟩ (.slice A72 r67.1.Data.length c73), .is (decide (s167 < (r67.1.Data.length : Int)) = false)] hf172 (by kernel_rfl) ⟨(hm173.cell 6 rfl rfl), (decide_eq_false c174), trivial⟩ fun a321 hf322 => ?_
                      refine thenN ?_
                      refine condF hf322 (by kernel_rfl) ?_
                      refine wp_exit ?_
                      refine thenE ?_
                      refine thenE ?_
                      obtain rfl := Option.some.inj H1
                      exact .inl ⟨rfl, s167, rfl, hf322.sel (l := [5, 7, 9, 11]) (by kernel_rfl), hm173.sel [0, 1, 2, 3, 4, 5, 6, 7, 8] _ rfl (by kernel_rfl)⟩
                  rintro a323 w324 ⟨yr168, rfl, hf325, hm326⟩
                  refine thenN ?_
                  refine wp_seq ?_
                  refine reg [] [4] [(4, .bool true)] [] hf325 (by kernel_rfl) trivial fun a327 hf328 => ?_
                  have hm329 := hm326.sel [] _ rfl (by kernel_rfl)
                  refine thenN ?_
                  refine wp_ret ?_
                  have hm330 : Mem [] M w0 [] w324 := hm329.sel [] _ rfl (by kernel_rfl)
                  obtain rfl := Option.some.inj H0
                  refine ret [] [.bool true] [] hf328 (by kernel_rfl) trivial ?_
                  exact ⟨_, rfl, rfl, hm330⟩
                · refine reg [.bool false, .bool false, .slice A104 r99.1.Data.length c105, .slice A72 r67.1.Data.length c73, .bool false, .slice A134 r129.1.Data.length c135, .slice A72 r67.1.Data.length c73, .bool true] [5, 7, 9, 71] [(5, .pointer (some ⟨b83, 0, none⟩)), (7, .pointer (some ⟨b115, 0, none⟩)), (9, .pointer (some ⟨b145, 0, none⟩)), (71, .bool true)] [.is (((r99.2 : Int) != 0) = false), .is (((r129.2 : Int) != 0) = false), .cell ⟨b115, 1, none⟩ (.slice A104 r99.1.Data.length c105), .cell ⟨b83, 1, none⟩ (.slice A72 r67.1.Data.length c73), .is ((((r99.1.Data.length : Int) : Int) != (r67.1.Data.length : Int)) = false), .cell ⟨b145, 1, none⟩ (.slice A134 r129.1.Data.length c135), .cell ⟨b83, 1, none⟩ (.slice A72 r67.1.Data.length c73), .is ((((r129.1.Data.length : Int) : Int) != (r67.1.Data.length : Int)) = true)] hf157 (by kernel_rfl) ⟨(neF c159), (neF c160), (hm158.cell 3 rfl rfl), (hm158.cell 6 rfl rfl), (neF c161), (hm158.cell 0 rfl rfl), (hm158.cell 6 rfl rfl), (neT c162), trivial⟩ fun a332 hf333 => ?_
                  refine thenN ?_
                  refine condT hf333 (by kernel_rfl) ?_
                  refine wp_seq ?_
                  refine reg [] [4] [(4, .bool false)] [] hf333 (by kernel_rfl) trivial fun a334 hf335 => ?_
                  have hm336 := hm158.sel [] _ rfl (by kernel_rfl)
                  refine thenN ?_
                  refine wp_ret ?_
                  refine thenR ?_
                  have hm337 : Mem [] M w0 [] w152 := hm336.sel [] _ rfl (by kernel_rfl)
                  obtain rfl := Option.some.inj H0
                  refine ret [] [.bool false] [] hf335 (by kernel_rfl) trivial ?_
                  exact ⟨_, rfl, rfl, hm337⟩
              · refine reg [.bool false, .bool false, .slice A104 r99.1.Data.length c105, .slice A72 r67.1.Data.length c73, .bool true] [5, 7, 9, 71] [(5, .pointer (some ⟨b83, 0, none⟩)), (7, .pointer (some ⟨b115, 0, none⟩)), (9, .pointer (some ⟨b145, 0, none⟩)), (71, .bool true)] [.is (((r99.2 : Int) != 0) = false), .is (((r129.2 : Int) != 0) = false), .cell ⟨b115, 1, none⟩ (.slice A104 r99.1.Data.length c105), .cell ⟨b83, 1, none⟩ (.slice A72 r67.1.Data.length c73), .is ((((r99.1.Data.length : Int) : Int) != (r67.1.Data.length : Int)) = true)] hf157 (by kernel_rfl) ⟨(neF c159), (neF c160), (hm158.cell 3 rfl rfl), (hm158.cell 6 rfl rfl), (neT c161), trivial⟩ fun a339 hf340 => ?_
                refine thenN ?_
                refine condT hf340 (by kernel_rfl) ?_
                refine wp_seq ?_
                refine reg [] [4] [(4, .bool false)] [] hf340 (by kernel_rfl) trivial fun a341 hf342 => ?_
                have hm343 := hm158.sel [] _ rfl (by kernel_rfl)
                refine thenN ?_
                refine wp_ret ?_
                refine thenR ?_
                have hm344 : Mem [] M w0 [] w152 := hm343.sel [] _ rfl (by kernel_rfl)
                obtain rfl := Option.some.inj H0
                refine ret [] [.bool false] [] hf342 (by kernel_rfl) trivial ?_
                exact ⟨_, rfl, rfl, hm344⟩
            · refine reg [.bool false, .bool true] [5, 7, 9, 71] [(5, .pointer (some ⟨b83, 0, none⟩)), (7, .pointer (some ⟨b115, 0, none⟩)), (9, .pointer (some ⟨b145, 0, none⟩)), (71, .bool true)] [.is (((r99.2 : Int) != 0) = false), .is (((r129.2 : Int) != 0) = true)] hf157 (by kernel_rfl) ⟨(neF c159), (neT c160), trivial⟩ fun a346 hf347 => ?_
              refine thenN ?_
              refine condT hf347 (by kernel_rfl) ?_
              refine wp_seq ?_
              refine reg [] [4] [(4, .bool false)] [] hf347 (by kernel_rfl) trivial fun a348 hf349 => ?_
              have hm350 := hm158.sel [] _ rfl (by kernel_rfl)
              refine thenN ?_
              refine wp_ret ?_
              refine thenR ?_
              have hm351 : Mem [] M w0 [] w152 := hm350.sel [] _ rfl (by kernel_rfl)
              obtain rfl := Option.some.inj H0
              refine ret [] [.bool false] [] hf349 (by kernel_rfl) trivial ?_
              exact ⟨_, rfl, rfl, hm351⟩
          · refine reg [.bool true] [5, 7, 9, 71] [(5, .pointer (some ⟨b83, 0, none⟩)), (7, .pointer (some ⟨b115, 0, none⟩)), (9, .pointer (some ⟨b145, 0, none⟩)), (71, .bool true)] [.is (((r99.2 : Int) != 0) = true)] hf157 (by kernel_rfl) ⟨(neT c159), trivial⟩ fun a353 hf354 => ?_
            refine thenN ?_
            refine condT hf354 (by kernel_rfl) ?_
            refine wp_seq ?_
            refine reg [] [4] [(4, .bool false)] [] hf354 (by kernel_rfl) trivial fun a355 hf356 => ?_
            have hm357 := hm158.sel [] _ rfl (by kernel_rfl)
            refine thenN ?_
            refine wp_ret ?_
            refine thenR ?_
            have hm358 : Mem [] M w0 [] w152 := hm357.sel [] _ rfl (by kernel_rfl)
            obtain rfl := Option.some.inj H0
            refine ret [] [.bool false] [] hf356 (by kernel_rfl) trivial ?_
            exact ⟨_, rfl, rfl, hm358⟩
        · refine reg [.bool true] [2, 3, 5, 29] [(2, .pointer (some ⟨b21, 0, none⟩)), (3, .pointer (some ⟨b28, 0, none⟩)), (5, .pointer (some ⟨b83, 0, none⟩)), (29, .bool true)] [.is (((r67.2 : Int) != 0) = true)] hf95 (by kernel_rfl) ⟨(neT c96), trivial⟩ fun a360 hf361 => ?_
          refine thenN ?_
          refine condT hf361 (by kernel_rfl) ?_
          refine wp_seq ?_
          rcases if_split H0 with ⟨c362, H0⟩ | ⟨c362, H0⟩
          · refine reg [.slice A72 r67.1.Data.length c73, .bool true] [4] [(4, .bool true)] [.cell ⟨b83, 1, none⟩ (.slice A72 r67.1.Data.length c73), .is ((((r67.1.Data.length : Int) : Int) == 0) = true)] hf361 (by kernel_rfl) ⟨(hm93.cell 0 rfl rfl), (eqT c362), trivial⟩ fun a363 hf364 => ?_
            have hm365 := hm93.sel [] _ rfl (by kernel_rfl)
            refine thenN ?_
            refine wp_ret ?_
            refine thenR ?_
            have hm366 : Mem [] M w0 [] w90 := hm365.sel [] _ rfl (by kernel_rfl)
            obtain rfl := Option.some.inj H0
            refine ret [] [.bool true] [] hf364 (by kernel_rfl) trivial ?_
            exact ⟨_, rfl, rfl, hm366⟩
          · refine reg [.slice A72 r67.1.Data.length c73, .bool false] [4] [(4, .bool false)] [.cell ⟨b83, 1, none⟩ (.slice A72 r67.1.Data.length c73), .is ((((r67.1.Data.length : Int) : Int) == 0) = false)] hf361 (by kernel_rfl) ⟨(hm93.cell 0 rfl rfl), (eqF c362), trivial⟩ fun a368 hf369 => ?_
            have hm370 := hm93.sel [] _ rfl (by kernel_rfl)
            refine thenN ?_
            refine wp_ret ?_
            refine thenR ?_
            have hm371 : Mem [] M w0 [] w90 := hm370.sel [] _ rfl (by kernel_rfl)
            obtain rfl := Option.some.inj H0
            refine ret [] [.bool false] [] hf369 (by kernel_rfl) trivial ?_
            exact ⟨_, rfl, rfl, hm371⟩
      · refine inReg ?_
        refine go 1 [.agg #[.slice A0_0 x0.Shape.length c0_0, .slice A0_1 x0.Data.length c0_1]] [2, 3, 14] [(2, .pointer (some ⟨b21, 0, none⟩)), (3, .pointer (some ⟨b28, 0, none⟩)), (14, .agg #[.slice A0_0 x0.Shape.length c0_0, .slice A0_1 x0.Data.length c0_1])] [.cell ⟨b21, 0, none⟩ (.slice A0_0 x0.Shape.length c0_0), .cell ⟨b21, 1, none⟩ (.slice A0_1 x0.Data.length c0_1)] hf45 (by kernel_rfl) ⟨(hm43.cell 1 rfl rfl), (hm43.cell 1 rfl rfl), trivial⟩ fun a373 hf374 => ?_
        refine listOf hf374 rfl (by kernel_rfl) (aCall (fid := 31) (args := [.agg #[.slice A0_0 x0.Shape.length c0_0, .slice A0_1 x0.Data.length c0_1]]) (d := 15) hf374 (by kernel_rfl) (by kernel_rfl) callable31 (law3_Small.calls _ _ x0 A0_0 x0.Shape.length c0_0 rfl A0_1 x0.Data.length c0_1 rfl (hm43.give [2, 3] [.sl (Kd.int .i64) A0_0 c0_0 x0.Shape, .sl Kd.float A0_1 c0_1 x0.Data] rfl rfl) r46 hr46) ?_)
        rintro _ w375 a376 ⟨rfl, hk378⟩ hf377
        have hm379 := hm43.still hk378.cum.none
        rw [c47] at hf377
        refine go 3 [.agg #[.slice A1_0 x1.Shape.length c1_0, .slice A1_1 x1.Data.length c1_1]] [2, 3, 17, 18] [(2, .pointer (some ⟨b21, 0, none⟩)), (3, .pointer (some ⟨b28, 0, none⟩)), (17, .bool false), (18, .agg #[.slice A1_0 x1.Shape.length c1_0, .slice A1_1 x1.Data.length c1_1])] [.cell ⟨b28, 0, none⟩ (.slice A1_0 x1.Shape.length c1_0), .cell ⟨b28, 1, none⟩ (.slice A1_1 x1.Data.length c1_1)] hf377 (by kernel_rfl) ⟨(hm379.cell 0 rfl rfl), (hm379.cell 0 rfl rfl), trivial⟩ fun a380 hf381 => ?_
        refine listOf hf381 rfl (by kernel_rfl) (aCall (fid := 31) (args := [.agg #[.slice A1_0 x1.Shape.length c1_0, .slice A1_1 x1.Data.length c1_1]]) (d := 19) hf381 (by kernel_rfl) (by kernel_rfl) callable31 (law3_Small.calls _ _ x1 A1_0 x1.Shape.length c1_0 rfl A1_1 x1.Data.length c1_1 rfl (hm379.give [4, 5] [.sl (Kd.int .i64) A1_0 c1_0 x1.Shape, .sl Kd.float A1_1 c1_1 x1.Data] rfl rfl) r48 hr48) ?_)
        rintro _ w382 a383 ⟨rfl, hk385⟩ hf384
        have hm386 := hm379.still hk385.cum.none
        rw [c49] at hf384
        refine go 2 [] [2, 3, 21] [(2, .pointer (some ⟨b21, 0, none⟩)), (3, .pointer (some ⟨b28, 0, none⟩)), (21, .bool true)] [] hf384 (by kernel_rfl) trivial fun a387 hf388 => ?_
        refine endL rfl ?_
        refine thenN ?_
        refine condT hf388 (by kernel_rfl) ?_
        refine wp_seq ?_
        refine reg [] [4] [(4, .bool true)] [] hf388 (by kernel_rfl) trivial fun a389 hf390 => ?_
        have hm391 := hm386.sel [] _ rfl (by kernel_rfl)
        refine thenN ?_
        refine wp_ret ?_
        refine thenR ?_
        have hm392 : Mem [] M w0 [] w382 := hm391.sel [] _ rfl (by kernel_rfl)
        obtain rfl := Option.some.inj H0
        refine ret [] [.bool true] [] hf390 (by kernel_rfl) trivial ?_
        exact ⟨_, rfl, rfl, hm392⟩
    · refine inReg ?_
      refine go 1 [.agg #[.slice A0_0 x0.Shape.length c0_0, .slice A0_1 x0.Data.length c0_1]] [2, 3, 14] [(2, .pointer (some ⟨b21, 0, none⟩)), (3, .pointer (some ⟨b28, 0, none⟩)), (14, .agg #[.slice A0_0 x0.Shape.length c0_0, .slice A0_1 x0.Data.length c0_1])] [.cell ⟨b21, 0, none⟩ (.slice A0_0 x0.Shape.length c0_0), .cell ⟨b21, 1, none⟩ (.slice A0_1 x0.Data.length c0_1)] hf45 (by kernel_rfl) ⟨(hm43.cell 1 rfl rfl), (hm43.cell 1 rfl rfl), trivial⟩ fun a394 hf395 => ?_
      refine listOf hf395 rfl (by kernel_rfl) (aCall (fid := 31) (args := [.agg #[.slice A0_0 x0.Shape.length c0_0, .slice A0_1 x0.Data.length c0_1]]) (d := 15) hf395 (by kernel_rfl) (by kernel_rfl) callable31 (law3_Small.calls _ _ x0 A0_0 x0.Shape.length c0_0 rfl A0_1 x0.Data.length c0_1 rfl (hm43.give [2, 3] [.sl (Kd.int .i64) A0_0 c0_0 x0.Shape, .sl Kd.float A0_1 c0_1 x0.Data] rfl rfl) r46 hr46) ?_)
      rintro _ w396 a397 ⟨rfl, hk399⟩ hf398
      have hm400 := hm43.still hk399.cum.none
      rw [c47] at hf398
      refine go 6 [] [2, 3, 21] [(2, .pointer (some ⟨b21, 0, none⟩)), (3, .pointer (some ⟨b28, 0, none⟩)), (21, .bool true)] [] hf398 (by kernel_rfl) trivial fun a401 hf402 => ?_
      refine endL rfl ?_
      refine thenN ?_
      refine condT hf402 (by kernel_rfl) ?_
      refine wp_seq ?_
      refine reg [] [4] [(4, .bool true)] [] hf402 (by kernel_rfl) trivial fun a403 hf404 => ?_
      have hm405 := hm400.sel [] _ rfl (by kernel_rfl)
      refine thenN ?_
      refine wp_ret ?_
      refine thenR ?_
      have hm406 : Mem [] M w0 [] w396 := hm405.sel [] _ rfl (by kernel_rfl)
      obtain rfl := Option.some.inj H0
      refine ret [] [.bool true] [] hf404 (by kernel_rfl) trivial ?_
      exact ⟨_, rfl, rfl, hm406⟩
  · refine inReg ?_
    refine listOf hf36 rfl (by kernel_rfl) (aCall (fid := 43) (args := []) (d := 12) hf36 (by kernel_rfl) (by kernel_rfl) callable43 (law4_awake.calls _ _  (hm34.give [] [] rfl rfl) r37 hr37) ?_)
    rintro _ w408 a409 ⟨rfl, hk411⟩ hf410
    have hm412 := hm34.still hk411.cum.none
    rw [c38] at hf410
    refine go 1 [] [2, 3, 13] [(2, .pointer (some ⟨b21, 0, none⟩)), (3, .pointer (some ⟨b28, 0, none⟩)), (13, .bool true)] [] hf410 (by kernel_rfl) trivial fun a413 hf414 => ?_
    refine endL rfl ?_
    refine thenN ?_
    refine condT hf414 (by kernel_rfl) ?_
    refine wp_seq ?_
    refine reg [] [4] [(4, .bool false)] [] hf414 (by kernel_rfl) trivial fun a415 hf416 => ?_
    have hm417 := hm412.sel [] _ rfl (by kernel_rfl)
    refine thenN ?_
    refine wp_ret ?_
    refine thenR ?_
    have hm418 : Mem [] M w0 [] w408 := hm417.sel [] _ rfl (by kernel_rfl)
    obtain rfl := Option.some.inj H0
    refine ret [] [.bool false] [] hf416 (by kernel_rfl) trivial ?_
    exact ⟨_, rfl, rfl, hm418⟩
end Go.Proofs.Ytkcgiolledmbnab
