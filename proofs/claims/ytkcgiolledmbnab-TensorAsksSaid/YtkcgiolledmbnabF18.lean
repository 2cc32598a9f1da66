/- Printed by gen.py. -/
import Derived.Test.YtkcgiolledmbnabF0
import Derived.Test.YtkcgiolledmbnabF16
import Derived.Test.YtkcgiolledmbnabF17
import Derived.Test.YtkcgiolledmbnabF2
import Derived.Test.YtkcgiolledmbnabF4
namespace Go.Proofs.Ytkcgiolledmbnab
open Go Go.RowKit
set_option linter.unusedSimpArgs false
set_option linter.unusedVariables false
set_option linter.unnecessarySimpa false
/-! ### backstitch/backstitchlaw3.awake -/
noncomputable def law3_awake.f  : Option Bool :=
  (tensor_New.f ([2] : List Int) 4607182418800017408).bind fun r23 =>
  (tensor_At.f r23.1 ([1] : List Int)).bind fun r58 =>
  if r23.2 = 0 then (if r58.2 = true then (if (feq r58.1 4607182418800017408) = true then ((tensor_May.f r23.1).bind fun r81 =>
  if r81 = true then ((tensor_Finite.f r23.1).bind fun r83 =>
  if r83 = true then ((tensor_Same.f r23.1 r23.1).bind fun r85 =>
  some r85)
  else (some false))
  else (some false))
  else (some false))
  else (some false))
  else (some false)
set_option maxRecDepth 100000 in
set_option maxHeartbeats 4000000 in
theorem law3_awake.calls (M : List (Option Nat)) (w0 : World)  (hm0 : Mem [] M w0 [] w0) (r : Bool) (H0 : law3_awake.f = some r) :
    Calls Try.prog 26 [].toArray w0 (fun x w' => ∃ v, x = .returned v ∧ v = .bool r ∧ Mem [] M w0 [] w') := by
  unfold law3_awake.f at H0
  refine enter (n := 38) Try.func26 rfl rfl (by kernel_rfl) fun a0 (hf0 : Fr 38 a0 []) => ?_
  refine wp_seq ?_
  refine reg [] [] [] [] hf0 (by kernel_rfl) trivial fun a21 hf22 => ?_
  refine thenN ?_
  refine wp_seq ?_
  obtain ⟨r23, hr23, H0⟩ := ob_split H0
  refine inReg ?_
  refine listOf hf22 rfl (by kernel_rfl) (aLit (cs := [.int .i64 2]) (E := 3) (len := 1) (d := 6) hf22 (by kernel_rfl) (by kernel_rfl) ?_)
  intro b24 w25 a26 hbb24 hx28 hg29 hf27
  have hm0s := hm0.still hg29
  have hm30 : Mem [] M w0 [.sl (Kd.int .i64) (some ⟨b24, 0, none⟩) 1 ([2] : List Int)] w25 := Mem.lit (kd := (Kd.int .i64)) (xs := ([2] : List Int)) hm0 hbb24 hx28 hg29 (Els.one (kd := (Kd.int .i64)) (us := [.int .i64 2]) (x := 2) rfl)
  refine listOf hf27 rfl (by kernel_rfl) (aCall (fid := 27) (args := [.slice (some ⟨b24, 0, none⟩) 1 1, .float .f64 4607182418800017408]) (d := 7) hf27 (by kernel_rfl) (by kernel_rfl) callable27 (tensor_New.calls _ _ ([2] : List Int) (some ⟨b24, 0, none⟩) 1 1 rfl 4607182418800017408 4607182418800017408 ((FR.lit (by kernel_rfl) (by kernel_rfl))) (hm30.give [0] [.sl (Kd.int .i64) (some ⟨b24, 0, none⟩) 1 ([2] : List Int)] rfl rfl) r23 hr23) ?_)
  rintro _ w35 a36 ⟨A31, c32, A33, c34, rfl, hk38⟩ hf37
  have hm39 := hm30.back hk38
  have hm40 := hm39.seal 0 _ rfl rfl
  have hm41 := hm40.seal 1 _ rfl rfl
  refine go 3 [] [8, 9] [(8, .agg #[.slice A31 r23.1.Shape.length c32, .slice A33 r23.1.Data.length c34]), (9, .int .i64 r23.2)] [] hf37 (by kernel_rfl) trivial fun a42 hf43 => ?_
  refine listOf hf43 rfl (by kernel_rfl) (aNew (cs := [.slice none 0 0, .slice none 0 0]) (T := 28) (d := 1) hf43 (by kernel_rfl) (by kernel_rfl) ?_)
  intro b44 w45 a46 hbb44 hx48 hg49 hf47
  have hm50 := hm41.box hbb44 hx48 hg49
  refine listOf hf47 rfl (by kernel_rfl) (aStoreB (b := b44) (j := 0) (T := 28) (cs := [.slice none 0 0, .slice none 0 0]) (us := [.slice A31 r23.1.Shape.length c32, .slice A33 r23.1.Data.length c34]) (cs' := [.slice A31 r23.1.Shape.length c32, .slice A33 r23.1.Data.length c34]) hf47 (by kernel_rfl) (hm50.bxAt 0 rfl) (by kernel_rfl) (by kernel_rfl) (by kernel_rfl) ?_)
  intro w51 hx52 hg53
  have hm54 := hm50.setBox 0 _ rfl rfl hx52 hg53
  refine go 1 [] [1, 2] [(1, .pointer (some ⟨b44, 0, none⟩)), (2, .int .i64 r23.2)] [] hf47 (by kernel_rfl) trivial fun a55 hf56 => ?_
  refine endL rfl ?_
  have hm57 := hm54.sel [0, 1, 2] _ rfl (by kernel_rfl)
  refine thenN ?_
  refine wp_seq ?_
  obtain ⟨r58, hr58, H0⟩ := ob_split H0
  refine inReg ?_
  refine go 1 [.agg #[.slice A31 r23.1.Shape.length c32, .slice A33 r23.1.Data.length c34]] [1, 2, 11] [(1, .pointer (some ⟨b44, 0, none⟩)), (2, .int .i64 r23.2), (11, .agg #[.slice A31 r23.1.Shape.length c32, .slice A33 r23.1.Data.length c34])] [.cell ⟨b44, 0, none⟩ (.slice A31 r23.1.Shape.length c32), .cell ⟨b44, 1, none⟩ (.slice A33 r23.1.Data.length c34)] hf56 (by kernel_rfl) ⟨(hm57.cell 0 rfl rfl), (hm57.cell 0 rfl rfl), trivial⟩ fun a59 hf60 => ?_
  refine listOf hf60 rfl (by kernel_rfl) (aLit (cs := [.int .i64 1]) (E := 3) (len := 1) (d := 12) hf60 (by kernel_rfl) (by kernel_rfl) ?_)
  intro b61 w62 a63 hbb61 hx66 hg67 hf65
  have hm57s := hm57.still hg67
  have hm68 : Mem [] M w0 [.sl (Kd.int .i64) (some ⟨b61, 0, none⟩) 1 ([1] : List Int), .bx b44 [.slice A31 r23.1.Shape.length c32, .slice A33 r23.1.Data.length c34] 28, .sl (Kd.int .i64) A31 c32 r23.1.Shape, .sl Kd.float A33 c34 r23.1.Data] w62 := Mem.lit (kd := (Kd.int .i64)) (xs := ([1] : List Int)) hm57 hbb61 hx66 hg67 (Els.one (kd := (Kd.int .i64)) (us := [.int .i64 1]) (x := 1) rfl)
  refine listOf hf65 rfl (by kernel_rfl) (aCall (fid := 33) (args := [.agg #[.slice A31 r23.1.Shape.length c32, .slice A33 r23.1.Data.length c34], .slice (some ⟨b61, 0, none⟩) 1 1]) (d := 13) hf65 (by kernel_rfl) (by kernel_rfl) callable33 (tensor_At.calls _ _ r23.1 A31 r23.1.Shape.length c32 rfl A33 r23.1.Data.length c34 rfl ([1] : List Int) (some ⟨b61, 0, none⟩) 1 1 rfl (hm68.give [2, 3, 0] [.sl (Kd.int .i64) A31 c32 r23.1.Shape, .sl Kd.float A33 c34 r23.1.Data, .sl (Kd.int .i64) (some ⟨b61, 0, none⟩) 1 ([1] : List Int)] rfl rfl) r58 hr58) ?_)
  rintro _ w70 a71 ⟨b69, rfl, hb69, hk73⟩ hf72
  have hm74 := hm68.still hk73.cum.none
  refine go 5 [] [1, 2, 3, 4] [(1, .pointer (some ⟨b44, 0, none⟩)), (2, .int .i64 r23.2), (3, .float .f64 b69), (4, .bool r58.2)] [] hf72 (by kernel_rfl) trivial fun a75 hf76 => ?_
  refine endL rfl ?_
  have hm77 := hm74.sel [1, 2, 3] _ rfl (by kernel_rfl)
  refine thenN ?_
  refine wp_seq ?_
  rcases if_split H0 with ⟨c78, H0⟩ | ⟨c78, H0⟩
  · rcases ifb_split H0 with ⟨c79, H0⟩ | ⟨c79, H0⟩
    · rw [c79] at hf76
      rcases ifb_split H0 with ⟨c80, H0⟩ | ⟨c80, H0⟩
      · obtain ⟨r81, hr81, H0⟩ := ob_split H0
        rcases ifb_split H0 with ⟨c82, H0⟩ | ⟨c82, H0⟩
        · obtain ⟨r83, hr83, H0⟩ := ob_split H0
          rcases ifb_split H0 with ⟨c84, H0⟩ | ⟨c84, H0⟩
          · obtain ⟨r85, hr85, H0⟩ := ob_split H0
            refine inReg ?_
            refine go 11 [.bool true, .bool true, .agg #[.slice A31 r23.1.Shape.length c32, .slice A33 r23.1.Data.length c34]] [1, 25, 26] [(1, .pointer (some ⟨b44, 0, none⟩)), (25, .bool true), (26, .agg #[.slice A31 r23.1.Shape.length c32, .slice A33 r23.1.Data.length c34])] [.is (((r23.2 : Int) == 0) = true), .is ((FloatKind.f64.format.order b69 4607182418800017408 == some .eq) = true), .cell ⟨b44, 0, none⟩ (.slice A31 r23.1.Shape.length c32), .cell ⟨b44, 1, none⟩ (.slice A33 r23.1.Data.length c34)] hf76 (by kernel_rfl) ⟨(eqT c78), (ftEq hb69 (FR.lit (by kernel_rfl) (by kernel_rfl)) c80), (hm77.cell 0 rfl rfl), (hm77.cell 0 rfl rfl), trivial⟩ fun a86 hf87 => ?_
            refine listOf hf87 rfl (by kernel_rfl) (aCall (fid := 38) (args := [.agg #[.slice A31 r23.1.Shape.length c32, .slice A33 r23.1.Data.length c34]]) (d := 27) hf87 (by kernel_rfl) (by kernel_rfl) callable38 (tensor_May.calls _ _ r23.1 A31 r23.1.Shape.length c32 rfl A33 r23.1.Data.length c34 rfl (hm77.give [1, 2] [.sl (Kd.int .i64) A31 c32 r23.1.Shape, .sl Kd.float A33 c34 r23.1.Data] rfl rfl) r81 hr81) ?_)
            rintro _ w88 a89 ⟨rfl, hk91⟩ hf90
            have hm92 := hm77.still hk91.cum.none
            rw [c82] at hf90
            refine go 3 [.agg #[.slice A31 r23.1.Shape.length c32, .slice A33 r23.1.Data.length c34]] [1, 29, 30] [(1, .pointer (some ⟨b44, 0, none⟩)), (29, .bool true), (30, .agg #[.slice A31 r23.1.Shape.length c32, .slice A33 r23.1.Data.length c34])] [.cell ⟨b44, 0, none⟩ (.slice A31 r23.1.Shape.length c32), .cell ⟨b44, 1, none⟩ (.slice A33 r23.1.Data.length c34)] hf90 (by kernel_rfl) ⟨(hm92.cell 0 rfl rfl), (hm92.cell 0 rfl rfl), trivial⟩ fun a93 hf94 => ?_
            refine listOf hf94 rfl (by kernel_rfl) (aCall (fid := 40) (args := [.agg #[.slice A31 r23.1.Shape.length c32, .slice A33 r23.1.Data.length c34]]) (d := 31) hf94 (by kernel_rfl) (by kernel_rfl) callable40 (tensor_Finite.calls _ _ r23.1 A31 r23.1.Shape.length c32 rfl A33 r23.1.Data.length c34 rfl (hm92.give [1, 2] [.sl (Kd.int .i64) A31 c32 r23.1.Shape, .sl Kd.float A33 c34 r23.1.Data] rfl rfl) r83 hr83) ?_)
            rintro _ w95 a96 ⟨rfl, hk98⟩ hf97
            have hm99 := hm92.still hk98.cum.none
            rw [c84] at hf97
            refine go 4 [.agg #[.slice A31 r23.1.Shape.length c32, .slice A33 r23.1.Data.length c34], .agg #[.slice A31 r23.1.Shape.length c32, .slice A33 r23.1.Data.length c34]] [33, 34, 35] [(33, .bool true), (34, .agg #[.slice A31 r23.1.Shape.length c32, .slice A33 r23.1.Data.length c34]), (35, .agg #[.slice A31 r23.1.Shape.length c32, .slice A33 r23.1.Data.length c34])] [.cell ⟨b44, 0, none⟩ (.slice A31 r23.1.Shape.length c32), .cell ⟨b44, 1, none⟩ (.slice A33 r23.1.Data.length c34), .cell ⟨b44, 0, none⟩ (.slice A31 r23.1.Shape.length c32), .cell ⟨b44, 1, none⟩ (.slice A33 r23.1.Data.length c34)] hf97 (by kernel_rfl) ⟨(hm99.cell 0 rfl rfl), (hm99.cell 0 rfl rfl), (hm99.cell 0 rfl rfl), (hm99.cell 0 rfl rfl), trivial⟩ fun a100 hf101 => ?_
            refine listOf hf101 rfl (by kernel_rfl) (aCall (fid := 39) (args := [.agg #[.slice A31 r23.1.Shape.length c32, .slice A33 r23.1.Data.length c34], .agg #[.slice A31 r23.1.Shape.length c32, .slice A33 r23.1.Data.length c34]]) (d := 36) hf101 (by kernel_rfl) (by kernel_rfl) callable39 (tensor_Same.calls _ _ r23.1 A31 r23.1.Shape.length c32 rfl A33 r23.1.Data.length c34 rfl r23.1 A31 r23.1.Shape.length c32 rfl A33 r23.1.Data.length c34 rfl (hm99.give [1, 2, 1, 2] [.sl (Kd.int .i64) A31 c32 r23.1.Shape, .sl Kd.float A33 c34 r23.1.Data, .sl (Kd.int .i64) A31 c32 r23.1.Shape, .sl Kd.float A33 c34 r23.1.Data] rfl rfl) r85 hr85) ?_)
            rintro _ w102 a103 ⟨rfl, hk105⟩ hf104
            have hm106 := hm99.still hk105.cum.none
            refine go 2 [] [0] [(0, .bool r85)] [] hf104 (by kernel_rfl) trivial fun a107 hf108 => ?_
            refine endL rfl ?_
            have hm109 := hm106.sel [] _ rfl (by kernel_rfl)
            refine thenN ?_
            refine wp_ret ?_
            have hm110 : Mem [] M w0 [] w102 := hm109.sel [] _ rfl (by kernel_rfl)
            obtain rfl := Option.some.inj H0
            refine ret [] [.bool r85] [] hf108 (by kernel_rfl) trivial ?_
            exact ⟨_, rfl, rfl, hm110⟩
          · refine inReg ?_
            refine go 11 [.bool true, .bool true, .agg #[.slice A31 r23.1.Shape.length c32, .slice A33 r23.1.Data.length c34]] [1, 25, 26] [(1, .pointer (some ⟨b44, 0, none⟩)), (25, .bool true), (26, .agg #[.slice A31 r23.1.Shape.length c32, .slice A33 r23.1.Data.length c34])] [.is (((r23.2 : Int) == 0) = true), .is ((FloatKind.f64.format.order b69 4607182418800017408 == some .eq) = true), .cell ⟨b44, 0, none⟩ (.slice A31 r23.1.Shape.length c32), .cell ⟨b44, 1, none⟩ (.slice A33 r23.1.Data.length c34)] hf76 (by kernel_rfl) ⟨(eqT c78), (ftEq hb69 (FR.lit (by kernel_rfl) (by kernel_rfl)) c80), (hm77.cell 0 rfl rfl), (hm77.cell 0 rfl rfl), trivial⟩ fun a112 hf113 => ?_
            refine listOf hf113 rfl (by kernel_rfl) (aCall (fid := 38) (args := [.agg #[.slice A31 r23.1.Shape.length c32, .slice A33 r23.1.Data.length c34]]) (d := 27) hf113 (by kernel_rfl) (by kernel_rfl) callable38 (tensor_May.calls _ _ r23.1 A31 r23.1.Shape.length c32 rfl A33 r23.1.Data.length c34 rfl (hm77.give [1, 2] [.sl (Kd.int .i64) A31 c32 r23.1.Shape, .sl Kd.float A33 c34 r23.1.Data] rfl rfl) r81 hr81) ?_)
            rintro _ w114 a115 ⟨rfl, hk117⟩ hf116
            have hm118 := hm77.still hk117.cum.none
            rw [c82] at hf116
            refine go 3 [.agg #[.slice A31 r23.1.Shape.length c32, .slice A33 r23.1.Data.length c34]] [1, 29, 30] [(1, .pointer (some ⟨b44, 0, none⟩)), (29, .bool true), (30, .agg #[.slice A31 r23.1.Shape.length c32, .slice A33 r23.1.Data.length c34])] [.cell ⟨b44, 0, none⟩ (.slice A31 r23.1.Shape.length c32), .cell ⟨b44, 1, none⟩ (.slice A33 r23.1.Data.length c34)] hf116 (by kernel_rfl) ⟨(hm118.cell 0 rfl rfl), (hm118.cell 0 rfl rfl), trivial⟩ fun a119 hf120 => ?_
            refine listOf hf120 rfl (by kernel_rfl) (aCall (fid := 40) (args := [.agg #[.slice A31 r23.1.Shape.length c32, .slice A33 r23.1.Data.length c34]]) (d := 31) hf120 (by kernel_rfl) (by kernel_rfl) callable40 (tensor_Finite.calls _ _ r23.1 A31 r23.1.Shape.length c32 rfl A33 r23.1.Data.length c34 rfl (hm118.give [1, 2] [.sl (Kd.int .i64) A31 c32 r23.1.Shape, .sl Kd.float A33 c34 r23.1.Data] rfl rfl) r83 hr83) ?_)
            rintro _ w121 a122 ⟨rfl, hk124⟩ hf123
            have hm125 := hm118.still hk124.cum.none
            rw [c84] at hf123
            refine go 7 [] [0] [(0, .bool false)] [] hf123 (by kernel_rfl) trivial fun a126 hf127 => ?_
            refine endL rfl ?_
            have hm128 := hm125.sel [] _ rfl (by kernel_rfl)
            refine thenN ?_
            refine wp_ret ?_
            have hm129 : Mem [] M w0 [] w121 := hm128.sel [] _ rfl (by kernel_rfl)
            obtain rfl := Option.some.inj H0
            refine ret [] [.bool false] [] hf127 (by kernel_rfl) trivial ?_
            exact ⟨_, rfl, rfl, hm129⟩
        · refine inReg ?_
          refine go 11 [.bool true, .bool true, .agg #[.slice A31 r23.1.Shape.length c32, .slice A33 r23.1.Data.length c34]] [1, 25, 26] [(1, .pointer (some ⟨b44, 0, none⟩)), (25, .bool true), (26, .agg #[.slice A31 r23.1.Shape.length c32, .slice A33 r23.1.Data.length c34])] [.is (((r23.2 : Int) == 0) = true), .is ((FloatKind.f64.format.order b69 4607182418800017408 == some .eq) = true), .cell ⟨b44, 0, none⟩ (.slice A31 r23.1.Shape.length c32), .cell ⟨b44, 1, none⟩ (.slice A33 r23.1.Data.length c34)] hf76 (by kernel_rfl) ⟨(eqT c78), (ftEq hb69 (FR.lit (by kernel_rfl) (by kernel_rfl)) c80), (hm77.cell 0 rfl rfl), (hm77.cell 0 rfl rfl), trivial⟩ fun a131 hf132 => ?_
          refine listOf hf132 rfl (by kernel_rfl) (aCall (fid := 38) (args := [.agg #[.slice A31 r23.1.Shape.length c32, .slice A33 r23.1.Data.length c34]]) (d := 27) hf132 (by kernel_rfl) (by kernel_rfl) callable38 (tensor_May.calls _ _ r23.1 A31 r23.1.Shape.length c32 rfl A33 r23.1.Data.length c34 rfl (hm77.give [1, 2] [.sl (Kd.int .i64) A31 c32 r23.1.Shape, .sl Kd.float A33 c34 r23.1.Data] rfl rfl) r81 hr81) ?_)
          rintro _ w133 a134 ⟨rfl, hk136⟩ hf135
          have hm137 := hm77.still hk136.cum.none
          rw [c82] at hf135
          refine go 11 [] [0] [(0, .bool false)] [] hf135 (by kernel_rfl) trivial fun a138 hf139 => ?_
          refine endL rfl ?_
          have hm140 := hm137.sel [] _ rfl (by kernel_rfl)
          refine thenN ?_
          refine wp_ret ?_
          have hm141 : Mem [] M w0 [] w133 := hm140.sel [] _ rfl (by kernel_rfl)
          obtain rfl := Option.some.inj H0
          refine ret [] [.bool false] [] hf139 (by kernel_rfl) trivial ?_
          exact ⟨_, rfl, rfl, hm141⟩
      · refine reg [.bool true, .bool false] [0] [(0, .bool false)] [.is (((r23.2 : Int) == 0) = true), .is ((FloatKind.f64.format.order b69 4607182418800017408 == some .eq) = false)] hf76 (by kernel_rfl) ⟨(eqT c78), (ftEq hb69 (FR.lit (by kernel_rfl) (by kernel_rfl)) c80), trivial⟩ fun a143 hf144 => ?_
        have hm145 := hm77.sel [] _ rfl (by kernel_rfl)
        refine thenN ?_
        refine wp_ret ?_
        have hm146 : Mem [] M w0 [] w70 := hm145.sel [] _ rfl (by kernel_rfl)
        obtain rfl := Option.some.inj H0
        refine ret [] [.bool false] [] hf144 (by kernel_rfl) trivial ?_
        exact ⟨_, rfl, rfl, hm146⟩
    · rw [c79] at hf76
      refine reg [.bool true] [0] [(0, .bool false)] [.is (((r23.2 : Int) == 0) = true)] hf76 (by kernel_rfl) ⟨(eqT c78), trivial⟩ fun a148 hf149 => ?_
      have hm150 := hm77.sel [] _ rfl (by kernel_rfl)
      refine thenN ?_
      refine wp_ret ?_
      have hm151 : Mem [] M w0 [] w70 := hm150.sel [] _ rfl (by kernel_rfl)
      obtain rfl := Option.some.inj H0
      refine ret [] [.bool false] [] hf149 (by kernel_rfl) trivial ?_
      exact ⟨_, rfl, rfl, hm151⟩
  · refine reg [.bool false] [0] [(0, .bool false)] [.is (((r23.2 : Int) == 0) = false)] hf76 (by kernel_rfl) ⟨(eqF c78), trivial⟩ fun a153 hf154 => ?_
    have hm155 := hm77.sel [] _ rfl (by kernel_rfl)
    refine thenN ?_
    refine wp_ret ?_
    have hm156 : Mem [] M w0 [] w70 := hm155.sel [] _ rfl (by kernel_rfl)
    obtain rfl := Option.some.inj H0
    refine ret [] [.bool false] [] hf154 (by kernel_rfl) trivial ?_
    exact ⟨_, rfl, rfl, hm156⟩

/-! ### backstitch/tensor.Of -/
noncomputable def tensor_Of.f (x0 : (List Int)) (x1 : (List Nat)) : Option (Tensor × Int) :=
  (shape_Size.f x0).bind fun r30 =>
  if r30.2 = 0 then (if (x1.length : Int) = r30.1 then ((tensor_Copy.f (⟨x0, x1⟩ : Tensor)).bind fun r46 =>
  some (r46, 0))
  else (some ((⟨([] : (List Int)), ([] : (List Nat))⟩ : Tensor), 1)))
  else (some ((⟨([] : (List Int)), ([] : (List Nat))⟩ : Tensor), r30.2))
set_option maxRecDepth 100000 in
set_option maxHeartbeats 4000000 in
theorem tensor_Of.calls (M : List (Option Nat)) (w0 : World) (x0 : (List Int)) (A0 : Option Addr) (n0 c0 : Nat) (e0 : n0 = x0.length) (x1 : (List Nat)) (A1 : Option Addr) (n1 c1 : Nat) (e1 : n1 = x1.length) (hm0 : Mem [] M w0 [.sl (Kd.int .i64) A0 c0 x0, .sl Kd.float A1 c1 x1] w0) (r : (Tensor × Int)) (H0 : tensor_Of.f x0 x1 = some r) :
    Calls Try.prog 29 [.slice A0 n0 c0, .slice A1 n1 c1].toArray w0 (fun x w' => ∃ v, x = .returned v ∧ ∃ Ar0_0 cr0_0 Ar0_1 cr0_1, v = .tuple #[.agg #[.slice Ar0_0 r.1.Shape.length cr0_0, .slice Ar0_1 r.1.Data.length cr0_1], .int .i64 r.2] ∧ Mem [] M w0 [.ow (Kd.int .i64) 3 Ar0_0 cr0_0 r.1.Shape, .ow Kd.float 44 Ar0_1 cr0_1 r.1.Data] w') := by
  subst e0
  subst e1
  unfold tensor_Of.f at H0
  refine enter (n := 28) Try.func29 rfl rfl (by kernel_rfl) fun a0 (hf0 : Fr 28 a0 [(0, .slice A0 x0.length c0), (1, .slice A1 x1.length c1)]) => ?_
  refine wp_seq ?_
  refine inReg ?_
  refine listOf hf0 rfl (by kernel_rfl) (aNew (cs := [.slice none 0 0, .slice none 0 0]) (T := 28) (d := 4) hf0 (by kernel_rfl) (by kernel_rfl) ?_)
  intro b21 w22 a23 hbb21 hx25 hg26 hf24
  have hm27 := hm0.box hbb21 hx25 hg26
  refine go 1 [] [0, 1, 4] [(0, .slice A0 x0.length c0), (1, .slice A1 x1.length c1), (4, .pointer (some ⟨b21, 0, none⟩))] [] hf24 (by kernel_rfl) trivial fun a28 hf29 => ?_
  refine endL rfl ?_
  refine thenN ?_
  refine wp_seq ?_
  obtain ⟨r30, hr30, H0⟩ := ob_split H0
  refine inReg ?_
  refine go 1 [] [0, 1, 4, 9] [(0, .slice A0 x0.length c0), (1, .slice A1 x1.length c1), (4, .pointer (some ⟨b21, 0, none⟩)), (9, .slice A0 x0.length c0)] [] hf29 (by kernel_rfl) trivial fun a31 hf32 => ?_
  refine listOf hf32 rfl (by kernel_rfl) (aCall (fid := 53) (args := [.slice A0 x0.length c0]) (d := 10) hf32 (by kernel_rfl) (by kernel_rfl) callable53 (shape_Size.calls _ _ x0 A0 x0.length c0 rfl (hm27.give [1] [.sl (Kd.int .i64) A0 c0 x0] rfl rfl) r30 hr30) ?_)
  rintro _ w33 a34 ⟨rfl, hk36⟩ hf35
  have hm37 := hm27.still hk36.cum.none
  refine go 5 [] [0, 1, 4, 6, 7] [(0, .slice A0 x0.length c0), (1, .slice A1 x1.length c1), (4, .pointer (some ⟨b21, 0, none⟩)), (6, .int .i64 r30.1), (7, .int .i64 r30.2)] [] hf35 (by kernel_rfl) trivial fun a38 hf39 => ?_
  refine endL rfl ?_
  refine thenN ?_
  refine wp_seq ?_
  refine wp_block ?_
  refine wp_seq ?_
  rcases if_split H0 with ⟨c40, H0⟩ | ⟨c40, H0⟩
  · refine reg [.bool false] [0, 1, 4, 6, 7, 13] [(0, .slice A0 x0.length c0), (1, .slice A1 x1.length c1), (4, .pointer (some ⟨b21, 0, none⟩)), (6, .int .i64 r30.1), (7, .int .i64 r30.2), (13, .bool false)] [.is (((r30.2 : Int) != 0) = false)] hf39 (by kernel_rfl) ⟨(neF c40), trivial⟩ fun a41 hf42 => ?_
    refine thenN ?_
    refine condF hf42 (by kernel_rfl) ?_
    refine wp_seq ?_
    rcases if_split H0 with ⟨c43, H0⟩ | ⟨c43, H0⟩
    · refine reg [.bool false] [0, 1, 4, 18] [(0, .slice A0 x0.length c0), (1, .slice A1 x1.length c1), (4, .pointer (some ⟨b21, 0, none⟩)), (18, .bool false)] [.is ((((x1.length : Int) : Int) != r30.1) = false)] hf42 (by kernel_rfl) ⟨(neF c43), trivial⟩ fun a44 hf45 => ?_
      refine thenN ?_
      refine condF hf45 (by kernel_rfl) ?_
      refine wp_skip ?_
      refine blkN ?_
      refine thenN ?_
      refine wp_seq ?_
      obtain ⟨r46, hr46, H0⟩ := ob_split H0
      refine inReg ?_
      refine go 3 [] [4, 26] [(4, .pointer (some ⟨b21, 0, none⟩)), (26, .agg #[.slice A0 x0.length c0, .slice A1 x1.length c1])] [] hf45 (by kernel_rfl) trivial fun a47 hf48 => ?_
      refine listOf hf48 rfl (by kernel_rfl) (aCall (fid := 49) (args := [.agg #[.slice A0 x0.length c0, .slice A1 x1.length c1]]) (d := 27) hf48 (by kernel_rfl) (by kernel_rfl) callable49 (tensor_Copy.calls _ _ (⟨x0, x1⟩ : Tensor) A0 x0.length c0 rfl A1 x1.length c1 rfl (hm37.give [1, 2] [.sl (Kd.int .i64) A0 c0 x0, .sl Kd.float A1 c1 x1] rfl rfl) r46 hr46) ?_)
      rintro _ w53 a54 ⟨A49, c50, A51, c52, rfl, hk56⟩ hf55
      have hm57 := hm37.back hk56
      refine listOf hf55 rfl (by kernel_rfl) (aStoreB (b := b21) (j := 0) (T := 28) (cs := [.slice none 0 0, .slice none 0 0]) (us := [.slice A49 r46.Shape.length c50, .slice A51 r46.Data.length c52]) (cs' := [.slice A49 r46.Shape.length c50, .slice A51 r46.Data.length c52]) hf55 (by kernel_rfl) (hm57.bxAt 2 rfl) (by kernel_rfl) (by kernel_rfl) (by kernel_rfl) ?_)
      intro w58 hx59 hg60
      have hm61 := hm57.setBox 2 _ rfl rfl hx59 hg60
      refine go 1 [] [4, 5] [(4, .pointer (some ⟨b21, 0, none⟩)), (5, .int .i64 0)] [] hf55 (by kernel_rfl) trivial fun a62 hf63 => ?_
      refine endL rfl ?_
      have hm65 := hm61.sel [0, 1, 2] _ rfl (by kernel_rfl)
      refine thenN ?_
      refine wp_ret ?_
      have hm66 : Mem [] M w0 [.ow (Kd.int .i64) 3 A49 c50 r46.Shape, .ow Kd.float 44 A51 c52 r46.Data] w58 := hm65.sel [0, 1] _ rfl (by kernel_rfl)
      obtain rfl := Option.some.inj H0
      refine ret [.agg #[.slice A49 r46.Shape.length c50, .slice A51 r46.Data.length c52]] [.agg #[.slice A49 r46.Shape.length c50, .slice A51 r46.Data.length c52], .int .i64 0] [.cell ⟨b21, 0, none⟩ (.slice A49 r46.Shape.length c50), .cell ⟨b21, 1, none⟩ (.slice A51 r46.Data.length c52)] hf63 (by kernel_rfl) ⟨(hm65.cell 2 rfl rfl), (hm65.cell 2 rfl rfl), trivial⟩ ?_
      exact ⟨_, rfl, A49, c50, A51, c52, rfl, hm66⟩
    · refine reg [.bool true] [0, 1, 4, 18] [(0, .slice A0 x0.length c0), (1, .slice A1 x1.length c1), (4, .pointer (some ⟨b21, 0, none⟩)), (18, .bool true)] [.is ((((x1.length : Int) : Int) != r30.1) = true)] hf42 (by kernel_rfl) ⟨(neT c43), trivial⟩ fun a68 hf69 => ?_
      refine thenN ?_
      refine condT hf69 (by kernel_rfl) ?_
      refine wp_seq ?_
      refine inReg ?_
      refine go 1 [] [4, 23] [(4, .pointer (some ⟨b21, 0, none⟩)), (23, .agg #[.slice none 0 0, .slice none 0 0])] [] hf69 (by kernel_rfl) trivial fun a70 hf71 => ?_
      refine listOf hf71 rfl (by kernel_rfl) (aStoreB (b := b21) (j := 0) (T := 28) (cs := [.slice none 0 0, .slice none 0 0]) (us := [.slice none 0 0, .slice none 0 0]) (cs' := [.slice none 0 0, .slice none 0 0]) hf71 (by kernel_rfl) (hm37.bxAt 0 rfl) (by kernel_rfl) (by kernel_rfl) (by kernel_rfl) ?_)
      intro w72 hx73 hg74
      have hm75 := hm37.setBox 0 _ rfl rfl hx73 hg74
      refine go 1 [] [4, 5] [(4, .pointer (some ⟨b21, 0, none⟩)), (5, .int .i64 1)] [] hf71 (by kernel_rfl) trivial fun a76 hf77 => ?_
      refine endL rfl ?_
      have hm78 := hm75.sel [0] _ rfl (by kernel_rfl)
      refine thenN ?_
      refine wp_ret ?_
      refine blkR ?_
      refine thenR ?_
      have hm79 : Mem [] M w0 [.ow (Kd.int .i64) 3 none 0 ([] : (List Int)), .bx b21 [.slice none 0 0, .slice none 0 0] 28] w72 := hm78.nilOw (Kd.int .i64) 3
      have hm80 : Mem [] M w0 [.ow Kd.float 44 none 0 ([] : (List Nat)), .ow (Kd.int .i64) 3 none 0 ([] : (List Int)), .bx b21 [.slice none 0 0, .slice none 0 0] 28] w72 := hm79.nilOw Kd.float 44
      have hm81 : Mem [] M w0 [.ow (Kd.int .i64) 3 none 0 ([] : (List Int)), .ow Kd.float 44 none 0 ([] : (List Nat))] w72 := hm80.sel [1, 0] _ rfl (by kernel_rfl)
      obtain rfl := Option.some.inj H0
      refine ret [.agg #[.slice none 0 0, .slice none 0 0]] [.agg #[.slice none 0 0, .slice none 0 0], .int .i64 1] [.cell ⟨b21, 0, none⟩ (.slice none 0 0), .cell ⟨b21, 1, none⟩ (.slice none 0 0)] hf77 (by kernel_rfl) ⟨(hm78.cell 0 rfl rfl), (hm78.cell 0 rfl rfl), trivial⟩ ?_
      exact ⟨_, rfl, none, 0, none, 0, rfl, hm81⟩
  · refine reg [.bool true] [0, 1, 4, 6, 7, 13] [(0, .slice A0 x0.length c0), (1, .slice A1 x1.length c1), (4, .pointer (some ⟨b21, 0, none⟩)), (6, .int .i64 r30.1), (7, .int .i64 r30.2), (13, .bool true)] [.is (((r30.2 : Int) != 0) = true)] hf39 (by kernel_rfl) ⟨(neT c40), trivial⟩ fun a83 hf84 => ?_
    refine thenN ?_
    refine condT hf84 (by kernel_rfl) ?_
    refine wp_seq ?_
    refine inReg ?_
    refine go 2 [] [4, 16, 17] [(4, .pointer (some ⟨b21, 0, none⟩)), (16, .agg #[.slice none 0 0, .slice none 0 0]), (17, .int .i64 r30.2)] [] hf84 (by kernel_rfl) trivial fun a85 hf86 => ?_
    refine listOf hf86 rfl (by kernel_rfl) (aStoreB (b := b21) (j := 0) (T := 28) (cs := [.slice none 0 0, .slice none 0 0]) (us := [.slice none 0 0, .slice none 0 0]) (cs' := [.slice none 0 0, .slice none 0 0]) hf86 (by kernel_rfl) (hm37.bxAt 0 rfl) (by kernel_rfl) (by kernel_rfl) (by kernel_rfl) ?_)
    intro w87 hx88 hg89
    have hm90 := hm37.setBox 0 _ rfl rfl hx88 hg89
    refine go 1 [] [4, 5] [(4, .pointer (some ⟨b21, 0, none⟩)), (5, .int .i64 r30.2)] [] hf86 (by kernel_rfl) trivial fun a91 hf92 => ?_
    refine endL rfl ?_
    have hm93 := hm90.sel [0] _ rfl (by kernel_rfl)
    refine thenN ?_
    refine wp_ret ?_
    refine blkR ?_
    refine thenR ?_
    have hm94 : Mem [] M w0 [.ow (Kd.int .i64) 3 none 0 ([] : (List Int)), .bx b21 [.slice none 0 0, .slice none 0 0] 28] w87 := hm93.nilOw (Kd.int .i64) 3
    have hm95 : Mem [] M w0 [.ow Kd.float 44 none 0 ([] : (List Nat)), .ow (Kd.int .i64) 3 none 0 ([] : (List Int)), .bx b21 [.slice none 0 0, .slice none 0 0] 28] w87 := hm94.nilOw Kd.float 44
    have hm96 : Mem [] M w0 [.ow (Kd.int .i64) 3 none 0 ([] : (List Int)), .ow Kd.float 44 none 0 ([] : (List Nat))] w87 := hm95.sel [1, 0] _ rfl (by kernel_rfl)
    obtain rfl := Option.some.inj H0
    refine ret [.agg #[.slice none 0 0, .slice none 0 0]] [.agg #[.slice none 0 0, .slice none 0 0], .int .i64 r30.2] [.cell ⟨b21, 0, none⟩ (.slice none 0 0), .cell ⟨b21, 1, none⟩ (.slice none 0 0)] hf92 (by kernel_rfl) ⟨(hm93.cell 0 rfl rfl), (hm93.cell 0 rfl rfl), trivial⟩ ?_
    exact ⟨_, rfl, none, 0, none, 0, rfl, hm96⟩

/-! ### backstitch/tensor.Map -/
noncomputable def tensor_Map_math_Abs.l0 (r46 : Tensor) (s73 : (Int × (List Nat))) : Step (Int × (List Nat)) (Int × (List Nat)) :=
  if s73.1 < (r46.Data.length : Int) then (if 0 ≤ s73.1 ∧ s73.1 < (s73.2.length : Int) then (bindS (math_Abs.f (rd s73.2 s73.1)) fun r88 =>
  .next ((w64 (s73.1 + 1)), (put s73.2 s73.1 r88)))
  else .bad)
  else (.done (s73.1, s73.2))
noncomputable def tensor_Map_math_Abs.f (x0 : Tensor) : Option Tensor :=
  (tensor_May.f x0).bind fun r35 =>
  if r35 = true then ((tensor_Copy.f x0).bind fun r46 =>
  (loop (tensor_Map_math_Abs.l0 r46) (0, r46.Data)).bind fun r74 =>
  some (⟨r46.Shape, r74.2⟩ : Tensor))
  else (some (⟨([] : (List Int)), ([] : (List Nat))⟩ : Tensor))
set_option maxRecDepth 100000 in
set_option maxHeartbeats 4000000 in
theorem tensor_Map_math_Abs.calls (M : List (Option Nat)) (w0 : World) (x0 : Tensor) (A0_0 : Option Addr) (n0_0 c0_0 : Nat) (e0_0 : n0_0 = x0.Shape.length) (A0_1 : Option Addr) (n0_1 c0_1 : Nat) (e0_1 : n0_1 = x0.Data.length) (hm0 : Mem [] M w0 [.sl (Kd.int .i64) A0_0 c0_0 x0.Shape, .sl Kd.float A0_1 c0_1 x0.Data] w0) (r : Tensor) (H0 : tensor_Map_math_Abs.f x0 = some r) :
    Calls Try.prog 36 [.agg #[.slice A0_0 n0_0 c0_0, .slice A0_1 n0_1 c0_1], .func (.func 37) #[] #[]].toArray w0 (fun x w' => ∃ v, x = .returned v ∧ ∃ Ar0_0 cr0_0 Ar0_1 cr0_1, v = .agg #[.slice Ar0_0 r.Shape.length cr0_0, .slice Ar0_1 r.Data.length cr0_1] ∧ Mem [] M w0 [.ow (Kd.int .i64) 3 Ar0_0 cr0_0 r.Shape, .ow Kd.float 44 Ar0_1 cr0_1 r.Data] w') := by
  subst e0_0
  subst e0_1
  unfold tensor_Map_math_Abs.f at H0
  refine enter (n := 35) Try.func36 rfl rfl (by kernel_rfl) fun a0 (hf0 : Fr 35 a0 [(0, .agg #[.slice A0_0 x0.Shape.length c0_0, .slice A0_1 x0.Data.length c0_1]), (1, .func (.func 37) #[] #[])]) => ?_
  refine wp_seq ?_
  refine inReg ?_
  refine listOf hf0 rfl (by kernel_rfl) (aNew (cs := [.slice A0_0 x0.Shape.length c0_0, .slice A0_1 x0.Data.length c0_1]) (T := 28) (d := 2) hf0 (by kernel_rfl) (by kernel_rfl) ?_)
  intro b21 w22 a23 hbb21 hx25 hg26 hf24
  have hm27 := hm0.box hbb21 hx25 hg26
  refine listOf hf24 rfl (by kernel_rfl) (aNew (cs := [.slice none 0 0, .slice none 0 0]) (T := 28) (d := 4) hf24 (by kernel_rfl) (by kernel_rfl) ?_)
  intro b28 w29 a30 hbb28 hx32 hg33 hf31
  have hm34 := hm27.box hbb28 hx32 hg33
  refine endL rfl ?_
  refine thenN ?_
  refine wp_seq ?_
  refine wp_seq ?_
  obtain ⟨r35, hr35, H0⟩ := ob_split H0
  rcases ifb_split H0 with ⟨c36, H0⟩ | ⟨c36, H0⟩
  · refine inReg ?_
    refine go 1 [.agg #[.slice A0_0 x0.Shape.length c0_0, .slice A0_1 x0.Data.length c0_1]] [1, 2, 4, 8] [(1, .func (.func 37) #[] #[]), (2, .pointer (some ⟨b21, 0, none⟩)), (4, .pointer (some ⟨b28, 0, none⟩)), (8, .agg #[.slice A0_0 x0.Shape.length c0_0, .slice A0_1 x0.Data.length c0_1])] [.cell ⟨b21, 0, none⟩ (.slice A0_0 x0.Shape.length c0_0), .cell ⟨b21, 1, none⟩ (.slice A0_1 x0.Data.length c0_1)] hf31 (by kernel_rfl) ⟨(hm34.cell 1 rfl rfl), (hm34.cell 1 rfl rfl), trivial⟩ fun a37 hf38 => ?_
    refine listOf hf38 rfl (by kernel_rfl) (aCall (fid := 38) (args := [.agg #[.slice A0_0 x0.Shape.length c0_0, .slice A0_1 x0.Data.length c0_1]]) (d := 9) hf38 (by kernel_rfl) (by kernel_rfl) callable38 (tensor_May.calls _ _ x0 A0_0 x0.Shape.length c0_0 rfl A0_1 x0.Data.length c0_1 rfl (hm34.give [2, 3] [.sl (Kd.int .i64) A0_0 c0_0 x0.Shape, .sl Kd.float A0_1 c0_1 x0.Data] rfl rfl) r35 hr35) ?_)
    rintro _ w39 a40 ⟨rfl, hk42⟩ hf41
    have hm43 := hm34.still hk42.cum.none
    rw [c36] at hf41
    refine go 5 [] [1, 2, 4, 14] [(1, .func (.func 37) #[] #[]), (2, .pointer (some ⟨b21, 0, none⟩)), (4, .pointer (some ⟨b28, 0, none⟩)), (14, .bool false)] [] hf41 (by kernel_rfl) trivial fun a44 hf45 => ?_
    refine endL rfl ?_
    refine thenN ?_
    refine condF hf45 (by kernel_rfl) ?_
    refine wp_skip ?_
    refine thenN ?_
    refine wp_seq ?_
    obtain ⟨r46, hr46, H0⟩ := ob_split H0
    refine inReg ?_
    refine go 1 [.agg #[.slice A0_0 x0.Shape.length c0_0, .slice A0_1 x0.Data.length c0_1]] [1, 4, 16] [(1, .func (.func 37) #[] #[]), (4, .pointer (some ⟨b28, 0, none⟩)), (16, .agg #[.slice A0_0 x0.Shape.length c0_0, .slice A0_1 x0.Data.length c0_1])] [.cell ⟨b21, 0, none⟩ (.slice A0_0 x0.Shape.length c0_0), .cell ⟨b21, 1, none⟩ (.slice A0_1 x0.Data.length c0_1)] hf45 (by kernel_rfl) ⟨(hm43.cell 1 rfl rfl), (hm43.cell 1 rfl rfl), trivial⟩ fun a47 hf48 => ?_
    refine listOf hf48 rfl (by kernel_rfl) (aCall (fid := 49) (args := [.agg #[.slice A0_0 x0.Shape.length c0_0, .slice A0_1 x0.Data.length c0_1]]) (d := 17) hf48 (by kernel_rfl) (by kernel_rfl) callable49 (tensor_Copy.calls _ _ x0 A0_0 x0.Shape.length c0_0 rfl A0_1 x0.Data.length c0_1 rfl (hm43.give [2, 3] [.sl (Kd.int .i64) A0_0 c0_0 x0.Shape, .sl Kd.float A0_1 c0_1 x0.Data] rfl rfl) r46 hr46) ?_)
    rintro _ w53 a54 ⟨A49, c50, A51, c52, rfl, hk56⟩ hf55
    have hm57 := hm43.back hk56
    refine listOf hf55 rfl (by kernel_rfl) (aNew (cs := [.slice none 0 0, .slice none 0 0]) (T := 28) (d := 5) hf55 (by kernel_rfl) (by kernel_rfl) ?_)
    intro b58 w59 a60 hbb58 hx62 hg63 hf61
    have hm65 := hm57.box hbb58 hx62 hg63
    refine listOf hf61 rfl (by kernel_rfl) (aStoreB (b := b58) (j := 0) (T := 28) (cs := [.slice none 0 0, .slice none 0 0]) (us := [.slice A49 r46.Shape.length c50, .slice A51 r46.Data.length c52]) (cs' := [.slice A49 r46.Shape.length c50, .slice A51 r46.Data.length c52]) hf61 (by kernel_rfl) (hm65.bxAt 0 rfl) (by kernel_rfl) (by kernel_rfl) (by kernel_rfl) ?_)
    intro w66 hx67 hg68
    have hm69 := hm65.setBox 0 _ rfl rfl hx67 hg68
    refine endL rfl ?_
    have hm70 := hm69.sel [0, 1, 2, 3] _ rfl (by kernel_rfl)
    refine thenN ?_
    refine wp_seq ?_
    refine wp_seq ?_
    refine reg [.slice A51 r46.Data.length c52] [1, 4, 5, 19, 20, 21] [(1, .func (.func 37) #[] #[]), (4, .pointer (some ⟨b28, 0, none⟩)), (5, .pointer (some ⟨b58, 0, none⟩)), (19, .slice A51 r46.Data.length c52), (20, .int .i64 (r46.Data.length : Int)), (21, .int .i64 0)] [.cell ⟨b58, 1, none⟩ (.slice A51 r46.Data.length c52)] hf61 (by kernel_rfl) ⟨(hm70.cell 0 rfl rfl), trivial⟩ fun a71 hf72 => ?_
    refine thenN ?_
    obtain ⟨r74, hr74, H0⟩ := ob_split H0
    refine wpBlock (Mid := fun (a : Act) (w : World) => Fr 35 a [(1, .func (.func 37) #[] #[]), (4, .pointer (some ⟨b28, 0, none⟩)), (5, .pointer (some ⟨b58, 0, none⟩)), (19, .slice A51 r74.2.length c52), (20, .int .i64 (r46.Data.length : Int)), (21, .int .i64 r74.1)] ∧ Mem [] M w0 [.bx b58 [.slice A49 r46.Shape.length c50, .slice A51 r74.2.length c52] 28, .ow (Kd.int .i64) 3 A49 c50 r46.Shape, .ow Kd.float 44 A51 c52 r74.2, .bx b28 [.slice none 0 0, .slice none 0 0] 28] w) ?_ ?_
    · refine wpLoop (tensor_Map_math_Abs.l0 r46) r74 (fun (s73 : (Int × (List Nat))) (a : Act) (w : World) => Fr 35 a [(1, .func (.func 37) #[] #[]), (4, .pointer (some ⟨b28, 0, none⟩)), (5, .pointer (some ⟨b58, 0, none⟩)), (19, .slice A51 s73.2.length c52), (20, .int .i64 (r46.Data.length : Int)), (21, .int .i64 s73.1)] ∧ Mem [] M w0 [.bx b58 [.slice A49 r46.Shape.length c50, .slice A51 s73.2.length c52] 28, .ow (Kd.int .i64) 3 A49 c50 r46.Shape, .ow Kd.float 44 A51 c52 s73.2, .bx b28 [.slice none 0 0, .slice none 0 0] 28] w) (0, r46.Data) hr74 ⟨hf72.sel (l := [1, 4, 5, 19, 20, 21]) (by kernel_rfl), hm70.sel [0, 1, 2, 3] _ rfl (by kernel_rfl)⟩ ?_
      rintro g75 s73 a76 w77 H1 ⟨hf78, hm79⟩
      unfold tensor_Map_math_Abs.l0 at H1
      refine wp_seq ?_
      rcases ifS_split H1 with ⟨c80, H1⟩ | ⟨c80, H1⟩
      · refine reg [.bool true] [1, 4, 5, 19, 20, 21, 22] [(1, .func (.func 37) #[] #[]), (4, .pointer (some ⟨b28, 0, none⟩)), (5, .pointer (some ⟨b58, 0, none⟩)), (19, .slice A51 s73.2.length c52), (20, .int .i64 (r46.Data.length : Int)), (21, .int .i64 s73.1), (22, .bool true)] [.is (decide (s73.1 < (r46.Data.length : Int)) = true)] hf78 (by kernel_rfl) ⟨(decide_eq_true c80), trivial⟩ fun a81 hf82 => ?_
        refine thenN ?_
        refine wp_seq ?_
        refine condT hf82 (by kernel_rfl) ?_
        refine wp_skip ?_
        refine thenN ?_
        refine wp_seq ?_
        refine wp_block ?_
        refine wp_seq ?_
        obtain ⟨g83, H1⟩ := ifS_guard H1
        have q84 := (hm79.owAt 2 rfl).float s73.1 g83.1 g83.2
        obtain ⟨b85, hb85, kb85⟩ := q84.2
        refine reg [.float .f64 b85] [1, 4, 5, 6, 7, 19, 20, 21] [(1, .func (.func 37) #[] #[]), (4, .pointer (some ⟨b28, 0, none⟩)), (5, .pointer (some ⟨b58, 0, none⟩)), (6, .int .i64 s73.1), (7, .float .f64 b85), (19, .slice A51 s73.2.length c52), (20, .int .i64 (r46.Data.length : Int)), (21, .int .i64 s73.1)] [.is (Option.isSome A51 = true), .is (0 ≤ s73.1 ∧ s73.1 < (s73.2.length : Int)), .cell ((ad A51).add ((s73.1).toNat * 1)) (.float .f64 b85)] hf82 (by kernel_rfl) ⟨q84.1, g83, kb85, trivial⟩ fun a86 hf87 => ?_
        refine thenN ?_
        obtain ⟨r88, hr88, H1⟩ := obS_split H1
        refine midReg (fun (a : Act) (w : World) => Fr 35 a [(1, .func (.func 37) #[] #[]), (4, .pointer (some ⟨b28, 0, none⟩)), (5, .pointer (some ⟨b58, 0, none⟩)), (19, .slice A51 s73.2.length c52), (20, .int .i64 (r46.Data.length : Int)), (21, .int .i64 s73.1)] ∧ Mem [] M w0 [.bx b58 [.slice A49 r46.Shape.length c50, .slice A51 s73.2.length c52] 28, .ow (Kd.int .i64) 3 A49 c50 r46.Shape, .ow Kd.float 44 A51 c52 (put s73.2 s73.1 r88), .bx b28 [.slice none 0 0, .slice none 0 0] 28] w) ?_ ?_
        · refine anyG [7] (by kernel_rfl) fun w101 hg102 => ?_
          have hm103 := hm79.still hg102
          refine quiet0 [0, 1, 2, 3, 4] [.slice A51 s73.2.length c52] [1, 4, 5, 19, 20, 21, 27, 28, 29, 30] #[true, true, true, true, true, false, false, false] [(1, .func (.func 37) #[] #[]), (4, .pointer (some ⟨b28, 0, none⟩)), (5, .pointer (some ⟨b58, 0, none⟩)), (19, .slice A51 s73.2.length c52), (20, .int .i64 (r46.Data.length : Int)), (21, .int .i64 s73.1), (27, .slice A51 s73.2.length c52), (28, .int .i64 s73.1), (29, .func (.func 37) #[] #[]), (30, .float .f64 b85)] [.cell ⟨b58, 1, none⟩ (.slice A51 s73.2.length c52)] 3 rfl (by kernel_rfl) (fun _ _ _ _ _ h => nomatch h.1) hf87 (by kernel_rfl) ⟨(hm103.cell 0 rfl rfl), trivial⟩ fun a120 hf121 => ?_
          refine all1 5 (by kernel_rfl) ?_
          refine opOf hf121 rfl (by kernel_rfl) (aCall (fid := 37) (args := [.float .f64 b85]) (d := 31) hf121 (by kernel_rfl) (by kernel_rfl) callable37 (math_Abs.calls _ _ (rd s73.2 s73.1) b85 hb85 (hm103.give [] [] rfl rfl) r88 hr88) ?_)
          rintro _ w123 a124 ⟨b122, rfl, hb122, hk126⟩ hf125
          refine ⟨.inr (Gr.still hk126.cum.none), ?_⟩
          have hm127 := hm103.still hk126.cum.none
          have q128 := (hm127.owAt 2 rfl).float s73.1 g83.1 g83.2
          obtain ⟨b129, hb129, kb129⟩ := q128.2
          refine quiet0 [6] [] [1, 4, 5, 19, 20, 21, 31, 32] #[true, true, true, true, true, true, true, false] [(1, .func (.func 37) #[] #[]), (4, .pointer (some ⟨b28, 0, none⟩)), (5, .pointer (some ⟨b58, 0, none⟩)), (19, .slice A51 s73.2.length c52), (20, .int .i64 (r46.Data.length : Int)), (21, .int .i64 s73.1), (31, .float .f64 b122), (32, .pointer (some ((ad A51).add ((s73.1).toNat * 1))))] [.is (Option.isSome A51 = true), .is (0 ≤ s73.1 ∧ s73.1 < (s73.2.length : Int))] 1 rfl (by kernel_rfl) (fun _ _ _ _ _ h => nomatch h.1) hf125 (by kernel_rfl) ⟨q128.1, g83, trivial⟩ fun a130 hf131 => ?_
          refine all1 7 (by kernel_rfl) ?_
          refine opOf hf131 rfl (by kernel_rfl) (aStoreO (kd := Kd.float) (base := 0) (E := 44) (A := A51) (c := c52) (xs := s73.2) (i := s73.1) (x := r88) (us := [.float .f64 b122]) (sz := 1) hf131 (by kernel_rfl) rfl (by kernel_rfl) (hm127.at 2 rfl) ⟨_, rfl, hb122⟩ g83.1 g83.2 ?_)
          intro w132 hx133 hg134
          refine ⟨.inl (by decide), ?_⟩
          have hm135 : Mem [] M w0 [.bx b58 [.slice A49 r46.Shape.length c50, .slice A51 s73.2.length c52] 28, .ow (Kd.int .i64) 3 A49 c50 r46.Shape, .ow Kd.float 44 A51 c52 (put s73.2 s73.1 r88), .bx b28 [.slice none 0 0, .slice none 0 0] 28] w132 := hm127.setOwn 2 _ rfl rfl hx133 hg134 (.inl rfl)
          refine allDone (by kernel_rfl) ⟨rfl, hf131.sel (l := [1, 4, 5, 19, 20, 21]) (by kernel_rfl), hm135.sel [0, 1, 2, 3] _ rfl (by kernel_rfl)⟩
        rintro a136 w137 ⟨hf138, hm139⟩
        refine blkN ?_
        refine thenN ?_
        refine reg [] [1, 4, 5, 19, 20, 21] [(1, .func (.func 37) #[] #[]), (4, .pointer (some ⟨b28, 0, none⟩)), (5, .pointer (some ⟨b58, 0, none⟩)), (19, .slice A51 s73.2.length c52), (20, .int .i64 (r46.Data.length : Int)), (21, .int .i64 (w64 (s73.1 + 1)))] [] hf138 (by kernel_rfl) trivial fun a140 hf141 => ?_
        have hf142 : Fr 35 a140 [(1, .func (.func 37) #[] #[]), (4, .pointer (some ⟨b28, 0, none⟩)), (5, .pointer (some ⟨b58, 0, none⟩)), (19, .slice A51 s73.2.length c52), (20, .int .i64 (r46.Data.length : Int)), (21, .int .i64 (w64 (s73.1 + 1)))] := hf141.sel (l := [1, 4, 5, 19, 20, 21]) (by kernel_rfl)
        have hm143 : Mem [] M w0 [.bx b58 [.slice A49 r46.Shape.length c50, .slice A51 s73.2.length c52] 28, .ow (Kd.int .i64) 3 A49 c50 r46.Shape, .ow Kd.float 44 A51 c52 (put s73.2 s73.1 r88), .bx b28 [.slice none 0 0, .slice none 0 0] 28] w137 := hm139.sel [0, 1, 2, 3] _ rfl (by kernel_rfl)
        exact ⟨((w64 (s73.1 + 1)), (put s73.2 s73.1 r88)), H1, (by simpa only [put_length, List.length_nil] using hf142), (by simpa only [put_length, List.length_nil] using hm143)⟩
      · refine reg [.bool false] [1, 4, 5, 19, 20, 21, 22] [(1, .func (.func 37) #[] #[]), (4, .pointer (some ⟨b28, 0, none⟩)), (5, .pointer (some ⟨b58, 0, none⟩)), (19, .slice A51 s73.2.length c52), (20, .int .i64 (r46.Data.length : Int)), (21, .int .i64 s73.1), (22, .bool false)] [.is (decide (s73.1 < (r46.Data.length : Int)) = false)] hf78 (by kernel_rfl) ⟨(decide_eq_false c80), trivial⟩ fun a144 hf145 => ?_
        refine thenN ?_
        refine wp_seq ?_
        refine condF hf145 (by kernel_rfl) ?_
        refine wp_exit ?_
        refine thenE ?_
        refine thenE ?_
        obtain rfl := Option.some.inj H1
        exact .inl ⟨rfl, hf145.sel (l := [1, 4, 5, 19, 20, 21]) (by kernel_rfl), hm79.sel [0, 1, 2, 3] _ rfl (by kernel_rfl)⟩
    rintro a146 w147 ⟨hf148, hm149⟩
    refine thenN ?_
    refine wp_seq ?_
    refine inReg ?_
    refine go 1 [.agg #[.slice A49 r46.Shape.length c50, .slice A51 r74.2.length c52]] [4, 34] [(4, .pointer (some ⟨b28, 0, none⟩)), (34, .agg #[.slice A49 r46.Shape.length c50, .slice A51 r74.2.length c52])] [.cell ⟨b58, 0, none⟩ (.slice A49 r46.Shape.length c50), .cell ⟨b58, 1, none⟩ (.slice A51 r74.2.length c52)] hf148 (by kernel_rfl) ⟨(hm149.cell 0 rfl rfl), (hm149.cell 0 rfl rfl), trivial⟩ fun a150 hf151 => ?_
    refine listOf hf151 rfl (by kernel_rfl) (aStoreB (b := b28) (j := 0) (T := 28) (cs := [.slice none 0 0, .slice none 0 0]) (us := [.slice A49 r46.Shape.length c50, .slice A51 r74.2.length c52]) (cs' := [.slice A49 r46.Shape.length c50, .slice A51 r74.2.length c52]) hf151 (by kernel_rfl) (hm149.bxAt 3 rfl) (by kernel_rfl) (by kernel_rfl) (by kernel_rfl) ?_)
    intro w152 hx153 hg154
    have hm155 := hm149.setBox 3 _ rfl rfl hx153 hg154
    refine endL rfl ?_
    have hm156 := hm155.sel [1, 2, 3] _ rfl (by kernel_rfl)
    refine thenN ?_
    refine wp_ret ?_
    have hm157 : Mem [] M w0 [.ow (Kd.int .i64) 3 A49 c50 r46.Shape, .ow Kd.float 44 A51 c52 r74.2] w152 := hm156.sel [0, 1] _ rfl (by kernel_rfl)
    obtain rfl := Option.some.inj H0
    refine ret [.agg #[.slice A49 r46.Shape.length c50, .slice A51 r74.2.length c52]] [.agg #[.slice A49 r46.Shape.length c50, .slice A51 r74.2.length c52]] [.cell ⟨b28, 0, none⟩ (.slice A49 r46.Shape.length c50), .cell ⟨b28, 1, none⟩ (.slice A51 r74.2.length c52)] hf151 (by kernel_rfl) ⟨(hm156.cell 2 rfl rfl), (hm156.cell 2 rfl rfl), trivial⟩ ?_
    exact ⟨_, rfl, A49, c50, A51, c52, rfl, hm157⟩
  · refine inReg ?_
    refine go 1 [.agg #[.slice A0_0 x0.Shape.length c0_0, .slice A0_1 x0.Data.length c0_1]] [1, 2, 4, 8] [(1, .func (.func 37) #[] #[]), (2, .pointer (some ⟨b21, 0, none⟩)), (4, .pointer (some ⟨b28, 0, none⟩)), (8, .agg #[.slice A0_0 x0.Shape.length c0_0, .slice A0_1 x0.Data.length c0_1])] [.cell ⟨b21, 0, none⟩ (.slice A0_0 x0.Shape.length c0_0), .cell ⟨b21, 1, none⟩ (.slice A0_1 x0.Data.length c0_1)] hf31 (by kernel_rfl) ⟨(hm34.cell 1 rfl rfl), (hm34.cell 1 rfl rfl), trivial⟩ fun a159 hf160 => ?_
    refine listOf hf160 rfl (by kernel_rfl) (aCall (fid := 38) (args := [.agg #[.slice A0_0 x0.Shape.length c0_0, .slice A0_1 x0.Data.length c0_1]]) (d := 9) hf160 (by kernel_rfl) (by kernel_rfl) callable38 (tensor_May.calls _ _ x0 A0_0 x0.Shape.length c0_0 rfl A0_1 x0.Data.length c0_1 rfl (hm34.give [2, 3] [.sl (Kd.int .i64) A0_0 c0_0 x0.Shape, .sl Kd.float A0_1 c0_1 x0.Data] rfl rfl) r35 hr35) ?_)
    rintro _ w161 a162 ⟨rfl, hk164⟩ hf163
    have hm165 := hm34.still hk164.cum.none
    rw [c36] at hf163
    refine go 5 [] [1, 2, 4, 14] [(1, .func (.func 37) #[] #[]), (2, .pointer (some ⟨b21, 0, none⟩)), (4, .pointer (some ⟨b28, 0, none⟩)), (14, .bool true)] [] hf163 (by kernel_rfl) trivial fun a166 hf167 => ?_
    refine endL rfl ?_
    refine thenN ?_
    refine condT hf167 (by kernel_rfl) ?_
    refine wp_seq ?_
    refine inReg ?_
    refine go 1 [] [4, 15] [(4, .pointer (some ⟨b28, 0, none⟩)), (15, .agg #[.slice none 0 0, .slice none 0 0])] [] hf167 (by kernel_rfl) trivial fun a168 hf169 => ?_
    refine listOf hf169 rfl (by kernel_rfl) (aStoreB (b := b28) (j := 0) (T := 28) (cs := [.slice none 0 0, .slice none 0 0]) (us := [.slice none 0 0, .slice none 0 0]) (cs' := [.slice none 0 0, .slice none 0 0]) hf169 (by kernel_rfl) (hm165.bxAt 0 rfl) (by kernel_rfl) (by kernel_rfl) (by kernel_rfl) ?_)
    intro w170 hx171 hg172
    have hm173 := hm165.setBox 0 _ rfl rfl hx171 hg172
    refine endL rfl ?_
    have hm174 := hm173.sel [0] _ rfl (by kernel_rfl)
    refine thenN ?_
    refine wp_ret ?_
    refine thenR ?_
    have hm175 : Mem [] M w0 [.ow (Kd.int .i64) 3 none 0 ([] : (List Int)), .bx b28 [.slice none 0 0, .slice none 0 0] 28] w170 := hm174.nilOw (Kd.int .i64) 3
    have hm176 : Mem [] M w0 [.ow Kd.float 44 none 0 ([] : (List Nat)), .ow (Kd.int .i64) 3 none 0 ([] : (List Int)), .bx b28 [.slice none 0 0, .slice none 0 0] 28] w170 := hm175.nilOw Kd.float 44
    have hm177 : Mem [] M w0 [.ow (Kd.int .i64) 3 none 0 ([] : (List Int)), .ow Kd.float 44 none 0 ([] : (List Nat))] w170 := hm176.sel [1, 0] _ rfl (by kernel_rfl)
    obtain rfl := Option.some.inj H0
    refine ret [.agg #[.slice none 0 0, .slice none 0 0]] [.agg #[.slice none 0 0, .slice none 0 0]] [.cell ⟨b28, 0, none⟩ (.slice none 0 0), .cell ⟨b28, 1, none⟩ (.slice none 0 0)] hf169 (by kernel_rfl) ⟨(hm174.cell 0 rfl rfl), (hm174.cell 0 rfl rfl), trivial⟩ ?_
    exact ⟨_, rfl, none, 0, none, 0, rfl, hm177⟩
end Go.Proofs.Ytkcgiolledmbnab
