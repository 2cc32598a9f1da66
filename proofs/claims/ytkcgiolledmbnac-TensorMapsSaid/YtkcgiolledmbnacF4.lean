/- Printed by gen.py. -/
import Derived.Test.YtkcgiolledmbnacF0
import Derived.Test.YtkcgiolledmbnacF1
import Derived.Test.YtkcgiolledmbnacF2
import Derived.Test.YtkcgiolledmbnacF3
namespace Go.Proofs.Ytkcgiolledmbnac
open Go Go.RowKit
set_option linter.unusedSimpArgs false
set_option linter.unusedVariables false
set_option linter.unnecessarySimpa false
/-! ### backstitch/backstitchlaw3.awake -/
noncomputable def law3_awake.f  : Option Bool :=
  (tensor_New.f ([2] : List Int) 4607182418800017408).bind fun r23 =>
  (tensor_At.f r23.1 ([1] : List Int)).bind fun r58 =>
  if r23.2 = 0 then (if r58.2 = true then (if (feq r58.1 4607182418800017408) = true then ((tensor_May.f r23.1).bind fun r81 =>
  if r81 = true then ((tensor_Finite.f r23.1).bind fun r83 =>
  if r83 = true then ((tensor_Same.f r23.1 r23.1).bind fun r85 =>
  some r85)
  else (some false))
  else (some false))
  else (some false))
  else (some false))
  else (some false)
set_option maxRecDepth 100000 in
set_option maxHeartbeats 4000000 in
theorem law3_awake.calls (M : List (Option Nat)) (w0 : World)  (hm0 : Mem [] M w0 [] w0) (r : Bool) (H0 : law3_awake.f = some r) :
    Calls Try.prog 6 [].toArray w0 (fun x w' => ∃ v, x = .returned v ∧ v = .bool r ∧ Mem [] M w0 [] w') := by
  unfold law3_awake.f at H0
  refine enter (n := 38) Try.func6 rfl rfl (by kernel_rfl) fun a0 (hf0 : Fr 38 a0 []) => ?_
  refine wp_seq ?_
  refine reg [] [] [] [] hf0 (by kernel_rfl) trivial fun a21 hf22 => ?_
  refine thenN ?_
  refine wp_seq ?_
  obtain ⟨r23, hr23, H0⟩ := ob_split H0
  refine inReg ?_
  refine listOf hf22 rfl (by kernel_rfl) (aLit (cs := [.int .i64 2]) (E := 3) (len := 1) (d := 6) hf22 (by kernel_rfl) (by kernel_rfl) ?_)
  intro b24 w25 a26 hbb24 hx28 hg29 hf27
  have hm0s := hm0.still hg29
  have hm30 := Mem.lit (kd := (Kd.int .i64)) (xs := ([2] : List Int)) hm0 hbb24 hx28 hg29 (Els.one (kd := (Kd.int .i64)) (us := [.int .i64 2]) (x := 2) rfl)
  refine listOf hf27 rfl (by kernel_rfl) (aCall (fid := 23) (args := [.slice (some ⟨b24, 0, none⟩) 1 1, .float .f64 4607182418800017408]) (d := 7) hf27 (by kernel_rfl) (by kernel_rfl) callable23 (tensor_New.calls _ _ ([2] : List Int) (some ⟨b24, 0, none⟩) 1 1 rfl 4607182418800017408 4607182418800017408 ((FR.lit (by kernel_rfl) (by kernel_rfl))) (hm30.give [0] [.sl (Kd.int .i64) (some ⟨b24, 0, none⟩) 1 ([2] : List Int)] rfl rfl) r23 hr23) ?_)
  rintro _ w35 a36 ⟨A31, c32, A33, c34, rfl, hk38⟩ hf37
  have hm39 := hm30.back hk38
  have hm40 := hm39.seal 0 _ rfl rfl
  have hm41 := hm40.seal 1 _ rfl rfl
  refine go 3 [] [8, 9] [(8, .agg #[.slice A31 r23.1.Shape.length c32, .slice A33 r23.1.Data.length c34]), (9, .int .i64 r23.2)] [] hf37 (by kernel_rfl) trivial fun a42 hf43 => ?_
  refine listOf hf43 rfl (by kernel_rfl) (aNew (cs := [.slice none 0 0, .slice none 0 0]) (T := 25) (d := 1) hf43 (by kernel_rfl) (by kernel_rfl) ?_)
  intro b44 w45 a46 hbb44 hx48 hg49 hf47
  have hm50 := hm41.box hbb44 hx48 hg49
  refine listOf hf47 rfl (by kernel_rfl) (aStoreB (b := b44) (j := 0) (T := 25) (cs := [.slice none 0 0, .slice none 0 0]) (us := [.slice A31 r23.1.Shape.length c32, .slice A33 r23.1.Data.length c34]) (cs' := [.slice A31 r23.1.Shape.length c32, .slice A33 r23.1.Data.length c34]) hf47 (by kernel_rfl) (hm50.bxAt 0 rfl) (by kernel_rfl) (by kernel_rfl) (by kernel_rfl) ?_)
  intro w51 hx52 hg53
  have hm54 := hm50.setBox 0 _ rfl rfl hx52 hg53
  refine go 1 [] [1, 2] [(1, .pointer (some ⟨b44, 0, none⟩)), (2, .int .i64 r23.2)] [] hf47 (by kernel_rfl) trivial fun a55 hf56 => ?_
  refine endL rfl ?_
  have hm57 := hm54.sel [0, 1, 2] _ rfl (by kernel_rfl)
  refine thenN ?_
  refine wp_seq ?_
  obtain ⟨r58, hr58, H0⟩ := ob_split H0
  refine inReg ?_
  refine go 1 [.agg #[.slice A31 r23.1.Shape.length c32, .slice A33 r23.1.Data.length c34]] [1, 2, 11] [(1, .pointer (some ⟨b44, 0, none⟩)), (2, .int .i64 r23.2), (11, .agg #[.slice A31 r23.1.Shape.length c32, .slice A33 r23.1.Data.length c34])] [.cell ⟨b44, 0, none⟩ (.slice A31 r23.1.Shape.length c32), .cell ⟨b44, 1, none⟩ (.slice A33 r23.1.Data.length c34)] hf56 (by kernel_rfl) ⟨(hm57.cell 0 rfl rfl), (hm57.cell 0 rfl rfl), trivial⟩ fun a59 hf60 => ?_
  refine listOf hf60 rfl (by kernel_rfl) (aLit (cs := [.int .i64 1]) (E := 3) (len := 1) (d := 12) hf60 (by kernel_rfl) (by kernel_rfl) ?_)
  intro b61 w62 a63 hbb61 hx66 hg67 hf65
  have hm57s := hm57.still hg67
  have hm68 := Mem.lit (kd := (Kd.int .i64)) (xs := ([1] : List Int)) hm57 hbb61 hx66 hg67 (Els.one (kd := (Kd.int .i64)) (us := [.int .i64 1]) (x := 1) rfl)
  refine listOf hf65 rfl (by kernel_rfl) (aCall (fid := 24) (args := [.agg #[.slice A31 r23.1.Shape.length c32, .slice A33 r23.1.Data.length c34], .slice (some ⟨b61, 0, none⟩) 1 1]) (d := 13) hf65 (by kernel_rfl) (by kernel_rfl) callable24 (tensor_At.calls _ _ r23.1 A31 r23.1.Shape.length c32 rfl A33 r23.1.Data.length c34 rfl ([1] : List Int) (some ⟨b61, 0, none⟩) 1 1 rfl (hm68.give [2, 3, 0] [.sl (Kd.int .i64) A31 c32 r23.1.Shape, .sl Kd.float A33 c34 r23.1.Data, .sl (Kd.int .i64) (some ⟨b61, 0, none⟩) 1 ([1] : List Int)] rfl rfl) r58 hr58) ?_)
  rintro _ w70 a71 ⟨b69, rfl, hb69, hk73⟩ hf72
  have hm74 := hm68.still hk73.cum.none
  refine go 5 [] [1, 2, 3, 4] [(1, .pointer (some ⟨b44, 0, none⟩)), (2, .int .i64 r23.2), (3, .float .f64 b69), (4, .bool r58.2)] [] hf72 (by kernel_rfl) trivial fun a75 hf76 => ?_
  refine endL rfl ?_
  have hm77 := hm74.sel [1, 2, 3] _ rfl (by kernel_rfl)
  refine thenN ?_
  refine wp_seq ?_
  rcases if_split H0 with ⟨c78, H0⟩ | ⟨c78, H0⟩
  rotate_left
  · refine reg [.bool false] [0] [(0, .bool false)] [.is (((r23.2 : Int) == 0) = false)] hf76 (by kernel_rfl) ⟨(eqF c78), trivial⟩ fun a153 hf154 => ?_
    have hm155 := hm77.sel [] _ rfl (by kernel_rfl)
    refine thenN ?_
    refine wp_ret ?_
    have hm156 : Mem [] M w0 [] w70 := hm155.sel [] _ rfl (by kernel_rfl)
    obtain rfl := Option.some.inj H0
    refine ret [] [.bool false] [] hf154 (by kernel_rfl) trivial ?_
    exact ⟨_, rfl, rfl, hm156⟩
  rcases ifb_split H0 with ⟨c79, H0⟩ | ⟨c79, H0⟩
  rotate_left
  · rw [c79] at hf76
    refine reg [.bool true] [0] [(0, .bool false)] [.is (((r23.2 : Int) == 0) = true)] hf76 (by kernel_rfl) ⟨(eqT c78), trivial⟩ fun a148 hf149 => ?_
    have hm150 := hm77.sel [] _ rfl (by kernel_rfl)
    refine thenN ?_
    refine wp_ret ?_
    have hm151 : Mem [] M w0 [] w70 := hm150.sel [] _ rfl (by kernel_rfl)
    obtain rfl := Option.some.inj H0
    refine ret [] [.bool false] [] hf149 (by kernel_rfl) trivial ?_
    exact ⟨_, rfl, rfl, hm151⟩
  rw [c79] at hf76
  rcases ifb_split H0 with ⟨c80, H0⟩ | ⟨c80, H0⟩
  rotate_left
  · refine reg [.bool true, .bool false] [0] [(0, .bool false)] [.is (((r23.2 : Int) == 0) = true), .is ((FloatKind.f64.format.order b69 4607182418800017408 == some .eq) = false)] hf76 (by kernel_rfl) ⟨(eqT c78), (ftEq hb69 (FR.lit (by kernel_rfl) (by kernel_rfl)) c80), trivial⟩ fun a143 hf144 => ?_
    have hm145 := hm77.sel [] _ rfl (by kernel_rfl)
    refine thenN ?_
    refine wp_ret ?_
    have hm146 : Mem [] M w0 [] w70 := hm145.sel [] _ rfl (by kernel_rfl)
    obtain rfl := Option.some.inj H0
    refine ret [] [.bool false] [] hf144 (by kernel_rfl) trivial ?_
    exact ⟨_, rfl, rfl, hm146⟩
  obtain ⟨r81, hr81, H0⟩ := ob_split H0
  rcases ifb_split H0 with ⟨c82, H0⟩ | ⟨c82, H0⟩
  rotate_left
  · refine inReg ?_
    refine go 11 [.bool true, .bool true, .agg #[.slice A31 r23.1.Shape.length c32, .slice A33 r23.1.Data.length c34]] [1, 25, 26] [(1, .pointer (some ⟨b44, 0, none⟩)), (25, .bool true), (26, .agg #[.slice A31 r23.1.Shape.length c32, .slice A33 r23.1.Data.length c34])] [.is (((r23.2 : Int) == 0) = true), .is ((FloatKind.f64.format.order b69 4607182418800017408 == some .eq) = true), .cell ⟨b44, 0, none⟩ (.slice A31 r23.1.Shape.length c32), .cell ⟨b44, 1, none⟩ (.slice A33 r23.1.Data.length c34)] hf76 (by kernel_rfl) ⟨(eqT c78), (ftEq hb69 (FR.lit (by kernel_rfl) (by kernel_rfl)) c80), (hm77.cell 0 rfl rfl), (hm77.cell 0 rfl rfl), trivial⟩ fun a131 hf132 => ?_
    refine listOf hf132 rfl (by kernel_rfl) (aCall (fid := 25) (args := [.agg #[.slice A31 r23.1.Shape.length c32, .slice A33 r23.1.Data.length c34]]) (d := 27) hf132 (by kernel_rfl) (by kernel_rfl) callable25 (tensor_May.calls _ _ r23.1 A31 r23.1.Shape.length c32 rfl A33 r23.1.Data.length c34 rfl (hm77.give [1, 2] [.sl (Kd.int .i64) A31 c32 r23.1.Shape, .sl Kd.float A33 c34 r23.1.Data] rfl rfl) r81 hr81) ?_)
    rintro _ w133 a134 ⟨rfl, hk136⟩ hf135
    have hm137 := hm77.still hk136.cum.none
    rw [c82] at hf135
    refine go 11 [] [0] [(0, .bool false)] [] hf135 (by kernel_rfl) trivial fun a138 hf139 => ?_
    refine endL rfl ?_
    have hm140 := hm137.sel [] _ rfl (by kernel_rfl)
    refine thenN ?_
    refine wp_ret ?_
    have hm141 : Mem [] M w0 [] w133 := hm140.sel [] _ rfl (by kernel_rfl)
    obtain rfl := Option.some.inj H0
    refine ret [] [.bool false] [] hf139 (by kernel_rfl) trivial ?_
    exact ⟨_, rfl, rfl, hm141⟩
  obtain ⟨r83, hr83, H0⟩ := ob_split H0
  rcases ifb_split H0 with ⟨c84, H0⟩ | ⟨c84, H0⟩
  rotate_left
  · refine inReg ?_
    refine go 11 [.bool true, .bool true, .agg #[.slice A31 r23.1.Shape.length c32, .slice A33 r23.1.Data.length c34]] [1, 25, 26] [(1, .pointer (some ⟨b44, 0, none⟩)), (25, .bool true), (26, .agg #[.slice A31 r23.1.Shape.length c32, .slice A33 r23.1.Data.length c34])] [.is (((r23.2 : Int) == 0) = true), .is ((FloatKind.f64.format.order b69 4607182418800017408 == some .eq) = true), .cell ⟨b44, 0, none⟩ (.slice A31 r23.1.Shape.length c32), .cell ⟨b44, 1, none⟩ (.slice A33 r23.1.Data.length c34)] hf76 (by kernel_rfl) ⟨(eqT c78), (ftEq hb69 (FR.lit (by kernel_rfl) (by kernel_rfl)) c80), (hm77.cell 0 rfl rfl), (hm77.cell 0 rfl rfl), trivial⟩ fun a112 hf113 => ?_
    refine listOf hf113 rfl (by kernel_rfl) (aCall (fid := 25) (args := [.agg #[.slice A31 r23.1.Shape.length c32, .slice A33 r23.1.Data.length c34]]) (d := 27) hf113 (by kernel_rfl) (by kernel_rfl) callable25 (tensor_May.calls _ _ r23.1 A31 r23.1.Shape.length c32 rfl A33 r23.1.Data.length c34 rfl (hm77.give [1, 2] [.sl (Kd.int .i64) A31 c32 r23.1.Shape, .sl Kd.float A33 c34 r23.1.Data] rfl rfl) r81 hr81) ?_)
    rintro _ w114 a115 ⟨rfl, hk117⟩ hf116
    have hm118 := hm77.still hk117.cum.none
    rw [c82] at hf116
    refine go 3 [.agg #[.slice A31 r23.1.Shape.length c32, .slice A33 r23.1.Data.length c34]] [1, 29, 30] [(1, .pointer (some ⟨b44, 0, none⟩)), (29, .bool true), (30, .agg #[.slice A31 r23.1.Shape.length c32, .slice A33 r23.1.Data.length c34])] [.cell ⟨b44, 0, none⟩ (.slice A31 r23.1.Shape.length c32), .cell ⟨b44, 1, none⟩ (.slice A33 r23.1.Data.length c34)] hf116 (by kernel_rfl) ⟨(hm118.cell 0 rfl rfl), (hm118.cell 0 rfl rfl), trivial⟩ fun a119 hf120 => ?_
    refine listOf hf120 rfl (by kernel_rfl) (aCall (fid := 26) (args := [.agg #[.slice A31 r23.1.Shape.length c32, .slice A33 r23.1.Data.length c34]]) (d := 31) hf120 (by kernel_rfl) (by kernel_rfl) callable26 (tensor_Finite.calls _ _ r23.1 A31 r23.1.Shape.length c32 rfl A33 r23.1.Data.length c34 rfl (hm118.give [1, 2] [.sl (Kd.int .i64) A31 c32 r23.1.Shape, .sl Kd.float A33 c34 r23.1.Data] rfl rfl) r83 hr83) ?_)
    rintro _ w121 a122 ⟨rfl, hk124⟩ hf123
    have hm125 := hm118.still hk124.cum.none
    rw [c84] at hf123
    refine go 7 [] [0] [(0, .bool false)] [] hf123 (by kernel_rfl) trivial fun a126 hf127 => ?_
    refine endL rfl ?_
    have hm128 := hm125.sel [] _ rfl (by kernel_rfl)
    refine thenN ?_
    refine wp_ret ?_
    have hm129 : Mem [] M w0 [] w121 := hm128.sel [] _ rfl (by kernel_rfl)
    obtain rfl := Option.some.inj H0
    refine ret [] [.bool false] [] hf127 (by kernel_rfl) trivial ?_
    exact ⟨_, rfl, rfl, hm129⟩
  obtain ⟨r85, hr85, H0⟩ := ob_split H0
  refine inReg ?_
  refine go 11 [.bool true, .bool true, .agg #[.slice A31 r23.1.Shape.length c32, .slice A33 r23.1.Data.length c34]] [1, 25, 26] [(1, .pointer (some ⟨b44, 0, none⟩)), (25, .bool true), (26, .agg #[.slice A31 r23.1.Shape.length c32, .slice A33 r23.1.Data.length c34])] [.is (((r23.2 : Int) == 0) = true), .is ((FloatKind.f64.format.order b69 4607182418800017408 == some .eq) = true), .cell ⟨b44, 0, none⟩ (.slice A31 r23.1.Shape.length c32), .cell ⟨b44, 1, none⟩ (.slice A33 r23.1.Data.length c34)] hf76 (by kernel_rfl) ⟨(eqT c78), (ftEq hb69 (FR.lit (by kernel_rfl) (by kernel_rfl)) c80), (hm77.cell 0 rfl rfl), (hm77.cell 0 rfl rfl), trivial⟩ fun a86 hf87 => ?_
  refine listOf hf87 rfl (by kernel_rfl) (aCall (fid := 25) (args := [.agg #[.slice A31 r23.1.Shape.length c32, .slice A33 r23.1.Data.length c34]]) (d := 27) hf87 (by kernel_rfl) (by kernel_rfl) callable25 (tensor_May.calls _ _ r23.1 A31 r23.1.Shape.length c32 rfl A33 r23.1.Data.length c34 rfl (hm77.give [1, 2] [.sl (Kd.int .i64) A31 c32 r23.1.Shape, .sl Kd.float A33 c34 r23.1.Data] rfl rfl) r81 hr81) ?_)
  rintro _ w88 a89 ⟨rfl, hk91⟩ hf90
  have hm92 := hm77.still hk91.cum.none
  rw [c82] at hf90
  refine go 3 [.agg #[.slice A31 r23.1.Shape.length c32, .slice A33 r23.1.Data.length c34]] [1, 29, 30] [(1, .pointer (some ⟨b44, 0, none⟩)), (29, .bool true), (30, .agg #[.slice A31 r23.1.Shape.length c32, .slice A33 r23.1.Data.length c34])] [.cell ⟨b44, 0, none⟩ (.slice A31 r23.1.Shape.length c32), .cell ⟨b44, 1, none⟩ (.slice A33 r23.1.Data.length c34)] hf90 (by kernel_rfl) ⟨(hm92.cell 0 rfl rfl), (hm92.cell 0 rfl rfl), trivial⟩ fun a93 hf94 => ?_
  refine listOf hf94 rfl (by kernel_rfl) (aCall (fid := 26) (args := [.agg #[.slice A31 r23.1.Shape.length c32, .slice A33 r23.1.Data.length c34]]) (d := 31) hf94 (by kernel_rfl) (by kernel_rfl) callable26 (tensor_Finite.calls _ _ r23.1 A31 r23.1.Shape.length c32 rfl A33 r23.1.Data.length c34 rfl (hm92.give [1, 2] [.sl (Kd.int .i64) A31 c32 r23.1.Shape, .sl Kd.float A33 c34 r23.1.Data] rfl rfl) r83 hr83) ?_)
  rintro _ w95 a96 ⟨rfl, hk98⟩ hf97
  have hm99 := hm92.still hk98.cum.none
  rw [c84] at hf97
  refine go 4 [.agg #[.slice A31 r23.1.Shape.length c32, .slice A33 r23.1.Data.length c34], .agg #[.slice A31 r23.1.Shape.length c32, .slice A33 r23.1.Data.length c34]] [33, 34, 35] [(33, .bool true), (34, .agg #[.slice A31 r23.1.Shape.length c32, .slice A33 r23.1.Data.length c34]), (35, .agg #[.slice A31 r23.1.Shape.length c32, .slice A33 r23.1.Data.length c34])] [.cell ⟨b44, 0, none⟩ (.slice A31 r23.1.Shape.length c32), .cell ⟨b44, 1, none⟩ (.slice A33 r23.1.Data.length c34), .cell ⟨b44, 0, none⟩ (.slice A31 r23.1.Shape.length c32), .cell ⟨b44, 1, none⟩ (.slice A33 r23.1.Data.length c34)] hf97 (by kernel_rfl) ⟨(hm99.cell 0 rfl rfl), (hm99.cell 0 rfl rfl), (hm99.cell 0 rfl rfl), (hm99.cell 0 rfl rfl), trivial⟩ fun a100 hf101 => ?_
  refine listOf hf101 rfl (by kernel_rfl) (aCall (fid := 27) (args := [.agg #[.slice A31 r23.1.Shape.length c32, .slice A33 r23.1.Data.length c34], .agg #[.slice A31 r23.1.Shape.length c32, .slice A33 r23.1.Data.length c34]]) (d := 36) hf101 (by kernel_rfl) (by kernel_rfl) callable27 (tensor_Same.calls _ _ r23.1 A31 r23.1.Shape.length c32 rfl A33 r23.1.Data.length c34 rfl r23.1 A31 r23.1.Shape.length c32 rfl A33 r23.1.Data.length c34 rfl (hm99.give [1, 2, 1, 2] [.sl (Kd.int .i64) A31 c32 r23.1.Shape, .sl Kd.float A33 c34 r23.1.Data, .sl (Kd.int .i64) A31 c32 r23.1.Shape, .sl Kd.float A33 c34 r23.1.Data] rfl rfl) r85 hr85) ?_)
  rintro _ w102 a103 ⟨rfl, hk105⟩ hf104
  have hm106 := hm99.still hk105.cum.none
  refine go 2 [] [0] [(0, .bool r85)] [] hf104 (by kernel_rfl) trivial fun a107 hf108 => ?_
  refine endL rfl ?_
  have hm109 := hm106.sel [] _ rfl (by kernel_rfl)
  refine thenN ?_
  refine wp_ret ?_
  have hm110 : Mem [] M w0 [] w102 := hm109.sel [] _ rfl (by kernel_rfl)
  obtain rfl := Option.some.inj H0
  refine ret [] [.bool r85] [] hf108 (by kernel_rfl) trivial ?_
  exact ⟨_, rfl, rfl, hm110⟩

/-! ### backstitch/backstitchlaw3.Small -/
noncomputable def law3_Small.f (x0 : Tensor) : Option Bool :=
  if (x0.Shape.length : Int) ≤ 40 then (if (x0.Data.length : Int) ≤ 8192 then (some true)
  else (some false))
  else (some false)
set_option maxRecDepth 100000 in
set_option maxHeartbeats 4000000 in
theorem law3_Small.calls (M : List (Option Nat)) (w0 : World) (x0 : Tensor) (A0_0 : Option Addr) (n0_0 c0_0 : Nat) (e0_0 : n0_0 = x0.Shape.length) (A0_1 : Option Addr) (n0_1 c0_1 : Nat) (e0_1 : n0_1 = x0.Data.length) (hm0 : Mem [] M w0 [.sl (Kd.int .i64) A0_0 c0_0 x0.Shape, .sl Kd.float A0_1 c0_1 x0.Data] w0) (r : Bool) (H0 : law3_Small.f x0 = some r) :
    Calls Try.prog 7 [.agg #[.slice A0_0 n0_0 c0_0, .slice A0_1 n0_1 c0_1]].toArray w0 (fun x w' => ∃ v, x = .returned v ∧ v = .bool r ∧ Mem [] M w0 [] w') := by
  subst e0_0
  subst e0_1
  unfold law3_Small.f at H0
  refine enter (n := 13) Try.func7 rfl rfl (by kernel_rfl) fun a0 (hf0 : Fr 13 a0 [(0, .agg #[.slice A0_0 x0.Shape.length c0_0, .slice A0_1 x0.Data.length c0_1])]) => ?_
  refine wp_seq ?_
  refine inReg ?_
  refine listOf hf0 rfl (by kernel_rfl) (aNew (cs := [.slice A0_0 x0.Shape.length c0_0, .slice A0_1 x0.Data.length c0_1]) (T := 25) (d := 1) hf0 (by kernel_rfl) (by kernel_rfl) ?_)
  intro b21 w22 a23 hbb21 hx25 hg26 hf24
  have hm27 := hm0.box hbb21 hx25 hg26
  refine go 1 [] [1] [(1, .pointer (some ⟨b21, 0, none⟩))] [] hf24 (by kernel_rfl) trivial fun a28 hf29 => ?_
  refine endL rfl ?_
  refine thenN ?_
  refine wp_seq ?_
  rcases if_split H0 with ⟨c30, H0⟩ | ⟨c30, H0⟩
  rotate_left
  · refine reg [.slice A0_0 x0.Shape.length c0_0, .bool false] [2] [(2, .bool false)] [.cell ⟨b21, 0, none⟩ (.slice A0_0 x0.Shape.length c0_0), .is (decide ((x0.Shape.length : Int) ≤ 40) = false)] hf29 (by kernel_rfl) ⟨(hm27.cell 0 rfl rfl), (decide_eq_false c30), trivial⟩ fun a42 hf43 => ?_
    have hm44 := hm27.sel [] _ rfl (by kernel_rfl)
    refine thenN ?_
    refine wp_ret ?_
    have hm45 : Mem [] M w0 [] w22 := hm44.sel [] _ rfl (by kernel_rfl)
    obtain rfl := Option.some.inj H0
    refine ret [] [.bool false] [] hf43 (by kernel_rfl) trivial ?_
    exact ⟨_, rfl, rfl, hm45⟩
  rcases if_split H0 with ⟨c31, H0⟩ | ⟨c31, H0⟩
  · refine reg [.slice A0_0 x0.Shape.length c0_0, .bool true, .slice A0_1 x0.Data.length c0_1, .bool true] [2] [(2, .bool true)] [.cell ⟨b21, 0, none⟩ (.slice A0_0 x0.Shape.length c0_0), .is (decide ((x0.Shape.length : Int) ≤ 40) = true), .cell ⟨b21, 1, none⟩ (.slice A0_1 x0.Data.length c0_1), .is (decide ((x0.Data.length : Int) ≤ 8192) = true)] hf29 (by kernel_rfl) ⟨(hm27.cell 0 rfl rfl), (decide_eq_true c30), (hm27.cell 0 rfl rfl), (decide_eq_true c31), trivial⟩ fun a32 hf33 => ?_
    have hm34 := hm27.sel [] _ rfl (by kernel_rfl)
    refine thenN ?_
    refine wp_ret ?_
    have hm35 : Mem [] M w0 [] w22 := hm34.sel [] _ rfl (by kernel_rfl)
    obtain rfl := Option.some.inj H0
    refine ret [] [.bool true] [] hf33 (by kernel_rfl) trivial ?_
    exact ⟨_, rfl, rfl, hm35⟩
  refine reg [.slice A0_0 x0.Shape.length c0_0, .bool true, .slice A0_1 x0.Data.length c0_1, .bool false] [2] [(2, .bool false)] [.cell ⟨b21, 0, none⟩ (.slice A0_0 x0.Shape.length c0_0), .is (decide ((x0.Shape.length : Int) ≤ 40) = true), .cell ⟨b21, 1, none⟩ (.slice A0_1 x0.Data.length c0_1), .is (decide ((x0.Data.length : Int) ≤ 8192) = false)] hf29 (by kernel_rfl) ⟨(hm27.cell 0 rfl rfl), (decide_eq_true c30), (hm27.cell 0 rfl rfl), (decide_eq_false c31), trivial⟩ fun a37 hf38 => ?_
  have hm39 := hm27.sel [] _ rfl (by kernel_rfl)
  refine thenN ?_
  refine wp_ret ?_
  have hm40 : Mem [] M w0 [] w22 := hm39.sel [] _ rfl (by kernel_rfl)
  obtain rfl := Option.some.inj H0
  refine ret [] [.bool false] [] hf38 (by kernel_rfl) trivial ?_
  exact ⟨_, rfl, rfl, hm40⟩

/-! ### backstitch/backstitchref1.Size -/
noncomputable def ref1_Size.l0 (x0 : (List Int)) (s35 : Int) : Step Int (Out2 Int (Int × Int)) :=
  if s35 < (x0.length : Int) then (if 0 ≤ s35 ∧ s35 < (x0.length : Int) then (if (rd x0 s35) < 1 then (.done (.ret (0, 2)))
  else (.next (w64 (s35 + 1))))
  else .bad)
  else (.done (.go s35))
noncomputable def ref1_Size.l1 (x0 : (List Int)) (s71 : (Int × Int)) : Step (Int × Int) (Out2 (Int × Int) (Int × Int)) :=
  if s71.2 < (x0.length : Int) then (if 0 ≤ s71.2 ∧ s71.2 < (x0.length : Int) then (if s71.1 ≠ 0 then (if (w64 (Int.tdiv 4096 s71.1)) < (rd x0 s71.2) then (.done (.ret (0, 3)))
  else (.next ((w64 (s71.1 * (rd x0 s71.2))), (w64 (s71.2 + 1)))))
  else .bad)
  else .bad)
  else (.done (.go (s71.1, s71.2)))
noncomputable def ref1_Size.f (x0 : (List Int)) : Option (Int × Int) :=
  if 4 < (x0.length : Int) then (some (0, 2))
  else ((loop (ref1_Size.l0 x0) 0).bind fun r36 =>
  r36.on (fun yr36 =>
  (loop (ref1_Size.l1 x0) (1, 0)).bind fun r72 =>
  r72.on (fun yr72 =>
  some (yr72.1, 0)) (fun y => some y)) (fun y => some y))
set_option maxRecDepth 100000 in
set_option maxHeartbeats 4000000 in
theorem ref1_Size.calls (M : List (Option Nat)) (w0 : World) (x0 : (List Int)) (A0 : Option Addr) (n0 c0 : Nat) (e0 : n0 = x0.length) (hm0 : Mem [] M w0 [.sl (Kd.int .i64) A0 c0 x0] w0) (r : (Int × Int)) (H0 : ref1_Size.f x0 = some r) :
    Calls Try.prog 15 [.slice A0 n0 c0].toArray w0 (fun x w' => ∃ v, x = .returned v ∧ v = .tuple #[.int .i64 r.1, .int .i64 r.2] ∧ Mem [] M w0 [] w') := by
  subst e0
  unfold ref1_Size.f at H0
  refine enter (n := 41) Try.func15 rfl rfl (by kernel_rfl) fun a0 (hf0 : Fr 41 a0 [(0, .slice A0 x0.length c0)]) => ?_
  refine wp_seq ?_
  refine reg [] [0] [(0, .slice A0 x0.length c0)] [] hf0 (by kernel_rfl) trivial fun a21 hf22 => ?_
  refine thenN ?_
  refine wp_seq ?_
  refine wp_seq ?_
  rcases if_split H0 with ⟨c23, H0⟩ | ⟨c23, H0⟩
  · refine reg [.bool true] [0, 9] [(0, .slice A0 x0.length c0), (9, .bool true)] [.is (decide (4 < (x0.length : Int)) = true)] hf22 (by kernel_rfl) ⟨(decide_eq_true c23), trivial⟩ fun a24 hf25 => ?_
    refine thenN ?_
    refine condT hf25 (by kernel_rfl) ?_
    refine wp_seq ?_
    refine reg [] [2, 3] [(2, .int .i64 0), (3, .int .i64 2)] [] hf25 (by kernel_rfl) trivial fun a26 hf27 => ?_
    have hm28 := hm0.sel [] _ rfl (by kernel_rfl)
    refine thenN ?_
    refine wp_ret ?_
    refine thenR ?_
    have hm29 : Mem [] M w0 [] w0 := hm28.sel [] _ rfl (by kernel_rfl)
    obtain rfl := Option.some.inj H0
    refine ret [] [.int .i64 0, .int .i64 2] [] hf27 (by kernel_rfl) trivial ?_
    exact ⟨_, rfl, rfl, hm29⟩
  refine reg [.bool false] [0, 9] [(0, .slice A0 x0.length c0), (9, .bool false)] [.is (decide (4 < (x0.length : Int)) = false)] hf22 (by kernel_rfl) ⟨(decide_eq_false c23), trivial⟩ fun a31 hf32 => ?_
  refine thenN ?_
  refine condF hf32 (by kernel_rfl) ?_
  refine wp_skip ?_
  refine thenN ?_
  refine wp_seq ?_
  refine wp_seq ?_
  refine reg [] [0, 4] [(0, .slice A0 x0.length c0), (4, .int .i64 0)] [] hf32 (by kernel_rfl) trivial fun a33 hf34 => ?_
  refine thenN ?_
  obtain ⟨r36, hr36, H0⟩ := ob_split H0
  refine wpBlock (Mid := fun (a : Act) (w : World) => ∃ yr36 : Int, r36 = .go yr36 ∧ Fr 41 a [(0, .slice A0 x0.length c0), (4, .int .i64 yr36)] ∧ Mem [] M w0 [.sl (Kd.int .i64) A0 c0 x0] w) ?_ ?_
  · refine wpLoop (ref1_Size.l0 x0) r36 (fun (s35 : Int) (a : Act) (w : World) => Fr 41 a [(0, .slice A0 x0.length c0), (4, .int .i64 s35)] ∧ Mem [] M w0 [.sl (Kd.int .i64) A0 c0 x0] w) 0 hr36 ⟨hf34.sel (l := [0, 4]) (by kernel_rfl), hm0.sel [0] _ rfl (by kernel_rfl)⟩ ?_
    rintro g37 s35 a38 w39 H1 ⟨hf40, hm41⟩
    unfold ref1_Size.l0 at H1
    refine wp_seq ?_
    refine wp_seq ?_
    rcases ifS_split H1 with ⟨c42, H1⟩ | ⟨c42, H1⟩
    rotate_left
    · refine reg [.bool false] [0, 4, 13] [(0, .slice A0 x0.length c0), (4, .int .i64 s35), (13, .bool false)] [.is (decide (s35 < (x0.length : Int)) = false)] hf40 (by kernel_rfl) ⟨(decide_eq_false c42), trivial⟩ fun a60 hf61 => ?_
      refine thenN ?_
      refine condF hf61 (by kernel_rfl) ?_
      refine wp_exit ?_
      refine thenE ?_
      refine thenE ?_
      obtain rfl := Option.some.inj H1
      exact .inl ⟨rfl, s35, rfl, hf61.sel (l := [0, 4]) (by kernel_rfl), hm41.sel [0] _ rfl (by kernel_rfl)⟩
    refine reg [.bool true] [0, 4, 13] [(0, .slice A0 x0.length c0), (4, .int .i64 s35), (13, .bool true)] [.is (decide (s35 < (x0.length : Int)) = true)] hf40 (by kernel_rfl) ⟨(decide_eq_true c42), trivial⟩ fun a43 hf44 => ?_
    refine thenN ?_
    refine condT hf44 (by kernel_rfl) ?_
    refine wp_skip ?_
    refine thenN ?_
    refine wp_seq ?_
    refine wp_block ?_
    refine wp_seq ?_
    obtain ⟨g45, H1⟩ := ifS_guard H1
    rcases ifS_split H1 with ⟨c46, H1⟩ | ⟨c46, H1⟩
    rotate_left
    · have q55 := (hm41.slAt 0 rfl).int s35 g45.1 g45.2
      refine reg [.int .i64 (rd x0 s35), .bool false] [0, 4, 20] [(0, .slice A0 x0.length c0), (4, .int .i64 s35), (20, .bool false)] [.is (Option.isSome A0 = true), .is (0 ≤ s35 ∧ s35 < (x0.length : Int)), .cell ((ad A0).add ((s35).toNat * 1)) (.int .i64 (rd x0 s35)), .is (decide ((rd x0 s35) < 1) = false)] hf44 (by kernel_rfl) ⟨q55.1, g45, q55.2, (decide_eq_false c46), trivial⟩ fun a56 hf57 => ?_
      refine thenN ?_
      refine condF hf57 (by kernel_rfl) ?_
      refine wp_skip ?_
      refine blkN ?_
      refine thenN ?_
      refine reg [] [0, 4] [(0, .slice A0 x0.length c0), (4, .int .i64 (w64 (s35 + 1)))] [] hf57 (by kernel_rfl) trivial fun a58 hf59 => ?_
      exact ⟨(w64 (s35 + 1)), H1, hf59.sel (l := [0, 4]) (by kernel_rfl), hm41.sel [0] _ rfl (by kernel_rfl)⟩
    have q47 := (hm41.slAt 0 rfl).int s35 g45.1 g45.2
    refine reg [.int .i64 (rd x0 s35), .bool true] [0, 4, 20] [(0, .slice A0 x0.length c0), (4, .int .i64 s35), (20, .bool true)] [.is (Option.isSome A0 = true), .is (0 ≤ s35 ∧ s35 < (x0.length : Int)), .cell ((ad A0).add ((s35).toNat * 1)) (.int .i64 (rd x0 s35)), .is (decide ((rd x0 s35) < 1) = true)] hf44 (by kernel_rfl) ⟨q47.1, g45, q47.2, (decide_eq_true c46), trivial⟩ fun a48 hf49 => ?_
    refine thenN ?_
    refine condT hf49 (by kernel_rfl) ?_
    refine wp_seq ?_
    refine reg [] [2, 3] [(2, .int .i64 0), (3, .int .i64 2)] [] hf49 (by kernel_rfl) trivial fun a50 hf51 => ?_
    have hm52 := hm41.sel [] _ rfl (by kernel_rfl)
    refine thenN ?_
    refine wp_ret ?_
    refine blkR ?_
    refine thenR ?_
    refine thenR ?_
    refine .inr ⟨rfl, ?_⟩
    refine thenR ?_
    have hm53 : Mem [] M w0 [] w39 := hm52.sel [] _ rfl (by kernel_rfl)
    obtain rfl := Option.some.inj H1
    obtain rfl := Option.some.inj H0
    refine ret [] [.int .i64 0, .int .i64 2] [] hf51 (by kernel_rfl) trivial ?_
    exact ⟨_, rfl, rfl, hm53⟩
  rintro a62 w63 ⟨yr36, rfl, hf65, hm66⟩
  refine thenN ?_
  refine wp_seq ?_
  refine reg [] [0, 5] [(0, .slice A0 x0.length c0), (5, .int .i64 1)] [] hf65 (by kernel_rfl) trivial fun a67 hf68 => ?_
  refine thenN ?_
  refine wp_seq ?_
  refine wp_seq ?_
  refine reg [] [0, 5, 6] [(0, .slice A0 x0.length c0), (5, .int .i64 1), (6, .int .i64 0)] [] hf68 (by kernel_rfl) trivial fun a69 hf70 => ?_
  refine thenN ?_
  obtain ⟨r72, hr72, H0⟩ := ob_split H0
  refine wpBlock (Mid := fun (a : Act) (w : World) => ∃ yr72 : (Int × Int), r72 = .go yr72 ∧ Fr 41 a [(0, .slice A0 x0.length c0), (5, .int .i64 yr72.1), (6, .int .i64 yr72.2)] ∧ Mem [] M w0 [.sl (Kd.int .i64) A0 c0 x0] w) ?_ ?_
  · refine wpLoop (ref1_Size.l1 x0) r72 (fun (s71 : (Int × Int)) (a : Act) (w : World) => Fr 41 a [(0, .slice A0 x0.length c0), (5, .int .i64 s71.1), (6, .int .i64 s71.2)] ∧ Mem [] M w0 [.sl (Kd.int .i64) A0 c0 x0] w) (1, 0) hr72 ⟨hf70.sel (l := [0, 5, 6]) (by kernel_rfl), hm66.sel [0] _ rfl (by kernel_rfl)⟩ ?_
    rintro g73 s71 a74 w75 H1 ⟨hf76, hm77⟩
    unfold ref1_Size.l1 at H1
    refine wp_seq ?_
    refine wp_seq ?_
    rcases ifS_split H1 with ⟨c78, H1⟩ | ⟨c78, H1⟩
    rotate_left
    · refine reg [.bool false] [0, 5, 6, 24] [(0, .slice A0 x0.length c0), (5, .int .i64 s71.1), (6, .int .i64 s71.2), (24, .bool false)] [.is (decide (s71.2 < (x0.length : Int)) = false)] hf76 (by kernel_rfl) ⟨(decide_eq_false c78), trivial⟩ fun a106 hf107 => ?_
      refine thenN ?_
      refine condF hf107 (by kernel_rfl) ?_
      refine wp_exit ?_
      refine thenE ?_
      refine thenE ?_
      obtain rfl := Option.some.inj H1
      exact .inl ⟨rfl, (s71.1, s71.2), rfl, hf107.sel (l := [0, 5, 6]) (by kernel_rfl), hm77.sel [0] _ rfl (by kernel_rfl)⟩
    refine reg [.bool true] [0, 5, 6, 24] [(0, .slice A0 x0.length c0), (5, .int .i64 s71.1), (6, .int .i64 s71.2), (24, .bool true)] [.is (decide (s71.2 < (x0.length : Int)) = true)] hf76 (by kernel_rfl) ⟨(decide_eq_true c78), trivial⟩ fun a79 hf80 => ?_
    refine thenN ?_
    refine condT hf80 (by kernel_rfl) ?_
    refine wp_skip ?_
    refine thenN ?_
    refine wp_seq ?_
    refine wp_block ?_
    refine wp_seq ?_
    refine wp_seq ?_
    obtain ⟨g81, H1⟩ := ifS_guard H1
    obtain ⟨g82, H1⟩ := ifS_guard H1
    rcases ifS_split H1 with ⟨c83, H1⟩ | ⟨c83, H1⟩
    rotate_left
    · have q95 := (hm77.slAt 0 rfl).int s71.2 g81.1 g81.2
      refine regQ [.int .i64 (rd x0 s71.2), .bool false] [0, 5, 6, 33] [(0, .slice A0 x0.length c0), (5, .int .i64 s71.1), (6, .int .i64 s71.2), (33, .bool false)] [.is (Option.isSome A0 = true), .is (0 ≤ s71.2 ∧ s71.2 < (x0.length : Int)), .cell ((ad A0).add ((s71.2).toNat * 1)) (.int .i64 (rd x0 s71.2)), .is (s71.1 ≠ 0), .is (decide ((w64 (Int.tdiv 4096 s71.1)) < (rd x0 s71.2)) = false)] (by kernel_rfl) (by kernel_rfl) hf80 (by kernel_rfl) ⟨q95.1, g81, q95.2, g82, (decide_eq_false c83), trivial⟩ fun a96 w98 hf97 hg99 => ?_
      have hm100 := hm77.still hg99
      refine thenN ?_
      refine condF hf97 (by kernel_rfl) ?_
      refine wp_skip ?_
      refine thenN ?_
      have q101 := (hm100.slAt 0 rfl).int s71.2 g81.1 g81.2
      refine reg [.int .i64 (rd x0 s71.2)] [0, 5, 6] [(0, .slice A0 x0.length c0), (5, .int .i64 (w64 (s71.1 * (rd x0 s71.2)))), (6, .int .i64 s71.2)] [.is (Option.isSome A0 = true), .is (0 ≤ s71.2 ∧ s71.2 < (x0.length : Int)), .cell ((ad A0).add ((s71.2).toNat * 1)) (.int .i64 (rd x0 s71.2))] hf97 (by kernel_rfl) ⟨q101.1, g81, q101.2, trivial⟩ fun a102 hf103 => ?_
      refine blkN ?_
      refine thenN ?_
      refine reg [] [0, 5, 6] [(0, .slice A0 x0.length c0), (5, .int .i64 (w64 (s71.1 * (rd x0 s71.2)))), (6, .int .i64 (w64 (s71.2 + 1)))] [] hf103 (by kernel_rfl) trivial fun a104 hf105 => ?_
      exact ⟨((w64 (s71.1 * (rd x0 s71.2))), (w64 (s71.2 + 1))), H1, hf105.sel (l := [0, 5, 6]) (by kernel_rfl), hm100.sel [0] _ rfl (by kernel_rfl)⟩
    have q84 := (hm77.slAt 0 rfl).int s71.2 g81.1 g81.2
    refine regQ [.int .i64 (rd x0 s71.2), .bool true] [0, 5, 6, 33] [(0, .slice A0 x0.length c0), (5, .int .i64 s71.1), (6, .int .i64 s71.2), (33, .bool true)] [.is (Option.isSome A0 = true), .is (0 ≤ s71.2 ∧ s71.2 < (x0.length : Int)), .cell ((ad A0).add ((s71.2).toNat * 1)) (.int .i64 (rd x0 s71.2)), .is (s71.1 ≠ 0), .is (decide ((w64 (Int.tdiv 4096 s71.1)) < (rd x0 s71.2)) = true)] (by kernel_rfl) (by kernel_rfl) hf80 (by kernel_rfl) ⟨q84.1, g81, q84.2, g82, (decide_eq_true c83), trivial⟩ fun a85 w87 hf86 hg88 => ?_
    have hm89 := hm77.still hg88
    refine thenN ?_
    refine condT hf86 (by kernel_rfl) ?_
    refine wp_seq ?_
    refine reg [] [2, 3] [(2, .int .i64 0), (3, .int .i64 3)] [] hf86 (by kernel_rfl) trivial fun a90 hf91 => ?_
    have hm92 := hm89.sel [] _ rfl (by kernel_rfl)
    refine thenN ?_
    refine wp_ret ?_
    refine thenR ?_
    refine blkR ?_
    refine thenR ?_
    refine thenR ?_
    refine .inr ⟨rfl, ?_⟩
    refine thenR ?_
    have hm93 : Mem [] M w0 [] w87 := hm92.sel [] _ rfl (by kernel_rfl)
    obtain rfl := Option.some.inj H1
    obtain rfl := Option.some.inj H0
    refine ret [] [.int .i64 0, .int .i64 3] [] hf91 (by kernel_rfl) trivial ?_
    exact ⟨_, rfl, rfl, hm93⟩
  rintro a108 w109 ⟨yr72, rfl, hf110, hm111⟩
  refine thenN ?_
  refine wp_seq ?_
  refine reg [] [2, 3] [(2, .int .i64 yr72.1), (3, .int .i64 0)] [] hf110 (by kernel_rfl) trivial fun a112 hf113 => ?_
  have hm114 := hm111.sel [] _ rfl (by kernel_rfl)
  refine thenN ?_
  refine wp_ret ?_
  have hm115 : Mem [] M w0 [] w109 := hm114.sel [] _ rfl (by kernel_rfl)
  obtain rfl := Option.some.inj H0
  refine ret [] [.int .i64 yr72.1, .int .i64 0] [] hf113 (by kernel_rfl) trivial ?_
  exact ⟨_, rfl, rfl, hm115⟩

/-! ### backstitch/backstitchref1.TensorMay -/
noncomputable def ref1_TensorMay.f (x0 : Tensor) : Option Bool :=
  (ref1_Size.f x0.Shape).bind fun r30 =>
  if r30.2 = 0 then (if r30.1 = (x0.Data.length : Int) then (some true)
  else (some false))
  else (some false)
set_option maxRecDepth 100000 in
set_option maxHeartbeats 4000000 in
theorem ref1_TensorMay.calls (M : List (Option Nat)) (w0 : World) (x0 : Tensor) (A0_0 : Option Addr) (n0_0 c0_0 : Nat) (e0_0 : n0_0 = x0.Shape.length) (A0_1 : Option Addr) (n0_1 c0_1 : Nat) (e0_1 : n0_1 = x0.Data.length) (hm0 : Mem [] M w0 [.sl (Kd.int .i64) A0_0 c0_0 x0.Shape, .sl Kd.float A0_1 c0_1 x0.Data] w0) (r : Bool) (H0 : ref1_TensorMay.f x0 = some r) :
    Calls Try.prog 8 [.agg #[.slice A0_0 n0_0 c0_0, .slice A0_1 n0_1 c0_1]].toArray w0 (fun x w' => ∃ v, x = .returned v ∧ v = .bool r ∧ Mem [] M w0 [] w') := by
  subst e0_0
  subst e0_1
  unfold ref1_TensorMay.f at H0
  refine enter (n := 20) Try.func8 rfl rfl (by kernel_rfl) fun a0 (hf0 : Fr 20 a0 [(0, .agg #[.slice A0_0 x0.Shape.length c0_0, .slice A0_1 x0.Data.length c0_1])]) => ?_
  refine wp_seq ?_
  refine inReg ?_
  refine listOf hf0 rfl (by kernel_rfl) (aNew (cs := [.slice A0_0 x0.Shape.length c0_0, .slice A0_1 x0.Data.length c0_1]) (T := 25) (d := 1) hf0 (by kernel_rfl) (by kernel_rfl) ?_)
  intro b21 w22 a23 hbb21 hx25 hg26 hf24
  have hm27 := hm0.box hbb21 hx25 hg26
  refine go 1 [] [1] [(1, .pointer (some ⟨b21, 0, none⟩))] [] hf24 (by kernel_rfl) trivial fun a28 hf29 => ?_
  refine endL rfl ?_
  refine thenN ?_
  refine wp_seq ?_
  obtain ⟨r30, hr30, H0⟩ := ob_split H0
  refine inReg ?_
  refine go 2 [.slice A0_0 x0.Shape.length c0_0] [1, 7] [(1, .pointer (some ⟨b21, 0, none⟩)), (7, .slice A0_0 x0.Shape.length c0_0)] [.cell ⟨b21, 0, none⟩ (.slice A0_0 x0.Shape.length c0_0)] hf29 (by kernel_rfl) ⟨(hm27.cell 0 rfl rfl), trivial⟩ fun a31 hf32 => ?_
  refine listOf hf32 rfl (by kernel_rfl) (aCall (fid := 15) (args := [.slice A0_0 x0.Shape.length c0_0]) (d := 8) hf32 (by kernel_rfl) (by kernel_rfl) callable15 (ref1_Size.calls _ _ x0.Shape A0_0 x0.Shape.length c0_0 rfl (hm27.give [1] [.sl (Kd.int .i64) A0_0 c0_0 x0.Shape] rfl rfl) r30 hr30) ?_)
  rintro _ w33 a34 ⟨rfl, hk36⟩ hf35
  have hm37 := hm27.still hk36.cum.none
  refine go 5 [] [1, 3, 4] [(1, .pointer (some ⟨b21, 0, none⟩)), (3, .int .i64 r30.1), (4, .int .i64 r30.2)] [] hf35 (by kernel_rfl) trivial fun a38 hf39 => ?_
  refine endL rfl ?_
  refine thenN ?_
  refine wp_seq ?_
  rcases if_split H0 with ⟨c40, H0⟩ | ⟨c40, H0⟩
  rotate_left
  · refine reg [.bool false] [2] [(2, .bool false)] [.is (((r30.2 : Int) == 0) = false)] hf39 (by kernel_rfl) ⟨(eqF c40), trivial⟩ fun a52 hf53 => ?_
    have hm54 := hm37.sel [] _ rfl (by kernel_rfl)
    refine thenN ?_
    refine wp_ret ?_
    have hm55 : Mem [] M w0 [] w33 := hm54.sel [] _ rfl (by kernel_rfl)
    obtain rfl := Option.some.inj H0
    refine ret [] [.bool false] [] hf53 (by kernel_rfl) trivial ?_
    exact ⟨_, rfl, rfl, hm55⟩
  rcases if_split H0 with ⟨c41, H0⟩ | ⟨c41, H0⟩
  · refine reg [.bool true, .slice A0_1 x0.Data.length c0_1, .bool true] [2] [(2, .bool true)] [.is (((r30.2 : Int) == 0) = true), .cell ⟨b21, 1, none⟩ (.slice A0_1 x0.Data.length c0_1), .is (((r30.1 : Int) == (x0.Data.length : Int)) = true)] hf39 (by kernel_rfl) ⟨(eqT c40), (hm37.cell 0 rfl rfl), (eqT c41), trivial⟩ fun a42 hf43 => ?_
    have hm44 := hm37.sel [] _ rfl (by kernel_rfl)
    refine thenN ?_
    refine wp_ret ?_
    have hm45 : Mem [] M w0 [] w33 := hm44.sel [] _ rfl (by kernel_rfl)
    obtain rfl := Option.some.inj H0
    refine ret [] [.bool true] [] hf43 (by kernel_rfl) trivial ?_
    exact ⟨_, rfl, rfl, hm45⟩
  refine reg [.bool true, .slice A0_1 x0.Data.length c0_1, .bool false] [2] [(2, .bool false)] [.is (((r30.2 : Int) == 0) = true), .cell ⟨b21, 1, none⟩ (.slice A0_1 x0.Data.length c0_1), .is (((r30.1 : Int) == (x0.Data.length : Int)) = false)] hf39 (by kernel_rfl) ⟨(eqT c40), (hm37.cell 0 rfl rfl), (eqF c41), trivial⟩ fun a47 hf48 => ?_
  have hm49 := hm37.sel [] _ rfl (by kernel_rfl)
  refine thenN ?_
  refine wp_ret ?_
  have hm50 : Mem [] M w0 [] w33 := hm49.sel [] _ rfl (by kernel_rfl)
  obtain rfl := Option.some.inj H0
  refine ret [] [.bool false] [] hf48 (by kernel_rfl) trivial ?_
  exact ⟨_, rfl, rfl, hm50⟩

/-! ### slices.Clone[[]float64,float64] -/
noncomputable def slices_Clone_float64.f (x0 : (List Nat)) : Option (List Nat) :=
  if 0 + x0.length ≤ 549755813888 then (some (([] : List Nat) ++ x0))
  else none
set_option maxRecDepth 100000 in
set_option maxHeartbeats 4000000 in
theorem slices_Clone_float64.calls (M : List (Option Nat)) (w0 : World) (x0 : (List Nat)) (A0 : Option Addr) (n0 c0 : Nat) (e0 : n0 = x0.length) (hm0 : Mem [] M w0 [.sl Kd.float A0 c0 x0] w0) (r : (List Nat)) (H0 : slices_Clone_float64.f x0 = some r) :
    Calls Try.prog 51 [.slice A0 n0 c0].toArray w0 (fun x w' => ∃ v, x = .returned v ∧ ∃ Ar0 cr0, v = .slice Ar0 r.length cr0 ∧ Mem [] M w0 [.ow Kd.float 26 Ar0 cr0 r] w') := by
  subst e0
  unfold slices_Clone_float64.f at H0
  refine enter (n := 8) Try.func51 rfl rfl (by kernel_rfl) fun a0 (hf0 : Fr 8 a0 [(0, .slice A0 x0.length c0)]) => ?_
  refine wp_seq ?_
  refine reg [] [0] [(0, .slice A0 x0.length c0)] [] hf0 (by kernel_rfl) trivial fun a21 hf22 => ?_
  refine thenN ?_
  refine wp_seq ?_
  refine wp_seq ?_
  rcases A0 with _ | p23
  · obtain rfl := Sl.none (hm0.slAt 0 rfl)
    refine reg [] [0, 4] [(0, .slice none (([] : (List Nat)).length) c0), (4, .bool true)] [] hf22 (by kernel_rfl) trivial fun a24 hf25 => ?_
    refine thenN ?_
    refine condT hf25 (by kernel_rfl) ?_
    refine wp_seq ?_
    refine reg [] [2] [(2, .slice none 0 0)] [] hf25 (by kernel_rfl) trivial fun a26 hf27 => ?_
    have hm28 := hm0.sel [] _ rfl (by kernel_rfl)
    refine thenN ?_
    refine wp_ret ?_
    refine thenR ?_
    have hm29 := hm28.nilOw Kd.float 26
    have hm30 : Mem [] M w0 [.ow Kd.float 26 none 0 ([] : (List Nat))] w0 := hm29.sel [0] _ rfl (by kernel_rfl)
    replace H0 : some ([] : (List Nat)) = some r := by rw [← H0]; simp
    obtain rfl := Option.some.inj H0
    refine ret [] [.slice none 0 0] [] hf27 (by kernel_rfl) trivial ?_
    exact ⟨_, rfl, none, 0, rfl, hm30⟩
  · refine reg [] [0, 4] [(0, .slice (some p23) x0.length c0), (4, .bool false)] [] hf22 (by kernel_rfl) trivial fun a32 hf33 => ?_
    refine thenN ?_
    refine condF hf33 (by kernel_rfl) ?_
    refine wp_skip ?_
    refine thenN ?_
    refine wp_seq ?_
    obtain ⟨g34, H0⟩ := if_guard H0
    refine inReg ?_
    refine listOf hf33 rfl (by kernel_rfl) (aLit (cs := []) (E := 26) (len := 0) (d := 5) hf33 (by kernel_rfl) (by kernel_rfl) ?_)
    intro b35 w36 a37 hbb35 hx39 hg40 hf38
    have hm41 : Mem [] M w0 [.ow Kd.float 26 (some ⟨b35, 0, none⟩) 0 ([] : List Nat), .sl Kd.float (some p23) c0 x0] w36 := Mem.litOwn (kd := Kd.float) (xs := ([] : List Nat)) hm0 hbb35 hx39 hg40 (Els.nil) (by simp [maxLen])
    refine go 1 [] [5, 6] [(5, .slice (some ⟨b35, 0, none⟩) 0 0), (6, .slice (some p23) x0.length c0)] [] hf38 (by kernel_rfl) trivial fun a42 hf43 => ?_
    have e52 : 0 = ([] : List Nat).length := rfl
    have e53 : x0.length = x0.length := rfl
    refine listOf hf43 rfl (by kernel_rfl) (aApp (kd := Kd.float) (base := 0) (E := 26) (A := (some ⟨b35, 0, none⟩)) (B := (some p23)) (c := 0) (c2 := c0) (xs := ([] : List Nat)) (ys := x0) (k := 0) (m := x0.length) (sz := 1) (d := 7) hf43 (by kernel_rfl) e52 e53 (by kernel_rfl) rfl (by kernel_rfl) (hm41.at 0 rfl) (hm41.at2 0 1 rfl rfl).2 (hm41.cpAt 1 rfl) (Nat.zero_le _) (by have := g34; omega) ?_)
    intro A44 c45 w46 a47 ho49 hg50 hr51 hf48
    have hm54 := hm41.setOwn 0 _ rfl rfl ho49 hg50 hr51
    refine go 1 [] [2] [(2, .slice A44 ((([] : List Nat) ++ x0).length) c45)] [] hf48 (by kernel_rfl) trivial fun a55 hf56 => ?_
    refine endL rfl ?_
    have hm57 := hm54.sel [0] _ rfl (by kernel_rfl)
    refine thenN ?_
    refine wp_ret ?_
    have hm58 : Mem [] M w0 [.ow Kd.float 26 A44 c45 (([] : List Nat) ++ x0)] w46 := hm57.sel [0] _ rfl (by kernel_rfl)
    obtain rfl := Option.some.inj H0
    refine ret [] [.slice A44 ((([] : List Nat) ++ x0).length) c45] [] hf56 (by kernel_rfl) trivial ?_
    exact ⟨_, rfl, A44, c45, rfl, hm58⟩

/-! ### backstitch/tensor.Copy -/
noncomputable def tensor_Copy.f (x0 : Tensor) : Option Tensor :=
  (slices_Clone_int.f x0.Shape).bind fun r35 =>
  (slices_Clone_float64.f x0.Data).bind fun r36 =>
  some (⟨r35, r36⟩ : Tensor)
set_option maxRecDepth 100000 in
set_option maxHeartbeats 4000000 in
theorem tensor_Copy.calls (M : List (Option Nat)) (w0 : World) (x0 : Tensor) (A0_0 : Option Addr) (n0_0 c0_0 : Nat) (e0_0 : n0_0 = x0.Shape.length) (A0_1 : Option Addr) (n0_1 c0_1 : Nat) (e0_1 : n0_1 = x0.Data.length) (hm0 : Mem [] M w0 [.sl (Kd.int .i64) A0_0 c0_0 x0.Shape, .sl Kd.float A0_1 c0_1 x0.Data] w0) (r : Tensor) (H0 : tensor_Copy.f x0 = some r) :
    Calls Try.prog 28 [.agg #[.slice A0_0 n0_0 c0_0, .slice A0_1 n0_1 c0_1]].toArray w0 (fun x w' => ∃ v, x = .returned v ∧ ∃ Ar0_0 cr0_0 Ar0_1 cr0_1, v = .agg #[.slice Ar0_0 r.Shape.length cr0_0, .slice Ar0_1 r.Data.length cr0_1] ∧ Mem [] M w0 [.ow (Kd.int .i64) 3 Ar0_0 cr0_0 r.Shape, .ow Kd.float 26 Ar0_1 cr0_1 r.Data] w') := by
  subst e0_0
  subst e0_1
  unfold tensor_Copy.f at H0
  refine enter (n := 10) Try.func28 rfl rfl (by kernel_rfl) fun a0 (hf0 : Fr 10 a0 [(0, .agg #[.slice A0_0 x0.Shape.length c0_0, .slice A0_1 x0.Data.length c0_1])]) => ?_
  refine wp_seq ?_
  refine inReg ?_
  refine listOf hf0 rfl (by kernel_rfl) (aNew (cs := [.slice A0_0 x0.Shape.length c0_0, .slice A0_1 x0.Data.length c0_1]) (T := 25) (d := 1) hf0 (by kernel_rfl) (by kernel_rfl) ?_)
  intro b21 w22 a23 hbb21 hx25 hg26 hf24
  have hm27 := hm0.box hbb21 hx25 hg26
  refine listOf hf24 rfl (by kernel_rfl) (aNew (cs := [.slice none 0 0, .slice none 0 0]) (T := 25) (d := 2) hf24 (by kernel_rfl) (by kernel_rfl) ?_)
  intro b28 w29 a30 hbb28 hx32 hg33 hf31
  have hm34 := hm27.box hbb28 hx32 hg33
  refine endL rfl ?_
  refine thenN ?_
  refine wp_seq ?_
  obtain ⟨r35, hr35, H0⟩ := ob_split H0
  obtain ⟨r36, hr36, H0⟩ := ob_split H0
  refine midReg (fun (a : Act) (w : World) => ∃ (A44 : Option Addr) (c45 : Nat) (A37 : Option Addr) (c38 : Nat), Fr 10 a [(2, .pointer (some ⟨b28, 0, none⟩))] ∧ Mem [] M w0 [.ow Kd.float 26 A44 c45 r36, .ow (Kd.int .i64) 3 A37 c38 r35, .bx b28 [.slice A37 r35.length c38, .slice A44 r36.length c45] 25] w) ?_ ?_
  · refine anyG [7] (by kernel_rfl) fun w56 hg57 => ?_
    have hm58 := hm34.still hg57
    refine quiet0 [0, 1, 3, 4] [.slice A0_0 x0.Shape.length c0_0, .slice A0_1 x0.Data.length c0_1] [2, 4, 7] #[true, true, false, true, true, false, false, false] [(2, .pointer (some ⟨b28, 0, none⟩)), (4, .slice A0_0 x0.Shape.length c0_0), (7, .slice A0_1 x0.Data.length c0_1)] [.cell ⟨b21, 0, none⟩ (.slice A0_0 x0.Shape.length c0_0), .cell ⟨b21, 1, none⟩ (.slice A0_1 x0.Data.length c0_1)] 4 rfl (by kernel_rfl) (fun _ _ _ _ _ h => nomatch h.1) hf31 (by kernel_rfl) ⟨(hm58.cell 1 rfl rfl), (hm58.cell 1 rfl rfl), trivial⟩ fun a82 hf83 => ?_
    refine all1 2 (by kernel_rfl) ?_
    refine opOf hf83 rfl (by kernel_rfl) (aCall (fid := 43) (args := [.slice A0_0 x0.Shape.length c0_0]) (d := 5) hf83 (by kernel_rfl) (by kernel_rfl) callable43 (slices_Clone_int.calls _ _ x0.Shape A0_0 x0.Shape.length c0_0 rfl (hm58.give [2] [.sl (Kd.int .i64) A0_0 c0_0 x0.Shape] rfl rfl) r35 hr35) ?_)
    rintro _ w86 a87 ⟨A84, c85, rfl, hk89⟩ hf88
    refine ⟨.inr (Gr.still hk89.cum.none), ?_⟩
    have hm90 := hm58.back hk89
    refine all1 5 (by kernel_rfl) ?_
    refine opOf hf88 rfl (by kernel_rfl) (aCall (fid := 51) (args := [.slice A0_1 x0.Data.length c0_1]) (d := 8) hf88 (by kernel_rfl) (by kernel_rfl) callable51 (slices_Clone_float64.calls _ _ x0.Data A0_1 x0.Data.length c0_1 rfl (hm90.give [4] [.sl Kd.float A0_1 c0_1 x0.Data] rfl rfl) r36 hr36) ?_)
    rintro _ w93 a94 ⟨A91, c92, rfl, hk96⟩ hf95
    refine ⟨.inr (Gr.still hk96.cum.none), ?_⟩
    have hm97 := hm90.back hk96
    refine quiet0 [6] [] [2, 9] #[true, true, true, true, true, true, true, false] [(2, .pointer (some ⟨b28, 0, none⟩)), (9, .agg #[.slice A84 r35.length c85, .slice A91 r36.length c92])] [] 1 rfl (by kernel_rfl) (fun _ _ _ _ _ h => nomatch h.1) hf95 (by kernel_rfl) trivial fun a98 hf99 => ?_
    refine all1 7 (by kernel_rfl) ?_
    refine opOf hf99 rfl (by kernel_rfl) (aStoreB (b := b28) (j := 0) (T := 25) (cs := [.slice none 0 0, .slice none 0 0]) (us := [.slice A84 r35.length c85, .slice A91 r36.length c92]) (cs' := [.slice A84 r35.length c85, .slice A91 r36.length c92]) hf99 (by kernel_rfl) (hm97.bxAt 2 rfl) (by kernel_rfl) (by kernel_rfl) (by kernel_rfl) ?_)
    intro w100 hx101 hg102
    refine ⟨.inl (by decide), ?_⟩
    have hm103 := hm97.setBox 2 _ rfl rfl hx101 hg102
    refine allDone (by kernel_rfl) ⟨rfl, A91, c92, A84, c85, hf99.sel (l := [2]) (by kernel_rfl), hm103.sel [0, 1, 2] _ rfl (by kernel_rfl)⟩
  rintro a104 w105 ⟨A44, c45, A37, c38, hf106, hm107⟩
  refine thenN ?_
  refine wp_ret ?_
  have hm108 : Mem [] M w0 [.ow (Kd.int .i64) 3 A37 c38 r35, .ow Kd.float 26 A44 c45 r36] w105 := hm107.sel [1, 0] _ rfl (by kernel_rfl)
  obtain rfl := Option.some.inj H0
  refine ret [.agg #[.slice A37 r35.length c38, .slice A44 r36.length c45]] [.agg #[.slice A37 r35.length c38, .slice A44 r36.length c45]] [.cell ⟨b28, 0, none⟩ (.slice A37 r35.length c38), .cell ⟨b28, 1, none⟩ (.slice A44 r36.length c45)] hf106 (by kernel_rfl) ⟨(hm107.cell 2 rfl rfl), (hm107.cell 2 rfl rfl), trivial⟩ ?_
  exact ⟨_, rfl, A37, c38, A44, c45, rfl, hm108⟩
end Go.Proofs.Ytkcgiolledmbnac
