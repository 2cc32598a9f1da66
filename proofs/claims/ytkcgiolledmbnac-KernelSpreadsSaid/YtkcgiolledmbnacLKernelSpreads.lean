/- Printed by gen.py. -/
import Derived.Test.YtkcgiolledmbnacF10
import Derived.Test.YtkcgiolledmbnacF11
import Derived.Test.YtkcgiolledmbnacF13
import Derived.Test.YtkcgiolledmbnacF14
import Derived.Test.YtkcgiolledmbnacF15
import Derived.Test.YtkcgiolledmbnacF5
import Derived.Test.YtkcgiolledmbnacF6
namespace Go.Proofs.Ytkcgiolledmbnac
open Go Go.RowKit
set_option linter.unusedSimpArgs false
set_option linter.unusedVariables false
set_option linter.unnecessarySimpa false
/-! ### backstitch/backstitchlaw4.KernelSpreads -/
noncomputable def law4_KernelSpreads.f (x0 : Tensor) (x1 : (List Int)) : Option Bool :=
  (law4_awake.f).bind fun r30 =>
  if r30 = true then ((law3_Small.f x0).bind fun r39 =>
  if r39 = true then (if 40 < (x1.length : Int) then (some true)
  else ((kernel_Spread.f x0 x1).bind fun r66 =>
  (ref1_SpreadTo.f x0 x1).bind fun r95 =>
  (kernel_Gather.f x0 x1).bind fun r124 =>
  (ref1_Gather.f x0 x1).bind fun r153 =>
  (kernel_Reshape.f x0 x1).bind fun r182 =>
  (ref1_Reshape.f x0 x1).bind fun r211 =>
  (law4_same.f r66.1 r66.2 r95.1 r95.2).bind fun r241 =>
  if r241 = true then ((law4_same.f r124.1 r124.2 r153.1 r153.2).bind fun r243 =>
  if r243 = true then ((law4_same.f r182.1 r182.2 r211.1 r211.2).bind fun r245 =>
  some r245)
  else (some false))
  else (some false)))
  else (some true))
  else (some false)
set_option maxRecDepth 100000 in
set_option maxHeartbeats 4000000 in
theorem law4_KernelSpreads.calls (M : List (Option Nat)) (w0 : World) (x0 : Tensor) (A0_0 : Option Addr) (n0_0 c0_0 : Nat) (e0_0 : n0_0 = x0.Shape.length) (A0_1 : Option Addr) (n0_1 c0_1 : Nat) (e0_1 : n0_1 = x0.Data.length) (x1 : (List Int)) (A1 : Option Addr) (n1 c1 : Nat) (e1 : n1 = x1.length) (hm0 : Mem [] M w0 [.sl (Kd.int .i64) A0_0 c0_0 x0.Shape, .sl Kd.float A0_1 c0_1 x0.Data, .sl (Kd.int .i64) A1 c1 x1] w0) (r : Bool) (H0 : law4_KernelSpreads.f x0 x1 = some r) :
    Calls Try.prog 5 [.agg #[.slice A0_0 n0_0 c0_0, .slice A0_1 n0_1 c0_1], .slice A1 n1 c1].toArray w0 (fun x w' => ∃ v, x = .returned v ∧ v = .bool r ∧ Mem [] M w0 [] w') := by
  subst e0_0
  subst e0_1
  subst e1
  unfold law4_KernelSpreads.f at H0
  refine enter (n := 82) Try.func5 rfl rfl (by kernel_rfl) fun a0 (hf0 : Fr 82 a0 [(0, .agg #[.slice A0_0 x0.Shape.length c0_0, .slice A0_1 x0.Data.length c0_1]), (1, .slice A1 x1.length c1)]) => ?_
  refine wp_seq ?_
  refine inReg ?_
  refine listOf hf0 rfl (by kernel_rfl) (aNew (cs := [.slice A0_0 x0.Shape.length c0_0, .slice A0_1 x0.Data.length c0_1]) (T := 25) (d := 2) hf0 (by kernel_rfl) (by kernel_rfl) ?_)
  intro b21 w22 a23 hbb21 hx25 hg26 hf24
  have hm27 := hm0.box hbb21 hx25 hg26
  refine go 1 [] [1, 2] [(1, .slice A1 x1.length c1), (2, .pointer (some ⟨b21, 0, none⟩))] [] hf24 (by kernel_rfl) trivial fun a28 hf29 => ?_
  refine endL rfl ?_
  refine thenN ?_
  refine wp_seq ?_
  refine wp_seq ?_
  obtain ⟨r30, hr30, H0⟩ := ob_split H0
  rcases ifb_split H0 with ⟨c31, H0⟩ | ⟨c31, H0⟩
  rotate_left
  · refine inReg ?_
    refine listOf hf29 rfl (by kernel_rfl) (aCall (fid := 14) (args := []) (d := 17) hf29 (by kernel_rfl) (by kernel_rfl) callable14 (law4_awake.calls _ _  (hm27.give [] [] rfl rfl) r30 hr30) ?_)
    rintro _ w317 a318 ⟨rfl, hk320⟩ hf319
    have hm321 := hm27.still hk320.cum.none
    rw [c31] at hf319
    refine go 1 [] [1, 2, 18] [(1, .slice A1 x1.length c1), (2, .pointer (some ⟨b21, 0, none⟩)), (18, .bool true)] [] hf319 (by kernel_rfl) trivial fun a322 hf323 => ?_
    refine endL rfl ?_
    refine thenN ?_
    refine condT hf323 (by kernel_rfl) ?_
    refine wp_seq ?_
    refine reg [] [4] [(4, .bool false)] [] hf323 (by kernel_rfl) trivial fun a324 hf325 => ?_
    have hm326 := hm321.sel [] _ rfl (by kernel_rfl)
    refine thenN ?_
    refine wp_ret ?_
    refine thenR ?_
    have hm327 : Mem [] M w0 [] w317 := hm326.sel [] _ rfl (by kernel_rfl)
    obtain rfl := Option.some.inj H0
    refine ret [] [.bool false] [] hf325 (by kernel_rfl) trivial ?_
    exact ⟨_, rfl, rfl, hm327⟩
  refine inReg ?_
  refine listOf hf29 rfl (by kernel_rfl) (aCall (fid := 14) (args := []) (d := 17) hf29 (by kernel_rfl) (by kernel_rfl) callable14 (law4_awake.calls _ _  (hm27.give [] [] rfl rfl) r30 hr30) ?_)
  rintro _ w32 a33 ⟨rfl, hk35⟩ hf34
  have hm36 := hm27.still hk35.cum.none
  rw [c31] at hf34
  refine go 1 [] [1, 2, 18] [(1, .slice A1 x1.length c1), (2, .pointer (some ⟨b21, 0, none⟩)), (18, .bool false)] [] hf34 (by kernel_rfl) trivial fun a37 hf38 => ?_
  refine endL rfl ?_
  refine thenN ?_
  refine condF hf38 (by kernel_rfl) ?_
  refine wp_skip ?_
  refine thenN ?_
  refine wp_seq ?_
  refine wp_seq ?_
  obtain ⟨r39, hr39, H0⟩ := ob_split H0
  rcases ifb_split H0 with ⟨c40, H0⟩ | ⟨c40, H0⟩
  rotate_left
  · refine inReg ?_
    refine go 1 [.agg #[.slice A0_0 x0.Shape.length c0_0, .slice A0_1 x0.Data.length c0_1]] [1, 2, 19] [(1, .slice A1 x1.length c1), (2, .pointer (some ⟨b21, 0, none⟩)), (19, .agg #[.slice A0_0 x0.Shape.length c0_0, .slice A0_1 x0.Data.length c0_1])] [.cell ⟨b21, 0, none⟩ (.slice A0_0 x0.Shape.length c0_0), .cell ⟨b21, 1, none⟩ (.slice A0_1 x0.Data.length c0_1)] hf38 (by kernel_rfl) ⟨(hm36.cell 0 rfl rfl), (hm36.cell 0 rfl rfl), trivial⟩ fun a303 hf304 => ?_
    refine listOf hf304 rfl (by kernel_rfl) (aCall (fid := 7) (args := [.agg #[.slice A0_0 x0.Shape.length c0_0, .slice A0_1 x0.Data.length c0_1]]) (d := 20) hf304 (by kernel_rfl) (by kernel_rfl) callable7 (law3_Small.calls _ _ x0 A0_0 x0.Shape.length c0_0 rfl A0_1 x0.Data.length c0_1 rfl (hm36.give [1, 2] [.sl (Kd.int .i64) A0_0 c0_0 x0.Shape, .sl Kd.float A0_1 c0_1 x0.Data] rfl rfl) r39 hr39) ?_)
    rintro _ w305 a306 ⟨rfl, hk308⟩ hf307
    have hm309 := hm36.still hk308.cum.none
    rw [c40] at hf307
    refine go 6 [] [1, 2, 26] [(1, .slice A1 x1.length c1), (2, .pointer (some ⟨b21, 0, none⟩)), (26, .bool true)] [] hf307 (by kernel_rfl) trivial fun a310 hf311 => ?_
    refine endL rfl ?_
    refine thenN ?_
    refine condT hf311 (by kernel_rfl) ?_
    refine wp_seq ?_
    refine reg [] [4] [(4, .bool true)] [] hf311 (by kernel_rfl) trivial fun a312 hf313 => ?_
    have hm314 := hm309.sel [] _ rfl (by kernel_rfl)
    refine thenN ?_
    refine wp_ret ?_
    refine thenR ?_
    have hm315 : Mem [] M w0 [] w305 := hm314.sel [] _ rfl (by kernel_rfl)
    obtain rfl := Option.some.inj H0
    refine ret [] [.bool true] [] hf313 (by kernel_rfl) trivial ?_
    exact ⟨_, rfl, rfl, hm315⟩
  rcases if_split H0 with ⟨c41, H0⟩ | ⟨c41, H0⟩
  · refine inReg ?_
    refine go 1 [.agg #[.slice A0_0 x0.Shape.length c0_0, .slice A0_1 x0.Data.length c0_1]] [1, 2, 19] [(1, .slice A1 x1.length c1), (2, .pointer (some ⟨b21, 0, none⟩)), (19, .agg #[.slice A0_0 x0.Shape.length c0_0, .slice A0_1 x0.Data.length c0_1])] [.cell ⟨b21, 0, none⟩ (.slice A0_0 x0.Shape.length c0_0), .cell ⟨b21, 1, none⟩ (.slice A0_1 x0.Data.length c0_1)] hf38 (by kernel_rfl) ⟨(hm36.cell 0 rfl rfl), (hm36.cell 0 rfl rfl), trivial⟩ fun a42 hf43 => ?_
    refine listOf hf43 rfl (by kernel_rfl) (aCall (fid := 7) (args := [.agg #[.slice A0_0 x0.Shape.length c0_0, .slice A0_1 x0.Data.length c0_1]]) (d := 20) hf43 (by kernel_rfl) (by kernel_rfl) callable7 (law3_Small.calls _ _ x0 A0_0 x0.Shape.length c0_0 rfl A0_1 x0.Data.length c0_1 rfl (hm36.give [1, 2] [.sl (Kd.int .i64) A0_0 c0_0 x0.Shape, .sl Kd.float A0_1 c0_1 x0.Data] rfl rfl) r39 hr39) ?_)
    rintro _ w44 a45 ⟨rfl, hk47⟩ hf46
    have hm48 := hm36.still hk47.cum.none
    rw [c40] at hf46
    refine go 6 [.bool true] [1, 2, 26] [(1, .slice A1 x1.length c1), (2, .pointer (some ⟨b21, 0, none⟩)), (26, .bool true)] [.is (decide (40 < (x1.length : Int)) = true)] hf46 (by kernel_rfl) ⟨(decide_eq_true c41), trivial⟩ fun a49 hf50 => ?_
    refine endL rfl ?_
    refine thenN ?_
    refine condT hf50 (by kernel_rfl) ?_
    refine wp_seq ?_
    refine reg [] [4] [(4, .bool true)] [] hf50 (by kernel_rfl) trivial fun a51 hf52 => ?_
    have hm53 := hm48.sel [] _ rfl (by kernel_rfl)
    refine thenN ?_
    refine wp_ret ?_
    refine thenR ?_
    have hm54 : Mem [] M w0 [] w44 := hm53.sel [] _ rfl (by kernel_rfl)
    obtain rfl := Option.some.inj H0
    refine ret [] [.bool true] [] hf52 (by kernel_rfl) trivial ?_
    exact ⟨_, rfl, rfl, hm54⟩
  refine inReg ?_
  refine go 1 [.agg #[.slice A0_0 x0.Shape.length c0_0, .slice A0_1 x0.Data.length c0_1]] [1, 2, 19] [(1, .slice A1 x1.length c1), (2, .pointer (some ⟨b21, 0, none⟩)), (19, .agg #[.slice A0_0 x0.Shape.length c0_0, .slice A0_1 x0.Data.length c0_1])] [.cell ⟨b21, 0, none⟩ (.slice A0_0 x0.Shape.length c0_0), .cell ⟨b21, 1, none⟩ (.slice A0_1 x0.Data.length c0_1)] hf38 (by kernel_rfl) ⟨(hm36.cell 0 rfl rfl), (hm36.cell 0 rfl rfl), trivial⟩ fun a56 hf57 => ?_
  refine listOf hf57 rfl (by kernel_rfl) (aCall (fid := 7) (args := [.agg #[.slice A0_0 x0.Shape.length c0_0, .slice A0_1 x0.Data.length c0_1]]) (d := 20) hf57 (by kernel_rfl) (by kernel_rfl) callable7 (law3_Small.calls _ _ x0 A0_0 x0.Shape.length c0_0 rfl A0_1 x0.Data.length c0_1 rfl (hm36.give [1, 2] [.sl (Kd.int .i64) A0_0 c0_0 x0.Shape, .sl Kd.float A0_1 c0_1 x0.Data] rfl rfl) r39 hr39) ?_)
  rintro _ w58 a59 ⟨rfl, hk61⟩ hf60
  have hm62 := hm36.still hk61.cum.none
  rw [c40] at hf60
  refine go 6 [.bool false] [1, 2, 26] [(1, .slice A1 x1.length c1), (2, .pointer (some ⟨b21, 0, none⟩)), (26, .bool false)] [.is (decide (40 < (x1.length : Int)) = false)] hf60 (by kernel_rfl) ⟨(decide_eq_false c41), trivial⟩ fun a63 hf65 => ?_
  refine endL rfl ?_
  refine thenN ?_
  refine condF hf65 (by kernel_rfl) ?_
  refine wp_skip ?_
  refine thenN ?_
  refine wp_seq ?_
  obtain ⟨r66, hr66, H0⟩ := ob_split H0
  refine inReg ?_
  refine go 2 [.agg #[.slice A0_0 x0.Shape.length c0_0, .slice A0_1 x0.Data.length c0_1]] [1, 2, 28, 29] [(1, .slice A1 x1.length c1), (2, .pointer (some ⟨b21, 0, none⟩)), (28, .agg #[.slice A0_0 x0.Shape.length c0_0, .slice A0_1 x0.Data.length c0_1]), (29, .slice A1 x1.length c1)] [.cell ⟨b21, 0, none⟩ (.slice A0_0 x0.Shape.length c0_0), .cell ⟨b21, 1, none⟩ (.slice A0_1 x0.Data.length c0_1)] hf65 (by kernel_rfl) ⟨(hm62.cell 0 rfl rfl), (hm62.cell 0 rfl rfl), trivial⟩ fun a67 hf68 => ?_
  refine listOf hf68 rfl (by kernel_rfl) (aCall (fid := 16) (args := [.agg #[.slice A0_0 x0.Shape.length c0_0, .slice A0_1 x0.Data.length c0_1], .slice A1 x1.length c1]) (d := 30) hf68 (by kernel_rfl) (by kernel_rfl) callable16 (kernel_Spread.calls _ _ x0 A0_0 x0.Shape.length c0_0 rfl A0_1 x0.Data.length c0_1 rfl x1 A1 x1.length c1 rfl (hm62.give [1, 2, 3] [.sl (Kd.int .i64) A0_0 c0_0 x0.Shape, .sl Kd.float A0_1 c0_1 x0.Data, .sl (Kd.int .i64) A1 c1 x1] rfl rfl) r66 hr66) ?_)
  rintro _ w73 a74 ⟨A69, c70, A71, c72, rfl, hk76⟩ hf75
  have hm77 := hm62.back hk76
  have hm78 := hm77.seal 0 _ rfl rfl
  have hm79 := hm78.seal 1 _ rfl rfl
  refine go 3 [] [1, 2, 31, 32] [(1, .slice A1 x1.length c1), (2, .pointer (some ⟨b21, 0, none⟩)), (31, .agg #[.slice A69 r66.1.Shape.length c70, .slice A71 r66.1.Data.length c72]), (32, .int .i64 r66.2)] [] hf75 (by kernel_rfl) trivial fun a80 hf81 => ?_
  refine listOf hf81 rfl (by kernel_rfl) (aNew (cs := [.slice none 0 0, .slice none 0 0]) (T := 25) (d := 5) hf81 (by kernel_rfl) (by kernel_rfl) ?_)
  intro b82 w83 a84 hbb82 hx86 hg87 hf85
  have hm88 := hm79.box hbb82 hx86 hg87
  refine listOf hf85 rfl (by kernel_rfl) (aStoreB (b := b82) (j := 0) (T := 25) (cs := [.slice none 0 0, .slice none 0 0]) (us := [.slice A69 r66.1.Shape.length c70, .slice A71 r66.1.Data.length c72]) (cs' := [.slice A69 r66.1.Shape.length c70, .slice A71 r66.1.Data.length c72]) hf85 (by kernel_rfl) (hm88.bxAt 0 rfl) (by kernel_rfl) (by kernel_rfl) (by kernel_rfl) ?_)
  intro w89 hx90 hg91
  have hm92 := hm88.setBox 0 _ rfl rfl hx90 hg91
  refine go 1 [] [1, 2, 5, 6] [(1, .slice A1 x1.length c1), (2, .pointer (some ⟨b21, 0, none⟩)), (5, .pointer (some ⟨b82, 0, none⟩)), (6, .int .i64 r66.2)] [] hf85 (by kernel_rfl) trivial fun a93 hf94 => ?_
  refine endL rfl ?_
  refine thenN ?_
  refine wp_seq ?_
  obtain ⟨r95, hr95, H0⟩ := ob_split H0
  refine inReg ?_
  refine go 2 [.agg #[.slice A0_0 x0.Shape.length c0_0, .slice A0_1 x0.Data.length c0_1]] [1, 2, 5, 6, 34, 35] [(1, .slice A1 x1.length c1), (2, .pointer (some ⟨b21, 0, none⟩)), (5, .pointer (some ⟨b82, 0, none⟩)), (6, .int .i64 r66.2), (34, .agg #[.slice A0_0 x0.Shape.length c0_0, .slice A0_1 x0.Data.length c0_1]), (35, .slice A1 x1.length c1)] [.cell ⟨b21, 0, none⟩ (.slice A0_0 x0.Shape.length c0_0), .cell ⟨b21, 1, none⟩ (.slice A0_1 x0.Data.length c0_1)] hf94 (by kernel_rfl) ⟨(hm92.cell 3 rfl rfl), (hm92.cell 3 rfl rfl), trivial⟩ fun a96 hf97 => ?_
  refine listOf hf97 rfl (by kernel_rfl) (aCall (fid := 18) (args := [.agg #[.slice A0_0 x0.Shape.length c0_0, .slice A0_1 x0.Data.length c0_1], .slice A1 x1.length c1]) (d := 36) hf97 (by kernel_rfl) (by kernel_rfl) callable18 (ref1_SpreadTo.calls _ _ x0 A0_0 x0.Shape.length c0_0 rfl A0_1 x0.Data.length c0_1 rfl x1 A1 x1.length c1 rfl (hm92.give [4, 5, 6] [.sl (Kd.int .i64) A0_0 c0_0 x0.Shape, .sl Kd.float A0_1 c0_1 x0.Data, .sl (Kd.int .i64) A1 c1 x1] rfl rfl) r95 hr95) ?_)
  rintro _ w102 a103 ⟨A98, c99, A100, c101, rfl, hk105⟩ hf104
  have hm106 := hm92.back hk105
  have hm107 := hm106.seal 0 _ rfl rfl
  have hm108 := hm107.seal 1 _ rfl rfl
  refine go 3 [] [1, 2, 5, 6, 37, 38] [(1, .slice A1 x1.length c1), (2, .pointer (some ⟨b21, 0, none⟩)), (5, .pointer (some ⟨b82, 0, none⟩)), (6, .int .i64 r66.2), (37, .agg #[.slice A98 r95.1.Shape.length c99, .slice A100 r95.1.Data.length c101]), (38, .int .i64 r95.2)] [] hf104 (by kernel_rfl) trivial fun a109 hf110 => ?_
  refine listOf hf110 rfl (by kernel_rfl) (aNew (cs := [.slice none 0 0, .slice none 0 0]) (T := 25) (d := 7) hf110 (by kernel_rfl) (by kernel_rfl) ?_)
  intro b111 w112 a113 hbb111 hx115 hg116 hf114
  have hm117 := hm108.box hbb111 hx115 hg116
  refine listOf hf114 rfl (by kernel_rfl) (aStoreB (b := b111) (j := 0) (T := 25) (cs := [.slice none 0 0, .slice none 0 0]) (us := [.slice A98 r95.1.Shape.length c99, .slice A100 r95.1.Data.length c101]) (cs' := [.slice A98 r95.1.Shape.length c99, .slice A100 r95.1.Data.length c101]) hf114 (by kernel_rfl) (hm117.bxAt 0 rfl) (by kernel_rfl) (by kernel_rfl) (by kernel_rfl) ?_)
  intro w118 hx119 hg120
  have hm121 := hm117.setBox 0 _ rfl rfl hx119 hg120
  refine go 1 [] [1, 2, 5, 6, 7, 8] [(1, .slice A1 x1.length c1), (2, .pointer (some ⟨b21, 0, none⟩)), (5, .pointer (some ⟨b82, 0, none⟩)), (6, .int .i64 r66.2), (7, .pointer (some ⟨b111, 0, none⟩)), (8, .int .i64 r95.2)] [] hf114 (by kernel_rfl) trivial fun a122 hf123 => ?_
  refine endL rfl ?_
  refine thenN ?_
  refine wp_seq ?_
  obtain ⟨r124, hr124, H0⟩ := ob_split H0
  refine inReg ?_
  refine go 2 [.agg #[.slice A0_0 x0.Shape.length c0_0, .slice A0_1 x0.Data.length c0_1]] [1, 2, 5, 6, 7, 8, 40, 41] [(1, .slice A1 x1.length c1), (2, .pointer (some ⟨b21, 0, none⟩)), (5, .pointer (some ⟨b82, 0, none⟩)), (6, .int .i64 r66.2), (7, .pointer (some ⟨b111, 0, none⟩)), (8, .int .i64 r95.2), (40, .agg #[.slice A0_0 x0.Shape.length c0_0, .slice A0_1 x0.Data.length c0_1]), (41, .slice A1 x1.length c1)] [.cell ⟨b21, 0, none⟩ (.slice A0_0 x0.Shape.length c0_0), .cell ⟨b21, 1, none⟩ (.slice A0_1 x0.Data.length c0_1)] hf123 (by kernel_rfl) ⟨(hm121.cell 6 rfl rfl), (hm121.cell 6 rfl rfl), trivial⟩ fun a125 hf126 => ?_
  refine listOf hf126 rfl (by kernel_rfl) (aCall (fid := 17) (args := [.agg #[.slice A0_0 x0.Shape.length c0_0, .slice A0_1 x0.Data.length c0_1], .slice A1 x1.length c1]) (d := 42) hf126 (by kernel_rfl) (by kernel_rfl) callable17 (kernel_Gather.calls _ _ x0 A0_0 x0.Shape.length c0_0 rfl A0_1 x0.Data.length c0_1 rfl x1 A1 x1.length c1 rfl (hm121.give [7, 8, 9] [.sl (Kd.int .i64) A0_0 c0_0 x0.Shape, .sl Kd.float A0_1 c0_1 x0.Data, .sl (Kd.int .i64) A1 c1 x1] rfl rfl) r124 hr124) ?_)
  rintro _ w131 a132 ⟨A127, c128, A129, c130, rfl, hk134⟩ hf133
  have hm135 := hm121.back hk134
  have hm136 := hm135.seal 0 _ rfl rfl
  have hm137 := hm136.seal 1 _ rfl rfl
  refine go 3 [] [1, 2, 5, 6, 7, 8, 43, 44] [(1, .slice A1 x1.length c1), (2, .pointer (some ⟨b21, 0, none⟩)), (5, .pointer (some ⟨b82, 0, none⟩)), (6, .int .i64 r66.2), (7, .pointer (some ⟨b111, 0, none⟩)), (8, .int .i64 r95.2), (43, .agg #[.slice A127 r124.1.Shape.length c128, .slice A129 r124.1.Data.length c130]), (44, .int .i64 r124.2)] [] hf133 (by kernel_rfl) trivial fun a138 hf139 => ?_
  refine listOf hf139 rfl (by kernel_rfl) (aNew (cs := [.slice none 0 0, .slice none 0 0]) (T := 25) (d := 9) hf139 (by kernel_rfl) (by kernel_rfl) ?_)
  intro b140 w141 a142 hbb140 hx144 hg145 hf143
  have hm146 := hm137.box hbb140 hx144 hg145
  refine listOf hf143 rfl (by kernel_rfl) (aStoreB (b := b140) (j := 0) (T := 25) (cs := [.slice none 0 0, .slice none 0 0]) (us := [.slice A127 r124.1.Shape.length c128, .slice A129 r124.1.Data.length c130]) (cs' := [.slice A127 r124.1.Shape.length c128, .slice A129 r124.1.Data.length c130]) hf143 (by kernel_rfl) (hm146.bxAt 0 rfl) (by kernel_rfl) (by kernel_rfl) (by kernel_rfl) ?_)
  intro w147 hx148 hg149
  have hm150 := hm146.setBox 0 _ rfl rfl hx148 hg149
  refine go 1 [] [1, 2, 5, 6, 7, 8, 9, 10] [(1, .slice A1 x1.length c1), (2, .pointer (some ⟨b21, 0, none⟩)), (5, .pointer (some ⟨b82, 0, none⟩)), (6, .int .i64 r66.2), (7, .pointer (some ⟨b111, 0, none⟩)), (8, .int .i64 r95.2), (9, .pointer (some ⟨b140, 0, none⟩)), (10, .int .i64 r124.2)] [] hf143 (by kernel_rfl) trivial fun a151 hf152 => ?_
  refine endL rfl ?_
  refine thenN ?_
  refine wp_seq ?_
  obtain ⟨r153, hr153, H0⟩ := ob_split H0
  refine inReg ?_
  refine go 2 [.agg #[.slice A0_0 x0.Shape.length c0_0, .slice A0_1 x0.Data.length c0_1]] [1, 2, 5, 6, 7, 8, 9, 10, 46, 47] [(1, .slice A1 x1.length c1), (2, .pointer (some ⟨b21, 0, none⟩)), (5, .pointer (some ⟨b82, 0, none⟩)), (6, .int .i64 r66.2), (7, .pointer (some ⟨b111, 0, none⟩)), (8, .int .i64 r95.2), (9, .pointer (some ⟨b140, 0, none⟩)), (10, .int .i64 r124.2), (46, .agg #[.slice A0_0 x0.Shape.length c0_0, .slice A0_1 x0.Data.length c0_1]), (47, .slice A1 x1.length c1)] [.cell ⟨b21, 0, none⟩ (.slice A0_0 x0.Shape.length c0_0), .cell ⟨b21, 1, none⟩ (.slice A0_1 x0.Data.length c0_1)] hf152 (by kernel_rfl) ⟨(hm150.cell 9 rfl rfl), (hm150.cell 9 rfl rfl), trivial⟩ fun a154 hf155 => ?_
  refine listOf hf155 rfl (by kernel_rfl) (aCall (fid := 19) (args := [.agg #[.slice A0_0 x0.Shape.length c0_0, .slice A0_1 x0.Data.length c0_1], .slice A1 x1.length c1]) (d := 48) hf155 (by kernel_rfl) (by kernel_rfl) callable19 (ref1_Gather.calls _ _ x0 A0_0 x0.Shape.length c0_0 rfl A0_1 x0.Data.length c0_1 rfl x1 A1 x1.length c1 rfl (hm150.give [10, 11, 12] [.sl (Kd.int .i64) A0_0 c0_0 x0.Shape, .sl Kd.float A0_1 c0_1 x0.Data, .sl (Kd.int .i64) A1 c1 x1] rfl rfl) r153 hr153) ?_)
  rintro _ w160 a161 ⟨A156, c157, A158, c159, rfl, hk163⟩ hf162
  have hm164 := hm150.back hk163
  have hm165 := hm164.seal 0 _ rfl rfl
  have hm166 := hm165.seal 1 _ rfl rfl
  refine go 3 [] [1, 2, 5, 6, 7, 8, 9, 10, 49, 50] [(1, .slice A1 x1.length c1), (2, .pointer (some ⟨b21, 0, none⟩)), (5, .pointer (some ⟨b82, 0, none⟩)), (6, .int .i64 r66.2), (7, .pointer (some ⟨b111, 0, none⟩)), (8, .int .i64 r95.2), (9, .pointer (some ⟨b140, 0, none⟩)), (10, .int .i64 r124.2), (49, .agg #[.slice A156 r153.1.Shape.length c157, .slice A158 r153.1.Data.length c159]), (50, .int .i64 r153.2)] [] hf162 (by kernel_rfl) trivial fun a167 hf168 => ?_
  refine listOf hf168 rfl (by kernel_rfl) (aNew (cs := [.slice none 0 0, .slice none 0 0]) (T := 25) (d := 11) hf168 (by kernel_rfl) (by kernel_rfl) ?_)
  intro b169 w170 a171 hbb169 hx173 hg174 hf172
  have hm175 := hm166.box hbb169 hx173 hg174
  refine listOf hf172 rfl (by kernel_rfl) (aStoreB (b := b169) (j := 0) (T := 25) (cs := [.slice none 0 0, .slice none 0 0]) (us := [.slice A156 r153.1.Shape.length c157, .slice A158 r153.1.Data.length c159]) (cs' := [.slice A156 r153.1.Shape.length c157, .slice A158 r153.1.Data.length c159]) hf172 (by kernel_rfl) (hm175.bxAt 0 rfl) (by kernel_rfl) (by kernel_rfl) (by kernel_rfl) ?_)
  intro w176 hx177 hg178
  have hm179 := hm175.setBox 0 _ rfl rfl hx177 hg178
  refine go 1 [] [1, 2, 5, 6, 7, 8, 9, 10, 11, 12] [(1, .slice A1 x1.length c1), (2, .pointer (some ⟨b21, 0, none⟩)), (5, .pointer (some ⟨b82, 0, none⟩)), (6, .int .i64 r66.2), (7, .pointer (some ⟨b111, 0, none⟩)), (8, .int .i64 r95.2), (9, .pointer (some ⟨b140, 0, none⟩)), (10, .int .i64 r124.2), (11, .pointer (some ⟨b169, 0, none⟩)), (12, .int .i64 r153.2)] [] hf172 (by kernel_rfl) trivial fun a180 hf181 => ?_
  refine endL rfl ?_
  refine thenN ?_
  refine wp_seq ?_
  obtain ⟨r182, hr182, H0⟩ := ob_split H0
  refine inReg ?_
  refine go 2 [.agg #[.slice A0_0 x0.Shape.length c0_0, .slice A0_1 x0.Data.length c0_1]] [1, 2, 5, 6, 7, 8, 9, 10, 11, 12, 52, 53] [(1, .slice A1 x1.length c1), (2, .pointer (some ⟨b21, 0, none⟩)), (5, .pointer (some ⟨b82, 0, none⟩)), (6, .int .i64 r66.2), (7, .pointer (some ⟨b111, 0, none⟩)), (8, .int .i64 r95.2), (9, .pointer (some ⟨b140, 0, none⟩)), (10, .int .i64 r124.2), (11, .pointer (some ⟨b169, 0, none⟩)), (12, .int .i64 r153.2), (52, .agg #[.slice A0_0 x0.Shape.length c0_0, .slice A0_1 x0.Data.length c0_1]), (53, .slice A1 x1.length c1)] [.cell ⟨b21, 0, none⟩ (.slice A0_0 x0.Shape.length c0_0), .cell ⟨b21, 1, none⟩ (.slice A0_1 x0.Data.length c0_1)] hf181 (by kernel_rfl) ⟨(hm179.cell 12 rfl rfl), (hm179.cell 12 rfl rfl), trivial⟩ fun a183 hf184 => ?_
  refine listOf hf184 rfl (by kernel_rfl) (aCall (fid := 20) (args := [.agg #[.slice A0_0 x0.Shape.length c0_0, .slice A0_1 x0.Data.length c0_1], .slice A1 x1.length c1]) (d := 54) hf184 (by kernel_rfl) (by kernel_rfl) callable20 (kernel_Reshape.calls _ _ x0 A0_0 x0.Shape.length c0_0 rfl A0_1 x0.Data.length c0_1 rfl x1 A1 x1.length c1 rfl (hm179.give [13, 14, 15] [.sl (Kd.int .i64) A0_0 c0_0 x0.Shape, .sl Kd.float A0_1 c0_1 x0.Data, .sl (Kd.int .i64) A1 c1 x1] rfl rfl) r182 hr182) ?_)
  rintro _ w189 a190 ⟨A185, c186, A187, c188, rfl, hk192⟩ hf191
  have hm193 := hm179.back hk192
  have hm194 := hm193.seal 0 _ rfl rfl
  have hm195 := hm194.seal 1 _ rfl rfl
  refine go 3 [] [1, 2, 5, 6, 7, 8, 9, 10, 11, 12, 55, 56] [(1, .slice A1 x1.length c1), (2, .pointer (some ⟨b21, 0, none⟩)), (5, .pointer (some ⟨b82, 0, none⟩)), (6, .int .i64 r66.2), (7, .pointer (some ⟨b111, 0, none⟩)), (8, .int .i64 r95.2), (9, .pointer (some ⟨b140, 0, none⟩)), (10, .int .i64 r124.2), (11, .pointer (some ⟨b169, 0, none⟩)), (12, .int .i64 r153.2), (55, .agg #[.slice A185 r182.1.Shape.length c186, .slice A187 r182.1.Data.length c188]), (56, .int .i64 r182.2)] [] hf191 (by kernel_rfl) trivial fun a196 hf197 => ?_
  refine listOf hf197 rfl (by kernel_rfl) (aNew (cs := [.slice none 0 0, .slice none 0 0]) (T := 25) (d := 13) hf197 (by kernel_rfl) (by kernel_rfl) ?_)
  intro b198 w199 a200 hbb198 hx202 hg203 hf201
  have hm204 := hm195.box hbb198 hx202 hg203
  refine listOf hf201 rfl (by kernel_rfl) (aStoreB (b := b198) (j := 0) (T := 25) (cs := [.slice none 0 0, .slice none 0 0]) (us := [.slice A185 r182.1.Shape.length c186, .slice A187 r182.1.Data.length c188]) (cs' := [.slice A185 r182.1.Shape.length c186, .slice A187 r182.1.Data.length c188]) hf201 (by kernel_rfl) (hm204.bxAt 0 rfl) (by kernel_rfl) (by kernel_rfl) (by kernel_rfl) ?_)
  intro w205 hx206 hg207
  have hm208 := hm204.setBox 0 _ rfl rfl hx206 hg207
  refine go 1 [] [1, 2, 5, 6, 7, 8, 9, 10, 11, 12, 13, 14] [(1, .slice A1 x1.length c1), (2, .pointer (some ⟨b21, 0, none⟩)), (5, .pointer (some ⟨b82, 0, none⟩)), (6, .int .i64 r66.2), (7, .pointer (some ⟨b111, 0, none⟩)), (8, .int .i64 r95.2), (9, .pointer (some ⟨b140, 0, none⟩)), (10, .int .i64 r124.2), (11, .pointer (some ⟨b169, 0, none⟩)), (12, .int .i64 r153.2), (13, .pointer (some ⟨b198, 0, none⟩)), (14, .int .i64 r182.2)] [] hf201 (by kernel_rfl) trivial fun a209 hf210 => ?_
  refine endL rfl ?_
  refine thenN ?_
  refine wp_seq ?_
  obtain ⟨r211, hr211, H0⟩ := ob_split H0
  refine inReg ?_
  refine go 2 [.agg #[.slice A0_0 x0.Shape.length c0_0, .slice A0_1 x0.Data.length c0_1]] [5, 6, 7, 8, 9, 10, 11, 12, 13, 14, 58, 59] [(5, .pointer (some ⟨b82, 0, none⟩)), (6, .int .i64 r66.2), (7, .pointer (some ⟨b111, 0, none⟩)), (8, .int .i64 r95.2), (9, .pointer (some ⟨b140, 0, none⟩)), (10, .int .i64 r124.2), (11, .pointer (some ⟨b169, 0, none⟩)), (12, .int .i64 r153.2), (13, .pointer (some ⟨b198, 0, none⟩)), (14, .int .i64 r182.2), (58, .agg #[.slice A0_0 x0.Shape.length c0_0, .slice A0_1 x0.Data.length c0_1]), (59, .slice A1 x1.length c1)] [.cell ⟨b21, 0, none⟩ (.slice A0_0 x0.Shape.length c0_0), .cell ⟨b21, 1, none⟩ (.slice A0_1 x0.Data.length c0_1)] hf210 (by kernel_rfl) ⟨(hm208.cell 15 rfl rfl), (hm208.cell 15 rfl rfl), trivial⟩ fun a212 hf213 => ?_
  refine listOf hf213 rfl (by kernel_rfl) (aCall (fid := 21) (args := [.agg #[.slice A0_0 x0.Shape.length c0_0, .slice A0_1 x0.Data.length c0_1], .slice A1 x1.length c1]) (d := 60) hf213 (by kernel_rfl) (by kernel_rfl) callable21 (ref1_Reshape.calls _ _ x0 A0_0 x0.Shape.length c0_0 rfl A0_1 x0.Data.length c0_1 rfl x1 A1 x1.length c1 rfl (hm208.give [16, 17, 18] [.sl (Kd.int .i64) A0_0 c0_0 x0.Shape, .sl Kd.float A0_1 c0_1 x0.Data, .sl (Kd.int .i64) A1 c1 x1] rfl rfl) r211 hr211) ?_)
  rintro _ w218 a219 ⟨A214, c215, A216, c217, rfl, hk221⟩ hf220
  have hm222 := hm208.back hk221
  have hm223 := hm222.seal 0 _ rfl rfl
  have hm224 := hm223.seal 1 _ rfl rfl
  refine go 3 [] [5, 6, 7, 8, 9, 10, 11, 12, 13, 14, 61, 62] [(5, .pointer (some ⟨b82, 0, none⟩)), (6, .int .i64 r66.2), (7, .pointer (some ⟨b111, 0, none⟩)), (8, .int .i64 r95.2), (9, .pointer (some ⟨b140, 0, none⟩)), (10, .int .i64 r124.2), (11, .pointer (some ⟨b169, 0, none⟩)), (12, .int .i64 r153.2), (13, .pointer (some ⟨b198, 0, none⟩)), (14, .int .i64 r182.2), (61, .agg #[.slice A214 r211.1.Shape.length c215, .slice A216 r211.1.Data.length c217]), (62, .int .i64 r211.2)] [] hf220 (by kernel_rfl) trivial fun a225 hf226 => ?_
  refine listOf hf226 rfl (by kernel_rfl) (aNew (cs := [.slice none 0 0, .slice none 0 0]) (T := 25) (d := 15) hf226 (by kernel_rfl) (by kernel_rfl) ?_)
  intro b227 w228 a229 hbb227 hx231 hg232 hf230
  have hm233 := hm224.box hbb227 hx231 hg232
  refine listOf hf230 rfl (by kernel_rfl) (aStoreB (b := b227) (j := 0) (T := 25) (cs := [.slice none 0 0, .slice none 0 0]) (us := [.slice A214 r211.1.Shape.length c215, .slice A216 r211.1.Data.length c217]) (cs' := [.slice A214 r211.1.Shape.length c215, .slice A216 r211.1.Data.length c217]) hf230 (by kernel_rfl) (hm233.bxAt 0 rfl) (by kernel_rfl) (by kernel_rfl) (by kernel_rfl) ?_)
  intro w234 hx235 hg236
  have hm237 := hm233.setBox 0 _ rfl rfl hx235 hg236
  refine go 1 [] [5, 6, 7, 8, 9, 10, 11, 12, 13, 14, 15, 16] [(5, .pointer (some ⟨b82, 0, none⟩)), (6, .int .i64 r66.2), (7, .pointer (some ⟨b111, 0, none⟩)), (8, .int .i64 r95.2), (9, .pointer (some ⟨b140, 0, none⟩)), (10, .int .i64 r124.2), (11, .pointer (some ⟨b169, 0, none⟩)), (12, .int .i64 r153.2), (13, .pointer (some ⟨b198, 0, none⟩)), (14, .int .i64 r182.2), (15, .pointer (some ⟨b227, 0, none⟩)), (16, .int .i64 r211.2)] [] hf230 (by kernel_rfl) trivial fun a238 hf239 => ?_
  refine endL rfl ?_
  have hm240 := hm237.sel [0, 1, 2, 3, 4, 5, 6, 7, 8, 9, 10, 11, 12, 13, 14, 15, 16, 17] _ rfl (by kernel_rfl)
  refine thenN ?_
  refine wp_seq ?_
  obtain ⟨r241, hr241, H0⟩ := ob_split H0
  rcases ifb_split H0 with ⟨c242, H0⟩ | ⟨c242, H0⟩
  rotate_left
  · refine inReg ?_
    refine go 4 [.agg #[.slice A69 r66.1.Shape.length c70, .slice A71 r66.1.Data.length c72], .agg #[.slice A98 r95.1.Shape.length c99, .slice A100 r95.1.Data.length c101]] [9, 10, 11, 12, 13, 14, 15, 16, 63, 64, 65, 66] [(9, .pointer (some ⟨b140, 0, none⟩)), (10, .int .i64 r124.2), (11, .pointer (some ⟨b169, 0, none⟩)), (12, .int .i64 r153.2), (13, .pointer (some ⟨b198, 0, none⟩)), (14, .int .i64 r182.2), (15, .pointer (some ⟨b227, 0, none⟩)), (16, .int .i64 r211.2), (63, .agg #[.slice A69 r66.1.Shape.length c70, .slice A71 r66.1.Data.length c72]), (64, .int .i64 r66.2), (65, .agg #[.slice A98 r95.1.Shape.length c99, .slice A100 r95.1.Data.length c101]), (66, .int .i64 r95.2)] [.cell ⟨b82, 0, none⟩ (.slice A69 r66.1.Shape.length c70), .cell ⟨b82, 1, none⟩ (.slice A71 r66.1.Data.length c72), .cell ⟨b111, 0, none⟩ (.slice A98 r95.1.Shape.length c99), .cell ⟨b111, 1, none⟩ (.slice A100 r95.1.Data.length c101)] hf239 (by kernel_rfl) ⟨(hm240.cell 15 rfl rfl), (hm240.cell 15 rfl rfl), (hm240.cell 12 rfl rfl), (hm240.cell 12 rfl rfl), trivial⟩ fun a291 hf292 => ?_
    refine listOf hf292 rfl (by kernel_rfl) (aCall (fid := 22) (args := [.agg #[.slice A69 r66.1.Shape.length c70, .slice A71 r66.1.Data.length c72], .int .i64 r66.2, .agg #[.slice A98 r95.1.Shape.length c99, .slice A100 r95.1.Data.length c101], .int .i64 r95.2]) (d := 67) hf292 (by kernel_rfl) (by kernel_rfl) callable22 (law4_same.calls _ _ r66.1 A69 r66.1.Shape.length c70 rfl A71 r66.1.Data.length c72 rfl r66.2 r95.1 A98 r95.1.Shape.length c99 rfl A100 r95.1.Data.length c101 rfl r95.2 (hm240.give [16, 17, 13, 14] [.sl (Kd.int .i64) A69 c70 r66.1.Shape, .sl Kd.float A71 c72 r66.1.Data, .sl (Kd.int .i64) A98 c99 r95.1.Shape, .sl Kd.float A100 c101 r95.1.Data] rfl rfl) r241 hr241) ?_)
    rintro _ w293 a294 ⟨rfl, hk296⟩ hf295
    have hm297 := hm240.still hk296.cum.none
    rw [c242] at hf295
    refine go 15 [] [4] [(4, .bool false)] [] hf295 (by kernel_rfl) trivial fun a298 hf299 => ?_
    refine endL rfl ?_
    have hm300 := hm297.sel [] _ rfl (by kernel_rfl)
    refine thenN ?_
    refine wp_ret ?_
    have hm301 : Mem [] M w0 [] w293 := hm300.sel [] _ rfl (by kernel_rfl)
    obtain rfl := Option.some.inj H0
    refine ret [] [.bool false] [] hf299 (by kernel_rfl) trivial ?_
    exact ⟨_, rfl, rfl, hm301⟩
  obtain ⟨r243, hr243, H0⟩ := ob_split H0
  rcases ifb_split H0 with ⟨c244, H0⟩ | ⟨c244, H0⟩
  rotate_left
  · refine inReg ?_
    refine go 4 [.agg #[.slice A69 r66.1.Shape.length c70, .slice A71 r66.1.Data.length c72], .agg #[.slice A98 r95.1.Shape.length c99, .slice A100 r95.1.Data.length c101]] [9, 10, 11, 12, 13, 14, 15, 16, 63, 64, 65, 66] [(9, .pointer (some ⟨b140, 0, none⟩)), (10, .int .i64 r124.2), (11, .pointer (some ⟨b169, 0, none⟩)), (12, .int .i64 r153.2), (13, .pointer (some ⟨b198, 0, none⟩)), (14, .int .i64 r182.2), (15, .pointer (some ⟨b227, 0, none⟩)), (16, .int .i64 r211.2), (63, .agg #[.slice A69 r66.1.Shape.length c70, .slice A71 r66.1.Data.length c72]), (64, .int .i64 r66.2), (65, .agg #[.slice A98 r95.1.Shape.length c99, .slice A100 r95.1.Data.length c101]), (66, .int .i64 r95.2)] [.cell ⟨b82, 0, none⟩ (.slice A69 r66.1.Shape.length c70), .cell ⟨b82, 1, none⟩ (.slice A71 r66.1.Data.length c72), .cell ⟨b111, 0, none⟩ (.slice A98 r95.1.Shape.length c99), .cell ⟨b111, 1, none⟩ (.slice A100 r95.1.Data.length c101)] hf239 (by kernel_rfl) ⟨(hm240.cell 15 rfl rfl), (hm240.cell 15 rfl rfl), (hm240.cell 12 rfl rfl), (hm240.cell 12 rfl rfl), trivial⟩ fun a272 hf273 => ?_
    refine listOf hf273 rfl (by kernel_rfl) (aCall (fid := 22) (args := [.agg #[.slice A69 r66.1.Shape.length c70, .slice A71 r66.1.Data.length c72], .int .i64 r66.2, .agg #[.slice A98 r95.1.Shape.length c99, .slice A100 r95.1.Data.length c101], .int .i64 r95.2]) (d := 67) hf273 (by kernel_rfl) (by kernel_rfl) callable22 (law4_same.calls _ _ r66.1 A69 r66.1.Shape.length c70 rfl A71 r66.1.Data.length c72 rfl r66.2 r95.1 A98 r95.1.Shape.length c99 rfl A100 r95.1.Data.length c101 rfl r95.2 (hm240.give [16, 17, 13, 14] [.sl (Kd.int .i64) A69 c70 r66.1.Shape, .sl Kd.float A71 c72 r66.1.Data, .sl (Kd.int .i64) A98 c99 r95.1.Shape, .sl Kd.float A100 c101 r95.1.Data] rfl rfl) r241 hr241) ?_)
    rintro _ w274 a275 ⟨rfl, hk277⟩ hf276
    have hm278 := hm240.still hk277.cum.none
    rw [c242] at hf276
    refine go 5 [.agg #[.slice A127 r124.1.Shape.length c128, .slice A129 r124.1.Data.length c130], .agg #[.slice A156 r153.1.Shape.length c157, .slice A158 r153.1.Data.length c159]] [13, 14, 15, 16, 68, 69, 70, 71, 72] [(13, .pointer (some ⟨b198, 0, none⟩)), (14, .int .i64 r182.2), (15, .pointer (some ⟨b227, 0, none⟩)), (16, .int .i64 r211.2), (68, .bool true), (69, .agg #[.slice A127 r124.1.Shape.length c128, .slice A129 r124.1.Data.length c130]), (70, .int .i64 r124.2), (71, .agg #[.slice A156 r153.1.Shape.length c157, .slice A158 r153.1.Data.length c159]), (72, .int .i64 r153.2)] [.cell ⟨b140, 0, none⟩ (.slice A127 r124.1.Shape.length c128), .cell ⟨b140, 1, none⟩ (.slice A129 r124.1.Data.length c130), .cell ⟨b169, 0, none⟩ (.slice A156 r153.1.Shape.length c157), .cell ⟨b169, 1, none⟩ (.slice A158 r153.1.Data.length c159)] hf276 (by kernel_rfl) ⟨(hm278.cell 9 rfl rfl), (hm278.cell 9 rfl rfl), (hm278.cell 6 rfl rfl), (hm278.cell 6 rfl rfl), trivial⟩ fun a279 hf280 => ?_
    refine listOf hf280 rfl (by kernel_rfl) (aCall (fid := 22) (args := [.agg #[.slice A127 r124.1.Shape.length c128, .slice A129 r124.1.Data.length c130], .int .i64 r124.2, .agg #[.slice A156 r153.1.Shape.length c157, .slice A158 r153.1.Data.length c159], .int .i64 r153.2]) (d := 73) hf280 (by kernel_rfl) (by kernel_rfl) callable22 (law4_same.calls _ _ r124.1 A127 r124.1.Shape.length c128 rfl A129 r124.1.Data.length c130 rfl r124.2 r153.1 A156 r153.1.Shape.length c157 rfl A158 r153.1.Data.length c159 rfl r153.2 (hm278.give [10, 11, 7, 8] [.sl (Kd.int .i64) A127 c128 r124.1.Shape, .sl Kd.float A129 c130 r124.1.Data, .sl (Kd.int .i64) A156 c157 r153.1.Shape, .sl Kd.float A158 c159 r153.1.Data] rfl rfl) r243 hr243) ?_)
    rintro _ w281 a282 ⟨rfl, hk284⟩ hf283
    have hm285 := hm278.still hk284.cum.none
    rw [c244] at hf283
    refine go 9 [] [4] [(4, .bool false)] [] hf283 (by kernel_rfl) trivial fun a286 hf287 => ?_
    refine endL rfl ?_
    have hm288 := hm285.sel [] _ rfl (by kernel_rfl)
    refine thenN ?_
    refine wp_ret ?_
    have hm289 : Mem [] M w0 [] w281 := hm288.sel [] _ rfl (by kernel_rfl)
    obtain rfl := Option.some.inj H0
    refine ret [] [.bool false] [] hf287 (by kernel_rfl) trivial ?_
    exact ⟨_, rfl, rfl, hm289⟩
  obtain ⟨r245, hr245, H0⟩ := ob_split H0
  refine inReg ?_
  refine go 4 [.agg #[.slice A69 r66.1.Shape.length c70, .slice A71 r66.1.Data.length c72], .agg #[.slice A98 r95.1.Shape.length c99, .slice A100 r95.1.Data.length c101]] [9, 10, 11, 12, 13, 14, 15, 16, 63, 64, 65, 66] [(9, .pointer (some ⟨b140, 0, none⟩)), (10, .int .i64 r124.2), (11, .pointer (some ⟨b169, 0, none⟩)), (12, .int .i64 r153.2), (13, .pointer (some ⟨b198, 0, none⟩)), (14, .int .i64 r182.2), (15, .pointer (some ⟨b227, 0, none⟩)), (16, .int .i64 r211.2), (63, .agg #[.slice A69 r66.1.Shape.length c70, .slice A71 r66.1.Data.length c72]), (64, .int .i64 r66.2), (65, .agg #[.slice A98 r95.1.Shape.length c99, .slice A100 r95.1.Data.length c101]), (66, .int .i64 r95.2)] [.cell ⟨b82, 0, none⟩ (.slice A69 r66.1.Shape.length c70), .cell ⟨b82, 1, none⟩ (.slice A71 r66.1.Data.length c72), .cell ⟨b111, 0, none⟩ (.slice A98 r95.1.Shape.length c99), .cell ⟨b111, 1, none⟩ (.slice A100 r95.1.Data.length c101)] hf239 (by kernel_rfl) ⟨(hm240.cell 15 rfl rfl), (hm240.cell 15 rfl rfl), (hm240.cell 12 rfl rfl), (hm240.cell 12 rfl rfl), trivial⟩ fun a246 hf247 => ?_
  refine listOf hf247 rfl (by kernel_rfl) (aCall (fid := 22) (args := [.agg #[.slice A69 r66.1.Shape.length c70, .slice A71 r66.1.Data.length c72], .int .i64 r66.2, .agg #[.slice A98 r95.1.Shape.length c99, .slice A100 r95.1.Data.length c101], .int .i64 r95.2]) (d := 67) hf247 (by kernel_rfl) (by kernel_rfl) callable22 (law4_same.calls _ _ r66.1 A69 r66.1.Shape.length c70 rfl A71 r66.1.Data.length c72 rfl r66.2 r95.1 A98 r95.1.Shape.length c99 rfl A100 r95.1.Data.length c101 rfl r95.2 (hm240.give [16, 17, 13, 14] [.sl (Kd.int .i64) A69 c70 r66.1.Shape, .sl Kd.float A71 c72 r66.1.Data, .sl (Kd.int .i64) A98 c99 r95.1.Shape, .sl Kd.float A100 c101 r95.1.Data] rfl rfl) r241 hr241) ?_)
  rintro _ w248 a249 ⟨rfl, hk251⟩ hf250
  have hm252 := hm240.still hk251.cum.none
  rw [c242] at hf250
  refine go 5 [.agg #[.slice A127 r124.1.Shape.length c128, .slice A129 r124.1.Data.length c130], .agg #[.slice A156 r153.1.Shape.length c157, .slice A158 r153.1.Data.length c159]] [13, 14, 15, 16, 68, 69, 70, 71, 72] [(13, .pointer (some ⟨b198, 0, none⟩)), (14, .int .i64 r182.2), (15, .pointer (some ⟨b227, 0, none⟩)), (16, .int .i64 r211.2), (68, .bool true), (69, .agg #[.slice A127 r124.1.Shape.length c128, .slice A129 r124.1.Data.length c130]), (70, .int .i64 r124.2), (71, .agg #[.slice A156 r153.1.Shape.length c157, .slice A158 r153.1.Data.length c159]), (72, .int .i64 r153.2)] [.cell ⟨b140, 0, none⟩ (.slice A127 r124.1.Shape.length c128), .cell ⟨b140, 1, none⟩ (.slice A129 r124.1.Data.length c130), .cell ⟨b169, 0, none⟩ (.slice A156 r153.1.Shape.length c157), .cell ⟨b169, 1, none⟩ (.slice A158 r153.1.Data.length c159)] hf250 (by kernel_rfl) ⟨(hm252.cell 9 rfl rfl), (hm252.cell 9 rfl rfl), (hm252.cell 6 rfl rfl), (hm252.cell 6 rfl rfl), trivial⟩ fun a253 hf254 => ?_
  refine listOf hf254 rfl (by kernel_rfl) (aCall (fid := 22) (args := [.agg #[.slice A127 r124.1.Shape.length c128, .slice A129 r124.1.Data.length c130], .int .i64 r124.2, .agg #[.slice A156 r153.1.Shape.length c157, .slice A158 r153.1.Data.length c159], .int .i64 r153.2]) (d := 73) hf254 (by kernel_rfl) (by kernel_rfl) callable22 (law4_same.calls _ _ r124.1 A127 r124.1.Shape.length c128 rfl A129 r124.1.Data.length c130 rfl r124.2 r153.1 A156 r153.1.Shape.length c157 rfl A158 r153.1.Data.length c159 rfl r153.2 (hm252.give [10, 11, 7, 8] [.sl (Kd.int .i64) A127 c128 r124.1.Shape, .sl Kd.float A129 c130 r124.1.Data, .sl (Kd.int .i64) A156 c157 r153.1.Shape, .sl Kd.float A158 c159 r153.1.Data] rfl rfl) r243 hr243) ?_)
  rintro _ w255 a256 ⟨rfl, hk258⟩ hf257
  have hm259 := hm252.still hk258.cum.none
  rw [c244] at hf257
  refine go 6 [.agg #[.slice A185 r182.1.Shape.length c186, .slice A187 r182.1.Data.length c188], .agg #[.slice A214 r211.1.Shape.length c215, .slice A216 r211.1.Data.length c217]] [75, 76, 77, 78, 79] [(75, .bool true), (76, .agg #[.slice A185 r182.1.Shape.length c186, .slice A187 r182.1.Data.length c188]), (77, .int .i64 r182.2), (78, .agg #[.slice A214 r211.1.Shape.length c215, .slice A216 r211.1.Data.length c217]), (79, .int .i64 r211.2)] [.cell ⟨b198, 0, none⟩ (.slice A185 r182.1.Shape.length c186), .cell ⟨b198, 1, none⟩ (.slice A187 r182.1.Data.length c188), .cell ⟨b227, 0, none⟩ (.slice A214 r211.1.Shape.length c215), .cell ⟨b227, 1, none⟩ (.slice A216 r211.1.Data.length c217)] hf257 (by kernel_rfl) ⟨(hm259.cell 3 rfl rfl), (hm259.cell 3 rfl rfl), (hm259.cell 0 rfl rfl), (hm259.cell 0 rfl rfl), trivial⟩ fun a260 hf261 => ?_
  refine listOf hf261 rfl (by kernel_rfl) (aCall (fid := 22) (args := [.agg #[.slice A185 r182.1.Shape.length c186, .slice A187 r182.1.Data.length c188], .int .i64 r182.2, .agg #[.slice A214 r211.1.Shape.length c215, .slice A216 r211.1.Data.length c217], .int .i64 r211.2]) (d := 80) hf261 (by kernel_rfl) (by kernel_rfl) callable22 (law4_same.calls _ _ r182.1 A185 r182.1.Shape.length c186 rfl A187 r182.1.Data.length c188 rfl r182.2 r211.1 A214 r211.1.Shape.length c215 rfl A216 r211.1.Data.length c217 rfl r211.2 (hm259.give [4, 5, 1, 2] [.sl (Kd.int .i64) A185 c186 r182.1.Shape, .sl Kd.float A187 c188 r182.1.Data, .sl (Kd.int .i64) A214 c215 r211.1.Shape, .sl Kd.float A216 c217 r211.1.Data] rfl rfl) r245 hr245) ?_)
  rintro _ w262 a263 ⟨rfl, hk265⟩ hf264
  have hm266 := hm259.still hk265.cum.none
  refine go 2 [] [4] [(4, .bool r245)] [] hf264 (by kernel_rfl) trivial fun a267 hf268 => ?_
  refine endL rfl ?_
  have hm269 := hm266.sel [] _ rfl (by kernel_rfl)
  refine thenN ?_
  refine wp_ret ?_
  have hm270 : Mem [] M w0 [] w262 := hm269.sel [] _ rfl (by kernel_rfl)
  obtain rfl := Option.some.inj H0
  refine ret [] [.bool r245] [] hf268 (by kernel_rfl) trivial ?_
  exact ⟨_, rfl, rfl, hm270⟩
end Go.Proofs.Ytkcgiolledmbnac
