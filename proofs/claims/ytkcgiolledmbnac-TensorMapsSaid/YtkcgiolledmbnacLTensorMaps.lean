/- Printed by gen.py. -/
import Derived.Test.YtkcgiolledmbnacF4
import Derived.Test.YtkcgiolledmbnacF5
import Derived.Test.YtkcgiolledmbnacF6
namespace Go.Proofs.Ytkcgiolledmbnac
open Go Go.RowKit
set_option linter.unusedSimpArgs false
set_option linter.unusedVariables false
set_option linter.unnecessarySimpa false
/-! ### backstitch/backstitchlaw3.TensorMaps -/
noncomputable def law3_TensorMaps.l0 (x0 : Tensor) (r73 : Tensor) (x1 : Nat) (r99 : Tensor) (s151 : Int) : Step Int (Out2 Int Bool) :=
  if s151 < (x0.Data.length : Int) then (if 0 ≤ s151 ∧ s151 < (r73.Data.length : Int) then (if 0 ≤ s151 ∧ s151 < (x0.Data.length : Int) then (bindS (ref1_Same.f (rd r73.Data s151) (fadd (rd x0.Data s151) x1)) fun r163 =>
  if r163 = true then (if 0 ≤ s151 ∧ s151 < (r99.Data.length : Int) then (bindS (math_Sqrt.f (fadd (rd x0.Data s151) x1)) fun r166 =>
  bindS (ref1_Same.f (rd r99.Data s151) r166) fun r167 =>
  if r167 = true then (.next (w64 (s151 + 1)))
  else (.done (.ret false)))
  else .bad)
  else (.done (.ret false)))
  else .bad)
  else .bad)
  else (.done (.go s151))
noncomputable def law3_TensorMaps.f (x0 : Tensor) (x1 : Nat) : Option Bool :=
  (law3_awake.f).bind fun r30 =>
  if r30 = true then ((law3_Small.f x0).bind fun r39 =>
  if r39 = true then ((ref1_TensorMay.f x0).bind fun r41 =>
  if r41 = true then ((tensor_Map_law3_adder_add.f x0 (⟨x1⟩ : Adder)).bind fun r73 =>
  (tensor_Map_law3_adder_add.f x0 (⟨x1⟩ : Adder)).bind fun r98 =>
  (tensor_Map_math_Sqrt.f r98).bind fun r99 =>
  if (r73.Data.length : Int) = (x0.Data.length : Int) then (if (r99.Data.length : Int) = (x0.Data.length : Int) then ((ref1_SameInts.f r73.Shape x0.Shape).bind fun r138 =>
  if r138 = true then ((loop (law3_TensorMaps.l0 x0 r73 x1 r99) 0).bind fun r152 =>
  r152.on (fun yr152 =>
  some true) (fun y => some y))
  else (some false))
  else (some false))
  else (some false))
  else (some true))
  else (some true))
  else (some false)
set_option maxRecDepth 100000 in
set_option maxHeartbeats 4000000 in
theorem law3_TensorMaps.calls (M : List (Option Nat)) (w0 : World) (x0 : Tensor) (A0_0 : Option Addr) (n0_0 c0_0 : Nat) (e0_0 : n0_0 = x0.Shape.length) (A0_1 : Option Addr) (n0_1 c0_1 : Nat) (e0_1 : n0_1 = x0.Data.length) (x1 : Nat) (b1 : Nat) (h1 : FR b1 x1) (hm0 : Mem [] M w0 [.sl (Kd.int .i64) A0_0 c0_0 x0.Shape, .sl Kd.float A0_1 c0_1 x0.Data] w0) (r : Bool) (H0 : law3_TensorMaps.f x0 x1 = some r) :
    Calls Try.prog 3 [.agg #[.slice A0_0 n0_0 c0_0, .slice A0_1 n0_1 c0_1], .float .f64 b1].toArray w0 (fun x w' => ∃ v, x = .returned v ∧ v = .bool r ∧ Mem [] M w0 [] w') := by
  subst e0_0
  subst e0_1
  unfold law3_TensorMaps.f at H0
  refine enter (n := 92) Try.func3 rfl rfl (by kernel_rfl) fun a0 (hf0 : Fr 92 a0 [(0, .agg #[.slice A0_0 x0.Shape.length c0_0, .slice A0_1 x0.Data.length c0_1]), (1, .float .f64 b1)]) => ?_
  refine wp_seq ?_
  refine inReg ?_
  refine listOf hf0 rfl (by kernel_rfl) (aNew (cs := [.slice A0_0 x0.Shape.length c0_0, .slice A0_1 x0.Data.length c0_1]) (T := 25) (d := 2) hf0 (by kernel_rfl) (by kernel_rfl) ?_)
  intro b21 w22 a23 hbb21 hx25 hg26 hf24
  have hm27 := hm0.box hbb21 hx25 hg26
  refine go 1 [] [1, 2] [(1, .float .f64 b1), (2, .pointer (some ⟨b21, 0, none⟩))] [] hf24 (by kernel_rfl) trivial fun a28 hf29 => ?_
  refine endL rfl ?_
  refine thenN ?_
  refine wp_seq ?_
  refine wp_seq ?_
  obtain ⟨r30, hr30, H0⟩ := ob_split H0
  rcases ifb_split H0 with ⟨c31, H0⟩ | ⟨c31, H0⟩
  rotate_left
  · refine inReg ?_
    refine listOf hf29 rfl (by kernel_rfl) (aCall (fid := 6) (args := []) (d := 9) hf29 (by kernel_rfl) (by kernel_rfl) callable6 (law3_awake.calls _ _  (hm27.give [] [] rfl rfl) r30 hr30) ?_)
    rintro _ w569 a570 ⟨rfl, hk572⟩ hf571
    have hm573 := hm27.still hk572.cum.none
    rw [c31] at hf571
    refine go 1 [] [1, 2, 10] [(1, .float .f64 b1), (2, .pointer (some ⟨b21, 0, none⟩)), (10, .bool true)] [] hf571 (by kernel_rfl) trivial fun a574 hf575 => ?_
    refine endL rfl ?_
    refine thenN ?_
    refine condT hf575 (by kernel_rfl) ?_
    refine wp_seq ?_
    refine reg [] [4] [(4, .bool false)] [] hf575 (by kernel_rfl) trivial fun a576 hf577 => ?_
    have hm578 := hm573.sel [] _ rfl (by kernel_rfl)
    refine thenN ?_
    refine wp_ret ?_
    refine thenR ?_
    have hm579 : Mem [] M w0 [] w569 := hm578.sel [] _ rfl (by kernel_rfl)
    obtain rfl := Option.some.inj H0
    refine ret [] [.bool false] [] hf577 (by kernel_rfl) trivial ?_
    exact ⟨_, rfl, rfl, hm579⟩
  refine inReg ?_
  refine listOf hf29 rfl (by kernel_rfl) (aCall (fid := 6) (args := []) (d := 9) hf29 (by kernel_rfl) (by kernel_rfl) callable6 (law3_awake.calls _ _  (hm27.give [] [] rfl rfl) r30 hr30) ?_)
  rintro _ w32 a33 ⟨rfl, hk35⟩ hf34
  have hm36 := hm27.still hk35.cum.none
  rw [c31] at hf34
  refine go 1 [] [1, 2, 10] [(1, .float .f64 b1), (2, .pointer (some ⟨b21, 0, none⟩)), (10, .bool false)] [] hf34 (by kernel_rfl) trivial fun a37 hf38 => ?_
  refine endL rfl ?_
  refine thenN ?_
  refine condF hf38 (by kernel_rfl) ?_
  refine wp_skip ?_
  refine thenN ?_
  refine wp_seq ?_
  refine wp_seq ?_
  obtain ⟨r39, hr39, H0⟩ := ob_split H0
  rcases ifb_split H0 with ⟨c40, H0⟩ | ⟨c40, H0⟩
  rotate_left
  · refine inReg ?_
    refine go 1 [.agg #[.slice A0_0 x0.Shape.length c0_0, .slice A0_1 x0.Data.length c0_1]] [1, 2, 11] [(1, .float .f64 b1), (2, .pointer (some ⟨b21, 0, none⟩)), (11, .agg #[.slice A0_0 x0.Shape.length c0_0, .slice A0_1 x0.Data.length c0_1])] [.cell ⟨b21, 0, none⟩ (.slice A0_0 x0.Shape.length c0_0), .cell ⟨b21, 1, none⟩ (.slice A0_1 x0.Data.length c0_1)] hf38 (by kernel_rfl) ⟨(hm36.cell 0 rfl rfl), (hm36.cell 0 rfl rfl), trivial⟩ fun a555 hf556 => ?_
    refine listOf hf556 rfl (by kernel_rfl) (aCall (fid := 7) (args := [.agg #[.slice A0_0 x0.Shape.length c0_0, .slice A0_1 x0.Data.length c0_1]]) (d := 12) hf556 (by kernel_rfl) (by kernel_rfl) callable7 (law3_Small.calls _ _ x0 A0_0 x0.Shape.length c0_0 rfl A0_1 x0.Data.length c0_1 rfl (hm36.give [1, 2] [.sl (Kd.int .i64) A0_0 c0_0 x0.Shape, .sl Kd.float A0_1 c0_1 x0.Data] rfl rfl) r39 hr39) ?_)
    rintro _ w557 a558 ⟨rfl, hk560⟩ hf559
    have hm561 := hm36.still hk560.cum.none
    rw [c40] at hf559
    refine go 6 [] [1, 2, 18] [(1, .float .f64 b1), (2, .pointer (some ⟨b21, 0, none⟩)), (18, .bool true)] [] hf559 (by kernel_rfl) trivial fun a562 hf563 => ?_
    refine endL rfl ?_
    refine thenN ?_
    refine condT hf563 (by kernel_rfl) ?_
    refine wp_seq ?_
    refine reg [] [4] [(4, .bool true)] [] hf563 (by kernel_rfl) trivial fun a564 hf565 => ?_
    have hm566 := hm561.sel [] _ rfl (by kernel_rfl)
    refine thenN ?_
    refine wp_ret ?_
    refine thenR ?_
    have hm567 : Mem [] M w0 [] w557 := hm566.sel [] _ rfl (by kernel_rfl)
    obtain rfl := Option.some.inj H0
    refine ret [] [.bool true] [] hf565 (by kernel_rfl) trivial ?_
    exact ⟨_, rfl, rfl, hm567⟩
  obtain ⟨r41, hr41, H0⟩ := ob_split H0
  rcases ifb_split H0 with ⟨c42, H0⟩ | ⟨c42, H0⟩
  rotate_left
  · refine inReg ?_
    refine go 1 [.agg #[.slice A0_0 x0.Shape.length c0_0, .slice A0_1 x0.Data.length c0_1]] [1, 2, 11] [(1, .float .f64 b1), (2, .pointer (some ⟨b21, 0, none⟩)), (11, .agg #[.slice A0_0 x0.Shape.length c0_0, .slice A0_1 x0.Data.length c0_1])] [.cell ⟨b21, 0, none⟩ (.slice A0_0 x0.Shape.length c0_0), .cell ⟨b21, 1, none⟩ (.slice A0_1 x0.Data.length c0_1)] hf38 (by kernel_rfl) ⟨(hm36.cell 0 rfl rfl), (hm36.cell 0 rfl rfl), trivial⟩ fun a534 hf535 => ?_
    refine listOf hf535 rfl (by kernel_rfl) (aCall (fid := 7) (args := [.agg #[.slice A0_0 x0.Shape.length c0_0, .slice A0_1 x0.Data.length c0_1]]) (d := 12) hf535 (by kernel_rfl) (by kernel_rfl) callable7 (law3_Small.calls _ _ x0 A0_0 x0.Shape.length c0_0 rfl A0_1 x0.Data.length c0_1 rfl (hm36.give [1, 2] [.sl (Kd.int .i64) A0_0 c0_0 x0.Shape, .sl Kd.float A0_1 c0_1 x0.Data] rfl rfl) r39 hr39) ?_)
    rintro _ w536 a537 ⟨rfl, hk539⟩ hf538
    have hm540 := hm36.still hk539.cum.none
    rw [c40] at hf538
    refine go 3 [.agg #[.slice A0_0 x0.Shape.length c0_0, .slice A0_1 x0.Data.length c0_1]] [1, 2, 14, 15] [(1, .float .f64 b1), (2, .pointer (some ⟨b21, 0, none⟩)), (14, .bool false), (15, .agg #[.slice A0_0 x0.Shape.length c0_0, .slice A0_1 x0.Data.length c0_1])] [.cell ⟨b21, 0, none⟩ (.slice A0_0 x0.Shape.length c0_0), .cell ⟨b21, 1, none⟩ (.slice A0_1 x0.Data.length c0_1)] hf538 (by kernel_rfl) ⟨(hm540.cell 0 rfl rfl), (hm540.cell 0 rfl rfl), trivial⟩ fun a541 hf542 => ?_
    refine listOf hf542 rfl (by kernel_rfl) (aCall (fid := 8) (args := [.agg #[.slice A0_0 x0.Shape.length c0_0, .slice A0_1 x0.Data.length c0_1]]) (d := 16) hf542 (by kernel_rfl) (by kernel_rfl) callable8 (ref1_TensorMay.calls _ _ x0 A0_0 x0.Shape.length c0_0 rfl A0_1 x0.Data.length c0_1 rfl (hm540.give [1, 2] [.sl (Kd.int .i64) A0_0 c0_0 x0.Shape, .sl Kd.float A0_1 c0_1 x0.Data] rfl rfl) r41 hr41) ?_)
    rintro _ w543 a544 ⟨rfl, hk546⟩ hf545
    have hm547 := hm540.still hk546.cum.none
    rw [c42] at hf545
    refine go 2 [] [1, 2, 18] [(1, .float .f64 b1), (2, .pointer (some ⟨b21, 0, none⟩)), (18, .bool true)] [] hf545 (by kernel_rfl) trivial fun a548 hf549 => ?_
    refine endL rfl ?_
    refine thenN ?_
    refine condT hf549 (by kernel_rfl) ?_
    refine wp_seq ?_
    refine reg [] [4] [(4, .bool true)] [] hf549 (by kernel_rfl) trivial fun a550 hf551 => ?_
    have hm552 := hm547.sel [] _ rfl (by kernel_rfl)
    refine thenN ?_
    refine wp_ret ?_
    refine thenR ?_
    have hm553 : Mem [] M w0 [] w543 := hm552.sel [] _ rfl (by kernel_rfl)
    obtain rfl := Option.some.inj H0
    refine ret [] [.bool true] [] hf551 (by kernel_rfl) trivial ?_
    exact ⟨_, rfl, rfl, hm553⟩
  refine inReg ?_
  refine go 1 [.agg #[.slice A0_0 x0.Shape.length c0_0, .slice A0_1 x0.Data.length c0_1]] [1, 2, 11] [(1, .float .f64 b1), (2, .pointer (some ⟨b21, 0, none⟩)), (11, .agg #[.slice A0_0 x0.Shape.length c0_0, .slice A0_1 x0.Data.length c0_1])] [.cell ⟨b21, 0, none⟩ (.slice A0_0 x0.Shape.length c0_0), .cell ⟨b21, 1, none⟩ (.slice A0_1 x0.Data.length c0_1)] hf38 (by kernel_rfl) ⟨(hm36.cell 0 rfl rfl), (hm36.cell 0 rfl rfl), trivial⟩ fun a43 hf44 => ?_
  refine listOf hf44 rfl (by kernel_rfl) (aCall (fid := 7) (args := [.agg #[.slice A0_0 x0.Shape.length c0_0, .slice A0_1 x0.Data.length c0_1]]) (d := 12) hf44 (by kernel_rfl) (by kernel_rfl) callable7 (law3_Small.calls _ _ x0 A0_0 x0.Shape.length c0_0 rfl A0_1 x0.Data.length c0_1 rfl (hm36.give [1, 2] [.sl (Kd.int .i64) A0_0 c0_0 x0.Shape, .sl Kd.float A0_1 c0_1 x0.Data] rfl rfl) r39 hr39) ?_)
  rintro _ w45 a46 ⟨rfl, hk48⟩ hf47
  have hm49 := hm36.still hk48.cum.none
  rw [c40] at hf47
  refine go 3 [.agg #[.slice A0_0 x0.Shape.length c0_0, .slice A0_1 x0.Data.length c0_1]] [1, 2, 14, 15] [(1, .float .f64 b1), (2, .pointer (some ⟨b21, 0, none⟩)), (14, .bool false), (15, .agg #[.slice A0_0 x0.Shape.length c0_0, .slice A0_1 x0.Data.length c0_1])] [.cell ⟨b21, 0, none⟩ (.slice A0_0 x0.Shape.length c0_0), .cell ⟨b21, 1, none⟩ (.slice A0_1 x0.Data.length c0_1)] hf47 (by kernel_rfl) ⟨(hm49.cell 0 rfl rfl), (hm49.cell 0 rfl rfl), trivial⟩ fun a50 hf51 => ?_
  refine listOf hf51 rfl (by kernel_rfl) (aCall (fid := 8) (args := [.agg #[.slice A0_0 x0.Shape.length c0_0, .slice A0_1 x0.Data.length c0_1]]) (d := 16) hf51 (by kernel_rfl) (by kernel_rfl) callable8 (ref1_TensorMay.calls _ _ x0 A0_0 x0.Shape.length c0_0 rfl A0_1 x0.Data.length c0_1 rfl (hm49.give [1, 2] [.sl (Kd.int .i64) A0_0 c0_0 x0.Shape, .sl Kd.float A0_1 c0_1 x0.Data] rfl rfl) r41 hr41) ?_)
  rintro _ w52 a53 ⟨rfl, hk55⟩ hf54
  have hm56 := hm49.still hk55.cum.none
  rw [c42] at hf54
  refine go 2 [] [1, 2, 18] [(1, .float .f64 b1), (2, .pointer (some ⟨b21, 0, none⟩)), (18, .bool false)] [] hf54 (by kernel_rfl) trivial fun a57 hf58 => ?_
  refine endL rfl ?_
  refine thenN ?_
  refine condF hf58 (by kernel_rfl) ?_
  refine wp_skip ?_
  refine thenN ?_
  refine wp_seq ?_
  refine inReg ?_
  refine go 2 [] [1, 2, 20] [(1, .float .f64 b1), (2, .pointer (some ⟨b21, 0, none⟩)), (20, .agg #[.float .f64 b1])] [] hf58 (by kernel_rfl) trivial fun a59 hf60 => ?_
  refine listOf hf60 rfl (by kernel_rfl) (aNew (cs := [.float .f64 0]) (T := 30) (d := 5) hf60 (by kernel_rfl) (by kernel_rfl) ?_)
  intro b61 w62 a63 hbb61 hx66 hg67 hf65
  have hm68 := hm56.box hbb61 hx66 hg67
  refine listOf hf65 rfl (by kernel_rfl) (aStoreB (b := b61) (j := 0) (T := 30) (cs := [.float .f64 0]) (us := [.float .f64 b1]) (cs' := [.float .f64 b1]) hf65 (by kernel_rfl) (hm68.bxAt 0 rfl) (by kernel_rfl) (by kernel_rfl) (by kernel_rfl) ?_)
  intro w69 hx70 hg71
  have hm72 := hm68.setBox 0 _ rfl rfl hx70 hg71
  refine endL rfl ?_
  refine thenN ?_
  refine wp_seq ?_
  obtain ⟨r73, hr73, H0⟩ := ob_split H0
  refine inReg ?_
  refine go 3 [.agg #[.slice A0_0 x0.Shape.length c0_0, .slice A0_1 x0.Data.length c0_1], .agg #[.float .f64 b1]] [1, 2, 5, 21, 23] [(1, .float .f64 b1), (2, .pointer (some ⟨b21, 0, none⟩)), (5, .pointer (some ⟨b61, 0, none⟩)), (21, .agg #[.slice A0_0 x0.Shape.length c0_0, .slice A0_1 x0.Data.length c0_1]), (23, .func (.func 10) #[.agg #[.float .f64 b1]] #[])] [.cell ⟨b21, 0, none⟩ (.slice A0_0 x0.Shape.length c0_0), .cell ⟨b21, 1, none⟩ (.slice A0_1 x0.Data.length c0_1), .cell ⟨b61, 0, none⟩ (.float .f64 b1)] hf65 (by kernel_rfl) ⟨(hm72.cell 1 rfl rfl), (hm72.cell 1 rfl rfl), (hm72.cell 0 rfl rfl), trivial⟩ fun a74 hf75 => ?_
  refine listOf hf75 rfl (by kernel_rfl) (aCall (fid := 9) (args := [.agg #[.slice A0_0 x0.Shape.length c0_0, .slice A0_1 x0.Data.length c0_1], .func (.func 10) #[.agg #[.float .f64 b1]] #[]]) (d := 24) hf75 (by kernel_rfl) (by kernel_rfl) callable9 (tensor_Map_law3_adder_add.calls _ _ x0 A0_0 x0.Shape.length c0_0 rfl A0_1 x0.Data.length c0_1 rfl (⟨x1⟩ : Adder) b1 h1 (hm72.give [2, 3] [.sl (Kd.int .i64) A0_0 c0_0 x0.Shape, .sl Kd.float A0_1 c0_1 x0.Data] rfl rfl) r73 hr73) ?_)
  rintro _ w80 a81 ⟨A76, c77, A78, c79, rfl, hk83⟩ hf82
  have hm84 := hm72.back hk83
  have hm85 := hm84.seal 0 _ rfl rfl
  have hm86 := hm85.seal 1 _ rfl rfl
  refine listOf hf82 rfl (by kernel_rfl) (aNew (cs := [.slice none 0 0, .slice none 0 0]) (T := 25) (d := 6) hf82 (by kernel_rfl) (by kernel_rfl) ?_)
  intro b87 w88 a89 hbb87 hx91 hg92 hf90
  have hm93 := hm86.box hbb87 hx91 hg92
  refine listOf hf90 rfl (by kernel_rfl) (aStoreB (b := b87) (j := 0) (T := 25) (cs := [.slice none 0 0, .slice none 0 0]) (us := [.slice A76 r73.Shape.length c77, .slice A78 r73.Data.length c79]) (cs' := [.slice A76 r73.Shape.length c77, .slice A78 r73.Data.length c79]) hf90 (by kernel_rfl) (hm93.bxAt 0 rfl) (by kernel_rfl) (by kernel_rfl) (by kernel_rfl) ?_)
  intro w94 hx95 hg96
  have hm97 := hm93.setBox 0 _ rfl rfl hx95 hg96
  refine endL rfl ?_
  refine thenN ?_
  refine wp_seq ?_
  obtain ⟨r98, hr98, H0⟩ := ob_split H0
  obtain ⟨r99, hr99, H0⟩ := ob_split H0
  refine inReg ?_
  refine go 3 [.agg #[.slice A0_0 x0.Shape.length c0_0, .slice A0_1 x0.Data.length c0_1], .agg #[.float .f64 b1]] [1, 2, 6, 25, 27] [(1, .float .f64 b1), (2, .pointer (some ⟨b21, 0, none⟩)), (6, .pointer (some ⟨b87, 0, none⟩)), (25, .agg #[.slice A0_0 x0.Shape.length c0_0, .slice A0_1 x0.Data.length c0_1]), (27, .func (.func 10) #[.agg #[.float .f64 b1]] #[])] [.cell ⟨b21, 0, none⟩ (.slice A0_0 x0.Shape.length c0_0), .cell ⟨b21, 1, none⟩ (.slice A0_1 x0.Data.length c0_1), .cell ⟨b61, 0, none⟩ (.float .f64 b1)] hf90 (by kernel_rfl) ⟨(hm97.cell 4 rfl rfl), (hm97.cell 4 rfl rfl), (hm97.cell 3 rfl rfl), trivial⟩ fun a100 hf101 => ?_
  refine listOf hf101 rfl (by kernel_rfl) (aCall (fid := 9) (args := [.agg #[.slice A0_0 x0.Shape.length c0_0, .slice A0_1 x0.Data.length c0_1], .func (.func 10) #[.agg #[.float .f64 b1]] #[]]) (d := 28) hf101 (by kernel_rfl) (by kernel_rfl) callable9 (tensor_Map_law3_adder_add.calls _ _ x0 A0_0 x0.Shape.length c0_0 rfl A0_1 x0.Data.length c0_1 rfl (⟨x1⟩ : Adder) b1 h1 (hm97.give [5, 6] [.sl (Kd.int .i64) A0_0 c0_0 x0.Shape, .sl Kd.float A0_1 c0_1 x0.Data] rfl rfl) r98 hr98) ?_)
  rintro _ w106 a107 ⟨A102, c103, A104, c105, rfl, hk109⟩ hf108
  have hm110 := hm97.back hk109
  have hm111 := hm110.seal 0 _ rfl rfl
  have hm112 := hm111.seal 1 _ rfl rfl
  refine listOf hf108 rfl (by kernel_rfl) (aCall (fid := 9) (args := [.agg #[.slice A102 r98.Shape.length c103, .slice A104 r98.Data.length c105], .func (.func 11) #[] #[]]) (d := 29) hf108 (by kernel_rfl) (by kernel_rfl) callable9 (tensor_Map_math_Sqrt.calls _ _ r98 A102 r98.Shape.length c103 rfl A104 r98.Data.length c105 rfl (hm112.give [0, 1] [.sl (Kd.int .i64) A102 c103 r98.Shape, .sl Kd.float A104 c105 r98.Data] rfl rfl) r99 hr99) ?_)
  rintro _ w117 a118 ⟨A113, c114, A115, c116, rfl, hk120⟩ hf119
  have hm121 := hm112.back hk120
  have hm122 := hm121.seal 0 _ rfl rfl
  have hm123 := hm122.seal 1 _ rfl rfl
  refine listOf hf119 rfl (by kernel_rfl) (aNew (cs := [.slice none 0 0, .slice none 0 0]) (T := 25) (d := 7) hf119 (by kernel_rfl) (by kernel_rfl) ?_)
  intro b124 w125 a126 hbb124 hx128 hg129 hf127
  have hm130 := hm123.box hbb124 hx128 hg129
  refine listOf hf127 rfl (by kernel_rfl) (aStoreB (b := b124) (j := 0) (T := 25) (cs := [.slice none 0 0, .slice none 0 0]) (us := [.slice A113 r99.Shape.length c114, .slice A115 r99.Data.length c116]) (cs' := [.slice A113 r99.Shape.length c114, .slice A115 r99.Data.length c116]) hf127 (by kernel_rfl) (hm130.bxAt 0 rfl) (by kernel_rfl) (by kernel_rfl) (by kernel_rfl) ?_)
  intro w131 hx132 hg133
  have hm134 := hm130.setBox 0 _ rfl rfl hx132 hg133
  refine endL rfl ?_
  have hm135 := hm134.sel [0, 1, 2, 5, 6, 7, 9, 10, 11] _ rfl (by kernel_rfl)
  refine thenN ?_
  refine wp_seq ?_
  refine wp_seq ?_
  rcases if_split H0 with ⟨c136, H0⟩ | ⟨c136, H0⟩
  rotate_left
  · refine reg [.slice A78 r73.Data.length c79, .slice A0_1 x0.Data.length c0_1, .bool true] [1, 2, 6, 7, 53] [(1, .float .f64 b1), (2, .pointer (some ⟨b21, 0, none⟩)), (6, .pointer (some ⟨b87, 0, none⟩)), (7, .pointer (some ⟨b124, 0, none⟩)), (53, .bool true)] [.cell ⟨b87, 1, none⟩ (.slice A78 r73.Data.length c79), .cell ⟨b21, 1, none⟩ (.slice A0_1 x0.Data.length c0_1), .is ((((r73.Data.length : Int) : Int) != (x0.Data.length : Int)) = true)] hf127 (by kernel_rfl) ⟨(hm135.cell 3 rfl rfl), (hm135.cell 6 rfl rfl), (neT c136), trivial⟩ fun a527 hf528 => ?_
    refine thenN ?_
    refine condT hf528 (by kernel_rfl) ?_
    refine wp_seq ?_
    refine reg [] [4] [(4, .bool false)] [] hf528 (by kernel_rfl) trivial fun a529 hf530 => ?_
    have hm531 := hm135.sel [] _ rfl (by kernel_rfl)
    refine thenN ?_
    refine wp_ret ?_
    refine thenR ?_
    have hm532 : Mem [] M w0 [] w131 := hm531.sel [] _ rfl (by kernel_rfl)
    obtain rfl := Option.some.inj H0
    refine ret [] [.bool false] [] hf530 (by kernel_rfl) trivial ?_
    exact ⟨_, rfl, rfl, hm532⟩
  rcases if_split H0 with ⟨c137, H0⟩ | ⟨c137, H0⟩
  rotate_left
  · refine reg [.slice A78 r73.Data.length c79, .slice A0_1 x0.Data.length c0_1, .bool false, .slice A115 r99.Data.length c116, .slice A0_1 x0.Data.length c0_1, .bool true] [1, 2, 6, 7, 53] [(1, .float .f64 b1), (2, .pointer (some ⟨b21, 0, none⟩)), (6, .pointer (some ⟨b87, 0, none⟩)), (7, .pointer (some ⟨b124, 0, none⟩)), (53, .bool true)] [.cell ⟨b87, 1, none⟩ (.slice A78 r73.Data.length c79), .cell ⟨b21, 1, none⟩ (.slice A0_1 x0.Data.length c0_1), .is ((((r73.Data.length : Int) : Int) != (x0.Data.length : Int)) = false), .cell ⟨b124, 1, none⟩ (.slice A115 r99.Data.length c116), .cell ⟨b21, 1, none⟩ (.slice A0_1 x0.Data.length c0_1), .is ((((r99.Data.length : Int) : Int) != (x0.Data.length : Int)) = true)] hf127 (by kernel_rfl) ⟨(hm135.cell 3 rfl rfl), (hm135.cell 6 rfl rfl), (neF c136), (hm135.cell 0 rfl rfl), (hm135.cell 6 rfl rfl), (neT c137), trivial⟩ fun a520 hf521 => ?_
    refine thenN ?_
    refine condT hf521 (by kernel_rfl) ?_
    refine wp_seq ?_
    refine reg [] [4] [(4, .bool false)] [] hf521 (by kernel_rfl) trivial fun a522 hf523 => ?_
    have hm524 := hm135.sel [] _ rfl (by kernel_rfl)
    refine thenN ?_
    refine wp_ret ?_
    refine thenR ?_
    have hm525 : Mem [] M w0 [] w131 := hm524.sel [] _ rfl (by kernel_rfl)
    obtain rfl := Option.some.inj H0
    refine ret [] [.bool false] [] hf523 (by kernel_rfl) trivial ?_
    exact ⟨_, rfl, rfl, hm525⟩
  obtain ⟨r138, hr138, H0⟩ := ob_split H0
  rcases ifb_split H0 with ⟨c139, H0⟩ | ⟨c139, H0⟩
  rotate_left
  · refine inReg ?_
    refine go 21 [.slice A78 r73.Data.length c79, .slice A0_1 x0.Data.length c0_1, .bool false, .slice A115 r99.Data.length c116, .slice A0_1 x0.Data.length c0_1, .bool false, .slice A76 r73.Shape.length c77, .slice A0_0 x0.Shape.length c0_0] [1, 2, 6, 7, 46, 48, 50] [(1, .float .f64 b1), (2, .pointer (some ⟨b21, 0, none⟩)), (6, .pointer (some ⟨b87, 0, none⟩)), (7, .pointer (some ⟨b124, 0, none⟩)), (46, .bool false), (48, .slice A76 r73.Shape.length c77), (50, .slice A0_0 x0.Shape.length c0_0)] [.cell ⟨b87, 1, none⟩ (.slice A78 r73.Data.length c79), .cell ⟨b21, 1, none⟩ (.slice A0_1 x0.Data.length c0_1), .is ((((r73.Data.length : Int) : Int) != (x0.Data.length : Int)) = false), .cell ⟨b124, 1, none⟩ (.slice A115 r99.Data.length c116), .cell ⟨b21, 1, none⟩ (.slice A0_1 x0.Data.length c0_1), .is ((((r99.Data.length : Int) : Int) != (x0.Data.length : Int)) = false), .cell ⟨b87, 0, none⟩ (.slice A76 r73.Shape.length c77), .cell ⟨b21, 0, none⟩ (.slice A0_0 x0.Shape.length c0_0)] hf127 (by kernel_rfl) ⟨(hm135.cell 3 rfl rfl), (hm135.cell 6 rfl rfl), (neF c136), (hm135.cell 0 rfl rfl), (hm135.cell 6 rfl rfl), (neF c137), (hm135.cell 3 rfl rfl), (hm135.cell 6 rfl rfl), trivial⟩ fun a506 hf507 => ?_
    refine listOf hf507 rfl (by kernel_rfl) (aCall (fid := 12) (args := [.slice A76 r73.Shape.length c77, .slice A0_0 x0.Shape.length c0_0]) (d := 51) hf507 (by kernel_rfl) (by kernel_rfl) callable12 (ref1_SameInts.calls _ _ r73.Shape A76 r73.Shape.length c77 rfl x0.Shape A0_0 x0.Shape.length c0_0 rfl (hm135.give [4, 7] [.sl (Kd.int .i64) A76 c77 r73.Shape, .sl (Kd.int .i64) A0_0 c0_0 x0.Shape] rfl rfl) r138 hr138) ?_)
    rintro _ w508 a509 ⟨rfl, hk511⟩ hf510
    have hm512 := hm135.still hk511.cum.none
    rw [c139] at hf510
    refine go 2 [] [1, 2, 6, 7, 53] [(1, .float .f64 b1), (2, .pointer (some ⟨b21, 0, none⟩)), (6, .pointer (some ⟨b87, 0, none⟩)), (7, .pointer (some ⟨b124, 0, none⟩)), (53, .bool true)] [] hf510 (by kernel_rfl) trivial fun a513 hf514 => ?_
    refine endL rfl ?_
    refine thenN ?_
    refine condT hf514 (by kernel_rfl) ?_
    refine wp_seq ?_
    refine reg [] [4] [(4, .bool false)] [] hf514 (by kernel_rfl) trivial fun a515 hf516 => ?_
    have hm517 := hm512.sel [] _ rfl (by kernel_rfl)
    refine thenN ?_
    refine wp_ret ?_
    refine thenR ?_
    have hm518 : Mem [] M w0 [] w508 := hm517.sel [] _ rfl (by kernel_rfl)
    obtain rfl := Option.some.inj H0
    refine ret [] [.bool false] [] hf516 (by kernel_rfl) trivial ?_
    exact ⟨_, rfl, rfl, hm518⟩
  refine inReg ?_
  refine go 21 [.slice A78 r73.Data.length c79, .slice A0_1 x0.Data.length c0_1, .bool false, .slice A115 r99.Data.length c116, .slice A0_1 x0.Data.length c0_1, .bool false, .slice A76 r73.Shape.length c77, .slice A0_0 x0.Shape.length c0_0] [1, 2, 6, 7, 46, 48, 50] [(1, .float .f64 b1), (2, .pointer (some ⟨b21, 0, none⟩)), (6, .pointer (some ⟨b87, 0, none⟩)), (7, .pointer (some ⟨b124, 0, none⟩)), (46, .bool false), (48, .slice A76 r73.Shape.length c77), (50, .slice A0_0 x0.Shape.length c0_0)] [.cell ⟨b87, 1, none⟩ (.slice A78 r73.Data.length c79), .cell ⟨b21, 1, none⟩ (.slice A0_1 x0.Data.length c0_1), .is ((((r73.Data.length : Int) : Int) != (x0.Data.length : Int)) = false), .cell ⟨b124, 1, none⟩ (.slice A115 r99.Data.length c116), .cell ⟨b21, 1, none⟩ (.slice A0_1 x0.Data.length c0_1), .is ((((r99.Data.length : Int) : Int) != (x0.Data.length : Int)) = false), .cell ⟨b87, 0, none⟩ (.slice A76 r73.Shape.length c77), .cell ⟨b21, 0, none⟩ (.slice A0_0 x0.Shape.length c0_0)] hf127 (by kernel_rfl) ⟨(hm135.cell 3 rfl rfl), (hm135.cell 6 rfl rfl), (neF c136), (hm135.cell 0 rfl rfl), (hm135.cell 6 rfl rfl), (neF c137), (hm135.cell 3 rfl rfl), (hm135.cell 6 rfl rfl), trivial⟩ fun a140 hf141 => ?_
  refine listOf hf141 rfl (by kernel_rfl) (aCall (fid := 12) (args := [.slice A76 r73.Shape.length c77, .slice A0_0 x0.Shape.length c0_0]) (d := 51) hf141 (by kernel_rfl) (by kernel_rfl) callable12 (ref1_SameInts.calls _ _ r73.Shape A76 r73.Shape.length c77 rfl x0.Shape A0_0 x0.Shape.length c0_0 rfl (hm135.give [4, 7] [.sl (Kd.int .i64) A76 c77 r73.Shape, .sl (Kd.int .i64) A0_0 c0_0 x0.Shape] rfl rfl) r138 hr138) ?_)
  rintro _ w142 a143 ⟨rfl, hk145⟩ hf144
  have hm146 := hm135.still hk145.cum.none
  rw [c139] at hf144
  refine go 2 [] [1, 2, 6, 7, 53] [(1, .float .f64 b1), (2, .pointer (some ⟨b21, 0, none⟩)), (6, .pointer (some ⟨b87, 0, none⟩)), (7, .pointer (some ⟨b124, 0, none⟩)), (53, .bool false)] [] hf144 (by kernel_rfl) trivial fun a147 hf148 => ?_
  refine endL rfl ?_
  refine thenN ?_
  refine condF hf148 (by kernel_rfl) ?_
  refine wp_skip ?_
  refine thenN ?_
  refine wp_seq ?_
  refine wp_seq ?_
  refine reg [] [1, 2, 6, 7, 8] [(1, .float .f64 b1), (2, .pointer (some ⟨b21, 0, none⟩)), (6, .pointer (some ⟨b87, 0, none⟩)), (7, .pointer (some ⟨b124, 0, none⟩)), (8, .int .i64 0)] [] hf148 (by kernel_rfl) trivial fun a149 hf150 => ?_
  refine thenN ?_
  obtain ⟨r152, hr152, H0⟩ := ob_split H0
  refine wpBlock (Mid := fun (a : Act) (w : World) => ∃ yr152 : Int, r152 = .go yr152 ∧ Fr 92 a [(1, .float .f64 b1), (2, .pointer (some ⟨b21, 0, none⟩)), (6, .pointer (some ⟨b87, 0, none⟩)), (7, .pointer (some ⟨b124, 0, none⟩)), (8, .int .i64 yr152)] ∧ Mem [] M w0 [.bx b124 [.slice A113 r99.Shape.length c114, .slice A115 r99.Data.length c116] 25, .sl (Kd.int .i64) A113 c114 r99.Shape, .sl Kd.float A115 c116 r99.Data, .bx b87 [.slice A76 r73.Shape.length c77, .slice A78 r73.Data.length c79] 25, .sl (Kd.int .i64) A76 c77 r73.Shape, .sl Kd.float A78 c79 r73.Data, .bx b21 [.slice A0_0 x0.Shape.length c0_0, .slice A0_1 x0.Data.length c0_1] 25, .sl (Kd.int .i64) A0_0 c0_0 x0.Shape, .sl Kd.float A0_1 c0_1 x0.Data] w) ?_ ?_
  · refine wpLoop (law3_TensorMaps.l0 x0 r73 x1 r99) r152 (fun (s151 : Int) (a : Act) (w : World) => Fr 92 a [(1, .float .f64 b1), (2, .pointer (some ⟨b21, 0, none⟩)), (6, .pointer (some ⟨b87, 0, none⟩)), (7, .pointer (some ⟨b124, 0, none⟩)), (8, .int .i64 s151)] ∧ Mem [] M w0 [.bx b124 [.slice A113 r99.Shape.length c114, .slice A115 r99.Data.length c116] 25, .sl (Kd.int .i64) A113 c114 r99.Shape, .sl Kd.float A115 c116 r99.Data, .bx b87 [.slice A76 r73.Shape.length c77, .slice A78 r73.Data.length c79] 25, .sl (Kd.int .i64) A76 c77 r73.Shape, .sl Kd.float A78 c79 r73.Data, .bx b21 [.slice A0_0 x0.Shape.length c0_0, .slice A0_1 x0.Data.length c0_1] 25, .sl (Kd.int .i64) A0_0 c0_0 x0.Shape, .sl Kd.float A0_1 c0_1 x0.Data] w) 0 hr152 ⟨hf150.sel (l := [1, 2, 6, 7, 8]) (by kernel_rfl), hm146.sel [0, 1, 2, 3, 4, 5, 6, 7, 8] _ rfl (by kernel_rfl)⟩ ?_
    rintro g153 s151 a154 w155 H1 ⟨hf156, hm157⟩
    unfold law3_TensorMaps.l0 at H1
    refine wp_seq ?_
    refine wp_seq ?_
    rcases ifS_split H1 with ⟨c158, H1⟩ | ⟨c158, H1⟩
    rotate_left
    · refine reg [.slice A0_1 x0.Data.length c0_1, .bool false] [1, 2, 6, 7, 8, 58] [(1, .float .f64 b1), (2, .pointer (some ⟨b21, 0, none⟩)), (6, .pointer (some ⟨b87, 0, none⟩)), (7, .pointer (some ⟨b124, 0, none⟩)), (8, .int .i64 s151), (58, .bool false)] [.cell ⟨b21, 1, none⟩ (.slice A0_1 x0.Data.length c0_1), .is (decide (s151 < (x0.Data.length : Int)) = false)] hf156 (by kernel_rfl) ⟨(hm157.cell 6 rfl rfl), (decide_eq_false c158), trivial⟩ fun a495 hf496 => ?_
      refine thenN ?_
      refine condF hf496 (by kernel_rfl) ?_
      refine wp_exit ?_
      refine thenE ?_
      refine thenE ?_
      obtain rfl := Option.some.inj H1
      exact .inl ⟨rfl, s151, rfl, hf496.sel (l := [1, 2, 6, 7, 8]) (by kernel_rfl), hm157.sel [0, 1, 2, 3, 4, 5, 6, 7, 8] _ rfl (by kernel_rfl)⟩
    refine reg [.slice A0_1 x0.Data.length c0_1, .bool true] [1, 2, 6, 7, 8, 58] [(1, .float .f64 b1), (2, .pointer (some ⟨b21, 0, none⟩)), (6, .pointer (some ⟨b87, 0, none⟩)), (7, .pointer (some ⟨b124, 0, none⟩)), (8, .int .i64 s151), (58, .bool true)] [.cell ⟨b21, 1, none⟩ (.slice A0_1 x0.Data.length c0_1), .is (decide (s151 < (x0.Data.length : Int)) = true)] hf156 (by kernel_rfl) ⟨(hm157.cell 6 rfl rfl), (decide_eq_true c158), trivial⟩ fun a159 hf160 => ?_
    refine thenN ?_
    refine condT hf160 (by kernel_rfl) ?_
    refine wp_skip ?_
    refine thenN ?_
    refine wp_seq ?_
    refine wp_block ?_
    refine wp_seq ?_
    obtain ⟨g161, H1⟩ := ifS_guard H1
    obtain ⟨g162, H1⟩ := ifS_guard H1
    obtain ⟨r163, hr163, H1⟩ := obS_split H1
    rcases ifbS_split H1 with ⟨c164, H1⟩ | ⟨c164, H1⟩
    rotate_left
    · refine midReg (fun (a : Act) (w : World) => Fr 92 a [(1, .float .f64 b1), (2, .pointer (some ⟨b21, 0, none⟩)), (6, .pointer (some ⟨b87, 0, none⟩)), (7, .pointer (some ⟨b124, 0, none⟩)), (8, .int .i64 s151), (91, .bool true)] ∧ Mem [] M w0 [.bx b124 [.slice A113 r99.Shape.length c114, .slice A115 r99.Data.length c116] 25, .sl (Kd.int .i64) A113 c114 r99.Shape, .sl Kd.float A115 c116 r99.Data, .bx b87 [.slice A76 r73.Shape.length c77, .slice A78 r73.Data.length c79] 25, .sl (Kd.int .i64) A76 c77 r73.Shape, .sl Kd.float A78 c79 r73.Data, .bx b21 [.slice A0_0 x0.Shape.length c0_0, .slice A0_1 x0.Data.length c0_1] 25, .sl (Kd.int .i64) A0_0 c0_0 x0.Shape, .sl Kd.float A0_1 c0_1 x0.Data] w) ?_ ?_
      · refine anyG [] (by kernel_rfl) fun w445 hg446 => ?_
        have hm447 := hm157.still hg446
        have q467 := (hm447.slAt 5 rfl).float s151 g161.1 g161.2
        obtain ⟨b468, hb468, kb468⟩ := q467.2
        have q469 := (hm447.slAt 8 rfl).float s151 g162.1 g162.2
        obtain ⟨b470, hb470, kb470⟩ := q469.2
        refine quiet0 [0, 1, 2, 3, 4, 5, 6, 7, 8, 9, 10] [.slice A78 r73.Data.length c79, .float .f64 b468, .slice A0_1 x0.Data.length c0_1, .float .f64 b470] [1, 2, 6, 7, 8, 65, 70, 71] #[true, true, true, true, true, true, true, true, true, true, true, false, false, false, false, false, false, false, false, false, false, false, false, false, false, false, false, false, false, false, false] [(1, .float .f64 b1), (2, .pointer (some ⟨b21, 0, none⟩)), (6, .pointer (some ⟨b87, 0, none⟩)), (7, .pointer (some ⟨b124, 0, none⟩)), (8, .int .i64 s151), (65, .float .f64 b468), (70, .float .f64 b470), (71, .float .f64 b1)] [.cell ⟨b87, 1, none⟩ (.slice A78 r73.Data.length c79), .is (Option.isSome A78 = true), .is (0 ≤ s151 ∧ s151 < (r73.Data.length : Int)), .cell ((ad A78).add ((s151).toNat * 1)) (.float .f64 b468), .cell ⟨b21, 1, none⟩ (.slice A0_1 x0.Data.length c0_1), .is (Option.isSome A0_1 = true), .is (0 ≤ s151 ∧ s151 < (x0.Data.length : Int)), .cell ((ad A0_1).add ((s151).toNat * 1)) (.float .f64 b470)] 20 rfl (by kernel_rfl) (fun _ _ _ _ _ h => nomatch h.1) hf160 (by kernel_rfl) ⟨(hm447.cell 3 rfl rfl), q467.1, g161, kb468, (hm447.cell 6 rfl rfl), q469.1, g162, kb470, trivial⟩ fun a471 hf472 => ?_
        refine all1 11 (by kernel_rfl) ?_
        refine opOf hf472 rfl (by kernel_rfl) (aArith (k := 0) (b := b470) (c := b1) (x := (rd x0.Data s151)) (y := x1) (d := 72) hf472 (by kernel_rfl) (by kernel_rfl) hb470 h1 ?_)
        intro b473 w474 a475 hb473 hg477 hf476
        refine ⟨.inr (Gr.still hg477), ?_⟩
        replace hb473 : FR b473 (fadd (rd x0.Data s151) x1) := hb473
        have hm478 := hm447.still hg477
        refine all1 12 (by kernel_rfl) ?_
        refine opOf hf476 rfl (by kernel_rfl) (aCall (fid := 13) (args := [.float .f64 b468, .float .f64 b473]) (d := 73) hf476 (by kernel_rfl) (by kernel_rfl) callable13 (ref1_Same.calls _ _ (rd r73.Data s151) b468 hb468 (fadd (rd x0.Data s151) x1) b473 hb473 (hm478.give [] [] rfl rfl) r163 hr163) ?_)
        rintro _ w479 a480 ⟨rfl, hk482⟩ hf481
        refine ⟨.inr (Gr.still hk482.cum.none), ?_⟩
        have hm483 := hm478.still hk482.cum.none
        rw [c164] at hf481
        refine quiet0 [13, 14, 15, 16, 17, 18, 19, 20, 21, 22, 23, 24, 25, 26, 27, 28, 29, 30] [] [1, 2, 6, 7, 8, 91] #[true, true, true, true, true, true, true, true, true, true, true, true, true, true, true, true, true, true, true, true, true, true, true, true, true, true, true, true, true, true, true] [(1, .float .f64 b1), (2, .pointer (some ⟨b21, 0, none⟩)), (6, .pointer (some ⟨b87, 0, none⟩)), (7, .pointer (some ⟨b124, 0, none⟩)), (8, .int .i64 s151), (91, .bool true)] [] 0 rfl (by kernel_rfl) (fun _ _ _ _ _ h => nomatch h.1) hf481 (by kernel_rfl) trivial fun a484 hf485 => ?_
        refine allDone (by kernel_rfl) ⟨rfl, hf485.sel (l := [1, 2, 6, 7, 8, 91]) (by kernel_rfl), hm483.sel [0, 1, 2, 3, 4, 5, 6, 7, 8] _ rfl (by kernel_rfl)⟩
      rintro a486 w487 ⟨hf488, hm489⟩
      refine thenN ?_
      refine condT hf488 (by kernel_rfl) ?_
      refine wp_seq ?_
      refine reg [] [4] [(4, .bool false)] [] hf488 (by kernel_rfl) trivial fun a490 hf491 => ?_
      have hm492 := hm489.sel [] _ rfl (by kernel_rfl)
      refine thenN ?_
      refine wp_ret ?_
      refine blkR ?_
      refine thenR ?_
      refine thenR ?_
      refine .inr ⟨rfl, ?_⟩
      refine thenR ?_
      have hm493 : Mem [] M w0 [] w487 := hm492.sel [] _ rfl (by kernel_rfl)
      obtain rfl := Option.some.inj H1
      obtain rfl := Option.some.inj H0
      refine ret [] [.bool false] [] hf491 (by kernel_rfl) trivial ?_
      exact ⟨_, rfl, rfl, hm493⟩
    obtain ⟨g165, H1⟩ := ifS_guard H1
    obtain ⟨r166, hr166, H1⟩ := obS_split H1
    obtain ⟨r167, hr167, H1⟩ := obS_split H1
    rcases ifbS_split H1 with ⟨c168, H1⟩ | ⟨c168, H1⟩
    · refine midReg (fun (a : Act) (w : World) => Fr 92 a [(1, .float .f64 b1), (2, .pointer (some ⟨b21, 0, none⟩)), (6, .pointer (some ⟨b87, 0, none⟩)), (7, .pointer (some ⟨b124, 0, none⟩)), (8, .int .i64 s151), (91, .bool false)] ∧ Mem [] M w0 [.bx b124 [.slice A113 r99.Shape.length c114, .slice A115 r99.Data.length c116] 25, .sl (Kd.int .i64) A113 c114 r99.Shape, .sl Kd.float A115 c116 r99.Data, .bx b87 [.slice A76 r73.Shape.length c77, .slice A78 r73.Data.length c79] 25, .sl (Kd.int .i64) A76 c77 r73.Shape, .sl Kd.float A78 c79 r73.Data, .bx b21 [.slice A0_0 x0.Shape.length c0_0, .slice A0_1 x0.Data.length c0_1] 25, .sl (Kd.int .i64) A0_0 c0_0 x0.Shape, .sl Kd.float A0_1 c0_1 x0.Data] w) ?_ ?_
      · refine anyG [] (by kernel_rfl) fun w205 hg206 => ?_
        have hm207 := hm157.still hg206
        have q250 := (hm207.slAt 5 rfl).float s151 g161.1 g161.2
        obtain ⟨b251, hb251, kb251⟩ := q250.2
        have q252 := (hm207.slAt 8 rfl).float s151 g162.1 g162.2
        obtain ⟨b253, hb253, kb253⟩ := q252.2
        refine quiet0 [0, 1, 2, 3, 4, 5, 6, 7, 8, 9, 10] [.slice A78 r73.Data.length c79, .float .f64 b251, .slice A0_1 x0.Data.length c0_1, .float .f64 b253] [1, 2, 6, 7, 8, 65, 70, 71] #[true, true, true, true, true, true, true, true, true, true, true, false, false, false, false, false, false, false, false, false, false, false, false, false, false, false, false, false, false, false, false] [(1, .float .f64 b1), (2, .pointer (some ⟨b21, 0, none⟩)), (6, .pointer (some ⟨b87, 0, none⟩)), (7, .pointer (some ⟨b124, 0, none⟩)), (8, .int .i64 s151), (65, .float .f64 b251), (70, .float .f64 b253), (71, .float .f64 b1)] [.cell ⟨b87, 1, none⟩ (.slice A78 r73.Data.length c79), .is (Option.isSome A78 = true), .is (0 ≤ s151 ∧ s151 < (r73.Data.length : Int)), .cell ((ad A78).add ((s151).toNat * 1)) (.float .f64 b251), .cell ⟨b21, 1, none⟩ (.slice A0_1 x0.Data.length c0_1), .is (Option.isSome A0_1 = true), .is (0 ≤ s151 ∧ s151 < (x0.Data.length : Int)), .cell ((ad A0_1).add ((s151).toNat * 1)) (.float .f64 b253)] 20 rfl (by kernel_rfl) (fun _ _ _ _ _ h => nomatch h.1) hf160 (by kernel_rfl) ⟨(hm207.cell 3 rfl rfl), q250.1, g161, kb251, (hm207.cell 6 rfl rfl), q252.1, g162, kb253, trivial⟩ fun a254 hf255 => ?_
        refine all1 11 (by kernel_rfl) ?_
        refine opOf hf255 rfl (by kernel_rfl) (aArith (k := 0) (b := b253) (c := b1) (x := (rd x0.Data s151)) (y := x1) (d := 72) hf255 (by kernel_rfl) (by kernel_rfl) hb253 h1 ?_)
        intro b256 w257 a258 hb256 hg260 hf259
        refine ⟨.inr (Gr.still hg260), ?_⟩
        replace hb256 : FR b256 (fadd (rd x0.Data s151) x1) := hb256
        have hm261 := hm207.still hg260
        refine all1 12 (by kernel_rfl) ?_
        refine opOf hf259 rfl (by kernel_rfl) (aCall (fid := 13) (args := [.float .f64 b251, .float .f64 b256]) (d := 73) hf259 (by kernel_rfl) (by kernel_rfl) callable13 (ref1_Same.calls _ _ (rd r73.Data s151) b251 hb251 (fadd (rd x0.Data s151) x1) b256 hb256 (hm261.give [] [] rfl rfl) r163 hr163) ?_)
        rintro _ w262 a263 ⟨rfl, hk265⟩ hf264
        refine ⟨.inr (Gr.still hk265.cum.none), ?_⟩
        have hm266 := hm261.still hk265.cum.none
        rw [c164] at hf264
        have q267 := (hm266.slAt 2 rfl).float s151 g165.1 g165.2
        obtain ⟨b268, hb268, kb268⟩ := q267.2
        have q269 := (hm266.slAt 8 rfl).float s151 g162.1 g162.2
        obtain ⟨b270, hb270, kb270⟩ := q269.2
        refine quiet0 [13, 14, 15, 16, 17, 18, 19, 20, 21, 22, 23, 24, 25] [.slice A115 r99.Data.length c116, .float .f64 b268, .slice A0_1 x0.Data.length c0_1, .float .f64 b270] [1, 2, 6, 7, 8, 75, 80, 85, 86] #[true, true, true, true, true, true, true, true, true, true, true, true, true, true, true, true, true, true, true, true, true, true, true, true, true, true, false, false, false, false, false] [(1, .float .f64 b1), (2, .pointer (some ⟨b21, 0, none⟩)), (6, .pointer (some ⟨b87, 0, none⟩)), (7, .pointer (some ⟨b124, 0, none⟩)), (8, .int .i64 s151), (75, .bool false), (80, .float .f64 b268), (85, .float .f64 b270), (86, .float .f64 b1)] [.cell ⟨b124, 1, none⟩ (.slice A115 r99.Data.length c116), .is (Option.isSome A115 = true), .is (0 ≤ s151 ∧ s151 < (r99.Data.length : Int)), .cell ((ad A115).add ((s151).toNat * 1)) (.float .f64 b268), .cell ⟨b21, 1, none⟩ (.slice A0_1 x0.Data.length c0_1), .is (Option.isSome A0_1 = true), .is (0 ≤ s151 ∧ s151 < (x0.Data.length : Int)), .cell ((ad A0_1).add ((s151).toNat * 1)) (.float .f64 b270)] 5 rfl (by kernel_rfl) (fun _ _ _ _ _ h => nomatch h.1) hf264 (by kernel_rfl) ⟨(hm266.cell 0 rfl rfl), q267.1, g165, kb268, (hm266.cell 6 rfl rfl), q269.1, g162, kb270, trivial⟩ fun a271 hf272 => ?_
        refine all1 26 (by kernel_rfl) ?_
        refine opOf hf272 rfl (by kernel_rfl) (aArith (k := 0) (b := b270) (c := b1) (x := (rd x0.Data s151)) (y := x1) (d := 87) hf272 (by kernel_rfl) (by kernel_rfl) hb270 h1 ?_)
        intro b273 w274 a275 hb273 hg277 hf276
        refine ⟨.inr (Gr.still hg277), ?_⟩
        replace hb273 : FR b273 (fadd (rd x0.Data s151) x1) := hb273
        have hm278 := hm266.still hg277
        refine all1 27 (by kernel_rfl) ?_
        refine opOf hf276 rfl (by kernel_rfl) (aCall (fid := 11) (args := [.float .f64 b273]) (d := 88) hf276 (by kernel_rfl) (by kernel_rfl) callable11 (math_Sqrt.calls _ _ (fadd (rd x0.Data s151) x1) b273 hb273 (hm278.give [] [] rfl rfl) r166 hr166) ?_)
        rintro _ w280 a281 ⟨b279, rfl, hb279, hk283⟩ hf282
        refine ⟨.inr (Gr.still hk283.cum.none), ?_⟩
        have hm284 := hm278.still hk283.cum.none
        refine all1 28 (by kernel_rfl) ?_
        refine opOf hf282 rfl (by kernel_rfl) (aCall (fid := 13) (args := [.float .f64 b268, .float .f64 b279]) (d := 89) hf282 (by kernel_rfl) (by kernel_rfl) callable13 (ref1_Same.calls _ _ (rd r99.Data s151) b268 hb268 r166 b279 hb279 (hm284.give [] [] rfl rfl) r167 hr167) ?_)
        rintro _ w285 a286 ⟨rfl, hk288⟩ hf287
        refine ⟨.inr (Gr.still hk288.cum.none), ?_⟩
        have hm289 := hm284.still hk288.cum.none
        rw [c168] at hf287
        refine quiet0 [29, 30] [] [1, 2, 6, 7, 8, 91] #[true, true, true, true, true, true, true, true, true, true, true, true, true, true, true, true, true, true, true, true, true, true, true, true, true, true, true, true, true, true, true] [(1, .float .f64 b1), (2, .pointer (some ⟨b21, 0, none⟩)), (6, .pointer (some ⟨b87, 0, none⟩)), (7, .pointer (some ⟨b124, 0, none⟩)), (8, .int .i64 s151), (91, .bool false)] [] 0 rfl (by kernel_rfl) (fun _ _ _ _ _ h => nomatch h.1) hf287 (by kernel_rfl) trivial fun a290 hf291 => ?_
        refine allDone (by kernel_rfl) ⟨rfl, hf291.sel (l := [1, 2, 6, 7, 8, 91]) (by kernel_rfl), hm289.sel [0, 1, 2, 3, 4, 5, 6, 7, 8] _ rfl (by kernel_rfl)⟩
      rintro a292 w293 ⟨hf294, hm295⟩
      refine thenN ?_
      refine condF hf294 (by kernel_rfl) ?_
      refine wp_skip ?_
      refine blkN ?_
      refine thenN ?_
      refine reg [] [1, 2, 6, 7, 8] [(1, .float .f64 b1), (2, .pointer (some ⟨b21, 0, none⟩)), (6, .pointer (some ⟨b87, 0, none⟩)), (7, .pointer (some ⟨b124, 0, none⟩)), (8, .int .i64 (w64 (s151 + 1)))] [] hf294 (by kernel_rfl) trivial fun a296 hf297 => ?_
      exact ⟨(w64 (s151 + 1)), H1, hf297.sel (l := [1, 2, 6, 7, 8]) (by kernel_rfl), hm295.sel [0, 1, 2, 3, 4, 5, 6, 7, 8] _ rfl (by kernel_rfl)⟩
    refine midReg (fun (a : Act) (w : World) => Fr 92 a [(1, .float .f64 b1), (2, .pointer (some ⟨b21, 0, none⟩)), (6, .pointer (some ⟨b87, 0, none⟩)), (7, .pointer (some ⟨b124, 0, none⟩)), (8, .int .i64 s151), (91, .bool true)] ∧ Mem [] M w0 [.bx b124 [.slice A113 r99.Shape.length c114, .slice A115 r99.Data.length c116] 25, .sl (Kd.int .i64) A113 c114 r99.Shape, .sl Kd.float A115 c116 r99.Data, .bx b87 [.slice A76 r73.Shape.length c77, .slice A78 r73.Data.length c79] 25, .sl (Kd.int .i64) A76 c77 r73.Shape, .sl Kd.float A78 c79 r73.Data, .bx b21 [.slice A0_0 x0.Shape.length c0_0, .slice A0_1 x0.Data.length c0_1] 25, .sl (Kd.int .i64) A0_0 c0_0 x0.Shape, .sl Kd.float A0_1 c0_1 x0.Data] w) ?_ ?_
    · refine anyG [] (by kernel_rfl) fun w334 hg335 => ?_
      have hm336 := hm157.still hg335
      have q379 := (hm336.slAt 5 rfl).float s151 g161.1 g161.2
      obtain ⟨b380, hb380, kb380⟩ := q379.2
      have q381 := (hm336.slAt 8 rfl).float s151 g162.1 g162.2
      obtain ⟨b382, hb382, kb382⟩ := q381.2
      refine quiet0 [0, 1, 2, 3, 4, 5, 6, 7, 8, 9, 10] [.slice A78 r73.Data.length c79, .float .f64 b380, .slice A0_1 x0.Data.length c0_1, .float .f64 b382] [1, 2, 6, 7, 8, 65, 70, 71] #[true, true, true, true, true, true, true, true, true, true, true, false, false, false, false, false, false, false, false, false, false, false, false, false, false, false, false, false, false, false, false] [(1, .float .f64 b1), (2, .pointer (some ⟨b21, 0, none⟩)), (6, .pointer (some ⟨b87, 0, none⟩)), (7, .pointer (some ⟨b124, 0, none⟩)), (8, .int .i64 s151), (65, .float .f64 b380), (70, .float .f64 b382), (71, .float .f64 b1)] [.cell ⟨b87, 1, none⟩ (.slice A78 r73.Data.length c79), .is (Option.isSome A78 = true), .is (0 ≤ s151 ∧ s151 < (r73.Data.length : Int)), .cell ((ad A78).add ((s151).toNat * 1)) (.float .f64 b380), .cell ⟨b21, 1, none⟩ (.slice A0_1 x0.Data.length c0_1), .is (Option.isSome A0_1 = true), .is (0 ≤ s151 ∧ s151 < (x0.Data.length : Int)), .cell ((ad A0_1).add ((s151).toNat * 1)) (.float .f64 b382)] 20 rfl (by kernel_rfl) (fun _ _ _ _ _ h => nomatch h.1) hf160 (by kernel_rfl) ⟨(hm336.cell 3 rfl rfl), q379.1, g161, kb380, (hm336.cell 6 rfl rfl), q381.1, g162, kb382, trivial⟩ fun a383 hf384 => ?_
      refine all1 11 (by kernel_rfl) ?_
      refine opOf hf384 rfl (by kernel_rfl) (aArith (k := 0) (b := b382) (c := b1) (x := (rd x0.Data s151)) (y := x1) (d := 72) hf384 (by kernel_rfl) (by kernel_rfl) hb382 h1 ?_)
      intro b385 w386 a387 hb385 hg389 hf388
      refine ⟨.inr (Gr.still hg389), ?_⟩
      replace hb385 : FR b385 (fadd (rd x0.Data s151) x1) := hb385
      have hm390 := hm336.still hg389
      refine all1 12 (by kernel_rfl) ?_
      refine opOf hf388 rfl (by kernel_rfl) (aCall (fid := 13) (args := [.float .f64 b380, .float .f64 b385]) (d := 73) hf388 (by kernel_rfl) (by kernel_rfl) callable13 (ref1_Same.calls _ _ (rd r73.Data s151) b380 hb380 (fadd (rd x0.Data s151) x1) b385 hb385 (hm390.give [] [] rfl rfl) r163 hr163) ?_)
      rintro _ w391 a392 ⟨rfl, hk394⟩ hf393
      refine ⟨.inr (Gr.still hk394.cum.none), ?_⟩
      have hm395 := hm390.still hk394.cum.none
      rw [c164] at hf393
      have q396 := (hm395.slAt 2 rfl).float s151 g165.1 g165.2
      obtain ⟨b397, hb397, kb397⟩ := q396.2
      have q398 := (hm395.slAt 8 rfl).float s151 g162.1 g162.2
      obtain ⟨b399, hb399, kb399⟩ := q398.2
      refine quiet0 [13, 14, 15, 16, 17, 18, 19, 20, 21, 22, 23, 24, 25] [.slice A115 r99.Data.length c116, .float .f64 b397, .slice A0_1 x0.Data.length c0_1, .float .f64 b399] [1, 2, 6, 7, 8, 75, 80, 85, 86] #[true, true, true, true, true, true, true, true, true, true, true, true, true, true, true, true, true, true, true, true, true, true, true, true, true, true, false, false, false, false, false] [(1, .float .f64 b1), (2, .pointer (some ⟨b21, 0, none⟩)), (6, .pointer (some ⟨b87, 0, none⟩)), (7, .pointer (some ⟨b124, 0, none⟩)), (8, .int .i64 s151), (75, .bool false), (80, .float .f64 b397), (85, .float .f64 b399), (86, .float .f64 b1)] [.cell ⟨b124, 1, none⟩ (.slice A115 r99.Data.length c116), .is (Option.isSome A115 = true), .is (0 ≤ s151 ∧ s151 < (r99.Data.length : Int)), .cell ((ad A115).add ((s151).toNat * 1)) (.float .f64 b397), .cell ⟨b21, 1, none⟩ (.slice A0_1 x0.Data.length c0_1), .is (Option.isSome A0_1 = true), .is (0 ≤ s151 ∧ s151 < (x0.Data.length : Int)), .cell ((ad A0_1).add ((s151).toNat * 1)) (.float .f64 b399)] 5 rfl (by kernel_rfl) (fun _ _ _ _ _ h => nomatch h.1) hf393 (by kernel_rfl) ⟨(hm395.cell 0 rfl rfl), q396.1, g165, kb397, (hm395.cell 6 rfl rfl), q398.1, g162, kb399, trivial⟩ fun a400 hf401 => ?_
      refine all1 26 (by kernel_rfl) ?_
      refine opOf hf401 rfl (by kernel_rfl) (aArith (k := 0) (b := b399) (c := b1) (x := (rd x0.Data s151)) (y := x1) (d := 87) hf401 (by kernel_rfl) (by kernel_rfl) hb399 h1 ?_)
      intro b402 w403 a404 hb402 hg406 hf405
      refine ⟨.inr (Gr.still hg406), ?_⟩
      replace hb402 : FR b402 (fadd (rd x0.Data s151) x1) := hb402
      have hm407 := hm395.still hg406
      refine all1 27 (by kernel_rfl) ?_
      refine opOf hf405 rfl (by kernel_rfl) (aCall (fid := 11) (args := [.float .f64 b402]) (d := 88) hf405 (by kernel_rfl) (by kernel_rfl) callable11 (math_Sqrt.calls _ _ (fadd (rd x0.Data s151) x1) b402 hb402 (hm407.give [] [] rfl rfl) r166 hr166) ?_)
      rintro _ w409 a410 ⟨b408, rfl, hb408, hk412⟩ hf411
      refine ⟨.inr (Gr.still hk412.cum.none), ?_⟩
      have hm413 := hm407.still hk412.cum.none
      refine all1 28 (by kernel_rfl) ?_
      refine opOf hf411 rfl (by kernel_rfl) (aCall (fid := 13) (args := [.float .f64 b397, .float .f64 b408]) (d := 89) hf411 (by kernel_rfl) (by kernel_rfl) callable13 (ref1_Same.calls _ _ (rd r99.Data s151) b397 hb397 r166 b408 hb408 (hm413.give [] [] rfl rfl) r167 hr167) ?_)
      rintro _ w414 a415 ⟨rfl, hk417⟩ hf416
      refine ⟨.inr (Gr.still hk417.cum.none), ?_⟩
      have hm418 := hm413.still hk417.cum.none
      rw [c168] at hf416
      refine quiet0 [29, 30] [] [1, 2, 6, 7, 8, 91] #[true, true, true, true, true, true, true, true, true, true, true, true, true, true, true, true, true, true, true, true, true, true, true, true, true, true, true, true, true, true, true] [(1, .float .f64 b1), (2, .pointer (some ⟨b21, 0, none⟩)), (6, .pointer (some ⟨b87, 0, none⟩)), (7, .pointer (some ⟨b124, 0, none⟩)), (8, .int .i64 s151), (91, .bool true)] [] 0 rfl (by kernel_rfl) (fun _ _ _ _ _ h => nomatch h.1) hf416 (by kernel_rfl) trivial fun a419 hf420 => ?_
      refine allDone (by kernel_rfl) ⟨rfl, hf420.sel (l := [1, 2, 6, 7, 8, 91]) (by kernel_rfl), hm418.sel [0, 1, 2, 3, 4, 5, 6, 7, 8] _ rfl (by kernel_rfl)⟩
    rintro a421 w422 ⟨hf423, hm424⟩
    refine thenN ?_
    refine condT hf423 (by kernel_rfl) ?_
    refine wp_seq ?_
    refine reg [] [4] [(4, .bool false)] [] hf423 (by kernel_rfl) trivial fun a425 hf426 => ?_
    have hm427 := hm424.sel [] _ rfl (by kernel_rfl)
    refine thenN ?_
    refine wp_ret ?_
    refine blkR ?_
    refine thenR ?_
    refine thenR ?_
    refine .inr ⟨rfl, ?_⟩
    refine thenR ?_
    have hm428 : Mem [] M w0 [] w422 := hm427.sel [] _ rfl (by kernel_rfl)
    obtain rfl := Option.some.inj H1
    obtain rfl := Option.some.inj H0
    refine ret [] [.bool false] [] hf426 (by kernel_rfl) trivial ?_
    exact ⟨_, rfl, rfl, hm428⟩
  rintro a497 w498 ⟨yr152, rfl, hf499, hm500⟩
  refine thenN ?_
  refine wp_seq ?_
  refine reg [] [4] [(4, .bool true)] [] hf499 (by kernel_rfl) trivial fun a501 hf502 => ?_
  have hm503 := hm500.sel [] _ rfl (by kernel_rfl)
  refine thenN ?_
  refine wp_ret ?_
  have hm504 : Mem [] M w0 [] w498 := hm503.sel [] _ rfl (by kernel_rfl)
  obtain rfl := Option.some.inj H0
  refine ret [] [.bool true] [] hf502 (by kernel_rfl) trivial ?_
  exact ⟨_, rfl, rfl, hm504⟩
end Go.Proofs.Ytkcgiolledmbnac
