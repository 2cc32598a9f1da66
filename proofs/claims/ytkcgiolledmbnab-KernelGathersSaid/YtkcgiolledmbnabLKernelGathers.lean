/- Printed by gen.py. -/
import Derived.Test.YtkcgiolledmbnabF5
import Derived.Test.YtkcgiolledmbnabF7
namespace Go.Proofs.Ytkcgiolledmbnab
open Go Go.RowKit
set_option linter.unusedSimpArgs false
set_option linter.unusedVariables false
set_option linter.unnecessarySimpa false
/-! ### backstitch/backstitchlaw4.KernelGathers -/
noncomputable def law4_KernelGathers.l0 (x0 : Tensor) (s84 : Int) : Step Int (Out2 Int Bool) :=
  if s84 < (x0.Data.length : Int) then (if 0 ≤ s84 ∧ s84 < (x0.Data.length : Int) then (if (fge (rd x0.Data s84) 13875379345695965184) = true then (if (fle (rd x0.Data s84) 4652007308841189376) = true then (bindS (ftoi (rd x0.Data s84)) fun r101 =>
  if (fne (rd x0.Data s84) (ofInt r101)) = true then (.done (.ret true))
  else (.next (w64 (s84 + 1))))
  else (.done (.ret true)))
  else (.done (.ret true)))
  else .bad)
  else (.done (.go s84))
noncomputable def law4_KernelGathers.l1 (r226 : (Tensor × Int)) (r257 : (Tensor × Int)) (s296 : Int) : Step Int (Out2 Int Bool) :=
  if s296 < (r226.1.Data.length : Int) then (if 0 ≤ s296 ∧ s296 < (r226.1.Data.length : Int) then (if 0 ≤ s296 ∧ s296 < (r257.1.Data.length : Int) then (if (fne (rd r226.1.Data s296) (rd r257.1.Data s296)) = true then (.done (.ret false))
  else (.next (w64 (s296 + 1))))
  else .bad)
  else .bad)
  else (.done (.go s296))
noncomputable def law4_KernelGathers.f (x0 : Tensor) (x1 : Int) : Option Bool :=
  (law4_awake.f).bind fun r30 =>
  if r30 = true then ((law3_Small.f x0).bind fun r39 =>
  if r39 = true then ((ref1_TensorMay.f x0).bind fun r41 =>
  if r41 = true then (if (x0.Shape.length : Int) < 2 then (some true)
  else ((loop (law4_KernelGathers.l0 x0) 0).bind fun r85 =>
  r85.on (fun yr85 =>
  if (w64 ((x0.Shape.length : Int) - 1)) ≠ 0 then (if 0 + x0.Shape.length ≤ 549755813888 then (if (0 : Int) ≤ 0 ∧ 0 < (((([] : List Int) ++ x0.Shape).length : Nat) : Int) then (if 0 ≤ (w64 (1 + (Int.tmod (w64 (x1)) (w64 ((x0.Shape.length : Int) - 1))))) ∧ (w64 (1 + (Int.tmod (w64 (x1)) (w64 ((x0.Shape.length : Int) - 1))))) ≤ (x0.Shape.length : Int) then (if 0 + (x0.Shape.length - ((w64 (1 + (Int.tmod (w64 (x1)) (w64 ((x0.Shape.length : Int) - 1)))))).toNat) ≤ 549755813888 then ((kernel_Gather.f x0 (put (([] : List Int) ++ x0.Shape) 0 1)).bind fun r195 =>
  (kernel_Gather.f r195.1 (([] : List Int) ++ ((List.take x0.Shape.length x0.Shape).drop (((w64 (1 + (Int.tmod (w64 (x1)) (w64 ((x0.Shape.length : Int) - 1)))))).toNat)))).bind fun r226 =>
  (kernel_Gather.f x0 (([] : List Int) ++ ((List.take x0.Shape.length x0.Shape).drop (((w64 (1 + (Int.tmod (w64 (x1)) (w64 ((x0.Shape.length : Int) - 1)))))).toNat)))).bind fun r257 =>
  if r195.2 = 0 then (if r226.2 = 0 then (if r257.2 = 0 then (if (r226.1.Data.length : Int) = (r257.1.Data.length : Int) then ((loop (law4_KernelGathers.l1 r226 r257) 0).bind fun r297 =>
  r297.on (fun yr297 =>
  some true) (fun y => some y))
  else (some false))
  else (some false))
  else (some false))
  else (some false))
  else none)
  else none)
  else none)
  else none)
  else none) (fun y => some y)))
  else (some true))
  else (some true))
  else (some false)
set_option maxRecDepth 100000 in
set_option maxHeartbeats 4000000 in
theorem law4_KernelGathers.calls (M : List (Option Nat)) (w0 : World) (x0 : Tensor) (A0_0 : Option Addr) (n0_0 c0_0 : Nat) (e0_0 : n0_0 = x0.Shape.length) (A0_1 : Option Addr) (n0_1 c0_1 : Nat) (e0_1 : n0_1 = x0.Data.length) (x1 : Int) (hm0 : Mem [] M w0 [.sl (Kd.int .i64) A0_0 c0_0 x0.Shape, .sl Kd.float A0_1 c0_1 x0.Data] w0) (r : Bool) (H0 : law4_KernelGathers.f x0 x1 = some r) :
    Calls Try.prog 14 [.agg #[.slice A0_0 n0_0 c0_0, .slice A0_1 n0_1 c0_1], .int .u8 x1].toArray w0 (fun x w' => ∃ v, x = .returned v ∧ v = .bool r ∧ Mem [] M w0 [] w') := by
  subst e0_0
  subst e0_1
  unfold law4_KernelGathers.f at H0
  refine enter (n := 134) Try.func14 rfl rfl (by kernel_rfl) fun a0 (hf0 : Fr 134 a0 [(0, .agg #[.slice A0_0 x0.Shape.length c0_0, .slice A0_1 x0.Data.length c0_1]), (1, .int .u8 x1)]) => ?_
  refine wp_seq ?_
  refine inReg ?_
  refine listOf hf0 rfl (by kernel_rfl) (aNew (cs := [.slice A0_0 x0.Shape.length c0_0, .slice A0_1 x0.Data.length c0_1]) (T := 28) (d := 2) hf0 (by kernel_rfl) (by kernel_rfl) ?_)
  intro b21 w22 a23 hbb21 hx25 hg26 hf24
  have hm27 := hm0.box hbb21 hx25 hg26
  refine go 1 [] [1, 2] [(1, .int .u8 x1), (2, .pointer (some ⟨b21, 0, none⟩))] [] hf24 (by kernel_rfl) trivial fun a28 hf29 => ?_
  refine endL rfl ?_
  refine thenN ?_
  refine wp_seq ?_
  refine wp_seq ?_
  obtain ⟨r30, hr30, H0⟩ := ob_split H0
  rcases ifb_split H0 with ⟨c31, H0⟩ | ⟨c31, H0⟩
  rotate_left
  · refine inReg ?_
    refine listOf hf29 rfl (by kernel_rfl) (aCall (fid := 43) (args := []) (d := 17) hf29 (by kernel_rfl) (by kernel_rfl) callable43 (law4_awake.calls _ _  (hm27.give [] [] rfl rfl) r30 hr30) ?_)
    rintro _ w408 a409 ⟨rfl, hk411⟩ hf410
    have hm412 := hm27.still hk411.cum.none
    rw [c31] at hf410
    refine go 1 [] [1, 2, 18] [(1, .int .u8 x1), (2, .pointer (some ⟨b21, 0, none⟩)), (18, .bool true)] [] hf410 (by kernel_rfl) trivial fun a413 hf414 => ?_
    refine endL rfl ?_
    refine thenN ?_
    refine condT hf414 (by kernel_rfl) ?_
    refine wp_seq ?_
    refine reg [] [4] [(4, .bool false)] [] hf414 (by kernel_rfl) trivial fun a415 hf416 => ?_
    have hm417 := hm412.sel [] _ rfl (by kernel_rfl)
    refine thenN ?_
    refine wp_ret ?_
    refine thenR ?_
    have hm418 : Mem [] M w0 [] w408 := hm417.sel [] _ rfl (by kernel_rfl)
    obtain rfl := Option.some.inj H0
    refine ret [] [.bool false] [] hf416 (by kernel_rfl) trivial ?_
    exact ⟨_, rfl, rfl, hm418⟩
  refine inReg ?_
  refine listOf hf29 rfl (by kernel_rfl) (aCall (fid := 43) (args := []) (d := 17) hf29 (by kernel_rfl) (by kernel_rfl) callable43 (law4_awake.calls _ _  (hm27.give [] [] rfl rfl) r30 hr30) ?_)
  rintro _ w32 a33 ⟨rfl, hk35⟩ hf34
  have hm36 := hm27.still hk35.cum.none
  rw [c31] at hf34
  refine go 1 [] [1, 2, 18] [(1, .int .u8 x1), (2, .pointer (some ⟨b21, 0, none⟩)), (18, .bool false)] [] hf34 (by kernel_rfl) trivial fun a37 hf38 => ?_
  refine endL rfl ?_
  refine thenN ?_
  refine condF hf38 (by kernel_rfl) ?_
  refine wp_skip ?_
  refine thenN ?_
  refine wp_seq ?_
  refine wp_seq ?_
  obtain ⟨r39, hr39, H0⟩ := ob_split H0
  rcases ifb_split H0 with ⟨c40, H0⟩ | ⟨c40, H0⟩
  rotate_left
  · refine inReg ?_
    refine go 1 [.agg #[.slice A0_0 x0.Shape.length c0_0, .slice A0_1 x0.Data.length c0_1]] [1, 2, 19] [(1, .int .u8 x1), (2, .pointer (some ⟨b21, 0, none⟩)), (19, .agg #[.slice A0_0 x0.Shape.length c0_0, .slice A0_1 x0.Data.length c0_1])] [.cell ⟨b21, 0, none⟩ (.slice A0_0 x0.Shape.length c0_0), .cell ⟨b21, 1, none⟩ (.slice A0_1 x0.Data.length c0_1)] hf38 (by kernel_rfl) ⟨(hm36.cell 0 rfl rfl), (hm36.cell 0 rfl rfl), trivial⟩ fun a394 hf395 => ?_
    refine listOf hf395 rfl (by kernel_rfl) (aCall (fid := 31) (args := [.agg #[.slice A0_0 x0.Shape.length c0_0, .slice A0_1 x0.Data.length c0_1]]) (d := 20) hf395 (by kernel_rfl) (by kernel_rfl) callable31 (law3_Small.calls _ _ x0 A0_0 x0.Shape.length c0_0 rfl A0_1 x0.Data.length c0_1 rfl (hm36.give [1, 2] [.sl (Kd.int .i64) A0_0 c0_0 x0.Shape, .sl Kd.float A0_1 c0_1 x0.Data] rfl rfl) r39 hr39) ?_)
    rintro _ w396 a397 ⟨rfl, hk399⟩ hf398
    have hm400 := hm36.still hk399.cum.none
    rw [c40] at hf398
    refine go 12 [] [1, 2, 32] [(1, .int .u8 x1), (2, .pointer (some ⟨b21, 0, none⟩)), (32, .bool true)] [] hf398 (by kernel_rfl) trivial fun a401 hf402 => ?_
    refine endL rfl ?_
    refine thenN ?_
    refine condT hf402 (by kernel_rfl) ?_
    refine wp_seq ?_
    refine reg [] [4] [(4, .bool true)] [] hf402 (by kernel_rfl) trivial fun a403 hf404 => ?_
    have hm405 := hm400.sel [] _ rfl (by kernel_rfl)
    refine thenN ?_
    refine wp_ret ?_
    refine thenR ?_
    have hm406 : Mem [] M w0 [] w396 := hm405.sel [] _ rfl (by kernel_rfl)
    obtain rfl := Option.some.inj H0
    refine ret [] [.bool true] [] hf404 (by kernel_rfl) trivial ?_
    exact ⟨_, rfl, rfl, hm406⟩
  obtain ⟨r41, hr41, H0⟩ := ob_split H0
  rcases ifb_split H0 with ⟨c42, H0⟩ | ⟨c42, H0⟩
  rotate_left
  · refine inReg ?_
    refine go 1 [.agg #[.slice A0_0 x0.Shape.length c0_0, .slice A0_1 x0.Data.length c0_1]] [1, 2, 19] [(1, .int .u8 x1), (2, .pointer (some ⟨b21, 0, none⟩)), (19, .agg #[.slice A0_0 x0.Shape.length c0_0, .slice A0_1 x0.Data.length c0_1])] [.cell ⟨b21, 0, none⟩ (.slice A0_0 x0.Shape.length c0_0), .cell ⟨b21, 1, none⟩ (.slice A0_1 x0.Data.length c0_1)] hf38 (by kernel_rfl) ⟨(hm36.cell 0 rfl rfl), (hm36.cell 0 rfl rfl), trivial⟩ fun a373 hf374 => ?_
    refine listOf hf374 rfl (by kernel_rfl) (aCall (fid := 31) (args := [.agg #[.slice A0_0 x0.Shape.length c0_0, .slice A0_1 x0.Data.length c0_1]]) (d := 20) hf374 (by kernel_rfl) (by kernel_rfl) callable31 (law3_Small.calls _ _ x0 A0_0 x0.Shape.length c0_0 rfl A0_1 x0.Data.length c0_1 rfl (hm36.give [1, 2] [.sl (Kd.int .i64) A0_0 c0_0 x0.Shape, .sl Kd.float A0_1 c0_1 x0.Data] rfl rfl) r39 hr39) ?_)
    rintro _ w375 a376 ⟨rfl, hk378⟩ hf377
    have hm379 := hm36.still hk378.cum.none
    rw [c40] at hf377
    refine go 3 [.agg #[.slice A0_0 x0.Shape.length c0_0, .slice A0_1 x0.Data.length c0_1]] [1, 2, 22, 23] [(1, .int .u8 x1), (2, .pointer (some ⟨b21, 0, none⟩)), (22, .bool false), (23, .agg #[.slice A0_0 x0.Shape.length c0_0, .slice A0_1 x0.Data.length c0_1])] [.cell ⟨b21, 0, none⟩ (.slice A0_0 x0.Shape.length c0_0), .cell ⟨b21, 1, none⟩ (.slice A0_1 x0.Data.length c0_1)] hf377 (by kernel_rfl) ⟨(hm379.cell 0 rfl rfl), (hm379.cell 0 rfl rfl), trivial⟩ fun a380 hf381 => ?_
    refine listOf hf381 rfl (by kernel_rfl) (aCall (fid := 32) (args := [.agg #[.slice A0_0 x0.Shape.length c0_0, .slice A0_1 x0.Data.length c0_1]]) (d := 24) hf381 (by kernel_rfl) (by kernel_rfl) callable32 (ref1_TensorMay.calls _ _ x0 A0_0 x0.Shape.length c0_0 rfl A0_1 x0.Data.length c0_1 rfl (hm379.give [1, 2] [.sl (Kd.int .i64) A0_0 c0_0 x0.Shape, .sl Kd.float A0_1 c0_1 x0.Data] rfl rfl) r41 hr41) ?_)
    rintro _ w382 a383 ⟨rfl, hk385⟩ hf384
    have hm386 := hm379.still hk385.cum.none
    rw [c42] at hf384
    refine go 8 [] [1, 2, 32] [(1, .int .u8 x1), (2, .pointer (some ⟨b21, 0, none⟩)), (32, .bool true)] [] hf384 (by kernel_rfl) trivial fun a387 hf388 => ?_
    refine endL rfl ?_
    refine thenN ?_
    refine condT hf388 (by kernel_rfl) ?_
    refine wp_seq ?_
    refine reg [] [4] [(4, .bool true)] [] hf388 (by kernel_rfl) trivial fun a389 hf390 => ?_
    have hm391 := hm386.sel [] _ rfl (by kernel_rfl)
    refine thenN ?_
    refine wp_ret ?_
    refine thenR ?_
    have hm392 : Mem [] M w0 [] w382 := hm391.sel [] _ rfl (by kernel_rfl)
    obtain rfl := Option.some.inj H0
    refine ret [] [.bool true] [] hf390 (by kernel_rfl) trivial ?_
    exact ⟨_, rfl, rfl, hm392⟩
  rcases if_split H0 with ⟨c43, H0⟩ | ⟨c43, H0⟩
  · refine inReg ?_
    refine go 1 [.agg #[.slice A0_0 x0.Shape.length c0_0, .slice A0_1 x0.Data.length c0_1]] [1, 2, 19] [(1, .int .u8 x1), (2, .pointer (some ⟨b21, 0, none⟩)), (19, .agg #[.slice A0_0 x0.Shape.length c0_0, .slice A0_1 x0.Data.length c0_1])] [.cell ⟨b21, 0, none⟩ (.slice A0_0 x0.Shape.length c0_0), .cell ⟨b21, 1, none⟩ (.slice A0_1 x0.Data.length c0_1)] hf38 (by kernel_rfl) ⟨(hm36.cell 0 rfl rfl), (hm36.cell 0 rfl rfl), trivial⟩ fun a44 hf45 => ?_
    refine listOf hf45 rfl (by kernel_rfl) (aCall (fid := 31) (args := [.agg #[.slice A0_0 x0.Shape.length c0_0, .slice A0_1 x0.Data.length c0_1]]) (d := 20) hf45 (by kernel_rfl) (by kernel_rfl) callable31 (law3_Small.calls _ _ x0 A0_0 x0.Shape.length c0_0 rfl A0_1 x0.Data.length c0_1 rfl (hm36.give [1, 2] [.sl (Kd.int .i64) A0_0 c0_0 x0.Shape, .sl Kd.float A0_1 c0_1 x0.Data] rfl rfl) r39 hr39) ?_)
    rintro _ w46 a47 ⟨rfl, hk49⟩ hf48
    have hm50 := hm36.still hk49.cum.none
    rw [c40] at hf48
    refine go 3 [.agg #[.slice A0_0 x0.Shape.length c0_0, .slice A0_1 x0.Data.length c0_1]] [1, 2, 22, 23] [(1, .int .u8 x1), (2, .pointer (some ⟨b21, 0, none⟩)), (22, .bool false), (23, .agg #[.slice A0_0 x0.Shape.length c0_0, .slice A0_1 x0.Data.length c0_1])] [.cell ⟨b21, 0, none⟩ (.slice A0_0 x0.Shape.length c0_0), .cell ⟨b21, 1, none⟩ (.slice A0_1 x0.Data.length c0_1)] hf48 (by kernel_rfl) ⟨(hm50.cell 0 rfl rfl), (hm50.cell 0 rfl rfl), trivial⟩ fun a51 hf52 => ?_
    refine listOf hf52 rfl (by kernel_rfl) (aCall (fid := 32) (args := [.agg #[.slice A0_0 x0.Shape.length c0_0, .slice A0_1 x0.Data.length c0_1]]) (d := 24) hf52 (by kernel_rfl) (by kernel_rfl) callable32 (ref1_TensorMay.calls _ _ x0 A0_0 x0.Shape.length c0_0 rfl A0_1 x0.Data.length c0_1 rfl (hm50.give [1, 2] [.sl (Kd.int .i64) A0_0 c0_0 x0.Shape, .sl Kd.float A0_1 c0_1 x0.Data] rfl rfl) r41 hr41) ?_)
    rintro _ w53 a54 ⟨rfl, hk56⟩ hf55
    have hm57 := hm50.still hk56.cum.none
    rw [c42] at hf55
    refine go 8 [.slice A0_0 x0.Shape.length c0_0, .bool true] [1, 2, 32] [(1, .int .u8 x1), (2, .pointer (some ⟨b21, 0, none⟩)), (32, .bool true)] [.cell ⟨b21, 0, none⟩ (.slice A0_0 x0.Shape.length c0_0), .is (decide ((x0.Shape.length : Int) < 2) = true)] hf55 (by kernel_rfl) ⟨(hm57.cell 0 rfl rfl), (decide_eq_true c43), trivial⟩ fun a58 hf59 => ?_
    refine endL rfl ?_
    refine thenN ?_
    refine condT hf59 (by kernel_rfl) ?_
    refine wp_seq ?_
    refine reg [] [4] [(4, .bool true)] [] hf59 (by kernel_rfl) trivial fun a60 hf61 => ?_
    have hm62 := hm57.sel [] _ rfl (by kernel_rfl)
    refine thenN ?_
    refine wp_ret ?_
    refine thenR ?_
    have hm63 : Mem [] M w0 [] w53 := hm62.sel [] _ rfl (by kernel_rfl)
    obtain rfl := Option.some.inj H0
    refine ret [] [.bool true] [] hf61 (by kernel_rfl) trivial ?_
    exact ⟨_, rfl, rfl, hm63⟩
  refine inReg ?_
  refine go 1 [.agg #[.slice A0_0 x0.Shape.length c0_0, .slice A0_1 x0.Data.length c0_1]] [1, 2, 19] [(1, .int .u8 x1), (2, .pointer (some ⟨b21, 0, none⟩)), (19, .agg #[.slice A0_0 x0.Shape.length c0_0, .slice A0_1 x0.Data.length c0_1])] [.cell ⟨b21, 0, none⟩ (.slice A0_0 x0.Shape.length c0_0), .cell ⟨b21, 1, none⟩ (.slice A0_1 x0.Data.length c0_1)] hf38 (by kernel_rfl) ⟨(hm36.cell 0 rfl rfl), (hm36.cell 0 rfl rfl), trivial⟩ fun a66 hf67 => ?_
  refine listOf hf67 rfl (by kernel_rfl) (aCall (fid := 31) (args := [.agg #[.slice A0_0 x0.Shape.length c0_0, .slice A0_1 x0.Data.length c0_1]]) (d := 20) hf67 (by kernel_rfl) (by kernel_rfl) callable31 (law3_Small.calls _ _ x0 A0_0 x0.Shape.length c0_0 rfl A0_1 x0.Data.length c0_1 rfl (hm36.give [1, 2] [.sl (Kd.int .i64) A0_0 c0_0 x0.Shape, .sl Kd.float A0_1 c0_1 x0.Data] rfl rfl) r39 hr39) ?_)
  rintro _ w68 a69 ⟨rfl, hk71⟩ hf70
  have hm72 := hm36.still hk71.cum.none
  rw [c40] at hf70
  refine go 3 [.agg #[.slice A0_0 x0.Shape.length c0_0, .slice A0_1 x0.Data.length c0_1]] [1, 2, 22, 23] [(1, .int .u8 x1), (2, .pointer (some ⟨b21, 0, none⟩)), (22, .bool false), (23, .agg #[.slice A0_0 x0.Shape.length c0_0, .slice A0_1 x0.Data.length c0_1])] [.cell ⟨b21, 0, none⟩ (.slice A0_0 x0.Shape.length c0_0), .cell ⟨b21, 1, none⟩ (.slice A0_1 x0.Data.length c0_1)] hf70 (by kernel_rfl) ⟨(hm72.cell 0 rfl rfl), (hm72.cell 0 rfl rfl), trivial⟩ fun a73 hf74 => ?_
  refine listOf hf74 rfl (by kernel_rfl) (aCall (fid := 32) (args := [.agg #[.slice A0_0 x0.Shape.length c0_0, .slice A0_1 x0.Data.length c0_1]]) (d := 24) hf74 (by kernel_rfl) (by kernel_rfl) callable32 (ref1_TensorMay.calls _ _ x0 A0_0 x0.Shape.length c0_0 rfl A0_1 x0.Data.length c0_1 rfl (hm72.give [1, 2] [.sl (Kd.int .i64) A0_0 c0_0 x0.Shape, .sl Kd.float A0_1 c0_1 x0.Data] rfl rfl) r41 hr41) ?_)
  rintro _ w75 a76 ⟨rfl, hk78⟩ hf77
  have hm79 := hm72.still hk78.cum.none
  rw [c42] at hf77
  refine go 8 [.slice A0_0 x0.Shape.length c0_0, .bool false] [1, 2, 32] [(1, .int .u8 x1), (2, .pointer (some ⟨b21, 0, none⟩)), (32, .bool false)] [.cell ⟨b21, 0, none⟩ (.slice A0_0 x0.Shape.length c0_0), .is (decide ((x0.Shape.length : Int) < 2) = false)] hf77 (by kernel_rfl) ⟨(hm79.cell 0 rfl rfl), (decide_eq_false c43), trivial⟩ fun a80 hf81 => ?_
  refine endL rfl ?_
  refine thenN ?_
  refine condF hf81 (by kernel_rfl) ?_
  refine wp_skip ?_
  refine thenN ?_
  refine wp_seq ?_
  refine wp_seq ?_
  refine reg [] [1, 2, 5] [(1, .int .u8 x1), (2, .pointer (some ⟨b21, 0, none⟩)), (5, .int .i64 0)] [] hf81 (by kernel_rfl) trivial fun a82 hf83 => ?_
  refine thenN ?_
  obtain ⟨r85, hr85, H0⟩ := ob_split H0
  refine wpBlock (Mid := fun (a : Act) (w : World) => ∃ yr85 : Int, r85 = .go yr85 ∧ Fr 134 a [(1, .int .u8 x1), (2, .pointer (some ⟨b21, 0, none⟩)), (5, .int .i64 yr85)] ∧ Mem [] M w0 [.bx b21 [.slice A0_0 x0.Shape.length c0_0, .slice A0_1 x0.Data.length c0_1] 28, .sl (Kd.int .i64) A0_0 c0_0 x0.Shape, .sl Kd.float A0_1 c0_1 x0.Data] w) ?_ ?_
  · refine wpLoop (law4_KernelGathers.l0 x0) r85 (fun (s84 : Int) (a : Act) (w : World) => Fr 134 a [(1, .int .u8 x1), (2, .pointer (some ⟨b21, 0, none⟩)), (5, .int .i64 s84)] ∧ Mem [] M w0 [.bx b21 [.slice A0_0 x0.Shape.length c0_0, .slice A0_1 x0.Data.length c0_1] 28, .sl (Kd.int .i64) A0_0 c0_0 x0.Shape, .sl Kd.float A0_1 c0_1 x0.Data] w) 0 hr85 ⟨hf83.sel (l := [1, 2, 5]) (by kernel_rfl), hm79.sel [0, 1, 2] _ rfl (by kernel_rfl)⟩ ?_
    rintro g86 s84 a87 w88 H1 ⟨hf89, hm90⟩
    unfold law4_KernelGathers.l0 at H1
    refine wp_seq ?_
    refine wp_seq ?_
    rcases ifS_split H1 with ⟨c91, H1⟩ | ⟨c91, H1⟩
    rotate_left
    · refine reg [.slice A0_1 x0.Data.length c0_1, .bool false] [1, 2, 5, 37] [(1, .int .u8 x1), (2, .pointer (some ⟨b21, 0, none⟩)), (5, .int .i64 s84), (37, .bool false)] [.cell ⟨b21, 1, none⟩ (.slice A0_1 x0.Data.length c0_1), .is (decide (s84 < (x0.Data.length : Int)) = false)] hf89 (by kernel_rfl) ⟨(hm90.cell 0 rfl rfl), (decide_eq_false c91), trivial⟩ fun a128 hf129 => ?_
      refine thenN ?_
      refine condF hf129 (by kernel_rfl) ?_
      refine wp_exit ?_
      refine thenE ?_
      refine thenE ?_
      obtain rfl := Option.some.inj H1
      exact .inl ⟨rfl, s84, rfl, hf129.sel (l := [1, 2, 5]) (by kernel_rfl), hm90.sel [0, 1, 2] _ rfl (by kernel_rfl)⟩
    refine reg [.slice A0_1 x0.Data.length c0_1, .bool true] [1, 2, 5, 37] [(1, .int .u8 x1), (2, .pointer (some ⟨b21, 0, none⟩)), (5, .int .i64 s84), (37, .bool true)] [.cell ⟨b21, 1, none⟩ (.slice A0_1 x0.Data.length c0_1), .is (decide (s84 < (x0.Data.length : Int)) = true)] hf89 (by kernel_rfl) ⟨(hm90.cell 0 rfl rfl), (decide_eq_true c91), trivial⟩ fun a92 hf93 => ?_
    refine thenN ?_
    refine condT hf93 (by kernel_rfl) ?_
    refine wp_skip ?_
    refine thenN ?_
    refine wp_seq ?_
    refine wp_block ?_
    refine wp_seq ?_
    obtain ⟨g94, H1⟩ := ifS_guard H1
    have q95 := (hm90.slAt 2 rfl).float s84 g94.1 g94.2
    obtain ⟨b96, hb96, kb96⟩ := q95.2
    refine reg [.slice A0_1 x0.Data.length c0_1, .float .f64 b96] [1, 2, 5, 6] [(1, .int .u8 x1), (2, .pointer (some ⟨b21, 0, none⟩)), (5, .int .i64 s84), (6, .float .f64 b96)] [.cell ⟨b21, 1, none⟩ (.slice A0_1 x0.Data.length c0_1), .is (Option.isSome A0_1 = true), .is (0 ≤ s84 ∧ s84 < (x0.Data.length : Int)), .cell ((ad A0_1).add ((s84).toNat * 1)) (.float .f64 b96)] hf93 (by kernel_rfl) ⟨(hm90.cell 0 rfl rfl), q95.1, g94, kb96, trivial⟩ fun a97 hf98 => ?_
    refine thenN ?_
    refine wp_seq ?_
    rcases ifbS_split H1 with ⟨c99, H1⟩ | ⟨c99, H1⟩
    rotate_left
    · refine reg [.bool false] [1, 2, 5, 58] [(1, .int .u8 x1), (2, .pointer (some ⟨b21, 0, none⟩)), (5, .int .i64 s84), (58, .bool true)] [.is ((FloatKind.f64.format.order b96 13875379345695965184 == some .gt || FloatKind.f64.format.order b96 13875379345695965184 == some .eq) = false)] hf98 (by kernel_rfl) ⟨(ftGe hb96 (FR.lit (by kernel_rfl) (by kernel_rfl)) c99), trivial⟩ fun a121 hf122 => ?_
      refine thenN ?_
      refine condT hf122 (by kernel_rfl) ?_
      refine wp_seq ?_
      refine reg [] [4] [(4, .bool true)] [] hf122 (by kernel_rfl) trivial fun a123 hf124 => ?_
      have hm125 := hm90.sel [] _ rfl (by kernel_rfl)
      refine thenN ?_
      refine wp_ret ?_
      refine blkR ?_
      refine thenR ?_
      refine thenR ?_
      refine .inr ⟨rfl, ?_⟩
      refine thenR ?_
      have hm126 : Mem [] M w0 [] w88 := hm125.sel [] _ rfl (by kernel_rfl)
      obtain rfl := Option.some.inj H1
      obtain rfl := Option.some.inj H0
      refine ret [] [.bool true] [] hf124 (by kernel_rfl) trivial ?_
      exact ⟨_, rfl, rfl, hm126⟩
    rcases ifbS_split H1 with ⟨c100, H1⟩ | ⟨c100, H1⟩
    rotate_left
    · refine reg [.bool true, .bool false] [1, 2, 5, 58] [(1, .int .u8 x1), (2, .pointer (some ⟨b21, 0, none⟩)), (5, .int .i64 s84), (58, .bool true)] [.is ((FloatKind.f64.format.order b96 13875379345695965184 == some .gt || FloatKind.f64.format.order b96 13875379345695965184 == some .eq) = true), .is ((FloatKind.f64.format.order b96 4652007308841189376 == some .lt || FloatKind.f64.format.order b96 4652007308841189376 == some .eq) = false)] hf98 (by kernel_rfl) ⟨(ftGe hb96 (FR.lit (by kernel_rfl) (by kernel_rfl)) c99), (ftLe hb96 (FR.lit (by kernel_rfl) (by kernel_rfl)) c100), trivial⟩ fun a114 hf115 => ?_
      refine thenN ?_
      refine condT hf115 (by kernel_rfl) ?_
      refine wp_seq ?_
      refine reg [] [4] [(4, .bool true)] [] hf115 (by kernel_rfl) trivial fun a116 hf117 => ?_
      have hm118 := hm90.sel [] _ rfl (by kernel_rfl)
      refine thenN ?_
      refine wp_ret ?_
      refine blkR ?_
      refine thenR ?_
      refine thenR ?_
      refine .inr ⟨rfl, ?_⟩
      refine thenR ?_
      have hm119 : Mem [] M w0 [] w88 := hm118.sel [] _ rfl (by kernel_rfl)
      obtain rfl := Option.some.inj H1
      obtain rfl := Option.some.inj H0
      refine ret [] [.bool true] [] hf117 (by kernel_rfl) trivial ?_
      exact ⟨_, rfl, rfl, hm119⟩
    obtain ⟨r101, hr101, H1⟩ := obS_split H1
    rcases ifbS_split H1 with ⟨c102, H1⟩ | ⟨c102, H1⟩
    rotate_left
    · refine reg [.bool true, .bool true, .int .i64 r101, .bool false] [1, 2, 5, 58] [(1, .int .u8 x1), (2, .pointer (some ⟨b21, 0, none⟩)), (5, .int .i64 s84), (58, .bool false)] [.is ((FloatKind.f64.format.order b96 13875379345695965184 == some .gt || FloatKind.f64.format.order b96 13875379345695965184 == some .eq) = true), .is ((FloatKind.f64.format.order b96 4652007308841189376 == some .lt || FloatKind.f64.format.order b96 4652007308841189376 == some .eq) = true), .is (floatToIntVal .f64 b96 .i64 = some r101), .is ((FloatKind.f64.format.order b96 (FloatKind.f64.nearest r101) != some .eq) = false)] hf98 (by kernel_rfl) ⟨(ftGe hb96 (FR.lit (by kernel_rfl) (by kernel_rfl)) c99), (ftLe hb96 (FR.lit (by kernel_rfl) (by kernel_rfl)) c100), (FR.ftoi hb96 hr101), (ftNe hb96 (FR.ofInt r101) c102), trivial⟩ fun a110 hf111 => ?_
      refine thenN ?_
      refine condF hf111 (by kernel_rfl) ?_
      refine wp_skip ?_
      refine blkN ?_
      refine thenN ?_
      refine reg [] [1, 2, 5] [(1, .int .u8 x1), (2, .pointer (some ⟨b21, 0, none⟩)), (5, .int .i64 (w64 (s84 + 1)))] [] hf111 (by kernel_rfl) trivial fun a112 hf113 => ?_
      exact ⟨(w64 (s84 + 1)), H1, hf113.sel (l := [1, 2, 5]) (by kernel_rfl), hm90.sel [0, 1, 2] _ rfl (by kernel_rfl)⟩
    refine reg [.bool true, .bool true, .int .i64 r101, .bool true] [1, 2, 5, 58] [(1, .int .u8 x1), (2, .pointer (some ⟨b21, 0, none⟩)), (5, .int .i64 s84), (58, .bool true)] [.is ((FloatKind.f64.format.order b96 13875379345695965184 == some .gt || FloatKind.f64.format.order b96 13875379345695965184 == some .eq) = true), .is ((FloatKind.f64.format.order b96 4652007308841189376 == some .lt || FloatKind.f64.format.order b96 4652007308841189376 == some .eq) = true), .is (floatToIntVal .f64 b96 .i64 = some r101), .is ((FloatKind.f64.format.order b96 (FloatKind.f64.nearest r101) != some .eq) = true)] hf98 (by kernel_rfl) ⟨(ftGe hb96 (FR.lit (by kernel_rfl) (by kernel_rfl)) c99), (ftLe hb96 (FR.lit (by kernel_rfl) (by kernel_rfl)) c100), (FR.ftoi hb96 hr101), (ftNe hb96 (FR.ofInt r101) c102), trivial⟩ fun a103 hf104 => ?_
    refine thenN ?_
    refine condT hf104 (by kernel_rfl) ?_
    refine wp_seq ?_
    refine reg [] [4] [(4, .bool true)] [] hf104 (by kernel_rfl) trivial fun a105 hf106 => ?_
    have hm107 := hm90.sel [] _ rfl (by kernel_rfl)
    refine thenN ?_
    refine wp_ret ?_
    refine blkR ?_
    refine thenR ?_
    refine thenR ?_
    refine .inr ⟨rfl, ?_⟩
    refine thenR ?_
    have hm108 : Mem [] M w0 [] w88 := hm107.sel [] _ rfl (by kernel_rfl)
    obtain rfl := Option.some.inj H1
    obtain rfl := Option.some.inj H0
    refine ret [] [.bool true] [] hf106 (by kernel_rfl) trivial ?_
    exact ⟨_, rfl, rfl, hm108⟩
  rintro a130 w131 ⟨yr85, rfl, hf132, hm133⟩
  refine thenN ?_
  refine wp_seq ?_
  obtain ⟨g134, H0⟩ := if_guard H0
  refine reg [.slice A0_0 x0.Shape.length c0_0] [2, 7] [(2, .pointer (some ⟨b21, 0, none⟩)), (7, .int .i64 (w64 (1 + (Int.tmod (w64 (x1)) (w64 ((x0.Shape.length : Int) - 1))))))] [.cell ⟨b21, 0, none⟩ (.slice A0_0 x0.Shape.length c0_0), .is ((w64 ((x0.Shape.length : Int) - 1)) ≠ 0)] hf132 (by kernel_rfl) ⟨(hm133.cell 0 rfl rfl), g134, trivial⟩ fun a135 hf136 => ?_
  refine thenN ?_
  refine wp_seq ?_
  obtain ⟨g137, H0⟩ := if_guard H0
  refine inReg ?_
  refine listOf hf136 rfl (by kernel_rfl) (aLit (cs := []) (E := 3) (len := 0) (d := 67) hf136 (by kernel_rfl) (by kernel_rfl) ?_)
  intro b138 w139 a140 hbb138 hx142 hg143 hf141
  have hm144 : Mem [] M w0 [.ow (Kd.int .i64) 3 (some ⟨b138, 0, none⟩) 0 ([] : List Int), .bx b21 [.slice A0_0 x0.Shape.length c0_0, .slice A0_1 x0.Data.length c0_1] 28, .sl (Kd.int .i64) A0_0 c0_0 x0.Shape, .sl Kd.float A0_1 c0_1 x0.Data] w139 := Mem.litOwn (kd := (Kd.int .i64)) (xs := ([] : List Int)) hm133 hbb138 hx142 hg143 (Els.nil) (by simp [maxLen])
  refine go 2 [.slice A0_0 x0.Shape.length c0_0] [2, 7, 67, 69] [(2, .pointer (some ⟨b21, 0, none⟩)), (7, .int .i64 (w64 (1 + (Int.tmod (w64 (x1)) (w64 ((x0.Shape.length : Int) - 1)))))), (67, .slice (some ⟨b138, 0, none⟩) 0 0), (69, .slice A0_0 x0.Shape.length c0_0)] [.cell ⟨b21, 0, none⟩ (.slice A0_0 x0.Shape.length c0_0)] hf141 (by kernel_rfl) ⟨(hm144.cell 1 rfl rfl), trivial⟩ fun a145 hf146 => ?_
  have e155 : 0 = ([] : List Int).length := rfl
  have e156 : x0.Shape.length = x0.Shape.length := rfl
  refine listOf hf146 rfl (by kernel_rfl) (aApp (kd := (Kd.int .i64)) (base := 0) (E := 3) (A := (some ⟨b138, 0, none⟩)) (B := A0_0) (c := 0) (c2 := c0_0) (xs := ([] : List Int)) (ys := x0.Shape) (k := 0) (m := x0.Shape.length) (sz := 1) (d := 70) hf146 (by kernel_rfl) e155 e156 (by kernel_rfl) rfl (by kernel_rfl) (hm144.at 0 rfl) (hm144.at2 0 2 rfl rfl).2 (hm144.cpAt 2 rfl) (Nat.zero_le _) (by have := g137; omega) ?_)
  intro A147 c148 w149 a150 ho152 hg153 hr154 hf151
  have hm157 := hm144.setOwn 0 _ rfl rfl ho152 hg153 hr154
  refine go 1 [] [2, 7, 8] [(2, .pointer (some ⟨b21, 0, none⟩)), (7, .int .i64 (w64 (1 + (Int.tmod (w64 (x1)) (w64 ((x0.Shape.length : Int) - 1)))))), (8, .slice A147 ((([] : List Int) ++ x0.Shape).length) c148)] [] hf151 (by kernel_rfl) trivial fun a158 hf159 => ?_
  refine endL rfl ?_
  refine thenN ?_
  refine wp_seq ?_
  obtain ⟨g160, H0⟩ := if_guard H0
  have q161 := (hm157.owAt 0 rfl).int 0 g160.1 g160.2
  refine inReg ?_
  refine go 2 [] [2, 7, 8, 72] [(2, .pointer (some ⟨b21, 0, none⟩)), (7, .int .i64 (w64 (1 + (Int.tmod (w64 (x1)) (w64 ((x0.Shape.length : Int) - 1)))))), (8, .slice A147 ((([] : List Int) ++ x0.Shape).length) c148), (72, .pointer (some ((ad A147).add ((0 : Int).toNat * 1))))] [.is (Option.isSome A147 = true), .is ((0 : Int) ≤ 0 ∧ 0 < (((([] : List Int) ++ x0.Shape).length : Nat) : Int))] hf159 (by kernel_rfl) ⟨q161.1, g160, trivial⟩ fun a162 hf163 => ?_
  refine listOf hf163 rfl (by kernel_rfl) (aStoreO (kd := (Kd.int .i64)) (base := 0) (E := 3) (A := A147) (c := c148) (xs := (([] : List Int) ++ x0.Shape)) (i := 0) (x := 1) (us := [.int .i64 1]) (sz := 1) hf163 (by kernel_rfl) rfl (by kernel_rfl) (hm157.at 0 rfl) rfl g160.1 g160.2 ?_)
  intro w164 hx165 hg166
  have hm167 := hm157.setOwn 0 _ rfl rfl hx165 hg166 (.inl rfl)
  refine endL rfl ?_
  refine thenN ?_
  refine wp_seq ?_
  obtain ⟨g168, H0⟩ := if_guard H0
  obtain ⟨g169, H0⟩ := if_guard H0
  refine inReg ?_
  refine listOf hf163 rfl (by kernel_rfl) (aLit (cs := []) (E := 3) (len := 0) (d := 73) hf163 (by kernel_rfl) (by kernel_rfl) ?_)
  intro b170 w171 a172 hbb170 hx174 hg175 hf173
  have hm176 : Mem [] M w0 [.ow (Kd.int .i64) 3 (some ⟨b170, 0, none⟩) 0 ([] : List Int), .ow (Kd.int .i64) 3 A147 c148 (put (([] : List Int) ++ x0.Shape) 0 1), .bx b21 [.slice A0_0 x0.Shape.length c0_0, .slice A0_1 x0.Data.length c0_1] 28, .sl (Kd.int .i64) A0_0 c0_0 x0.Shape, .sl Kd.float A0_1 c0_1 x0.Data] w171 := Mem.litOwn (kd := (Kd.int .i64)) (xs := ([] : List Int)) hm167 hbb170 hx174 hg175 (Els.nil) (by simp [maxLen])
  have e177 : x0.Shape.length = x0.Shape.length := rfl
  have e177l : ((w64 (1 + (Int.tmod (w64 (x1)) (w64 ((x0.Shape.length : Int) - 1)))))).toNat ≤ x0.Shape.length := by omega
  have e177h : x0.Shape.length ≤ x0.Shape.length := by omega
  have hm178 := hm176.sub 3 rfl e177l (e177 ▸ e177h)
  refine go 4 [.slice A0_0 x0.Shape.length c0_0] [2, 8, 73, 77] [(2, .pointer (some ⟨b21, 0, none⟩)), (8, .slice A147 ((([] : List Int) ++ x0.Shape).length) c148), (73, .slice (some ⟨b170, 0, none⟩) 0 0), (77, .slice (sub A0_0 c0_0 (((w64 (1 + (Int.tmod (w64 (x1)) (w64 ((x0.Shape.length : Int) - 1)))))).toNat) 1) (x0.Shape.length - ((w64 (1 + (Int.tmod (w64 (x1)) (w64 ((x0.Shape.length : Int) - 1)))))).toNat) (c0_0 - ((w64 (1 + (Int.tmod (w64 (x1)) (w64 ((x0.Shape.length : Int) - 1)))))).toNat))] [.cell ⟨b21, 0, none⟩ (.slice A0_0 x0.Shape.length c0_0), .is (0 ≤ (w64 (1 + (Int.tmod (w64 (x1)) (w64 ((x0.Shape.length : Int) - 1))))) ∧ (w64 (1 + (Int.tmod (w64 (x1)) (w64 ((x0.Shape.length : Int) - 1))))) ≤ (x0.Shape.length : Int))] hf173 (by kernel_rfl) ⟨(hm176.cell 2 rfl rfl), g168, trivial⟩ fun a179 hf180 => ?_
  have e189 : 0 = ([] : List Int).length := rfl
  have e190 : (x0.Shape.length - ((w64 (1 + (Int.tmod (w64 (x1)) (w64 ((x0.Shape.length : Int) - 1)))))).toNat) = ((List.take x0.Shape.length x0.Shape).drop (((w64 (1 + (Int.tmod (w64 (x1)) (w64 ((x0.Shape.length : Int) - 1)))))).toNat)).length := (len_sub e177 e177l e177h)
  refine listOf hf180 rfl (by kernel_rfl) (aApp (kd := (Kd.int .i64)) (base := 0) (E := 3) (A := (some ⟨b170, 0, none⟩)) (B := (sub A0_0 c0_0 (((w64 (1 + (Int.tmod (w64 (x1)) (w64 ((x0.Shape.length : Int) - 1)))))).toNat) 1)) (c := 0) (c2 := (c0_0 - ((w64 (1 + (Int.tmod (w64 (x1)) (w64 ((x0.Shape.length : Int) - 1)))))).toNat)) (xs := ([] : List Int)) (ys := ((List.take x0.Shape.length x0.Shape).drop (((w64 (1 + (Int.tmod (w64 (x1)) (w64 ((x0.Shape.length : Int) - 1)))))).toNat))) (k := 0) (m := (x0.Shape.length - ((w64 (1 + (Int.tmod (w64 (x1)) (w64 ((x0.Shape.length : Int) - 1)))))).toNat)) (sz := 1) (d := 78) hf180 (by kernel_rfl) e189 e190 (by kernel_rfl) rfl (by kernel_rfl) (hm178.at 1 rfl) (hm178.at2 1 0 rfl rfl).2 (hm178.cpAt 0 rfl) (Nat.zero_le _) (by have := g169; omega) ?_)
  intro A181 c182 w183 a184 ho186 hg187 hr188 hf185
  have hm191 := hm178.setOwn 1 _ rfl rfl ho186 hg187 hr188
  refine go 1 [] [2, 8, 9] [(2, .pointer (some ⟨b21, 0, none⟩)), (8, .slice A147 ((([] : List Int) ++ x0.Shape).length) c148), (9, .slice A181 ((([] : List Int) ++ ((List.take x0.Shape.length x0.Shape).drop (((w64 (1 + (Int.tmod (w64 (x1)) (w64 ((x0.Shape.length : Int) - 1)))))).toNat))).length) c182)] [] hf185 (by kernel_rfl) trivial fun a192 hf193 => ?_
  refine endL rfl ?_
  have hm194 := hm191.sel [1, 2, 3, 4, 5] _ rfl (by kernel_rfl)
  refine thenN ?_
  refine wp_seq ?_
  obtain ⟨r195, hr195, H0⟩ := ob_split H0
  refine inReg ?_
  refine go 2 [.agg #[.slice A0_0 x0.Shape.length c0_0, .slice A0_1 x0.Data.length c0_1]] [2, 9, 80, 81] [(2, .pointer (some ⟨b21, 0, none⟩)), (9, .slice A181 ((([] : List Int) ++ ((List.take x0.Shape.length x0.Shape).drop (((w64 (1 + (Int.tmod (w64 (x1)) (w64 ((x0.Shape.length : Int) - 1)))))).toNat))).length) c182), (80, .agg #[.slice A0_0 x0.Shape.length c0_0, .slice A0_1 x0.Data.length c0_1]), (81, .slice A147 ((([] : List Int) ++ x0.Shape).length) c148)] [.cell ⟨b21, 0, none⟩ (.slice A0_0 x0.Shape.length c0_0), .cell ⟨b21, 1, none⟩ (.slice A0_1 x0.Data.length c0_1)] hf193 (by kernel_rfl) ⟨(hm194.cell 2 rfl rfl), (hm194.cell 2 rfl rfl), trivial⟩ fun a196 hf197 => ?_
  have hm198 : Mem [] M w0 [.ow (Kd.int .i64) 3 A181 c182 (([] : List Int) ++ ((List.take x0.Shape.length x0.Shape).drop (((w64 (1 + (Int.tmod (w64 (x1)) (w64 ((x0.Shape.length : Int) - 1)))))).toNat))), .sl (Kd.int .i64) A147 c148 (put (([] : List Int) ++ x0.Shape) 0 1), .bx b21 [.slice A0_0 x0.Shape.length c0_0, .slice A0_1 x0.Data.length c0_1] 28, .sl (Kd.int .i64) A0_0 c0_0 x0.Shape, .sl Kd.float A0_1 c0_1 x0.Data] w183 := hm194.seal 1 _ rfl rfl
  refine listOf hf197 rfl (by kernel_rfl) (aCall (fid := 47) (args := [.agg #[.slice A0_0 x0.Shape.length c0_0, .slice A0_1 x0.Data.length c0_1], .slice A147 ((([] : List Int) ++ x0.Shape).length) c148]) (d := 82) hf197 (by kernel_rfl) (by kernel_rfl) callable47 (kernel_Gather.calls _ _ x0 A0_0 x0.Shape.length c0_0 rfl A0_1 x0.Data.length c0_1 rfl (put (([] : List Int) ++ x0.Shape) 0 1) A147 ((([] : List Int) ++ x0.Shape).length) c148 (by simp only [put_length]) (hm198.give [3, 4, 1] [.sl (Kd.int .i64) A0_0 c0_0 x0.Shape, .sl Kd.float A0_1 c0_1 x0.Data, .sl (Kd.int .i64) A147 c148 (put (([] : List Int) ++ x0.Shape) 0 1)] rfl rfl) r195 hr195) ?_)
  rintro _ w203 a204 ⟨A199, c200, A201, c202, rfl, hk206⟩ hf205
  have hm207 := hm194.backF hk206 ⟨Kd.flat_int _, Kd.flat_float, trivial⟩
  have hm208 := hm207.seal 0 _ rfl rfl
  have hm209 := hm208.seal 1 _ rfl rfl
  refine go 3 [] [2, 9, 83, 84] [(2, .pointer (some ⟨b21, 0, none⟩)), (9, .slice A181 ((([] : List Int) ++ ((List.take x0.Shape.length x0.Shape).drop (((w64 (1 + (Int.tmod (w64 (x1)) (w64 ((x0.Shape.length : Int) - 1)))))).toNat))).length) c182), (83, .agg #[.slice A199 r195.1.Shape.length c200, .slice A201 r195.1.Data.length c202]), (84, .int .i64 r195.2)] [] hf205 (by kernel_rfl) trivial fun a210 hf211 => ?_
  refine listOf hf211 rfl (by kernel_rfl) (aNew (cs := [.slice none 0 0, .slice none 0 0]) (T := 28) (d := 10) hf211 (by kernel_rfl) (by kernel_rfl) ?_)
  intro b212 w213 a214 hbb212 hx216 hg217 hf215
  have hm218 := hm209.box hbb212 hx216 hg217
  refine listOf hf215 rfl (by kernel_rfl) (aStoreB (b := b212) (j := 0) (T := 28) (cs := [.slice none 0 0, .slice none 0 0]) (us := [.slice A199 r195.1.Shape.length c200, .slice A201 r195.1.Data.length c202]) (cs' := [.slice A199 r195.1.Shape.length c200, .slice A201 r195.1.Data.length c202]) hf215 (by kernel_rfl) (hm218.bxAt 0 rfl) (by kernel_rfl) (by kernel_rfl) (by kernel_rfl) ?_)
  intro w219 hx220 hg221
  have hm222 := hm218.setBox 0 _ rfl rfl hx220 hg221
  refine go 1 [] [2, 9, 10, 11] [(2, .pointer (some ⟨b21, 0, none⟩)), (9, .slice A181 ((([] : List Int) ++ ((List.take x0.Shape.length x0.Shape).drop (((w64 (1 + (Int.tmod (w64 (x1)) (w64 ((x0.Shape.length : Int) - 1)))))).toNat))).length) c182), (10, .pointer (some ⟨b212, 0, none⟩)), (11, .int .i64 r195.2)] [] hf215 (by kernel_rfl) trivial fun a223 hf224 => ?_
  refine endL rfl ?_
  have hm225 := hm222.sel [0, 1, 2, 3, 5, 6, 7] _ rfl (by kernel_rfl)
  refine thenN ?_
  refine wp_seq ?_
  obtain ⟨r226, hr226, H0⟩ := ob_split H0
  refine inReg ?_
  refine go 2 [.agg #[.slice A199 r195.1.Shape.length c200, .slice A201 r195.1.Data.length c202]] [2, 9, 11, 86, 87] [(2, .pointer (some ⟨b21, 0, none⟩)), (9, .slice A181 ((([] : List Int) ++ ((List.take x0.Shape.length x0.Shape).drop (((w64 (1 + (Int.tmod (w64 (x1)) (w64 ((x0.Shape.length : Int) - 1)))))).toNat))).length) c182), (11, .int .i64 r195.2), (86, .agg #[.slice A199 r195.1.Shape.length c200, .slice A201 r195.1.Data.length c202]), (87, .slice A181 ((([] : List Int) ++ ((List.take x0.Shape.length x0.Shape).drop (((w64 (1 + (Int.tmod (w64 (x1)) (w64 ((x0.Shape.length : Int) - 1)))))).toNat))).length) c182)] [.cell ⟨b212, 0, none⟩ (.slice A199 r195.1.Shape.length c200), .cell ⟨b212, 1, none⟩ (.slice A201 r195.1.Data.length c202)] hf224 (by kernel_rfl) ⟨(hm225.cell 0 rfl rfl), (hm225.cell 0 rfl rfl), trivial⟩ fun a227 hf228 => ?_
  have hm229 : Mem [] M w0 [.bx b212 [.slice A199 r195.1.Shape.length c200, .slice A201 r195.1.Data.length c202] 28, .sl (Kd.int .i64) A199 c200 r195.1.Shape, .sl Kd.float A201 c202 r195.1.Data, .sl (Kd.int .i64) A181 c182 (([] : List Int) ++ ((List.take x0.Shape.length x0.Shape).drop (((w64 (1 + (Int.tmod (w64 (x1)) (w64 ((x0.Shape.length : Int) - 1)))))).toNat))), .bx b21 [.slice A0_0 x0.Shape.length c0_0, .slice A0_1 x0.Data.length c0_1] 28, .sl (Kd.int .i64) A0_0 c0_0 x0.Shape, .sl Kd.float A0_1 c0_1 x0.Data] w219 := hm225.seal 3 _ rfl rfl
  refine listOf hf228 rfl (by kernel_rfl) (aCall (fid := 47) (args := [.agg #[.slice A199 r195.1.Shape.length c200, .slice A201 r195.1.Data.length c202], .slice A181 ((([] : List Int) ++ ((List.take x0.Shape.length x0.Shape).drop (((w64 (1 + (Int.tmod (w64 (x1)) (w64 ((x0.Shape.length : Int) - 1)))))).toNat))).length) c182]) (d := 88) hf228 (by kernel_rfl) (by kernel_rfl) callable47 (kernel_Gather.calls _ _ r195.1 A199 r195.1.Shape.length c200 rfl A201 r195.1.Data.length c202 rfl (([] : List Int) ++ ((List.take x0.Shape.length x0.Shape).drop (((w64 (1 + (Int.tmod (w64 (x1)) (w64 ((x0.Shape.length : Int) - 1)))))).toNat))) A181 ((([] : List Int) ++ ((List.take x0.Shape.length x0.Shape).drop (((w64 (1 + (Int.tmod (w64 (x1)) (w64 ((x0.Shape.length : Int) - 1)))))).toNat))).length) c182 rfl (hm229.give [1, 2, 3] [.sl (Kd.int .i64) A199 c200 r195.1.Shape, .sl Kd.float A201 c202 r195.1.Data, .sl (Kd.int .i64) A181 c182 (([] : List Int) ++ ((List.take x0.Shape.length x0.Shape).drop (((w64 (1 + (Int.tmod (w64 (x1)) (w64 ((x0.Shape.length : Int) - 1)))))).toNat)))] rfl rfl) r226 hr226) ?_)
  rintro _ w234 a235 ⟨A230, c231, A232, c233, rfl, hk237⟩ hf236
  have hm238 := hm225.backF hk237 ⟨Kd.flat_int _, Kd.flat_float, trivial⟩
  have hm239 := hm238.seal 0 _ rfl rfl
  have hm240 := hm239.seal 1 _ rfl rfl
  refine go 3 [] [2, 9, 11, 89, 90] [(2, .pointer (some ⟨b21, 0, none⟩)), (9, .slice A181 ((([] : List Int) ++ ((List.take x0.Shape.length x0.Shape).drop (((w64 (1 + (Int.tmod (w64 (x1)) (w64 ((x0.Shape.length : Int) - 1)))))).toNat))).length) c182), (11, .int .i64 r195.2), (89, .agg #[.slice A230 r226.1.Shape.length c231, .slice A232 r226.1.Data.length c233]), (90, .int .i64 r226.2)] [] hf236 (by kernel_rfl) trivial fun a241 hf242 => ?_
  refine listOf hf242 rfl (by kernel_rfl) (aNew (cs := [.slice none 0 0, .slice none 0 0]) (T := 28) (d := 12) hf242 (by kernel_rfl) (by kernel_rfl) ?_)
  intro b243 w244 a245 hbb243 hx247 hg248 hf246
  have hm249 := hm240.box hbb243 hx247 hg248
  refine listOf hf246 rfl (by kernel_rfl) (aStoreB (b := b243) (j := 0) (T := 28) (cs := [.slice none 0 0, .slice none 0 0]) (us := [.slice A230 r226.1.Shape.length c231, .slice A232 r226.1.Data.length c233]) (cs' := [.slice A230 r226.1.Shape.length c231, .slice A232 r226.1.Data.length c233]) hf246 (by kernel_rfl) (hm249.bxAt 0 rfl) (by kernel_rfl) (by kernel_rfl) (by kernel_rfl) ?_)
  intro w250 hx251 hg252
  have hm253 := hm249.setBox 0 _ rfl rfl hx251 hg252
  refine go 1 [] [2, 9, 11, 12, 13] [(2, .pointer (some ⟨b21, 0, none⟩)), (9, .slice A181 ((([] : List Int) ++ ((List.take x0.Shape.length x0.Shape).drop (((w64 (1 + (Int.tmod (w64 (x1)) (w64 ((x0.Shape.length : Int) - 1)))))).toNat))).length) c182), (11, .int .i64 r195.2), (12, .pointer (some ⟨b243, 0, none⟩)), (13, .int .i64 r226.2)] [] hf246 (by kernel_rfl) trivial fun a254 hf255 => ?_
  refine endL rfl ?_
  have hm256 := hm253.sel [0, 1, 2, 6, 7, 8, 9] _ rfl (by kernel_rfl)
  refine thenN ?_
  refine wp_seq ?_
  obtain ⟨r257, hr257, H0⟩ := ob_split H0
  refine inReg ?_
  refine go 2 [.agg #[.slice A0_0 x0.Shape.length c0_0, .slice A0_1 x0.Data.length c0_1]] [11, 12, 13, 92, 93] [(11, .int .i64 r195.2), (12, .pointer (some ⟨b243, 0, none⟩)), (13, .int .i64 r226.2), (92, .agg #[.slice A0_0 x0.Shape.length c0_0, .slice A0_1 x0.Data.length c0_1]), (93, .slice A181 ((([] : List Int) ++ ((List.take x0.Shape.length x0.Shape).drop (((w64 (1 + (Int.tmod (w64 (x1)) (w64 ((x0.Shape.length : Int) - 1)))))).toNat))).length) c182)] [.cell ⟨b21, 0, none⟩ (.slice A0_0 x0.Shape.length c0_0), .cell ⟨b21, 1, none⟩ (.slice A0_1 x0.Data.length c0_1)] hf255 (by kernel_rfl) ⟨(hm256.cell 4 rfl rfl), (hm256.cell 4 rfl rfl), trivial⟩ fun a258 hf259 => ?_
  have hm260 : Mem [] M w0 [.bx b243 [.slice A230 r226.1.Shape.length c231, .slice A232 r226.1.Data.length c233] 28, .sl (Kd.int .i64) A230 c231 r226.1.Shape, .sl Kd.float A232 c233 r226.1.Data, .sl (Kd.int .i64) A181 c182 (([] : List Int) ++ ((List.take x0.Shape.length x0.Shape).drop (((w64 (1 + (Int.tmod (w64 (x1)) (w64 ((x0.Shape.length : Int) - 1)))))).toNat))), .bx b21 [.slice A0_0 x0.Shape.length c0_0, .slice A0_1 x0.Data.length c0_1] 28, .sl (Kd.int .i64) A0_0 c0_0 x0.Shape, .sl Kd.float A0_1 c0_1 x0.Data] w250 := hm256.seal 3 _ rfl rfl
  refine listOf hf259 rfl (by kernel_rfl) (aCall (fid := 47) (args := [.agg #[.slice A0_0 x0.Shape.length c0_0, .slice A0_1 x0.Data.length c0_1], .slice A181 ((([] : List Int) ++ ((List.take x0.Shape.length x0.Shape).drop (((w64 (1 + (Int.tmod (w64 (x1)) (w64 ((x0.Shape.length : Int) - 1)))))).toNat))).length) c182]) (d := 94) hf259 (by kernel_rfl) (by kernel_rfl) callable47 (kernel_Gather.calls _ _ x0 A0_0 x0.Shape.length c0_0 rfl A0_1 x0.Data.length c0_1 rfl (([] : List Int) ++ ((List.take x0.Shape.length x0.Shape).drop (((w64 (1 + (Int.tmod (w64 (x1)) (w64 ((x0.Shape.length : Int) - 1)))))).toNat))) A181 ((([] : List Int) ++ ((List.take x0.Shape.length x0.Shape).drop (((w64 (1 + (Int.tmod (w64 (x1)) (w64 ((x0.Shape.length : Int) - 1)))))).toNat))).length) c182 rfl (hm260.give [5, 6, 3] [.sl (Kd.int .i64) A0_0 c0_0 x0.Shape, .sl Kd.float A0_1 c0_1 x0.Data, .sl (Kd.int .i64) A181 c182 (([] : List Int) ++ ((List.take x0.Shape.length x0.Shape).drop (((w64 (1 + (Int.tmod (w64 (x1)) (w64 ((x0.Shape.length : Int) - 1)))))).toNat)))] rfl rfl) r257 hr257) ?_)
  rintro _ w265 a266 ⟨A261, c262, A263, c264, rfl, hk268⟩ hf267
  have hm269 := hm256.backF hk268 ⟨Kd.flat_int _, Kd.flat_float, trivial⟩
  have hm270 := hm269.seal 0 _ rfl rfl
  have hm271 := hm270.seal 1 _ rfl rfl
  refine go 3 [] [11, 12, 13, 95, 96] [(11, .int .i64 r195.2), (12, .pointer (some ⟨b243, 0, none⟩)), (13, .int .i64 r226.2), (95, .agg #[.slice A261 r257.1.Shape.length c262, .slice A263 r257.1.Data.length c264]), (96, .int .i64 r257.2)] [] hf267 (by kernel_rfl) trivial fun a272 hf273 => ?_
  refine listOf hf273 rfl (by kernel_rfl) (aNew (cs := [.slice none 0 0, .slice none 0 0]) (T := 28) (d := 14) hf273 (by kernel_rfl) (by kernel_rfl) ?_)
  intro b274 w275 a276 hbb274 hx278 hg279 hf277
  have hm280 := hm271.box hbb274 hx278 hg279
  refine listOf hf277 rfl (by kernel_rfl) (aStoreB (b := b274) (j := 0) (T := 28) (cs := [.slice none 0 0, .slice none 0 0]) (us := [.slice A261 r257.1.Shape.length c262, .slice A263 r257.1.Data.length c264]) (cs' := [.slice A261 r257.1.Shape.length c262, .slice A263 r257.1.Data.length c264]) hf277 (by kernel_rfl) (hm280.bxAt 0 rfl) (by kernel_rfl) (by kernel_rfl) (by kernel_rfl) ?_)
  intro w281 hx282 hg283
  have hm284 := hm280.setBox 0 _ rfl rfl hx282 hg283
  refine go 1 [] [11, 12, 13, 14, 15] [(11, .int .i64 r195.2), (12, .pointer (some ⟨b243, 0, none⟩)), (13, .int .i64 r226.2), (14, .pointer (some ⟨b274, 0, none⟩)), (15, .int .i64 r257.2)] [] hf277 (by kernel_rfl) trivial fun a285 hf286 => ?_
  refine endL rfl ?_
  have hm287 := hm284.sel [0, 1, 2, 3, 4, 5] _ rfl (by kernel_rfl)
  refine thenN ?_
  refine wp_seq ?_
  refine wp_seq ?_
  rcases if_split H0 with ⟨c288, H0⟩ | ⟨c288, H0⟩
  rotate_left
  · refine reg [.bool true] [12, 14, 115] [(12, .pointer (some ⟨b243, 0, none⟩)), (14, .pointer (some ⟨b274, 0, none⟩)), (115, .bool true)] [.is (((r195.2 : Int) != 0) = true)] hf286 (by kernel_rfl) ⟨(neT c288), trivial⟩ fun a366 hf367 => ?_
    refine thenN ?_
    refine condT hf367 (by kernel_rfl) ?_
    refine wp_seq ?_
    refine reg [] [4] [(4, .bool false)] [] hf367 (by kernel_rfl) trivial fun a368 hf369 => ?_
    have hm370 := hm287.sel [] _ rfl (by kernel_rfl)
    refine thenN ?_
    refine wp_ret ?_
    refine thenR ?_
    have hm371 : Mem [] M w0 [] w281 := hm370.sel [] _ rfl (by kernel_rfl)
    obtain rfl := Option.some.inj H0
    refine ret [] [.bool false] [] hf369 (by kernel_rfl) trivial ?_
    exact ⟨_, rfl, rfl, hm371⟩
  rcases if_split H0 with ⟨c289, H0⟩ | ⟨c289, H0⟩
  rotate_left
  · refine reg [.bool false, .bool true] [12, 14, 115] [(12, .pointer (some ⟨b243, 0, none⟩)), (14, .pointer (some ⟨b274, 0, none⟩)), (115, .bool true)] [.is (((r195.2 : Int) != 0) = false), .is (((r226.2 : Int) != 0) = true)] hf286 (by kernel_rfl) ⟨(neF c288), (neT c289), trivial⟩ fun a359 hf360 => ?_
    refine thenN ?_
    refine condT hf360 (by kernel_rfl) ?_
    refine wp_seq ?_
    refine reg [] [4] [(4, .bool false)] [] hf360 (by kernel_rfl) trivial fun a361 hf362 => ?_
    have hm363 := hm287.sel [] _ rfl (by kernel_rfl)
    refine thenN ?_
    refine wp_ret ?_
    refine thenR ?_
    have hm364 : Mem [] M w0 [] w281 := hm363.sel [] _ rfl (by kernel_rfl)
    obtain rfl := Option.some.inj H0
    refine ret [] [.bool false] [] hf362 (by kernel_rfl) trivial ?_
    exact ⟨_, rfl, rfl, hm364⟩
  rcases if_split H0 with ⟨c290, H0⟩ | ⟨c290, H0⟩
  rotate_left
  · refine reg [.bool false, .bool false, .bool true] [12, 14, 115] [(12, .pointer (some ⟨b243, 0, none⟩)), (14, .pointer (some ⟨b274, 0, none⟩)), (115, .bool true)] [.is (((r195.2 : Int) != 0) = false), .is (((r226.2 : Int) != 0) = false), .is (((r257.2 : Int) != 0) = true)] hf286 (by kernel_rfl) ⟨(neF c288), (neF c289), (neT c290), trivial⟩ fun a352 hf353 => ?_
    refine thenN ?_
    refine condT hf353 (by kernel_rfl) ?_
    refine wp_seq ?_
    refine reg [] [4] [(4, .bool false)] [] hf353 (by kernel_rfl) trivial fun a354 hf355 => ?_
    have hm356 := hm287.sel [] _ rfl (by kernel_rfl)
    refine thenN ?_
    refine wp_ret ?_
    refine thenR ?_
    have hm357 : Mem [] M w0 [] w281 := hm356.sel [] _ rfl (by kernel_rfl)
    obtain rfl := Option.some.inj H0
    refine ret [] [.bool false] [] hf355 (by kernel_rfl) trivial ?_
    exact ⟨_, rfl, rfl, hm357⟩
  rcases if_split H0 with ⟨c291, H0⟩ | ⟨c291, H0⟩
  rotate_left
  · refine reg [.bool false, .bool false, .bool false, .slice A232 r226.1.Data.length c233, .slice A263 r257.1.Data.length c264, .bool true] [12, 14, 115] [(12, .pointer (some ⟨b243, 0, none⟩)), (14, .pointer (some ⟨b274, 0, none⟩)), (115, .bool true)] [.is (((r195.2 : Int) != 0) = false), .is (((r226.2 : Int) != 0) = false), .is (((r257.2 : Int) != 0) = false), .cell ⟨b243, 1, none⟩ (.slice A232 r226.1.Data.length c233), .cell ⟨b274, 1, none⟩ (.slice A263 r257.1.Data.length c264), .is ((((r226.1.Data.length : Int) : Int) != (r257.1.Data.length : Int)) = true)] hf286 (by kernel_rfl) ⟨(neF c288), (neF c289), (neF c290), (hm287.cell 3 rfl rfl), (hm287.cell 0 rfl rfl), (neT c291), trivial⟩ fun a345 hf346 => ?_
    refine thenN ?_
    refine condT hf346 (by kernel_rfl) ?_
    refine wp_seq ?_
    refine reg [] [4] [(4, .bool false)] [] hf346 (by kernel_rfl) trivial fun a347 hf348 => ?_
    have hm349 := hm287.sel [] _ rfl (by kernel_rfl)
    refine thenN ?_
    refine wp_ret ?_
    refine thenR ?_
    have hm350 : Mem [] M w0 [] w281 := hm349.sel [] _ rfl (by kernel_rfl)
    obtain rfl := Option.some.inj H0
    refine ret [] [.bool false] [] hf348 (by kernel_rfl) trivial ?_
    exact ⟨_, rfl, rfl, hm350⟩
  refine reg [.bool false, .bool false, .bool false, .slice A232 r226.1.Data.length c233, .slice A263 r257.1.Data.length c264, .bool false] [12, 14, 115] [(12, .pointer (some ⟨b243, 0, none⟩)), (14, .pointer (some ⟨b274, 0, none⟩)), (115, .bool false)] [.is (((r195.2 : Int) != 0) = false), .is (((r226.2 : Int) != 0) = false), .is (((r257.2 : Int) != 0) = false), .cell ⟨b243, 1, none⟩ (.slice A232 r226.1.Data.length c233), .cell ⟨b274, 1, none⟩ (.slice A263 r257.1.Data.length c264), .is ((((r226.1.Data.length : Int) : Int) != (r257.1.Data.length : Int)) = false)] hf286 (by kernel_rfl) ⟨(neF c288), (neF c289), (neF c290), (hm287.cell 3 rfl rfl), (hm287.cell 0 rfl rfl), (neF c291), trivial⟩ fun a292 hf293 => ?_
  refine thenN ?_
  refine condF hf293 (by kernel_rfl) ?_
  refine wp_skip ?_
  refine thenN ?_
  refine wp_seq ?_
  refine wp_seq ?_
  refine reg [] [12, 14, 16] [(12, .pointer (some ⟨b243, 0, none⟩)), (14, .pointer (some ⟨b274, 0, none⟩)), (16, .int .i64 0)] [] hf293 (by kernel_rfl) trivial fun a294 hf295 => ?_
  refine thenN ?_
  obtain ⟨r297, hr297, H0⟩ := ob_split H0
  refine wpBlock (Mid := fun (a : Act) (w : World) => ∃ yr297 : Int, r297 = .go yr297 ∧ Fr 134 a [(12, .pointer (some ⟨b243, 0, none⟩)), (14, .pointer (some ⟨b274, 0, none⟩)), (16, .int .i64 yr297)] ∧ Mem [] M w0 [.bx b274 [.slice A261 r257.1.Shape.length c262, .slice A263 r257.1.Data.length c264] 28, .sl (Kd.int .i64) A261 c262 r257.1.Shape, .sl Kd.float A263 c264 r257.1.Data, .bx b243 [.slice A230 r226.1.Shape.length c231, .slice A232 r226.1.Data.length c233] 28, .sl (Kd.int .i64) A230 c231 r226.1.Shape, .sl Kd.float A232 c233 r226.1.Data] w) ?_ ?_
  · refine wpLoop (law4_KernelGathers.l1 r226 r257) r297 (fun (s296 : Int) (a : Act) (w : World) => Fr 134 a [(12, .pointer (some ⟨b243, 0, none⟩)), (14, .pointer (some ⟨b274, 0, none⟩)), (16, .int .i64 s296)] ∧ Mem [] M w0 [.bx b274 [.slice A261 r257.1.Shape.length c262, .slice A263 r257.1.Data.length c264] 28, .sl (Kd.int .i64) A261 c262 r257.1.Shape, .sl Kd.float A263 c264 r257.1.Data, .bx b243 [.slice A230 r226.1.Shape.length c231, .slice A232 r226.1.Data.length c233] 28, .sl (Kd.int .i64) A230 c231 r226.1.Shape, .sl Kd.float A232 c233 r226.1.Data] w) 0 hr297 ⟨hf295.sel (l := [12, 14, 16]) (by kernel_rfl), hm287.sel [0, 1, 2, 3, 4, 5] _ rfl (by kernel_rfl)⟩ ?_
    rintro g298 s296 a299 w300 H1 ⟨hf301, hm302⟩
    unfold law4_KernelGathers.l1 at H1
    refine wp_seq ?_
    refine wp_seq ?_
    rcases ifS_split H1 with ⟨c303, H1⟩ | ⟨c303, H1⟩
    rotate_left
    · refine reg [.slice A232 r226.1.Data.length c233, .bool false] [12, 14, 16, 120] [(12, .pointer (some ⟨b243, 0, none⟩)), (14, .pointer (some ⟨b274, 0, none⟩)), (16, .int .i64 s296), (120, .bool false)] [.cell ⟨b243, 1, none⟩ (.slice A232 r226.1.Data.length c233), .is (decide (s296 < (r226.1.Data.length : Int)) = false)] hf301 (by kernel_rfl) ⟨(hm302.cell 3 rfl rfl), (decide_eq_false c303), trivial⟩ fun a334 hf335 => ?_
      refine thenN ?_
      refine condF hf335 (by kernel_rfl) ?_
      refine wp_exit ?_
      refine thenE ?_
      refine thenE ?_
      obtain rfl := Option.some.inj H1
      exact .inl ⟨rfl, s296, rfl, hf335.sel (l := [12, 14, 16]) (by kernel_rfl), hm302.sel [0, 1, 2, 3, 4, 5] _ rfl (by kernel_rfl)⟩
    refine reg [.slice A232 r226.1.Data.length c233, .bool true] [12, 14, 16, 120] [(12, .pointer (some ⟨b243, 0, none⟩)), (14, .pointer (some ⟨b274, 0, none⟩)), (16, .int .i64 s296), (120, .bool true)] [.cell ⟨b243, 1, none⟩ (.slice A232 r226.1.Data.length c233), .is (decide (s296 < (r226.1.Data.length : Int)) = true)] hf301 (by kernel_rfl) ⟨(hm302.cell 3 rfl rfl), (decide_eq_true c303), trivial⟩ fun a304 hf305 => ?_
    refine thenN ?_
    refine condT hf305 (by kernel_rfl) ?_
    refine wp_skip ?_
    refine thenN ?_
    refine wp_seq ?_
    refine wp_block ?_
    refine wp_seq ?_
    obtain ⟨g306, H1⟩ := ifS_guard H1
    obtain ⟨g307, H1⟩ := ifS_guard H1
    rcases ifbS_split H1 with ⟨c308, H1⟩ | ⟨c308, H1⟩
    rotate_left
    · have q323 := (hm302.slAt 5 rfl).float s296 g306.1 g306.2
      obtain ⟨b324, hb324, kb324⟩ := q323.2
      have q325 := (hm302.slAt 2 rfl).float s296 g307.1 g307.2
      obtain ⟨b326, hb326, kb326⟩ := q325.2
      refine regQ [.slice A232 r226.1.Data.length c233, .float .f64 b324, .slice A263 r257.1.Data.length c264, .float .f64 b326, .bool false] [12, 14, 16, 133] [(12, .pointer (some ⟨b243, 0, none⟩)), (14, .pointer (some ⟨b274, 0, none⟩)), (16, .int .i64 s296), (133, .bool false)] [.cell ⟨b243, 1, none⟩ (.slice A232 r226.1.Data.length c233), .is (Option.isSome A232 = true), .is (0 ≤ s296 ∧ s296 < (r226.1.Data.length : Int)), .cell ((ad A232).add ((s296).toNat * 1)) (.float .f64 b324), .cell ⟨b274, 1, none⟩ (.slice A263 r257.1.Data.length c264), .is (Option.isSome A263 = true), .is (0 ≤ s296 ∧ s296 < (r257.1.Data.length : Int)), .cell ((ad A263).add ((s296).toNat * 1)) (.float .f64 b326), .is ((FloatKind.f64.format.order b324 b326 != some .eq) = false)] (by kernel_rfl) (by kernel_rfl) hf305 (by kernel_rfl) ⟨(hm302.cell 3 rfl rfl), q323.1, g306, kb324, (hm302.cell 0 rfl rfl), q325.1, g307, kb326, (ftNe hb324 hb326 c308), trivial⟩ fun a327 w329 hf328 hg330 => ?_
      have hm331 := hm302.still hg330
      refine thenN ?_
      refine condF hf328 (by kernel_rfl) ?_
      refine wp_skip ?_
      refine blkN ?_
      refine thenN ?_
      refine reg [] [12, 14, 16] [(12, .pointer (some ⟨b243, 0, none⟩)), (14, .pointer (some ⟨b274, 0, none⟩)), (16, .int .i64 (w64 (s296 + 1)))] [] hf328 (by kernel_rfl) trivial fun a332 hf333 => ?_
      exact ⟨(w64 (s296 + 1)), H1, hf333.sel (l := [12, 14, 16]) (by kernel_rfl), hm331.sel [0, 1, 2, 3, 4, 5] _ rfl (by kernel_rfl)⟩
    have q309 := (hm302.slAt 5 rfl).float s296 g306.1 g306.2
    obtain ⟨b310, hb310, kb310⟩ := q309.2
    have q311 := (hm302.slAt 2 rfl).float s296 g307.1 g307.2
    obtain ⟨b312, hb312, kb312⟩ := q311.2
    refine regQ [.slice A232 r226.1.Data.length c233, .float .f64 b310, .slice A263 r257.1.Data.length c264, .float .f64 b312, .bool true] [12, 14, 16, 133] [(12, .pointer (some ⟨b243, 0, none⟩)), (14, .pointer (some ⟨b274, 0, none⟩)), (16, .int .i64 s296), (133, .bool true)] [.cell ⟨b243, 1, none⟩ (.slice A232 r226.1.Data.length c233), .is (Option.isSome A232 = true), .is (0 ≤ s296 ∧ s296 < (r226.1.Data.length : Int)), .cell ((ad A232).add ((s296).toNat * 1)) (.float .f64 b310), .cell ⟨b274, 1, none⟩ (.slice A263 r257.1.Data.length c264), .is (Option.isSome A263 = true), .is (0 ≤ s296 ∧ s296 < (r257.1.Data.length : Int)), .cell ((ad A263).add ((s296).toNat * 1)) (.float .f64 b312), .is ((FloatKind.f64.format.order b310 b312 != some .eq) = true)] (by kernel_rfl) (by kernel_rfl) hf305 (by kernel_rfl) ⟨(hm302.cell 3 rfl rfl), q309.1, g306, kb310, (hm302.cell 0 rfl rfl), q311.1, g307, kb312, (ftNe hb310 hb312 c308), trivial⟩ fun a313 w315 hf314 hg316 => ?_
    have hm317 := hm302.still hg316
    refine thenN ?_
    refine condT hf314 (by kernel_rfl) ?_
    refine wp_seq ?_
    refine reg [] [4] [(4, .bool false)] [] hf314 (by kernel_rfl) trivial fun a318 hf319 => ?_
    have hm320 := hm317.sel [] _ rfl (by kernel_rfl)
    refine thenN ?_
    refine wp_ret ?_
    refine blkR ?_
    refine thenR ?_
    refine thenR ?_
    refine .inr ⟨rfl, ?_⟩
    refine thenR ?_
    have hm321 : Mem [] M w0 [] w315 := hm320.sel [] _ rfl (by kernel_rfl)
    obtain rfl := Option.some.inj H1
    obtain rfl := Option.some.inj H0
    refine ret [] [.bool false] [] hf319 (by kernel_rfl) trivial ?_
    exact ⟨_, rfl, rfl, hm321⟩
  rintro a336 w337 ⟨yr297, rfl, hf338, hm339⟩
  refine thenN ?_
  refine wp_seq ?_
  refine reg [] [4] [(4, .bool true)] [] hf338 (by kernel_rfl) trivial fun a340 hf341 => ?_
  have hm342 := hm339.sel [] _ rfl (by kernel_rfl)
  refine thenN ?_
  refine wp_ret ?_
  have hm343 : Mem [] M w0 [] w337 := hm342.sel [] _ rfl (by kernel_rfl)
  obtain rfl := Option.some.inj H0
  refine ret [] [.bool true] [] hf341 (by kernel_rfl) trivial ?_
  exact ⟨_, rfl, rfl, hm343⟩
end Go.Proofs.Ytkcgiolledmbnab
