/- Printed by gen.py. -/
import Derived.Test.YtkcgiolledmbnacF12
import Derived.Test.YtkcgiolledmbnacF6
import Derived.Test.YtkcgiolledmbnacF8
import Derived.Test.YtkcgiolledmbnacF9
namespace Go.Proofs.Ytkcgiolledmbnac
open Go Go.RowKit
set_option linter.unusedSimpArgs false
set_option linter.unusedVariables false
set_option linter.unnecessarySimpa false
/-! ### backstitch/backstitchref1.Gather -/
noncomputable def ref1_Gather.l0 (x0 : Tensor) (x1 : (List Int)) (s103 : (Int × (List (List Nat)))) : Step (Int × (List (List Nat))) (Int × (List (List Nat))) :=
  if s103.1 < (x0.Data.length : Int) then (bindS (ref1_Place.f x0.Shape s103.1) fun r114 =>
  bindS (ref1_under.f x1 r114) fun r115 =>
  if 0 ≤ r115 ∧ r115 < (s103.2.length : Int) then (if 0 ≤ s103.1 ∧ s103.1 < (x0.Data.length : Int) then (if (rd s103.2 r115).length + 1 ≤ 549755813888 then (.next ((w64 (s103.1 + 1)), (put s103.2 r115 ((rd s103.2 r115) ++ ([(rd x0.Data s103.1)] : List Nat)))))
  else .bad)
  else .bad)
  else .bad)
  else (.done (s103.1, s103.2))
noncomputable def ref1_Gather.l1 (r105 : (Int × (List (List Nat)))) (s278 : (Int × (List Nat))) : Step (Int × (List Nat)) (Int × (List Nat)) :=
  if s278.1 < (r105.2.length : Int) then (if 0 ≤ s278.1 ∧ s278.1 < (r105.2.length : Int) then (bindS (ref1_Fold.f (rd r105.2 s278.1)) fun r289 =>
  if 0 ≤ s278.1 ∧ s278.1 < (s278.2.length : Int) then (.next ((w64 (s278.1 + 1)), (put s278.2 s278.1 r289)))
  else .bad)
  else .bad)
  else (.done (s278.1, s278.2))
noncomputable def ref1_Gather.f (x0 : Tensor) (x1 : (List Int)) : Option (Tensor × Int) :=
  (ref1_TensorMay.f x0).bind fun r37 =>
  if r37 = true then ((ref1_Into.f x1 x0.Shape).bind fun r39 =>
  if r39 = true then ((ref1_New.f x1 0).bind fun r57 =>
  if 0 ≤ (r57.1.Data.length : Int) ∧ (r57.1.Data.length : Int) ≤ 1099511627776 then ((loop (ref1_Gather.l0 x0 x1) (0, (List.replicate ((r57.1.Data.length : Int)).toNat ([] : (List Nat))))).bind fun r105 =>
  (loop (ref1_Gather.l1 r105) (0, r57.1.Data)).bind fun r279 =>
  some ((⟨r57.1.Shape, r279.2⟩ : Tensor), 0))
  else none)
  else (some ((⟨([] : (List Int)), ([] : (List Nat))⟩ : Tensor), 2)))
  else (some ((⟨([] : (List Int)), ([] : (List Nat))⟩ : Tensor), 2))
set_option maxRecDepth 100000 in
set_option maxHeartbeats 4000000 in
theorem ref1_Gather.calls (M : List (Option Nat)) (w0 : World) (x0 : Tensor) (A0_0 : Option Addr) (n0_0 c0_0 : Nat) (e0_0 : n0_0 = x0.Shape.length) (A0_1 : Option Addr) (n0_1 c0_1 : Nat) (e0_1 : n0_1 = x0.Data.length) (x1 : (List Int)) (A1 : Option Addr) (n1 c1 : Nat) (e1 : n1 = x1.length) (hm0 : Mem [] M w0 [.sl (Kd.int .i64) A0_0 c0_0 x0.Shape, .sl Kd.float A0_1 c0_1 x0.Data, .sl (Kd.int .i64) A1 c1 x1] w0) (r : (Tensor × Int)) (H0 : ref1_Gather.f x0 x1 = some r) :
    Calls Try.prog 19 [.agg #[.slice A0_0 n0_0 c0_0, .slice A0_1 n0_1 c0_1], .slice A1 n1 c1].toArray w0 (fun x w' => ∃ v, x = .returned v ∧ ∃ Ar0_0 cr0_0 Ar0_1 cr0_1, v = .tuple #[.agg #[.slice Ar0_0 r.1.Shape.length cr0_0, .slice Ar0_1 r.1.Data.length cr0_1], .int .i64 r.2] ∧ Mem [] M w0 [.ow (Kd.int .i64) 3 Ar0_0 cr0_0 r.1.Shape, .ow Kd.float 26 Ar0_1 cr0_1 r.1.Data] w') := by
  subst e0_0
  subst e0_1
  subst e1
  unfold ref1_Gather.f at H0
  refine enter (n := 75) Try.func19 rfl rfl (by kernel_rfl) fun a0 (hf0 : Fr 75 a0 [(0, .agg #[.slice A0_0 x0.Shape.length c0_0, .slice A0_1 x0.Data.length c0_1]), (1, .slice A1 x1.length c1)]) => ?_
  refine wp_seq ?_
  refine inReg ?_
  refine listOf hf0 rfl (by kernel_rfl) (aNew (cs := [.slice A0_0 x0.Shape.length c0_0, .slice A0_1 x0.Data.length c0_1]) (T := 25) (d := 2) hf0 (by kernel_rfl) (by kernel_rfl) ?_)
  intro b21 w22 a23 hbb21 hx25 hg26 hf24
  have hm27 := hm0.box hbb21 hx25 hg26
  refine listOf hf24 rfl (by kernel_rfl) (aNew (cs := [.slice none 0 0, .slice none 0 0]) (T := 25) (d := 4) hf24 (by kernel_rfl) (by kernel_rfl) ?_)
  intro b28 w29 a30 hbb28 hx32 hg33 hf31
  have hm34 := hm27.box hbb28 hx32 hg33
  refine go 1 [] [1, 2, 4] [(1, .slice A1 x1.length c1), (2, .pointer (some ⟨b21, 0, none⟩)), (4, .pointer (some ⟨b28, 0, none⟩))] [] hf31 (by kernel_rfl) trivial fun a35 hf36 => ?_
  refine endL rfl ?_
  refine thenN ?_
  refine wp_seq ?_
  refine wp_seq ?_
  obtain ⟨r37, hr37, H0⟩ := ob_split H0
  rcases ifb_split H0 with ⟨c38, H0⟩ | ⟨c38, H0⟩
  rotate_left
  · refine inReg ?_
    refine go 1 [.agg #[.slice A0_0 x0.Shape.length c0_0, .slice A0_1 x0.Data.length c0_1]] [1, 2, 4, 12] [(1, .slice A1 x1.length c1), (2, .pointer (some ⟨b21, 0, none⟩)), (4, .pointer (some ⟨b28, 0, none⟩)), (12, .agg #[.slice A0_0 x0.Shape.length c0_0, .slice A0_1 x0.Data.length c0_1])] [.cell ⟨b21, 0, none⟩ (.slice A0_0 x0.Shape.length c0_0), .cell ⟨b21, 1, none⟩ (.slice A0_1 x0.Data.length c0_1)] hf36 (by kernel_rfl) ⟨(hm34.cell 1 rfl rfl), (hm34.cell 1 rfl rfl), trivial⟩ fun a405 hf406 => ?_
    refine listOf hf406 rfl (by kernel_rfl) (aCall (fid := 8) (args := [.agg #[.slice A0_0 x0.Shape.length c0_0, .slice A0_1 x0.Data.length c0_1]]) (d := 13) hf406 (by kernel_rfl) (by kernel_rfl) callable8 (ref1_TensorMay.calls _ _ x0 A0_0 x0.Shape.length c0_0 rfl A0_1 x0.Data.length c0_1 rfl (hm34.give [2, 3] [.sl (Kd.int .i64) A0_0 c0_0 x0.Shape, .sl Kd.float A0_1 c0_1 x0.Data] rfl rfl) r37 hr37) ?_)
    rintro _ w407 a408 ⟨rfl, hk410⟩ hf409
    have hm411 := hm34.still hk410.cum.none
    rw [c38] at hf409
    refine go 8 [] [1, 2, 4, 21] [(1, .slice A1 x1.length c1), (2, .pointer (some ⟨b21, 0, none⟩)), (4, .pointer (some ⟨b28, 0, none⟩)), (21, .bool true)] [] hf409 (by kernel_rfl) trivial fun a412 hf413 => ?_
    refine endL rfl ?_
    refine thenN ?_
    refine condT hf413 (by kernel_rfl) ?_
    refine wp_seq ?_
    refine inReg ?_
    refine go 1 [] [4, 22] [(4, .pointer (some ⟨b28, 0, none⟩)), (22, .agg #[.slice none 0 0, .slice none 0 0])] [] hf413 (by kernel_rfl) trivial fun a414 hf415 => ?_
    refine listOf hf415 rfl (by kernel_rfl) (aStoreB (b := b28) (j := 0) (T := 25) (cs := [.slice none 0 0, .slice none 0 0]) (us := [.slice none 0 0, .slice none 0 0]) (cs' := [.slice none 0 0, .slice none 0 0]) hf415 (by kernel_rfl) (hm411.bxAt 0 rfl) (by kernel_rfl) (by kernel_rfl) (by kernel_rfl) ?_)
    intro w416 hx417 hg418
    have hm419 := hm411.setBox 0 _ rfl rfl hx417 hg418
    refine go 1 [] [4, 5] [(4, .pointer (some ⟨b28, 0, none⟩)), (5, .int .i64 2)] [] hf415 (by kernel_rfl) trivial fun a420 hf421 => ?_
    refine endL rfl ?_
    have hm422 := hm419.sel [0] _ rfl (by kernel_rfl)
    refine thenN ?_
    refine wp_ret ?_
    refine thenR ?_
    have hm423 := hm422.nilOw (Kd.int .i64) 3
    have hm424 := hm423.nilOw Kd.float 26
    have hm425 : Mem [] M w0 [.ow (Kd.int .i64) 3 none 0 ([] : (List Int)), .ow Kd.float 26 none 0 ([] : (List Nat))] w416 := hm424.sel [1, 0] _ rfl (by kernel_rfl)
    obtain rfl := Option.some.inj H0
    refine ret [.agg #[.slice none 0 0, .slice none 0 0]] [.agg #[.slice none 0 0, .slice none 0 0], .int .i64 2] [.cell ⟨b28, 0, none⟩ (.slice none 0 0), .cell ⟨b28, 1, none⟩ (.slice none 0 0)] hf421 (by kernel_rfl) ⟨(hm422.cell 0 rfl rfl), (hm422.cell 0 rfl rfl), trivial⟩ ?_
    exact ⟨_, rfl, none, 0, none, 0, rfl, hm425⟩
  obtain ⟨r39, hr39, H0⟩ := ob_split H0
  rcases ifb_split H0 with ⟨c40, H0⟩ | ⟨c40, H0⟩
  rotate_left
  · refine inReg ?_
    refine go 1 [.agg #[.slice A0_0 x0.Shape.length c0_0, .slice A0_1 x0.Data.length c0_1]] [1, 2, 4, 12] [(1, .slice A1 x1.length c1), (2, .pointer (some ⟨b21, 0, none⟩)), (4, .pointer (some ⟨b28, 0, none⟩)), (12, .agg #[.slice A0_0 x0.Shape.length c0_0, .slice A0_1 x0.Data.length c0_1])] [.cell ⟨b21, 0, none⟩ (.slice A0_0 x0.Shape.length c0_0), .cell ⟨b21, 1, none⟩ (.slice A0_1 x0.Data.length c0_1)] hf36 (by kernel_rfl) ⟨(hm34.cell 1 rfl rfl), (hm34.cell 1 rfl rfl), trivial⟩ fun a376 hf377 => ?_
    refine listOf hf377 rfl (by kernel_rfl) (aCall (fid := 8) (args := [.agg #[.slice A0_0 x0.Shape.length c0_0, .slice A0_1 x0.Data.length c0_1]]) (d := 13) hf377 (by kernel_rfl) (by kernel_rfl) callable8 (ref1_TensorMay.calls _ _ x0 A0_0 x0.Shape.length c0_0 rfl A0_1 x0.Data.length c0_1 rfl (hm34.give [2, 3] [.sl (Kd.int .i64) A0_0 c0_0 x0.Shape, .sl Kd.float A0_1 c0_1 x0.Data] rfl rfl) r37 hr37) ?_)
    rintro _ w378 a379 ⟨rfl, hk381⟩ hf380
    have hm382 := hm34.still hk381.cum.none
    rw [c38] at hf380
    refine go 5 [.slice A0_0 x0.Shape.length c0_0] [1, 2, 4, 15, 16, 18] [(1, .slice A1 x1.length c1), (2, .pointer (some ⟨b21, 0, none⟩)), (4, .pointer (some ⟨b28, 0, none⟩)), (15, .bool false), (16, .slice A1 x1.length c1), (18, .slice A0_0 x0.Shape.length c0_0)] [.cell ⟨b21, 0, none⟩ (.slice A0_0 x0.Shape.length c0_0)] hf380 (by kernel_rfl) ⟨(hm382.cell 1 rfl rfl), trivial⟩ fun a383 hf384 => ?_
    refine listOf hf384 rfl (by kernel_rfl) (aCall (fid := 36) (args := [.slice A1 x1.length c1, .slice A0_0 x0.Shape.length c0_0]) (d := 19) hf384 (by kernel_rfl) (by kernel_rfl) callable36 (ref1_Into.calls _ _ x1 A1 x1.length c1 rfl x0.Shape A0_0 x0.Shape.length c0_0 rfl (hm382.give [4, 2] [.sl (Kd.int .i64) A1 c1 x1, .sl (Kd.int .i64) A0_0 c0_0 x0.Shape] rfl rfl) r39 hr39) ?_)
    rintro _ w385 a386 ⟨rfl, hk388⟩ hf387
    have hm389 := hm382.still hk388.cum.none
    rw [c40] at hf387
    refine go 2 [] [1, 2, 4, 21] [(1, .slice A1 x1.length c1), (2, .pointer (some ⟨b21, 0, none⟩)), (4, .pointer (some ⟨b28, 0, none⟩)), (21, .bool true)] [] hf387 (by kernel_rfl) trivial fun a390 hf391 => ?_
    refine endL rfl ?_
    refine thenN ?_
    refine condT hf391 (by kernel_rfl) ?_
    refine wp_seq ?_
    refine inReg ?_
    refine go 1 [] [4, 22] [(4, .pointer (some ⟨b28, 0, none⟩)), (22, .agg #[.slice none 0 0, .slice none 0 0])] [] hf391 (by kernel_rfl) trivial fun a392 hf393 => ?_
    refine listOf hf393 rfl (by kernel_rfl) (aStoreB (b := b28) (j := 0) (T := 25) (cs := [.slice none 0 0, .slice none 0 0]) (us := [.slice none 0 0, .slice none 0 0]) (cs' := [.slice none 0 0, .slice none 0 0]) hf393 (by kernel_rfl) (hm389.bxAt 0 rfl) (by kernel_rfl) (by kernel_rfl) (by kernel_rfl) ?_)
    intro w394 hx395 hg396
    have hm397 := hm389.setBox 0 _ rfl rfl hx395 hg396
    refine go 1 [] [4, 5] [(4, .pointer (some ⟨b28, 0, none⟩)), (5, .int .i64 2)] [] hf393 (by kernel_rfl) trivial fun a398 hf399 => ?_
    refine endL rfl ?_
    have hm400 := hm397.sel [0] _ rfl (by kernel_rfl)
    refine thenN ?_
    refine wp_ret ?_
    refine thenR ?_
    have hm401 := hm400.nilOw (Kd.int .i64) 3
    have hm402 := hm401.nilOw Kd.float 26
    have hm403 : Mem [] M w0 [.ow (Kd.int .i64) 3 none 0 ([] : (List Int)), .ow Kd.float 26 none 0 ([] : (List Nat))] w394 := hm402.sel [1, 0] _ rfl (by kernel_rfl)
    obtain rfl := Option.some.inj H0
    refine ret [.agg #[.slice none 0 0, .slice none 0 0]] [.agg #[.slice none 0 0, .slice none 0 0], .int .i64 2] [.cell ⟨b28, 0, none⟩ (.slice none 0 0), .cell ⟨b28, 1, none⟩ (.slice none 0 0)] hf399 (by kernel_rfl) ⟨(hm400.cell 0 rfl rfl), (hm400.cell 0 rfl rfl), trivial⟩ ?_
    exact ⟨_, rfl, none, 0, none, 0, rfl, hm403⟩
  refine inReg ?_
  refine go 1 [.agg #[.slice A0_0 x0.Shape.length c0_0, .slice A0_1 x0.Data.length c0_1]] [1, 2, 4, 12] [(1, .slice A1 x1.length c1), (2, .pointer (some ⟨b21, 0, none⟩)), (4, .pointer (some ⟨b28, 0, none⟩)), (12, .agg #[.slice A0_0 x0.Shape.length c0_0, .slice A0_1 x0.Data.length c0_1])] [.cell ⟨b21, 0, none⟩ (.slice A0_0 x0.Shape.length c0_0), .cell ⟨b21, 1, none⟩ (.slice A0_1 x0.Data.length c0_1)] hf36 (by kernel_rfl) ⟨(hm34.cell 1 rfl rfl), (hm34.cell 1 rfl rfl), trivial⟩ fun a41 hf42 => ?_
  refine listOf hf42 rfl (by kernel_rfl) (aCall (fid := 8) (args := [.agg #[.slice A0_0 x0.Shape.length c0_0, .slice A0_1 x0.Data.length c0_1]]) (d := 13) hf42 (by kernel_rfl) (by kernel_rfl) callable8 (ref1_TensorMay.calls _ _ x0 A0_0 x0.Shape.length c0_0 rfl A0_1 x0.Data.length c0_1 rfl (hm34.give [2, 3] [.sl (Kd.int .i64) A0_0 c0_0 x0.Shape, .sl Kd.float A0_1 c0_1 x0.Data] rfl rfl) r37 hr37) ?_)
  rintro _ w43 a44 ⟨rfl, hk46⟩ hf45
  have hm47 := hm34.still hk46.cum.none
  rw [c38] at hf45
  refine go 5 [.slice A0_0 x0.Shape.length c0_0] [1, 2, 4, 15, 16, 18] [(1, .slice A1 x1.length c1), (2, .pointer (some ⟨b21, 0, none⟩)), (4, .pointer (some ⟨b28, 0, none⟩)), (15, .bool false), (16, .slice A1 x1.length c1), (18, .slice A0_0 x0.Shape.length c0_0)] [.cell ⟨b21, 0, none⟩ (.slice A0_0 x0.Shape.length c0_0)] hf45 (by kernel_rfl) ⟨(hm47.cell 1 rfl rfl), trivial⟩ fun a48 hf49 => ?_
  refine listOf hf49 rfl (by kernel_rfl) (aCall (fid := 36) (args := [.slice A1 x1.length c1, .slice A0_0 x0.Shape.length c0_0]) (d := 19) hf49 (by kernel_rfl) (by kernel_rfl) callable36 (ref1_Into.calls _ _ x1 A1 x1.length c1 rfl x0.Shape A0_0 x0.Shape.length c0_0 rfl (hm47.give [4, 2] [.sl (Kd.int .i64) A1 c1 x1, .sl (Kd.int .i64) A0_0 c0_0 x0.Shape] rfl rfl) r39 hr39) ?_)
  rintro _ w50 a51 ⟨rfl, hk53⟩ hf52
  have hm54 := hm47.still hk53.cum.none
  rw [c40] at hf52
  refine go 2 [] [1, 2, 4, 21] [(1, .slice A1 x1.length c1), (2, .pointer (some ⟨b21, 0, none⟩)), (4, .pointer (some ⟨b28, 0, none⟩)), (21, .bool false)] [] hf52 (by kernel_rfl) trivial fun a55 hf56 => ?_
  refine endL rfl ?_
  refine thenN ?_
  refine condF hf56 (by kernel_rfl) ?_
  refine wp_skip ?_
  refine thenN ?_
  refine wp_seq ?_
  obtain ⟨r57, hr57, H0⟩ := ob_split H0
  refine inReg ?_
  refine go 1 [] [1, 2, 4, 24] [(1, .slice A1 x1.length c1), (2, .pointer (some ⟨b21, 0, none⟩)), (4, .pointer (some ⟨b28, 0, none⟩)), (24, .slice A1 x1.length c1)] [] hf56 (by kernel_rfl) trivial fun a58 hf59 => ?_
  refine listOf hf59 rfl (by kernel_rfl) (aCall (fid := 37) (args := [.slice A1 x1.length c1, .float .f64 0]) (d := 25) hf59 (by kernel_rfl) (by kernel_rfl) callable37 (ref1_New.calls _ _ x1 A1 x1.length c1 rfl 0 0 ((FR.lit (by kernel_rfl) (by kernel_rfl))) (hm54.give [4] [.sl (Kd.int .i64) A1 c1 x1] rfl rfl) r57 hr57) ?_)
  rintro _ w65 a66 ⟨A60, c61, A62, c63, rfl, hk68⟩ hf67
  have hm69 := hm54.back hk68
  refine go 3 [] [1, 2, 4, 26, 27] [(1, .slice A1 x1.length c1), (2, .pointer (some ⟨b21, 0, none⟩)), (4, .pointer (some ⟨b28, 0, none⟩)), (26, .agg #[.slice A60 r57.1.Shape.length c61, .slice A62 r57.1.Data.length c63]), (27, .int .i64 r57.2)] [] hf67 (by kernel_rfl) trivial fun a70 hf71 => ?_
  refine listOf hf71 rfl (by kernel_rfl) (aNew (cs := [.slice none 0 0, .slice none 0 0]) (T := 25) (d := 6) hf71 (by kernel_rfl) (by kernel_rfl) ?_)
  intro b72 w73 a74 hbb72 hx76 hg77 hf75
  have hm78 := hm69.box hbb72 hx76 hg77
  refine listOf hf75 rfl (by kernel_rfl) (aStoreB (b := b72) (j := 0) (T := 25) (cs := [.slice none 0 0, .slice none 0 0]) (us := [.slice A60 r57.1.Shape.length c61, .slice A62 r57.1.Data.length c63]) (cs' := [.slice A60 r57.1.Shape.length c61, .slice A62 r57.1.Data.length c63]) hf75 (by kernel_rfl) (hm78.bxAt 0 rfl) (by kernel_rfl) (by kernel_rfl) (by kernel_rfl) ?_)
  intro w79 hx80 hg81
  have hm82 := hm78.setBox 0 _ rfl rfl hx80 hg81
  refine go 1 [] [1, 2, 4, 6] [(1, .slice A1 x1.length c1), (2, .pointer (some ⟨b21, 0, none⟩)), (4, .pointer (some ⟨b28, 0, none⟩)), (6, .pointer (some ⟨b72, 0, none⟩))] [] hf75 (by kernel_rfl) trivial fun a83 hf84 => ?_
  refine endL rfl ?_
  refine thenN ?_
  refine wp_seq ?_
  obtain ⟨g85, H0⟩ := if_guard H0
  refine inReg ?_
  refine go 3 [.slice A62 r57.1.Data.length c63] [1, 2, 4, 6, 30] [(1, .slice A1 x1.length c1), (2, .pointer (some ⟨b21, 0, none⟩)), (4, .pointer (some ⟨b28, 0, none⟩)), (6, .pointer (some ⟨b72, 0, none⟩)), (30, .int .i64 (r57.1.Data.length : Int))] [.cell ⟨b72, 1, none⟩ (.slice A62 r57.1.Data.length c63)] hf84 (by kernel_rfl) ⟨(hm82.cell 0 rfl rfl), trivial⟩ fun a86 hf87 => ?_
  refine listOf hf87 rfl (by kernel_rfl) (aMake (kd := Kd.hdr) (x := ((none, 0, 0) : Option Addr × Nat × Nat)) (E := 23) (L := (r57.1.Data.length : Int)) (z := [.slice none 0 0]) (sz := 1) (d := 31) hf87 (by kernel_rfl) (by kernel_rfl) rfl (fun _ _ => rfl) g85.1 g85.2 ?_)
  intro A88 c89 w90 a91 ho93 hb95 hg94 hf92
  rw [show (List.replicate ((r57.1.Data.length : Int)).toNat ((none, 0, 0) : Option Addr × Nat × Nat)).length = (List.replicate ((r57.1.Data.length : Int)).toNat ([] : (List Nat))).length from by simp only [List.length_replicate]] at hf92
  have ho93x : ∀ S, Ow Kd.hdr S _ 23 w90 A88 c89 (hdrs (fun _ => (none, 0)) (List.replicate ((r57.1.Data.length : Int)).toNat ([] : (List Nat)))) := fun S => by rw [hdrs_nil]; exact ho93 S
  have hm96 := hm82.own (ho93x _) hg94
  have hm97 : Mem [] M w0 ([.ow Kd.hdr 23 A88 c89 (hdrs (fun _ => (none, 0)) (List.replicate ((r57.1.Data.length : Int)).toNat ([] : (List Nat)))), .bx b72 [.slice A60 r57.1.Shape.length c61, .slice A62 r57.1.Data.length c63] 25, .ow (Kd.int .i64) 3 A60 c61 r57.1.Shape, .ow Kd.float 26 A62 c63 r57.1.Data, .bx b28 [.slice none 0 0, .slice none 0 0] 25, .bx b21 [.slice A0_0 x0.Shape.length c0_0, .slice A0_1 x0.Data.length c0_1] 25, .sl (Kd.int .i64) A0_0 c0_0 x0.Shape, .sl Kd.float A0_1 c0_1 x0.Data, .sl (Kd.int .i64) A1 c1 x1] ++ fam Kd.float 26 (fun _ => (none, 0)) (List.replicate ((r57.1.Data.length : Int)).toNat ([] : (List Nat)))) w90 := hm96.famNil Kd.float 26 ((r57.1.Data.length : Int)).toNat
  refine go 1 [] [1, 2, 4, 6, 8] [(1, .slice A1 x1.length c1), (2, .pointer (some ⟨b21, 0, none⟩)), (4, .pointer (some ⟨b28, 0, none⟩)), (6, .pointer (some ⟨b72, 0, none⟩)), (8, .slice A88 ((List.replicate ((r57.1.Data.length : Int)).toNat ([] : (List Nat))).length) c89)] [] hf92 (by kernel_rfl) trivial fun a98 hf99 => ?_
  refine endL rfl ?_
  refine thenN ?_
  refine wp_seq ?_
  refine wp_seq ?_
  refine reg [] [1, 2, 4, 6, 8, 9] [(1, .slice A1 x1.length c1), (2, .pointer (some ⟨b21, 0, none⟩)), (4, .pointer (some ⟨b28, 0, none⟩)), (6, .pointer (some ⟨b72, 0, none⟩)), (8, .slice A88 ((List.replicate ((r57.1.Data.length : Int)).toNat ([] : (List Nat))).length) c89), (9, .int .i64 0)] [] hf99 (by kernel_rfl) trivial fun a100 hf101 => ?_
  refine thenN ?_
  obtain ⟨r105, hr105, H0⟩ := ob_split H0
  refine wpBlock (Mid := fun (a : Act) (w : World) => ∃ (X104 : Nat → Option Addr × Nat), Fr 75 a [(1, .slice A1 x1.length c1), (2, .pointer (some ⟨b21, 0, none⟩)), (4, .pointer (some ⟨b28, 0, none⟩)), (6, .pointer (some ⟨b72, 0, none⟩)), (8, .slice A88 r105.2.length c89), (9, .int .i64 r105.1)] ∧ Mem [] M w0 ([.ow Kd.hdr 23 A88 c89 (hdrs X104 r105.2), .bx b72 [.slice A60 r57.1.Shape.length c61, .slice A62 r57.1.Data.length c63] 25, .ow (Kd.int .i64) 3 A60 c61 r57.1.Shape, .ow Kd.float 26 A62 c63 r57.1.Data, .bx b28 [.slice none 0 0, .slice none 0 0] 25, .bx b21 [.slice A0_0 x0.Shape.length c0_0, .slice A0_1 x0.Data.length c0_1] 25, .sl (Kd.int .i64) A0_0 c0_0 x0.Shape, .sl Kd.float A0_1 c0_1 x0.Data, .sl (Kd.int .i64) A1 c1 x1] ++ fam Kd.float 26 X104 r105.2) w) ?_ ?_
  · refine wpLoop (ref1_Gather.l0 x0 x1) r105 (fun (s103 : (Int × (List (List Nat)))) (a : Act) (w : World) => ∃ (X104 : Nat → Option Addr × Nat), Fr 75 a [(1, .slice A1 x1.length c1), (2, .pointer (some ⟨b21, 0, none⟩)), (4, .pointer (some ⟨b28, 0, none⟩)), (6, .pointer (some ⟨b72, 0, none⟩)), (8, .slice A88 s103.2.length c89), (9, .int .i64 s103.1)] ∧ Mem [] M w0 ([.ow Kd.hdr 23 A88 c89 (hdrs X104 s103.2), .bx b72 [.slice A60 r57.1.Shape.length c61, .slice A62 r57.1.Data.length c63] 25, .ow (Kd.int .i64) 3 A60 c61 r57.1.Shape, .ow Kd.float 26 A62 c63 r57.1.Data, .bx b28 [.slice none 0 0, .slice none 0 0] 25, .bx b21 [.slice A0_0 x0.Shape.length c0_0, .slice A0_1 x0.Data.length c0_1] 25, .sl (Kd.int .i64) A0_0 c0_0 x0.Shape, .sl Kd.float A0_1 c0_1 x0.Data, .sl (Kd.int .i64) A1 c1 x1] ++ fam Kd.float 26 X104 s103.2) w) (0, (List.replicate ((r57.1.Data.length : Int)).toNat ([] : (List Nat)))) hr105 ⟨(fun _ => (none, 0)), hf101.sel (l := [1, 2, 4, 6, 8, 9]) (by kernel_rfl), hm97.selT [0, 1, 2, 3, 4, 5, 6, 7, 8] _ rfl (by kernel_rfl)⟩ ?_
    rintro g106 s103 a107 w108 H1 ⟨X104, hf109, hm110⟩
    unfold ref1_Gather.l0 at H1
    refine wp_seq ?_
    refine wp_seq ?_
    rcases ifS_split H1 with ⟨c111, H1⟩ | ⟨c111, H1⟩
    rotate_left
    · refine reg [.slice A0_1 x0.Data.length c0_1, .bool false] [1, 2, 4, 6, 8, 9, 36] [(1, .slice A1 x1.length c1), (2, .pointer (some ⟨b21, 0, none⟩)), (4, .pointer (some ⟨b28, 0, none⟩)), (6, .pointer (some ⟨b72, 0, none⟩)), (8, .slice A88 s103.2.length c89), (9, .int .i64 s103.1), (36, .bool false)] [.cell ⟨b21, 1, none⟩ (.slice A0_1 x0.Data.length c0_1), .is (decide (s103.1 < (x0.Data.length : Int)) = false)] hf109 (by kernel_rfl) ⟨(hm110.cell 5 rfl rfl), (decide_eq_false c111), trivial⟩ fun a268 hf269 => ?_
      refine thenN ?_
      refine condF hf269 (by kernel_rfl) ?_
      refine wp_exit ?_
      refine thenE ?_
      refine thenE ?_
      obtain rfl := Option.some.inj H1
      exact .inl ⟨rfl, X104, hf269.sel (l := [1, 2, 4, 6, 8, 9]) (by kernel_rfl), hm110.selT [0, 1, 2, 3, 4, 5, 6, 7, 8] _ rfl (by kernel_rfl)⟩
    refine reg [.slice A0_1 x0.Data.length c0_1, .bool true] [1, 2, 4, 6, 8, 9, 36] [(1, .slice A1 x1.length c1), (2, .pointer (some ⟨b21, 0, none⟩)), (4, .pointer (some ⟨b28, 0, none⟩)), (6, .pointer (some ⟨b72, 0, none⟩)), (8, .slice A88 s103.2.length c89), (9, .int .i64 s103.1), (36, .bool true)] [.cell ⟨b21, 1, none⟩ (.slice A0_1 x0.Data.length c0_1), .is (decide (s103.1 < (x0.Data.length : Int)) = true)] hf109 (by kernel_rfl) ⟨(hm110.cell 5 rfl rfl), (decide_eq_true c111), trivial⟩ fun a112 hf113 => ?_
    refine thenN ?_
    refine condT hf113 (by kernel_rfl) ?_
    refine wp_skip ?_
    refine thenN ?_
    refine wp_seq ?_
    refine wp_block ?_
    refine wp_seq ?_
    obtain ⟨r114, hr114, H1⟩ := obS_split H1
    obtain ⟨r115, hr115, H1⟩ := obS_split H1
    refine inReg ?_
    refine go 4 [.slice A0_0 x0.Shape.length c0_0] [1, 2, 4, 6, 8, 9, 39, 41, 42] [(1, .slice A1 x1.length c1), (2, .pointer (some ⟨b21, 0, none⟩)), (4, .pointer (some ⟨b28, 0, none⟩)), (6, .pointer (some ⟨b72, 0, none⟩)), (8, .slice A88 s103.2.length c89), (9, .int .i64 s103.1), (39, .slice A1 x1.length c1), (41, .slice A0_0 x0.Shape.length c0_0), (42, .int .i64 s103.1)] [.cell ⟨b21, 0, none⟩ (.slice A0_0 x0.Shape.length c0_0)] hf113 (by kernel_rfl) ⟨(hm110.cell 5 rfl rfl), trivial⟩ fun a116 hf117 => ?_
    refine listOf hf117 rfl (by kernel_rfl) (aCall (fid := 39) (args := [.slice A0_0 x0.Shape.length c0_0, .int .i64 s103.1]) (d := 43) hf117 (by kernel_rfl) (by kernel_rfl) callable39 (ref1_Place.calls _ _ x0.Shape A0_0 x0.Shape.length c0_0 rfl s103.1 (hm110.give [6] [.sl (Kd.int .i64) A0_0 c0_0 x0.Shape] rfl rfl) r114 hr114) ?_)
    rintro _ w120 a121 ⟨A118, c119, rfl, hk123⟩ hf122
    have hm124 : Mem [] M w0 ([.ow (Kd.int .i64) 3 A118 c119 r114, .ow Kd.hdr 23 A88 c89 (hdrs X104 s103.2), .bx b72 [.slice A60 r57.1.Shape.length c61, .slice A62 r57.1.Data.length c63] 25, .ow (Kd.int .i64) 3 A60 c61 r57.1.Shape, .ow Kd.float 26 A62 c63 r57.1.Data, .bx b28 [.slice none 0 0, .slice none 0 0] 25, .bx b21 [.slice A0_0 x0.Shape.length c0_0, .slice A0_1 x0.Data.length c0_1] 25, .sl (Kd.int .i64) A0_0 c0_0 x0.Shape, .sl Kd.float A0_1 c0_1 x0.Data, .sl (Kd.int .i64) A1 c1 x1] ++ fam Kd.float 26 X104 s103.2) w120 := hm110.back hk123
    have hm125 : Mem [] M w0 ([.sl (Kd.int .i64) A118 c119 r114, .ow Kd.hdr 23 A88 c89 (hdrs X104 s103.2), .bx b72 [.slice A60 r57.1.Shape.length c61, .slice A62 r57.1.Data.length c63] 25, .ow (Kd.int .i64) 3 A60 c61 r57.1.Shape, .ow Kd.float 26 A62 c63 r57.1.Data, .bx b28 [.slice none 0 0, .slice none 0 0] 25, .bx b21 [.slice A0_0 x0.Shape.length c0_0, .slice A0_1 x0.Data.length c0_1] 25, .sl (Kd.int .i64) A0_0 c0_0 x0.Shape, .sl Kd.float A0_1 c0_1 x0.Data, .sl (Kd.int .i64) A1 c1 x1] ++ fam Kd.float 26 X104 s103.2) w120 := hm124.seal 0 _ rfl rfl
    refine listOf hf122 rfl (by kernel_rfl) (aCall (fid := 38) (args := [.slice A1 x1.length c1, .slice A118 r114.length c119]) (d := 44) hf122 (by kernel_rfl) (by kernel_rfl) callable38 (ref1_under.calls _ _ x1 A1 x1.length c1 rfl r114 A118 r114.length c119 rfl (hm125.give [9, 0] [.sl (Kd.int .i64) A1 c1 x1, .sl (Kd.int .i64) A118 c119 r114] rfl rfl) r115 hr115) ?_)
    rintro _ w126 a127 ⟨rfl, hk129⟩ hf128
    have hm130 : Mem [] M w0 ([.sl (Kd.int .i64) A118 c119 r114, .ow Kd.hdr 23 A88 c89 (hdrs X104 s103.2), .bx b72 [.slice A60 r57.1.Shape.length c61, .slice A62 r57.1.Data.length c63] 25, .ow (Kd.int .i64) 3 A60 c61 r57.1.Shape, .ow Kd.float 26 A62 c63 r57.1.Data, .bx b28 [.slice none 0 0, .slice none 0 0] 25, .bx b21 [.slice A0_0 x0.Shape.length c0_0, .slice A0_1 x0.Data.length c0_1] 25, .sl (Kd.int .i64) A0_0 c0_0 x0.Shape, .sl Kd.float A0_1 c0_1 x0.Data, .sl (Kd.int .i64) A1 c1 x1] ++ fam Kd.float 26 X104 s103.2) w126 := hm125.still hk129.cum.none
    refine go 1 [] [1, 2, 4, 6, 8, 9, 10] [(1, .slice A1 x1.length c1), (2, .pointer (some ⟨b21, 0, none⟩)), (4, .pointer (some ⟨b28, 0, none⟩)), (6, .pointer (some ⟨b72, 0, none⟩)), (8, .slice A88 s103.2.length c89), (9, .int .i64 s103.1), (10, .int .i64 r115)] [] hf128 (by kernel_rfl) trivial fun a131 hf132 => ?_
    refine endL rfl ?_
    have hm133 : Mem [] M w0 ([.ow Kd.hdr 23 A88 c89 (hdrs X104 s103.2), .bx b72 [.slice A60 r57.1.Shape.length c61, .slice A62 r57.1.Data.length c63] 25, .ow (Kd.int .i64) 3 A60 c61 r57.1.Shape, .ow Kd.float 26 A62 c63 r57.1.Data, .bx b28 [.slice none 0 0, .slice none 0 0] 25, .bx b21 [.slice A0_0 x0.Shape.length c0_0, .slice A0_1 x0.Data.length c0_1] 25, .sl (Kd.int .i64) A0_0 c0_0 x0.Shape, .sl Kd.float A0_1 c0_1 x0.Data, .sl (Kd.int .i64) A1 c1 x1] ++ fam Kd.float 26 X104 s103.2) w126 := hm130.selT [1, 2, 3, 4, 5, 6, 7, 8, 9] _ rfl (by kernel_rfl)
    refine thenN ?_
    obtain ⟨g134, H1⟩ := ifS_guard H1
    obtain ⟨g135, H1⟩ := ifS_guard H1
    obtain ⟨g136, H1⟩ := ifS_guard H1
    refine midReg (fun (a : Act) (w : World) => ∃ (A151 : Option Addr) (c152 : Nat), Fr 75 a [(1, .slice A1 x1.length c1), (2, .pointer (some ⟨b21, 0, none⟩)), (4, .pointer (some ⟨b28, 0, none⟩)), (6, .pointer (some ⟨b72, 0, none⟩)), (8, .slice A88 s103.2.length c89), (9, .int .i64 s103.1)] ∧ Mem [] M w0 ([.ow Kd.hdr 23 A88 c89 (hdrs (upd X104 (r115).toNat (A151, c152)) (put s103.2 r115 ((rd s103.2 r115) ++ ([(rd x0.Data s103.1)] : List Nat)))), .bx b72 [.slice A60 r57.1.Shape.length c61, .slice A62 r57.1.Data.length c63] 25, .ow (Kd.int .i64) 3 A60 c61 r57.1.Shape, .ow Kd.float 26 A62 c63 r57.1.Data, .bx b28 [.slice none 0 0, .slice none 0 0] 25, .bx b21 [.slice A0_0 x0.Shape.length c0_0, .slice A0_1 x0.Data.length c0_1] 25, .sl (Kd.int .i64) A0_0 c0_0 x0.Shape, .sl Kd.float A0_1 c0_1 x0.Data, .sl (Kd.int .i64) A1 c1 x1] ++ fam Kd.float 26 (upd X104 (r115).toNat (A151, c152)) (put s103.2 r115 ((rd s103.2 r115) ++ ([(rd x0.Data s103.1)] : List Nat)))) w) ?_ ?_
    · refine anyG [12, 14] (by kernel_rfl) fun w175 hg176 => ?_
      have hm177 : Mem [] M w0 ([.ow Kd.hdr 23 A88 c89 (hdrs X104 s103.2), .bx b72 [.slice A60 r57.1.Shape.length c61, .slice A62 r57.1.Data.length c63] 25, .ow (Kd.int .i64) 3 A60 c61 r57.1.Shape, .ow Kd.float 26 A62 c63 r57.1.Data, .bx b28 [.slice none 0 0, .slice none 0 0] 25, .bx b21 [.slice A0_0 x0.Shape.length c0_0, .slice A0_1 x0.Data.length c0_1] 25, .sl (Kd.int .i64) A0_0 c0_0 x0.Shape, .sl Kd.float A0_1 c0_1 x0.Data, .sl (Kd.int .i64) A1 c1 x1] ++ fam Kd.float 26 X104 s103.2) w175 := hm133.still hg176
      have hl223 : (r115).toNat < s103.2.length := by have h1 := g134.2; have h2 := g134.1; omega
      have q219 := (hm177.owAt 0 rfl).cells r115 g134.1 (by rw [hdrs_length]; exact g134.2)
      obtain ⟨us220, hr221, hc222⟩ := q219.2
      rw [hdrs_rd _ _ _ hl223] at hr221
      obtain rfl := hr221
      have q224 := (hm177.slAt 7 rfl).float s103.1 g135.1 g135.2
      obtain ⟨b225, hb225, kb225⟩ := q224.2
      refine quiet0 [0, 1, 2, 3, 4, 5, 6, 7, 8, 9, 10] [.slice ((X104 (r115).toNat).1) ((rd s103.2 r115).length) ((X104 (r115).toNat).2), .slice A0_1 x0.Data.length c0_1, .float .f64 b225] [1, 2, 4, 6, 8, 9, 45, 46, 50, 55] #[true, true, true, true, true, true, true, true, true, true, true, false, false, false, false] [(1, .slice A1 x1.length c1), (2, .pointer (some ⟨b21, 0, none⟩)), (4, .pointer (some ⟨b28, 0, none⟩)), (6, .pointer (some ⟨b72, 0, none⟩)), (8, .slice A88 s103.2.length c89), (9, .int .i64 s103.1), (45, .slice A88 s103.2.length c89), (46, .int .i64 r115), (50, .slice ((X104 (r115).toNat).1) ((rd s103.2 r115).length) ((X104 (r115).toNat).2)), (55, .float .f64 b225)] [.is (Option.isSome A88 = true), .is (0 ≤ r115 ∧ r115 < (s103.2.length : Int)), .cell ((ad A88).add ((r115).toNat * 1)) (.slice ((X104 (r115).toNat).1) ((rd s103.2 r115).length) ((X104 (r115).toNat).2)), .cell ⟨b21, 1, none⟩ (.slice A0_1 x0.Data.length c0_1), .is (Option.isSome A0_1 = true), .is (0 ≤ s103.1 ∧ s103.1 < (x0.Data.length : Int)), .cell ((ad A0_1).add ((s103.1).toNat * 1)) (.float .f64 b225)] 4 rfl (by kernel_rfl) (fun _ _ _ _ _ h => nomatch h.1) hf132 (by kernel_rfl) ⟨q219.1, g134, (hc222 0 _ rfl), (hm177.cell 5 rfl rfl), q224.1, g135, kb225, trivial⟩ fun a226 hf227 => ?_
      refine all1 11 (by kernel_rfl) ?_
      refine opOf hf227 rfl (by kernel_rfl) (aLit (cs := [.float .f64 b225]) (E := 26) (len := 1) (d := 56) hf227 (by kernel_rfl) (by kernel_rfl) ?_)
      intro b228 w229 a230 hbb228 hx232 hg233 hf231
      refine ⟨.inr (Gr.still hg233), ?_⟩
      have hm177s := hm177.still hg233
      have hm234 : Mem [] M w0 ([.sl Kd.float (some ⟨b228, 0, none⟩) 1 ([(rd x0.Data s103.1)] : List Nat), .ow Kd.hdr 23 A88 c89 (hdrs X104 s103.2), .bx b72 [.slice A60 r57.1.Shape.length c61, .slice A62 r57.1.Data.length c63] 25, .ow (Kd.int .i64) 3 A60 c61 r57.1.Shape, .ow Kd.float 26 A62 c63 r57.1.Data, .bx b28 [.slice none 0 0, .slice none 0 0] 25, .bx b21 [.slice A0_0 x0.Shape.length c0_0, .slice A0_1 x0.Data.length c0_1] 25, .sl (Kd.int .i64) A0_0 c0_0 x0.Shape, .sl Kd.float A0_1 c0_1 x0.Data, .sl (Kd.int .i64) A1 c1 x1] ++ fam Kd.float 26 X104 s103.2) w229 := Mem.lit (kd := Kd.float) (xs := ([(rd x0.Data s103.1)] : List Nat)) hm177 hbb228 hx232 hg233 (Els.one (kd := Kd.float) (us := [.float .f64 b225]) (x := (rd x0.Data s103.1)) ⟨_, rfl, hb225⟩)
      refine all1 12 (by kernel_rfl) ?_
      have e243 : (rd s103.2 r115).length = (rd s103.2 r115).length := rfl
      have e244 : 1 = ([(rd x0.Data s103.1)] : List Nat).length := rfl
      refine opOf hf231 rfl (by kernel_rfl) (aApp (kd := Kd.float) (base := 0) (E := 26) (A := ((X104 (r115).toNat).1)) (B := (some ⟨b228, 0, none⟩)) (c := ((X104 (r115).toNat).2)) (c2 := 1) (xs := (rd s103.2 r115)) (ys := ([(rd x0.Data s103.1)] : List Nat)) (k := ((rd s103.2 r115).length)) (m := 1) (sz := 1) (d := 57) hf231 (by kernel_rfl) e243 e244 (by kernel_rfl) rfl (by kernel_rfl) (hm234.at _ (fam_at _ _ _ _ _ hl223)) (hm234.at2 _ 0 (fam_at _ _ _ _ _ hl223) rfl).2 (hm234.cpAt 0 rfl) (Nat.zero_le _) (by have := g136; omega) ?_)
      intro A235 c236 w237 a238 ho240 hg241 hr242 hf239
      refine ⟨.inl (by decide), ?_⟩
      have hm245 : Mem [] M w0 ([.sl Kd.float (some ⟨b228, 0, none⟩) 1 ([(rd x0.Data s103.1)] : List Nat), .ow Kd.hdr 23 A88 c89 (hdrs X104 s103.2), .bx b72 [.slice A60 r57.1.Shape.length c61, .slice A62 r57.1.Data.length c63] 25, .ow (Kd.int .i64) 3 A60 c61 r57.1.Shape, .ow Kd.float 26 A62 c63 r57.1.Data, .bx b28 [.slice none 0 0, .slice none 0 0] 25, .bx b21 [.slice A0_0 x0.Shape.length c0_0, .slice A0_1 x0.Data.length c0_1] 25, .sl (Kd.int .i64) A0_0 c0_0 x0.Shape, .sl Kd.float A0_1 c0_1 x0.Data, .sl (Kd.int .i64) A1 c1 x1] ++ fam Kd.float 26 (upd X104 (r115).toNat (A235, c236)) (put s103.2 r115 ((rd s103.2 r115) ++ ([(rd x0.Data s103.1)] : List Nat)))) w237 := hm234.setOwn _ _ (fam_at _ _ _ _ _ hl223) (fam_put _ _ _ _ _ hl223 _ _ _) ho240 hg241 hr242
      have hl250 : (r115).toNat < s103.2.length := by have h1 := g134.2; have h2 := g134.1; omega
      have q246 := (hm245.owAt 1 rfl).cells r115 g134.1 (by rw [hdrs_length]; exact g134.2)
      obtain ⟨us247, hr248, hc249⟩ := q246.2
      rw [hdrs_rd _ _ _ hl250] at hr248
      obtain rfl := hr248
      refine quiet0 [13] [] [1, 2, 4, 6, 8, 9, 57, 58] #[true, true, true, true, true, true, true, true, true, true, true, true, true, true, false] [(1, .slice A1 x1.length c1), (2, .pointer (some ⟨b21, 0, none⟩)), (4, .pointer (some ⟨b28, 0, none⟩)), (6, .pointer (some ⟨b72, 0, none⟩)), (8, .slice A88 s103.2.length c89), (9, .int .i64 s103.1), (57, .slice A235 (((rd s103.2 r115) ++ ([(rd x0.Data s103.1)] : List Nat)).length) c236), (58, .pointer (some ((ad A88).add ((r115).toNat * 1))))] [.is (Option.isSome A88 = true), .is (0 ≤ r115 ∧ r115 < (s103.2.length : Int))] 1 rfl (by kernel_rfl) (fun _ _ _ _ _ h => nomatch h.1) hf239 (by kernel_rfl) ⟨q246.1, g134, trivial⟩ fun a251 hf252 => ?_
      refine all1 14 (by kernel_rfl) ?_
      refine opOf hf252 rfl (by kernel_rfl) (aStoreO (kd := Kd.hdr) (base := 0) (E := 23) (A := A88) (c := c89) (xs := hdrs X104 s103.2) (i := r115) (x := (A235, ((rd s103.2 r115) ++ ([(rd x0.Data s103.1)] : List Nat)).length, c236)) (us := [.slice A235 (((rd s103.2 r115) ++ ([(rd x0.Data s103.1)] : List Nat)).length) c236]) (sz := 1) hf252 (by kernel_rfl) rfl (by kernel_rfl) (hm245.at 1 rfl) rfl g134.1 (by rw [hdrs_length]; exact g134.2) ?_)
      intro w256 hx257 hg258
      refine ⟨.inl (by decide), ?_⟩
      rw [hdrs_put] at hx257
      have hm259 : Mem [] M w0 ([.sl Kd.float (some ⟨b228, 0, none⟩) 1 ([(rd x0.Data s103.1)] : List Nat), .ow Kd.hdr 23 A88 c89 (hdrs (upd X104 (r115).toNat (A235, c236)) (put s103.2 r115 ((rd s103.2 r115) ++ ([(rd x0.Data s103.1)] : List Nat)))), .bx b72 [.slice A60 r57.1.Shape.length c61, .slice A62 r57.1.Data.length c63] 25, .ow (Kd.int .i64) 3 A60 c61 r57.1.Shape, .ow Kd.float 26 A62 c63 r57.1.Data, .bx b28 [.slice none 0 0, .slice none 0 0] 25, .bx b21 [.slice A0_0 x0.Shape.length c0_0, .slice A0_1 x0.Data.length c0_1] 25, .sl (Kd.int .i64) A0_0 c0_0 x0.Shape, .sl Kd.float A0_1 c0_1 x0.Data, .sl (Kd.int .i64) A1 c1 x1] ++ fam Kd.float 26 (upd X104 (r115).toNat (A235, c236)) (put s103.2 r115 ((rd s103.2 r115) ++ ([(rd x0.Data s103.1)] : List Nat)))) w256 := hm245.setOwn 1 _ rfl rfl hx257 hg258 (.inl rfl)
      refine allDone (by kernel_rfl) ⟨rfl, A235, c236, hf252.sel (l := [1, 2, 4, 6, 8, 9]) (by kernel_rfl), hm259.selT [1, 2, 3, 4, 5, 6, 7, 8, 9] _ rfl (by kernel_rfl)⟩
    rintro a260 w261 ⟨A151, c152, hf262, hm263⟩
    refine blkN ?_
    refine thenN ?_
    refine reg [] [1, 2, 4, 6, 8, 9] [(1, .slice A1 x1.length c1), (2, .pointer (some ⟨b21, 0, none⟩)), (4, .pointer (some ⟨b28, 0, none⟩)), (6, .pointer (some ⟨b72, 0, none⟩)), (8, .slice A88 s103.2.length c89), (9, .int .i64 (w64 (s103.1 + 1)))] [] hf262 (by kernel_rfl) trivial fun a264 hf265 => ?_
    have hf266 : Fr 75 a264 [(1, .slice A1 x1.length c1), (2, .pointer (some ⟨b21, 0, none⟩)), (4, .pointer (some ⟨b28, 0, none⟩)), (6, .pointer (some ⟨b72, 0, none⟩)), (8, .slice A88 s103.2.length c89), (9, .int .i64 (w64 (s103.1 + 1)))] := hf265.sel (l := [1, 2, 4, 6, 8, 9]) (by kernel_rfl)
    have hm267 : Mem [] M w0 ([.ow Kd.hdr 23 A88 c89 (hdrs (upd X104 (r115).toNat (A151, c152)) (put s103.2 r115 ((rd s103.2 r115) ++ ([(rd x0.Data s103.1)] : List Nat)))), .bx b72 [.slice A60 r57.1.Shape.length c61, .slice A62 r57.1.Data.length c63] 25, .ow (Kd.int .i64) 3 A60 c61 r57.1.Shape, .ow Kd.float 26 A62 c63 r57.1.Data, .bx b28 [.slice none 0 0, .slice none 0 0] 25, .bx b21 [.slice A0_0 x0.Shape.length c0_0, .slice A0_1 x0.Data.length c0_1] 25, .sl (Kd.int .i64) A0_0 c0_0 x0.Shape, .sl Kd.float A0_1 c0_1 x0.Data, .sl (Kd.int .i64) A1 c1 x1] ++ fam Kd.float 26 (upd X104 (r115).toNat (A151, c152)) (put s103.2 r115 ((rd s103.2 r115) ++ ([(rd x0.Data s103.1)] : List Nat)))) w261 := hm263.selT [0, 1, 2, 3, 4, 5, 6, 7, 8] _ rfl (by kernel_rfl)
    exact ⟨((w64 (s103.1 + 1)), (put s103.2 r115 ((rd s103.2 r115) ++ ([(rd x0.Data s103.1)] : List Nat)))), H1, (upd X104 (r115).toNat (A151, c152)), (by simpa only [put_length, List.length_nil] using hf266), (by simpa only [put_length, List.length_nil] using hm267)⟩
  rintro a270 w271 ⟨X104, hf272, hm273⟩
  refine thenN ?_
  refine wp_seq ?_
  refine wp_seq ?_
  refine reg [] [4, 6, 8, 11] [(4, .pointer (some ⟨b28, 0, none⟩)), (6, .pointer (some ⟨b72, 0, none⟩)), (8, .slice A88 r105.2.length c89), (11, .int .i64 0)] [] hf272 (by kernel_rfl) trivial fun a274 hf275 => ?_
  have hm276 : Mem [] M w0 ([.ow Kd.hdr 23 A88 c89 (hdrs X104 r105.2), .bx b72 [.slice A60 r57.1.Shape.length c61, .slice A62 r57.1.Data.length c63] 25, .ow (Kd.int .i64) 3 A60 c61 r57.1.Shape, .ow Kd.float 26 A62 c63 r57.1.Data, .bx b28 [.slice none 0 0, .slice none 0 0] 25] ++ fam Kd.float 26 X104 r105.2) w271 := hm273.selT [0, 1, 2, 3, 4] _ rfl (by kernel_rfl)
  refine thenN ?_
  have hm277 : Mem [] M w0 [.sl (Kd.slice Kd.float) A88 c89 r105.2, .bx b72 [.slice A60 r57.1.Shape.length c61, .slice A62 r57.1.Data.length c63] 25, .ow (Kd.int .i64) 3 A60 c61 r57.1.Shape, .ow Kd.float 26 A62 c63 r57.1.Data, .bx b28 [.slice none 0 0, .slice none 0 0] 25] w271 := hm276.sealFam 0 _ rfl rfl
  obtain ⟨r279, hr279, H0⟩ := ob_split H0
  refine wpBlock (Mid := fun (a : Act) (w : World) => Fr 75 a [(4, .pointer (some ⟨b28, 0, none⟩)), (6, .pointer (some ⟨b72, 0, none⟩)), (8, .slice A88 r105.2.length c89), (11, .int .i64 r279.1)] ∧ Mem [] M w0 [.sl (Kd.slice Kd.float) A88 c89 r105.2, .bx b72 [.slice A60 r57.1.Shape.length c61, .slice A62 r279.2.length c63] 25, .ow (Kd.int .i64) 3 A60 c61 r57.1.Shape, .ow Kd.float 26 A62 c63 r279.2, .bx b28 [.slice none 0 0, .slice none 0 0] 25] w) ?_ ?_
  · refine wpLoop (ref1_Gather.l1 r105) r279 (fun (s278 : (Int × (List Nat))) (a : Act) (w : World) => Fr 75 a [(4, .pointer (some ⟨b28, 0, none⟩)), (6, .pointer (some ⟨b72, 0, none⟩)), (8, .slice A88 r105.2.length c89), (11, .int .i64 s278.1)] ∧ Mem [] M w0 [.sl (Kd.slice Kd.float) A88 c89 r105.2, .bx b72 [.slice A60 r57.1.Shape.length c61, .slice A62 s278.2.length c63] 25, .ow (Kd.int .i64) 3 A60 c61 r57.1.Shape, .ow Kd.float 26 A62 c63 s278.2, .bx b28 [.slice none 0 0, .slice none 0 0] 25] w) (0, r57.1.Data) hr279 ⟨hf275.sel (l := [4, 6, 8, 11]) (by kernel_rfl), hm277.sel [0, 1, 2, 3, 4] _ rfl (by kernel_rfl)⟩ ?_
    rintro g280 s278 a281 w282 H1 ⟨hf283, hm284⟩
    unfold ref1_Gather.l1 at H1
    refine wp_seq ?_
    refine wp_seq ?_
    rcases ifS_split H1 with ⟨c285, H1⟩ | ⟨c285, H1⟩
    rotate_left
    · refine reg [.bool false] [4, 6, 8, 11, 62] [(4, .pointer (some ⟨b28, 0, none⟩)), (6, .pointer (some ⟨b72, 0, none⟩)), (8, .slice A88 r105.2.length c89), (11, .int .i64 s278.1), (62, .bool false)] [.is (decide (s278.1 < (r105.2.length : Int)) = false)] hf283 (by kernel_rfl) ⟨(decide_eq_false c285), trivial⟩ fun a359 hf360 => ?_
      refine thenN ?_
      refine condF hf360 (by kernel_rfl) ?_
      refine wp_exit ?_
      refine thenE ?_
      refine thenE ?_
      obtain rfl := Option.some.inj H1
      exact .inl ⟨rfl, hf360.sel (l := [4, 6, 8, 11]) (by kernel_rfl), hm284.sel [0, 1, 2, 3, 4] _ rfl (by kernel_rfl)⟩
    refine reg [.bool true] [4, 6, 8, 11, 62] [(4, .pointer (some ⟨b28, 0, none⟩)), (6, .pointer (some ⟨b72, 0, none⟩)), (8, .slice A88 r105.2.length c89), (11, .int .i64 s278.1), (62, .bool true)] [.is (decide (s278.1 < (r105.2.length : Int)) = true)] hf283 (by kernel_rfl) ⟨(decide_eq_true c285), trivial⟩ fun a286 hf287 => ?_
    refine thenN ?_
    refine condT hf287 (by kernel_rfl) ?_
    refine wp_skip ?_
    refine thenN ?_
    refine wp_seq ?_
    refine wp_block ?_
    obtain ⟨g288, H1⟩ := ifS_guard H1
    obtain ⟨r289, hr289, H1⟩ := obS_split H1
    obtain ⟨g290, H1⟩ := ifS_guard H1
    refine midReg (fun (a : Act) (w : World) => Fr 75 a [(4, .pointer (some ⟨b28, 0, none⟩)), (6, .pointer (some ⟨b72, 0, none⟩)), (8, .slice A88 r105.2.length c89), (11, .int .i64 s278.1)] ∧ Mem [] M w0 [.sl (Kd.slice Kd.float) A88 c89 r105.2, .bx b72 [.slice A60 r57.1.Shape.length c61, .slice A62 s278.2.length c63] 25, .ow (Kd.int .i64) 3 A60 c61 r57.1.Shape, .ow Kd.float 26 A62 c63 (put s278.2 s278.1 r289), .bx b28 [.slice none 0 0, .slice none 0 0] 25] w) ?_ ?_
    · refine anyG [9] (by kernel_rfl) fun w308 hg309 => ?_
      have hm310 := hm284.still hg309
      have q331 := (hm310.slAt 0 rfl).slice s278.1 g288.1 g288.2
      obtain ⟨A332, c333, pA332, sA332, kA332⟩ := q331.2
      have hm334 := hm310.elem pA332 sA332
      refine quiet0 [0, 1, 2, 3, 4, 5, 6] [.slice A62 s278.2.length c63, .slice A332 ((rd r105.2 s278.1).length) c333] [4, 6, 8, 11, 66, 67, 71] #[true, true, true, true, true, true, true, false, false, false] [(4, .pointer (some ⟨b28, 0, none⟩)), (6, .pointer (some ⟨b72, 0, none⟩)), (8, .slice A88 r105.2.length c89), (11, .int .i64 s278.1), (66, .slice A62 s278.2.length c63), (67, .int .i64 s278.1), (71, .slice A332 ((rd r105.2 s278.1).length) c333)] [.cell ⟨b72, 1, none⟩ (.slice A62 s278.2.length c63), .is (Option.isSome A88 = true), .is (0 ≤ s278.1 ∧ s278.1 < (r105.2.length : Int)), .cell ((ad A88).add ((s278.1).toNat * 1)) (.slice A332 ((rd r105.2 s278.1).length) c333)] 3 rfl (by kernel_rfl) (fun _ _ _ _ _ h => nomatch h.1) hf287 (by kernel_rfl) ⟨(hm310.cell 1 rfl rfl), q331.1, g288, kA332, trivial⟩ fun a335 hf336 => ?_
      refine all1 7 (by kernel_rfl) ?_
      refine opOf hf336 rfl (by kernel_rfl) (aCall (fid := 40) (args := [.slice A332 ((rd r105.2 s278.1).length) c333]) (d := 72) hf336 (by kernel_rfl) (by kernel_rfl) callable40 (ref1_Fold.calls _ _ (rd r105.2 s278.1) A332 ((rd r105.2 s278.1).length) c333 rfl (hm334.give [0] [.sl Kd.float A332 c333 (rd r105.2 s278.1)] rfl rfl) r289 hr289) ?_)
      rintro _ w338 a339 ⟨b337, rfl, hb337, hk341⟩ hf340
      refine ⟨.inr (Gr.still hk341.cum.none), ?_⟩
      have hm342 := hm334.still hk341.cum.none
      have q343 := (hm342.owAt 4 rfl).float s278.1 g290.1 g290.2
      obtain ⟨b344, hb344, kb344⟩ := q343.2
      refine quiet0 [8] [] [4, 6, 8, 11, 72, 73] #[true, true, true, true, true, true, true, true, true, false] [(4, .pointer (some ⟨b28, 0, none⟩)), (6, .pointer (some ⟨b72, 0, none⟩)), (8, .slice A88 r105.2.length c89), (11, .int .i64 s278.1), (72, .float .f64 b337), (73, .pointer (some ((ad A62).add ((s278.1).toNat * 1))))] [.is (Option.isSome A62 = true), .is (0 ≤ s278.1 ∧ s278.1 < (s278.2.length : Int))] 1 rfl (by kernel_rfl) (fun _ _ _ _ _ h => nomatch h.1) hf340 (by kernel_rfl) ⟨q343.1, g290, trivial⟩ fun a345 hf346 => ?_
      refine all1 9 (by kernel_rfl) ?_
      refine opOf hf346 rfl (by kernel_rfl) (aStoreO (kd := Kd.float) (base := 0) (E := 26) (A := A62) (c := c63) (xs := s278.2) (i := s278.1) (x := r289) (us := [.float .f64 b337]) (sz := 1) hf346 (by kernel_rfl) rfl (by kernel_rfl) (hm342.at 4 rfl) ⟨_, rfl, hb337⟩ g290.1 g290.2 ?_)
      intro w347 hx348 hg349
      refine ⟨.inl (by decide), ?_⟩
      have hm350 := hm342.setOwn 4 _ rfl rfl hx348 hg349 (.inl rfl)
      refine allDone (by kernel_rfl) ⟨rfl, hf346.sel (l := [4, 6, 8, 11]) (by kernel_rfl), hm350.sel [1, 2, 3, 4, 5] _ rfl (by kernel_rfl)⟩
    rintro a351 w352 ⟨hf353, hm354⟩
    refine blkN ?_
    refine thenN ?_
    refine reg [] [4, 6, 8, 11] [(4, .pointer (some ⟨b28, 0, none⟩)), (6, .pointer (some ⟨b72, 0, none⟩)), (8, .slice A88 r105.2.length c89), (11, .int .i64 (w64 (s278.1 + 1)))] [] hf353 (by kernel_rfl) trivial fun a355 hf356 => ?_
    have hf357 : Fr 75 a355 [(4, .pointer (some ⟨b28, 0, none⟩)), (6, .pointer (some ⟨b72, 0, none⟩)), (8, .slice A88 r105.2.length c89), (11, .int .i64 (w64 (s278.1 + 1)))] := hf356.sel (l := [4, 6, 8, 11]) (by kernel_rfl)
    have hm358 : Mem [] M w0 [.sl (Kd.slice Kd.float) A88 c89 r105.2, .bx b72 [.slice A60 r57.1.Shape.length c61, .slice A62 s278.2.length c63] 25, .ow (Kd.int .i64) 3 A60 c61 r57.1.Shape, .ow Kd.float 26 A62 c63 (put s278.2 s278.1 r289), .bx b28 [.slice none 0 0, .slice none 0 0] 25] w352 := hm354.sel [0, 1, 2, 3, 4] _ rfl (by kernel_rfl)
    exact ⟨((w64 (s278.1 + 1)), (put s278.2 s278.1 r289)), H1, (by simpa only [put_length, List.length_nil] using hf357), (by simpa only [put_length, List.length_nil] using hm358)⟩
  rintro a361 w362 ⟨hf363, hm364⟩
  refine thenN ?_
  refine wp_seq ?_
  refine inReg ?_
  refine go 1 [.agg #[.slice A60 r57.1.Shape.length c61, .slice A62 r279.2.length c63]] [4, 74] [(4, .pointer (some ⟨b28, 0, none⟩)), (74, .agg #[.slice A60 r57.1.Shape.length c61, .slice A62 r279.2.length c63])] [.cell ⟨b72, 0, none⟩ (.slice A60 r57.1.Shape.length c61), .cell ⟨b72, 1, none⟩ (.slice A62 r279.2.length c63)] hf363 (by kernel_rfl) ⟨(hm364.cell 1 rfl rfl), (hm364.cell 1 rfl rfl), trivial⟩ fun a365 hf366 => ?_
  refine listOf hf366 rfl (by kernel_rfl) (aStoreB (b := b28) (j := 0) (T := 25) (cs := [.slice none 0 0, .slice none 0 0]) (us := [.slice A60 r57.1.Shape.length c61, .slice A62 r279.2.length c63]) (cs' := [.slice A60 r57.1.Shape.length c61, .slice A62 r279.2.length c63]) hf366 (by kernel_rfl) (hm364.bxAt 4 rfl) (by kernel_rfl) (by kernel_rfl) (by kernel_rfl) ?_)
  intro w367 hx368 hg369
  have hm370 := hm364.setBox 4 _ rfl rfl hx368 hg369
  refine go 1 [] [4, 5] [(4, .pointer (some ⟨b28, 0, none⟩)), (5, .int .i64 0)] [] hf366 (by kernel_rfl) trivial fun a371 hf372 => ?_
  refine endL rfl ?_
  have hm373 := hm370.sel [2, 3, 4] _ rfl (by kernel_rfl)
  refine thenN ?_
  refine wp_ret ?_
  have hm374 : Mem [] M w0 [.ow (Kd.int .i64) 3 A60 c61 r57.1.Shape, .ow Kd.float 26 A62 c63 r279.2] w367 := hm373.sel [0, 1] _ rfl (by kernel_rfl)
  obtain rfl := Option.some.inj H0
  refine ret [.agg #[.slice A60 r57.1.Shape.length c61, .slice A62 r279.2.length c63]] [.agg #[.slice A60 r57.1.Shape.length c61, .slice A62 r279.2.length c63], .int .i64 0] [.cell ⟨b28, 0, none⟩ (.slice A60 r57.1.Shape.length c61), .cell ⟨b28, 1, none⟩ (.slice A62 r279.2.length c63)] hf372 (by kernel_rfl) ⟨(hm373.cell 2 rfl rfl), (hm373.cell 2 rfl rfl), trivial⟩ ?_
  exact ⟨_, rfl, A60, c61, A62, c63, rfl, hm374⟩
end Go.Proofs.Ytkcgiolledmbnac
