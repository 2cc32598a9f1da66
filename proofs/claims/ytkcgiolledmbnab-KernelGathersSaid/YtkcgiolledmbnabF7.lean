/- Printed by gen.py. -/
import Derived.Test.YtkcgiolledmbnabF0
import Derived.Test.YtkcgiolledmbnabF2
import Derived.Test.YtkcgiolledmbnabF3
import Derived.Test.YtkcgiolledmbnabF6
namespace Go.Proofs.Ytkcgiolledmbnab
open Go Go.RowKit
set_option linter.unusedSimpArgs false
set_option linter.unusedVariables false
set_option linter.unnecessarySimpa false
/-! ### backstitch/kernel.Gather -/
noncomputable def kernel_Gather.l0 (x0 : Tensor) (x1 : (List Int)) (s103 : (Int × (List (List Nat)))) : Step (Int × (List (List Nat))) (Int × (List (List Nat))) :=
  if s103.1 < (x0.Data.length : Int) then (if 0 ≤ s103.1 ∧ s103.1 < (x0.Data.length : Int) then (bindS (shape_Place.f x0.Shape s103.1) fun r119 =>
  bindS (kernel_from.f x1 r119) fun r120 =>
  if 0 ≤ r120 ∧ r120 < (s103.2.length : Int) then (if (rd s103.2 r120).length + 1 ≤ 549755813888 then (.next ((w64 (s103.1 + 1)), (put s103.2 r120 ((rd s103.2 r120) ++ ([(rd x0.Data s103.1)] : List Nat)))))
  else .bad)
  else .bad)
  else .bad)
  else (.done (s103.1, s103.2))
noncomputable def kernel_Gather.l1 (r105 : (Int × (List (List Nat)))) (s195 : (Int × (List Nat))) : Step (Int × (List Nat)) (Int × (List Nat)) :=
  if s195.1 < (r105.2.length : Int) then (if 0 ≤ s195.1 ∧ s195.1 < (r105.2.length : Int) then (bindS (real_Fold.f (rd r105.2 s195.1)) fun r212 =>
  if 0 ≤ s195.1 ∧ s195.1 < (s195.2.length : Int) then (.next ((w64 (s195.1 + 1)), (put s195.2 s195.1 r212)))
  else .bad)
  else .bad)
  else (.done (s195.1, s195.2))
noncomputable def kernel_Gather.f (x0 : Tensor) (x1 : (List Int)) : Option (Tensor × Int) :=
  (tensor_May.f x0).bind fun r37 =>
  if r37 = true then ((shape_Into.f x1 x0.Shape).bind fun r39 =>
  if r39 = true then ((tensor_New.f x1 0).bind fun r57 =>
  if 0 ≤ (r57.1.Data.length : Int) ∧ (r57.1.Data.length : Int) ≤ 1099511627776 then ((loop (kernel_Gather.l0 x0 x1) (0, (List.replicate ((r57.1.Data.length : Int)).toNat ([] : (List Nat))))).bind fun r105 =>
  (loop (kernel_Gather.l1 r105) (0, r57.1.Data)).bind fun r196 =>
  some ((⟨r57.1.Shape, r196.2⟩ : Tensor), 0))
  else none)
  else (some ((⟨([] : (List Int)), ([] : (List Nat))⟩ : Tensor), 2)))
  else (some ((⟨([] : (List Int)), ([] : (List Nat))⟩ : Tensor), 2))
set_option maxRecDepth 100000 in
set_option maxHeartbeats 4000000 in
theorem kernel_Gather.calls (M : List (Option Nat)) (w0 : World) (x0 : Tensor) (A0_0 : Option Addr) (n0_0 c0_0 : Nat) (e0_0 : n0_0 = x0.Shape.length) (A0_1 : Option Addr) (n0_1 c0_1 : Nat) (e0_1 : n0_1 = x0.Data.length) (x1 : (List Int)) (A1 : Option Addr) (n1 c1 : Nat) (e1 : n1 = x1.length) (hm0 : Mem [] M w0 [.sl (Kd.int .i64) A0_0 c0_0 x0.Shape, .sl Kd.float A0_1 c0_1 x0.Data, .sl (Kd.int .i64) A1 c1 x1] w0) (r : (Tensor × Int)) (H0 : kernel_Gather.f x0 x1 = some r) :
    Calls Try.prog 47 [.agg #[.slice A0_0 n0_0 c0_0, .slice A0_1 n0_1 c0_1], .slice A1 n1 c1].toArray w0 (fun x w' => ∃ v, x = .returned v ∧ ∃ Ar0_0 cr0_0 Ar0_1 cr0_1, v = .tuple #[.agg #[.slice Ar0_0 r.1.Shape.length cr0_0, .slice Ar0_1 r.1.Data.length cr0_1], .int .i64 r.2] ∧ Mem [] M w0 [.ow (Kd.int .i64) 3 Ar0_0 cr0_0 r.1.Shape, .ow Kd.float 44 Ar0_1 cr0_1 r.1.Data] w') := by
  subst e0_0
  subst e0_1
  subst e1
  unfold kernel_Gather.f at H0
  refine enter (n := 74) Try.func47 rfl rfl (by kernel_rfl) fun a0 (hf0 : Fr 74 a0 [(0, .agg #[.slice A0_0 x0.Shape.length c0_0, .slice A0_1 x0.Data.length c0_1]), (1, .slice A1 x1.length c1)]) => ?_
  refine wp_seq ?_
  refine inReg ?_
  refine listOf hf0 rfl (by kernel_rfl) (aNew (cs := [.slice A0_0 x0.Shape.length c0_0, .slice A0_1 x0.Data.length c0_1]) (T := 28) (d := 2) hf0 (by kernel_rfl) (by kernel_rfl) ?_)
  intro b21 w22 a23 hbb21 hx25 hg26 hf24
  have hm27 := hm0.box hbb21 hx25 hg26
  refine listOf hf24 rfl (by kernel_rfl) (aNew (cs := [.slice none 0 0, .slice none 0 0]) (T := 28) (d := 4) hf24 (by kernel_rfl) (by kernel_rfl) ?_)
  intro b28 w29 a30 hbb28 hx32 hg33 hf31
  have hm34 := hm27.box hbb28 hx32 hg33
  refine go 1 [] [1, 2, 4] [(1, .slice A1 x1.length c1), (2, .pointer (some ⟨b21, 0, none⟩)), (4, .pointer (some ⟨b28, 0, none⟩))] [] hf31 (by kernel_rfl) trivial fun a35 hf36 => ?_
  refine endL rfl ?_
  refine thenN ?_
  refine wp_seq ?_
  refine wp_seq ?_
  obtain ⟨r37, hr37, H0⟩ := ob_split H0
  rcases ifb_split H0 with ⟨c38, H0⟩ | ⟨c38, H0⟩
  rotate_left
  · refine inReg ?_
    refine go 1 [.agg #[.slice A0_0 x0.Shape.length c0_0, .slice A0_1 x0.Data.length c0_1]] [1, 2, 4, 14] [(1, .slice A1 x1.length c1), (2, .pointer (some ⟨b21, 0, none⟩)), (4, .pointer (some ⟨b28, 0, none⟩)), (14, .agg #[.slice A0_0 x0.Shape.length c0_0, .slice A0_1 x0.Data.length c0_1])] [.cell ⟨b21, 0, none⟩ (.slice A0_0 x0.Shape.length c0_0), .cell ⟨b21, 1, none⟩ (.slice A0_1 x0.Data.length c0_1)] hf36 (by kernel_rfl) ⟨(hm34.cell 1 rfl rfl), (hm34.cell 1 rfl rfl), trivial⟩ fun a316 hf317 => ?_
    refine listOf hf317 rfl (by kernel_rfl) (aCall (fid := 38) (args := [.agg #[.slice A0_0 x0.Shape.length c0_0, .slice A0_1 x0.Data.length c0_1]]) (d := 15) hf317 (by kernel_rfl) (by kernel_rfl) callable38 (tensor_May.calls _ _ x0 A0_0 x0.Shape.length c0_0 rfl A0_1 x0.Data.length c0_1 rfl (hm34.give [2, 3] [.sl (Kd.int .i64) A0_0 c0_0 x0.Shape, .sl Kd.float A0_1 c0_1 x0.Data] rfl rfl) r37 hr37) ?_)
    rintro _ w318 a319 ⟨rfl, hk321⟩ hf320
    have hm322 := hm34.still hk321.cum.none
    rw [c38] at hf320
    refine go 8 [] [1, 2, 4, 23] [(1, .slice A1 x1.length c1), (2, .pointer (some ⟨b21, 0, none⟩)), (4, .pointer (some ⟨b28, 0, none⟩)), (23, .bool true)] [] hf320 (by kernel_rfl) trivial fun a323 hf324 => ?_
    refine endL rfl ?_
    refine thenN ?_
    refine condT hf324 (by kernel_rfl) ?_
    refine wp_seq ?_
    refine inReg ?_
    refine go 1 [] [4, 24] [(4, .pointer (some ⟨b28, 0, none⟩)), (24, .agg #[.slice none 0 0, .slice none 0 0])] [] hf324 (by kernel_rfl) trivial fun a325 hf326 => ?_
    refine listOf hf326 rfl (by kernel_rfl) (aStoreB (b := b28) (j := 0) (T := 28) (cs := [.slice none 0 0, .slice none 0 0]) (us := [.slice none 0 0, .slice none 0 0]) (cs' := [.slice none 0 0, .slice none 0 0]) hf326 (by kernel_rfl) (hm322.bxAt 0 rfl) (by kernel_rfl) (by kernel_rfl) (by kernel_rfl) ?_)
    intro w327 hx328 hg329
    have hm330 := hm322.setBox 0 _ rfl rfl hx328 hg329
    refine go 1 [] [4, 5] [(4, .pointer (some ⟨b28, 0, none⟩)), (5, .int .i64 2)] [] hf326 (by kernel_rfl) trivial fun a331 hf332 => ?_
    refine endL rfl ?_
    have hm333 := hm330.sel [0] _ rfl (by kernel_rfl)
    refine thenN ?_
    refine wp_ret ?_
    refine thenR ?_
    have hm334 := hm333.nilOw (Kd.int .i64) 3
    have hm335 := hm334.nilOw Kd.float 44
    have hm336 : Mem [] M w0 [.ow (Kd.int .i64) 3 none 0 ([] : (List Int)), .ow Kd.float 44 none 0 ([] : (List Nat))] w327 := hm335.sel [1, 0] _ rfl (by kernel_rfl)
    obtain rfl := Option.some.inj H0
    refine ret [.agg #[.slice none 0 0, .slice none 0 0]] [.agg #[.slice none 0 0, .slice none 0 0], .int .i64 2] [.cell ⟨b28, 0, none⟩ (.slice none 0 0), .cell ⟨b28, 1, none⟩ (.slice none 0 0)] hf332 (by kernel_rfl) ⟨(hm333.cell 0 rfl rfl), (hm333.cell 0 rfl rfl), trivial⟩ ?_
    exact ⟨_, rfl, none, 0, none, 0, rfl, hm336⟩
  obtain ⟨r39, hr39, H0⟩ := ob_split H0
  rcases ifb_split H0 with ⟨c40, H0⟩ | ⟨c40, H0⟩
  rotate_left
  · refine inReg ?_
    refine go 1 [.agg #[.slice A0_0 x0.Shape.length c0_0, .slice A0_1 x0.Data.length c0_1]] [1, 2, 4, 14] [(1, .slice A1 x1.length c1), (2, .pointer (some ⟨b21, 0, none⟩)), (4, .pointer (some ⟨b28, 0, none⟩)), (14, .agg #[.slice A0_0 x0.Shape.length c0_0, .slice A0_1 x0.Data.length c0_1])] [.cell ⟨b21, 0, none⟩ (.slice A0_0 x0.Shape.length c0_0), .cell ⟨b21, 1, none⟩ (.slice A0_1 x0.Data.length c0_1)] hf36 (by kernel_rfl) ⟨(hm34.cell 1 rfl rfl), (hm34.cell 1 rfl rfl), trivial⟩ fun a287 hf288 => ?_
    refine listOf hf288 rfl (by kernel_rfl) (aCall (fid := 38) (args := [.agg #[.slice A0_0 x0.Shape.length c0_0, .slice A0_1 x0.Data.length c0_1]]) (d := 15) hf288 (by kernel_rfl) (by kernel_rfl) callable38 (tensor_May.calls _ _ x0 A0_0 x0.Shape.length c0_0 rfl A0_1 x0.Data.length c0_1 rfl (hm34.give [2, 3] [.sl (Kd.int .i64) A0_0 c0_0 x0.Shape, .sl Kd.float A0_1 c0_1 x0.Data] rfl rfl) r37 hr37) ?_)
    rintro _ w289 a290 ⟨rfl, hk292⟩ hf291
    have hm293 := hm34.still hk292.cum.none
    rw [c38] at hf291
    refine go 5 [.slice A0_0 x0.Shape.length c0_0] [1, 2, 4, 17, 18, 20] [(1, .slice A1 x1.length c1), (2, .pointer (some ⟨b21, 0, none⟩)), (4, .pointer (some ⟨b28, 0, none⟩)), (17, .bool false), (18, .slice A1 x1.length c1), (20, .slice A0_0 x0.Shape.length c0_0)] [.cell ⟨b21, 0, none⟩ (.slice A0_0 x0.Shape.length c0_0)] hf291 (by kernel_rfl) ⟨(hm293.cell 1 rfl rfl), trivial⟩ fun a294 hf295 => ?_
    refine listOf hf295 rfl (by kernel_rfl) (aCall (fid := 74) (args := [.slice A1 x1.length c1, .slice A0_0 x0.Shape.length c0_0]) (d := 21) hf295 (by kernel_rfl) (by kernel_rfl) callable74 (shape_Into.calls _ _ x1 A1 x1.length c1 rfl x0.Shape A0_0 x0.Shape.length c0_0 rfl (hm293.give [4, 2] [.sl (Kd.int .i64) A1 c1 x1, .sl (Kd.int .i64) A0_0 c0_0 x0.Shape] rfl rfl) r39 hr39) ?_)
    rintro _ w296 a297 ⟨rfl, hk299⟩ hf298
    have hm300 := hm293.still hk299.cum.none
    rw [c40] at hf298
    refine go 2 [] [1, 2, 4, 23] [(1, .slice A1 x1.length c1), (2, .pointer (some ⟨b21, 0, none⟩)), (4, .pointer (some ⟨b28, 0, none⟩)), (23, .bool true)] [] hf298 (by kernel_rfl) trivial fun a301 hf302 => ?_
    refine endL rfl ?_
    refine thenN ?_
    refine condT hf302 (by kernel_rfl) ?_
    refine wp_seq ?_
    refine inReg ?_
    refine go 1 [] [4, 24] [(4, .pointer (some ⟨b28, 0, none⟩)), (24, .agg #[.slice none 0 0, .slice none 0 0])] [] hf302 (by kernel_rfl) trivial fun a303 hf304 => ?_
    refine listOf hf304 rfl (by kernel_rfl) (aStoreB (b := b28) (j := 0) (T := 28) (cs := [.slice none 0 0, .slice none 0 0]) (us := [.slice none 0 0, .slice none 0 0]) (cs' := [.slice none 0 0, .slice none 0 0]) hf304 (by kernel_rfl) (hm300.bxAt 0 rfl) (by kernel_rfl) (by kernel_rfl) (by kernel_rfl) ?_)
    intro w305 hx306 hg307
    have hm308 := hm300.setBox 0 _ rfl rfl hx306 hg307
    refine go 1 [] [4, 5] [(4, .pointer (some ⟨b28, 0, none⟩)), (5, .int .i64 2)] [] hf304 (by kernel_rfl) trivial fun a309 hf310 => ?_
    refine endL rfl ?_
    have hm311 := hm308.sel [0] _ rfl (by kernel_rfl)
    refine thenN ?_
    refine wp_ret ?_
    refine thenR ?_
    have hm312 := hm311.nilOw (Kd.int .i64) 3
    have hm313 := hm312.nilOw Kd.float 44
    have hm314 : Mem [] M w0 [.ow (Kd.int .i64) 3 none 0 ([] : (List Int)), .ow Kd.float 44 none 0 ([] : (List Nat))] w305 := hm313.sel [1, 0] _ rfl (by kernel_rfl)
    obtain rfl := Option.some.inj H0
    refine ret [.agg #[.slice none 0 0, .slice none 0 0]] [.agg #[.slice none 0 0, .slice none 0 0], .int .i64 2] [.cell ⟨b28, 0, none⟩ (.slice none 0 0), .cell ⟨b28, 1, none⟩ (.slice none 0 0)] hf310 (by kernel_rfl) ⟨(hm311.cell 0 rfl rfl), (hm311.cell 0 rfl rfl), trivial⟩ ?_
    exact ⟨_, rfl, none, 0, none, 0, rfl, hm314⟩
  refine inReg ?_
  refine go 1 [.agg #[.slice A0_0 x0.Shape.length c0_0, .slice A0_1 x0.Data.length c0_1]] [1, 2, 4, 14] [(1, .slice A1 x1.length c1), (2, .pointer (some ⟨b21, 0, none⟩)), (4, .pointer (some ⟨b28, 0, none⟩)), (14, .agg #[.slice A0_0 x0.Shape.length c0_0, .slice A0_1 x0.Data.length c0_1])] [.cell ⟨b21, 0, none⟩ (.slice A0_0 x0.Shape.length c0_0), .cell ⟨b21, 1, none⟩ (.slice A0_1 x0.Data.length c0_1)] hf36 (by kernel_rfl) ⟨(hm34.cell 1 rfl rfl), (hm34.cell 1 rfl rfl), trivial⟩ fun a41 hf42 => ?_
  refine listOf hf42 rfl (by kernel_rfl) (aCall (fid := 38) (args := [.agg #[.slice A0_0 x0.Shape.length c0_0, .slice A0_1 x0.Data.length c0_1]]) (d := 15) hf42 (by kernel_rfl) (by kernel_rfl) callable38 (tensor_May.calls _ _ x0 A0_0 x0.Shape.length c0_0 rfl A0_1 x0.Data.length c0_1 rfl (hm34.give [2, 3] [.sl (Kd.int .i64) A0_0 c0_0 x0.Shape, .sl Kd.float A0_1 c0_1 x0.Data] rfl rfl) r37 hr37) ?_)
  rintro _ w43 a44 ⟨rfl, hk46⟩ hf45
  have hm47 := hm34.still hk46.cum.none
  rw [c38] at hf45
  refine go 5 [.slice A0_0 x0.Shape.length c0_0] [1, 2, 4, 17, 18, 20] [(1, .slice A1 x1.length c1), (2, .pointer (some ⟨b21, 0, none⟩)), (4, .pointer (some ⟨b28, 0, none⟩)), (17, .bool false), (18, .slice A1 x1.length c1), (20, .slice A0_0 x0.Shape.length c0_0)] [.cell ⟨b21, 0, none⟩ (.slice A0_0 x0.Shape.length c0_0)] hf45 (by kernel_rfl) ⟨(hm47.cell 1 rfl rfl), trivial⟩ fun a48 hf49 => ?_
  refine listOf hf49 rfl (by kernel_rfl) (aCall (fid := 74) (args := [.slice A1 x1.length c1, .slice A0_0 x0.Shape.length c0_0]) (d := 21) hf49 (by kernel_rfl) (by kernel_rfl) callable74 (shape_Into.calls _ _ x1 A1 x1.length c1 rfl x0.Shape A0_0 x0.Shape.length c0_0 rfl (hm47.give [4, 2] [.sl (Kd.int .i64) A1 c1 x1, .sl (Kd.int .i64) A0_0 c0_0 x0.Shape] rfl rfl) r39 hr39) ?_)
  rintro _ w50 a51 ⟨rfl, hk53⟩ hf52
  have hm54 := hm47.still hk53.cum.none
  rw [c40] at hf52
  refine go 2 [] [1, 2, 4, 23] [(1, .slice A1 x1.length c1), (2, .pointer (some ⟨b21, 0, none⟩)), (4, .pointer (some ⟨b28, 0, none⟩)), (23, .bool false)] [] hf52 (by kernel_rfl) trivial fun a55 hf56 => ?_
  refine endL rfl ?_
  refine thenN ?_
  refine condF hf56 (by kernel_rfl) ?_
  refine wp_skip ?_
  refine thenN ?_
  refine wp_seq ?_
  obtain ⟨r57, hr57, H0⟩ := ob_split H0
  refine inReg ?_
  refine go 1 [] [1, 2, 4, 26] [(1, .slice A1 x1.length c1), (2, .pointer (some ⟨b21, 0, none⟩)), (4, .pointer (some ⟨b28, 0, none⟩)), (26, .slice A1 x1.length c1)] [] hf56 (by kernel_rfl) trivial fun a58 hf59 => ?_
  refine listOf hf59 rfl (by kernel_rfl) (aCall (fid := 27) (args := [.slice A1 x1.length c1, .float .f64 0]) (d := 27) hf59 (by kernel_rfl) (by kernel_rfl) callable27 (tensor_New.calls _ _ x1 A1 x1.length c1 rfl 0 0 ((FR.lit (by kernel_rfl) (by kernel_rfl))) (hm54.give [4] [.sl (Kd.int .i64) A1 c1 x1] rfl rfl) r57 hr57) ?_)
  rintro _ w65 a66 ⟨A60, c61, A62, c63, rfl, hk68⟩ hf67
  have hm69 := hm54.back hk68
  refine go 3 [] [1, 2, 4, 28, 29] [(1, .slice A1 x1.length c1), (2, .pointer (some ⟨b21, 0, none⟩)), (4, .pointer (some ⟨b28, 0, none⟩)), (28, .agg #[.slice A60 r57.1.Shape.length c61, .slice A62 r57.1.Data.length c63]), (29, .int .i64 r57.2)] [] hf67 (by kernel_rfl) trivial fun a70 hf71 => ?_
  refine listOf hf71 rfl (by kernel_rfl) (aNew (cs := [.slice none 0 0, .slice none 0 0]) (T := 28) (d := 6) hf71 (by kernel_rfl) (by kernel_rfl) ?_)
  intro b72 w73 a74 hbb72 hx76 hg77 hf75
  have hm78 := hm69.box hbb72 hx76 hg77
  refine listOf hf75 rfl (by kernel_rfl) (aStoreB (b := b72) (j := 0) (T := 28) (cs := [.slice none 0 0, .slice none 0 0]) (us := [.slice A60 r57.1.Shape.length c61, .slice A62 r57.1.Data.length c63]) (cs' := [.slice A60 r57.1.Shape.length c61, .slice A62 r57.1.Data.length c63]) hf75 (by kernel_rfl) (hm78.bxAt 0 rfl) (by kernel_rfl) (by kernel_rfl) (by kernel_rfl) ?_)
  intro w79 hx80 hg81
  have hm82 := hm78.setBox 0 _ rfl rfl hx80 hg81
  refine go 1 [] [1, 2, 4, 6] [(1, .slice A1 x1.length c1), (2, .pointer (some ⟨b21, 0, none⟩)), (4, .pointer (some ⟨b28, 0, none⟩)), (6, .pointer (some ⟨b72, 0, none⟩))] [] hf75 (by kernel_rfl) trivial fun a83 hf84 => ?_
  refine endL rfl ?_
  refine thenN ?_
  refine wp_seq ?_
  obtain ⟨g85, H0⟩ := if_guard H0
  refine inReg ?_
  refine go 3 [.slice A62 r57.1.Data.length c63] [1, 2, 4, 6, 32] [(1, .slice A1 x1.length c1), (2, .pointer (some ⟨b21, 0, none⟩)), (4, .pointer (some ⟨b28, 0, none⟩)), (6, .pointer (some ⟨b72, 0, none⟩)), (32, .int .i64 (r57.1.Data.length : Int))] [.cell ⟨b72, 1, none⟩ (.slice A62 r57.1.Data.length c63)] hf84 (by kernel_rfl) ⟨(hm82.cell 0 rfl rfl), trivial⟩ fun a86 hf87 => ?_
  refine listOf hf87 rfl (by kernel_rfl) (aMake (kd := Kd.hdr) (x := ((none, 0, 0) : Option Addr × Nat × Nat)) (E := 26) (L := (r57.1.Data.length : Int)) (z := [.slice none 0 0]) (sz := 1) (d := 33) hf87 (by kernel_rfl) (by kernel_rfl) rfl (fun _ _ => rfl) g85.1 g85.2 ?_)
  intro A88 c89 w90 a91 ho93 hb95 hg94 hf92
  rw [show (List.replicate ((r57.1.Data.length : Int)).toNat ((none, 0, 0) : Option Addr × Nat × Nat)).length = (List.replicate ((r57.1.Data.length : Int)).toNat ([] : (List Nat))).length from by simp only [List.length_replicate]] at hf92
  have ho93x : ∀ S, Ow Kd.hdr S _ 26 w90 A88 c89 (hdrs (fun _ => (none, 0)) (List.replicate ((r57.1.Data.length : Int)).toNat ([] : (List Nat)))) := fun S => by rw [hdrs_nil]; exact ho93 S
  have hm96 := hm82.own (ho93x _) hg94
  have hm97 : Mem [] M w0 ([.ow Kd.hdr 26 A88 c89 (hdrs (fun _ => (none, 0)) (List.replicate ((r57.1.Data.length : Int)).toNat ([] : (List Nat)))), .bx b72 [.slice A60 r57.1.Shape.length c61, .slice A62 r57.1.Data.length c63] 28, .ow (Kd.int .i64) 3 A60 c61 r57.1.Shape, .ow Kd.float 44 A62 c63 r57.1.Data, .bx b28 [.slice none 0 0, .slice none 0 0] 28, .bx b21 [.slice A0_0 x0.Shape.length c0_0, .slice A0_1 x0.Data.length c0_1] 28, .sl (Kd.int .i64) A0_0 c0_0 x0.Shape, .sl Kd.float A0_1 c0_1 x0.Data, .sl (Kd.int .i64) A1 c1 x1] ++ fam Kd.float 44 (fun _ => (none, 0)) (List.replicate ((r57.1.Data.length : Int)).toNat ([] : (List Nat)))) w90 := hm96.famNil Kd.float 44 ((r57.1.Data.length : Int)).toNat
  refine go 1 [] [1, 2, 4, 6, 8] [(1, .slice A1 x1.length c1), (2, .pointer (some ⟨b21, 0, none⟩)), (4, .pointer (some ⟨b28, 0, none⟩)), (6, .pointer (some ⟨b72, 0, none⟩)), (8, .slice A88 ((List.replicate ((r57.1.Data.length : Int)).toNat ([] : (List Nat))).length) c89)] [] hf92 (by kernel_rfl) trivial fun a98 hf99 => ?_
  refine endL rfl ?_
  refine thenN ?_
  refine wp_seq ?_
  refine wp_seq ?_
  refine reg [.slice A0_1 x0.Data.length c0_1] [1, 2, 4, 6, 8, 35, 36, 37] [(1, .slice A1 x1.length c1), (2, .pointer (some ⟨b21, 0, none⟩)), (4, .pointer (some ⟨b28, 0, none⟩)), (6, .pointer (some ⟨b72, 0, none⟩)), (8, .slice A88 ((List.replicate ((r57.1.Data.length : Int)).toNat ([] : (List Nat))).length) c89), (35, .slice A0_1 x0.Data.length c0_1), (36, .int .i64 (x0.Data.length : Int)), (37, .int .i64 0)] [.cell ⟨b21, 1, none⟩ (.slice A0_1 x0.Data.length c0_1)] hf99 (by kernel_rfl) ⟨(hm97.cell 5 rfl rfl), trivial⟩ fun a100 hf101 => ?_
  refine thenN ?_
  obtain ⟨r105, hr105, H0⟩ := ob_split H0
  refine wpBlock (Mid := fun (a : Act) (w : World) => ∃ (X104 : Nat → Option Addr × Nat), Fr 74 a [(1, .slice A1 x1.length c1), (2, .pointer (some ⟨b21, 0, none⟩)), (4, .pointer (some ⟨b28, 0, none⟩)), (6, .pointer (some ⟨b72, 0, none⟩)), (8, .slice A88 r105.2.length c89), (35, .slice A0_1 x0.Data.length c0_1), (36, .int .i64 (x0.Data.length : Int)), (37, .int .i64 r105.1)] ∧ Mem [] M w0 ([.ow Kd.hdr 26 A88 c89 (hdrs X104 r105.2), .bx b72 [.slice A60 r57.1.Shape.length c61, .slice A62 r57.1.Data.length c63] 28, .ow (Kd.int .i64) 3 A60 c61 r57.1.Shape, .ow Kd.float 44 A62 c63 r57.1.Data, .bx b28 [.slice none 0 0, .slice none 0 0] 28, .bx b21 [.slice A0_0 x0.Shape.length c0_0, .slice A0_1 x0.Data.length c0_1] 28, .sl (Kd.int .i64) A0_0 c0_0 x0.Shape, .sl Kd.float A0_1 c0_1 x0.Data, .sl (Kd.int .i64) A1 c1 x1] ++ fam Kd.float 44 X104 r105.2) w) ?_ ?_
  · refine wpLoop (kernel_Gather.l0 x0 x1) r105 (fun (s103 : (Int × (List (List Nat)))) (a : Act) (w : World) => ∃ (X104 : Nat → Option Addr × Nat), Fr 74 a [(1, .slice A1 x1.length c1), (2, .pointer (some ⟨b21, 0, none⟩)), (4, .pointer (some ⟨b28, 0, none⟩)), (6, .pointer (some ⟨b72, 0, none⟩)), (8, .slice A88 s103.2.length c89), (35, .slice A0_1 x0.Data.length c0_1), (36, .int .i64 (x0.Data.length : Int)), (37, .int .i64 s103.1)] ∧ Mem [] M w0 ([.ow Kd.hdr 26 A88 c89 (hdrs X104 s103.2), .bx b72 [.slice A60 r57.1.Shape.length c61, .slice A62 r57.1.Data.length c63] 28, .ow (Kd.int .i64) 3 A60 c61 r57.1.Shape, .ow Kd.float 44 A62 c63 r57.1.Data, .bx b28 [.slice none 0 0, .slice none 0 0] 28, .bx b21 [.slice A0_0 x0.Shape.length c0_0, .slice A0_1 x0.Data.length c0_1] 28, .sl (Kd.int .i64) A0_0 c0_0 x0.Shape, .sl Kd.float A0_1 c0_1 x0.Data, .sl (Kd.int .i64) A1 c1 x1] ++ fam Kd.float 44 X104 s103.2) w) (0, (List.replicate ((r57.1.Data.length : Int)).toNat ([] : (List Nat)))) hr105 ⟨(fun _ => (none, 0)), hf101.sel (l := [1, 2, 4, 6, 8, 35, 36, 37]) (by kernel_rfl), hm97.selT [0, 1, 2, 3, 4, 5, 6, 7, 8] _ rfl (by kernel_rfl)⟩ ?_
    rintro g106 s103 a107 w108 H1 ⟨X104, hf109, hm110⟩
    unfold kernel_Gather.l0 at H1
    refine wp_seq ?_
    rcases ifS_split H1 with ⟨c111, H1⟩ | ⟨c111, H1⟩
    rotate_left
    · refine reg [.bool false] [1, 2, 4, 6, 8, 35, 36, 37, 38] [(1, .slice A1 x1.length c1), (2, .pointer (some ⟨b21, 0, none⟩)), (4, .pointer (some ⟨b28, 0, none⟩)), (6, .pointer (some ⟨b72, 0, none⟩)), (8, .slice A88 s103.2.length c89), (35, .slice A0_1 x0.Data.length c0_1), (36, .int .i64 (x0.Data.length : Int)), (37, .int .i64 s103.1), (38, .bool false)] [.is (decide (s103.1 < (x0.Data.length : Int)) = false)] hf109 (by kernel_rfl) ⟨(decide_eq_false c111), trivial⟩ fun a185 hf186 => ?_
      refine thenN ?_
      refine wp_seq ?_
      refine condF hf186 (by kernel_rfl) ?_
      refine wp_exit ?_
      refine thenE ?_
      refine thenE ?_
      obtain rfl := Option.some.inj H1
      exact .inl ⟨rfl, X104, hf186.sel (l := [1, 2, 4, 6, 8, 35, 36, 37]) (by kernel_rfl), hm110.selT [0, 1, 2, 3, 4, 5, 6, 7, 8] _ rfl (by kernel_rfl)⟩
    refine reg [.bool true] [1, 2, 4, 6, 8, 35, 36, 37, 38] [(1, .slice A1 x1.length c1), (2, .pointer (some ⟨b21, 0, none⟩)), (4, .pointer (some ⟨b28, 0, none⟩)), (6, .pointer (some ⟨b72, 0, none⟩)), (8, .slice A88 s103.2.length c89), (35, .slice A0_1 x0.Data.length c0_1), (36, .int .i64 (x0.Data.length : Int)), (37, .int .i64 s103.1), (38, .bool true)] [.is (decide (s103.1 < (x0.Data.length : Int)) = true)] hf109 (by kernel_rfl) ⟨(decide_eq_true c111), trivial⟩ fun a112 hf113 => ?_
    refine thenN ?_
    refine wp_seq ?_
    refine condT hf113 (by kernel_rfl) ?_
    refine wp_skip ?_
    refine thenN ?_
    refine wp_seq ?_
    refine wp_block ?_
    refine wp_seq ?_
    obtain ⟨g114, H1⟩ := ifS_guard H1
    have q115 := (hm110.slAt 7 rfl).float s103.1 g114.1 g114.2
    obtain ⟨b116, hb116, kb116⟩ := q115.2
    refine reg [.float .f64 b116] [1, 2, 4, 6, 8, 9, 10, 35, 36, 37] [(1, .slice A1 x1.length c1), (2, .pointer (some ⟨b21, 0, none⟩)), (4, .pointer (some ⟨b28, 0, none⟩)), (6, .pointer (some ⟨b72, 0, none⟩)), (8, .slice A88 s103.2.length c89), (9, .int .i64 s103.1), (10, .float .f64 b116), (35, .slice A0_1 x0.Data.length c0_1), (36, .int .i64 (x0.Data.length : Int)), (37, .int .i64 s103.1)] [.is (Option.isSome A0_1 = true), .is (0 ≤ s103.1 ∧ s103.1 < (x0.Data.length : Int)), .cell ((ad A0_1).add ((s103.1).toNat * 1)) (.float .f64 b116)] hf113 (by kernel_rfl) ⟨q115.1, g114, kb116, trivial⟩ fun a117 hf118 => ?_
    refine thenN ?_
    refine wp_seq ?_
    obtain ⟨r119, hr119, H1⟩ := obS_split H1
    obtain ⟨r120, hr120, H1⟩ := obS_split H1
    refine inReg ?_
    refine go 4 [.slice A0_0 x0.Shape.length c0_0] [1, 2, 4, 6, 8, 10, 35, 36, 37, 42, 44, 45] [(1, .slice A1 x1.length c1), (2, .pointer (some ⟨b21, 0, none⟩)), (4, .pointer (some ⟨b28, 0, none⟩)), (6, .pointer (some ⟨b72, 0, none⟩)), (8, .slice A88 s103.2.length c89), (10, .float .f64 b116), (35, .slice A0_1 x0.Data.length c0_1), (36, .int .i64 (x0.Data.length : Int)), (37, .int .i64 s103.1), (42, .slice A1 x1.length c1), (44, .slice A0_0 x0.Shape.length c0_0), (45, .int .i64 s103.1)] [.cell ⟨b21, 0, none⟩ (.slice A0_0 x0.Shape.length c0_0)] hf118 (by kernel_rfl) ⟨(hm110.cell 5 rfl rfl), trivial⟩ fun a121 hf122 => ?_
    refine listOf hf122 rfl (by kernel_rfl) (aCall (fid := 72) (args := [.slice A0_0 x0.Shape.length c0_0, .int .i64 s103.1]) (d := 46) hf122 (by kernel_rfl) (by kernel_rfl) callable72 (shape_Place.calls _ _ x0.Shape A0_0 x0.Shape.length c0_0 rfl s103.1 (hm110.give [6] [.sl (Kd.int .i64) A0_0 c0_0 x0.Shape] rfl rfl) r119 hr119) ?_)
    rintro _ w125 a126 ⟨A123, c124, rfl, hk128⟩ hf127
    have hm129 : Mem [] M w0 ([.ow (Kd.int .i64) 3 A123 c124 r119, .ow Kd.hdr 26 A88 c89 (hdrs X104 s103.2), .bx b72 [.slice A60 r57.1.Shape.length c61, .slice A62 r57.1.Data.length c63] 28, .ow (Kd.int .i64) 3 A60 c61 r57.1.Shape, .ow Kd.float 44 A62 c63 r57.1.Data, .bx b28 [.slice none 0 0, .slice none 0 0] 28, .bx b21 [.slice A0_0 x0.Shape.length c0_0, .slice A0_1 x0.Data.length c0_1] 28, .sl (Kd.int .i64) A0_0 c0_0 x0.Shape, .sl Kd.float A0_1 c0_1 x0.Data, .sl (Kd.int .i64) A1 c1 x1] ++ fam Kd.float 44 X104 s103.2) w125 := hm110.back hk128
    have hm130 : Mem [] M w0 ([.sl (Kd.int .i64) A123 c124 r119, .ow Kd.hdr 26 A88 c89 (hdrs X104 s103.2), .bx b72 [.slice A60 r57.1.Shape.length c61, .slice A62 r57.1.Data.length c63] 28, .ow (Kd.int .i64) 3 A60 c61 r57.1.Shape, .ow Kd.float 44 A62 c63 r57.1.Data, .bx b28 [.slice none 0 0, .slice none 0 0] 28, .bx b21 [.slice A0_0 x0.Shape.length c0_0, .slice A0_1 x0.Data.length c0_1] 28, .sl (Kd.int .i64) A0_0 c0_0 x0.Shape, .sl Kd.float A0_1 c0_1 x0.Data, .sl (Kd.int .i64) A1 c1 x1] ++ fam Kd.float 44 X104 s103.2) w125 := hm129.seal 0 _ rfl rfl
    refine listOf hf127 rfl (by kernel_rfl) (aCall (fid := 73) (args := [.slice A1 x1.length c1, .slice A123 r119.length c124]) (d := 47) hf127 (by kernel_rfl) (by kernel_rfl) callable73 (kernel_from.calls _ _ x1 A1 x1.length c1 rfl r119 A123 r119.length c124 rfl (hm130.give [9, 0] [.sl (Kd.int .i64) A1 c1 x1, .sl (Kd.int .i64) A123 c124 r119] rfl rfl) r120 hr120) ?_)
    rintro _ w131 a132 ⟨rfl, hk134⟩ hf133
    have hm135 : Mem [] M w0 ([.sl (Kd.int .i64) A123 c124 r119, .ow Kd.hdr 26 A88 c89 (hdrs X104 s103.2), .bx b72 [.slice A60 r57.1.Shape.length c61, .slice A62 r57.1.Data.length c63] 28, .ow (Kd.int .i64) 3 A60 c61 r57.1.Shape, .ow Kd.float 44 A62 c63 r57.1.Data, .bx b28 [.slice none 0 0, .slice none 0 0] 28, .bx b21 [.slice A0_0 x0.Shape.length c0_0, .slice A0_1 x0.Data.length c0_1] 28, .sl (Kd.int .i64) A0_0 c0_0 x0.Shape, .sl Kd.float A0_1 c0_1 x0.Data, .sl (Kd.int .i64) A1 c1 x1] ++ fam Kd.float 44 X104 s103.2) w131 := hm130.still hk134.cum.none
    refine go 1 [] [1, 2, 4, 6, 8, 10, 11, 35, 36, 37] [(1, .slice A1 x1.length c1), (2, .pointer (some ⟨b21, 0, none⟩)), (4, .pointer (some ⟨b28, 0, none⟩)), (6, .pointer (some ⟨b72, 0, none⟩)), (8, .slice A88 s103.2.length c89), (10, .float .f64 b116), (11, .int .i64 r120), (35, .slice A0_1 x0.Data.length c0_1), (36, .int .i64 (x0.Data.length : Int)), (37, .int .i64 s103.1)] [] hf133 (by kernel_rfl) trivial fun a136 hf137 => ?_
    refine endL rfl ?_
    have hm138 : Mem [] M w0 ([.ow Kd.hdr 26 A88 c89 (hdrs X104 s103.2), .bx b72 [.slice A60 r57.1.Shape.length c61, .slice A62 r57.1.Data.length c63] 28, .ow (Kd.int .i64) 3 A60 c61 r57.1.Shape, .ow Kd.float 44 A62 c63 r57.1.Data, .bx b28 [.slice none 0 0, .slice none 0 0] 28, .bx b21 [.slice A0_0 x0.Shape.length c0_0, .slice A0_1 x0.Data.length c0_1] 28, .sl (Kd.int .i64) A0_0 c0_0 x0.Shape, .sl Kd.float A0_1 c0_1 x0.Data, .sl (Kd.int .i64) A1 c1 x1] ++ fam Kd.float 44 X104 s103.2) w131 := hm135.selT [1, 2, 3, 4, 5, 6, 7, 8, 9] _ rfl (by kernel_rfl)
    refine thenN ?_
    obtain ⟨g139, H1⟩ := ifS_guard H1
    obtain ⟨g140, H1⟩ := ifS_guard H1
    have hl145 : (r120).toNat < s103.2.length := by have h1 := g139.2; have h2 := g139.1; omega
    have q141 := (hm138.owAt 0 rfl).cells r120 g139.1 (by rw [hdrs_length]; exact g139.2)
    obtain ⟨us142, hr143, hc144⟩ := q141.2
    rw [hdrs_rd _ _ _ hl145] at hr143
    obtain rfl := hr143
    refine inReg ?_
    refine go 7 [.slice ((X104 (r120).toNat).1) ((rd s103.2 r120).length) ((X104 (r120).toNat).2)] [1, 2, 4, 6, 8, 35, 36, 37, 48, 49, 53, 54] [(1, .slice A1 x1.length c1), (2, .pointer (some ⟨b21, 0, none⟩)), (4, .pointer (some ⟨b28, 0, none⟩)), (6, .pointer (some ⟨b72, 0, none⟩)), (8, .slice A88 s103.2.length c89), (35, .slice A0_1 x0.Data.length c0_1), (36, .int .i64 (x0.Data.length : Int)), (37, .int .i64 s103.1), (48, .slice A88 s103.2.length c89), (49, .int .i64 r120), (53, .slice ((X104 (r120).toNat).1) ((rd s103.2 r120).length) ((X104 (r120).toNat).2)), (54, .float .f64 b116)] [.is (Option.isSome A88 = true), .is (0 ≤ r120 ∧ r120 < (s103.2.length : Int)), .cell ((ad A88).add ((r120).toNat * 1)) (.slice ((X104 (r120).toNat).1) ((rd s103.2 r120).length) ((X104 (r120).toNat).2))] hf137 (by kernel_rfl) ⟨q141.1, g139, (hc144 0 _ rfl), trivial⟩ fun a146 hf147 => ?_
    refine listOf hf147 rfl (by kernel_rfl) (aLit (cs := [.float .f64 b116]) (E := 44) (len := 1) (d := 55) hf147 (by kernel_rfl) (by kernel_rfl) ?_)
    intro b148 w149 a150 hbb148 hx152 hg153 hf151
    have hm138s := hm138.still hg153
    have hm154 : Mem [] M w0 ([.sl Kd.float (some ⟨b148, 0, none⟩) 1 ([(rd x0.Data s103.1)] : List Nat), .ow Kd.hdr 26 A88 c89 (hdrs X104 s103.2), .bx b72 [.slice A60 r57.1.Shape.length c61, .slice A62 r57.1.Data.length c63] 28, .ow (Kd.int .i64) 3 A60 c61 r57.1.Shape, .ow Kd.float 44 A62 c63 r57.1.Data, .bx b28 [.slice none 0 0, .slice none 0 0] 28, .bx b21 [.slice A0_0 x0.Shape.length c0_0, .slice A0_1 x0.Data.length c0_1] 28, .sl (Kd.int .i64) A0_0 c0_0 x0.Shape, .sl Kd.float A0_1 c0_1 x0.Data, .sl (Kd.int .i64) A1 c1 x1] ++ fam Kd.float 44 X104 s103.2) w149 := Mem.lit (kd := Kd.float) (xs := ([(rd x0.Data s103.1)] : List Nat)) hm138 hbb148 hx152 hg153 (Els.one (kd := Kd.float) (us := [.float .f64 b116]) (x := (rd x0.Data s103.1)) ⟨_, rfl, hb116⟩)
    have e163 : (rd s103.2 r120).length = (rd s103.2 r120).length := rfl
    have e164 : 1 = ([(rd x0.Data s103.1)] : List Nat).length := rfl
    refine listOf hf151 rfl (by kernel_rfl) (aApp (kd := Kd.float) (base := 0) (E := 44) (A := ((X104 (r120).toNat).1)) (B := (some ⟨b148, 0, none⟩)) (c := ((X104 (r120).toNat).2)) (c2 := 1) (xs := (rd s103.2 r120)) (ys := ([(rd x0.Data s103.1)] : List Nat)) (k := ((rd s103.2 r120).length)) (m := 1) (sz := 1) (d := 56) hf151 (by kernel_rfl) e163 e164 (by kernel_rfl) rfl (by kernel_rfl) (hm154.at _ (fam_at _ _ _ _ _ hl145)) (hm154.at2 _ 0 (fam_at _ _ _ _ _ hl145) rfl).2 (hm154.cpAt 0 rfl) (Nat.zero_le _) (by have := g140; omega) ?_)
    intro A155 c156 w157 a158 ho160 hg161 hr162 hf159
    have hm165 : Mem [] M w0 ([.sl Kd.float (some ⟨b148, 0, none⟩) 1 ([(rd x0.Data s103.1)] : List Nat), .ow Kd.hdr 26 A88 c89 (hdrs X104 s103.2), .bx b72 [.slice A60 r57.1.Shape.length c61, .slice A62 r57.1.Data.length c63] 28, .ow (Kd.int .i64) 3 A60 c61 r57.1.Shape, .ow Kd.float 44 A62 c63 r57.1.Data, .bx b28 [.slice none 0 0, .slice none 0 0] 28, .bx b21 [.slice A0_0 x0.Shape.length c0_0, .slice A0_1 x0.Data.length c0_1] 28, .sl (Kd.int .i64) A0_0 c0_0 x0.Shape, .sl Kd.float A0_1 c0_1 x0.Data, .sl (Kd.int .i64) A1 c1 x1] ++ fam Kd.float 44 (upd X104 (r120).toNat (A155, c156)) (put s103.2 r120 ((rd s103.2 r120) ++ ([(rd x0.Data s103.1)] : List Nat)))) w157 := hm154.setOwn _ _ (fam_at _ _ _ _ _ hl145) (fam_put _ _ _ _ _ hl145 _ _ _) ho160 hg161 hr162
    have hl170 : (r120).toNat < s103.2.length := by have h1 := g139.2; have h2 := g139.1; omega
    have q166 := (hm165.owAt 1 rfl).cells r120 g139.1 (by rw [hdrs_length]; exact g139.2)
    obtain ⟨us167, hr168, hc169⟩ := q166.2
    rw [hdrs_rd _ _ _ hl170] at hr168
    obtain rfl := hr168
    refine go 1 [] [1, 2, 4, 6, 8, 35, 36, 37, 56, 57] [(1, .slice A1 x1.length c1), (2, .pointer (some ⟨b21, 0, none⟩)), (4, .pointer (some ⟨b28, 0, none⟩)), (6, .pointer (some ⟨b72, 0, none⟩)), (8, .slice A88 s103.2.length c89), (35, .slice A0_1 x0.Data.length c0_1), (36, .int .i64 (x0.Data.length : Int)), (37, .int .i64 s103.1), (56, .slice A155 (((rd s103.2 r120) ++ ([(rd x0.Data s103.1)] : List Nat)).length) c156), (57, .pointer (some ((ad A88).add ((r120).toNat * 1))))] [.is (Option.isSome A88 = true), .is (0 ≤ r120 ∧ r120 < (s103.2.length : Int))] hf159 (by kernel_rfl) ⟨q166.1, g139, trivial⟩ fun a171 hf172 => ?_
    refine listOf hf172 rfl (by kernel_rfl) (aStoreO (kd := Kd.hdr) (base := 0) (E := 26) (A := A88) (c := c89) (xs := hdrs X104 s103.2) (i := r120) (x := (A155, ((rd s103.2 r120) ++ ([(rd x0.Data s103.1)] : List Nat)).length, c156)) (us := [.slice A155 (((rd s103.2 r120) ++ ([(rd x0.Data s103.1)] : List Nat)).length) c156]) (sz := 1) hf172 (by kernel_rfl) rfl (by kernel_rfl) (hm165.at 1 rfl) rfl g139.1 (by rw [hdrs_length]; exact g139.2) ?_)
    intro w176 hx177 hg178
    rw [hdrs_put] at hx177
    have hm179 : Mem [] M w0 ([.sl Kd.float (some ⟨b148, 0, none⟩) 1 ([(rd x0.Data s103.1)] : List Nat), .ow Kd.hdr 26 A88 c89 (hdrs (upd X104 (r120).toNat (A155, c156)) (put s103.2 r120 ((rd s103.2 r120) ++ ([(rd x0.Data s103.1)] : List Nat)))), .bx b72 [.slice A60 r57.1.Shape.length c61, .slice A62 r57.1.Data.length c63] 28, .ow (Kd.int .i64) 3 A60 c61 r57.1.Shape, .ow Kd.float 44 A62 c63 r57.1.Data, .bx b28 [.slice none 0 0, .slice none 0 0] 28, .bx b21 [.slice A0_0 x0.Shape.length c0_0, .slice A0_1 x0.Data.length c0_1] 28, .sl (Kd.int .i64) A0_0 c0_0 x0.Shape, .sl Kd.float A0_1 c0_1 x0.Data, .sl (Kd.int .i64) A1 c1 x1] ++ fam Kd.float 44 (upd X104 (r120).toNat (A155, c156)) (put s103.2 r120 ((rd s103.2 r120) ++ ([(rd x0.Data s103.1)] : List Nat)))) w176 := hm165.setOwn 1 _ rfl rfl hx177 hg178 (.inl rfl)
    refine endL rfl ?_
    have hm180 : Mem [] M w0 ([.ow Kd.hdr 26 A88 c89 (hdrs (upd X104 (r120).toNat (A155, c156)) (put s103.2 r120 ((rd s103.2 r120) ++ ([(rd x0.Data s103.1)] : List Nat)))), .bx b72 [.slice A60 r57.1.Shape.length c61, .slice A62 r57.1.Data.length c63] 28, .ow (Kd.int .i64) 3 A60 c61 r57.1.Shape, .ow Kd.float 44 A62 c63 r57.1.Data, .bx b28 [.slice none 0 0, .slice none 0 0] 28, .bx b21 [.slice A0_0 x0.Shape.length c0_0, .slice A0_1 x0.Data.length c0_1] 28, .sl (Kd.int .i64) A0_0 c0_0 x0.Shape, .sl Kd.float A0_1 c0_1 x0.Data, .sl (Kd.int .i64) A1 c1 x1] ++ fam Kd.float 44 (upd X104 (r120).toNat (A155, c156)) (put s103.2 r120 ((rd s103.2 r120) ++ ([(rd x0.Data s103.1)] : List Nat)))) w176 := hm179.selT [1, 2, 3, 4, 5, 6, 7, 8, 9] _ rfl (by kernel_rfl)
    refine blkN ?_
    refine thenN ?_
    refine reg [] [1, 2, 4, 6, 8, 35, 36, 37] [(1, .slice A1 x1.length c1), (2, .pointer (some ⟨b21, 0, none⟩)), (4, .pointer (some ⟨b28, 0, none⟩)), (6, .pointer (some ⟨b72, 0, none⟩)), (8, .slice A88 s103.2.length c89), (35, .slice A0_1 x0.Data.length c0_1), (36, .int .i64 (x0.Data.length : Int)), (37, .int .i64 (w64 (s103.1 + 1)))] [] hf172 (by kernel_rfl) trivial fun a181 hf182 => ?_
    have hf183 : Fr 74 a181 [(1, .slice A1 x1.length c1), (2, .pointer (some ⟨b21, 0, none⟩)), (4, .pointer (some ⟨b28, 0, none⟩)), (6, .pointer (some ⟨b72, 0, none⟩)), (8, .slice A88 s103.2.length c89), (35, .slice A0_1 x0.Data.length c0_1), (36, .int .i64 (x0.Data.length : Int)), (37, .int .i64 (w64 (s103.1 + 1)))] := hf182.sel (l := [1, 2, 4, 6, 8, 35, 36, 37]) (by kernel_rfl)
    have hm184 : Mem [] M w0 ([.ow Kd.hdr 26 A88 c89 (hdrs (upd X104 (r120).toNat (A155, c156)) (put s103.2 r120 ((rd s103.2 r120) ++ ([(rd x0.Data s103.1)] : List Nat)))), .bx b72 [.slice A60 r57.1.Shape.length c61, .slice A62 r57.1.Data.length c63] 28, .ow (Kd.int .i64) 3 A60 c61 r57.1.Shape, .ow Kd.float 44 A62 c63 r57.1.Data, .bx b28 [.slice none 0 0, .slice none 0 0] 28, .bx b21 [.slice A0_0 x0.Shape.length c0_0, .slice A0_1 x0.Data.length c0_1] 28, .sl (Kd.int .i64) A0_0 c0_0 x0.Shape, .sl Kd.float A0_1 c0_1 x0.Data, .sl (Kd.int .i64) A1 c1 x1] ++ fam Kd.float 44 (upd X104 (r120).toNat (A155, c156)) (put s103.2 r120 ((rd s103.2 r120) ++ ([(rd x0.Data s103.1)] : List Nat)))) w176 := hm180.selT [0, 1, 2, 3, 4, 5, 6, 7, 8] _ rfl (by kernel_rfl)
    exact ⟨((w64 (s103.1 + 1)), (put s103.2 r120 ((rd s103.2 r120) ++ ([(rd x0.Data s103.1)] : List Nat)))), H1, (upd X104 (r120).toNat (A155, c156)), (by simpa only [put_length, List.length_nil] using hf183), (by simpa only [put_length, List.length_nil] using hm184)⟩
  rintro a187 w188 ⟨X104, hf189, hm190⟩
  refine thenN ?_
  refine wp_seq ?_
  refine wp_seq ?_
  refine reg [] [4, 6, 59, 60, 61] [(4, .pointer (some ⟨b28, 0, none⟩)), (6, .pointer (some ⟨b72, 0, none⟩)), (59, .slice A88 r105.2.length c89), (60, .int .i64 (r105.2.length : Int)), (61, .int .i64 0)] [] hf189 (by kernel_rfl) trivial fun a191 hf192 => ?_
  have hm193 : Mem [] M w0 ([.ow Kd.hdr 26 A88 c89 (hdrs X104 r105.2), .bx b72 [.slice A60 r57.1.Shape.length c61, .slice A62 r57.1.Data.length c63] 28, .ow (Kd.int .i64) 3 A60 c61 r57.1.Shape, .ow Kd.float 44 A62 c63 r57.1.Data, .bx b28 [.slice none 0 0, .slice none 0 0] 28] ++ fam Kd.float 44 X104 r105.2) w188 := hm190.selT [0, 1, 2, 3, 4] _ rfl (by kernel_rfl)
  refine thenN ?_
  have hm194 : Mem [] M w0 [.sl (Kd.slice Kd.float) A88 c89 r105.2, .bx b72 [.slice A60 r57.1.Shape.length c61, .slice A62 r57.1.Data.length c63] 28, .ow (Kd.int .i64) 3 A60 c61 r57.1.Shape, .ow Kd.float 44 A62 c63 r57.1.Data, .bx b28 [.slice none 0 0, .slice none 0 0] 28] w188 := hm193.sealFam 0 _ rfl rfl
  obtain ⟨r196, hr196, H0⟩ := ob_split H0
  refine wpBlock (Mid := fun (a : Act) (w : World) => Fr 74 a [(4, .pointer (some ⟨b28, 0, none⟩)), (6, .pointer (some ⟨b72, 0, none⟩)), (59, .slice A88 r105.2.length c89), (60, .int .i64 (r105.2.length : Int)), (61, .int .i64 r196.1)] ∧ Mem [] M w0 [.sl (Kd.slice Kd.float) A88 c89 r105.2, .bx b72 [.slice A60 r57.1.Shape.length c61, .slice A62 r196.2.length c63] 28, .ow (Kd.int .i64) 3 A60 c61 r57.1.Shape, .ow Kd.float 44 A62 c63 r196.2, .bx b28 [.slice none 0 0, .slice none 0 0] 28] w) ?_ ?_
  · refine wpLoop (kernel_Gather.l1 r105) r196 (fun (s195 : (Int × (List Nat))) (a : Act) (w : World) => Fr 74 a [(4, .pointer (some ⟨b28, 0, none⟩)), (6, .pointer (some ⟨b72, 0, none⟩)), (59, .slice A88 r105.2.length c89), (60, .int .i64 (r105.2.length : Int)), (61, .int .i64 s195.1)] ∧ Mem [] M w0 [.sl (Kd.slice Kd.float) A88 c89 r105.2, .bx b72 [.slice A60 r57.1.Shape.length c61, .slice A62 s195.2.length c63] 28, .ow (Kd.int .i64) 3 A60 c61 r57.1.Shape, .ow Kd.float 44 A62 c63 s195.2, .bx b28 [.slice none 0 0, .slice none 0 0] 28] w) (0, r57.1.Data) hr196 ⟨hf192.sel (l := [4, 6, 59, 60, 61]) (by kernel_rfl), hm194.sel [0, 1, 2, 3, 4] _ rfl (by kernel_rfl)⟩ ?_
    rintro g197 s195 a198 w199 H1 ⟨hf200, hm201⟩
    unfold kernel_Gather.l1 at H1
    refine wp_seq ?_
    rcases ifS_split H1 with ⟨c202, H1⟩ | ⟨c202, H1⟩
    rotate_left
    · refine reg [.bool false] [4, 6, 59, 60, 61, 62] [(4, .pointer (some ⟨b28, 0, none⟩)), (6, .pointer (some ⟨b72, 0, none⟩)), (59, .slice A88 r105.2.length c89), (60, .int .i64 (r105.2.length : Int)), (61, .int .i64 s195.1), (62, .bool false)] [.is (decide (s195.1 < (r105.2.length : Int)) = false)] hf200 (by kernel_rfl) ⟨(decide_eq_false c202), trivial⟩ fun a270 hf271 => ?_
      refine thenN ?_
      refine wp_seq ?_
      refine condF hf271 (by kernel_rfl) ?_
      refine wp_exit ?_
      refine thenE ?_
      refine thenE ?_
      obtain rfl := Option.some.inj H1
      exact .inl ⟨rfl, hf271.sel (l := [4, 6, 59, 60, 61]) (by kernel_rfl), hm201.sel [0, 1, 2, 3, 4] _ rfl (by kernel_rfl)⟩
    refine reg [.bool true] [4, 6, 59, 60, 61, 62] [(4, .pointer (some ⟨b28, 0, none⟩)), (6, .pointer (some ⟨b72, 0, none⟩)), (59, .slice A88 r105.2.length c89), (60, .int .i64 (r105.2.length : Int)), (61, .int .i64 s195.1), (62, .bool true)] [.is (decide (s195.1 < (r105.2.length : Int)) = true)] hf200 (by kernel_rfl) ⟨(decide_eq_true c202), trivial⟩ fun a203 hf204 => ?_
    refine thenN ?_
    refine wp_seq ?_
    refine condT hf204 (by kernel_rfl) ?_
    refine wp_skip ?_
    refine thenN ?_
    refine wp_seq ?_
    refine wp_block ?_
    refine wp_seq ?_
    obtain ⟨g205, H1⟩ := ifS_guard H1
    have q206 := (hm201.slAt 0 rfl).slice s195.1 g205.1 g205.2
    obtain ⟨A207, c208, pA207, sA207, kA207⟩ := q206.2
    have hm209 := hm201.elem pA207 sA207
    refine reg [.slice A207 ((rd r105.2 s195.1).length) c208] [4, 6, 12, 13, 59, 60, 61] [(4, .pointer (some ⟨b28, 0, none⟩)), (6, .pointer (some ⟨b72, 0, none⟩)), (12, .int .i64 s195.1), (13, .slice A207 ((rd r105.2 s195.1).length) c208), (59, .slice A88 r105.2.length c89), (60, .int .i64 (r105.2.length : Int)), (61, .int .i64 s195.1)] [.is (Option.isSome A88 = true), .is (0 ≤ s195.1 ∧ s195.1 < (r105.2.length : Int)), .cell ((ad A88).add ((s195.1).toNat * 1)) (.slice A207 ((rd r105.2 s195.1).length) c208)] hf204 (by kernel_rfl) ⟨q206.1, g205, kA207, trivial⟩ fun a210 hf211 => ?_
    refine thenN ?_
    obtain ⟨r212, hr212, H1⟩ := obS_split H1
    obtain ⟨g213, H1⟩ := ifS_guard H1
    refine midReg (fun (a : Act) (w : World) => Fr 74 a [(4, .pointer (some ⟨b28, 0, none⟩)), (6, .pointer (some ⟨b72, 0, none⟩)), (59, .slice A88 r105.2.length c89), (60, .int .i64 (r105.2.length : Int)), (61, .int .i64 s195.1)] ∧ Mem [] M w0 [.sl (Kd.slice Kd.float) A88 c89 r105.2, .bx b72 [.slice A60 r57.1.Shape.length c61, .slice A62 s195.2.length c63] 28, .ow (Kd.int .i64) 3 A60 c61 r57.1.Shape, .ow Kd.float 44 A62 c63 (put s195.2 s195.1 r212), .bx b28 [.slice none 0 0, .slice none 0 0] 28] w) ?_ ?_
    · refine anyG [6] (by kernel_rfl) fun w227 hg228 => ?_
      have hm229 := hm209.still hg228
      refine quiet0 [0, 1, 2, 3] [.slice A62 s195.2.length c63] [4, 6, 59, 60, 61, 67, 68, 69] #[true, true, true, true, false, false, false] [(4, .pointer (some ⟨b28, 0, none⟩)), (6, .pointer (some ⟨b72, 0, none⟩)), (59, .slice A88 r105.2.length c89), (60, .int .i64 (r105.2.length : Int)), (61, .int .i64 s195.1), (67, .slice A62 s195.2.length c63), (68, .int .i64 s195.1), (69, .slice A207 ((rd r105.2 s195.1).length) c208)] [.cell ⟨b72, 1, none⟩ (.slice A62 s195.2.length c63)] 3 rfl (by kernel_rfl) (fun _ _ _ _ _ h => nomatch h.1) hf211 (by kernel_rfl) ⟨(hm229.cell 2 rfl rfl), trivial⟩ fun a246 hf247 => ?_
      refine all1 4 (by kernel_rfl) ?_
      refine opOf hf247 rfl (by kernel_rfl) (aCall (fid := 50) (args := [.slice A207 ((rd r105.2 s195.1).length) c208]) (d := 70) hf247 (by kernel_rfl) (by kernel_rfl) callable50 (real_Fold.calls _ _ (rd r105.2 s195.1) A207 ((rd r105.2 s195.1).length) c208 rfl (hm229.give [0] [.sl Kd.float A207 c208 (rd r105.2 s195.1)] rfl rfl) r212 hr212) ?_)
      rintro _ w249 a250 ⟨b248, rfl, hb248, hk252⟩ hf251
      refine ⟨.inr (Gr.still hk252.cum.none), ?_⟩
      have hm253 := hm229.still hk252.cum.none
      have q254 := (hm253.owAt 4 rfl).float s195.1 g213.1 g213.2
      obtain ⟨b255, hb255, kb255⟩ := q254.2
      refine quiet0 [5] [] [4, 6, 59, 60, 61, 70, 71] #[true, true, true, true, true, true, false] [(4, .pointer (some ⟨b28, 0, none⟩)), (6, .pointer (some ⟨b72, 0, none⟩)), (59, .slice A88 r105.2.length c89), (60, .int .i64 (r105.2.length : Int)), (61, .int .i64 s195.1), (70, .float .f64 b248), (71, .pointer (some ((ad A62).add ((s195.1).toNat * 1))))] [.is (Option.isSome A62 = true), .is (0 ≤ s195.1 ∧ s195.1 < (s195.2.length : Int))] 1 rfl (by kernel_rfl) (fun _ _ _ _ _ h => nomatch h.1) hf251 (by kernel_rfl) ⟨q254.1, g213, trivial⟩ fun a256 hf257 => ?_
      refine all1 6 (by kernel_rfl) ?_
      refine opOf hf257 rfl (by kernel_rfl) (aStoreO (kd := Kd.float) (base := 0) (E := 44) (A := A62) (c := c63) (xs := s195.2) (i := s195.1) (x := r212) (us := [.float .f64 b248]) (sz := 1) hf257 (by kernel_rfl) rfl (by kernel_rfl) (hm253.at 4 rfl) ⟨_, rfl, hb248⟩ g213.1 g213.2 ?_)
      intro w258 hx259 hg260
      refine ⟨.inl (by decide), ?_⟩
      have hm261 := hm253.setOwn 4 _ rfl rfl hx259 hg260 (.inl rfl)
      refine allDone (by kernel_rfl) ⟨rfl, hf257.sel (l := [4, 6, 59, 60, 61]) (by kernel_rfl), hm261.sel [1, 2, 3, 4, 5] _ rfl (by kernel_rfl)⟩
    rintro a262 w263 ⟨hf264, hm265⟩
    refine blkN ?_
    refine thenN ?_
    refine reg [] [4, 6, 59, 60, 61] [(4, .pointer (some ⟨b28, 0, none⟩)), (6, .pointer (some ⟨b72, 0, none⟩)), (59, .slice A88 r105.2.length c89), (60, .int .i64 (r105.2.length : Int)), (61, .int .i64 (w64 (s195.1 + 1)))] [] hf264 (by kernel_rfl) trivial fun a266 hf267 => ?_
    have hf268 : Fr 74 a266 [(4, .pointer (some ⟨b28, 0, none⟩)), (6, .pointer (some ⟨b72, 0, none⟩)), (59, .slice A88 r105.2.length c89), (60, .int .i64 (r105.2.length : Int)), (61, .int .i64 (w64 (s195.1 + 1)))] := hf267.sel (l := [4, 6, 59, 60, 61]) (by kernel_rfl)
    have hm269 : Mem [] M w0 [.sl (Kd.slice Kd.float) A88 c89 r105.2, .bx b72 [.slice A60 r57.1.Shape.length c61, .slice A62 s195.2.length c63] 28, .ow (Kd.int .i64) 3 A60 c61 r57.1.Shape, .ow Kd.float 44 A62 c63 (put s195.2 s195.1 r212), .bx b28 [.slice none 0 0, .slice none 0 0] 28] w263 := hm265.sel [0, 1, 2, 3, 4] _ rfl (by kernel_rfl)
    exact ⟨((w64 (s195.1 + 1)), (put s195.2 s195.1 r212)), H1, (by simpa only [put_length, List.length_nil] using hf268), (by simpa only [put_length, List.length_nil] using hm269)⟩
  rintro a272 w273 ⟨hf274, hm275⟩
  refine thenN ?_
  refine wp_seq ?_
  refine inReg ?_
  refine go 1 [.agg #[.slice A60 r57.1.Shape.length c61, .slice A62 r196.2.length c63]] [4, 73] [(4, .pointer (some ⟨b28, 0, none⟩)), (73, .agg #[.slice A60 r57.1.Shape.length c61, .slice A62 r196.2.length c63])] [.cell ⟨b72, 0, none⟩ (.slice A60 r57.1.Shape.length c61), .cell ⟨b72, 1, none⟩ (.slice A62 r196.2.length c63)] hf274 (by kernel_rfl) ⟨(hm275.cell 1 rfl rfl), (hm275.cell 1 rfl rfl), trivial⟩ fun a276 hf277 => ?_
  refine listOf hf277 rfl (by kernel_rfl) (aStoreB (b := b28) (j := 0) (T := 28) (cs := [.slice none 0 0, .slice none 0 0]) (us := [.slice A60 r57.1.Shape.length c61, .slice A62 r196.2.length c63]) (cs' := [.slice A60 r57.1.Shape.length c61, .slice A62 r196.2.length c63]) hf277 (by kernel_rfl) (hm275.bxAt 4 rfl) (by kernel_rfl) (by kernel_rfl) (by kernel_rfl) ?_)
  intro w278 hx279 hg280
  have hm281 := hm275.setBox 4 _ rfl rfl hx279 hg280
  refine go 1 [] [4, 5] [(4, .pointer (some ⟨b28, 0, none⟩)), (5, .int .i64 0)] [] hf277 (by kernel_rfl) trivial fun a282 hf283 => ?_
  refine endL rfl ?_
  have hm284 := hm281.sel [2, 3, 4] _ rfl (by kernel_rfl)
  refine thenN ?_
  refine wp_ret ?_
  have hm285 : Mem [] M w0 [.ow (Kd.int .i64) 3 A60 c61 r57.1.Shape, .ow Kd.float 44 A62 c63 r196.2] w278 := hm284.sel [0, 1] _ rfl (by kernel_rfl)
  obtain rfl := Option.some.inj H0
  refine ret [.agg #[.slice A60 r57.1.Shape.length c61, .slice A62 r196.2.length c63]] [.agg #[.slice A60 r57.1.Shape.length c61, .slice A62 r196.2.length c63], .int .i64 0] [.cell ⟨b28, 0, none⟩ (.slice A60 r57.1.Shape.length c61), .cell ⟨b28, 1, none⟩ (.slice A62 r196.2.length c63)] hf283 (by kernel_rfl) ⟨(hm284.cell 2 rfl rfl), (hm284.cell 2 rfl rfl), trivial⟩ ?_
  exact ⟨_, rfl, A60, c61, A62, c63, rfl, hm285⟩
end Go.Proofs.Ytkcgiolledmbnab
