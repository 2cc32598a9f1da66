/- Printed by gen.py. -/
import Derived.Test.YtolhkamfpfjodaaF0
import Derived.Test.YtolhkamfpfjodaaF1
namespace Go.Proofs.Ytolhkamfpfjodaa
open Go Go.RowKit
set_option linter.unusedSimpArgs false
set_option linter.unusedVariables false
set_option linter.unnecessarySimpa false
/-! ### backstitch/tensor.New -/
noncomputable def tensor_New.f (x0 : (List Int)) (x1 : Nat) : Option (Tensor × Int) :=
  (shape_Size.f x0).bind fun r30 =>
  if r30.2 = 0 then ((slices_Clone_int.f x0).bind fun r43 =>
  (slices_Repeat_float64.f ([x1] : List Nat) r30.1).bind fun r44 =>
  some ((⟨r43, r44⟩ : Tensor), 0))
  else (some ((⟨([] : (List Int)), ([] : (List Nat))⟩ : Tensor), r30.2))
set_option maxRecDepth 100000 in
set_option maxHeartbeats 4000000 in
theorem tensor_New.calls (M : List (Option Nat)) (w0 : World) (x0 : (List Int)) (A0 : Option Addr) (n0 c0 : Nat) (e0 : n0 = x0.length) (x1 : Nat) (b1 : Nat) (h1 : FR b1 x1) (hm0 : Mem [] M w0 [.sl (Kd.int .i64) A0 c0 x0] w0) (r : (Tensor × Int)) (H0 : tensor_New.f x0 x1 = some r) :
    Calls Try.prog 47 [.slice A0 n0 c0, .float .f64 b1].toArray w0 (fun x w' => ∃ v, x = .returned v ∧ ∃ Ar0_0 cr0_0 Ar0_1 cr0_1, v = .tuple #[.agg #[.slice Ar0_0 r.1.Shape.length cr0_0, .slice Ar0_1 r.1.Data.length cr0_1], .int .i64 r.2] ∧ Mem [] M w0 [.ow (Kd.int .i64) 3 Ar0_0 cr0_0 r.1.Shape, .ow Kd.float 26 Ar0_1 cr0_1 r.1.Data] w') := by
  subst e0
  unfold tensor_New.f at H0
  refine enter (n := 24) Try.func47 rfl rfl (by kernel_rfl) fun a0 (hf0 : Fr 24 a0 [(0, .slice A0 x0.length c0), (1, .float .f64 b1)]) => ?_
  refine wp_seq ?_
  refine inReg ?_
  refine listOf hf0 rfl (by kernel_rfl) (aNew (cs := [.slice none 0 0, .slice none 0 0]) (T := 29) (d := 4) hf0 (by kernel_rfl) (by kernel_rfl) ?_)
  intro b21 w22 a23 hbb21 hx25 hg26 hf24
  have hm27 := hm0.box hbb21 hx25 hg26
  refine go 1 [] [0, 1, 4] [(0, .slice A0 x0.length c0), (1, .float .f64 b1), (4, .pointer (some ⟨b21, 0, none⟩))] [] hf24 (by kernel_rfl) trivial fun a28 hf29 => ?_
  refine endL rfl ?_
  refine thenN ?_
  refine wp_seq ?_
  obtain ⟨r30, hr30, H0⟩ := ob_split H0
  refine inReg ?_
  refine go 1 [] [0, 1, 4, 9] [(0, .slice A0 x0.length c0), (1, .float .f64 b1), (4, .pointer (some ⟨b21, 0, none⟩)), (9, .slice A0 x0.length c0)] [] hf29 (by kernel_rfl) trivial fun a31 hf32 => ?_
  refine listOf hf32 rfl (by kernel_rfl) (aCall (fid := 45) (args := [.slice A0 x0.length c0]) (d := 10) hf32 (by kernel_rfl) (by kernel_rfl) callable45 (shape_Size.calls _ _ x0 A0 x0.length c0 rfl (hm27.give [1] [.sl (Kd.int .i64) A0 c0 x0] rfl rfl) r30 hr30) ?_)
  rintro _ w33 a34 ⟨rfl, hk36⟩ hf35
  have hm37 := hm27.still hk36.cum.none
  refine go 5 [] [0, 1, 4, 6, 7] [(0, .slice A0 x0.length c0), (1, .float .f64 b1), (4, .pointer (some ⟨b21, 0, none⟩)), (6, .int .i64 r30.1), (7, .int .i64 r30.2)] [] hf35 (by kernel_rfl) trivial fun a38 hf39 => ?_
  refine endL rfl ?_
  refine thenN ?_
  refine wp_seq ?_
  refine wp_seq ?_
  rcases if_split H0 with ⟨c40, H0⟩ | ⟨c40, H0⟩
  rotate_left
  · refine reg [.bool true] [0, 1, 4, 6, 7, 14] [(0, .slice A0 x0.length c0), (1, .float .f64 b1), (4, .pointer (some ⟨b21, 0, none⟩)), (6, .int .i64 r30.1), (7, .int .i64 r30.2), (14, .bool true)] [.is (((r30.2 : Int) != 0) = true)] hf39 (by kernel_rfl) ⟨(neT c40), trivial⟩ fun a84 hf85 => ?_
    refine thenN ?_
    refine condT hf85 (by kernel_rfl) ?_
    refine wp_seq ?_
    refine inReg ?_
    refine go 2 [] [4, 15, 16] [(4, .pointer (some ⟨b21, 0, none⟩)), (15, .agg #[.slice none 0 0, .slice none 0 0]), (16, .int .i64 r30.2)] [] hf85 (by kernel_rfl) trivial fun a86 hf87 => ?_
    refine listOf hf87 rfl (by kernel_rfl) (aStoreB (b := b21) (j := 0) (T := 29) (cs := [.slice none 0 0, .slice none 0 0]) (us := [.slice none 0 0, .slice none 0 0]) (cs' := [.slice none 0 0, .slice none 0 0]) hf87 (by kernel_rfl) (hm37.bxAt 0 rfl) (by kernel_rfl) (by kernel_rfl) (by kernel_rfl) ?_)
    intro w88 hx89 hg90
    have hm91 := hm37.setBox 0 _ rfl rfl hx89 hg90
    refine go 1 [] [4, 5] [(4, .pointer (some ⟨b21, 0, none⟩)), (5, .int .i64 r30.2)] [] hf87 (by kernel_rfl) trivial fun a92 hf93 => ?_
    refine endL rfl ?_
    have hm94 := hm91.sel [0] _ rfl (by kernel_rfl)
    refine thenN ?_
    refine wp_ret ?_
    refine thenR ?_
    have hm95 := hm94.nilOw (Kd.int .i64) 3
    have hm96 := hm95.nilOw Kd.float 26
    have hm97 : Mem [] M w0 [.ow (Kd.int .i64) 3 none 0 ([] : (List Int)), .ow Kd.float 26 none 0 ([] : (List Nat))] w88 := hm96.sel [1, 0] _ rfl (by kernel_rfl)
    obtain rfl := Option.some.inj H0
    refine ret [.agg #[.slice none 0 0, .slice none 0 0]] [.agg #[.slice none 0 0, .slice none 0 0], .int .i64 r30.2] [.cell ⟨b21, 0, none⟩ (.slice none 0 0), .cell ⟨b21, 1, none⟩ (.slice none 0 0)] hf93 (by kernel_rfl) ⟨(hm94.cell 0 rfl rfl), (hm94.cell 0 rfl rfl), trivial⟩ ?_
    exact ⟨_, rfl, none, 0, none, 0, rfl, hm97⟩
  refine reg [.bool false] [0, 1, 4, 6, 7, 14] [(0, .slice A0 x0.length c0), (1, .float .f64 b1), (4, .pointer (some ⟨b21, 0, none⟩)), (6, .int .i64 r30.1), (7, .int .i64 r30.2), (14, .bool false)] [.is (((r30.2 : Int) != 0) = false)] hf39 (by kernel_rfl) ⟨(neF c40), trivial⟩ fun a41 hf42 => ?_
  refine thenN ?_
  refine condF hf42 (by kernel_rfl) ?_
  refine wp_skip ?_
  refine thenN ?_
  refine wp_seq ?_
  obtain ⟨r43, hr43, H0⟩ := ob_split H0
  obtain ⟨r44, hr44, H0⟩ := ob_split H0
  refine inReg ?_
  refine go 1 [] [1, 4, 6, 17] [(1, .float .f64 b1), (4, .pointer (some ⟨b21, 0, none⟩)), (6, .int .i64 r30.1), (17, .slice A0 x0.length c0)] [] hf42 (by kernel_rfl) trivial fun a45 hf46 => ?_
  refine listOf hf46 rfl (by kernel_rfl) (aCall (fid := 39) (args := [.slice A0 x0.length c0]) (d := 18) hf46 (by kernel_rfl) (by kernel_rfl) callable39 (slices_Clone_int.calls _ _ x0 A0 x0.length c0 rfl (hm37.give [1] [.sl (Kd.int .i64) A0 c0 x0] rfl rfl) r43 hr43) ?_)
  rintro _ w49 a50 ⟨A47, c48, rfl, hk52⟩ hf51
  have hm53 := hm37.back hk52
  refine go 1 [] [4, 6, 18, 19] [(4, .pointer (some ⟨b21, 0, none⟩)), (6, .int .i64 r30.1), (18, .slice A47 r43.length c48), (19, .float .f64 b1)] [] hf51 (by kernel_rfl) trivial fun a54 hf55 => ?_
  refine listOf hf55 rfl (by kernel_rfl) (aLit (cs := [.float .f64 b1]) (E := 26) (len := 1) (d := 20) hf55 (by kernel_rfl) (by kernel_rfl) ?_)
  intro b56 w57 a58 hbb56 hx60 hg61 hf59
  have hm53s := hm53.still hg61
  have hm62 := Mem.lit (kd := Kd.float) (xs := ([x1] : List Nat)) hm53 hbb56 hx60 hg61 (Els.one (kd := Kd.float) (us := [.float .f64 b1]) (x := x1) ⟨_, rfl, h1⟩)
  refine go 1 [] [4, 18, 20, 21] [(4, .pointer (some ⟨b21, 0, none⟩)), (18, .slice A47 r43.length c48), (20, .slice (some ⟨b56, 0, none⟩) 1 1), (21, .int .i64 r30.1)] [] hf59 (by kernel_rfl) trivial fun a63 hf65 => ?_
  refine listOf hf65 rfl (by kernel_rfl) (aCall (fid := 60) (args := [.slice (some ⟨b56, 0, none⟩) 1 1, .int .i64 r30.1]) (d := 22) hf65 (by kernel_rfl) (by kernel_rfl) callable60 (slices_Repeat_float64.calls _ _ ([x1] : List Nat) (some ⟨b56, 0, none⟩) 1 1 rfl r30.1 (hm62.give [0] [.sl Kd.float (some ⟨b56, 0, none⟩) 1 ([x1] : List Nat)] rfl rfl) r44 hr44) ?_)
  rintro _ w68 a69 ⟨A66, c67, rfl, hk71⟩ hf70
  have hm72 := hm62.back hk71
  refine go 1 [] [4, 23] [(4, .pointer (some ⟨b21, 0, none⟩)), (23, .agg #[.slice A47 r43.length c48, .slice A66 r44.length c67])] [] hf70 (by kernel_rfl) trivial fun a73 hf74 => ?_
  refine listOf hf74 rfl (by kernel_rfl) (aStoreB (b := b21) (j := 0) (T := 29) (cs := [.slice none 0 0, .slice none 0 0]) (us := [.slice A47 r43.length c48, .slice A66 r44.length c67]) (cs' := [.slice A47 r43.length c48, .slice A66 r44.length c67]) hf74 (by kernel_rfl) (hm72.bxAt 3 rfl) (by kernel_rfl) (by kernel_rfl) (by kernel_rfl) ?_)
  intro w75 hx76 hg77
  have hm78 := hm72.setBox 3 _ rfl rfl hx76 hg77
  refine go 1 [] [4, 5] [(4, .pointer (some ⟨b21, 0, none⟩)), (5, .int .i64 0)] [] hf74 (by kernel_rfl) trivial fun a79 hf80 => ?_
  refine endL rfl ?_
  have hm81 := hm78.sel [0, 2, 3] _ rfl (by kernel_rfl)
  refine thenN ?_
  refine wp_ret ?_
  have hm82 : Mem [] M w0 [.ow (Kd.int .i64) 3 A47 c48 r43, .ow Kd.float 26 A66 c67 r44] w75 := hm81.sel [1, 0] _ rfl (by kernel_rfl)
  obtain rfl := Option.some.inj H0
  refine ret [.agg #[.slice A47 r43.length c48, .slice A66 r44.length c67]] [.agg #[.slice A47 r43.length c48, .slice A66 r44.length c67], .int .i64 0] [.cell ⟨b21, 0, none⟩ (.slice A47 r43.length c48), .cell ⟨b21, 1, none⟩ (.slice A66 r44.length c67)] hf80 (by kernel_rfl) ⟨(hm81.cell 2 rfl rfl), (hm81.cell 2 rfl rfl), trivial⟩ ?_
  exact ⟨_, rfl, A47, c48, A66, c67, rfl, hm82⟩

/-! ### backstitch/shelf.noughts -/
noncomputable def shelf_noughts.f (x0 : Tensor) : Option Tensor :=
  (tensor_New.f x0.Shape 0).bind fun r35 =>
  some r35.1
set_option maxRecDepth 100000 in
set_option maxHeartbeats 4000000 in
theorem shelf_noughts.calls (M : List (Option Nat)) (w0 : World) (x0 : Tensor) (A0_0 : Option Addr) (n0_0 c0_0 : Nat) (e0_0 : n0_0 = x0.Shape.length) (A0_1 : Option Addr) (n0_1 c0_1 : Nat) (e0_1 : n0_1 = x0.Data.length) (hm0 : Mem [] M w0 [.sl (Kd.int .i64) A0_0 c0_0 x0.Shape, .sl Kd.float A0_1 c0_1 x0.Data] w0) (r : Tensor) (H0 : shelf_noughts.f x0 = some r) :
    Calls Try.prog 34 [.agg #[.slice A0_0 n0_0 c0_0, .slice A0_1 n0_1 c0_1]].toArray w0 (fun x w' => ∃ v, x = .returned v ∧ ∃ Ar0_0 cr0_0 Ar0_1 cr0_1, v = .agg #[.slice Ar0_0 r.Shape.length cr0_0, .slice Ar0_1 r.Data.length cr0_1] ∧ Mem [] M w0 [.ow (Kd.int .i64) 3 Ar0_0 cr0_0 r.Shape, .ow Kd.float 26 Ar0_1 cr0_1 r.Data] w') := by
  subst e0_0
  subst e0_1
  unfold shelf_noughts.f at H0
  refine enter (n := 12) Try.func34 rfl rfl (by kernel_rfl) fun a0 (hf0 : Fr 12 a0 [(0, .agg #[.slice A0_0 x0.Shape.length c0_0, .slice A0_1 x0.Data.length c0_1])]) => ?_
  refine wp_seq ?_
  refine inReg ?_
  refine listOf hf0 rfl (by kernel_rfl) (aNew (cs := [.slice A0_0 x0.Shape.length c0_0, .slice A0_1 x0.Data.length c0_1]) (T := 29) (d := 1) hf0 (by kernel_rfl) (by kernel_rfl) ?_)
  intro b21 w22 a23 hbb21 hx25 hg26 hf24
  have hm27 := hm0.box hbb21 hx25 hg26
  refine listOf hf24 rfl (by kernel_rfl) (aNew (cs := [.slice none 0 0, .slice none 0 0]) (T := 29) (d := 2) hf24 (by kernel_rfl) (by kernel_rfl) ?_)
  intro b28 w29 a30 hbb28 hx32 hg33 hf31
  have hm34 := hm27.box hbb28 hx32 hg33
  refine endL rfl ?_
  refine thenN ?_
  refine wp_seq ?_
  obtain ⟨r35, hr35, H0⟩ := ob_split H0
  refine inReg ?_
  refine go 2 [.slice A0_0 x0.Shape.length c0_0] [2, 7] [(2, .pointer (some ⟨b28, 0, none⟩)), (7, .slice A0_0 x0.Shape.length c0_0)] [.cell ⟨b21, 0, none⟩ (.slice A0_0 x0.Shape.length c0_0)] hf31 (by kernel_rfl) ⟨(hm34.cell 1 rfl rfl), trivial⟩ fun a36 hf37 => ?_
  refine listOf hf37 rfl (by kernel_rfl) (aCall (fid := 47) (args := [.slice A0_0 x0.Shape.length c0_0, .float .f64 0]) (d := 8) hf37 (by kernel_rfl) (by kernel_rfl) callable47 (tensor_New.calls _ _ x0.Shape A0_0 x0.Shape.length c0_0 rfl 0 0 ((FR.lit (by kernel_rfl) (by kernel_rfl))) (hm34.give [2] [.sl (Kd.int .i64) A0_0 c0_0 x0.Shape] rfl rfl) r35 hr35) ?_)
  rintro _ w42 a43 ⟨A38, c39, A40, c41, rfl, hk45⟩ hf44
  have hm46 := hm34.back hk45
  refine go 3 [] [2, 9, 10] [(2, .pointer (some ⟨b28, 0, none⟩)), (9, .agg #[.slice A38 r35.1.Shape.length c39, .slice A40 r35.1.Data.length c41]), (10, .int .i64 r35.2)] [] hf44 (by kernel_rfl) trivial fun a47 hf48 => ?_
  refine listOf hf48 rfl (by kernel_rfl) (aNew (cs := [.slice none 0 0, .slice none 0 0]) (T := 29) (d := 3) hf48 (by kernel_rfl) (by kernel_rfl) ?_)
  intro b49 w50 a51 hbb49 hx53 hg54 hf52
  have hm55 := hm46.box hbb49 hx53 hg54
  refine listOf hf52 rfl (by kernel_rfl) (aStoreB (b := b49) (j := 0) (T := 29) (cs := [.slice none 0 0, .slice none 0 0]) (us := [.slice A38 r35.1.Shape.length c39, .slice A40 r35.1.Data.length c41]) (cs' := [.slice A38 r35.1.Shape.length c39, .slice A40 r35.1.Data.length c41]) hf52 (by kernel_rfl) (hm55.bxAt 0 rfl) (by kernel_rfl) (by kernel_rfl) (by kernel_rfl) ?_)
  intro w56 hx57 hg58
  have hm59 := hm55.setBox 0 _ rfl rfl hx57 hg58
  refine go 1 [] [2, 3] [(2, .pointer (some ⟨b28, 0, none⟩)), (3, .pointer (some ⟨b49, 0, none⟩))] [] hf52 (by kernel_rfl) trivial fun a60 hf61 => ?_
  refine endL rfl ?_
  have hm62 := hm59.sel [0, 1, 2, 3] _ rfl (by kernel_rfl)
  refine thenN ?_
  refine wp_seq ?_
  refine inReg ?_
  refine go 1 [.agg #[.slice A38 r35.1.Shape.length c39, .slice A40 r35.1.Data.length c41]] [2, 11] [(2, .pointer (some ⟨b28, 0, none⟩)), (11, .agg #[.slice A38 r35.1.Shape.length c39, .slice A40 r35.1.Data.length c41])] [.cell ⟨b49, 0, none⟩ (.slice A38 r35.1.Shape.length c39), .cell ⟨b49, 1, none⟩ (.slice A40 r35.1.Data.length c41)] hf61 (by kernel_rfl) ⟨(hm62.cell 0 rfl rfl), (hm62.cell 0 rfl rfl), trivial⟩ fun a63 hf65 => ?_
  refine listOf hf65 rfl (by kernel_rfl) (aStoreB (b := b28) (j := 0) (T := 29) (cs := [.slice none 0 0, .slice none 0 0]) (us := [.slice A38 r35.1.Shape.length c39, .slice A40 r35.1.Data.length c41]) (cs' := [.slice A38 r35.1.Shape.length c39, .slice A40 r35.1.Data.length c41]) hf65 (by kernel_rfl) (hm62.bxAt 3 rfl) (by kernel_rfl) (by kernel_rfl) (by kernel_rfl) ?_)
  intro w66 hx67 hg68
  have hm69 := hm62.setBox 3 _ rfl rfl hx67 hg68
  refine endL rfl ?_
  have hm70 := hm69.sel [1, 2, 3] _ rfl (by kernel_rfl)
  refine thenN ?_
  refine wp_ret ?_
  have hm71 : Mem [] M w0 [.ow (Kd.int .i64) 3 A38 c39 r35.1.Shape, .ow Kd.float 26 A40 c41 r35.1.Data] w66 := hm70.sel [0, 1] _ rfl (by kernel_rfl)
  obtain rfl := Option.some.inj H0
  refine ret [.agg #[.slice A38 r35.1.Shape.length c39, .slice A40 r35.1.Data.length c41]] [.agg #[.slice A38 r35.1.Shape.length c39, .slice A40 r35.1.Data.length c41]] [.cell ⟨b28, 0, none⟩ (.slice A38 r35.1.Shape.length c39), .cell ⟨b28, 1, none⟩ (.slice A40 r35.1.Data.length c41)] hf65 (by kernel_rfl) ⟨(hm70.cell 2 rfl rfl), (hm70.cell 2 rfl rfl), trivial⟩ ?_
  exact ⟨_, rfl, A38, c39, A40, c41, rfl, hm71⟩
end Go.Proofs.Ytolhkamfpfjodaa
