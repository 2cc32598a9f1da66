/- Printed by gen.py. -/
import Derived.Test.YteaoijahdinciaaF0
import Derived.Test.YteaoijahdinciaaF1
namespace Go.Proofs.Yteaoijahdinciaa
open Go Go.RowKit
set_option linter.unusedSimpArgs false
set_option linter.unusedVariables false
set_option linter.unnecessarySimpa false
/-! ### backstitch/tensor.New -/
noncomputable def tensor_New.f (x0 : (List Int)) (x1 : Nat) : Option (Tensor × Int) :=
  (shape_Size.f x0).bind fun r30 =>
  if r30.2 = 0 then ((slices_Clone_int.f x0).bind fun r43 =>
  (slices_Repeat_float64.f ([x1] : List Nat) r30.1).bind fun r44 =>
  some ((⟨r43, r44⟩ : Tensor), 0))
  else (some ((⟨([] : (List Int)), ([] : (List Nat))⟩ : Tensor), r30.2))
set_option maxRecDepth 100000 in
set_option maxHeartbeats 4000000 in
theorem tensor_New.calls (M : List (Option Nat)) (w0 : World) (x0 : (List Int)) (A0 : Option Addr) (n0 c0 : Nat) (e0 : n0 = x0.length) (x1 : Nat) (b1 : Nat) (h1 : FR b1 x1) (hm0 : Mem [] M w0 [.sl (Kd.int .i64) A0 c0 x0] w0) (r : (Tensor × Int)) (H0 : tensor_New.f x0 x1 = some r) :
    Calls Try.prog 47 [.slice A0 n0 c0, .float .f64 b1].toArray w0 (fun x w' => ∃ v, x = .returned v ∧ ∃ Ar0_0 cr0_0 Ar0_1 cr0_1, v = .tuple #[.agg #[.slice Ar0_0 r.1.Shape.length cr0_0, .slice Ar0_1 r.1.Data.length cr0_1], .int .i64 r.2] ∧ Mem [] M w0 [.ow (Kd.int .i64) 3 Ar0_0 cr0_0 r.1.Shape, .ow Kd.float 26 Ar0_1 cr0_1 r.1.Data] w') := by
  subst e0
  unfold tensor_New.f at H0
  refine enter (n := 24) Try.func47 rfl rfl (by kernel_rfl) fun a0 (hf0 : Fr 24 a0 [(0, .slice A0 x0.length c0), (1, .float .f64 b1)]) => ?_
  refine wp_seq ?_
  refine inReg ?_
  refine lo hf0 rfl (nw (cs := [.slice none 0 0, .slice none 0 0]) (T := 29) (d := 4) hf0 ?_)
  intro b21 w22 a23 hbb21 hx25 hg26 hf24
  have hm27 := hm0.box hbb21 hx25 hg26
  refine gg 1 [] [(0, .slice A0 x0.length c0), (1, vf b1), (4, vp b21)] hf24 ot fun a28 hf29 => ?_
  refine endL rfl ?_
  refine thenN ?_
  refine wp_seq ?_
  obtain ⟨r30, hr30, H0⟩ := ob_split H0
  refine inReg ?_
  refine gg 1 [] [(0, .slice A0 x0.length c0), (1, vf b1), (4, vp b21), (9, .slice A0 x0.length c0)] hf29 ot fun a31 hf32 => ?_
  refine lo hf32 rfl (cl 10 hf32 callable45 (shape_Size.calls _ _ _ _ _ _ rfl (hm27.give [1] [.sl (Kd.int .i64) A0 c0 x0] rfl rfl) r30 hr30) ?_)
  rintro _ w33 a34 ⟨rfl, hk36⟩ hf35
  have hm37 := hm27.still hk36.cum.none
  refine gg 5 [] [(0, .slice A0 x0.length c0), (1, vf b1), (4, vp b21), (6, vi r30.1), (7, vi r30.2)] hf35 ot fun a38 hf39 => ?_
  refine endL rfl ?_
  refine thenN ?_
  refine wp_seq ?_
  refine wp_seq ?_
  rcases if_split H0 with ⟨c40, H0⟩ | ⟨c40, H0⟩
  rotate_left
  · refine rg [.bool true] [(0, .slice A0 x0.length c0), (1, vf b1), (4, vp b21), (6, vi r30.1), (7, vi r30.2), (14, .bool true)] hf39 (oi (neT c40) ot) fun a84 hf85 => ?_
    refine thenN ?_
    refine cT hf85 ?_
    refine wp_seq ?_
    refine inReg ?_
    refine gg 2 [] [(4, vp b21), (15, .agg #[.slice none 0 0, .slice none 0 0]), (16, vi r30.2)] hf85 ot fun a86 hf87 => ?_
    refine lo hf87 rfl (sb (j := 0) (us := [.slice none 0 0, .slice none 0 0]) (cs' := [.slice none 0 0, .slice none 0 0]) hf87 (hm37.bxAt 0 rfl) ?_)
    intro w88 hx89 hg90
    have hm91 := hm37.setBox 0 _ rfl rfl hx89 hg90
    refine gg 1 [] [(4, vp b21), (5, vi r30.2)] hf87 ot fun a92 hf93 => ?_
    refine endL rfl ?_
    have hm94 := hm91.se [0] _ rfl
    refine thenN ?_
    refine wp_ret ?_
    refine thenR ?_
    have hm95 := hm94.nilOw (Kd.int .i64) 3
    have hm96 := hm95.nilOw Kd.float 26
    have hm97 : Mem [] M w0 [.ow (Kd.int .i64) 3 none 0 ([] : (List Int)), .ow Kd.float 26 none 0 ([] : (List Nat))] w88 := hm96.se [1, 0] _ rfl
    obtain rfl := Option.some.inj H0
    refine rt [.agg #[.slice none 0 0, .slice none 0 0]] [.agg #[.slice none 0 0, .slice none 0 0], .int .i64 r30.2] hf93 (oc (hm94.cell (j := 0) 0 rfl rfl) (oc (hm94.cell (j := 1) 0 rfl rfl) ot)) ?_
    exact ⟨_, rfl, none, 0, none, 0, rfl, hm97⟩
  refine rg [.bool false] [(0, .slice A0 x0.length c0), (1, vf b1), (4, vp b21), (6, vi r30.1), (7, vi r30.2), (14, .bool false)] hf39 (oi (neF c40) ot) fun a41 hf42 => ?_
  refine thenN ?_
  refine cF hf42 ?_
  refine wp_skip ?_
  refine thenN ?_
  refine wp_seq ?_
  obtain ⟨r43, hr43, H0⟩ := ob_split H0
  obtain ⟨r44, hr44, H0⟩ := ob_split H0
  refine inReg ?_
  refine gg 1 [] [(1, vf b1), (4, vp b21), (6, vi r30.1), (17, .slice A0 x0.length c0)] hf42 ot fun a45 hf46 => ?_
  refine lo hf46 rfl (cl 18 hf46 callable39 (slices_Clone_int.calls _ _ _ _ _ _ rfl (hm37.give [1] [.sl (Kd.int .i64) A0 c0 x0] rfl rfl) r43 hr43) ?_)
  rintro _ w49 a50 ⟨A47, c48, rfl, hk52⟩ hf51
  have hm53 := hm37.back hk52
  refine gg 1 [] [(4, vp b21), (6, vi r30.1), (18, .slice A47 r43.length c48), (19, vf b1)] hf51 ot fun a54 hf55 => ?_
  refine lo hf55 rfl (li (cs := [.float .f64 b1]) (E := 26) (len := 1) (d := 20) hf55 ?_)
  intro b56 w57 a58 hbb56 hx60 hg61 hf59
  have hm53s := hm53.still hg61
  have hm62 := Mem.lit (kd := Kd.float) (xs := ([x1] : List Nat)) hm53 hbb56 hx60 hg61 (Els.one (kd := Kd.float) (us := [.float .f64 b1]) (x := x1) ⟨_, rfl, h1⟩)
  refine gg 1 [] [(4, vp b21), (18, .slice A47 r43.length c48), (20, .slice (some ⟨b56, 0, none⟩) 1 1), (21, vi r30.1)] hf59 ot fun a63 hf65 => ?_
  refine lo hf65 rfl (cl 22 hf65 callable60 (slices_Repeat_float64.calls _ _ _ _ _ _ rfl r30.1 (hm62.give [0] [.sl Kd.float (some ⟨b56, 0, none⟩) 1 ([x1] : List Nat)] rfl rfl) r44 hr44) ?_)
  rintro _ w68 a69 ⟨A66, c67, rfl, hk71⟩ hf70
  have hm72 := hm62.back hk71
  refine gg 1 [] [(4, vp b21), (23, .agg #[.slice A47 r43.length c48, .slice A66 r44.length c67])] hf70 ot fun a73 hf74 => ?_
  refine lo hf74 rfl (sb (j := 0) (us := [.slice A47 r43.length c48, .slice A66 r44.length c67]) (cs' := [.slice A47 r43.length c48, .slice A66 r44.length c67]) hf74 (hm72.bxAt 3 rfl) ?_)
  intro w75 hx76 hg77
  have hm78 := hm72.setBox 3 _ rfl rfl hx76 hg77
  refine gg 1 [] [(4, vp b21), (5, vi 0)] hf74 ot fun a79 hf80 => ?_
  refine endL rfl ?_
  have hm81 := hm78.se [0, 2, 3] _ rfl
  refine thenN ?_
  refine wp_ret ?_
  have hm82 : Mem [] M w0 [.ow (Kd.int .i64) 3 A47 c48 r43, .ow Kd.float 26 A66 c67 r44] w75 := hm81.se [1, 0] _ rfl
  obtain rfl := Option.some.inj H0
  refine rt [.agg #[.slice A47 r43.length c48, .slice A66 r44.length c67]] [.agg #[.slice A47 r43.length c48, .slice A66 r44.length c67], .int .i64 0] hf80 (oc (hm81.cell (j := 0) 2 rfl rfl) (oc (hm81.cell (j := 1) 2 rfl rfl) ot)) ?_
  exact ⟨_, rfl, A47, c48, A66, c67, rfl, hm82⟩

/-! ### backstitch/shelf.noughts -/
noncomputable def shelf_noughts.f (x0 : Tensor) : Option Tensor :=
  (tensor_New.f x0.Shape 0).bind fun r35 =>
  some r35.1
set_option maxRecDepth 100000 in
set_option maxHeartbeats 4000000 in
theorem shelf_noughts.calls (M : List (Option Nat)) (w0 : World) (x0 : Tensor) (A0_0 : Option Addr) (n0_0 c0_0 : Nat) (e0_0 : n0_0 = x0.Shape.length) (A0_1 : Option Addr) (n0_1 c0_1 : Nat) (e0_1 : n0_1 = x0.Data.length) (hm0 : Mem [] M w0 [.sl (Kd.int .i64) A0_0 c0_0 x0.Shape, .sl Kd.float A0_1 c0_1 x0.Data] w0) (r : Tensor) (H0 : shelf_noughts.f x0 = some r) :
    Calls Try.prog 34 [.agg #[.slice A0_0 n0_0 c0_0, .slice A0_1 n0_1 c0_1]].toArray w0 (fun x w' => ∃ v, x = .returned v ∧ ∃ Ar0_0 cr0_0 Ar0_1 cr0_1, v = .agg #[.slice Ar0_0 r.Shape.length cr0_0, .slice Ar0_1 r.Data.length cr0_1] ∧ Mem [] M w0 [.ow (Kd.int .i64) 3 Ar0_0 cr0_0 r.Shape, .ow Kd.float 26 Ar0_1 cr0_1 r.Data] w') := by
  subst e0_0
  subst e0_1
  unfold shelf_noughts.f at H0
  refine enter (n := 12) Try.func34 rfl rfl (by kernel_rfl) fun a0 (hf0 : Fr 12 a0 [(0, .agg #[.slice A0_0 x0.Shape.length c0_0, .slice A0_1 x0.Data.length c0_1])]) => ?_
  refine wp_seq ?_
  refine inReg ?_
  refine lo hf0 rfl (nw (cs := [.slice A0_0 x0.Shape.length c0_0, .slice A0_1 x0.Data.length c0_1]) (T := 29) (d := 1) hf0 ?_)
  intro b21 w22 a23 hbb21 hx25 hg26 hf24
  have hm27 := hm0.box hbb21 hx25 hg26
  refine lo hf24 rfl (nw (cs := [.slice none 0 0, .slice none 0 0]) (T := 29) (d := 2) hf24 ?_)
  intro b28 w29 a30 hbb28 hx32 hg33 hf31
  have hm34 := hm27.box hbb28 hx32 hg33
  refine endL rfl ?_
  refine thenN ?_
  refine wp_seq ?_
  obtain ⟨r35, hr35, H0⟩ := ob_split H0
  refine inReg ?_
  refine gg 2 [.slice A0_0 x0.Shape.length c0_0] [(2, vp b28), (7, .slice A0_0 x0.Shape.length c0_0)] hf31 (oc (hm34.cell (j := 0) 1 rfl rfl) ot) fun a36 hf37 => ?_
  refine lo hf37 rfl (cl 8 hf37 callable47 (tensor_New.calls _ _ _ _ _ _ rfl 0 0 ((FR.lit (by kernel_rfl) (by kernel_rfl))) (hm34.give [2] [.sl (Kd.int .i64) A0_0 c0_0 x0.Shape] rfl rfl) r35 hr35) ?_)
  rintro _ w42 a43 ⟨A38, c39, A40, c41, rfl, hk45⟩ hf44
  have hm46 := hm34.back hk45
  refine gg 3 [] [(2, vp b28), (9, .agg #[.slice A38 r35.1.Shape.length c39, .slice A40 r35.1.Data.length c41]), (10, vi r35.2)] hf44 ot fun a47 hf48 => ?_
  refine lo hf48 rfl (nw (cs := [.slice none 0 0, .slice none 0 0]) (T := 29) (d := 3) hf48 ?_)
  intro b49 w50 a51 hbb49 hx53 hg54 hf52
  have hm55 := hm46.box hbb49 hx53 hg54
  refine lo hf52 rfl (sb (j := 0) (us := [.slice A38 r35.1.Shape.length c39, .slice A40 r35.1.Data.length c41]) (cs' := [.slice A38 r35.1.Shape.length c39, .slice A40 r35.1.Data.length c41]) hf52 (hm55.bxAt 0 rfl) ?_)
  intro w56 hx57 hg58
  have hm59 := hm55.setBox 0 _ rfl rfl hx57 hg58
  refine gg 1 [] [(2, vp b28), (3, vp b49)] hf52 ot fun a60 hf61 => ?_
  refine endL rfl ?_
  have hm62 := hm59.se [0, 1, 2, 3] _ rfl
  refine thenN ?_
  refine wp_seq ?_
  refine inReg ?_
  refine gg 1 [.agg #[.slice A38 r35.1.Shape.length c39, .slice A40 r35.1.Data.length c41]] [(2, vp b28), (11, .agg #[.slice A38 r35.1.Shape.length c39, .slice A40 r35.1.Data.length c41])] hf61 (oc (hm62.cell (j := 0) 0 rfl rfl) (oc (hm62.cell (j := 1) 0 rfl rfl) ot)) fun a63 hf65 => ?_
  refine lo hf65 rfl (sb (j := 0) (us := [.slice A38 r35.1.Shape.length c39, .slice A40 r35.1.Data.length c41]) (cs' := [.slice A38 r35.1.Shape.length c39, .slice A40 r35.1.Data.length c41]) hf65 (hm62.bxAt 3 rfl) ?_)
  intro w66 hx67 hg68
  have hm69 := hm62.setBox 3 _ rfl rfl hx67 hg68
  refine endL rfl ?_
  have hm70 := hm69.se [1, 2, 3] _ rfl
  refine thenN ?_
  refine wp_ret ?_
  have hm71 : Mem [] M w0 [.ow (Kd.int .i64) 3 A38 c39 r35.1.Shape, .ow Kd.float 26 A40 c41 r35.1.Data] w66 := hm70.se [0, 1] _ rfl
  obtain rfl := Option.some.inj H0
  refine rt [.agg #[.slice A38 r35.1.Shape.length c39, .slice A40 r35.1.Data.length c41]] [.agg #[.slice A38 r35.1.Shape.length c39, .slice A40 r35.1.Data.length c41]] hf65 (oc (hm70.cell (j := 0) 2 rfl rfl) (oc (hm70.cell (j := 1) 2 rfl rfl) ot)) ?_
  exact ⟨_, rfl, A38, c39, A40, c41, rfl, hm71⟩

/-! ### backstitch/shelf.New -/
noncomputable def shelf_New.l0 (x0 : (List Tensor)) (s83 : (Int × (List Tensor) × (List Tensor))) : Step (Int × (List Tensor) × (List Tensor)) (Int × (List Tensor) × (List Tensor)) :=
  if s83.1 < (x0.length : Int) then (if 0 ≤ s83.1 ∧ s83.1 < (x0.length : Int) then (bindS (tensor_Copy.f (⟨(rd x0 s83.1).Shape, (rd x0 s83.1).Data⟩ : Tensor)) fun r121 =>
  if s83.2.2.length + 1 ≤ 549755813888 then (bindS (shelf_noughts.f (⟨(rd x0 s83.1).Shape, (rd x0 s83.1).Data⟩ : Tensor)) fun r123 =>
  if s83.2.1.length + 1 ≤ 549755813888 then (.next ((w64 (s83.1 + 1)), (s83.2.1 ++ ([r123] : List Tensor)), (s83.2.2 ++ ([r121] : List Tensor))))
  else .bad)
  else .bad)
  else .bad)
  else (.done (s83.1, s83.2.1, s83.2.2))
noncomputable def shelf_New.f (x0 : (List Tensor)) : Option ((Option Shelf) × Int) :=
  if 32 < (x0.length : Int) then (some (none, 13))
  else ((slices_ContainsFunc_api_Tensor_shelf_New_1.f x0).bind fun r33 =>
  if r33 = true then (some (none, 2))
  else (if 0 ≤ (x0.length : Int) ∧ (x0.length : Int) ≤ 1099511627776 then ((loop (shelf_New.l0 x0) (0, ([] : (List Tensor)), ([] : (List Tensor)))).bind fun r88 =>
  some ((some (⟨r88.2.2, (List.replicate ((x0.length : Int)).toNat (0 : Int)), r88.2.1⟩ : Shelf)), 0))
  else none))
set_option maxRecDepth 100000 in
set_option maxHeartbeats 4000000 in
theorem shelf_New.calls_x (M : List (Option Nat)) (w0 : World) (x0 : (List Tensor)) (A0 : Option Addr) (n0 c0 : Nat) (e0 : n0 = x0.length) (hm0 : Mem [] M w0 [.sl kTensor A0 c0 x0] w0) (r : ((Option Shelf) × Int)) (H0 : shelf_New.f x0 = some r) :
    Calls Try.prog 10 [.slice A0 n0 c0].toArray w0 (fun x w' => PtrP (r.1) (∃ v, x = .returned v ∧ v = .tuple #[.pointer none, .int .i64 r.2] ∧ Mem [] M w0 [] w') (fun (y : Shelf) => ∃ v, x = .returned v ∧ ∃ bp Aq_0 cq_0 Aq_1 cq_1 Aq_2 cq_2, v = .tuple #[.pointer (some ⟨bp, 0, none⟩), .int .i64 r.2] ∧ Mem [] M w0 [.bx bp [.slice Aq_0 y.l.length cq_0, .slice Aq_1 y.vers.length cq_1, .slice Aq_2 y.grads.length cq_2] 72, .ow kTensor 29 Aq_0 cq_0 y.l, .ow (Kd.int .i64) 3 Aq_1 cq_1 y.vers, .ow kTensor 29 Aq_2 cq_2 y.grads] w')) := by
  subst e0
  unfold shelf_New.f at H0
  refine enter (n := 49) Try.func10 rfl rfl (by kernel_rfl) fun a0 (hf0 : Fr 49 a0 [(0, .slice A0 x0.length c0)]) => ?_
  refine wp_seq ?_
  refine rg [] [(0, .slice A0 x0.length c0)] hf0 ot fun a21 hf22 => ?_
  refine thenN ?_
  refine wp_seq ?_
  refine wp_block ?_
  refine wp_seq ?_
  rcases if_split H0 with ⟨c23, H0⟩ | ⟨c23, H0⟩
  · refine rg (ob := [.is (decide (32 < (x0.length : Int)) = true)]) [.bool true] [(0, .slice A0 x0.length c0), (7, .bool true)] hf22 ⟨(decide_eq_true c23), trivial⟩ fun a24 hf25 => ?_
    refine thenN ?_
    refine cT hf25 ?_
    refine wp_seq ?_
    refine rg [] [(2, .pointer none), (3, vi 13)] hf25 ot fun a26 hf27 => ?_
    have hm28 := hm0.se [] _ rfl
    refine thenN ?_
    refine wp_ret ?_
    refine blkR ?_
    refine thenR ?_
    have hm29 : Mem [] M w0 [] w0 := hm28.se [] _ rfl
    obtain rfl := Option.some.inj H0
    refine rt [] [.pointer none, .int .i64 13] hf27 ot ?_
    exact PtrP_no ⟨_, rfl, rfl, hm29⟩
  refine rg (ob := [.is (decide (32 < (x0.length : Int)) = false)]) [.bool false] [(0, .slice A0 x0.length c0), (7, .bool false)] hf22 ⟨(decide_eq_false c23), trivial⟩ fun a31 hf32 => ?_
  refine thenN ?_
  refine cF hf32 ?_
  refine wp_seq ?_
  obtain ⟨r33, hr33, H0⟩ := ob_split H0
  refine inReg ?_
  refine gg 1 [] [(0, .slice A0 x0.length c0), (12, .slice A0 x0.length c0)] hf32 ot fun a34 hf35 => ?_
  refine lo hf35 rfl (cl 13 hf35 callable30 (slices_ContainsFunc_api_Tensor_shelf_New_1.calls _ _ _ _ _ _ rfl (hm0.give [0] [.sl kTensor A0 c0 x0] rfl rfl) r33 hr33) ?_)
  rintro _ w36 a37 ⟨rfl, hk39⟩ hf38
  have hm40 := hm0.still hk39.cum.none
  refine gg 1 [] [(0, .slice A0 x0.length c0), (11, .bool r33)] hf38 ot fun a41 hf42 => ?_
  refine endL rfl ?_
  refine thenN ?_
  rcases ifb_split H0 with ⟨c43, H0⟩ | ⟨c43, H0⟩
  · rw [c43] at hf42
    refine cT hf42 ?_
    refine wp_seq ?_
    refine rg [] [(2, .pointer none), (3, vi 2)] hf42 ot fun a44 hf45 => ?_
    have hm46 := hm40.se [] _ rfl
    refine thenN ?_
    refine wp_ret ?_
    refine blkR ?_
    refine thenR ?_
    have hm47 : Mem [] M w0 [] w36 := hm46.se [] _ rfl
    obtain rfl := Option.some.inj H0
    refine rt [] [.pointer none, .int .i64 2] hf45 ot ?_
    exact PtrP_no ⟨_, rfl, rfl, hm47⟩
  rw [c43] at hf42
  refine cF hf42 ?_
  refine wp_skip ?_
  refine blkN ?_
  refine thenN ?_
  refine wp_seq ?_
  obtain ⟨g49, H0⟩ := if_guard H0
  refine inReg ?_
  refine gg 2 [] [(0, .slice A0 x0.length c0), (15, vi (x0.length : Int))] hf42 ot fun a50 hf51 => ?_
  refine lo hf51 rfl (aMake (kd := (Kd.int .i64)) (x := 0) (E := 3) (L := (x0.length : Int)) (z := [.int .i64 0]) (sz := 1) (d := 16) hf51 (by kernel_rfl) (by kernel_rfl) rfl (fun _ _ => rfl) g49.1 g49.2 ?_)
  intro A52 c53 w54 a55 ho57 hb59 hg58 hf56
  have hm60 : Mem [] M w0 [.ow (Kd.int .i64) 3 A52 c53 (List.replicate ((x0.length : Int)).toNat (0 : Int)), .sl kTensor A0 c0 x0] w54 := hm40.own (ho57 _) hg58
  refine gg 1 [] [(0, .slice A0 x0.length c0), (17, .agg #[.slice none 0 0, .slice A52 ((List.replicate ((x0.length : Int)).toNat (0 : Int)).length) c53, .slice none 0 0])] hf56 ot fun a61 hf62 => ?_
  refine lo hf62 rfl (nw (cs := [.slice none 0 0, .slice A52 ((List.replicate ((x0.length : Int)).toNat (0 : Int)).length) c53, .slice none 0 0]) (T := 72) (d := 18) hf62 ?_)
  intro b63 w65 a66 hbb63 hx68 hg69 hf67
  have hm70 := hm60.box hbb63 hx68 hg69
  refine gg 1 [] [(0, .slice A0 x0.length c0), (4, vp b63)] hf67 ot fun a71 hf72 => ?_
  refine endL rfl ?_
  refine thenN ?_
  refine wp_seq ?_
  refine wp_seq ?_
  refine rg [] [(4, vp b63), (19, .slice A0 x0.length c0), (20, vi (x0.length : Int)), (21, vi 0)] hf72 ot fun a73 hf74 => ?_
  refine thenN ?_
  have hm76 := hm70.nilOw kTensor 29
  have hm78 := hm76.nilOw kTensor 29
  obtain ⟨r88, hr88, H0⟩ := ob_split H0
  refine wpBlock (Mid := fun (a : Act) (w : World) => ∃ (A84 : Option Addr) (c85 : Nat) (A86 : Option Addr) (c87 : Nat), Fr 49 a [(4, .pointer (some ⟨b63, 0, none⟩)), (19, .slice A0 x0.length c0), (20, .int .i64 (x0.length : Int)), (21, .int .i64 r88.1)] ∧ Mem [] M w0 [.ow kTensor 29 A84 c85 r88.2.1, .ow kTensor 29 A86 c87 r88.2.2, .bx b63 [.slice A86 r88.2.2.length c87, .slice A52 ((List.replicate ((x0.length : Int)).toNat (0 : Int)).length) c53, .slice A84 r88.2.1.length c85] 72, .ow (Kd.int .i64) 3 A52 c53 (List.replicate ((x0.length : Int)).toNat (0 : Int)), .sl kTensor A0 c0 x0] w) ?_ ?_
  · refine wpLoop (shelf_New.l0 x0) r88 (fun (s83 : (Int × (List Tensor) × (List Tensor))) (a : Act) (w : World) => ∃ (A84 : Option Addr) (c85 : Nat) (A86 : Option Addr) (c87 : Nat), Fr 49 a [(4, .pointer (some ⟨b63, 0, none⟩)), (19, .slice A0 x0.length c0), (20, .int .i64 (x0.length : Int)), (21, .int .i64 s83.1)] ∧ Mem [] M w0 [.ow kTensor 29 A84 c85 s83.2.1, .ow kTensor 29 A86 c87 s83.2.2, .bx b63 [.slice A86 s83.2.2.length c87, .slice A52 ((List.replicate ((x0.length : Int)).toNat (0 : Int)).length) c53, .slice A84 s83.2.1.length c85] 72, .ow (Kd.int .i64) 3 A52 c53 (List.replicate ((x0.length : Int)).toNat (0 : Int)), .sl kTensor A0 c0 x0] w) (0, ([] : (List Tensor)), ([] : (List Tensor))) hr88 ⟨none, 0, none, 0, hf74.se [4, 19, 20, 21], hm78.se [0, 1, 2, 3, 4] _ rfl⟩ ?_
    rintro g89 s83 a90 w91 H1 ⟨A84, c85, A86, c87, hf92, hm93⟩
    unfold shelf_New.l0 at H1
    refine wp_seq ?_
    rcases ifS_split H1 with ⟨c94, H1⟩ | ⟨c94, H1⟩
    rotate_left
    · refine rg (ob := [.is (decide (s83.1 < (x0.length : Int)) = false)]) [.bool false] [(4, vp b63), (19, .slice A0 x0.length c0), (20, vi (x0.length : Int)), (21, vi s83.1), (22, .bool false)] hf92 ⟨(decide_eq_false c94), trivial⟩ fun a345 hf346 => ?_
      refine thenN ?_
      refine wp_seq ?_
      refine cF hf346 ?_
      refine wp_exit ?_
      refine thenE ?_
      refine thenE ?_
      obtain rfl := Option.some.inj H1
      exact .inl ⟨rfl, A84, c85, A86, c87, hf346.se [4, 19, 20, 21], hm93.se [0, 1, 2, 3, 4] _ rfl⟩
    refine rg (ob := [.is (decide (s83.1 < (x0.length : Int)) = true)]) [.bool true] [(4, vp b63), (19, .slice A0 x0.length c0), (20, vi (x0.length : Int)), (21, vi s83.1), (22, .bool true)] hf92 ⟨(decide_eq_true c94), trivial⟩ fun a95 hf96 => ?_
    refine thenN ?_
    refine wp_seq ?_
    refine cT hf96 ?_
    refine wp_skip ?_
    refine thenN ?_
    refine wp_seq ?_
    refine wp_block ?_
    refine wp_seq ?_
    obtain ⟨g97, H1⟩ := ifS_guard H1
    have q98 := (hm93.slAt 4 rfl).get s83.1 g97.1 g97.2
    obtain ⟨us99, hr100, hc101⟩ := q98.2
    obtain ⟨A102, c103, A104, c105, rfl, ⟨pA102, sA102⟩, ⟨pA104, sA104⟩⟩ := kTensor.open hr100
    have hm106 := hm93.elem pA102 sA102
    have hm107 := hm106.elem pA104 sA104
    refine inReg ?_
    refine gg 2 [.agg #[.slice A102 (rd x0 s83.1).Shape.length c103, .slice A104 (rd x0 s83.1).Data.length c105]] [(4, vp b63), (19, .slice A0 x0.length c0), (20, vi (x0.length : Int)), (21, vi s83.1), (24, .agg #[.slice A102 (rd x0 s83.1).Shape.length c103, .slice A104 (rd x0 s83.1).Data.length c105])] hf96 (oi q98.1 (oi g97 (oc (hc101 0 _ rfl) (oc (hc101 1 _ rfl) ot)))) fun a108 hf109 => ?_
    refine lo hf109 rfl (nw (cs := [.slice none 0 0, .slice none 0 0]) (T := 29) (d := 6) hf109 ?_)
    intro b110 w111 a112 hbb110 hx114 hg115 hf113
    have hm116 := hm107.box hbb110 hx114 hg115
    refine lo hf113 rfl (sb (j := 0) (us := [.slice A102 (rd x0 s83.1).Shape.length c103, .slice A104 (rd x0 s83.1).Data.length c105]) (cs' := [.slice A102 (rd x0 s83.1).Shape.length c103, .slice A104 (rd x0 s83.1).Data.length c105]) hf113 (hm116.bxAt 0 rfl) ?_)
    intro w117 hx118 hg119
    have hm120 := hm116.setBox 0 _ rfl rfl hx118 hg119
    refine endL rfl ?_
    refine thenN ?_
    obtain ⟨r121, hr121, H1⟩ := obS_split H1
    obtain ⟨g122, H1⟩ := ifS_guard H1
    obtain ⟨r123, hr123, H1⟩ := obS_split H1
    obtain ⟨g124, H1⟩ := ifS_guard H1
    refine midReg (fun (a : Act) (w : World) => ∃ (A172 : Option Addr) (c173 : Nat) (A143 : Option Addr) (c144 : Nat), Fr 49 a [(4, .pointer (some ⟨b63, 0, none⟩)), (19, .slice A0 x0.length c0), (20, .int .i64 (x0.length : Int)), (21, .int .i64 s83.1)] ∧ Mem [] M w0 [.ow kTensor 29 A172 c173 (s83.2.1 ++ ([r123] : List Tensor)), .ow kTensor 29 A143 c144 (s83.2.2 ++ ([r121] : List Tensor)), .bx b63 [.slice A143 (s83.2.2 ++ ([r121] : List Tensor)).length c144, .slice A52 ((List.replicate ((x0.length : Int)).toNat (0 : Int)).length) c53, .slice A172 (s83.2.1 ++ ([r123] : List Tensor)).length c173] 72, .ow (Kd.int .i64) 3 A52 c53 (List.replicate ((x0.length : Int)).toNat (0 : Int)), .sl kTensor A0 c0 x0] w) ?_ ?_
    · refine anyG (K := [bk A86, bk A84]) [20, 23] (by kernel_rfl) fun w192 hg193 => ?_
      have hm194 := hm120.still hg193
      refine qt (ob := [.cell ⟨b63, 0, none⟩ (.slice A86 s83.2.2.length c87), .is (some (⟨b63, 0, none⟩ : Addr).block ∉ [bk A86, bk A84]), .cell ⟨b110, 0, none⟩ (.slice A102 (rd x0 s83.1).Shape.length c103), .is (some (⟨b110, 0, none⟩ : Addr).block ∉ [bk A86, bk A84]), .cell ⟨b110, 1, none⟩ (.slice A104 (rd x0 s83.1).Data.length c105), .is (some (⟨b110, 1, none⟩ : Addr).block ∉ [bk A86, bk A84]), .cell ⟨b63, 2, none⟩ (.slice A84 s83.2.1.length c85), .is (some (⟨b63, 2, none⟩ : Addr).block ∉ [bk A86, bk A84]), .cell ⟨b110, 0, none⟩ (.slice A102 (rd x0 s83.1).Shape.length c103), .is (some (⟨b110, 0, none⟩ : Addr).block ∉ [bk A86, bk A84]), .cell ⟨b110, 1, none⟩ (.slice A104 (rd x0 s83.1).Data.length c105), .is (some (⟨b110, 1, none⟩ : Addr).block ∉ [bk A86, bk A84])]) [0, 1, 2, 3, 4, 5, 6, 10, 11, 12, 13, 14] [.slice A86 s83.2.2.length c87, .agg #[.slice A102 (rd x0 s83.1).Shape.length c103, .slice A104 (rd x0 s83.1).Data.length c105], .slice A84 s83.2.1.length c85, .agg #[.slice A102 (rd x0 s83.1).Shape.length c103, .slice A104 (rd x0 s83.1).Data.length c105]] (fb 24 31871) [(4, vp b63), (19, .slice A0 x0.length c0), (20, vi (x0.length : Int)), (21, vi s83.1), (25, vp b63), (26, vp b63), (30, .slice A86 s83.2.2.length c87), (31, .agg #[.slice A102 (rd x0 s83.1).Shape.length c103, .slice A104 (rd x0 s83.1).Data.length c105]), (38, .slice A84 s83.2.1.length c85), (39, .agg #[.slice A102 (rd x0 s83.1).Shape.length c103, .slice A104 (rd x0 s83.1).Data.length c105])] 12 hf113 ⟨(hm194.cell 5 rfl rfl), (hm194.bxK 5 [4, 3] _ rfl rfl rfl), (hm194.cell 0 rfl rfl), (hm194.bxK 0 [4, 3] _ rfl rfl rfl), (hm194.cell 0 rfl rfl), (hm194.bxK 0 [4, 3] _ rfl rfl rfl), (hm194.cell 5 rfl rfl), (hm194.bxK 5 [4, 3] _ rfl rfl rfl), (hm194.cell 0 rfl rfl), (hm194.bxK 0 [4, 3] _ rfl rfl rfl), (hm194.cell 0 rfl rfl), (hm194.bxK 0 [4, 3] _ rfl rfl rfl), trivial⟩ fun a267 hf268 => ?_
      refine a1 7 ?_
      refine oo hf268 rfl (cl 32 hf268 callable33 (tensor_Copy.calls _ _ _ _ _ _ rfl _ _ _ rfl (hm194.give [2, 1] [.sl (Kd.int .i64) A102 c103 (rd x0 s83.1).Shape, .sl Kd.float A104 c105 (rd x0 s83.1).Data] rfl rfl) r121 hr121) ?_)
      rintro _ w273 a274 ⟨A269, c270, A271, c272, rfl, hk276⟩ hf275
      refine ⟨.inr (Gr.still hk276.cum.none), ?_⟩
      have hm277 := hm194.back hk276
      have hm278 := hm277.seal 0 _ rfl rfl
      have hm279 := hm278.seal 1 _ rfl rfl
      refine a1 8 ?_
      refine oo hf275 rfl (li (cs := [.slice A269 r121.Shape.length c270, .slice A271 r121.Data.length c272]) (E := 29) (len := 1) (d := 33) hf275 ?_)
      intro b280 w281 a282 hbb280 hx284 hg285 hf283
      refine ⟨.inr (Gr.still hg285), ?_⟩
      have hm279s := hm279.still hg285
      have hm286 := Mem.lit (kd := kTensor) (xs := ([r121] : List Tensor)) hm279 hbb280 hx284 hg285 (Els.one (kd := kTensor) (us := [.slice A269 r121.Shape.length c270, .slice A271 r121.Data.length c272]) (x := r121) (kTensor.mk r121 ⟨hm279s.cpAt 0 rfl, (hm279s.slAt 0 rfl)⟩ ⟨hm279s.cpAt 1 rfl, (hm279s.slAt 1 rfl)⟩))
      refine a1 9 ?_
      have e295 : s83.2.2.length = s83.2.2.length := rfl
      have e296 : 1 = ([r121] : List Tensor).length := rfl
      refine oo hf283 rfl (ap (sz := 2) (d := 34) hf283 e295 e296 (hm286.at 7 rfl) (hm286.at2 7 0 rfl rfl).2 (hm286.cpAt 0 rfl) (by have := g122; omega) ?_)
      intro A287 c288 w289 a290 ho292 hg293 hr294 hf291
      refine ⟨.inr (Gr.own hg293 (by simp)), ?_⟩
      have hm297 := hm286.setOwn 7 _ rfl rfl ho292 hg293 hr294
      refine a1 15 ?_
      refine oo hf291 rfl (cl 40 hf291 callable34 (shelf_noughts.calls _ _ _ _ _ _ rfl _ _ _ rfl (hm297.give [5, 4] [.sl (Kd.int .i64) A102 c103 (rd x0 s83.1).Shape, .sl Kd.float A104 c105 (rd x0 s83.1).Data] rfl rfl) r123 hr123) ?_)
      rintro _ w302 a303 ⟨A298, c299, A300, c301, rfl, hk305⟩ hf304
      refine ⟨.inr (Gr.still hk305.cum.none), ?_⟩
      have hm306 := hm297.back hk305
      have hm307 := hm306.seal 0 _ rfl rfl
      have hm308 := hm307.seal 1 _ rfl rfl
      refine a1 16 ?_
      refine oo hf304 rfl (li (cs := [.slice A298 r123.Shape.length c299, .slice A300 r123.Data.length c301]) (E := 29) (len := 1) (d := 41) hf304 ?_)
      intro b309 w310 a311 hbb309 hx313 hg314 hf312
      refine ⟨.inr (Gr.still hg314), ?_⟩
      have hm308s := hm308.still hg314
      have hm315 := Mem.lit (kd := kTensor) (xs := ([r123] : List Tensor)) hm308 hbb309 hx313 hg314 (Els.one (kd := kTensor) (us := [.slice A298 r123.Shape.length c299, .slice A300 r123.Data.length c301]) (x := r123) (kTensor.mk r123 ⟨hm308s.cpAt 0 rfl, (hm308s.slAt 0 rfl)⟩ ⟨hm308s.cpAt 1 rfl, (hm308s.slAt 1 rfl)⟩))
      refine a1 17 ?_
      have e324 : s83.2.1.length = s83.2.1.length := rfl
      have e325 : 1 = ([r123] : List Tensor).length := rfl
      refine oo hf312 rfl (ap (sz := 2) (d := 42) hf312 e324 e325 (hm315.at 9 rfl) (hm315.at2 9 0 rfl rfl).2 (hm315.cpAt 0 rfl) (by have := g124; omega) ?_)
      intro A316 c317 w318 a319 ho321 hg322 hr323 hf320
      refine ⟨.inr (Gr.own hg322 (by simp)), ?_⟩
      have hm326 := hm315.setOwn 9 _ rfl rfl ho321 hg322 hr323
      refine qt [18, 19] [] (fb 24 1048575) [(4, vp b63), (19, .slice A0 x0.length c0), (20, vi (x0.length : Int)), (21, vi s83.1), (26, vp b63), (34, .slice A287 (s83.2.2 ++ ([r121] : List Tensor)).length c288), (42, .slice A316 (s83.2.1 ++ ([r123] : List Tensor)).length c317), (44, vp b63)] 4 hf320 ot fun a327 hf328 => ?_
      refine a1 20 ?_
      refine oo hf328 rfl (sb (j := 0) (us := [.slice A287 (s83.2.2 ++ ([r121] : List Tensor)).length c288]) (cs' := [.slice A287 (s83.2.2 ++ ([r121] : List Tensor)).length c288, .slice A52 ((List.replicate ((x0.length : Int)).toNat (0 : Int)).length) c53, .slice A84 s83.2.1.length c85]) hf328 (hm326.bxAt 11 rfl) ?_)
      intro w329 hx330 hg331
      refine ⟨.inl (by decide), ?_⟩
      have hm332 := hm326.setBox 11 _ rfl rfl hx330 hg331
      refine qt [21, 22] [] (fb 24 8388607) [(4, vp b63), (19, .slice A0 x0.length c0), (20, vi (x0.length : Int)), (21, vi s83.1), (42, .slice A316 (s83.2.1 ++ ([r123] : List Tensor)).length c317), (46, .pointer (some ⟨b63, 2, none⟩))] 1 hf328 ot fun a333 hf334 => ?_
      refine a1 23 ?_
      refine oo hf334 rfl (sb (j := 2) (us := [.slice A316 (s83.2.1 ++ ([r123] : List Tensor)).length c317]) (cs' := [.slice A287 (s83.2.2 ++ ([r121] : List Tensor)).length c288, .slice A52 ((List.replicate ((x0.length : Int)).toNat (0 : Int)).length) c53, .slice A316 (s83.2.1 ++ ([r123] : List Tensor)).length c317]) hf334 (hm332.bxAt 11 rfl) ?_)
      intro w335 hx336 hg337
      refine ⟨.inl (by decide), ?_⟩
      have hm338 := hm332.setBox 11 _ rfl rfl hx336 hg337
      refine aD ⟨rfl, A316, c317, A287, c288, hf334.se [4, 19, 20, 21], hm338.se [9, 10, 11, 12, 13] _ rfl⟩
    rintro a339 w340 ⟨A172, c173, A143, c144, hf341, hm342⟩
    refine blkN ?_
    refine thenN ?_
    refine rg [] [(4, vp b63), (19, .slice A0 x0.length c0), (20, vi (x0.length : Int)), (21, vi (w64 (s83.1 + 1)))] hf341 ot fun a343 hf344 => ?_
    exact ⟨((w64 (s83.1 + 1)), (s83.2.1 ++ ([r123] : List Tensor)), (s83.2.2 ++ ([r121] : List Tensor))), H1, A172, c173, A143, c144, hf344.se [4, 19, 20, 21], hm342.se [0, 1, 2, 3, 4] _ rfl⟩
  rintro a347 w348 ⟨A84, c85, A86, c87, hf349, hm350⟩
  refine thenN ?_
  refine wp_seq ?_
  refine rg [] [(2, vp b63), (3, vi 0)] hf349 ot fun a351 hf352 => ?_
  have hm353 := hm350.se [0, 1, 2, 3] _ rfl
  refine thenN ?_
  refine wp_ret ?_
  have hm354 : Mem [] M w0 [.bx b63 [.slice A86 r88.2.2.length c87, .slice A52 ((List.replicate ((x0.length : Int)).toNat (0 : Int)).length) c53, .slice A84 r88.2.1.length c85] 72, .ow kTensor 29 A86 c87 r88.2.2, .ow (Kd.int .i64) 3 A52 c53 (List.replicate ((x0.length : Int)).toNat (0 : Int)), .ow kTensor 29 A84 c85 r88.2.1] w348 := hm353.se [2, 1, 3, 0] _ rfl
  obtain rfl := Option.some.inj H0
  refine rt [] [.pointer (some ⟨b63, 0, none⟩), .int .i64 0] hf352 ot ?_
  exact PtrP_so ⟨_, rfl, b63, A86, c87, A52, c53, A84, c85, rfl, hm354⟩
theorem shelf_New.calls_n (M : List (Option Nat)) (w0 : World) (x0 : (List Tensor)) (A0 : Option Addr) (n0 c0 : Nat) (e0 : n0 = x0.length) (hm0 : Mem [] M w0 [.sl kTensor A0 c0 x0] w0) (r : ((Option Shelf) × Int)) (hp : r.1 = none) (H0 : shelf_New.f x0 = some r) :
    Calls Try.prog 10 [.slice A0 n0 c0].toArray w0 (fun x w' => ∃ v, x = .returned v ∧ v = .tuple #[.pointer none, .int .i64 r.2] ∧ Mem [] M w0 [] w') :=
  (shelf_New.calls_x M w0 x0 A0 n0 c0 e0 hm0 r H0).mono (fun _ _ h => by rw [hp] at h; exact h)
theorem shelf_New.calls_s (M : List (Option Nat)) (w0 : World) (x0 : (List Tensor)) (A0 : Option Addr) (n0 c0 : Nat) (e0 : n0 = x0.length) (hm0 : Mem [] M w0 [.sl kTensor A0 c0 x0] w0) (r : ((Option Shelf) × Int)) (y : Shelf) (hp : r.1 = some y) (H0 : shelf_New.f x0 = some r) :
    Calls Try.prog 10 [.slice A0 n0 c0].toArray w0 (fun x w' => ∃ v, x = .returned v ∧ ∃ bp Aq_0 cq_0 Aq_1 cq_1 Aq_2 cq_2, v = .tuple #[.pointer (some ⟨bp, 0, none⟩), .int .i64 r.2] ∧ Mem [] M w0 [.bx bp [.slice Aq_0 y.l.length cq_0, .slice Aq_1 y.vers.length cq_1, .slice Aq_2 y.grads.length cq_2] 72, .ow kTensor 29 Aq_0 cq_0 y.l, .ow (Kd.int .i64) 3 Aq_1 cq_1 y.vers, .ow kTensor 29 Aq_2 cq_2 y.grads] w') :=
  (shelf_New.calls_x M w0 x0 A0 n0 c0 e0 hm0 r H0).mono (fun _ _ h => by rw [hp] at h; exact h)
theorem shelf_New.calls_d (M : List (Option Nat)) (w0 : World) (x0 : (List Tensor)) (A0 : Option Addr) (n0 c0 : Nat) (e0 : n0 = x0.length) (hm0 : Mem [] M w0 [.sl kTensor A0 c0 x0] w0) (r : ((Option Shelf) × Int)) (H0 : shelf_New.f x0 = some r) :
    Calls Try.prog 10 [.slice A0 n0 c0].toArray w0 (fun x w' => ∃ v, x = .returned v ∧ ∃ p, v = .tuple #[p, .int .i64 r.2] ∧ Mem [] M w0 [] w') := by
  cases hp : r.1 with
  | none => exact (shelf_New.calls_n M w0 x0 A0 n0 c0 e0 hm0 r hp H0).mono (fun _ _ ⟨v, e, hv, hm⟩ => ⟨v, e, _, hv, hm⟩)
  | some y => exact (shelf_New.calls_s M w0 x0 A0 n0 c0 e0 hm0 r y hp H0).mono (fun _ _ ⟨v, e, bp, Aq_0, cq_0, Aq_1, cq_1, Aq_2, cq_2, hv, hm⟩ => ⟨v, e, _, hv, hm.se [] _ rfl⟩)
end Go.Proofs.Yteaoijahdinciaa
