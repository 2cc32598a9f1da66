/- Printed by gen.py. -/
import Derived.Test.YteaoijahdinciaaF0
import Derived.Test.YteaoijahdinciaaF2
import Derived.Test.YteaoijahdinciaaF3
import Derived.Test.YteaoijahdinciaaF4
import Derived.Test.YteaoijahdinciaaF5
namespace Go.Proofs.Yteaoijahdinciaa
open Go Go.RowKit
set_option linter.unusedSimpArgs false
set_option linter.unusedVariables false
set_option linter.unnecessarySimpa false
/-! ### backstitch/kernel.Two -/
noncomputable def kernel_Two.l0 (r93 : (Tensor × Int)) (r77 : ((List Int) × Int)) (x1 : Tensor) (x2 : Tensor) (s122 : (Int × (List Nat))) : Step (Int × (List Nat)) (Int × (List Nat)) :=
  if s122.1 < (r93.1.Data.length : Int) then (bindS (shape_Place.f r77.1 s122.1) fun r134 =>
  bindS (kernel_from.f x1.Shape r134) fun r147 =>
  if 0 ≤ r147 ∧ r147 < (x1.Data.length : Int) then (bindS (kernel_from.f x2.Shape r134) fun r149 =>
  if 0 ≤ r149 ∧ r149 < (x2.Data.length : Int) then (bindS (kernel_two_1.f (rd x1.Data r147) (rd x2.Data r149)) fun r151 =>
  if 0 ≤ s122.1 ∧ s122.1 < (s122.2.length : Int) then (.next ((w64 (s122.1 + 1)), (put s122.2 s122.1 r151)))
  else .bad)
  else .bad)
  else .bad)
  else (.done (s122.1, s122.2))
noncomputable def kernel_Two.l1 (r390 : (Tensor × Int)) (r374 : ((List Int) × Int)) (x1 : Tensor) (x2 : Tensor) (s419 : (Int × (List Nat))) : Step (Int × (List Nat)) (Int × (List Nat)) :=
  if s419.1 < (r390.1.Data.length : Int) then (bindS (shape_Place.f r374.1 s419.1) fun r431 =>
  bindS (kernel_from.f x1.Shape r431) fun r444 =>
  if 0 ≤ r444 ∧ r444 < (x1.Data.length : Int) then (bindS (kernel_from.f x2.Shape r431) fun r446 =>
  if 0 ≤ r446 ∧ r446 < (x2.Data.length : Int) then (bindS (kernel_two_2.f (rd x1.Data r444) (rd x2.Data r446)) fun r448 =>
  if 0 ≤ s419.1 ∧ s419.1 < (s419.2.length : Int) then (.next ((w64 (s419.1 + 1)), (put s419.2 s419.1 r448)))
  else .bad)
  else .bad)
  else .bad)
  else (.done (s419.1, s419.2))
noncomputable def kernel_Two.l2 (r687 : (Tensor × Int)) (r671 : ((List Int) × Int)) (x1 : Tensor) (x2 : Tensor) (s716 : (Int × (List Nat))) : Step (Int × (List Nat)) (Int × (List Nat)) :=
  if s716.1 < (r687.1.Data.length : Int) then (bindS (shape_Place.f r671.1 s716.1) fun r728 =>
  bindS (kernel_from.f x1.Shape r728) fun r741 =>
  if 0 ≤ r741 ∧ r741 < (x1.Data.length : Int) then (bindS (kernel_from.f x2.Shape r728) fun r743 =>
  if 0 ≤ r743 ∧ r743 < (x2.Data.length : Int) then (bindS (kernel_two_3.f (rd x1.Data r741) (rd x2.Data r743)) fun r745 =>
  if 0 ≤ s716.1 ∧ s716.1 < (s716.2.length : Int) then (.next ((w64 (s716.1 + 1)), (put s716.2 s716.1 r745)))
  else .bad)
  else .bad)
  else .bad)
  else (.done (s716.1, s716.2))
noncomputable def kernel_Two.l3 (r984 : (Tensor × Int)) (r968 : ((List Int) × Int)) (x1 : Tensor) (x2 : Tensor) (s1013 : (Int × (List Nat))) : Step (Int × (List Nat)) (Int × (List Nat)) :=
  if s1013.1 < (r984.1.Data.length : Int) then (bindS (shape_Place.f r968.1 s1013.1) fun r1025 =>
  bindS (kernel_from.f x1.Shape r1025) fun r1038 =>
  if 0 ≤ r1038 ∧ r1038 < (x1.Data.length : Int) then (bindS (kernel_from.f x2.Shape r1025) fun r1040 =>
  if 0 ≤ r1040 ∧ r1040 < (x2.Data.length : Int) then (bindS (kernel_two_4.f (rd x1.Data r1038) (rd x2.Data r1040)) fun r1042 =>
  if 0 ≤ s1013.1 ∧ s1013.1 < (s1013.2.length : Int) then (.next ((w64 (s1013.1 + 1)), (put s1013.2 s1013.1 r1042)))
  else .bad)
  else .bad)
  else .bad)
  else (.done (s1013.1, s1013.2))
noncomputable def kernel_Two.f (x0 : Int) (x1 : Tensor) (x2 : Tensor) : Option (Tensor × Int) :=
  if x0 = 4 then ((tensor_May.f x1).bind fun r56 =>
  if r56 = true then ((tensor_May.f x2).bind fun r58 =>
  if r58 = true then ((shape_Spread.f x1.Shape x2.Shape).bind fun r77 =>
  if r77.2 = 0 then ((tensor_New.f r77.1 0).bind fun r93 =>
  (loop (kernel_Two.l0 r93 r77 x1 x2) (0, r93.1.Data)).bind fun r123 =>
  some ((⟨r93.1.Shape, r123.2⟩ : Tensor), 0))
  else (some ((⟨([] : (List Int)), ([] : (List Nat))⟩ : Tensor), r77.2)))
  else (some ((⟨([] : (List Int)), ([] : (List Nat))⟩ : Tensor), 2)))
  else (some ((⟨([] : (List Int)), ([] : (List Nat))⟩ : Tensor), 2)))
  else (if x0 = 5 then ((tensor_May.f x1).bind fun r354 =>
  if r354 = true then ((tensor_May.f x2).bind fun r356 =>
  if r356 = true then ((shape_Spread.f x1.Shape x2.Shape).bind fun r374 =>
  if r374.2 = 0 then ((tensor_New.f r374.1 0).bind fun r390 =>
  (loop (kernel_Two.l1 r390 r374 x1 x2) (0, r390.1.Data)).bind fun r420 =>
  some ((⟨r390.1.Shape, r420.2⟩ : Tensor), 0))
  else (some ((⟨([] : (List Int)), ([] : (List Nat))⟩ : Tensor), r374.2)))
  else (some ((⟨([] : (List Int)), ([] : (List Nat))⟩ : Tensor), 2)))
  else (some ((⟨([] : (List Int)), ([] : (List Nat))⟩ : Tensor), 2)))
  else (if x0 = 6 then ((tensor_May.f x1).bind fun r651 =>
  if r651 = true then ((tensor_May.f x2).bind fun r653 =>
  if r653 = true then ((shape_Spread.f x1.Shape x2.Shape).bind fun r671 =>
  if r671.2 = 0 then ((tensor_New.f r671.1 0).bind fun r687 =>
  (loop (kernel_Two.l2 r687 r671 x1 x2) (0, r687.1.Data)).bind fun r717 =>
  some ((⟨r687.1.Shape, r717.2⟩ : Tensor), 0))
  else (some ((⟨([] : (List Int)), ([] : (List Nat))⟩ : Tensor), r671.2)))
  else (some ((⟨([] : (List Int)), ([] : (List Nat))⟩ : Tensor), 2)))
  else (some ((⟨([] : (List Int)), ([] : (List Nat))⟩ : Tensor), 2)))
  else (if x0 = 7 then ((tensor_May.f x1).bind fun r948 =>
  if r948 = true then ((tensor_May.f x2).bind fun r950 =>
  if r950 = true then ((shape_Spread.f x1.Shape x2.Shape).bind fun r968 =>
  if r968.2 = 0 then ((tensor_New.f r968.1 0).bind fun r984 =>
  (loop (kernel_Two.l3 r984 r968 x1 x2) (0, r984.1.Data)).bind fun r1014 =>
  some ((⟨r984.1.Shape, r1014.2⟩ : Tensor), 0))
  else (some ((⟨([] : (List Int)), ([] : (List Nat))⟩ : Tensor), r968.2)))
  else (some ((⟨([] : (List Int)), ([] : (List Nat))⟩ : Tensor), 2)))
  else (some ((⟨([] : (List Int)), ([] : (List Nat))⟩ : Tensor), 2)))
  else (some ((⟨([] : (List Int)), ([] : (List Nat))⟩ : Tensor), 4)))))
set_option maxRecDepth 100000 in
set_option maxHeartbeats 4000000 in
theorem kernel_Two.calls (M : List (Option Nat)) (w0 : World) (x0 : Int) (x1 : Tensor) (A1_0 : Option Addr) (n1_0 c1_0 : Nat) (e1_0 : n1_0 = x1.Shape.length) (A1_1 : Option Addr) (n1_1 c1_1 : Nat) (e1_1 : n1_1 = x1.Data.length) (x2 : Tensor) (A2_0 : Option Addr) (n2_0 c2_0 : Nat) (e2_0 : n2_0 = x2.Shape.length) (A2_1 : Option Addr) (n2_1 c2_1 : Nat) (e2_1 : n2_1 = x2.Data.length) (hm0 : Mem [] M w0 [.sl (Kd.int .i64) A1_0 c1_0 x1.Shape, .sl Kd.float A1_1 c1_1 x1.Data, .sl (Kd.int .i64) A2_0 c2_0 x2.Shape, .sl Kd.float A2_1 c2_1 x2.Data] w0) (r : (Tensor × Int)) (H0 : kernel_Two.f x0 x1 x2 = some r) :
    Calls Try.prog 36 [.int .i64 x0, .agg #[.slice A1_0 n1_0 c1_0, .slice A1_1 n1_1 c1_1], .agg #[.slice A2_0 n2_0 c2_0, .slice A2_1 n2_1 c2_1]].toArray w0 (fun x w' => ∃ v, x = .returned v ∧ ∃ Ar0_0 cr0_0 Ar0_1 cr0_1, v = .tuple #[.agg #[.slice Ar0_0 r.1.Shape.length cr0_0, .slice Ar0_1 r.1.Data.length cr0_1], .int .i64 r.2] ∧ Mem [] M w0 [.ow (Kd.int .i64) 3 Ar0_0 cr0_0 r.1.Shape, .ow Kd.float 26 Ar0_1 cr0_1 r.1.Data] w') := by
  subst e1_0
  subst e1_1
  subst e2_0
  subst e2_1
  unfold kernel_Two.f at H0
  refine enter (n := 81) Try.func36 rfl rfl (by kernel_rfl) fun a0 (hf0 : Fr 81 a0 [(0, .int .i64 x0), (1, .agg #[.slice A1_0 x1.Shape.length c1_0, .slice A1_1 x1.Data.length c1_1]), (2, .agg #[.slice A2_0 x2.Shape.length c2_0, .slice A2_1 x2.Data.length c2_1])]) => ?_
  refine wp_seq ?_
  refine inReg ?_
  refine lo hf0 rfl (nw (cs := [.slice A1_0 x1.Shape.length c1_0, .slice A1_1 x1.Data.length c1_1]) (T := 29) (d := 4) hf0 ?_)
  intro b21 w22 a23 hbb21 hx25 hg26 hf24
  have hm27 := hm0.box hbb21 hx25 hg26
  refine lo hf24 rfl (nw (cs := [.slice A2_0 x2.Shape.length c2_0, .slice A2_1 x2.Data.length c2_1]) (T := 29) (d := 5) hf24 ?_)
  intro b28 w29 a30 hbb28 hx32 hg33 hf31
  have hm34 := hm27.box hbb28 hx32 hg33
  refine lo hf31 rfl (nw (cs := [.slice none 0 0, .slice none 0 0]) (T := 29) (d := 6) hf31 ?_)
  intro b35 w36 a37 hbb35 hx39 hg40 hf38
  have hm41 := hm34.box hbb35 hx39 hg40
  refine gg 1 [] [(0, vi x0), (4, vp b21), (5, vp b28), (6, vp b35)] hf38 ot fun a42 hf43 => ?_
  refine endL rfl ?_
  refine thenN ?_
  refine wp_seq ?_
  rcases if_split H0 with ⟨c44, H0⟩ | ⟨c44, H0⟩
  · refine inReg ?_
    refine gg 1 [] [(4, vp b21), (5, vp b28), (6, vp b35), (15, vi x0)] hf43 ot fun a45 hf46 => ?_
    refine lo hf46 rfl (cl 16 hf46 callable49 (kernel_two.calls0 _ _ x0 (hm41.give [] [] rfl rfl) c44) ?_)
    rintro _ w47 a48 ⟨rfl, hk50⟩ hf49
    have hm51 := hm41.still hk50.cum.none
    refine gg 1 [] [(4, vp b21), (5, vp b28), (6, vp b35), (8, .func (.func 61) #[] #[])] hf49 ot fun a52 hf53 => ?_
    refine endL rfl ?_
    refine thenN ?_
    refine wp_seq ?_
    refine wp_block ?_
    refine wp_seq ?_
    refine rg [] [(4, vp b21), (5, vp b28), (6, vp b35), (8, .func (.func 61) #[] #[]), (17, .bool false)] hf53 ot fun a54 hf55 => ?_
    refine thenN ?_
    refine cF hf55 ?_
    refine wp_seq ?_
    obtain ⟨r56, hr56, H0⟩ := ob_split H0
    rcases ifb_split H0 with ⟨c57, H0⟩ | ⟨c57, H0⟩
    rotate_left
    · refine inReg ?_
      refine gg 1 [.agg #[.slice A1_0 x1.Shape.length c1_0, .slice A1_1 x1.Data.length c1_1]] [(4, vp b21), (5, vp b28), (6, vp b35), (8, .func (.func 61) #[] #[]), (22, .agg #[.slice A1_0 x1.Shape.length c1_0, .slice A1_1 x1.Data.length c1_1])] hf55 (oc (hm51.cell (j := 0) 2 rfl rfl) (oc (hm51.cell (j := 1) 2 rfl rfl) ot)) fun a320 hf321 => ?_
      refine lo hf321 rfl (cl 23 hf321 callable32 (tensor_May.calls _ _ _ _ _ _ rfl _ _ _ rfl (hm51.give [3, 4] [.sl (Kd.int .i64) A1_0 c1_0 x1.Shape, .sl Kd.float A1_1 c1_1 x1.Data] rfl rfl) r56 hr56) ?_)
      rintro _ w322 a323 ⟨rfl, hk325⟩ hf324
      have hm326 := hm51.still hk325.cum.none
      rw [c57] at hf324
      refine gg 7 [] [(4, vp b21), (5, vp b28), (6, vp b35), (8, .func (.func 61) #[] #[]), (21, .bool true)] hf324 ot fun a327 hf328 => ?_
      refine endL rfl ?_
      refine thenN ?_
      refine cT hf328 ?_
      refine wp_seq ?_
      refine inReg ?_
      refine gg 1 [] [(6, vp b35), (30, .agg #[.slice none 0 0, .slice none 0 0])] hf328 ot fun a329 hf330 => ?_
      refine lo hf330 rfl (sb (j := 0) (us := [.slice none 0 0, .slice none 0 0]) (cs' := [.slice none 0 0, .slice none 0 0]) hf330 (hm326.bxAt 0 rfl) ?_)
      intro w331 hx332 hg333
      have hm334 := hm326.setBox 0 _ rfl rfl hx332 hg333
      refine gg 1 [] [(6, vp b35), (7, vi 2)] hf330 ot fun a335 hf336 => ?_
      refine endL rfl ?_
      have hm337 := hm334.se [0] _ rfl
      refine thenN ?_
      refine wp_ret ?_
      refine blkR ?_
      refine thenR ?_
      have hm338 := hm337.nilOw (Kd.int .i64) 3
      have hm339 := hm338.nilOw Kd.float 26
      have hm340 : Mem [] M w0 [.ow (Kd.int .i64) 3 none 0 ([] : (List Int)), .ow Kd.float 26 none 0 ([] : (List Nat))] w331 := hm339.se [1, 0] _ rfl
      obtain rfl := Option.some.inj H0
      refine rt [.agg #[.slice none 0 0, .slice none 0 0]] [.agg #[.slice none 0 0, .slice none 0 0], .int .i64 2] hf336 (oc (hm337.cell (j := 0) 0 rfl rfl) (oc (hm337.cell (j := 1) 0 rfl rfl) ot)) ?_
      exact ⟨_, rfl, none, 0, none, 0, rfl, hm340⟩
    obtain ⟨r58, hr58, H0⟩ := ob_split H0
    rcases ifb_split H0 with ⟨c59, H0⟩ | ⟨c59, H0⟩
    rotate_left
    · refine inReg ?_
      refine gg 1 [.agg #[.slice A1_0 x1.Shape.length c1_0, .slice A1_1 x1.Data.length c1_1]] [(4, vp b21), (5, vp b28), (6, vp b35), (8, .func (.func 61) #[] #[]), (22, .agg #[.slice A1_0 x1.Shape.length c1_0, .slice A1_1 x1.Data.length c1_1])] hf55 (oc (hm51.cell (j := 0) 2 rfl rfl) (oc (hm51.cell (j := 1) 2 rfl rfl) ot)) fun a291 hf292 => ?_
      refine lo hf292 rfl (cl 23 hf292 callable32 (tensor_May.calls _ _ _ _ _ _ rfl _ _ _ rfl (hm51.give [3, 4] [.sl (Kd.int .i64) A1_0 c1_0 x1.Shape, .sl Kd.float A1_1 c1_1 x1.Data] rfl rfl) r56 hr56) ?_)
      rintro _ w293 a294 ⟨rfl, hk296⟩ hf295
      have hm297 := hm51.still hk296.cum.none
      rw [c57] at hf295
      refine gg 3 [.agg #[.slice A2_0 x2.Shape.length c2_0, .slice A2_1 x2.Data.length c2_1]] [(4, vp b21), (5, vp b28), (6, vp b35), (8, .func (.func 61) #[] #[]), (25, .bool false), (26, .agg #[.slice A2_0 x2.Shape.length c2_0, .slice A2_1 x2.Data.length c2_1])] hf295 (oc (hm297.cell (j := 0) 1 rfl rfl) (oc (hm297.cell (j := 1) 1 rfl rfl) ot)) fun a298 hf299 => ?_
      refine lo hf299 rfl (cl 27 hf299 callable32 (tensor_May.calls _ _ _ _ _ _ rfl _ _ _ rfl (hm297.give [5, 6] [.sl (Kd.int .i64) A2_0 c2_0 x2.Shape, .sl Kd.float A2_1 c2_1 x2.Data] rfl rfl) r58 hr58) ?_)
      rintro _ w300 a301 ⟨rfl, hk303⟩ hf302
      have hm304 := hm297.still hk303.cum.none
      rw [c59] at hf302
      refine gg 3 [] [(4, vp b21), (5, vp b28), (6, vp b35), (8, .func (.func 61) #[] #[]), (21, .bool true)] hf302 ot fun a305 hf306 => ?_
      refine endL rfl ?_
      refine thenN ?_
      refine cT hf306 ?_
      refine wp_seq ?_
      refine inReg ?_
      refine gg 1 [] [(6, vp b35), (30, .agg #[.slice none 0 0, .slice none 0 0])] hf306 ot fun a307 hf308 => ?_
      refine lo hf308 rfl (sb (j := 0) (us := [.slice none 0 0, .slice none 0 0]) (cs' := [.slice none 0 0, .slice none 0 0]) hf308 (hm304.bxAt 0 rfl) ?_)
      intro w309 hx310 hg311
      have hm312 := hm304.setBox 0 _ rfl rfl hx310 hg311
      refine gg 1 [] [(6, vp b35), (7, vi 2)] hf308 ot fun a313 hf314 => ?_
      refine endL rfl ?_
      have hm315 := hm312.se [0] _ rfl
      refine thenN ?_
      refine wp_ret ?_
      refine blkR ?_
      refine thenR ?_
      have hm316 := hm315.nilOw (Kd.int .i64) 3
      have hm317 := hm316.nilOw Kd.float 26
      have hm318 : Mem [] M w0 [.ow (Kd.int .i64) 3 none 0 ([] : (List Int)), .ow Kd.float 26 none 0 ([] : (List Nat))] w309 := hm317.se [1, 0] _ rfl
      obtain rfl := Option.some.inj H0
      refine rt [.agg #[.slice none 0 0, .slice none 0 0]] [.agg #[.slice none 0 0, .slice none 0 0], .int .i64 2] hf314 (oc (hm315.cell (j := 0) 0 rfl rfl) (oc (hm315.cell (j := 1) 0 rfl rfl) ot)) ?_
      exact ⟨_, rfl, none, 0, none, 0, rfl, hm318⟩
    refine inReg ?_
    refine gg 1 [.agg #[.slice A1_0 x1.Shape.length c1_0, .slice A1_1 x1.Data.length c1_1]] [(4, vp b21), (5, vp b28), (6, vp b35), (8, .func (.func 61) #[] #[]), (22, .agg #[.slice A1_0 x1.Shape.length c1_0, .slice A1_1 x1.Data.length c1_1])] hf55 (oc (hm51.cell (j := 0) 2 rfl rfl) (oc (hm51.cell (j := 1) 2 rfl rfl) ot)) fun a60 hf61 => ?_
    refine lo hf61 rfl (cl 23 hf61 callable32 (tensor_May.calls _ _ _ _ _ _ rfl _ _ _ rfl (hm51.give [3, 4] [.sl (Kd.int .i64) A1_0 c1_0 x1.Shape, .sl Kd.float A1_1 c1_1 x1.Data] rfl rfl) r56 hr56) ?_)
    rintro _ w62 a63 ⟨rfl, hk66⟩ hf65
    have hm67 := hm51.still hk66.cum.none
    rw [c57] at hf65
    refine gg 3 [.agg #[.slice A2_0 x2.Shape.length c2_0, .slice A2_1 x2.Data.length c2_1]] [(4, vp b21), (5, vp b28), (6, vp b35), (8, .func (.func 61) #[] #[]), (25, .bool false), (26, .agg #[.slice A2_0 x2.Shape.length c2_0, .slice A2_1 x2.Data.length c2_1])] hf65 (oc (hm67.cell (j := 0) 1 rfl rfl) (oc (hm67.cell (j := 1) 1 rfl rfl) ot)) fun a68 hf69 => ?_
    refine lo hf69 rfl (cl 27 hf69 callable32 (tensor_May.calls _ _ _ _ _ _ rfl _ _ _ rfl (hm67.give [5, 6] [.sl (Kd.int .i64) A2_0 c2_0 x2.Shape, .sl Kd.float A2_1 c2_1 x2.Data] rfl rfl) r58 hr58) ?_)
    rintro _ w70 a71 ⟨rfl, hk73⟩ hf72
    have hm74 := hm67.still hk73.cum.none
    rw [c59] at hf72
    refine gg 3 [] [(4, vp b21), (5, vp b28), (6, vp b35), (8, .func (.func 61) #[] #[]), (21, .bool false)] hf72 ot fun a75 hf76 => ?_
    refine endL rfl ?_
    refine thenN ?_
    refine cF hf76 ?_
    refine wp_skip ?_
    refine blkN ?_
    refine thenN ?_
    refine wp_seq ?_
    obtain ⟨r77, hr77, H0⟩ := ob_split H0
    refine inReg ?_
    refine gg 4 [.slice A1_0 x1.Shape.length c1_0, .slice A2_0 x2.Shape.length c2_0] [(4, vp b21), (5, vp b28), (6, vp b35), (8, .func (.func 61) #[] #[]), (33, .slice A1_0 x1.Shape.length c1_0), (35, .slice A2_0 x2.Shape.length c2_0)] hf76 (oc (hm74.cell (j := 0) 2 rfl rfl) (oc (hm74.cell (j := 0) 1 rfl rfl) ot)) fun a78 hf79 => ?_
    refine lo hf79 rfl (cl 36 hf79 callable50 (shape_Spread.calls _ _ _ _ _ _ rfl _ _ _ _ rfl (hm74.give [3, 5] [.sl (Kd.int .i64) A1_0 c1_0 x1.Shape, .sl (Kd.int .i64) A2_0 c2_0 x2.Shape] rfl rfl) r77 hr77) ?_)
    rintro _ w82 a83 ⟨A80, c81, rfl, hk85⟩ hf84
    have hm86 := hm74.back hk85
    have hm87 := hm86.seal 0 _ rfl rfl
    refine gg 5 [] [(4, vp b21), (5, vp b28), (6, vp b35), (8, .func (.func 61) #[] #[]), (9, .slice A80 r77.1.length c81), (10, vi r77.2)] hf84 ot fun a88 hf89 => ?_
    refine endL rfl ?_
    refine thenN ?_
    refine wp_seq ?_
    refine wp_seq ?_
    rcases if_split H0 with ⟨c90, H0⟩ | ⟨c90, H0⟩
    rotate_left
    · refine rg [.bool true] [(4, vp b21), (5, vp b28), (6, vp b35), (8, .func (.func 61) #[] #[]), (9, .slice A80 r77.1.length c81), (10, vi r77.2), (40, .bool true)] hf89 (oi (neT c90) ot) fun a276 hf277 => ?_
      refine thenN ?_
      refine cT hf277 ?_
      refine wp_seq ?_
      refine inReg ?_
      refine gg 2 [] [(6, vp b35), (41, .agg #[.slice none 0 0, .slice none 0 0]), (42, vi r77.2)] hf277 ot fun a278 hf279 => ?_
      refine lo hf279 rfl (sb (j := 0) (us := [.slice none 0 0, .slice none 0 0]) (cs' := [.slice none 0 0, .slice none 0 0]) hf279 (hm87.bxAt 1 rfl) ?_)
      intro w280 hx281 hg282
      have hm283 := hm87.setBox 1 _ rfl rfl hx281 hg282
      refine gg 1 [] [(6, vp b35), (7, vi r77.2)] hf279 ot fun a284 hf285 => ?_
      refine endL rfl ?_
      have hm286 := hm283.se [1] _ rfl
      refine thenN ?_
      refine wp_ret ?_
      refine thenR ?_
      have hm287 := hm286.nilOw (Kd.int .i64) 3
      have hm288 := hm287.nilOw Kd.float 26
      have hm289 : Mem [] M w0 [.ow (Kd.int .i64) 3 none 0 ([] : (List Int)), .ow Kd.float 26 none 0 ([] : (List Nat))] w280 := hm288.se [1, 0] _ rfl
      obtain rfl := Option.some.inj H0
      refine rt [.agg #[.slice none 0 0, .slice none 0 0]] [.agg #[.slice none 0 0, .slice none 0 0], .int .i64 r77.2] hf285 (oc (hm286.cell (j := 0) 0 rfl rfl) (oc (hm286.cell (j := 1) 0 rfl rfl) ot)) ?_
      exact ⟨_, rfl, none, 0, none, 0, rfl, hm289⟩
    refine rg [.bool false] [(4, vp b21), (5, vp b28), (6, vp b35), (8, .func (.func 61) #[] #[]), (9, .slice A80 r77.1.length c81), (10, vi r77.2), (40, .bool false)] hf89 (oi (neF c90) ot) fun a91 hf92 => ?_
    refine thenN ?_
    refine cF hf92 ?_
    refine wp_skip ?_
    refine thenN ?_
    refine wp_seq ?_
    obtain ⟨r93, hr93, H0⟩ := ob_split H0
    refine inReg ?_
    refine gg 1 [] [(4, vp b21), (5, vp b28), (6, vp b35), (8, .func (.func 61) #[] #[]), (9, .slice A80 r77.1.length c81), (44, .slice A80 r77.1.length c81)] hf92 ot fun a94 hf95 => ?_
    refine lo hf95 rfl (cl 45 hf95 callable47 (tensor_New.calls _ _ _ _ _ _ rfl 0 0 ((FR.lit (by kernel_rfl) (by kernel_rfl))) (hm87.give [0] [.sl (Kd.int .i64) A80 c81 r77.1] rfl rfl) r93 hr93) ?_)
    rintro _ w100 a101 ⟨A96, c97, A98, c99, rfl, hk103⟩ hf102
    have hm104 := hm87.back hk103
    refine gg 3 [] [(4, vp b21), (5, vp b28), (6, vp b35), (8, .func (.func 61) #[] #[]), (9, .slice A80 r77.1.length c81), (46, .agg #[.slice A96 r93.1.Shape.length c97, .slice A98 r93.1.Data.length c99]), (47, vi r93.2)] hf102 ot fun a105 hf106 => ?_
    refine lo hf106 rfl (nw (cs := [.slice none 0 0, .slice none 0 0]) (T := 29) (d := 11) hf106 ?_)
    intro b107 w108 a109 hbb107 hx111 hg112 hf110
    have hm113 := hm104.box hbb107 hx111 hg112
    refine lo hf110 rfl (sb (j := 0) (us := [.slice A96 r93.1.Shape.length c97, .slice A98 r93.1.Data.length c99]) (cs' := [.slice A96 r93.1.Shape.length c97, .slice A98 r93.1.Data.length c99]) hf110 (hm113.bxAt 0 rfl) ?_)
    intro w114 hx115 hg116
    have hm117 := hm113.setBox 0 _ rfl rfl hx115 hg116
    refine gg 1 [] [(4, vp b21), (5, vp b28), (6, vp b35), (8, .func (.func 61) #[] #[]), (9, .slice A80 r77.1.length c81), (11, vp b107)] hf110 ot fun a118 hf119 => ?_
    refine endL rfl ?_
    refine thenN ?_
    refine wp_seq ?_
    refine wp_seq ?_
    refine rg [.slice A98 r93.1.Data.length c99] [(4, vp b21), (5, vp b28), (6, vp b35), (8, .func (.func 61) #[] #[]), (9, .slice A80 r77.1.length c81), (11, vp b107), (50, vi (r93.1.Data.length : Int)), (51, vi 0)] hf119 (oc (hm117.cell (j := 1) 0 rfl rfl) ot) fun a120 hf121 => ?_
    refine thenN ?_
    obtain ⟨r123, hr123, H0⟩ := ob_split H0
    refine wpBlock (Mid := fun (a : Act) (w : World) => Fr 81 a [(4, .pointer (some ⟨b21, 0, none⟩)), (5, .pointer (some ⟨b28, 0, none⟩)), (6, .pointer (some ⟨b35, 0, none⟩)), (8, .func (.func 61) #[] #[]), (9, .slice A80 r77.1.length c81), (11, .pointer (some ⟨b107, 0, none⟩)), (50, .int .i64 (r93.1.Data.length : Int)), (51, .int .i64 r123.1)] ∧ Mem [] M w0 [.bx b107 [.slice A96 r93.1.Shape.length c97, .slice A98 r123.2.length c99] 29, .ow (Kd.int .i64) 3 A96 c97 r93.1.Shape, .ow Kd.float 26 A98 c99 r123.2, .sl (Kd.int .i64) A80 c81 r77.1, .bx b35 [.slice none 0 0, .slice none 0 0] 29, .bx b28 [.slice A2_0 x2.Shape.length c2_0, .slice A2_1 x2.Data.length c2_1] 29, .bx b21 [.slice A1_0 x1.Shape.length c1_0, .slice A1_1 x1.Data.length c1_1] 29, .sl (Kd.int .i64) A1_0 c1_0 x1.Shape, .sl Kd.float A1_1 c1_1 x1.Data, .sl (Kd.int .i64) A2_0 c2_0 x2.Shape, .sl Kd.float A2_1 c2_1 x2.Data] w) ?_ ?_
    · refine wpLoop (kernel_Two.l0 r93 r77 x1 x2) r123 (fun (s122 : (Int × (List Nat))) (a : Act) (w : World) => Fr 81 a [(4, .pointer (some ⟨b21, 0, none⟩)), (5, .pointer (some ⟨b28, 0, none⟩)), (6, .pointer (some ⟨b35, 0, none⟩)), (8, .func (.func 61) #[] #[]), (9, .slice A80 r77.1.length c81), (11, .pointer (some ⟨b107, 0, none⟩)), (50, .int .i64 (r93.1.Data.length : Int)), (51, .int .i64 s122.1)] ∧ Mem [] M w0 [.bx b107 [.slice A96 r93.1.Shape.length c97, .slice A98 s122.2.length c99] 29, .ow (Kd.int .i64) 3 A96 c97 r93.1.Shape, .ow Kd.float 26 A98 c99 s122.2, .sl (Kd.int .i64) A80 c81 r77.1, .bx b35 [.slice none 0 0, .slice none 0 0] 29, .bx b28 [.slice A2_0 x2.Shape.length c2_0, .slice A2_1 x2.Data.length c2_1] 29, .bx b21 [.slice A1_0 x1.Shape.length c1_0, .slice A1_1 x1.Data.length c1_1] 29, .sl (Kd.int .i64) A1_0 c1_0 x1.Shape, .sl Kd.float A1_1 c1_1 x1.Data, .sl (Kd.int .i64) A2_0 c2_0 x2.Shape, .sl Kd.float A2_1 c2_1 x2.Data] w) (0, r93.1.Data) hr123 ⟨hf121.se [4, 5, 6, 8, 9, 11, 50, 51], hm117.se [0, 1, 2, 3, 4, 5, 6, 7, 8, 9, 10] _ rfl⟩ ?_
      rintro g124 s122 a125 w126 H1 ⟨hf127, hm128⟩
      unfold kernel_Two.l0 at H1
      refine wp_seq ?_
      rcases ifS_split H1 with ⟨c129, H1⟩ | ⟨c129, H1⟩
      rotate_left
      · refine rg (ob := [.is (decide (s122.1 < (r93.1.Data.length : Int)) = false)]) [.bool false] [(4, vp b21), (5, vp b28), (6, vp b35), (8, .func (.func 61) #[] #[]), (9, .slice A80 r77.1.length c81), (11, vp b107), (50, vi (r93.1.Data.length : Int)), (51, vi s122.1), (52, .bool false)] hf127 ⟨(decide_eq_false c129), trivial⟩ fun a259 hf260 => ?_
        refine thenN ?_
        refine wp_seq ?_
        refine cF hf260 ?_
        refine wp_exit ?_
        refine thenE ?_
        refine thenE ?_
        obtain rfl := Option.some.inj H1
        exact .inl ⟨rfl, hf260.se [4, 5, 6, 8, 9, 11, 50, 51], hm128.se [0, 1, 2, 3, 4, 5, 6, 7, 8, 9, 10] _ rfl⟩
      refine rg (ob := [.is (decide (s122.1 < (r93.1.Data.length : Int)) = true)]) [.bool true] [(4, vp b21), (5, vp b28), (6, vp b35), (8, .func (.func 61) #[] #[]), (9, .slice A80 r77.1.length c81), (11, vp b107), (50, vi (r93.1.Data.length : Int)), (51, vi s122.1), (52, .bool true)] hf127 ⟨(decide_eq_true c129), trivial⟩ fun a130 hf131 => ?_
      refine thenN ?_
      refine wp_seq ?_
      refine cT hf131 ?_
      refine wp_skip ?_
      refine thenN ?_
      refine wp_seq ?_
      refine wp_block ?_
      refine wp_seq ?_
      refine rg [] [(4, vp b21), (5, vp b28), (6, vp b35), (8, .func (.func 61) #[] #[]), (9, .slice A80 r77.1.length c81), (11, vp b107), (13, vi s122.1), (50, vi (r93.1.Data.length : Int)), (51, vi s122.1)] hf131 ot fun a132 hf133 => ?_
      refine thenN ?_
      refine wp_seq ?_
      obtain ⟨r134, hr134, H1⟩ := obS_split H1
      refine inReg ?_
      refine gg 2 [] [(4, vp b21), (5, vp b28), (6, vp b35), (8, .func (.func 61) #[] #[]), (9, .slice A80 r77.1.length c81), (11, vp b107), (13, vi s122.1), (50, vi (r93.1.Data.length : Int)), (51, vi s122.1), (54, .slice A80 r77.1.length c81), (55, vi s122.1)] hf133 ot fun a135 hf136 => ?_
      refine lo hf136 rfl (cl 56 hf136 callable51 (shape_Place.calls _ _ _ _ _ _ rfl s122.1 (hm128.give [3] [.sl (Kd.int .i64) A80 c81 r77.1] rfl rfl) r134 hr134) ?_)
      rintro _ w139 a140 ⟨A137, c138, rfl, hk142⟩ hf141
      have hm143 := hm128.back hk142
      have hm144 := hm143.seal 0 _ rfl rfl
      refine gg 1 [] [(4, vp b21), (5, vp b28), (6, vp b35), (8, .func (.func 61) #[] #[]), (9, .slice A80 r77.1.length c81), (11, vp b107), (13, vi s122.1), (14, .slice A137 r134.length c138), (50, vi (r93.1.Data.length : Int)), (51, vi s122.1)] hf141 ot fun a145 hf146 => ?_
      refine endL rfl ?_
      refine thenN ?_
      obtain ⟨r147, hr147, H1⟩ := obS_split H1
      obtain ⟨g148, H1⟩ := ifS_guard H1
      obtain ⟨r149, hr149, H1⟩ := obS_split H1
      obtain ⟨g150, H1⟩ := ifS_guard H1
      obtain ⟨r151, hr151, H1⟩ := obS_split H1
      obtain ⟨g152, H1⟩ := ifS_guard H1
      refine midReg (fun (a : Act) (w : World) => Fr 81 a [(4, .pointer (some ⟨b21, 0, none⟩)), (5, .pointer (some ⟨b28, 0, none⟩)), (6, .pointer (some ⟨b35, 0, none⟩)), (8, .func (.func 61) #[] #[]), (9, .slice A80 r77.1.length c81), (11, .pointer (some ⟨b107, 0, none⟩)), (50, .int .i64 (r93.1.Data.length : Int)), (51, .int .i64 s122.1)] ∧ Mem [] M w0 [.bx b107 [.slice A96 r93.1.Shape.length c97, .slice A98 s122.2.length c99] 29, .ow (Kd.int .i64) 3 A96 c97 r93.1.Shape, .ow Kd.float 26 A98 c99 (put s122.2 s122.1 r151), .sl (Kd.int .i64) A80 c81 r77.1, .bx b35 [.slice none 0 0, .slice none 0 0] 29, .bx b28 [.slice A2_0 x2.Shape.length c2_0, .slice A2_1 x2.Data.length c2_1] 29, .bx b21 [.slice A1_0 x1.Shape.length c1_0, .slice A1_1 x1.Data.length c1_1] 29, .sl (Kd.int .i64) A1_0 c1_0 x1.Shape, .sl Kd.float A1_1 c1_1 x1.Data, .sl (Kd.int .i64) A2_0 c2_0 x2.Shape, .sl Kd.float A2_1 c2_1 x2.Data] w) ?_ ?_
      · refine anyG (K := []) [22] (by kernel_rfl) fun w180 hg181 => ?_
        have hm182 := hm144.still hg181
        refine qt [0, 1, 2, 3, 4, 5, 6, 7, 8, 12, 13, 14, 15, 16] [.slice A98 s122.2.length c99, .slice A1_1 x1.Data.length c1_1, .slice A1_0 x1.Shape.length c1_0, .slice A2_1 x2.Data.length c2_1, .slice A2_0 x2.Shape.length c2_0] (fb 23 127487) [(4, vp b21), (5, vp b28), (6, vp b35), (8, .func (.func 61) #[] #[]), (9, .slice A80 r77.1.length c81), (11, vp b107), (50, vi (r93.1.Data.length : Int)), (51, vi s122.1), (58, .slice A98 s122.2.length c99), (59, vi s122.1), (60, .func (.func 61) #[] #[]), (62, .slice A1_1 x1.Data.length c1_1), (64, .slice A1_0 x1.Shape.length c1_0), (65, .slice A137 r134.length c138), (70, .slice A2_1 x2.Data.length c2_1), (72, .slice A2_0 x2.Shape.length c2_0), (73, .slice A137 r134.length c138)] 9 hf146 (oc (hm182.cell (j := 1) 1 rfl rfl) (oc (hm182.cell (j := 1) 7 rfl rfl) (oc (hm182.cell (j := 0) 7 rfl rfl) (oc (hm182.cell (j := 1) 6 rfl rfl) (oc (hm182.cell (j := 0) 6 rfl rfl) ot))))) fun a217 hf218 => ?_
        refine a1 9 ?_
        refine oo hf218 rfl (cl 66 hf218 callable52 (kernel_from.calls _ _ _ _ _ _ rfl _ _ _ _ rfl (hm182.give [8, 0] [.sl (Kd.int .i64) A1_0 c1_0 x1.Shape, .sl (Kd.int .i64) A137 c138 r134] rfl rfl) r147 hr147) ?_)
        rintro _ w219 a220 ⟨rfl, hk222⟩ hf221
        refine ⟨.inr (Gr.still hk222.cum.none), ?_⟩
        have hm223 := hm182.still hk222.cum.none
        have q224 := (hm223.slAt 9 rfl).float r147 g148.1 g148.2
        obtain ⟨b225, hb225, kb225⟩ := q224.2
        refine qt [10, 11] [.float .f64 b225] (fb 23 131071) [(4, vp b21), (5, vp b28), (6, vp b35), (8, .func (.func 61) #[] #[]), (9, .slice A80 r77.1.length c81), (11, vp b107), (50, vi (r93.1.Data.length : Int)), (51, vi s122.1), (58, .slice A98 s122.2.length c99), (59, vi s122.1), (60, .func (.func 61) #[] #[]), (68, vf b225), (70, .slice A2_1 x2.Data.length c2_1), (72, .slice A2_0 x2.Shape.length c2_0), (73, .slice A137 r134.length c138)] 6 hf221 (oi q224.1 (oi g148 (oc kb225 ot))) fun a226 hf227 => ?_
        refine a1 17 ?_
        refine oo hf227 rfl (cl 74 hf227 callable52 (kernel_from.calls _ _ _ _ _ _ rfl _ _ _ _ rfl (hm223.give [10, 0] [.sl (Kd.int .i64) A2_0 c2_0 x2.Shape, .sl (Kd.int .i64) A137 c138 r134] rfl rfl) r149 hr149) ?_)
        rintro _ w228 a229 ⟨rfl, hk231⟩ hf230
        refine ⟨.inr (Gr.still hk231.cum.none), ?_⟩
        have hm232 := hm223.still hk231.cum.none
        have q233 := (hm232.slAt 11 rfl).float r149 g150.1 g150.2
        obtain ⟨b234, hb234, kb234⟩ := q233.2
        refine qt [18, 19] [.float .f64 b234] (fb 23 1048575) [(4, vp b21), (5, vp b28), (6, vp b35), (8, .func (.func 61) #[] #[]), (9, .slice A80 r77.1.length c81), (11, vp b107), (50, vi (r93.1.Data.length : Int)), (51, vi s122.1), (58, .slice A98 s122.2.length c99), (59, vi s122.1), (60, .func (.func 61) #[] #[]), (68, vf b225), (76, vf b234)] 3 hf230 (oi q233.1 (oi g150 (oc kb234 ot))) fun a235 hf236 => ?_
        refine a1 20 ?_
        refine oo hf236 rfl (cl 77 hf236 callable61 (kernel_two_1.calls _ _ (rd x1.Data r147) b225 hb225 (rd x2.Data r149) b234 hb234 (hm232.give [] [] rfl rfl) r151 hr151) ?_)
        rintro _ w238 a239 ⟨b237, rfl, hb237, hk241⟩ hf240
        refine ⟨.inr (Gr.still hk241.cum.none), ?_⟩
        have hm242 := hm232.still hk241.cum.none
        have q243 := (hm242.owAt 3 rfl).float s122.1 g152.1 g152.2
        obtain ⟨b244, hb244, kb244⟩ := q243.2
        refine qt [21] [] (fb 23 4194303) [(4, vp b21), (5, vp b28), (6, vp b35), (8, .func (.func 61) #[] #[]), (9, .slice A80 r77.1.length c81), (11, vp b107), (50, vi (r93.1.Data.length : Int)), (51, vi s122.1), (77, vf b237), (78, .pointer (some ((ad A98).add ((s122.1).toNat * 1))))] 1 hf240 (oi q243.1 (oi g152 ot)) fun a245 hf246 => ?_
        refine a1 22 ?_
        refine oo hf246 rfl (so (i := s122.1) (x := r151) (us := [.float .f64 b237]) (sz := 1) hf246 (hm242.at 3 rfl) ⟨_, rfl, hb237⟩ g152.1 g152.2 ?_)
        intro w247 hx248 hg249
        refine ⟨.inl (by decide), ?_⟩
        have hm250 := hm242.setOwn 3 _ rfl rfl hx248 hg249 (.inl rfl)
        refine aD ⟨rfl, hf246.se [4, 5, 6, 8, 9, 11, 50, 51], hm250.se [1, 2, 3, 4, 5, 6, 7, 8, 9, 10, 11] _ rfl⟩
      rintro a251 w252 ⟨hf253, hm254⟩
      refine blkN ?_
      refine thenN ?_
      refine rg [] [(4, vp b21), (5, vp b28), (6, vp b35), (8, .func (.func 61) #[] #[]), (9, .slice A80 r77.1.length c81), (11, vp b107), (50, vi (r93.1.Data.length : Int)), (51, vi (w64 (s122.1 + 1)))] hf253 ot fun a255 hf256 => ?_
      have hf257 : Fr 81 a255 [(4, .pointer (some ⟨b21, 0, none⟩)), (5, .pointer (some ⟨b28, 0, none⟩)), (6, .pointer (some ⟨b35, 0, none⟩)), (8, .func (.func 61) #[] #[]), (9, .slice A80 r77.1.length c81), (11, .pointer (some ⟨b107, 0, none⟩)), (50, .int .i64 (r93.1.Data.length : Int)), (51, .int .i64 (w64 (s122.1 + 1)))] := hf256.se [4, 5, 6, 8, 9, 11, 50, 51]
      have hm258 : Mem [] M w0 [.bx b107 [.slice A96 r93.1.Shape.length c97, .slice A98 s122.2.length c99] 29, .ow (Kd.int .i64) 3 A96 c97 r93.1.Shape, .ow Kd.float 26 A98 c99 (put s122.2 s122.1 r151), .sl (Kd.int .i64) A80 c81 r77.1, .bx b35 [.slice none 0 0, .slice none 0 0] 29, .bx b28 [.slice A2_0 x2.Shape.length c2_0, .slice A2_1 x2.Data.length c2_1] 29, .bx b21 [.slice A1_0 x1.Shape.length c1_0, .slice A1_1 x1.Data.length c1_1] 29, .sl (Kd.int .i64) A1_0 c1_0 x1.Shape, .sl Kd.float A1_1 c1_1 x1.Data, .sl (Kd.int .i64) A2_0 c2_0 x2.Shape, .sl Kd.float A2_1 c2_1 x2.Data] w252 := hm254.se [0, 1, 2, 3, 4, 5, 6, 7, 8, 9, 10] _ rfl
      exact ⟨((w64 (s122.1 + 1)), (put s122.2 s122.1 r151)), H1, (by simpa only [put_length, List.length_nil] using hf257), (by simpa only [put_length, List.length_nil] using hm258)⟩
    rintro a261 w262 ⟨hf263, hm264⟩
    refine thenN ?_
    refine wp_seq ?_
    refine inReg ?_
    refine gg 1 [.agg #[.slice A96 r93.1.Shape.length c97, .slice A98 r123.2.length c99]] [(6, vp b35), (80, .agg #[.slice A96 r93.1.Shape.length c97, .slice A98 r123.2.length c99])] hf263 (oc (hm264.cell (j := 0) 0 rfl rfl) (oc (hm264.cell (j := 1) 0 rfl rfl) ot)) fun a265 hf266 => ?_
    refine lo hf266 rfl (sb (j := 0) (us := [.slice A96 r93.1.Shape.length c97, .slice A98 r123.2.length c99]) (cs' := [.slice A96 r93.1.Shape.length c97, .slice A98 r123.2.length c99]) hf266 (hm264.bxAt 4 rfl) ?_)
    intro w267 hx268 hg269
    have hm270 := hm264.setBox 4 _ rfl rfl hx268 hg269
    refine gg 1 [] [(6, vp b35), (7, vi 0)] hf266 ot fun a271 hf272 => ?_
    refine endL rfl ?_
    have hm273 := hm270.se [1, 2, 4] _ rfl
    refine thenN ?_
    refine wp_ret ?_
    have hm274 : Mem [] M w0 [.ow (Kd.int .i64) 3 A96 c97 r93.1.Shape, .ow Kd.float 26 A98 c99 r123.2] w267 := hm273.se [0, 1] _ rfl
    obtain rfl := Option.some.inj H0
    refine rt [.agg #[.slice A96 r93.1.Shape.length c97, .slice A98 r123.2.length c99]] [.agg #[.slice A96 r93.1.Shape.length c97, .slice A98 r123.2.length c99], .int .i64 0] hf272 (oc (hm273.cell (j := 0) 2 rfl rfl) (oc (hm273.cell (j := 1) 2 rfl rfl) ot)) ?_
    exact ⟨_, rfl, A96, c97, A98, c99, rfl, hm274⟩
  rcases if_split H0 with ⟨c342, H0⟩ | ⟨c342, H0⟩
  · refine inReg ?_
    refine gg 1 [] [(4, vp b21), (5, vp b28), (6, vp b35), (15, vi x0)] hf43 ot fun a343 hf344 => ?_
    refine lo hf344 rfl (cl 16 hf344 callable49 (kernel_two.calls1 _ _ x0 (hm41.give [] [] rfl rfl) c44 c342) ?_)
    rintro _ w345 a346 ⟨rfl, hk348⟩ hf347
    have hm349 := hm41.still hk348.cum.none
    refine gg 1 [] [(4, vp b21), (5, vp b28), (6, vp b35), (8, .func (.func 62) #[] #[])] hf347 ot fun a350 hf351 => ?_
    refine endL rfl ?_
    refine thenN ?_
    refine wp_seq ?_
    refine wp_block ?_
    refine wp_seq ?_
    refine rg [] [(4, vp b21), (5, vp b28), (6, vp b35), (8, .func (.func 62) #[] #[]), (17, .bool false)] hf351 ot fun a352 hf353 => ?_
    refine thenN ?_
    refine cF hf353 ?_
    refine wp_seq ?_
    obtain ⟨r354, hr354, H0⟩ := ob_split H0
    rcases ifb_split H0 with ⟨c355, H0⟩ | ⟨c355, H0⟩
    rotate_left
    · refine inReg ?_
      refine gg 1 [.agg #[.slice A1_0 x1.Shape.length c1_0, .slice A1_1 x1.Data.length c1_1]] [(4, vp b21), (5, vp b28), (6, vp b35), (8, .func (.func 62) #[] #[]), (22, .agg #[.slice A1_0 x1.Shape.length c1_0, .slice A1_1 x1.Data.length c1_1])] hf353 (oc (hm349.cell (j := 0) 2 rfl rfl) (oc (hm349.cell (j := 1) 2 rfl rfl) ot)) fun a617 hf618 => ?_
      refine lo hf618 rfl (cl 23 hf618 callable32 (tensor_May.calls _ _ _ _ _ _ rfl _ _ _ rfl (hm349.give [3, 4] [.sl (Kd.int .i64) A1_0 c1_0 x1.Shape, .sl Kd.float A1_1 c1_1 x1.Data] rfl rfl) r354 hr354) ?_)
      rintro _ w619 a620 ⟨rfl, hk622⟩ hf621
      have hm623 := hm349.still hk622.cum.none
      rw [c355] at hf621
      refine gg 7 [] [(4, vp b21), (5, vp b28), (6, vp b35), (8, .func (.func 62) #[] #[]), (21, .bool true)] hf621 ot fun a624 hf625 => ?_
      refine endL rfl ?_
      refine thenN ?_
      refine cT hf625 ?_
      refine wp_seq ?_
      refine inReg ?_
      refine gg 1 [] [(6, vp b35), (30, .agg #[.slice none 0 0, .slice none 0 0])] hf625 ot fun a626 hf627 => ?_
      refine lo hf627 rfl (sb (j := 0) (us := [.slice none 0 0, .slice none 0 0]) (cs' := [.slice none 0 0, .slice none 0 0]) hf627 (hm623.bxAt 0 rfl) ?_)
      intro w628 hx629 hg630
      have hm631 := hm623.setBox 0 _ rfl rfl hx629 hg630
      refine gg 1 [] [(6, vp b35), (7, vi 2)] hf627 ot fun a632 hf633 => ?_
      refine endL rfl ?_
      have hm634 := hm631.se [0] _ rfl
      refine thenN ?_
      refine wp_ret ?_
      refine blkR ?_
      refine thenR ?_
      have hm635 := hm634.nilOw (Kd.int .i64) 3
      have hm636 := hm635.nilOw Kd.float 26
      have hm637 : Mem [] M w0 [.ow (Kd.int .i64) 3 none 0 ([] : (List Int)), .ow Kd.float 26 none 0 ([] : (List Nat))] w628 := hm636.se [1, 0] _ rfl
      obtain rfl := Option.some.inj H0
      refine rt [.agg #[.slice none 0 0, .slice none 0 0]] [.agg #[.slice none 0 0, .slice none 0 0], .int .i64 2] hf633 (oc (hm634.cell (j := 0) 0 rfl rfl) (oc (hm634.cell (j := 1) 0 rfl rfl) ot)) ?_
      exact ⟨_, rfl, none, 0, none, 0, rfl, hm637⟩
    obtain ⟨r356, hr356, H0⟩ := ob_split H0
    rcases ifb_split H0 with ⟨c357, H0⟩ | ⟨c357, H0⟩
    rotate_left
    · refine inReg ?_
      refine gg 1 [.agg #[.slice A1_0 x1.Shape.length c1_0, .slice A1_1 x1.Data.length c1_1]] [(4, vp b21), (5, vp b28), (6, vp b35), (8, .func (.func 62) #[] #[]), (22, .agg #[.slice A1_0 x1.Shape.length c1_0, .slice A1_1 x1.Data.length c1_1])] hf353 (oc (hm349.cell (j := 0) 2 rfl rfl) (oc (hm349.cell (j := 1) 2 rfl rfl) ot)) fun a588 hf589 => ?_
      refine lo hf589 rfl (cl 23 hf589 callable32 (tensor_May.calls _ _ _ _ _ _ rfl _ _ _ rfl (hm349.give [3, 4] [.sl (Kd.int .i64) A1_0 c1_0 x1.Shape, .sl Kd.float A1_1 c1_1 x1.Data] rfl rfl) r354 hr354) ?_)
      rintro _ w590 a591 ⟨rfl, hk593⟩ hf592
      have hm594 := hm349.still hk593.cum.none
      rw [c355] at hf592
      refine gg 3 [.agg #[.slice A2_0 x2.Shape.length c2_0, .slice A2_1 x2.Data.length c2_1]] [(4, vp b21), (5, vp b28), (6, vp b35), (8, .func (.func 62) #[] #[]), (25, .bool false), (26, .agg #[.slice A2_0 x2.Shape.length c2_0, .slice A2_1 x2.Data.length c2_1])] hf592 (oc (hm594.cell (j := 0) 1 rfl rfl) (oc (hm594.cell (j := 1) 1 rfl rfl) ot)) fun a595 hf596 => ?_
      refine lo hf596 rfl (cl 27 hf596 callable32 (tensor_May.calls _ _ _ _ _ _ rfl _ _ _ rfl (hm594.give [5, 6] [.sl (Kd.int .i64) A2_0 c2_0 x2.Shape, .sl Kd.float A2_1 c2_1 x2.Data] rfl rfl) r356 hr356) ?_)
      rintro _ w597 a598 ⟨rfl, hk600⟩ hf599
      have hm601 := hm594.still hk600.cum.none
      rw [c357] at hf599
      refine gg 3 [] [(4, vp b21), (5, vp b28), (6, vp b35), (8, .func (.func 62) #[] #[]), (21, .bool true)] hf599 ot fun a602 hf603 => ?_
      refine endL rfl ?_
      refine thenN ?_
      refine cT hf603 ?_
      refine wp_seq ?_
      refine inReg ?_
      refine gg 1 [] [(6, vp b35), (30, .agg #[.slice none 0 0, .slice none 0 0])] hf603 ot fun a604 hf605 => ?_
      refine lo hf605 rfl (sb (j := 0) (us := [.slice none 0 0, .slice none 0 0]) (cs' := [.slice none 0 0, .slice none 0 0]) hf605 (hm601.bxAt 0 rfl) ?_)
      intro w606 hx607 hg608
      have hm609 := hm601.setBox 0 _ rfl rfl hx607 hg608
      refine gg 1 [] [(6, vp b35), (7, vi 2)] hf605 ot fun a610 hf611 => ?_
      refine endL rfl ?_
      have hm612 := hm609.se [0] _ rfl
      refine thenN ?_
      refine wp_ret ?_
      refine blkR ?_
      refine thenR ?_
      have hm613 := hm612.nilOw (Kd.int .i64) 3
      have hm614 := hm613.nilOw Kd.float 26
      have hm615 : Mem [] M w0 [.ow (Kd.int .i64) 3 none 0 ([] : (List Int)), .ow Kd.float 26 none 0 ([] : (List Nat))] w606 := hm614.se [1, 0] _ rfl
      obtain rfl := Option.some.inj H0
      refine rt [.agg #[.slice none 0 0, .slice none 0 0]] [.agg #[.slice none 0 0, .slice none 0 0], .int .i64 2] hf611 (oc (hm612.cell (j := 0) 0 rfl rfl) (oc (hm612.cell (j := 1) 0 rfl rfl) ot)) ?_
      exact ⟨_, rfl, none, 0, none, 0, rfl, hm615⟩
    refine inReg ?_
    refine gg 1 [.agg #[.slice A1_0 x1.Shape.length c1_0, .slice A1_1 x1.Data.length c1_1]] [(4, vp b21), (5, vp b28), (6, vp b35), (8, .func (.func 62) #[] #[]), (22, .agg #[.slice A1_0 x1.Shape.length c1_0, .slice A1_1 x1.Data.length c1_1])] hf353 (oc (hm349.cell (j := 0) 2 rfl rfl) (oc (hm349.cell (j := 1) 2 rfl rfl) ot)) fun a358 hf359 => ?_
    refine lo hf359 rfl (cl 23 hf359 callable32 (tensor_May.calls _ _ _ _ _ _ rfl _ _ _ rfl (hm349.give [3, 4] [.sl (Kd.int .i64) A1_0 c1_0 x1.Shape, .sl Kd.float A1_1 c1_1 x1.Data] rfl rfl) r354 hr354) ?_)
    rintro _ w360 a361 ⟨rfl, hk363⟩ hf362
    have hm364 := hm349.still hk363.cum.none
    rw [c355] at hf362
    refine gg 3 [.agg #[.slice A2_0 x2.Shape.length c2_0, .slice A2_1 x2.Data.length c2_1]] [(4, vp b21), (5, vp b28), (6, vp b35), (8, .func (.func 62) #[] #[]), (25, .bool false), (26, .agg #[.slice A2_0 x2.Shape.length c2_0, .slice A2_1 x2.Data.length c2_1])] hf362 (oc (hm364.cell (j := 0) 1 rfl rfl) (oc (hm364.cell (j := 1) 1 rfl rfl) ot)) fun a365 hf366 => ?_
    refine lo hf366 rfl (cl 27 hf366 callable32 (tensor_May.calls _ _ _ _ _ _ rfl _ _ _ rfl (hm364.give [5, 6] [.sl (Kd.int .i64) A2_0 c2_0 x2.Shape, .sl Kd.float A2_1 c2_1 x2.Data] rfl rfl) r356 hr356) ?_)
    rintro _ w367 a368 ⟨rfl, hk370⟩ hf369
    have hm371 := hm364.still hk370.cum.none
    rw [c357] at hf369
    refine gg 3 [] [(4, vp b21), (5, vp b28), (6, vp b35), (8, .func (.func 62) #[] #[]), (21, .bool false)] hf369 ot fun a372 hf373 => ?_
    refine endL rfl ?_
    refine thenN ?_
    refine cF hf373 ?_
    refine wp_skip ?_
    refine blkN ?_
    refine thenN ?_
    refine wp_seq ?_
    obtain ⟨r374, hr374, H0⟩ := ob_split H0
    refine inReg ?_
    refine gg 4 [.slice A1_0 x1.Shape.length c1_0, .slice A2_0 x2.Shape.length c2_0] [(4, vp b21), (5, vp b28), (6, vp b35), (8, .func (.func 62) #[] #[]), (33, .slice A1_0 x1.Shape.length c1_0), (35, .slice A2_0 x2.Shape.length c2_0)] hf373 (oc (hm371.cell (j := 0) 2 rfl rfl) (oc (hm371.cell (j := 0) 1 rfl rfl) ot)) fun a375 hf376 => ?_
    refine lo hf376 rfl (cl 36 hf376 callable50 (shape_Spread.calls _ _ _ _ _ _ rfl _ _ _ _ rfl (hm371.give [3, 5] [.sl (Kd.int .i64) A1_0 c1_0 x1.Shape, .sl (Kd.int .i64) A2_0 c2_0 x2.Shape] rfl rfl) r374 hr374) ?_)
    rintro _ w379 a380 ⟨A377, c378, rfl, hk382⟩ hf381
    have hm383 := hm371.back hk382
    have hm384 := hm383.seal 0 _ rfl rfl
    refine gg 5 [] [(4, vp b21), (5, vp b28), (6, vp b35), (8, .func (.func 62) #[] #[]), (9, .slice A377 r374.1.length c378), (10, vi r374.2)] hf381 ot fun a385 hf386 => ?_
    refine endL rfl ?_
    refine thenN ?_
    refine wp_seq ?_
    refine wp_seq ?_
    rcases if_split H0 with ⟨c387, H0⟩ | ⟨c387, H0⟩
    rotate_left
    · refine rg [.bool true] [(4, vp b21), (5, vp b28), (6, vp b35), (8, .func (.func 62) #[] #[]), (9, .slice A377 r374.1.length c378), (10, vi r374.2), (40, .bool true)] hf386 (oi (neT c387) ot) fun a573 hf574 => ?_
      refine thenN ?_
      refine cT hf574 ?_
      refine wp_seq ?_
      refine inReg ?_
      refine gg 2 [] [(6, vp b35), (41, .agg #[.slice none 0 0, .slice none 0 0]), (42, vi r374.2)] hf574 ot fun a575 hf576 => ?_
      refine lo hf576 rfl (sb (j := 0) (us := [.slice none 0 0, .slice none 0 0]) (cs' := [.slice none 0 0, .slice none 0 0]) hf576 (hm384.bxAt 1 rfl) ?_)
      intro w577 hx578 hg579
      have hm580 := hm384.setBox 1 _ rfl rfl hx578 hg579
      refine gg 1 [] [(6, vp b35), (7, vi r374.2)] hf576 ot fun a581 hf582 => ?_
      refine endL rfl ?_
      have hm583 := hm580.se [1] _ rfl
      refine thenN ?_
      refine wp_ret ?_
      refine thenR ?_
      have hm584 := hm583.nilOw (Kd.int .i64) 3
      have hm585 := hm584.nilOw Kd.float 26
      have hm586 : Mem [] M w0 [.ow (Kd.int .i64) 3 none 0 ([] : (List Int)), .ow Kd.float 26 none 0 ([] : (List Nat))] w577 := hm585.se [1, 0] _ rfl
      obtain rfl := Option.some.inj H0
      refine rt [.agg #[.slice none 0 0, .slice none 0 0]] [.agg #[.slice none 0 0, .slice none 0 0], .int .i64 r374.2] hf582 (oc (hm583.cell (j := 0) 0 rfl rfl) (oc (hm583.cell (j := 1) 0 rfl rfl) ot)) ?_
      exact ⟨_, rfl, none, 0, none, 0, rfl, hm586⟩
    refine rg [.bool false] [(4, vp b21), (5, vp b28), (6, vp b35), (8, .func (.func 62) #[] #[]), (9, .slice A377 r374.1.length c378), (10, vi r374.2), (40, .bool false)] hf386 (oi (neF c387) ot) fun a388 hf389 => ?_
    refine thenN ?_
    refine cF hf389 ?_
    refine wp_skip ?_
    refine thenN ?_
    refine wp_seq ?_
    obtain ⟨r390, hr390, H0⟩ := ob_split H0
    refine inReg ?_
    refine gg 1 [] [(4, vp b21), (5, vp b28), (6, vp b35), (8, .func (.func 62) #[] #[]), (9, .slice A377 r374.1.length c378), (44, .slice A377 r374.1.length c378)] hf389 ot fun a391 hf392 => ?_
    refine lo hf392 rfl (cl 45 hf392 callable47 (tensor_New.calls _ _ _ _ _ _ rfl 0 0 ((FR.lit (by kernel_rfl) (by kernel_rfl))) (hm384.give [0] [.sl (Kd.int .i64) A377 c378 r374.1] rfl rfl) r390 hr390) ?_)
    rintro _ w397 a398 ⟨A393, c394, A395, c396, rfl, hk400⟩ hf399
    have hm401 := hm384.back hk400
    refine gg 3 [] [(4, vp b21), (5, vp b28), (6, vp b35), (8, .func (.func 62) #[] #[]), (9, .slice A377 r374.1.length c378), (46, .agg #[.slice A393 r390.1.Shape.length c394, .slice A395 r390.1.Data.length c396]), (47, vi r390.2)] hf399 ot fun a402 hf403 => ?_
    refine lo hf403 rfl (nw (cs := [.slice none 0 0, .slice none 0 0]) (T := 29) (d := 11) hf403 ?_)
    intro b404 w405 a406 hbb404 hx408 hg409 hf407
    have hm410 := hm401.box hbb404 hx408 hg409
    refine lo hf407 rfl (sb (j := 0) (us := [.slice A393 r390.1.Shape.length c394, .slice A395 r390.1.Data.length c396]) (cs' := [.slice A393 r390.1.Shape.length c394, .slice A395 r390.1.Data.length c396]) hf407 (hm410.bxAt 0 rfl) ?_)
    intro w411 hx412 hg413
    have hm414 := hm410.setBox 0 _ rfl rfl hx412 hg413
    refine gg 1 [] [(4, vp b21), (5, vp b28), (6, vp b35), (8, .func (.func 62) #[] #[]), (9, .slice A377 r374.1.length c378), (11, vp b404)] hf407 ot fun a415 hf416 => ?_
    refine endL rfl ?_
    refine thenN ?_
    refine wp_seq ?_
    refine wp_seq ?_
    refine rg [.slice A395 r390.1.Data.length c396] [(4, vp b21), (5, vp b28), (6, vp b35), (8, .func (.func 62) #[] #[]), (9, .slice A377 r374.1.length c378), (11, vp b404), (50, vi (r390.1.Data.length : Int)), (51, vi 0)] hf416 (oc (hm414.cell (j := 1) 0 rfl rfl) ot) fun a417 hf418 => ?_
    refine thenN ?_
    obtain ⟨r420, hr420, H0⟩ := ob_split H0
    refine wpBlock (Mid := fun (a : Act) (w : World) => Fr 81 a [(4, .pointer (some ⟨b21, 0, none⟩)), (5, .pointer (some ⟨b28, 0, none⟩)), (6, .pointer (some ⟨b35, 0, none⟩)), (8, .func (.func 62) #[] #[]), (9, .slice A377 r374.1.length c378), (11, .pointer (some ⟨b404, 0, none⟩)), (50, .int .i64 (r390.1.Data.length : Int)), (51, .int .i64 r420.1)] ∧ Mem [] M w0 [.bx b404 [.slice A393 r390.1.Shape.length c394, .slice A395 r420.2.length c396] 29, .ow (Kd.int .i64) 3 A393 c394 r390.1.Shape, .ow Kd.float 26 A395 c396 r420.2, .sl (Kd.int .i64) A377 c378 r374.1, .bx b35 [.slice none 0 0, .slice none 0 0] 29, .bx b28 [.slice A2_0 x2.Shape.length c2_0, .slice A2_1 x2.Data.length c2_1] 29, .bx b21 [.slice A1_0 x1.Shape.length c1_0, .slice A1_1 x1.Data.length c1_1] 29, .sl (Kd.int .i64) A1_0 c1_0 x1.Shape, .sl Kd.float A1_1 c1_1 x1.Data, .sl (Kd.int .i64) A2_0 c2_0 x2.Shape, .sl Kd.float A2_1 c2_1 x2.Data] w) ?_ ?_
    · refine wpLoop (kernel_Two.l1 r390 r374 x1 x2) r420 (fun (s419 : (Int × (List Nat))) (a : Act) (w : World) => Fr 81 a [(4, .pointer (some ⟨b21, 0, none⟩)), (5, .pointer (some ⟨b28, 0, none⟩)), (6, .pointer (some ⟨b35, 0, none⟩)), (8, .func (.func 62) #[] #[]), (9, .slice A377 r374.1.length c378), (11, .pointer (some ⟨b404, 0, none⟩)), (50, .int .i64 (r390.1.Data.length : Int)), (51, .int .i64 s419.1)] ∧ Mem [] M w0 [.bx b404 [.slice A393 r390.1.Shape.length c394, .slice A395 s419.2.length c396] 29, .ow (Kd.int .i64) 3 A393 c394 r390.1.Shape, .ow Kd.float 26 A395 c396 s419.2, .sl (Kd.int .i64) A377 c378 r374.1, .bx b35 [.slice none 0 0, .slice none 0 0] 29, .bx b28 [.slice A2_0 x2.Shape.length c2_0, .slice A2_1 x2.Data.length c2_1] 29, .bx b21 [.slice A1_0 x1.Shape.length c1_0, .slice A1_1 x1.Data.length c1_1] 29, .sl (Kd.int .i64) A1_0 c1_0 x1.Shape, .sl Kd.float A1_1 c1_1 x1.Data, .sl (Kd.int .i64) A2_0 c2_0 x2.Shape, .sl Kd.float A2_1 c2_1 x2.Data] w) (0, r390.1.Data) hr420 ⟨hf418.se [4, 5, 6, 8, 9, 11, 50, 51], hm414.se [0, 1, 2, 3, 4, 5, 6, 7, 8, 9, 10] _ rfl⟩ ?_
      rintro g421 s419 a422 w423 H1 ⟨hf424, hm425⟩
      unfold kernel_Two.l1 at H1
      refine wp_seq ?_
      rcases ifS_split H1 with ⟨c426, H1⟩ | ⟨c426, H1⟩
      rotate_left
      · refine rg (ob := [.is (decide (s419.1 < (r390.1.Data.length : Int)) = false)]) [.bool false] [(4, vp b21), (5, vp b28), (6, vp b35), (8, .func (.func 62) #[] #[]), (9, .slice A377 r374.1.length c378), (11, vp b404), (50, vi (r390.1.Data.length : Int)), (51, vi s419.1), (52, .bool false)] hf424 ⟨(decide_eq_false c426), trivial⟩ fun a556 hf557 => ?_
        refine thenN ?_
        refine wp_seq ?_
        refine cF hf557 ?_
        refine wp_exit ?_
        refine thenE ?_
        refine thenE ?_
        obtain rfl := Option.some.inj H1
        exact .inl ⟨rfl, hf557.se [4, 5, 6, 8, 9, 11, 50, 51], hm425.se [0, 1, 2, 3, 4, 5, 6, 7, 8, 9, 10] _ rfl⟩
      refine rg (ob := [.is (decide (s419.1 < (r390.1.Data.length : Int)) = true)]) [.bool true] [(4, vp b21), (5, vp b28), (6, vp b35), (8, .func (.func 62) #[] #[]), (9, .slice A377 r374.1.length c378), (11, vp b404), (50, vi (r390.1.Data.length : Int)), (51, vi s419.1), (52, .bool true)] hf424 ⟨(decide_eq_true c426), trivial⟩ fun a427 hf428 => ?_
      refine thenN ?_
      refine wp_seq ?_
      refine cT hf428 ?_
      refine wp_skip ?_
      refine thenN ?_
      refine wp_seq ?_
      refine wp_block ?_
      refine wp_seq ?_
      refine rg [] [(4, vp b21), (5, vp b28), (6, vp b35), (8, .func (.func 62) #[] #[]), (9, .slice A377 r374.1.length c378), (11, vp b404), (13, vi s419.1), (50, vi (r390.1.Data.length : Int)), (51, vi s419.1)] hf428 ot fun a429 hf430 => ?_
      refine thenN ?_
      refine wp_seq ?_
      obtain ⟨r431, hr431, H1⟩ := obS_split H1
      refine inReg ?_
      refine gg 2 [] [(4, vp b21), (5, vp b28), (6, vp b35), (8, .func (.func 62) #[] #[]), (9, .slice A377 r374.1.length c378), (11, vp b404), (13, vi s419.1), (50, vi (r390.1.Data.length : Int)), (51, vi s419.1), (54, .slice A377 r374.1.length c378), (55, vi s419.1)] hf430 ot fun a432 hf433 => ?_
      refine lo hf433 rfl (cl 56 hf433 callable51 (shape_Place.calls _ _ _ _ _ _ rfl s419.1 (hm425.give [3] [.sl (Kd.int .i64) A377 c378 r374.1] rfl rfl) r431 hr431) ?_)
      rintro _ w436 a437 ⟨A434, c435, rfl, hk439⟩ hf438
      have hm440 := hm425.back hk439
      have hm441 := hm440.seal 0 _ rfl rfl
      refine gg 1 [] [(4, vp b21), (5, vp b28), (6, vp b35), (8, .func (.func 62) #[] #[]), (9, .slice A377 r374.1.length c378), (11, vp b404), (13, vi s419.1), (14, .slice A434 r431.length c435), (50, vi (r390.1.Data.length : Int)), (51, vi s419.1)] hf438 ot fun a442 hf443 => ?_
      refine endL rfl ?_
      refine thenN ?_
      obtain ⟨r444, hr444, H1⟩ := obS_split H1
      obtain ⟨g445, H1⟩ := ifS_guard H1
      obtain ⟨r446, hr446, H1⟩ := obS_split H1
      obtain ⟨g447, H1⟩ := ifS_guard H1
      obtain ⟨r448, hr448, H1⟩ := obS_split H1
      obtain ⟨g449, H1⟩ := ifS_guard H1
      refine midReg (fun (a : Act) (w : World) => Fr 81 a [(4, .pointer (some ⟨b21, 0, none⟩)), (5, .pointer (some ⟨b28, 0, none⟩)), (6, .pointer (some ⟨b35, 0, none⟩)), (8, .func (.func 62) #[] #[]), (9, .slice A377 r374.1.length c378), (11, .pointer (some ⟨b404, 0, none⟩)), (50, .int .i64 (r390.1.Data.length : Int)), (51, .int .i64 s419.1)] ∧ Mem [] M w0 [.bx b404 [.slice A393 r390.1.Shape.length c394, .slice A395 s419.2.length c396] 29, .ow (Kd.int .i64) 3 A393 c394 r390.1.Shape, .ow Kd.float 26 A395 c396 (put s419.2 s419.1 r448), .sl (Kd.int .i64) A377 c378 r374.1, .bx b35 [.slice none 0 0, .slice none 0 0] 29, .bx b28 [.slice A2_0 x2.Shape.length c2_0, .slice A2_1 x2.Data.length c2_1] 29, .bx b21 [.slice A1_0 x1.Shape.length c1_0, .slice A1_1 x1.Data.length c1_1] 29, .sl (Kd.int .i64) A1_0 c1_0 x1.Shape, .sl Kd.float A1_1 c1_1 x1.Data, .sl (Kd.int .i64) A2_0 c2_0 x2.Shape, .sl Kd.float A2_1 c2_1 x2.Data] w) ?_ ?_
      · refine anyG (K := []) [22] (by kernel_rfl) fun w477 hg478 => ?_
        have hm479 := hm441.still hg478
        refine qt [0, 1, 2, 3, 4, 5, 6, 7, 8, 12, 13, 14, 15, 16] [.slice A395 s419.2.length c396, .slice A1_1 x1.Data.length c1_1, .slice A1_0 x1.Shape.length c1_0, .slice A2_1 x2.Data.length c2_1, .slice A2_0 x2.Shape.length c2_0] (fb 23 127487) [(4, vp b21), (5, vp b28), (6, vp b35), (8, .func (.func 62) #[] #[]), (9, .slice A377 r374.1.length c378), (11, vp b404), (50, vi (r390.1.Data.length : Int)), (51, vi s419.1), (58, .slice A395 s419.2.length c396), (59, vi s419.1), (60, .func (.func 62) #[] #[]), (62, .slice A1_1 x1.Data.length c1_1), (64, .slice A1_0 x1.Shape.length c1_0), (65, .slice A434 r431.length c435), (70, .slice A2_1 x2.Data.length c2_1), (72, .slice A2_0 x2.Shape.length c2_0), (73, .slice A434 r431.length c435)] 9 hf443 (oc (hm479.cell (j := 1) 1 rfl rfl) (oc (hm479.cell (j := 1) 7 rfl rfl) (oc (hm479.cell (j := 0) 7 rfl rfl) (oc (hm479.cell (j := 1) 6 rfl rfl) (oc (hm479.cell (j := 0) 6 rfl rfl) ot))))) fun a514 hf515 => ?_
        refine a1 9 ?_
        refine oo hf515 rfl (cl 66 hf515 callable52 (kernel_from.calls _ _ _ _ _ _ rfl _ _ _ _ rfl (hm479.give [8, 0] [.sl (Kd.int .i64) A1_0 c1_0 x1.Shape, .sl (Kd.int .i64) A434 c435 r431] rfl rfl) r444 hr444) ?_)
        rintro _ w516 a517 ⟨rfl, hk519⟩ hf518
        refine ⟨.inr (Gr.still hk519.cum.none), ?_⟩
        have hm520 := hm479.still hk519.cum.none
        have q521 := (hm520.slAt 9 rfl).float r444 g445.1 g445.2
        obtain ⟨b522, hb522, kb522⟩ := q521.2
        refine qt [10, 11] [.float .f64 b522] (fb 23 131071) [(4, vp b21), (5, vp b28), (6, vp b35), (8, .func (.func 62) #[] #[]), (9, .slice A377 r374.1.length c378), (11, vp b404), (50, vi (r390.1.Data.length : Int)), (51, vi s419.1), (58, .slice A395 s419.2.length c396), (59, vi s419.1), (60, .func (.func 62) #[] #[]), (68, vf b522), (70, .slice A2_1 x2.Data.length c2_1), (72, .slice A2_0 x2.Shape.length c2_0), (73, .slice A434 r431.length c435)] 6 hf518 (oi q521.1 (oi g445 (oc kb522 ot))) fun a523 hf524 => ?_
        refine a1 17 ?_
        refine oo hf524 rfl (cl 74 hf524 callable52 (kernel_from.calls _ _ _ _ _ _ rfl _ _ _ _ rfl (hm520.give [10, 0] [.sl (Kd.int .i64) A2_0 c2_0 x2.Shape, .sl (Kd.int .i64) A434 c435 r431] rfl rfl) r446 hr446) ?_)
        rintro _ w525 a526 ⟨rfl, hk528⟩ hf527
        refine ⟨.inr (Gr.still hk528.cum.none), ?_⟩
        have hm529 := hm520.still hk528.cum.none
        have q530 := (hm529.slAt 11 rfl).float r446 g447.1 g447.2
        obtain ⟨b531, hb531, kb531⟩ := q530.2
        refine qt [18, 19] [.float .f64 b531] (fb 23 1048575) [(4, vp b21), (5, vp b28), (6, vp b35), (8, .func (.func 62) #[] #[]), (9, .slice A377 r374.1.length c378), (11, vp b404), (50, vi (r390.1.Data.length : Int)), (51, vi s419.1), (58, .slice A395 s419.2.length c396), (59, vi s419.1), (60, .func (.func 62) #[] #[]), (68, vf b522), (76, vf b531)] 3 hf527 (oi q530.1 (oi g447 (oc kb531 ot))) fun a532 hf533 => ?_
        refine a1 20 ?_
        refine oo hf533 rfl (cl 77 hf533 callable62 (kernel_two_2.calls _ _ (rd x1.Data r444) b522 hb522 (rd x2.Data r446) b531 hb531 (hm529.give [] [] rfl rfl) r448 hr448) ?_)
        rintro _ w535 a536 ⟨b534, rfl, hb534, hk538⟩ hf537
        refine ⟨.inr (Gr.still hk538.cum.none), ?_⟩
        have hm539 := hm529.still hk538.cum.none
        have q540 := (hm539.owAt 3 rfl).float s419.1 g449.1 g449.2
        obtain ⟨b541, hb541, kb541⟩ := q540.2
        refine qt [21] [] (fb 23 4194303) [(4, vp b21), (5, vp b28), (6, vp b35), (8, .func (.func 62) #[] #[]), (9, .slice A377 r374.1.length c378), (11, vp b404), (50, vi (r390.1.Data.length : Int)), (51, vi s419.1), (77, vf b534), (78, .pointer (some ((ad A395).add ((s419.1).toNat * 1))))] 1 hf537 (oi q540.1 (oi g449 ot)) fun a542 hf543 => ?_
        refine a1 22 ?_
        refine oo hf543 rfl (so (i := s419.1) (x := r448) (us := [.float .f64 b534]) (sz := 1) hf543 (hm539.at 3 rfl) ⟨_, rfl, hb534⟩ g449.1 g449.2 ?_)
        intro w544 hx545 hg546
        refine ⟨.inl (by decide), ?_⟩
        have hm547 := hm539.setOwn 3 _ rfl rfl hx545 hg546 (.inl rfl)
        refine aD ⟨rfl, hf543.se [4, 5, 6, 8, 9, 11, 50, 51], hm547.se [1, 2, 3, 4, 5, 6, 7, 8, 9, 10, 11] _ rfl⟩
      rintro a548 w549 ⟨hf550, hm551⟩
      refine blkN ?_
      refine thenN ?_
      refine rg [] [(4, vp b21), (5, vp b28), (6, vp b35), (8, .func (.func 62) #[] #[]), (9, .slice A377 r374.1.length c378), (11, vp b404), (50, vi (r390.1.Data.length : Int)), (51, vi (w64 (s419.1 + 1)))] hf550 ot fun a552 hf553 => ?_
      have hf554 : Fr 81 a552 [(4, .pointer (some ⟨b21, 0, none⟩)), (5, .pointer (some ⟨b28, 0, none⟩)), (6, .pointer (some ⟨b35, 0, none⟩)), (8, .func (.func 62) #[] #[]), (9, .slice A377 r374.1.length c378), (11, .pointer (some ⟨b404, 0, none⟩)), (50, .int .i64 (r390.1.Data.length : Int)), (51, .int .i64 (w64 (s419.1 + 1)))] := hf553.se [4, 5, 6, 8, 9, 11, 50, 51]
      have hm555 : Mem [] M w0 [.bx b404 [.slice A393 r390.1.Shape.length c394, .slice A395 s419.2.length c396] 29, .ow (Kd.int .i64) 3 A393 c394 r390.1.Shape, .ow Kd.float 26 A395 c396 (put s419.2 s419.1 r448), .sl (Kd.int .i64) A377 c378 r374.1, .bx b35 [.slice none 0 0, .slice none 0 0] 29, .bx b28 [.slice A2_0 x2.Shape.length c2_0, .slice A2_1 x2.Data.length c2_1] 29, .bx b21 [.slice A1_0 x1.Shape.length c1_0, .slice A1_1 x1.Data.length c1_1] 29, .sl (Kd.int .i64) A1_0 c1_0 x1.Shape, .sl Kd.float A1_1 c1_1 x1.Data, .sl (Kd.int .i64) A2_0 c2_0 x2.Shape, .sl Kd.float A2_1 c2_1 x2.Data] w549 := hm551.se [0, 1, 2, 3, 4, 5, 6, 7, 8, 9, 10] _ rfl
      exact ⟨((w64 (s419.1 + 1)), (put s419.2 s419.1 r448)), H1, (by simpa only [put_length, List.length_nil] using hf554), (by simpa only [put_length, List.length_nil] using hm555)⟩
    rintro a558 w559 ⟨hf560, hm561⟩
    refine thenN ?_
    refine wp_seq ?_
    refine inReg ?_
    refine gg 1 [.agg #[.slice A393 r390.1.Shape.length c394, .slice A395 r420.2.length c396]] [(6, vp b35), (80, .agg #[.slice A393 r390.1.Shape.length c394, .slice A395 r420.2.length c396])] hf560 (oc (hm561.cell (j := 0) 0 rfl rfl) (oc (hm561.cell (j := 1) 0 rfl rfl) ot)) fun a562 hf563 => ?_
    refine lo hf563 rfl (sb (j := 0) (us := [.slice A393 r390.1.Shape.length c394, .slice A395 r420.2.length c396]) (cs' := [.slice A393 r390.1.Shape.length c394, .slice A395 r420.2.length c396]) hf563 (hm561.bxAt 4 rfl) ?_)
    intro w564 hx565 hg566
    have hm567 := hm561.setBox 4 _ rfl rfl hx565 hg566
    refine gg 1 [] [(6, vp b35), (7, vi 0)] hf563 ot fun a568 hf569 => ?_
    refine endL rfl ?_
    have hm570 := hm567.se [1, 2, 4] _ rfl
    refine thenN ?_
    refine wp_ret ?_
    have hm571 : Mem [] M w0 [.ow (Kd.int .i64) 3 A393 c394 r390.1.Shape, .ow Kd.float 26 A395 c396 r420.2] w564 := hm570.se [0, 1] _ rfl
    obtain rfl := Option.some.inj H0
    refine rt [.agg #[.slice A393 r390.1.Shape.length c394, .slice A395 r420.2.length c396]] [.agg #[.slice A393 r390.1.Shape.length c394, .slice A395 r420.2.length c396], .int .i64 0] hf569 (oc (hm570.cell (j := 0) 2 rfl rfl) (oc (hm570.cell (j := 1) 2 rfl rfl) ot)) ?_
    exact ⟨_, rfl, A393, c394, A395, c396, rfl, hm571⟩
  rcases if_split H0 with ⟨c639, H0⟩ | ⟨c639, H0⟩
  · refine inReg ?_
    refine gg 1 [] [(4, vp b21), (5, vp b28), (6, vp b35), (15, vi x0)] hf43 ot fun a640 hf641 => ?_
    refine lo hf641 rfl (cl 16 hf641 callable49 (kernel_two.calls2 _ _ x0 (hm41.give [] [] rfl rfl) c44 c342 c639) ?_)
    rintro _ w642 a643 ⟨rfl, hk645⟩ hf644
    have hm646 := hm41.still hk645.cum.none
    refine gg 1 [] [(4, vp b21), (5, vp b28), (6, vp b35), (8, .func (.func 63) #[] #[])] hf644 ot fun a647 hf648 => ?_
    refine endL rfl ?_
    refine thenN ?_
    refine wp_seq ?_
    refine wp_block ?_
    refine wp_seq ?_
    refine rg [] [(4, vp b21), (5, vp b28), (6, vp b35), (8, .func (.func 63) #[] #[]), (17, .bool false)] hf648 ot fun a649 hf650 => ?_
    refine thenN ?_
    refine cF hf650 ?_
    refine wp_seq ?_
    obtain ⟨r651, hr651, H0⟩ := ob_split H0
    rcases ifb_split H0 with ⟨c652, H0⟩ | ⟨c652, H0⟩
    rotate_left
    · refine inReg ?_
      refine gg 1 [.agg #[.slice A1_0 x1.Shape.length c1_0, .slice A1_1 x1.Data.length c1_1]] [(4, vp b21), (5, vp b28), (6, vp b35), (8, .func (.func 63) #[] #[]), (22, .agg #[.slice A1_0 x1.Shape.length c1_0, .slice A1_1 x1.Data.length c1_1])] hf650 (oc (hm646.cell (j := 0) 2 rfl rfl) (oc (hm646.cell (j := 1) 2 rfl rfl) ot)) fun a914 hf915 => ?_
      refine lo hf915 rfl (cl 23 hf915 callable32 (tensor_May.calls _ _ _ _ _ _ rfl _ _ _ rfl (hm646.give [3, 4] [.sl (Kd.int .i64) A1_0 c1_0 x1.Shape, .sl Kd.float A1_1 c1_1 x1.Data] rfl rfl) r651 hr651) ?_)
      rintro _ w916 a917 ⟨rfl, hk919⟩ hf918
      have hm920 := hm646.still hk919.cum.none
      rw [c652] at hf918
      refine gg 7 [] [(4, vp b21), (5, vp b28), (6, vp b35), (8, .func (.func 63) #[] #[]), (21, .bool true)] hf918 ot fun a921 hf922 => ?_
      refine endL rfl ?_
      refine thenN ?_
      refine cT hf922 ?_
      refine wp_seq ?_
      refine inReg ?_
      refine gg 1 [] [(6, vp b35), (30, .agg #[.slice none 0 0, .slice none 0 0])] hf922 ot fun a923 hf924 => ?_
      refine lo hf924 rfl (sb (j := 0) (us := [.slice none 0 0, .slice none 0 0]) (cs' := [.slice none 0 0, .slice none 0 0]) hf924 (hm920.bxAt 0 rfl) ?_)
      intro w925 hx926 hg927
      have hm928 := hm920.setBox 0 _ rfl rfl hx926 hg927
      refine gg 1 [] [(6, vp b35), (7, vi 2)] hf924 ot fun a929 hf930 => ?_
      refine endL rfl ?_
      have hm931 := hm928.se [0] _ rfl
      refine thenN ?_
      refine wp_ret ?_
      refine blkR ?_
      refine thenR ?_
      have hm932 := hm931.nilOw (Kd.int .i64) 3
      have hm933 := hm932.nilOw Kd.float 26
      have hm934 : Mem [] M w0 [.ow (Kd.int .i64) 3 none 0 ([] : (List Int)), .ow Kd.float 26 none 0 ([] : (List Nat))] w925 := hm933.se [1, 0] _ rfl
      obtain rfl := Option.some.inj H0
      refine rt [.agg #[.slice none 0 0, .slice none 0 0]] [.agg #[.slice none 0 0, .slice none 0 0], .int .i64 2] hf930 (oc (hm931.cell (j := 0) 0 rfl rfl) (oc (hm931.cell (j := 1) 0 rfl rfl) ot)) ?_
      exact ⟨_, rfl, none, 0, none, 0, rfl, hm934⟩
    obtain ⟨r653, hr653, H0⟩ := ob_split H0
    rcases ifb_split H0 with ⟨c654, H0⟩ | ⟨c654, H0⟩
    rotate_left
    · refine inReg ?_
      refine gg 1 [.agg #[.slice A1_0 x1.Shape.length c1_0, .slice A1_1 x1.Data.length c1_1]] [(4, vp b21), (5, vp b28), (6, vp b35), (8, .func (.func 63) #[] #[]), (22, .agg #[.slice A1_0 x1.Shape.length c1_0, .slice A1_1 x1.Data.length c1_1])] hf650 (oc (hm646.cell (j := 0) 2 rfl rfl) (oc (hm646.cell (j := 1) 2 rfl rfl) ot)) fun a885 hf886 => ?_
      refine lo hf886 rfl (cl 23 hf886 callable32 (tensor_May.calls _ _ _ _ _ _ rfl _ _ _ rfl (hm646.give [3, 4] [.sl (Kd.int .i64) A1_0 c1_0 x1.Shape, .sl Kd.float A1_1 c1_1 x1.Data] rfl rfl) r651 hr651) ?_)
      rintro _ w887 a888 ⟨rfl, hk890⟩ hf889
      have hm891 := hm646.still hk890.cum.none
      rw [c652] at hf889
      refine gg 3 [.agg #[.slice A2_0 x2.Shape.length c2_0, .slice A2_1 x2.Data.length c2_1]] [(4, vp b21), (5, vp b28), (6, vp b35), (8, .func (.func 63) #[] #[]), (25, .bool false), (26, .agg #[.slice A2_0 x2.Shape.length c2_0, .slice A2_1 x2.Data.length c2_1])] hf889 (oc (hm891.cell (j := 0) 1 rfl rfl) (oc (hm891.cell (j := 1) 1 rfl rfl) ot)) fun a892 hf893 => ?_
      refine lo hf893 rfl (cl 27 hf893 callable32 (tensor_May.calls _ _ _ _ _ _ rfl _ _ _ rfl (hm891.give [5, 6] [.sl (Kd.int .i64) A2_0 c2_0 x2.Shape, .sl Kd.float A2_1 c2_1 x2.Data] rfl rfl) r653 hr653) ?_)
      rintro _ w894 a895 ⟨rfl, hk897⟩ hf896
      have hm898 := hm891.still hk897.cum.none
      rw [c654] at hf896
      refine gg 3 [] [(4, vp b21), (5, vp b28), (6, vp b35), (8, .func (.func 63) #[] #[]), (21, .bool true)] hf896 ot fun a899 hf900 => ?_
      refine endL rfl ?_
      refine thenN ?_
      refine cT hf900 ?_
      refine wp_seq ?_
      refine inReg ?_
      refine gg 1 [] [(6, vp b35), (30, .agg #[.slice none 0 0, .slice none 0 0])] hf900 ot fun a901 hf902 => ?_
      refine lo hf902 rfl (sb (j := 0) (us := [.slice none 0 0, .slice none 0 0]) (cs' := [.slice none 0 0, .slice none 0 0]) hf902 (hm898.bxAt 0 rfl) ?_)
      intro w903 hx904 hg905
      have hm906 := hm898.setBox 0 _ rfl rfl hx904 hg905
      refine gg 1 [] [(6, vp b35), (7, vi 2)] hf902 ot fun a907 hf908 => ?_
      refine endL rfl ?_
      have hm909 := hm906.se [0] _ rfl
      refine thenN ?_
      refine wp_ret ?_
      refine blkR ?_
      refine thenR ?_
      have hm910 := hm909.nilOw (Kd.int .i64) 3
      have hm911 := hm910.nilOw Kd.float 26
      have hm912 : Mem [] M w0 [.ow (Kd.int .i64) 3 none 0 ([] : (List Int)), .ow Kd.float 26 none 0 ([] : (List Nat))] w903 := hm911.se [1, 0] _ rfl
      obtain rfl := Option.some.inj H0
      refine rt [.agg #[.slice none 0 0, .slice none 0 0]] [.agg #[.slice none 0 0, .slice none 0 0], .int .i64 2] hf908 (oc (hm909.cell (j := 0) 0 rfl rfl) (oc (hm909.cell (j := 1) 0 rfl rfl) ot)) ?_
      exact ⟨_, rfl, none, 0, none, 0, rfl, hm912⟩
    refine inReg ?_
    refine gg 1 [.agg #[.slice A1_0 x1.Shape.length c1_0, .slice A1_1 x1.Data.length c1_1]] [(4, vp b21), (5, vp b28), (6, vp b35), (8, .func (.func 63) #[] #[]), (22, .agg #[.slice A1_0 x1.Shape.length c1_0, .slice A1_1 x1.Data.length c1_1])] hf650 (oc (hm646.cell (j := 0) 2 rfl rfl) (oc (hm646.cell (j := 1) 2 rfl rfl) ot)) fun a655 hf656 => ?_
    refine lo hf656 rfl (cl 23 hf656 callable32 (tensor_May.calls _ _ _ _ _ _ rfl _ _ _ rfl (hm646.give [3, 4] [.sl (Kd.int .i64) A1_0 c1_0 x1.Shape, .sl Kd.float A1_1 c1_1 x1.Data] rfl rfl) r651 hr651) ?_)
    rintro _ w657 a658 ⟨rfl, hk660⟩ hf659
    have hm661 := hm646.still hk660.cum.none
    rw [c652] at hf659
    refine gg 3 [.agg #[.slice A2_0 x2.Shape.length c2_0, .slice A2_1 x2.Data.length c2_1]] [(4, vp b21), (5, vp b28), (6, vp b35), (8, .func (.func 63) #[] #[]), (25, .bool false), (26, .agg #[.slice A2_0 x2.Shape.length c2_0, .slice A2_1 x2.Data.length c2_1])] hf659 (oc (hm661.cell (j := 0) 1 rfl rfl) (oc (hm661.cell (j := 1) 1 rfl rfl) ot)) fun a662 hf663 => ?_
    refine lo hf663 rfl (cl 27 hf663 callable32 (tensor_May.calls _ _ _ _ _ _ rfl _ _ _ rfl (hm661.give [5, 6] [.sl (Kd.int .i64) A2_0 c2_0 x2.Shape, .sl Kd.float A2_1 c2_1 x2.Data] rfl rfl) r653 hr653) ?_)
    rintro _ w664 a665 ⟨rfl, hk667⟩ hf666
    have hm668 := hm661.still hk667.cum.none
    rw [c654] at hf666
    refine gg 3 [] [(4, vp b21), (5, vp b28), (6, vp b35), (8, .func (.func 63) #[] #[]), (21, .bool false)] hf666 ot fun a669 hf670 => ?_
    refine endL rfl ?_
    refine thenN ?_
    refine cF hf670 ?_
    refine wp_skip ?_
    refine blkN ?_
    refine thenN ?_
    refine wp_seq ?_
    obtain ⟨r671, hr671, H0⟩ := ob_split H0
    refine inReg ?_
    refine gg 4 [.slice A1_0 x1.Shape.length c1_0, .slice A2_0 x2.Shape.length c2_0] [(4, vp b21), (5, vp b28), (6, vp b35), (8, .func (.func 63) #[] #[]), (33, .slice A1_0 x1.Shape.length c1_0), (35, .slice A2_0 x2.Shape.length c2_0)] hf670 (oc (hm668.cell (j := 0) 2 rfl rfl) (oc (hm668.cell (j := 0) 1 rfl rfl) ot)) fun a672 hf673 => ?_
    refine lo hf673 rfl (cl 36 hf673 callable50 (shape_Spread.calls _ _ _ _ _ _ rfl _ _ _ _ rfl (hm668.give [3, 5] [.sl (Kd.int .i64) A1_0 c1_0 x1.Shape, .sl (Kd.int .i64) A2_0 c2_0 x2.Shape] rfl rfl) r671 hr671) ?_)
    rintro _ w676 a677 ⟨A674, c675, rfl, hk679⟩ hf678
    have hm680 := hm668.back hk679
    have hm681 := hm680.seal 0 _ rfl rfl
    refine gg 5 [] [(4, vp b21), (5, vp b28), (6, vp b35), (8, .func (.func 63) #[] #[]), (9, .slice A674 r671.1.length c675), (10, vi r671.2)] hf678 ot fun a682 hf683 => ?_
    refine endL rfl ?_
    refine thenN ?_
    refine wp_seq ?_
    refine wp_seq ?_
    rcases if_split H0 with ⟨c684, H0⟩ | ⟨c684, H0⟩
    rotate_left
    · refine rg [.bool true] [(4, vp b21), (5, vp b28), (6, vp b35), (8, .func (.func 63) #[] #[]), (9, .slice A674 r671.1.length c675), (10, vi r671.2), (40, .bool true)] hf683 (oi (neT c684) ot) fun a870 hf871 => ?_
      refine thenN ?_
      refine cT hf871 ?_
      refine wp_seq ?_
      refine inReg ?_
      refine gg 2 [] [(6, vp b35), (41, .agg #[.slice none 0 0, .slice none 0 0]), (42, vi r671.2)] hf871 ot fun a872 hf873 => ?_
      refine lo hf873 rfl (sb (j := 0) (us := [.slice none 0 0, .slice none 0 0]) (cs' := [.slice none 0 0, .slice none 0 0]) hf873 (hm681.bxAt 1 rfl) ?_)
      intro w874 hx875 hg876
      have hm877 := hm681.setBox 1 _ rfl rfl hx875 hg876
      refine gg 1 [] [(6, vp b35), (7, vi r671.2)] hf873 ot fun a878 hf879 => ?_
      refine endL rfl ?_
      have hm880 := hm877.se [1] _ rfl
      refine thenN ?_
      refine wp_ret ?_
      refine thenR ?_
      have hm881 := hm880.nilOw (Kd.int .i64) 3
      have hm882 := hm881.nilOw Kd.float 26
      have hm883 : Mem [] M w0 [.ow (Kd.int .i64) 3 none 0 ([] : (List Int)), .ow Kd.float 26 none 0 ([] : (List Nat))] w874 := hm882.se [1, 0] _ rfl
      obtain rfl := Option.some.inj H0
      refine rt [.agg #[.slice none 0 0, .slice none 0 0]] [.agg #[.slice none 0 0, .slice none 0 0], .int .i64 r671.2] hf879 (oc (hm880.cell (j := 0) 0 rfl rfl) (oc (hm880.cell (j := 1) 0 rfl rfl) ot)) ?_
      exact ⟨_, rfl, none, 0, none, 0, rfl, hm883⟩
    refine rg [.bool false] [(4, vp b21), (5, vp b28), (6, vp b35), (8, .func (.func 63) #[] #[]), (9, .slice A674 r671.1.length c675), (10, vi r671.2), (40, .bool false)] hf683 (oi (neF c684) ot) fun a685 hf686 => ?_
    refine thenN ?_
    refine cF hf686 ?_
    refine wp_skip ?_
    refine thenN ?_
    refine wp_seq ?_
    obtain ⟨r687, hr687, H0⟩ := ob_split H0
    refine inReg ?_
    refine gg 1 [] [(4, vp b21), (5, vp b28), (6, vp b35), (8, .func (.func 63) #[] #[]), (9, .slice A674 r671.1.length c675), (44, .slice A674 r671.1.length c675)] hf686 ot fun a688 hf689 => ?_
    refine lo hf689 rfl (cl 45 hf689 callable47 (tensor_New.calls _ _ _ _ _ _ rfl 0 0 ((FR.lit (by kernel_rfl) (by kernel_rfl))) (hm681.give [0] [.sl (Kd.int .i64) A674 c675 r671.1] rfl rfl) r687 hr687) ?_)
    rintro _ w694 a695 ⟨A690, c691, A692, c693, rfl, hk697⟩ hf696
    have hm698 := hm681.back hk697
    refine gg 3 [] [(4, vp b21), (5, vp b28), (6, vp b35), (8, .func (.func 63) #[] #[]), (9, .slice A674 r671.1.length c675), (46, .agg #[.slice A690 r687.1.Shape.length c691, .slice A692 r687.1.Data.length c693]), (47, vi r687.2)] hf696 ot fun a699 hf700 => ?_
    refine lo hf700 rfl (nw (cs := [.slice none 0 0, .slice none 0 0]) (T := 29) (d := 11) hf700 ?_)
    intro b701 w702 a703 hbb701 hx705 hg706 hf704
    have hm707 := hm698.box hbb701 hx705 hg706
    refine lo hf704 rfl (sb (j := 0) (us := [.slice A690 r687.1.Shape.length c691, .slice A692 r687.1.Data.length c693]) (cs' := [.slice A690 r687.1.Shape.length c691, .slice A692 r687.1.Data.length c693]) hf704 (hm707.bxAt 0 rfl) ?_)
    intro w708 hx709 hg710
    have hm711 := hm707.setBox 0 _ rfl rfl hx709 hg710
    refine gg 1 [] [(4, vp b21), (5, vp b28), (6, vp b35), (8, .func (.func 63) #[] #[]), (9, .slice A674 r671.1.length c675), (11, vp b701)] hf704 ot fun a712 hf713 => ?_
    refine endL rfl ?_
    refine thenN ?_
    refine wp_seq ?_
    refine wp_seq ?_
    refine rg [.slice A692 r687.1.Data.length c693] [(4, vp b21), (5, vp b28), (6, vp b35), (8, .func (.func 63) #[] #[]), (9, .slice A674 r671.1.length c675), (11, vp b701), (50, vi (r687.1.Data.length : Int)), (51, vi 0)] hf713 (oc (hm711.cell (j := 1) 0 rfl rfl) ot) fun a714 hf715 => ?_
    refine thenN ?_
    obtain ⟨r717, hr717, H0⟩ := ob_split H0
    refine wpBlock (Mid := fun (a : Act) (w : World) => Fr 81 a [(4, .pointer (some ⟨b21, 0, none⟩)), (5, .pointer (some ⟨b28, 0, none⟩)), (6, .pointer (some ⟨b35, 0, none⟩)), (8, .func (.func 63) #[] #[]), (9, .slice A674 r671.1.length c675), (11, .pointer (some ⟨b701, 0, none⟩)), (50, .int .i64 (r687.1.Data.length : Int)), (51, .int .i64 r717.1)] ∧ Mem [] M w0 [.bx b701 [.slice A690 r687.1.Shape.length c691, .slice A692 r717.2.length c693] 29, .ow (Kd.int .i64) 3 A690 c691 r687.1.Shape, .ow Kd.float 26 A692 c693 r717.2, .sl (Kd.int .i64) A674 c675 r671.1, .bx b35 [.slice none 0 0, .slice none 0 0] 29, .bx b28 [.slice A2_0 x2.Shape.length c2_0, .slice A2_1 x2.Data.length c2_1] 29, .bx b21 [.slice A1_0 x1.Shape.length c1_0, .slice A1_1 x1.Data.length c1_1] 29, .sl (Kd.int .i64) A1_0 c1_0 x1.Shape, .sl Kd.float A1_1 c1_1 x1.Data, .sl (Kd.int .i64) A2_0 c2_0 x2.Shape, .sl Kd.float A2_1 c2_1 x2.Data] w) ?_ ?_
    · refine wpLoop (kernel_Two.l2 r687 r671 x1 x2) r717 (fun (s716 : (Int × (List Nat))) (a : Act) (w : World) => Fr 81 a [(4, .pointer (some ⟨b21, 0, none⟩)), (5, .pointer (some ⟨b28, 0, none⟩)), (6, .pointer (some ⟨b35, 0, none⟩)), (8, .func (.func 63) #[] #[]), (9, .slice A674 r671.1.length c675), (11, .pointer (some ⟨b701, 0, none⟩)), (50, .int .i64 (r687.1.Data.length : Int)), (51, .int .i64 s716.1)] ∧ Mem [] M w0 [.bx b701 [.slice A690 r687.1.Shape.length c691, .slice A692 s716.2.length c693] 29, .ow (Kd.int .i64) 3 A690 c691 r687.1.Shape, .ow Kd.float 26 A692 c693 s716.2, .sl (Kd.int .i64) A674 c675 r671.1, .bx b35 [.slice none 0 0, .slice none 0 0] 29, .bx b28 [.slice A2_0 x2.Shape.length c2_0, .slice A2_1 x2.Data.length c2_1] 29, .bx b21 [.slice A1_0 x1.Shape.length c1_0, .slice A1_1 x1.Data.length c1_1] 29, .sl (Kd.int .i64) A1_0 c1_0 x1.Shape, .sl Kd.float A1_1 c1_1 x1.Data, .sl (Kd.int .i64) A2_0 c2_0 x2.Shape, .sl Kd.float A2_1 c2_1 x2.Data] w) (0, r687.1.Data) hr717 ⟨hf715.se [4, 5, 6, 8, 9, 11, 50, 51], hm711.se [0, 1, 2, 3, 4, 5, 6, 7, 8, 9, 10] _ rfl⟩ ?_
      rintro g718 s716 a719 w720 H1 ⟨hf721, hm722⟩
      unfold kernel_Two.l2 at H1
      refine wp_seq ?_
      rcases ifS_split H1 with ⟨c723, H1⟩ | ⟨c723, H1⟩
      rotate_left
      · refine rg (ob := [.is (decide (s716.1 < (r687.1.Data.length : Int)) = false)]) [.bool false] [(4, vp b21), (5, vp b28), (6, vp b35), (8, .func (.func 63) #[] #[]), (9, .slice A674 r671.1.length c675), (11, vp b701), (50, vi (r687.1.Data.length : Int)), (51, vi s716.1), (52, .bool false)] hf721 ⟨(decide_eq_false c723), trivial⟩ fun a853 hf854 => ?_
        refine thenN ?_
        refine wp_seq ?_
        refine cF hf854 ?_
        refine wp_exit ?_
        refine thenE ?_
        refine thenE ?_
        obtain rfl := Option.some.inj H1
        exact .inl ⟨rfl, hf854.se [4, 5, 6, 8, 9, 11, 50, 51], hm722.se [0, 1, 2, 3, 4, 5, 6, 7, 8, 9, 10] _ rfl⟩
      refine rg (ob := [.is (decide (s716.1 < (r687.1.Data.length : Int)) = true)]) [.bool true] [(4, vp b21), (5, vp b28), (6, vp b35), (8, .func (.func 63) #[] #[]), (9, .slice A674 r671.1.length c675), (11, vp b701), (50, vi (r687.1.Data.length : Int)), (51, vi s716.1), (52, .bool true)] hf721 ⟨(decide_eq_true c723), trivial⟩ fun a724 hf725 => ?_
      refine thenN ?_
      refine wp_seq ?_
      refine cT hf725 ?_
      refine wp_skip ?_
      refine thenN ?_
      refine wp_seq ?_
      refine wp_block ?_
      refine wp_seq ?_
      refine rg [] [(4, vp b21), (5, vp b28), (6, vp b35), (8, .func (.func 63) #[] #[]), (9, .slice A674 r671.1.length c675), (11, vp b701), (13, vi s716.1), (50, vi (r687.1.Data.length : Int)), (51, vi s716.1)] hf725 ot fun a726 hf727 => ?_
      refine thenN ?_
      refine wp_seq ?_
      obtain ⟨r728, hr728, H1⟩ := obS_split H1
      refine inReg ?_
      refine gg 2 [] [(4, vp b21), (5, vp b28), (6, vp b35), (8, .func (.func 63) #[] #[]), (9, .slice A674 r671.1.length c675), (11, vp b701), (13, vi s716.1), (50, vi (r687.1.Data.length : Int)), (51, vi s716.1), (54, .slice A674 r671.1.length c675), (55, vi s716.1)] hf727 ot fun a729 hf730 => ?_
      refine lo hf730 rfl (cl 56 hf730 callable51 (shape_Place.calls _ _ _ _ _ _ rfl s716.1 (hm722.give [3] [.sl (Kd.int .i64) A674 c675 r671.1] rfl rfl) r728 hr728) ?_)
      rintro _ w733 a734 ⟨A731, c732, rfl, hk736⟩ hf735
      have hm737 := hm722.back hk736
      have hm738 := hm737.seal 0 _ rfl rfl
      refine gg 1 [] [(4, vp b21), (5, vp b28), (6, vp b35), (8, .func (.func 63) #[] #[]), (9, .slice A674 r671.1.length c675), (11, vp b701), (13, vi s716.1), (14, .slice A731 r728.length c732), (50, vi (r687.1.Data.length : Int)), (51, vi s716.1)] hf735 ot fun a739 hf740 => ?_
      refine endL rfl ?_
      refine thenN ?_
      obtain ⟨r741, hr741, H1⟩ := obS_split H1
      obtain ⟨g742, H1⟩ := ifS_guard H1
      obtain ⟨r743, hr743, H1⟩ := obS_split H1
      obtain ⟨g744, H1⟩ := ifS_guard H1
      obtain ⟨r745, hr745, H1⟩ := obS_split H1
      obtain ⟨g746, H1⟩ := ifS_guard H1
      refine midReg (fun (a : Act) (w : World) => Fr 81 a [(4, .pointer (some ⟨b21, 0, none⟩)), (5, .pointer (some ⟨b28, 0, none⟩)), (6, .pointer (some ⟨b35, 0, none⟩)), (8, .func (.func 63) #[] #[]), (9, .slice A674 r671.1.length c675), (11, .pointer (some ⟨b701, 0, none⟩)), (50, .int .i64 (r687.1.Data.length : Int)), (51, .int .i64 s716.1)] ∧ Mem [] M w0 [.bx b701 [.slice A690 r687.1.Shape.length c691, .slice A692 s716.2.length c693] 29, .ow (Kd.int .i64) 3 A690 c691 r687.1.Shape, .ow Kd.float 26 A692 c693 (put s716.2 s716.1 r745), .sl (Kd.int .i64) A674 c675 r671.1, .bx b35 [.slice none 0 0, .slice none 0 0] 29, .bx b28 [.slice A2_0 x2.Shape.length c2_0, .slice A2_1 x2.Data.length c2_1] 29, .bx b21 [.slice A1_0 x1.Shape.length c1_0, .slice A1_1 x1.Data.length c1_1] 29, .sl (Kd.int .i64) A1_0 c1_0 x1.Shape, .sl Kd.float A1_1 c1_1 x1.Data, .sl (Kd.int .i64) A2_0 c2_0 x2.Shape, .sl Kd.float A2_1 c2_1 x2.Data] w) ?_ ?_
      · refine anyG (K := []) [22] (by kernel_rfl) fun w774 hg775 => ?_
        have hm776 := hm738.still hg775
        refine qt [0, 1, 2, 3, 4, 5, 6, 7, 8, 12, 13, 14, 15, 16] [.slice A692 s716.2.length c693, .slice A1_1 x1.Data.length c1_1, .slice A1_0 x1.Shape.length c1_0, .slice A2_1 x2.Data.length c2_1, .slice A2_0 x2.Shape.length c2_0] (fb 23 127487) [(4, vp b21), (5, vp b28), (6, vp b35), (8, .func (.func 63) #[] #[]), (9, .slice A674 r671.1.length c675), (11, vp b701), (50, vi (r687.1.Data.length : Int)), (51, vi s716.1), (58, .slice A692 s716.2.length c693), (59, vi s716.1), (60, .func (.func 63) #[] #[]), (62, .slice A1_1 x1.Data.length c1_1), (64, .slice A1_0 x1.Shape.length c1_0), (65, .slice A731 r728.length c732), (70, .slice A2_1 x2.Data.length c2_1), (72, .slice A2_0 x2.Shape.length c2_0), (73, .slice A731 r728.length c732)] 9 hf740 (oc (hm776.cell (j := 1) 1 rfl rfl) (oc (hm776.cell (j := 1) 7 rfl rfl) (oc (hm776.cell (j := 0) 7 rfl rfl) (oc (hm776.cell (j := 1) 6 rfl rfl) (oc (hm776.cell (j := 0) 6 rfl rfl) ot))))) fun a811 hf812 => ?_
        refine a1 9 ?_
        refine oo hf812 rfl (cl 66 hf812 callable52 (kernel_from.calls _ _ _ _ _ _ rfl _ _ _ _ rfl (hm776.give [8, 0] [.sl (Kd.int .i64) A1_0 c1_0 x1.Shape, .sl (Kd.int .i64) A731 c732 r728] rfl rfl) r741 hr741) ?_)
        rintro _ w813 a814 ⟨rfl, hk816⟩ hf815
        refine ⟨.inr (Gr.still hk816.cum.none), ?_⟩
        have hm817 := hm776.still hk816.cum.none
        have q818 := (hm817.slAt 9 rfl).float r741 g742.1 g742.2
        obtain ⟨b819, hb819, kb819⟩ := q818.2
        refine qt [10, 11] [.float .f64 b819] (fb 23 131071) [(4, vp b21), (5, vp b28), (6, vp b35), (8, .func (.func 63) #[] #[]), (9, .slice A674 r671.1.length c675), (11, vp b701), (50, vi (r687.1.Data.length : Int)), (51, vi s716.1), (58, .slice A692 s716.2.length c693), (59, vi s716.1), (60, .func (.func 63) #[] #[]), (68, vf b819), (70, .slice A2_1 x2.Data.length c2_1), (72, .slice A2_0 x2.Shape.length c2_0), (73, .slice A731 r728.length c732)] 6 hf815 (oi q818.1 (oi g742 (oc kb819 ot))) fun a820 hf821 => ?_
        refine a1 17 ?_
        refine oo hf821 rfl (cl 74 hf821 callable52 (kernel_from.calls _ _ _ _ _ _ rfl _ _ _ _ rfl (hm817.give [10, 0] [.sl (Kd.int .i64) A2_0 c2_0 x2.Shape, .sl (Kd.int .i64) A731 c732 r728] rfl rfl) r743 hr743) ?_)
        rintro _ w822 a823 ⟨rfl, hk825⟩ hf824
        refine ⟨.inr (Gr.still hk825.cum.none), ?_⟩
        have hm826 := hm817.still hk825.cum.none
        have q827 := (hm826.slAt 11 rfl).float r743 g744.1 g744.2
        obtain ⟨b828, hb828, kb828⟩ := q827.2
        refine qt [18, 19] [.float .f64 b828] (fb 23 1048575) [(4, vp b21), (5, vp b28), (6, vp b35), (8, .func (.func 63) #[] #[]), (9, .slice A674 r671.1.length c675), (11, vp b701), (50, vi (r687.1.Data.length : Int)), (51, vi s716.1), (58, .slice A692 s716.2.length c693), (59, vi s716.1), (60, .func (.func 63) #[] #[]), (68, vf b819), (76, vf b828)] 3 hf824 (oi q827.1 (oi g744 (oc kb828 ot))) fun a829 hf830 => ?_
        refine a1 20 ?_
        refine oo hf830 rfl (cl 77 hf830 callable63 (kernel_two_3.calls _ _ (rd x1.Data r741) b819 hb819 (rd x2.Data r743) b828 hb828 (hm826.give [] [] rfl rfl) r745 hr745) ?_)
        rintro _ w832 a833 ⟨b831, rfl, hb831, hk835⟩ hf834
        refine ⟨.inr (Gr.still hk835.cum.none), ?_⟩
        have hm836 := hm826.still hk835.cum.none
        have q837 := (hm836.owAt 3 rfl).float s716.1 g746.1 g746.2
        obtain ⟨b838, hb838, kb838⟩ := q837.2
        refine qt [21] [] (fb 23 4194303) [(4, vp b21), (5, vp b28), (6, vp b35), (8, .func (.func 63) #[] #[]), (9, .slice A674 r671.1.length c675), (11, vp b701), (50, vi (r687.1.Data.length : Int)), (51, vi s716.1), (77, vf b831), (78, .pointer (some ((ad A692).add ((s716.1).toNat * 1))))] 1 hf834 (oi q837.1 (oi g746 ot)) fun a839 hf840 => ?_
        refine a1 22 ?_
        refine oo hf840 rfl (so (i := s716.1) (x := r745) (us := [.float .f64 b831]) (sz := 1) hf840 (hm836.at 3 rfl) ⟨_, rfl, hb831⟩ g746.1 g746.2 ?_)
        intro w841 hx842 hg843
        refine ⟨.inl (by decide), ?_⟩
        have hm844 := hm836.setOwn 3 _ rfl rfl hx842 hg843 (.inl rfl)
        refine aD ⟨rfl, hf840.se [4, 5, 6, 8, 9, 11, 50, 51], hm844.se [1, 2, 3, 4, 5, 6, 7, 8, 9, 10, 11] _ rfl⟩
      rintro a845 w846 ⟨hf847, hm848⟩
      refine blkN ?_
      refine thenN ?_
      refine rg [] [(4, vp b21), (5, vp b28), (6, vp b35), (8, .func (.func 63) #[] #[]), (9, .slice A674 r671.1.length c675), (11, vp b701), (50, vi (r687.1.Data.length : Int)), (51, vi (w64 (s716.1 + 1)))] hf847 ot fun a849 hf850 => ?_
      have hf851 : Fr 81 a849 [(4, .pointer (some ⟨b21, 0, none⟩)), (5, .pointer (some ⟨b28, 0, none⟩)), (6, .pointer (some ⟨b35, 0, none⟩)), (8, .func (.func 63) #[] #[]), (9, .slice A674 r671.1.length c675), (11, .pointer (some ⟨b701, 0, none⟩)), (50, .int .i64 (r687.1.Data.length : Int)), (51, .int .i64 (w64 (s716.1 + 1)))] := hf850.se [4, 5, 6, 8, 9, 11, 50, 51]
      have hm852 : Mem [] M w0 [.bx b701 [.slice A690 r687.1.Shape.length c691, .slice A692 s716.2.length c693] 29, .ow (Kd.int .i64) 3 A690 c691 r687.1.Shape, .ow Kd.float 26 A692 c693 (put s716.2 s716.1 r745), .sl (Kd.int .i64) A674 c675 r671.1, .bx b35 [.slice none 0 0, .slice none 0 0] 29, .bx b28 [.slice A2_0 x2.Shape.length c2_0, .slice A2_1 x2.Data.length c2_1] 29, .bx b21 [.slice A1_0 x1.Shape.length c1_0, .slice A1_1 x1.Data.length c1_1] 29, .sl (Kd.int .i64) A1_0 c1_0 x1.Shape, .sl Kd.float A1_1 c1_1 x1.Data, .sl (Kd.int .i64) A2_0 c2_0 x2.Shape, .sl Kd.float A2_1 c2_1 x2.Data] w846 := hm848.se [0, 1, 2, 3, 4, 5, 6, 7, 8, 9, 10] _ rfl
      exact ⟨((w64 (s716.1 + 1)), (put s716.2 s716.1 r745)), H1, (by simpa only [put_length, List.length_nil] using hf851), (by simpa only [put_length, List.length_nil] using hm852)⟩
    rintro a855 w856 ⟨hf857, hm858⟩
    refine thenN ?_
    refine wp_seq ?_
    refine inReg ?_
    refine gg 1 [.agg #[.slice A690 r687.1.Shape.length c691, .slice A692 r717.2.length c693]] [(6, vp b35), (80, .agg #[.slice A690 r687.1.Shape.length c691, .slice A692 r717.2.length c693])] hf857 (oc (hm858.cell (j := 0) 0 rfl rfl) (oc (hm858.cell (j := 1) 0 rfl rfl) ot)) fun a859 hf860 => ?_
    refine lo hf860 rfl (sb (j := 0) (us := [.slice A690 r687.1.Shape.length c691, .slice A692 r717.2.length c693]) (cs' := [.slice A690 r687.1.Shape.length c691, .slice A692 r717.2.length c693]) hf860 (hm858.bxAt 4 rfl) ?_)
    intro w861 hx862 hg863
    have hm864 := hm858.setBox 4 _ rfl rfl hx862 hg863
    refine gg 1 [] [(6, vp b35), (7, vi 0)] hf860 ot fun a865 hf866 => ?_
    refine endL rfl ?_
    have hm867 := hm864.se [1, 2, 4] _ rfl
    refine thenN ?_
    refine wp_ret ?_
    have hm868 : Mem [] M w0 [.ow (Kd.int .i64) 3 A690 c691 r687.1.Shape, .ow Kd.float 26 A692 c693 r717.2] w861 := hm867.se [0, 1] _ rfl
    obtain rfl := Option.some.inj H0
    refine rt [.agg #[.slice A690 r687.1.Shape.length c691, .slice A692 r717.2.length c693]] [.agg #[.slice A690 r687.1.Shape.length c691, .slice A692 r717.2.length c693], .int .i64 0] hf866 (oc (hm867.cell (j := 0) 2 rfl rfl) (oc (hm867.cell (j := 1) 2 rfl rfl) ot)) ?_
    exact ⟨_, rfl, A690, c691, A692, c693, rfl, hm868⟩
  rcases if_split H0 with ⟨c936, H0⟩ | ⟨c936, H0⟩
  rotate_left
  · refine inReg ?_
    refine gg 1 [] [(4, vp b21), (5, vp b28), (6, vp b35), (15, vi x0)] hf43 ot fun a1233 hf1234 => ?_
    refine lo hf1234 rfl (cl 16 hf1234 callable49 (kernel_two.calls4 _ _ x0 (hm41.give [] [] rfl rfl) c44 c342 c639 c936) ?_)
    rintro _ w1235 a1236 ⟨rfl, hk1238⟩ hf1237
    have hm1239 := hm41.still hk1238.cum.none
    refine gg 1 [] [(4, vp b21), (5, vp b28), (6, vp b35), (8, .nilFunc)] hf1237 ot fun a1240 hf1241 => ?_
    refine endL rfl ?_
    refine thenN ?_
    refine wp_seq ?_
    refine wp_block ?_
    refine wp_seq ?_
    refine rg [] [(4, vp b21), (5, vp b28), (6, vp b35), (8, .nilFunc), (17, .bool true)] hf1241 ot fun a1242 hf1243 => ?_
    refine thenN ?_
    refine cT hf1243 ?_
    refine wp_seq ?_
    refine inReg ?_
    refine gg 1 [] [(6, vp b35), (20, .agg #[.slice none 0 0, .slice none 0 0])] hf1243 ot fun a1244 hf1245 => ?_
    refine lo hf1245 rfl (sb (j := 0) (us := [.slice none 0 0, .slice none 0 0]) (cs' := [.slice none 0 0, .slice none 0 0]) hf1245 (hm1239.bxAt 0 rfl) ?_)
    intro w1246 hx1247 hg1248
    have hm1249 := hm1239.setBox 0 _ rfl rfl hx1247 hg1248
    refine gg 1 [] [(6, vp b35), (7, vi 4)] hf1245 ot fun a1250 hf1251 => ?_
    refine endL rfl ?_
    have hm1252 := hm1249.se [0] _ rfl
    refine thenN ?_
    refine wp_ret ?_
    refine blkR ?_
    refine thenR ?_
    have hm1253 := hm1252.nilOw (Kd.int .i64) 3
    have hm1254 := hm1253.nilOw Kd.float 26
    have hm1255 : Mem [] M w0 [.ow (Kd.int .i64) 3 none 0 ([] : (List Int)), .ow Kd.float 26 none 0 ([] : (List Nat))] w1246 := hm1254.se [1, 0] _ rfl
    obtain rfl := Option.some.inj H0
    refine rt [.agg #[.slice none 0 0, .slice none 0 0]] [.agg #[.slice none 0 0, .slice none 0 0], .int .i64 4] hf1251 (oc (hm1252.cell (j := 0) 0 rfl rfl) (oc (hm1252.cell (j := 1) 0 rfl rfl) ot)) ?_
    exact ⟨_, rfl, none, 0, none, 0, rfl, hm1255⟩
  refine inReg ?_
  refine gg 1 [] [(4, vp b21), (5, vp b28), (6, vp b35), (15, vi x0)] hf43 ot fun a937 hf938 => ?_
  refine lo hf938 rfl (cl 16 hf938 callable49 (kernel_two.calls3 _ _ x0 (hm41.give [] [] rfl rfl) c44 c342 c639 c936) ?_)
  rintro _ w939 a940 ⟨rfl, hk942⟩ hf941
  have hm943 := hm41.still hk942.cum.none
  refine gg 1 [] [(4, vp b21), (5, vp b28), (6, vp b35), (8, .func (.func 64) #[] #[])] hf941 ot fun a944 hf945 => ?_
  refine endL rfl ?_
  refine thenN ?_
  refine wp_seq ?_
  refine wp_block ?_
  refine wp_seq ?_
  refine rg [] [(4, vp b21), (5, vp b28), (6, vp b35), (8, .func (.func 64) #[] #[]), (17, .bool false)] hf945 ot fun a946 hf947 => ?_
  refine thenN ?_
  refine cF hf947 ?_
  refine wp_seq ?_
  obtain ⟨r948, hr948, H0⟩ := ob_split H0
  rcases ifb_split H0 with ⟨c949, H0⟩ | ⟨c949, H0⟩
  rotate_left
  · refine inReg ?_
    refine gg 1 [.agg #[.slice A1_0 x1.Shape.length c1_0, .slice A1_1 x1.Data.length c1_1]] [(4, vp b21), (5, vp b28), (6, vp b35), (8, .func (.func 64) #[] #[]), (22, .agg #[.slice A1_0 x1.Shape.length c1_0, .slice A1_1 x1.Data.length c1_1])] hf947 (oc (hm943.cell (j := 0) 2 rfl rfl) (oc (hm943.cell (j := 1) 2 rfl rfl) ot)) fun a1211 hf1212 => ?_
    refine lo hf1212 rfl (cl 23 hf1212 callable32 (tensor_May.calls _ _ _ _ _ _ rfl _ _ _ rfl (hm943.give [3, 4] [.sl (Kd.int .i64) A1_0 c1_0 x1.Shape, .sl Kd.float A1_1 c1_1 x1.Data] rfl rfl) r948 hr948) ?_)
    rintro _ w1213 a1214 ⟨rfl, hk1216⟩ hf1215
    have hm1217 := hm943.still hk1216.cum.none
    rw [c949] at hf1215
    refine gg 7 [] [(4, vp b21), (5, vp b28), (6, vp b35), (8, .func (.func 64) #[] #[]), (21, .bool true)] hf1215 ot fun a1218 hf1219 => ?_
    refine endL rfl ?_
    refine thenN ?_
    refine cT hf1219 ?_
    refine wp_seq ?_
    refine inReg ?_
    refine gg 1 [] [(6, vp b35), (30, .agg #[.slice none 0 0, .slice none 0 0])] hf1219 ot fun a1220 hf1221 => ?_
    refine lo hf1221 rfl (sb (j := 0) (us := [.slice none 0 0, .slice none 0 0]) (cs' := [.slice none 0 0, .slice none 0 0]) hf1221 (hm1217.bxAt 0 rfl) ?_)
    intro w1222 hx1223 hg1224
    have hm1225 := hm1217.setBox 0 _ rfl rfl hx1223 hg1224
    refine gg 1 [] [(6, vp b35), (7, vi 2)] hf1221 ot fun a1226 hf1227 => ?_
    refine endL rfl ?_
    have hm1228 := hm1225.se [0] _ rfl
    refine thenN ?_
    refine wp_ret ?_
    refine blkR ?_
    refine thenR ?_
    have hm1229 := hm1228.nilOw (Kd.int .i64) 3
    have hm1230 := hm1229.nilOw Kd.float 26
    have hm1231 : Mem [] M w0 [.ow (Kd.int .i64) 3 none 0 ([] : (List Int)), .ow Kd.float 26 none 0 ([] : (List Nat))] w1222 := hm1230.se [1, 0] _ rfl
    obtain rfl := Option.some.inj H0
    refine rt [.agg #[.slice none 0 0, .slice none 0 0]] [.agg #[.slice none 0 0, .slice none 0 0], .int .i64 2] hf1227 (oc (hm1228.cell (j := 0) 0 rfl rfl) (oc (hm1228.cell (j := 1) 0 rfl rfl) ot)) ?_
    exact ⟨_, rfl, none, 0, none, 0, rfl, hm1231⟩
  obtain ⟨r950, hr950, H0⟩ := ob_split H0
  rcases ifb_split H0 with ⟨c951, H0⟩ | ⟨c951, H0⟩
  rotate_left
  · refine inReg ?_
    refine gg 1 [.agg #[.slice A1_0 x1.Shape.length c1_0, .slice A1_1 x1.Data.length c1_1]] [(4, vp b21), (5, vp b28), (6, vp b35), (8, .func (.func 64) #[] #[]), (22, .agg #[.slice A1_0 x1.Shape.length c1_0, .slice A1_1 x1.Data.length c1_1])] hf947 (oc (hm943.cell (j := 0) 2 rfl rfl) (oc (hm943.cell (j := 1) 2 rfl rfl) ot)) fun a1182 hf1183 => ?_
    refine lo hf1183 rfl (cl 23 hf1183 callable32 (tensor_May.calls _ _ _ _ _ _ rfl _ _ _ rfl (hm943.give [3, 4] [.sl (Kd.int .i64) A1_0 c1_0 x1.Shape, .sl Kd.float A1_1 c1_1 x1.Data] rfl rfl) r948 hr948) ?_)
    rintro _ w1184 a1185 ⟨rfl, hk1187⟩ hf1186
    have hm1188 := hm943.still hk1187.cum.none
    rw [c949] at hf1186
    refine gg 3 [.agg #[.slice A2_0 x2.Shape.length c2_0, .slice A2_1 x2.Data.length c2_1]] [(4, vp b21), (5, vp b28), (6, vp b35), (8, .func (.func 64) #[] #[]), (25, .bool false), (26, .agg #[.slice A2_0 x2.Shape.length c2_0, .slice A2_1 x2.Data.length c2_1])] hf1186 (oc (hm1188.cell (j := 0) 1 rfl rfl) (oc (hm1188.cell (j := 1) 1 rfl rfl) ot)) fun a1189 hf1190 => ?_
    refine lo hf1190 rfl (cl 27 hf1190 callable32 (tensor_May.calls _ _ _ _ _ _ rfl _ _ _ rfl (hm1188.give [5, 6] [.sl (Kd.int .i64) A2_0 c2_0 x2.Shape, .sl Kd.float A2_1 c2_1 x2.Data] rfl rfl) r950 hr950) ?_)
    rintro _ w1191 a1192 ⟨rfl, hk1194⟩ hf1193
    have hm1195 := hm1188.still hk1194.cum.none
    rw [c951] at hf1193
    refine gg 3 [] [(4, vp b21), (5, vp b28), (6, vp b35), (8, .func (.func 64) #[] #[]), (21, .bool true)] hf1193 ot fun a1196 hf1197 => ?_
    refine endL rfl ?_
    refine thenN ?_
    refine cT hf1197 ?_
    refine wp_seq ?_
    refine inReg ?_
    refine gg 1 [] [(6, vp b35), (30, .agg #[.slice none 0 0, .slice none 0 0])] hf1197 ot fun a1198 hf1199 => ?_
    refine lo hf1199 rfl (sb (j := 0) (us := [.slice none 0 0, .slice none 0 0]) (cs' := [.slice none 0 0, .slice none 0 0]) hf1199 (hm1195.bxAt 0 rfl) ?_)
    intro w1200 hx1201 hg1202
    have hm1203 := hm1195.setBox 0 _ rfl rfl hx1201 hg1202
    refine gg 1 [] [(6, vp b35), (7, vi 2)] hf1199 ot fun a1204 hf1205 => ?_
    refine endL rfl ?_
    have hm1206 := hm1203.se [0] _ rfl
    refine thenN ?_
    refine wp_ret ?_
    refine blkR ?_
    refine thenR ?_
    have hm1207 := hm1206.nilOw (Kd.int .i64) 3
    have hm1208 := hm1207.nilOw Kd.float 26
    have hm1209 : Mem [] M w0 [.ow (Kd.int .i64) 3 none 0 ([] : (List Int)), .ow Kd.float 26 none 0 ([] : (List Nat))] w1200 := hm1208.se [1, 0] _ rfl
    obtain rfl := Option.some.inj H0
    refine rt [.agg #[.slice none 0 0, .slice none 0 0]] [.agg #[.slice none 0 0, .slice none 0 0], .int .i64 2] hf1205 (oc (hm1206.cell (j := 0) 0 rfl rfl) (oc (hm1206.cell (j := 1) 0 rfl rfl) ot)) ?_
    exact ⟨_, rfl, none, 0, none, 0, rfl, hm1209⟩
  refine inReg ?_
  refine gg 1 [.agg #[.slice A1_0 x1.Shape.length c1_0, .slice A1_1 x1.Data.length c1_1]] [(4, vp b21), (5, vp b28), (6, vp b35), (8, .func (.func 64) #[] #[]), (22, .agg #[.slice A1_0 x1.Shape.length c1_0, .slice A1_1 x1.Data.length c1_1])] hf947 (oc (hm943.cell (j := 0) 2 rfl rfl) (oc (hm943.cell (j := 1) 2 rfl rfl) ot)) fun a952 hf953 => ?_
  refine lo hf953 rfl (cl 23 hf953 callable32 (tensor_May.calls _ _ _ _ _ _ rfl _ _ _ rfl (hm943.give [3, 4] [.sl (Kd.int .i64) A1_0 c1_0 x1.Shape, .sl Kd.float A1_1 c1_1 x1.Data] rfl rfl) r948 hr948) ?_)
  rintro _ w954 a955 ⟨rfl, hk957⟩ hf956
  have hm958 := hm943.still hk957.cum.none
  rw [c949] at hf956
  refine gg 3 [.agg #[.slice A2_0 x2.Shape.length c2_0, .slice A2_1 x2.Data.length c2_1]] [(4, vp b21), (5, vp b28), (6, vp b35), (8, .func (.func 64) #[] #[]), (25, .bool false), (26, .agg #[.slice A2_0 x2.Shape.length c2_0, .slice A2_1 x2.Data.length c2_1])] hf956 (oc (hm958.cell (j := 0) 1 rfl rfl) (oc (hm958.cell (j := 1) 1 rfl rfl) ot)) fun a959 hf960 => ?_
  refine lo hf960 rfl (cl 27 hf960 callable32 (tensor_May.calls _ _ _ _ _ _ rfl _ _ _ rfl (hm958.give [5, 6] [.sl (Kd.int .i64) A2_0 c2_0 x2.Shape, .sl Kd.float A2_1 c2_1 x2.Data] rfl rfl) r950 hr950) ?_)
  rintro _ w961 a962 ⟨rfl, hk964⟩ hf963
  have hm965 := hm958.still hk964.cum.none
  rw [c951] at hf963
  refine gg 3 [] [(4, vp b21), (5, vp b28), (6, vp b35), (8, .func (.func 64) #[] #[]), (21, .bool false)] hf963 ot fun a966 hf967 => ?_
  refine endL rfl ?_
  refine thenN ?_
  refine cF hf967 ?_
  refine wp_skip ?_
  refine blkN ?_
  refine thenN ?_
  refine wp_seq ?_
  obtain ⟨r968, hr968, H0⟩ := ob_split H0
  refine inReg ?_
  refine gg 4 [.slice A1_0 x1.Shape.length c1_0, .slice A2_0 x2.Shape.length c2_0] [(4, vp b21), (5, vp b28), (6, vp b35), (8, .func (.func 64) #[] #[]), (33, .slice A1_0 x1.Shape.length c1_0), (35, .slice A2_0 x2.Shape.length c2_0)] hf967 (oc (hm965.cell (j := 0) 2 rfl rfl) (oc (hm965.cell (j := 0) 1 rfl rfl) ot)) fun a969 hf970 => ?_
  refine lo hf970 rfl (cl 36 hf970 callable50 (shape_Spread.calls _ _ _ _ _ _ rfl _ _ _ _ rfl (hm965.give [3, 5] [.sl (Kd.int .i64) A1_0 c1_0 x1.Shape, .sl (Kd.int .i64) A2_0 c2_0 x2.Shape] rfl rfl) r968 hr968) ?_)
  rintro _ w973 a974 ⟨A971, c972, rfl, hk976⟩ hf975
  have hm977 := hm965.back hk976
  have hm978 := hm977.seal 0 _ rfl rfl
  refine gg 5 [] [(4, vp b21), (5, vp b28), (6, vp b35), (8, .func (.func 64) #[] #[]), (9, .slice A971 r968.1.length c972), (10, vi r968.2)] hf975 ot fun a979 hf980 => ?_
  refine endL rfl ?_
  refine thenN ?_
  refine wp_seq ?_
  refine wp_seq ?_
  rcases if_split H0 with ⟨c981, H0⟩ | ⟨c981, H0⟩
  rotate_left
  · refine rg [.bool true] [(4, vp b21), (5, vp b28), (6, vp b35), (8, .func (.func 64) #[] #[]), (9, .slice A971 r968.1.length c972), (10, vi r968.2), (40, .bool true)] hf980 (oi (neT c981) ot) fun a1167 hf1168 => ?_
    refine thenN ?_
    refine cT hf1168 ?_
    refine wp_seq ?_
    refine inReg ?_
    refine gg 2 [] [(6, vp b35), (41, .agg #[.slice none 0 0, .slice none 0 0]), (42, vi r968.2)] hf1168 ot fun a1169 hf1170 => ?_
    refine lo hf1170 rfl (sb (j := 0) (us := [.slice none 0 0, .slice none 0 0]) (cs' := [.slice none 0 0, .slice none 0 0]) hf1170 (hm978.bxAt 1 rfl) ?_)
    intro w1171 hx1172 hg1173
    have hm1174 := hm978.setBox 1 _ rfl rfl hx1172 hg1173
    refine gg 1 [] [(6, vp b35), (7, vi r968.2)] hf1170 ot fun a1175 hf1176 => ?_
    refine endL rfl ?_
    have hm1177 := hm1174.se [1] _ rfl
    refine thenN ?_
    refine wp_ret ?_
    refine thenR ?_
    have hm1178 := hm1177.nilOw (Kd.int .i64) 3
    have hm1179 := hm1178.nilOw Kd.float 26
    have hm1180 : Mem [] M w0 [.ow (Kd.int .i64) 3 none 0 ([] : (List Int)), .ow Kd.float 26 none 0 ([] : (List Nat))] w1171 := hm1179.se [1, 0] _ rfl
    obtain rfl := Option.some.inj H0
    refine rt [.agg #[.slice none 0 0, .slice none 0 0]] [.agg #[.slice none 0 0, .slice none 0 0], .int .i64 r968.2] hf1176 (oc (hm1177.cell (j := 0) 0 rfl rfl) (oc (hm1177.cell (j := 1) 0 rfl rfl) ot)) ?_
    exact ⟨_, rfl, none, 0, none, 0, rfl, hm1180⟩
  refine rg [.bool false] [(4, vp b21), (5, vp b28), (6, vp b35), (8, .func (.func 64) #[] #[]), (9, .slice A971 r968.1.length c972), (10, vi r968.2), (40, .bool false)] hf980 (oi (neF c981) ot) fun a982 hf983 => ?_
  refine thenN ?_
  refine cF hf983 ?_
  refine wp_skip ?_
  refine thenN ?_
  refine wp_seq ?_
  obtain ⟨r984, hr984, H0⟩ := ob_split H0
  refine inReg ?_
  refine gg 1 [] [(4, vp b21), (5, vp b28), (6, vp b35), (8, .func (.func 64) #[] #[]), (9, .slice A971 r968.1.length c972), (44, .slice A971 r968.1.length c972)] hf983 ot fun a985 hf986 => ?_
  refine lo hf986 rfl (cl 45 hf986 callable47 (tensor_New.calls _ _ _ _ _ _ rfl 0 0 ((FR.lit (by kernel_rfl) (by kernel_rfl))) (hm978.give [0] [.sl (Kd.int .i64) A971 c972 r968.1] rfl rfl) r984 hr984) ?_)
  rintro _ w991 a992 ⟨A987, c988, A989, c990, rfl, hk994⟩ hf993
  have hm995 := hm978.back hk994
  refine gg 3 [] [(4, vp b21), (5, vp b28), (6, vp b35), (8, .func (.func 64) #[] #[]), (9, .slice A971 r968.1.length c972), (46, .agg #[.slice A987 r984.1.Shape.length c988, .slice A989 r984.1.Data.length c990]), (47, vi r984.2)] hf993 ot fun a996 hf997 => ?_
  refine lo hf997 rfl (nw (cs := [.slice none 0 0, .slice none 0 0]) (T := 29) (d := 11) hf997 ?_)
  intro b998 w999 a1000 hbb998 hx1002 hg1003 hf1001
  have hm1004 := hm995.box hbb998 hx1002 hg1003
  refine lo hf1001 rfl (sb (j := 0) (us := [.slice A987 r984.1.Shape.length c988, .slice A989 r984.1.Data.length c990]) (cs' := [.slice A987 r984.1.Shape.length c988, .slice A989 r984.1.Data.length c990]) hf1001 (hm1004.bxAt 0 rfl) ?_)
  intro w1005 hx1006 hg1007
  have hm1008 := hm1004.setBox 0 _ rfl rfl hx1006 hg1007
  refine gg 1 [] [(4, vp b21), (5, vp b28), (6, vp b35), (8, .func (.func 64) #[] #[]), (9, .slice A971 r968.1.length c972), (11, vp b998)] hf1001 ot fun a1009 hf1010 => ?_
  refine endL rfl ?_
  refine thenN ?_
  refine wp_seq ?_
  refine wp_seq ?_
  refine rg [.slice A989 r984.1.Data.length c990] [(4, vp b21), (5, vp b28), (6, vp b35), (8, .func (.func 64) #[] #[]), (9, .slice A971 r968.1.length c972), (11, vp b998), (50, vi (r984.1.Data.length : Int)), (51, vi 0)] hf1010 (oc (hm1008.cell (j := 1) 0 rfl rfl) ot) fun a1011 hf1012 => ?_
  refine thenN ?_
  obtain ⟨r1014, hr1014, H0⟩ := ob_split H0
  refine wpBlock (Mid := fun (a : Act) (w : World) => Fr 81 a [(4, .pointer (some ⟨b21, 0, none⟩)), (5, .pointer (some ⟨b28, 0, none⟩)), (6, .pointer (some ⟨b35, 0, none⟩)), (8, .func (.func 64) #[] #[]), (9, .slice A971 r968.1.length c972), (11, .pointer (some ⟨b998, 0, none⟩)), (50, .int .i64 (r984.1.Data.length : Int)), (51, .int .i64 r1014.1)] ∧ Mem [] M w0 [.bx b998 [.slice A987 r984.1.Shape.length c988, .slice A989 r1014.2.length c990] 29, .ow (Kd.int .i64) 3 A987 c988 r984.1.Shape, .ow Kd.float 26 A989 c990 r1014.2, .sl (Kd.int .i64) A971 c972 r968.1, .bx b35 [.slice none 0 0, .slice none 0 0] 29, .bx b28 [.slice A2_0 x2.Shape.length c2_0, .slice A2_1 x2.Data.length c2_1] 29, .bx b21 [.slice A1_0 x1.Shape.length c1_0, .slice A1_1 x1.Data.length c1_1] 29, .sl (Kd.int .i64) A1_0 c1_0 x1.Shape, .sl Kd.float A1_1 c1_1 x1.Data, .sl (Kd.int .i64) A2_0 c2_0 x2.Shape, .sl Kd.float A2_1 c2_1 x2.Data] w) ?_ ?_
  · refine wpLoop (kernel_Two.l3 r984 r968 x1 x2) r1014 (fun (s1013 : (Int × (List Nat))) (a : Act) (w : World) => Fr 81 a [(4, .pointer (some ⟨b21, 0, none⟩)), (5, .pointer (some ⟨b28, 0, none⟩)), (6, .pointer (some ⟨b35, 0, none⟩)), (8, .func (.func 64) #[] #[]), (9, .slice A971 r968.1.length c972), (11, .pointer (some ⟨b998, 0, none⟩)), (50, .int .i64 (r984.1.Data.length : Int)), (51, .int .i64 s1013.1)] ∧ Mem [] M w0 [.bx b998 [.slice A987 r984.1.Shape.length c988, .slice A989 s1013.2.length c990] 29, .ow (Kd.int .i64) 3 A987 c988 r984.1.Shape, .ow Kd.float 26 A989 c990 s1013.2, .sl (Kd.int .i64) A971 c972 r968.1, .bx b35 [.slice none 0 0, .slice none 0 0] 29, .bx b28 [.slice A2_0 x2.Shape.length c2_0, .slice A2_1 x2.Data.length c2_1] 29, .bx b21 [.slice A1_0 x1.Shape.length c1_0, .slice A1_1 x1.Data.length c1_1] 29, .sl (Kd.int .i64) A1_0 c1_0 x1.Shape, .sl Kd.float A1_1 c1_1 x1.Data, .sl (Kd.int .i64) A2_0 c2_0 x2.Shape, .sl Kd.float A2_1 c2_1 x2.Data] w) (0, r984.1.Data) hr1014 ⟨hf1012.se [4, 5, 6, 8, 9, 11, 50, 51], hm1008.se [0, 1, 2, 3, 4, 5, 6, 7, 8, 9, 10] _ rfl⟩ ?_
    rintro g1015 s1013 a1016 w1017 H1 ⟨hf1018, hm1019⟩
    unfold kernel_Two.l3 at H1
    refine wp_seq ?_
    rcases ifS_split H1 with ⟨c1020, H1⟩ | ⟨c1020, H1⟩
    rotate_left
    · refine rg (ob := [.is (decide (s1013.1 < (r984.1.Data.length : Int)) = false)]) [.bool false] [(4, vp b21), (5, vp b28), (6, vp b35), (8, .func (.func 64) #[] #[]), (9, .slice A971 r968.1.length c972), (11, vp b998), (50, vi (r984.1.Data.length : Int)), (51, vi s1013.1), (52, .bool false)] hf1018 ⟨(decide_eq_false c1020), trivial⟩ fun a1150 hf1151 => ?_
      refine thenN ?_
      refine wp_seq ?_
      refine cF hf1151 ?_
      refine wp_exit ?_
      refine thenE ?_
      refine thenE ?_
      obtain rfl := Option.some.inj H1
      exact .inl ⟨rfl, hf1151.se [4, 5, 6, 8, 9, 11, 50, 51], hm1019.se [0, 1, 2, 3, 4, 5, 6, 7, 8, 9, 10] _ rfl⟩
    refine rg (ob := [.is (decide (s1013.1 < (r984.1.Data.length : Int)) = true)]) [.bool true] [(4, vp b21), (5, vp b28), (6, vp b35), (8, .func (.func 64) #[] #[]), (9, .slice A971 r968.1.length c972), (11, vp b998), (50, vi (r984.1.Data.length : Int)), (51, vi s1013.1), (52, .bool true)] hf1018 ⟨(decide_eq_true c1020), trivial⟩ fun a1021 hf1022 => ?_
    refine thenN ?_
    refine wp_seq ?_
    refine cT hf1022 ?_
    refine wp_skip ?_
    refine thenN ?_
    refine wp_seq ?_
    refine wp_block ?_
    refine wp_seq ?_
    refine rg [] [(4, vp b21), (5, vp b28), (6, vp b35), (8, .func (.func 64) #[] #[]), (9, .slice A971 r968.1.length c972), (11, vp b998), (13, vi s1013.1), (50, vi (r984.1.Data.length : Int)), (51, vi s1013.1)] hf1022 ot fun a1023 hf1024 => ?_
    refine thenN ?_
    refine wp_seq ?_
    obtain ⟨r1025, hr1025, H1⟩ := obS_split H1
    refine inReg ?_
    refine gg 2 [] [(4, vp b21), (5, vp b28), (6, vp b35), (8, .func (.func 64) #[] #[]), (9, .slice A971 r968.1.length c972), (11, vp b998), (13, vi s1013.1), (50, vi (r984.1.Data.length : Int)), (51, vi s1013.1), (54, .slice A971 r968.1.length c972), (55, vi s1013.1)] hf1024 ot fun a1026 hf1027 => ?_
    refine lo hf1027 rfl (cl 56 hf1027 callable51 (shape_Place.calls _ _ _ _ _ _ rfl s1013.1 (hm1019.give [3] [.sl (Kd.int .i64) A971 c972 r968.1] rfl rfl) r1025 hr1025) ?_)
    rintro _ w1030 a1031 ⟨A1028, c1029, rfl, hk1033⟩ hf1032
    have hm1034 := hm1019.back hk1033
    have hm1035 := hm1034.seal 0 _ rfl rfl
    refine gg 1 [] [(4, vp b21), (5, vp b28), (6, vp b35), (8, .func (.func 64) #[] #[]), (9, .slice A971 r968.1.length c972), (11, vp b998), (13, vi s1013.1), (14, .slice A1028 r1025.length c1029), (50, vi (r984.1.Data.length : Int)), (51, vi s1013.1)] hf1032 ot fun a1036 hf1037 => ?_
    refine endL rfl ?_
    refine thenN ?_
    obtain ⟨r1038, hr1038, H1⟩ := obS_split H1
    obtain ⟨g1039, H1⟩ := ifS_guard H1
    obtain ⟨r1040, hr1040, H1⟩ := obS_split H1
    obtain ⟨g1041, H1⟩ := ifS_guard H1
    obtain ⟨r1042, hr1042, H1⟩ := obS_split H1
    obtain ⟨g1043, H1⟩ := ifS_guard H1
    refine midReg (fun (a : Act) (w : World) => Fr 81 a [(4, .pointer (some ⟨b21, 0, none⟩)), (5, .pointer (some ⟨b28, 0, none⟩)), (6, .pointer (some ⟨b35, 0, none⟩)), (8, .func (.func 64) #[] #[]), (9, .slice A971 r968.1.length c972), (11, .pointer (some ⟨b998, 0, none⟩)), (50, .int .i64 (r984.1.Data.length : Int)), (51, .int .i64 s1013.1)] ∧ Mem [] M w0 [.bx b998 [.slice A987 r984.1.Shape.length c988, .slice A989 s1013.2.length c990] 29, .ow (Kd.int .i64) 3 A987 c988 r984.1.Shape, .ow Kd.float 26 A989 c990 (put s1013.2 s1013.1 r1042), .sl (Kd.int .i64) A971 c972 r968.1, .bx b35 [.slice none 0 0, .slice none 0 0] 29, .bx b28 [.slice A2_0 x2.Shape.length c2_0, .slice A2_1 x2.Data.length c2_1] 29, .bx b21 [.slice A1_0 x1.Shape.length c1_0, .slice A1_1 x1.Data.length c1_1] 29, .sl (Kd.int .i64) A1_0 c1_0 x1.Shape, .sl Kd.float A1_1 c1_1 x1.Data, .sl (Kd.int .i64) A2_0 c2_0 x2.Shape, .sl Kd.float A2_1 c2_1 x2.Data] w) ?_ ?_
    · refine anyG (K := []) [22] (by kernel_rfl) fun w1071 hg1072 => ?_
      have hm1073 := hm1035.still hg1072
      refine qt [0, 1, 2, 3, 4, 5, 6, 7, 8, 12, 13, 14, 15, 16] [.slice A989 s1013.2.length c990, .slice A1_1 x1.Data.length c1_1, .slice A1_0 x1.Shape.length c1_0, .slice A2_1 x2.Data.length c2_1, .slice A2_0 x2.Shape.length c2_0] (fb 23 127487) [(4, vp b21), (5, vp b28), (6, vp b35), (8, .func (.func 64) #[] #[]), (9, .slice A971 r968.1.length c972), (11, vp b998), (50, vi (r984.1.Data.length : Int)), (51, vi s1013.1), (58, .slice A989 s1013.2.length c990), (59, vi s1013.1), (60, .func (.func 64) #[] #[]), (62, .slice A1_1 x1.Data.length c1_1), (64, .slice A1_0 x1.Shape.length c1_0), (65, .slice A1028 r1025.length c1029), (70, .slice A2_1 x2.Data.length c2_1), (72, .slice A2_0 x2.Shape.length c2_0), (73, .slice A1028 r1025.length c1029)] 9 hf1037 (oc (hm1073.cell (j := 1) 1 rfl rfl) (oc (hm1073.cell (j := 1) 7 rfl rfl) (oc (hm1073.cell (j := 0) 7 rfl rfl) (oc (hm1073.cell (j := 1) 6 rfl rfl) (oc (hm1073.cell (j := 0) 6 rfl rfl) ot))))) fun a1108 hf1109 => ?_
      refine a1 9 ?_
      refine oo hf1109 rfl (cl 66 hf1109 callable52 (kernel_from.calls _ _ _ _ _ _ rfl _ _ _ _ rfl (hm1073.give [8, 0] [.sl (Kd.int .i64) A1_0 c1_0 x1.Shape, .sl (Kd.int .i64) A1028 c1029 r1025] rfl rfl) r1038 hr1038) ?_)
      rintro _ w1110 a1111 ⟨rfl, hk1113⟩ hf1112
      refine ⟨.inr (Gr.still hk1113.cum.none), ?_⟩
      have hm1114 := hm1073.still hk1113.cum.none
      have q1115 := (hm1114.slAt 9 rfl).float r1038 g1039.1 g1039.2
      obtain ⟨b1116, hb1116, kb1116⟩ := q1115.2
      refine qt [10, 11] [.float .f64 b1116] (fb 23 131071) [(4, vp b21), (5, vp b28), (6, vp b35), (8, .func (.func 64) #[] #[]), (9, .slice A971 r968.1.length c972), (11, vp b998), (50, vi (r984.1.Data.length : Int)), (51, vi s1013.1), (58, .slice A989 s1013.2.length c990), (59, vi s1013.1), (60, .func (.func 64) #[] #[]), (68, vf b1116), (70, .slice A2_1 x2.Data.length c2_1), (72, .slice A2_0 x2.Shape.length c2_0), (73, .slice A1028 r1025.length c1029)] 6 hf1112 (oi q1115.1 (oi g1039 (oc kb1116 ot))) fun a1117 hf1118 => ?_
      refine a1 17 ?_
      refine oo hf1118 rfl (cl 74 hf1118 callable52 (kernel_from.calls _ _ _ _ _ _ rfl _ _ _ _ rfl (hm1114.give [10, 0] [.sl (Kd.int .i64) A2_0 c2_0 x2.Shape, .sl (Kd.int .i64) A1028 c1029 r1025] rfl rfl) r1040 hr1040) ?_)
      rintro _ w1119 a1120 ⟨rfl, hk1122⟩ hf1121
      refine ⟨.inr (Gr.still hk1122.cum.none), ?_⟩
      have hm1123 := hm1114.still hk1122.cum.none
      have q1124 := (hm1123.slAt 11 rfl).float r1040 g1041.1 g1041.2
      obtain ⟨b1125, hb1125, kb1125⟩ := q1124.2
      refine qt [18, 19] [.float .f64 b1125] (fb 23 1048575) [(4, vp b21), (5, vp b28), (6, vp b35), (8, .func (.func 64) #[] #[]), (9, .slice A971 r968.1.length c972), (11, vp b998), (50, vi (r984.1.Data.length : Int)), (51, vi s1013.1), (58, .slice A989 s1013.2.length c990), (59, vi s1013.1), (60, .func (.func 64) #[] #[]), (68, vf b1116), (76, vf b1125)] 3 hf1121 (oi q1124.1 (oi g1041 (oc kb1125 ot))) fun a1126 hf1127 => ?_
      refine a1 20 ?_
      refine oo hf1127 rfl (cl 77 hf1127 callable64 (kernel_two_4.calls _ _ (rd x1.Data r1038) b1116 hb1116 (rd x2.Data r1040) b1125 hb1125 (hm1123.give [] [] rfl rfl) r1042 hr1042) ?_)
      rintro _ w1129 a1130 ⟨b1128, rfl, hb1128, hk1132⟩ hf1131
      refine ⟨.inr (Gr.still hk1132.cum.none), ?_⟩
      have hm1133 := hm1123.still hk1132.cum.none
      have q1134 := (hm1133.owAt 3 rfl).float s1013.1 g1043.1 g1043.2
      obtain ⟨b1135, hb1135, kb1135⟩ := q1134.2
      refine qt [21] [] (fb 23 4194303) [(4, vp b21), (5, vp b28), (6, vp b35), (8, .func (.func 64) #[] #[]), (9, .slice A971 r968.1.length c972), (11, vp b998), (50, vi (r984.1.Data.length : Int)), (51, vi s1013.1), (77, vf b1128), (78, .pointer (some ((ad A989).add ((s1013.1).toNat * 1))))] 1 hf1131 (oi q1134.1 (oi g1043 ot)) fun a1136 hf1137 => ?_
      refine a1 22 ?_
      refine oo hf1137 rfl (so (i := s1013.1) (x := r1042) (us := [.float .f64 b1128]) (sz := 1) hf1137 (hm1133.at 3 rfl) ⟨_, rfl, hb1128⟩ g1043.1 g1043.2 ?_)
      intro w1138 hx1139 hg1140
      refine ⟨.inl (by decide), ?_⟩
      have hm1141 := hm1133.setOwn 3 _ rfl rfl hx1139 hg1140 (.inl rfl)
      refine aD ⟨rfl, hf1137.se [4, 5, 6, 8, 9, 11, 50, 51], hm1141.se [1, 2, 3, 4, 5, 6, 7, 8, 9, 10, 11] _ rfl⟩
    rintro a1142 w1143 ⟨hf1144, hm1145⟩
    refine blkN ?_
    refine thenN ?_
    refine rg [] [(4, vp b21), (5, vp b28), (6, vp b35), (8, .func (.func 64) #[] #[]), (9, .slice A971 r968.1.length c972), (11, vp b998), (50, vi (r984.1.Data.length : Int)), (51, vi (w64 (s1013.1 + 1)))] hf1144 ot fun a1146 hf1147 => ?_
    have hf1148 : Fr 81 a1146 [(4, .pointer (some ⟨b21, 0, none⟩)), (5, .pointer (some ⟨b28, 0, none⟩)), (6, .pointer (some ⟨b35, 0, none⟩)), (8, .func (.func 64) #[] #[]), (9, .slice A971 r968.1.length c972), (11, .pointer (some ⟨b998, 0, none⟩)), (50, .int .i64 (r984.1.Data.length : Int)), (51, .int .i64 (w64 (s1013.1 + 1)))] := hf1147.se [4, 5, 6, 8, 9, 11, 50, 51]
    have hm1149 : Mem [] M w0 [.bx b998 [.slice A987 r984.1.Shape.length c988, .slice A989 s1013.2.length c990] 29, .ow (Kd.int .i64) 3 A987 c988 r984.1.Shape, .ow Kd.float 26 A989 c990 (put s1013.2 s1013.1 r1042), .sl (Kd.int .i64) A971 c972 r968.1, .bx b35 [.slice none 0 0, .slice none 0 0] 29, .bx b28 [.slice A2_0 x2.Shape.length c2_0, .slice A2_1 x2.Data.length c2_1] 29, .bx b21 [.slice A1_0 x1.Shape.length c1_0, .slice A1_1 x1.Data.length c1_1] 29, .sl (Kd.int .i64) A1_0 c1_0 x1.Shape, .sl Kd.float A1_1 c1_1 x1.Data, .sl (Kd.int .i64) A2_0 c2_0 x2.Shape, .sl Kd.float A2_1 c2_1 x2.Data] w1143 := hm1145.se [0, 1, 2, 3, 4, 5, 6, 7, 8, 9, 10] _ rfl
    exact ⟨((w64 (s1013.1 + 1)), (put s1013.2 s1013.1 r1042)), H1, (by simpa only [put_length, List.length_nil] using hf1148), (by simpa only [put_length, List.length_nil] using hm1149)⟩
  rintro a1152 w1153 ⟨hf1154, hm1155⟩
  refine thenN ?_
  refine wp_seq ?_
  refine inReg ?_
  refine gg 1 [.agg #[.slice A987 r984.1.Shape.length c988, .slice A989 r1014.2.length c990]] [(6, vp b35), (80, .agg #[.slice A987 r984.1.Shape.length c988, .slice A989 r1014.2.length c990])] hf1154 (oc (hm1155.cell (j := 0) 0 rfl rfl) (oc (hm1155.cell (j := 1) 0 rfl rfl) ot)) fun a1156 hf1157 => ?_
  refine lo hf1157 rfl (sb (j := 0) (us := [.slice A987 r984.1.Shape.length c988, .slice A989 r1014.2.length c990]) (cs' := [.slice A987 r984.1.Shape.length c988, .slice A989 r1014.2.length c990]) hf1157 (hm1155.bxAt 4 rfl) ?_)
  intro w1158 hx1159 hg1160
  have hm1161 := hm1155.setBox 4 _ rfl rfl hx1159 hg1160
  refine gg 1 [] [(6, vp b35), (7, vi 0)] hf1157 ot fun a1162 hf1163 => ?_
  refine endL rfl ?_
  have hm1164 := hm1161.se [1, 2, 4] _ rfl
  refine thenN ?_
  refine wp_ret ?_
  have hm1165 : Mem [] M w0 [.ow (Kd.int .i64) 3 A987 c988 r984.1.Shape, .ow Kd.float 26 A989 c990 r1014.2] w1158 := hm1164.se [0, 1] _ rfl
  obtain rfl := Option.some.inj H0
  refine rt [.agg #[.slice A987 r984.1.Shape.length c988, .slice A989 r1014.2.length c990]] [.agg #[.slice A987 r984.1.Shape.length c988, .slice A989 r1014.2.length c990], .int .i64 0] hf1163 (oc (hm1164.cell (j := 0) 2 rfl rfl) (oc (hm1164.cell (j := 1) 2 rfl rfl) ot)) ?_
  exact ⟨_, rfl, A987, c988, A989, c990, rfl, hm1165⟩
end Go.Proofs.Yteaoijahdinciaa
