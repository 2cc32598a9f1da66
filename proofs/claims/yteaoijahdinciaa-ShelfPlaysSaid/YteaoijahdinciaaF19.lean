/- Printed by gen.py. -/
import Derived.Test.YteaoijahdinciaaF10
import Derived.Test.YteaoijahdinciaaF17
import Derived.Test.YteaoijahdinciaaF18
import Derived.Test.YteaoijahdinciaaF9
namespace Go.Proofs.Yteaoijahdinciaa
open Go Go.RowKit
set_option linter.unusedSimpArgs false
set_option linter.unusedVariables false
set_option linter.unnecessarySimpa false
/-! ### backstitch/backstitchref1.Two -/
noncomputable def ref1_Two.l0 (r99 : ((List Int) × Int)) (x1 : Tensor) (x2 : Tensor) (x0 : Int) (s144 : (Int × (List Nat))) : Step (Int × (List Nat)) (Int × (List Nat)) :=
  if s144.1 < (s144.2.length : Int) then (bindS (ref1_Place.f r99.1 s144.1) fun r154 =>
  bindS (ref1_under.f x1.Shape r154) fun r167 =>
  if 0 ≤ r167 ∧ r167 < (x1.Data.length : Int) then (bindS (ref1_under.f x2.Shape r154) fun r169 =>
  if 0 ≤ r169 ∧ r169 < (x2.Data.length : Int) then (bindS (ref1_two.f x0 (rd x1.Data r167) (rd x2.Data r169)) fun r171 =>
  if 0 ≤ s144.1 ∧ s144.1 < (s144.2.length : Int) then (.next ((w64 (s144.1 + 1)), (put s144.2 s144.1 r171)))
  else .bad)
  else .bad)
  else .bad)
  else (.done (s144.1, s144.2))
noncomputable def ref1_Two.f (x0 : Int) (x1 : Tensor) (x2 : Tensor) : Option (Tensor × Int) :=
  if x0 < 4 then (some ((⟨([] : (List Int)), ([] : (List Nat))⟩ : Tensor), 4))
  else (if 7 < x0 then (some ((⟨([] : (List Int)), ([] : (List Nat))⟩ : Tensor), 4))
  else ((ref1_TensorMay.f x1).bind fun r79 =>
  if r79 = true then ((ref1_TensorMay.f x2).bind fun r81 =>
  if r81 = true then ((ref1_Spread.f x1.Shape x2.Shape).bind fun r99 =>
  if r99.2 = 0 then ((ref1_New.f r99.1 0).bind fun r115 =>
  (loop (ref1_Two.l0 r99 x1 x2 x0) (0, r115.1.Data)).bind fun r145 =>
  some ((⟨r115.1.Shape, r145.2⟩ : Tensor), 0))
  else (some ((⟨([] : (List Int)), ([] : (List Nat))⟩ : Tensor), r99.2)))
  else (some ((⟨([] : (List Int)), ([] : (List Nat))⟩ : Tensor), 2)))
  else (some ((⟨([] : (List Int)), ([] : (List Nat))⟩ : Tensor), 2))))
set_option maxRecDepth 100000 in
set_option maxHeartbeats 4000000 in
theorem ref1_Two.calls (M : List (Option Nat)) (w0 : World) (x0 : Int) (x1 : Tensor) (A1_0 : Option Addr) (n1_0 c1_0 : Nat) (e1_0 : n1_0 = x1.Shape.length) (A1_1 : Option Addr) (n1_1 c1_1 : Nat) (e1_1 : n1_1 = x1.Data.length) (x2 : Tensor) (A2_0 : Option Addr) (n2_0 c2_0 : Nat) (e2_0 : n2_0 = x2.Shape.length) (A2_1 : Option Addr) (n2_1 c2_1 : Nat) (e2_1 : n2_1 = x2.Data.length) (hm0 : Mem [] M w0 [.sl (Kd.int .i64) A1_0 c1_0 x1.Shape, .sl Kd.float A1_1 c1_1 x1.Data, .sl (Kd.int .i64) A2_0 c2_0 x2.Shape, .sl Kd.float A2_1 c2_1 x2.Data] w0) (r : (Tensor × Int)) (H0 : ref1_Two.f x0 x1 x2 = some r) :
    Calls Try.prog 43 [.int .i64 x0, .agg #[.slice A1_0 n1_0 c1_0, .slice A1_1 n1_1 c1_1], .agg #[.slice A2_0 n2_0 c2_0, .slice A2_1 n2_1 c2_1]].toArray w0 (fun x w' => ∃ v, x = .returned v ∧ ∃ Ar0_0 cr0_0 Ar0_1 cr0_1, v = .tuple #[.agg #[.slice Ar0_0 r.1.Shape.length cr0_0, .slice Ar0_1 r.1.Data.length cr0_1], .int .i64 r.2] ∧ Mem [] M w0 [.ow (Kd.int .i64) 3 Ar0_0 cr0_0 r.1.Shape, .ow Kd.float 26 Ar0_1 cr0_1 r.1.Data] w') := by
  subst e1_0
  subst e1_1
  subst e2_0
  subst e2_1
  unfold ref1_Two.f at H0
  refine enter (n := 80) Try.func43 rfl rfl (by kernel_rfl) fun a0 (hf0 : Fr 80 a0 [(0, .int .i64 x0), (1, .agg #[.slice A1_0 x1.Shape.length c1_0, .slice A1_1 x1.Data.length c1_1]), (2, .agg #[.slice A2_0 x2.Shape.length c2_0, .slice A2_1 x2.Data.length c2_1])]) => ?_
  refine wp_seq ?_
  refine inReg ?_
  refine lo hf0 rfl (nw (cs := [.slice A1_0 x1.Shape.length c1_0, .slice A1_1 x1.Data.length c1_1]) (T := 29) (d := 4) hf0 ?_)
  intro b21 w22 a23 hbb21 hx25 hg26 hf24
  have hm27 := hm0.box hbb21 hx25 hg26
  refine lo hf24 rfl (nw (cs := [.slice A2_0 x2.Shape.length c2_0, .slice A2_1 x2.Data.length c2_1]) (T := 29) (d := 5) hf24 ?_)
  intro b28 w29 a30 hbb28 hx32 hg33 hf31
  have hm34 := hm27.box hbb28 hx32 hg33
  refine lo hf31 rfl (nw (cs := [.slice none 0 0, .slice none 0 0]) (T := 29) (d := 6) hf31 ?_)
  intro b35 w36 a37 hbb35 hx39 hg40 hf38
  have hm41 := hm34.box hbb35 hx39 hg40
  refine gg 1 [] [(0, vi x0), (4, vp b21), (5, vp b28), (6, vp b35)] hf38 ot fun a42 hf43 => ?_
  refine endL rfl ?_
  refine thenN ?_
  refine wp_seq ?_
  refine wp_seq ?_
  rcases if_split H0 with ⟨c44, H0⟩ | ⟨c44, H0⟩
  · refine rg (ob := [.is (decide (x0 < 4) = true)]) [.bool true] [(0, vi x0), (4, vp b21), (5, vp b28), (6, vp b35), (19, .bool true)] hf43 ⟨(decide_eq_true c44), trivial⟩ fun a45 hf46 => ?_
    refine thenN ?_
    refine cT hf46 ?_
    refine wp_seq ?_
    refine inReg ?_
    refine gg 1 [] [(6, vp b35), (20, .agg #[.slice none 0 0, .slice none 0 0])] hf46 ot fun a47 hf48 => ?_
    refine lo hf48 rfl (sb (j := 0) (us := [.slice none 0 0, .slice none 0 0]) (cs' := [.slice none 0 0, .slice none 0 0]) hf48 (hm41.bxAt 0 rfl) ?_)
    intro w49 hx50 hg51
    have hm52 := hm41.setBox 0 _ rfl rfl hx50 hg51
    refine gg 1 [] [(6, vp b35), (7, vi 4)] hf48 ot fun a53 hf54 => ?_
    refine endL rfl ?_
    have hm55 := hm52.se [0] _ rfl
    refine thenN ?_
    refine wp_ret ?_
    refine thenR ?_
    have hm56 := hm55.nilOw (Kd.int .i64) 3
    have hm57 := hm56.nilOw Kd.float 26
    have hm58 : Mem [] M w0 [.ow (Kd.int .i64) 3 none 0 ([] : (List Int)), .ow Kd.float 26 none 0 ([] : (List Nat))] w49 := hm57.se [1, 0] _ rfl
    obtain rfl := Option.some.inj H0
    refine rt [.agg #[.slice none 0 0, .slice none 0 0]] [.agg #[.slice none 0 0, .slice none 0 0], .int .i64 4] hf54 (oc (hm55.cell (j := 0) 0 rfl rfl) (oc (hm55.cell (j := 1) 0 rfl rfl) ot)) ?_
    exact ⟨_, rfl, none, 0, none, 0, rfl, hm58⟩
  rcases if_split H0 with ⟨c60, H0⟩ | ⟨c60, H0⟩
  · refine rg (ob := [.is (decide (x0 < 4) = false), .is (decide (7 < x0) = true)]) [.bool false, .bool true] [(0, vi x0), (4, vp b21), (5, vp b28), (6, vp b35), (19, .bool true)] hf43 ⟨(decide_eq_false c44), (decide_eq_true c60), trivial⟩ fun a61 hf62 => ?_
    refine thenN ?_
    refine cT hf62 ?_
    refine wp_seq ?_
    refine inReg ?_
    refine gg 1 [] [(6, vp b35), (20, .agg #[.slice none 0 0, .slice none 0 0])] hf62 ot fun a63 hf65 => ?_
    refine lo hf65 rfl (sb (j := 0) (us := [.slice none 0 0, .slice none 0 0]) (cs' := [.slice none 0 0, .slice none 0 0]) hf65 (hm41.bxAt 0 rfl) ?_)
    intro w66 hx67 hg68
    have hm69 := hm41.setBox 0 _ rfl rfl hx67 hg68
    refine gg 1 [] [(6, vp b35), (7, vi 4)] hf65 ot fun a70 hf71 => ?_
    refine endL rfl ?_
    have hm72 := hm69.se [0] _ rfl
    refine thenN ?_
    refine wp_ret ?_
    refine thenR ?_
    have hm73 := hm72.nilOw (Kd.int .i64) 3
    have hm74 := hm73.nilOw Kd.float 26
    have hm75 : Mem [] M w0 [.ow (Kd.int .i64) 3 none 0 ([] : (List Int)), .ow Kd.float 26 none 0 ([] : (List Nat))] w66 := hm74.se [1, 0] _ rfl
    obtain rfl := Option.some.inj H0
    refine rt [.agg #[.slice none 0 0, .slice none 0 0]] [.agg #[.slice none 0 0, .slice none 0 0], .int .i64 4] hf71 (oc (hm72.cell (j := 0) 0 rfl rfl) (oc (hm72.cell (j := 1) 0 rfl rfl) ot)) ?_
    exact ⟨_, rfl, none, 0, none, 0, rfl, hm75⟩
  refine rg (ob := [.is (decide (x0 < 4) = false), .is (decide (7 < x0) = false)]) [.bool false, .bool false] [(0, vi x0), (4, vp b21), (5, vp b28), (6, vp b35), (19, .bool false)] hf43 ⟨(decide_eq_false c44), (decide_eq_false c60), trivial⟩ fun a77 hf78 => ?_
  refine thenN ?_
  refine cF hf78 ?_
  refine wp_skip ?_
  refine thenN ?_
  refine wp_seq ?_
  refine wp_seq ?_
  obtain ⟨r79, hr79, H0⟩ := ob_split H0
  rcases ifb_split H0 with ⟨c80, H0⟩ | ⟨c80, H0⟩
  rotate_left
  · refine inReg ?_
    refine gg 1 [.agg #[.slice A1_0 x1.Shape.length c1_0, .slice A1_1 x1.Data.length c1_1]] [(0, vi x0), (4, vp b21), (5, vp b28), (6, vp b35), (21, .agg #[.slice A1_0 x1.Shape.length c1_0, .slice A1_1 x1.Data.length c1_1])] hf78 (oc (hm41.cell (j := 0) 2 rfl rfl) (oc (hm41.cell (j := 1) 2 rfl rfl) ot)) fun a340 hf341 => ?_
    refine lo hf341 rfl (cl 22 hf341 callable21 (ref1_TensorMay.calls _ _ _ _ _ _ rfl _ _ _ rfl (hm41.give [3, 4] [.sl (Kd.int .i64) A1_0 c1_0 x1.Shape, .sl Kd.float A1_1 c1_1 x1.Data] rfl rfl) r79 hr79) ?_)
    rintro _ w342 a343 ⟨rfl, hk345⟩ hf344
    have hm346 := hm41.still hk345.cum.none
    rw [c80] at hf344
    refine gg 6 [] [(0, vi x0), (4, vp b21), (5, vp b28), (6, vp b35), (28, .bool true)] hf344 ot fun a347 hf348 => ?_
    refine endL rfl ?_
    refine thenN ?_
    refine cT hf348 ?_
    refine wp_seq ?_
    refine inReg ?_
    refine gg 1 [] [(6, vp b35), (29, .agg #[.slice none 0 0, .slice none 0 0])] hf348 ot fun a349 hf350 => ?_
    refine lo hf350 rfl (sb (j := 0) (us := [.slice none 0 0, .slice none 0 0]) (cs' := [.slice none 0 0, .slice none 0 0]) hf350 (hm346.bxAt 0 rfl) ?_)
    intro w351 hx352 hg353
    have hm354 := hm346.setBox 0 _ rfl rfl hx352 hg353
    refine gg 1 [] [(6, vp b35), (7, vi 2)] hf350 ot fun a355 hf356 => ?_
    refine endL rfl ?_
    have hm357 := hm354.se [0] _ rfl
    refine thenN ?_
    refine wp_ret ?_
    refine thenR ?_
    have hm358 := hm357.nilOw (Kd.int .i64) 3
    have hm359 := hm358.nilOw Kd.float 26
    have hm360 : Mem [] M w0 [.ow (Kd.int .i64) 3 none 0 ([] : (List Int)), .ow Kd.float 26 none 0 ([] : (List Nat))] w351 := hm359.se [1, 0] _ rfl
    obtain rfl := Option.some.inj H0
    refine rt [.agg #[.slice none 0 0, .slice none 0 0]] [.agg #[.slice none 0 0, .slice none 0 0], .int .i64 2] hf356 (oc (hm357.cell (j := 0) 0 rfl rfl) (oc (hm357.cell (j := 1) 0 rfl rfl) ot)) ?_
    exact ⟨_, rfl, none, 0, none, 0, rfl, hm360⟩
  obtain ⟨r81, hr81, H0⟩ := ob_split H0
  rcases ifb_split H0 with ⟨c82, H0⟩ | ⟨c82, H0⟩
  rotate_left
  · refine inReg ?_
    refine gg 1 [.agg #[.slice A1_0 x1.Shape.length c1_0, .slice A1_1 x1.Data.length c1_1]] [(0, vi x0), (4, vp b21), (5, vp b28), (6, vp b35), (21, .agg #[.slice A1_0 x1.Shape.length c1_0, .slice A1_1 x1.Data.length c1_1])] hf78 (oc (hm41.cell (j := 0) 2 rfl rfl) (oc (hm41.cell (j := 1) 2 rfl rfl) ot)) fun a311 hf312 => ?_
    refine lo hf312 rfl (cl 22 hf312 callable21 (ref1_TensorMay.calls _ _ _ _ _ _ rfl _ _ _ rfl (hm41.give [3, 4] [.sl (Kd.int .i64) A1_0 c1_0 x1.Shape, .sl Kd.float A1_1 c1_1 x1.Data] rfl rfl) r79 hr79) ?_)
    rintro _ w313 a314 ⟨rfl, hk316⟩ hf315
    have hm317 := hm41.still hk316.cum.none
    rw [c80] at hf315
    refine gg 3 [.agg #[.slice A2_0 x2.Shape.length c2_0, .slice A2_1 x2.Data.length c2_1]] [(0, vi x0), (4, vp b21), (5, vp b28), (6, vp b35), (24, .bool false), (25, .agg #[.slice A2_0 x2.Shape.length c2_0, .slice A2_1 x2.Data.length c2_1])] hf315 (oc (hm317.cell (j := 0) 1 rfl rfl) (oc (hm317.cell (j := 1) 1 rfl rfl) ot)) fun a318 hf319 => ?_
    refine lo hf319 rfl (cl 26 hf319 callable21 (ref1_TensorMay.calls _ _ _ _ _ _ rfl _ _ _ rfl (hm317.give [5, 6] [.sl (Kd.int .i64) A2_0 c2_0 x2.Shape, .sl Kd.float A2_1 c2_1 x2.Data] rfl rfl) r81 hr81) ?_)
    rintro _ w320 a321 ⟨rfl, hk323⟩ hf322
    have hm324 := hm317.still hk323.cum.none
    rw [c82] at hf322
    refine gg 2 [] [(0, vi x0), (4, vp b21), (5, vp b28), (6, vp b35), (28, .bool true)] hf322 ot fun a325 hf326 => ?_
    refine endL rfl ?_
    refine thenN ?_
    refine cT hf326 ?_
    refine wp_seq ?_
    refine inReg ?_
    refine gg 1 [] [(6, vp b35), (29, .agg #[.slice none 0 0, .slice none 0 0])] hf326 ot fun a327 hf328 => ?_
    refine lo hf328 rfl (sb (j := 0) (us := [.slice none 0 0, .slice none 0 0]) (cs' := [.slice none 0 0, .slice none 0 0]) hf328 (hm324.bxAt 0 rfl) ?_)
    intro w329 hx330 hg331
    have hm332 := hm324.setBox 0 _ rfl rfl hx330 hg331
    refine gg 1 [] [(6, vp b35), (7, vi 2)] hf328 ot fun a333 hf334 => ?_
    refine endL rfl ?_
    have hm335 := hm332.se [0] _ rfl
    refine thenN ?_
    refine wp_ret ?_
    refine thenR ?_
    have hm336 := hm335.nilOw (Kd.int .i64) 3
    have hm337 := hm336.nilOw Kd.float 26
    have hm338 : Mem [] M w0 [.ow (Kd.int .i64) 3 none 0 ([] : (List Int)), .ow Kd.float 26 none 0 ([] : (List Nat))] w329 := hm337.se [1, 0] _ rfl
    obtain rfl := Option.some.inj H0
    refine rt [.agg #[.slice none 0 0, .slice none 0 0]] [.agg #[.slice none 0 0, .slice none 0 0], .int .i64 2] hf334 (oc (hm335.cell (j := 0) 0 rfl rfl) (oc (hm335.cell (j := 1) 0 rfl rfl) ot)) ?_
    exact ⟨_, rfl, none, 0, none, 0, rfl, hm338⟩
  refine inReg ?_
  refine gg 1 [.agg #[.slice A1_0 x1.Shape.length c1_0, .slice A1_1 x1.Data.length c1_1]] [(0, vi x0), (4, vp b21), (5, vp b28), (6, vp b35), (21, .agg #[.slice A1_0 x1.Shape.length c1_0, .slice A1_1 x1.Data.length c1_1])] hf78 (oc (hm41.cell (j := 0) 2 rfl rfl) (oc (hm41.cell (j := 1) 2 rfl rfl) ot)) fun a83 hf84 => ?_
  refine lo hf84 rfl (cl 22 hf84 callable21 (ref1_TensorMay.calls _ _ _ _ _ _ rfl _ _ _ rfl (hm41.give [3, 4] [.sl (Kd.int .i64) A1_0 c1_0 x1.Shape, .sl Kd.float A1_1 c1_1 x1.Data] rfl rfl) r79 hr79) ?_)
  rintro _ w85 a86 ⟨rfl, hk88⟩ hf87
  have hm89 := hm41.still hk88.cum.none
  rw [c80] at hf87
  refine gg 3 [.agg #[.slice A2_0 x2.Shape.length c2_0, .slice A2_1 x2.Data.length c2_1]] [(0, vi x0), (4, vp b21), (5, vp b28), (6, vp b35), (24, .bool false), (25, .agg #[.slice A2_0 x2.Shape.length c2_0, .slice A2_1 x2.Data.length c2_1])] hf87 (oc (hm89.cell (j := 0) 1 rfl rfl) (oc (hm89.cell (j := 1) 1 rfl rfl) ot)) fun a90 hf91 => ?_
  refine lo hf91 rfl (cl 26 hf91 callable21 (ref1_TensorMay.calls _ _ _ _ _ _ rfl _ _ _ rfl (hm89.give [5, 6] [.sl (Kd.int .i64) A2_0 c2_0 x2.Shape, .sl Kd.float A2_1 c2_1 x2.Data] rfl rfl) r81 hr81) ?_)
  rintro _ w92 a93 ⟨rfl, hk95⟩ hf94
  have hm96 := hm89.still hk95.cum.none
  rw [c82] at hf94
  refine gg 2 [] [(0, vi x0), (4, vp b21), (5, vp b28), (6, vp b35), (28, .bool false)] hf94 ot fun a97 hf98 => ?_
  refine endL rfl ?_
  refine thenN ?_
  refine cF hf98 ?_
  refine wp_skip ?_
  refine thenN ?_
  refine wp_seq ?_
  obtain ⟨r99, hr99, H0⟩ := ob_split H0
  refine inReg ?_
  refine gg 4 [.slice A1_0 x1.Shape.length c1_0, .slice A2_0 x2.Shape.length c2_0] [(0, vi x0), (4, vp b21), (5, vp b28), (6, vp b35), (32, .slice A1_0 x1.Shape.length c1_0), (34, .slice A2_0 x2.Shape.length c2_0)] hf98 (oc (hm96.cell (j := 0) 2 rfl rfl) (oc (hm96.cell (j := 0) 1 rfl rfl) ot)) fun a100 hf101 => ?_
  refine lo hf101 rfl (cl 35 hf101 callable54 (ref1_Spread.calls _ _ _ _ _ _ rfl _ _ _ _ rfl (hm96.give [3, 5] [.sl (Kd.int .i64) A1_0 c1_0 x1.Shape, .sl (Kd.int .i64) A2_0 c2_0 x2.Shape] rfl rfl) r99 hr99) ?_)
  rintro _ w104 a105 ⟨A102, c103, rfl, hk107⟩ hf106
  have hm108 := hm96.back hk107
  have hm109 := hm108.seal 0 _ rfl rfl
  refine gg 5 [] [(0, vi x0), (4, vp b21), (5, vp b28), (6, vp b35), (8, .slice A102 r99.1.length c103), (9, vi r99.2)] hf106 ot fun a110 hf111 => ?_
  refine endL rfl ?_
  refine thenN ?_
  refine wp_seq ?_
  refine wp_seq ?_
  rcases if_split H0 with ⟨c112, H0⟩ | ⟨c112, H0⟩
  rotate_left
  · refine rg [.bool true] [(0, vi x0), (4, vp b21), (5, vp b28), (6, vp b35), (8, .slice A102 r99.1.length c103), (9, vi r99.2), (39, .bool true)] hf111 (oi (neT c112) ot) fun a296 hf297 => ?_
    refine thenN ?_
    refine cT hf297 ?_
    refine wp_seq ?_
    refine inReg ?_
    refine gg 2 [] [(6, vp b35), (40, .agg #[.slice none 0 0, .slice none 0 0]), (41, vi r99.2)] hf297 ot fun a298 hf299 => ?_
    refine lo hf299 rfl (sb (j := 0) (us := [.slice none 0 0, .slice none 0 0]) (cs' := [.slice none 0 0, .slice none 0 0]) hf299 (hm109.bxAt 1 rfl) ?_)
    intro w300 hx301 hg302
    have hm303 := hm109.setBox 1 _ rfl rfl hx301 hg302
    refine gg 1 [] [(6, vp b35), (7, vi r99.2)] hf299 ot fun a304 hf305 => ?_
    refine endL rfl ?_
    have hm306 := hm303.se [1] _ rfl
    refine thenN ?_
    refine wp_ret ?_
    refine thenR ?_
    have hm307 := hm306.nilOw (Kd.int .i64) 3
    have hm308 := hm307.nilOw Kd.float 26
    have hm309 : Mem [] M w0 [.ow (Kd.int .i64) 3 none 0 ([] : (List Int)), .ow Kd.float 26 none 0 ([] : (List Nat))] w300 := hm308.se [1, 0] _ rfl
    obtain rfl := Option.some.inj H0
    refine rt [.agg #[.slice none 0 0, .slice none 0 0]] [.agg #[.slice none 0 0, .slice none 0 0], .int .i64 r99.2] hf305 (oc (hm306.cell (j := 0) 0 rfl rfl) (oc (hm306.cell (j := 1) 0 rfl rfl) ot)) ?_
    exact ⟨_, rfl, none, 0, none, 0, rfl, hm309⟩
  refine rg [.bool false] [(0, vi x0), (4, vp b21), (5, vp b28), (6, vp b35), (8, .slice A102 r99.1.length c103), (9, vi r99.2), (39, .bool false)] hf111 (oi (neF c112) ot) fun a113 hf114 => ?_
  refine thenN ?_
  refine cF hf114 ?_
  refine wp_skip ?_
  refine thenN ?_
  refine wp_seq ?_
  obtain ⟨r115, hr115, H0⟩ := ob_split H0
  refine inReg ?_
  refine gg 1 [] [(0, vi x0), (4, vp b21), (5, vp b28), (6, vp b35), (8, .slice A102 r99.1.length c103), (43, .slice A102 r99.1.length c103)] hf114 ot fun a116 hf117 => ?_
  refine lo hf117 rfl (cl 44 hf117 callable38 (ref1_New.calls _ _ _ _ _ _ rfl 0 0 ((FR.lit (by kernel_rfl) (by kernel_rfl))) (hm109.give [0] [.sl (Kd.int .i64) A102 c103 r99.1] rfl rfl) r115 hr115) ?_)
  rintro _ w122 a123 ⟨A118, c119, A120, c121, rfl, hk125⟩ hf124
  have hm126 := hm109.back hk125
  refine gg 3 [] [(0, vi x0), (4, vp b21), (5, vp b28), (6, vp b35), (8, .slice A102 r99.1.length c103), (45, .agg #[.slice A118 r115.1.Shape.length c119, .slice A120 r115.1.Data.length c121]), (46, vi r115.2)] hf124 ot fun a127 hf128 => ?_
  refine lo hf128 rfl (nw (cs := [.slice none 0 0, .slice none 0 0]) (T := 29) (d := 10) hf128 ?_)
  intro b129 w130 a131 hbb129 hx133 hg134 hf132
  have hm135 := hm126.box hbb129 hx133 hg134
  refine lo hf132 rfl (sb (j := 0) (us := [.slice A118 r115.1.Shape.length c119, .slice A120 r115.1.Data.length c121]) (cs' := [.slice A118 r115.1.Shape.length c119, .slice A120 r115.1.Data.length c121]) hf132 (hm135.bxAt 0 rfl) ?_)
  intro w136 hx137 hg138
  have hm139 := hm135.setBox 0 _ rfl rfl hx137 hg138
  refine gg 1 [] [(0, vi x0), (4, vp b21), (5, vp b28), (6, vp b35), (8, .slice A102 r99.1.length c103), (10, vp b129)] hf132 ot fun a140 hf141 => ?_
  refine endL rfl ?_
  refine thenN ?_
  refine wp_seq ?_
  refine wp_seq ?_
  refine rg [] [(0, vi x0), (4, vp b21), (5, vp b28), (6, vp b35), (8, .slice A102 r99.1.length c103), (10, vp b129), (12, vi 0)] hf141 ot fun a142 hf143 => ?_
  refine thenN ?_
  obtain ⟨r145, hr145, H0⟩ := ob_split H0
  refine wpBlock (Mid := fun (a : Act) (w : World) => Fr 80 a [(0, .int .i64 x0), (4, .pointer (some ⟨b21, 0, none⟩)), (5, .pointer (some ⟨b28, 0, none⟩)), (6, .pointer (some ⟨b35, 0, none⟩)), (8, .slice A102 r99.1.length c103), (10, .pointer (some ⟨b129, 0, none⟩)), (12, .int .i64 r145.1)] ∧ Mem [] M w0 [.bx b129 [.slice A118 r115.1.Shape.length c119, .slice A120 r145.2.length c121] 29, .ow (Kd.int .i64) 3 A118 c119 r115.1.Shape, .ow Kd.float 26 A120 c121 r145.2, .sl (Kd.int .i64) A102 c103 r99.1, .bx b35 [.slice none 0 0, .slice none 0 0] 29, .bx b28 [.slice A2_0 x2.Shape.length c2_0, .slice A2_1 x2.Data.length c2_1] 29, .bx b21 [.slice A1_0 x1.Shape.length c1_0, .slice A1_1 x1.Data.length c1_1] 29, .sl (Kd.int .i64) A1_0 c1_0 x1.Shape, .sl Kd.float A1_1 c1_1 x1.Data, .sl (Kd.int .i64) A2_0 c2_0 x2.Shape, .sl Kd.float A2_1 c2_1 x2.Data] w) ?_ ?_
  · refine wpLoop (ref1_Two.l0 r99 x1 x2 x0) r145 (fun (s144 : (Int × (List Nat))) (a : Act) (w : World) => Fr 80 a [(0, .int .i64 x0), (4, .pointer (some ⟨b21, 0, none⟩)), (5, .pointer (some ⟨b28, 0, none⟩)), (6, .pointer (some ⟨b35, 0, none⟩)), (8, .slice A102 r99.1.length c103), (10, .pointer (some ⟨b129, 0, none⟩)), (12, .int .i64 s144.1)] ∧ Mem [] M w0 [.bx b129 [.slice A118 r115.1.Shape.length c119, .slice A120 s144.2.length c121] 29, .ow (Kd.int .i64) 3 A118 c119 r115.1.Shape, .ow Kd.float 26 A120 c121 s144.2, .sl (Kd.int .i64) A102 c103 r99.1, .bx b35 [.slice none 0 0, .slice none 0 0] 29, .bx b28 [.slice A2_0 x2.Shape.length c2_0, .slice A2_1 x2.Data.length c2_1] 29, .bx b21 [.slice A1_0 x1.Shape.length c1_0, .slice A1_1 x1.Data.length c1_1] 29, .sl (Kd.int .i64) A1_0 c1_0 x1.Shape, .sl Kd.float A1_1 c1_1 x1.Data, .sl (Kd.int .i64) A2_0 c2_0 x2.Shape, .sl Kd.float A2_1 c2_1 x2.Data] w) (0, r115.1.Data) hr145 ⟨hf143.se [0, 4, 5, 6, 8, 10, 12], hm139.se [0, 1, 2, 3, 4, 5, 6, 7, 8, 9, 10] _ rfl⟩ ?_
    rintro g146 s144 a147 w148 H1 ⟨hf149, hm150⟩
    unfold ref1_Two.l0 at H1
    refine wp_seq ?_
    refine wp_seq ?_
    rcases ifS_split H1 with ⟨c151, H1⟩ | ⟨c151, H1⟩
    rotate_left
    · refine rg (ob := [.cell ⟨b129, 1, none⟩ (.slice A120 s144.2.length c121), .is (decide (s144.1 < (s144.2.length : Int)) = false)]) [.slice A120 s144.2.length c121, .bool false] [(0, vi x0), (4, vp b21), (5, vp b28), (6, vp b35), (8, .slice A102 r99.1.length c103), (10, vp b129), (12, vi s144.1), (51, .bool false)] hf149 ⟨(hm150.cell 0 rfl rfl), (decide_eq_false c151), trivial⟩ fun a279 hf280 => ?_
      refine thenN ?_
      refine cF hf280 ?_
      refine wp_exit ?_
      refine thenE ?_
      refine thenE ?_
      obtain rfl := Option.some.inj H1
      exact .inl ⟨rfl, hf280.se [0, 4, 5, 6, 8, 10, 12], hm150.se [0, 1, 2, 3, 4, 5, 6, 7, 8, 9, 10] _ rfl⟩
    refine rg (ob := [.cell ⟨b129, 1, none⟩ (.slice A120 s144.2.length c121), .is (decide (s144.1 < (s144.2.length : Int)) = true)]) [.slice A120 s144.2.length c121, .bool true] [(0, vi x0), (4, vp b21), (5, vp b28), (6, vp b35), (8, .slice A102 r99.1.length c103), (10, vp b129), (12, vi s144.1), (51, .bool true)] hf149 ⟨(hm150.cell 0 rfl rfl), (decide_eq_true c151), trivial⟩ fun a152 hf153 => ?_
    refine thenN ?_
    refine cT hf153 ?_
    refine wp_skip ?_
    refine thenN ?_
    refine wp_seq ?_
    refine wp_block ?_
    refine wp_seq ?_
    obtain ⟨r154, hr154, H1⟩ := obS_split H1
    refine inReg ?_
    refine gg 2 [] [(0, vi x0), (4, vp b21), (5, vp b28), (6, vp b35), (8, .slice A102 r99.1.length c103), (10, vp b129), (12, vi s144.1), (54, .slice A102 r99.1.length c103), (55, vi s144.1)] hf153 ot fun a155 hf156 => ?_
    refine lo hf156 rfl (cl 56 hf156 callable55 (ref1_Place.calls _ _ _ _ _ _ rfl s144.1 (hm150.give [3] [.sl (Kd.int .i64) A102 c103 r99.1] rfl rfl) r154 hr154) ?_)
    rintro _ w159 a160 ⟨A157, c158, rfl, hk162⟩ hf161
    have hm163 := hm150.back hk162
    have hm164 := hm163.seal 0 _ rfl rfl
    refine gg 1 [] [(0, vi x0), (4, vp b21), (5, vp b28), (6, vp b35), (8, .slice A102 r99.1.length c103), (10, vp b129), (12, vi s144.1), (13, .slice A157 r154.length c158)] hf161 ot fun a165 hf166 => ?_
    refine endL rfl ?_
    refine thenN ?_
    obtain ⟨r167, hr167, H1⟩ := obS_split H1
    obtain ⟨g168, H1⟩ := ifS_guard H1
    obtain ⟨r169, hr169, H1⟩ := obS_split H1
    obtain ⟨g170, H1⟩ := ifS_guard H1
    obtain ⟨r171, hr171, H1⟩ := obS_split H1
    obtain ⟨g172, H1⟩ := ifS_guard H1
    refine midReg (fun (a : Act) (w : World) => Fr 80 a [(0, .int .i64 x0), (4, .pointer (some ⟨b21, 0, none⟩)), (5, .pointer (some ⟨b28, 0, none⟩)), (6, .pointer (some ⟨b35, 0, none⟩)), (8, .slice A102 r99.1.length c103), (10, .pointer (some ⟨b129, 0, none⟩)), (12, .int .i64 s144.1)] ∧ Mem [] M w0 [.bx b129 [.slice A118 r115.1.Shape.length c119, .slice A120 s144.2.length c121] 29, .ow (Kd.int .i64) 3 A118 c119 r115.1.Shape, .ow Kd.float 26 A120 c121 (put s144.2 s144.1 r171), .sl (Kd.int .i64) A102 c103 r99.1, .bx b35 [.slice none 0 0, .slice none 0 0] 29, .bx b28 [.slice A2_0 x2.Shape.length c2_0, .slice A2_1 x2.Data.length c2_1] 29, .bx b21 [.slice A1_0 x1.Shape.length c1_0, .slice A1_1 x1.Data.length c1_1] 29, .sl (Kd.int .i64) A1_0 c1_0 x1.Shape, .sl Kd.float A1_1 c1_1 x1.Data, .sl (Kd.int .i64) A2_0 c2_0 x2.Shape, .sl Kd.float A2_1 c2_1 x2.Data] w) ?_ ?_
    · refine anyG (K := []) [22] (by kernel_rfl) fun w200 hg201 => ?_
      have hm202 := hm164.still hg201
      refine qt [0, 1, 2, 3, 4, 5, 6, 7, 8, 12, 13, 14, 15, 16] [.slice A120 s144.2.length c121, .slice A1_1 x1.Data.length c1_1, .slice A1_0 x1.Shape.length c1_0, .slice A2_1 x2.Data.length c2_1, .slice A2_0 x2.Shape.length c2_0] (fb 23 127487) [(0, vi x0), (4, vp b21), (5, vp b28), (6, vp b35), (8, .slice A102 r99.1.length c103), (10, vp b129), (12, vi s144.1), (58, .slice A120 s144.2.length c121), (59, vi s144.1), (60, vi x0), (62, .slice A1_1 x1.Data.length c1_1), (64, .slice A1_0 x1.Shape.length c1_0), (65, .slice A157 r154.length c158), (70, .slice A2_1 x2.Data.length c2_1), (72, .slice A2_0 x2.Shape.length c2_0), (73, .slice A157 r154.length c158)] 9 hf166 (oc (hm202.cell (j := 1) 1 rfl rfl) (oc (hm202.cell (j := 1) 7 rfl rfl) (oc (hm202.cell (j := 0) 7 rfl rfl) (oc (hm202.cell (j := 1) 6 rfl rfl) (oc (hm202.cell (j := 0) 6 rfl rfl) ot))))) fun a237 hf238 => ?_
      refine a1 9 ?_
      refine oo hf238 rfl (cl 66 hf238 callable57 (ref1_under.calls _ _ _ _ _ _ rfl _ _ _ _ rfl (hm202.give [8, 0] [.sl (Kd.int .i64) A1_0 c1_0 x1.Shape, .sl (Kd.int .i64) A157 c158 r154] rfl rfl) r167 hr167) ?_)
      rintro _ w239 a240 ⟨rfl, hk242⟩ hf241
      refine ⟨.inr (Gr.still hk242.cum.none), ?_⟩
      have hm243 := hm202.still hk242.cum.none
      have q244 := (hm243.slAt 9 rfl).float r167 g168.1 g168.2
      obtain ⟨b245, hb245, kb245⟩ := q244.2
      refine qt [10, 11] [.float .f64 b245] (fb 23 131071) [(0, vi x0), (4, vp b21), (5, vp b28), (6, vp b35), (8, .slice A102 r99.1.length c103), (10, vp b129), (12, vi s144.1), (58, .slice A120 s144.2.length c121), (59, vi s144.1), (60, vi x0), (68, vf b245), (70, .slice A2_1 x2.Data.length c2_1), (72, .slice A2_0 x2.Shape.length c2_0), (73, .slice A157 r154.length c158)] 6 hf241 (oi q244.1 (oi g168 (oc kb245 ot))) fun a246 hf247 => ?_
      refine a1 17 ?_
      refine oo hf247 rfl (cl 74 hf247 callable57 (ref1_under.calls _ _ _ _ _ _ rfl _ _ _ _ rfl (hm243.give [10, 0] [.sl (Kd.int .i64) A2_0 c2_0 x2.Shape, .sl (Kd.int .i64) A157 c158 r154] rfl rfl) r169 hr169) ?_)
      rintro _ w248 a249 ⟨rfl, hk251⟩ hf250
      refine ⟨.inr (Gr.still hk251.cum.none), ?_⟩
      have hm252 := hm243.still hk251.cum.none
      have q253 := (hm252.slAt 11 rfl).float r169 g170.1 g170.2
      obtain ⟨b254, hb254, kb254⟩ := q253.2
      refine qt [18, 19] [.float .f64 b254] (fb 23 1048575) [(0, vi x0), (4, vp b21), (5, vp b28), (6, vp b35), (8, .slice A102 r99.1.length c103), (10, vp b129), (12, vi s144.1), (58, .slice A120 s144.2.length c121), (59, vi s144.1), (60, vi x0), (68, vf b245), (76, vf b254)] 3 hf250 (oi q253.1 (oi g170 (oc kb254 ot))) fun a255 hf256 => ?_
      refine a1 20 ?_
      refine oo hf256 rfl (cl 77 hf256 callable56 (ref1_two.calls _ _ x0 (rd x1.Data r167) b245 hb245 (rd x2.Data r169) b254 hb254 (hm252.give [] [] rfl rfl) r171 hr171) ?_)
      rintro _ w258 a259 ⟨b257, rfl, hb257, hk261⟩ hf260
      refine ⟨.inr (Gr.still hk261.cum.none), ?_⟩
      have hm262 := hm252.still hk261.cum.none
      have q263 := (hm262.owAt 3 rfl).float s144.1 g172.1 g172.2
      obtain ⟨b264, hb264, kb264⟩ := q263.2
      refine qt [21] [] (fb 23 4194303) [(0, vi x0), (4, vp b21), (5, vp b28), (6, vp b35), (8, .slice A102 r99.1.length c103), (10, vp b129), (12, vi s144.1), (77, vf b257), (78, .pointer (some ((ad A120).add ((s144.1).toNat * 1))))] 1 hf260 (oi q263.1 (oi g172 ot)) fun a265 hf266 => ?_
      refine a1 22 ?_
      refine oo hf266 rfl (so (i := s144.1) (x := r171) (us := [.float .f64 b257]) (sz := 1) hf266 (hm262.at 3 rfl) ⟨_, rfl, hb257⟩ g172.1 g172.2 ?_)
      intro w267 hx268 hg269
      refine ⟨.inl (by decide), ?_⟩
      have hm270 := hm262.setOwn 3 _ rfl rfl hx268 hg269 (.inl rfl)
      refine aD ⟨rfl, hf266.se [0, 4, 5, 6, 8, 10, 12], hm270.se [1, 2, 3, 4, 5, 6, 7, 8, 9, 10, 11] _ rfl⟩
    rintro a271 w272 ⟨hf273, hm274⟩
    refine blkN ?_
    refine thenN ?_
    refine rg [] [(0, vi x0), (4, vp b21), (5, vp b28), (6, vp b35), (8, .slice A102 r99.1.length c103), (10, vp b129), (12, vi (w64 (s144.1 + 1)))] hf273 ot fun a275 hf276 => ?_
    have hf277 : Fr 80 a275 [(0, .int .i64 x0), (4, .pointer (some ⟨b21, 0, none⟩)), (5, .pointer (some ⟨b28, 0, none⟩)), (6, .pointer (some ⟨b35, 0, none⟩)), (8, .slice A102 r99.1.length c103), (10, .pointer (some ⟨b129, 0, none⟩)), (12, .int .i64 (w64 (s144.1 + 1)))] := hf276.se [0, 4, 5, 6, 8, 10, 12]
    have hm278 : Mem [] M w0 [.bx b129 [.slice A118 r115.1.Shape.length c119, .slice A120 s144.2.length c121] 29, .ow (Kd.int .i64) 3 A118 c119 r115.1.Shape, .ow Kd.float 26 A120 c121 (put s144.2 s144.1 r171), .sl (Kd.int .i64) A102 c103 r99.1, .bx b35 [.slice none 0 0, .slice none 0 0] 29, .bx b28 [.slice A2_0 x2.Shape.length c2_0, .slice A2_1 x2.Data.length c2_1] 29, .bx b21 [.slice A1_0 x1.Shape.length c1_0, .slice A1_1 x1.Data.length c1_1] 29, .sl (Kd.int .i64) A1_0 c1_0 x1.Shape, .sl Kd.float A1_1 c1_1 x1.Data, .sl (Kd.int .i64) A2_0 c2_0 x2.Shape, .sl Kd.float A2_1 c2_1 x2.Data] w272 := hm274.se [0, 1, 2, 3, 4, 5, 6, 7, 8, 9, 10] _ rfl
    exact ⟨((w64 (s144.1 + 1)), (put s144.2 s144.1 r171)), H1, (by simpa only [put_length, List.length_nil] using hf277), (by simpa only [put_length, List.length_nil] using hm278)⟩
  rintro a281 w282 ⟨hf283, hm284⟩
  refine thenN ?_
  refine wp_seq ?_
  refine inReg ?_
  refine gg 1 [.agg #[.slice A118 r115.1.Shape.length c119, .slice A120 r145.2.length c121]] [(6, vp b35), (79, .agg #[.slice A118 r115.1.Shape.length c119, .slice A120 r145.2.length c121])] hf283 (oc (hm284.cell (j := 0) 0 rfl rfl) (oc (hm284.cell (j := 1) 0 rfl rfl) ot)) fun a285 hf286 => ?_
  refine lo hf286 rfl (sb (j := 0) (us := [.slice A118 r115.1.Shape.length c119, .slice A120 r145.2.length c121]) (cs' := [.slice A118 r115.1.Shape.length c119, .slice A120 r145.2.length c121]) hf286 (hm284.bxAt 4 rfl) ?_)
  intro w287 hx288 hg289
  have hm290 := hm284.setBox 4 _ rfl rfl hx288 hg289
  refine gg 1 [] [(6, vp b35), (7, vi 0)] hf286 ot fun a291 hf292 => ?_
  refine endL rfl ?_
  have hm293 := hm290.se [1, 2, 4] _ rfl
  refine thenN ?_
  refine wp_ret ?_
  have hm294 : Mem [] M w0 [.ow (Kd.int .i64) 3 A118 c119 r115.1.Shape, .ow Kd.float 26 A120 c121 r145.2] w287 := hm293.se [0, 1] _ rfl
  obtain rfl := Option.some.inj H0
  refine rt [.agg #[.slice A118 r115.1.Shape.length c119, .slice A120 r145.2.length c121]] [.agg #[.slice A118 r115.1.Shape.length c119, .slice A120 r145.2.length c121], .int .i64 0] hf292 (oc (hm293.cell (j := 0) 2 rfl rfl) (oc (hm293.cell (j := 1) 2 rfl rfl) ot)) ?_
  exact ⟨_, rfl, A118, c119, A120, c121, rfl, hm294⟩
end Go.Proofs.Yteaoijahdinciaa
