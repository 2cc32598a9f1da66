/- Printed by gen.py. -/
import Derived.Test.YteaoijahdinciaaF0
import Derived.Test.YteaoijahdinciaaF2
import Derived.Test.YteaoijahdinciaaF3
import Derived.Test.YteaoijahdinciaaF4
import Derived.Test.YteaoijahdinciaaF5
namespace Go.Proofs.Yteaoijahdinciaa
open Go Go.RowKit
set_option linter.unusedSimpArgs false
set_option linter.unusedVariables false
set_option linter.unnecessarySimpa false
/-! ### backstitch/kernel.Two -/
noncomputable def kernel_Two_c4.l0 (r92 : (Tensor × Int)) (r76 : ((List Int) × Int)) (x1 : Tensor) (x2 : Tensor) (s121 : (Int × (List Nat))) : Step (Int × (List Nat)) (Int × (List Nat)) :=
  if s121.1 < (r92.1.Data.length : Int) then (bindS (shape_Place.f r76.1 s121.1) fun r133 =>
  bindS (kernel_from.f x1.Shape r133) fun r146 =>
  if 0 ≤ r146 ∧ r146 < (x1.Data.length : Int) then (bindS (kernel_from.f x2.Shape r133) fun r148 =>
  if 0 ≤ r148 ∧ r148 < (x2.Data.length : Int) then (bindS (kernel_two_1.f (rd x1.Data r146) (rd x2.Data r148)) fun r150 =>
  if 0 ≤ s121.1 ∧ s121.1 < (s121.2.length : Int) then (.next ((w64 (s121.1 + 1)), (put s121.2 s121.1 r150)))
  else .bad)
  else .bad)
  else .bad)
  else (.done (s121.1, s121.2))
noncomputable def kernel_Two_c4.f (x1 : Tensor) (x2 : Tensor) : Option (Tensor × Int) :=
  (tensor_May.f x1).bind fun r55 =>
  if r55 = true then ((tensor_May.f x2).bind fun r57 =>
  if r57 = true then ((shape_Spread.f x1.Shape x2.Shape).bind fun r76 =>
  if r76.2 = 0 then ((tensor_New.f r76.1 0).bind fun r92 =>
  (loop (kernel_Two_c4.l0 r92 r76 x1 x2) (0, r92.1.Data)).bind fun r122 =>
  some ((⟨r92.1.Shape, r122.2⟩ : Tensor), 0))
  else (some ((⟨([] : (List Int)), ([] : (List Nat))⟩ : Tensor), r76.2)))
  else (some ((⟨([] : (List Int)), ([] : (List Nat))⟩ : Tensor), 2)))
  else (some ((⟨([] : (List Int)), ([] : (List Nat))⟩ : Tensor), 2))
set_option maxRecDepth 100000 in
set_option maxHeartbeats 4000000 in
theorem kernel_Two_c4.calls (M : List (Option Nat)) (w0 : World) (x1 : Tensor) (A1_0 : Option Addr) (n1_0 c1_0 : Nat) (e1_0 : n1_0 = x1.Shape.length) (A1_1 : Option Addr) (n1_1 c1_1 : Nat) (e1_1 : n1_1 = x1.Data.length) (x2 : Tensor) (A2_0 : Option Addr) (n2_0 c2_0 : Nat) (e2_0 : n2_0 = x2.Shape.length) (A2_1 : Option Addr) (n2_1 c2_1 : Nat) (e2_1 : n2_1 = x2.Data.length) (hm0 : Mem [] M w0 [.sl (Kd.int .i64) A1_0 c1_0 x1.Shape, .sl Kd.float A1_1 c1_1 x1.Data, .sl (Kd.int .i64) A2_0 c2_0 x2.Shape, .sl Kd.float A2_1 c2_1 x2.Data] w0) (r : (Tensor × Int)) (H0 : kernel_Two_c4.f x1 x2 = some r) :
    Calls Try.prog 36 [.int .i64 4, .agg #[.slice A1_0 n1_0 c1_0, .slice A1_1 n1_1 c1_1], .agg #[.slice A2_0 n2_0 c2_0, .slice A2_1 n2_1 c2_1]].toArray w0 (fun x w' => ∃ v, x = .returned v ∧ ∃ Ar0_0 cr0_0 Ar0_1 cr0_1, v = .tuple #[.agg #[.slice Ar0_0 r.1.Shape.length cr0_0, .slice Ar0_1 r.1.Data.length cr0_1], .int .i64 r.2] ∧ Mem [] M w0 [.ow (Kd.int .i64) 3 Ar0_0 cr0_0 r.1.Shape, .ow Kd.float 26 Ar0_1 cr0_1 r.1.Data] w') := by
  subst e1_0
  subst e1_1
  subst e2_0
  subst e2_1
  unfold kernel_Two_c4.f at H0
  refine enter (n := 81) Try.func36 rfl rfl (by kernel_rfl) fun a0 (hf0 : Fr 81 a0 [(0, .int .i64 4), (1, .agg #[.slice A1_0 x1.Shape.length c1_0, .slice A1_1 x1.Data.length c1_1]), (2, .agg #[.slice A2_0 x2.Shape.length c2_0, .slice A2_1 x2.Data.length c2_1])]) => ?_
  refine wp_seq ?_
  refine inReg ?_
  refine lo hf0 rfl (nw (cs := [.slice A1_0 x1.Shape.length c1_0, .slice A1_1 x1.Data.length c1_1]) (T := 29) (d := 4) hf0 ?_)
  intro b21 w22 a23 hbb21 hx25 hg26 hf24
  have hm27 := hm0.box hbb21 hx25 hg26
  refine lo hf24 rfl (nw (cs := [.slice A2_0 x2.Shape.length c2_0, .slice A2_1 x2.Data.length c2_1]) (T := 29) (d := 5) hf24 ?_)
  intro b28 w29 a30 hbb28 hx32 hg33 hf31
  have hm34 := hm27.box hbb28 hx32 hg33
  refine lo hf31 rfl (nw (cs := [.slice none 0 0, .slice none 0 0]) (T := 29) (d := 6) hf31 ?_)
  intro b35 w36 a37 hbb35 hx39 hg40 hf38
  have hm41 := hm34.box hbb35 hx39 hg40
  refine gg 1 [] [(0, vi 4), (4, vp b21), (5, vp b28), (6, vp b35)] hf38 ot fun a42 hf43 => ?_
  refine endL rfl ?_
  refine thenN ?_
  refine wp_seq ?_
  refine inReg ?_
  refine gg 1 [] [(4, vp b21), (5, vp b28), (6, vp b35), (15, vi 4)] hf43 ot fun a44 hf45 => ?_
  refine lo hf45 rfl (cl 16 hf45 callable49 (kernel_two.calls0 _ _ 4 (hm41.give [] [] rfl rfl) (by decide)) ?_)
  rintro _ w46 a47 ⟨rfl, hk49⟩ hf48
  have hm50 := hm41.still hk49.cum.none
  refine gg 1 [] [(4, vp b21), (5, vp b28), (6, vp b35), (8, .func (.func 61) #[] #[])] hf48 ot fun a51 hf52 => ?_
  refine endL rfl ?_
  refine thenN ?_
  refine wp_seq ?_
  refine wp_block ?_
  refine wp_seq ?_
  refine rg [] [(4, vp b21), (5, vp b28), (6, vp b35), (8, .func (.func 61) #[] #[]), (17, .bool false)] hf52 ot fun a53 hf54 => ?_
  refine thenN ?_
  refine cF hf54 ?_
  refine wp_seq ?_
  obtain ⟨r55, hr55, H0⟩ := ob_split H0
  rcases ifb_split H0 with ⟨c56, H0⟩ | ⟨c56, H0⟩
  rotate_left
  · refine inReg ?_
    refine gg 1 [.agg #[.slice A1_0 x1.Shape.length c1_0, .slice A1_1 x1.Data.length c1_1]] [(4, vp b21), (5, vp b28), (6, vp b35), (8, .func (.func 61) #[] #[]), (22, .agg #[.slice A1_0 x1.Shape.length c1_0, .slice A1_1 x1.Data.length c1_1])] hf54 (oc (hm50.cell (j := 0) 2 rfl rfl) (oc (hm50.cell (j := 1) 2 rfl rfl) ot)) fun a319 hf320 => ?_
    refine lo hf320 rfl (cl 23 hf320 callable32 (tensor_May.calls _ _ _ _ _ _ rfl _ _ _ rfl (hm50.give [3, 4] [.sl (Kd.int .i64) A1_0 c1_0 x1.Shape, .sl Kd.float A1_1 c1_1 x1.Data] rfl rfl) r55 hr55) ?_)
    rintro _ w321 a322 ⟨rfl, hk324⟩ hf323
    have hm325 := hm50.still hk324.cum.none
    rw [c56] at hf323
    refine gg 7 [] [(4, vp b21), (5, vp b28), (6, vp b35), (8, .func (.func 61) #[] #[]), (21, .bool true)] hf323 ot fun a326 hf327 => ?_
    refine endL rfl ?_
    refine thenN ?_
    refine cT hf327 ?_
    refine wp_seq ?_
    refine inReg ?_
    refine gg 1 [] [(6, vp b35), (30, .agg #[.slice none 0 0, .slice none 0 0])] hf327 ot fun a328 hf329 => ?_
    refine lo hf329 rfl (sb (j := 0) (us := [.slice none 0 0, .slice none 0 0]) (cs' := [.slice none 0 0, .slice none 0 0]) hf329 (hm325.bxAt 0 rfl) ?_)
    intro w330 hx331 hg332
    have hm333 := hm325.setBox 0 _ rfl rfl hx331 hg332
    refine gg 1 [] [(6, vp b35), (7, vi 2)] hf329 ot fun a334 hf335 => ?_
    refine endL rfl ?_
    have hm336 := hm333.se [0] _ rfl
    refine thenN ?_
    refine wp_ret ?_
    refine blkR ?_
    refine thenR ?_
    have hm337 := hm336.nilOw (Kd.int .i64) 3
    have hm338 := hm337.nilOw Kd.float 26
    have hm339 : Mem [] M w0 [.ow (Kd.int .i64) 3 none 0 ([] : (List Int)), .ow Kd.float 26 none 0 ([] : (List Nat))] w330 := hm338.se [1, 0] _ rfl
    obtain rfl := Option.some.inj H0
    refine rt [.agg #[.slice none 0 0, .slice none 0 0]] [.agg #[.slice none 0 0, .slice none 0 0], .int .i64 2] hf335 (oc (hm336.cell (j := 0) 0 rfl rfl) (oc (hm336.cell (j := 1) 0 rfl rfl) ot)) ?_
    exact ⟨_, rfl, none, 0, none, 0, rfl, hm339⟩
  obtain ⟨r57, hr57, H0⟩ := ob_split H0
  rcases ifb_split H0 with ⟨c58, H0⟩ | ⟨c58, H0⟩
  rotate_left
  · refine inReg ?_
    refine gg 1 [.agg #[.slice A1_0 x1.Shape.length c1_0, .slice A1_1 x1.Data.length c1_1]] [(4, vp b21), (5, vp b28), (6, vp b35), (8, .func (.func 61) #[] #[]), (22, .agg #[.slice A1_0 x1.Shape.length c1_0, .slice A1_1 x1.Data.length c1_1])] hf54 (oc (hm50.cell (j := 0) 2 rfl rfl) (oc (hm50.cell (j := 1) 2 rfl rfl) ot)) fun a290 hf291 => ?_
    refine lo hf291 rfl (cl 23 hf291 callable32 (tensor_May.calls _ _ _ _ _ _ rfl _ _ _ rfl (hm50.give [3, 4] [.sl (Kd.int .i64) A1_0 c1_0 x1.Shape, .sl Kd.float A1_1 c1_1 x1.Data] rfl rfl) r55 hr55) ?_)
    rintro _ w292 a293 ⟨rfl, hk295⟩ hf294
    have hm296 := hm50.still hk295.cum.none
    rw [c56] at hf294
    refine gg 3 [.agg #[.slice A2_0 x2.Shape.length c2_0, .slice A2_1 x2.Data.length c2_1]] [(4, vp b21), (5, vp b28), (6, vp b35), (8, .func (.func 61) #[] #[]), (25, .bool false), (26, .agg #[.slice A2_0 x2.Shape.length c2_0, .slice A2_1 x2.Data.length c2_1])] hf294 (oc (hm296.cell (j := 0) 1 rfl rfl) (oc (hm296.cell (j := 1) 1 rfl rfl) ot)) fun a297 hf298 => ?_
    refine lo hf298 rfl (cl 27 hf298 callable32 (tensor_May.calls _ _ _ _ _ _ rfl _ _ _ rfl (hm296.give [5, 6] [.sl (Kd.int .i64) A2_0 c2_0 x2.Shape, .sl Kd.float A2_1 c2_1 x2.Data] rfl rfl) r57 hr57) ?_)
    rintro _ w299 a300 ⟨rfl, hk302⟩ hf301
    have hm303 := hm296.still hk302.cum.none
    rw [c58] at hf301
    refine gg 3 [] [(4, vp b21), (5, vp b28), (6, vp b35), (8, .func (.func 61) #[] #[]), (21, .bool true)] hf301 ot fun a304 hf305 => ?_
    refine endL rfl ?_
    refine thenN ?_
    refine cT hf305 ?_
    refine wp_seq ?_
    refine inReg ?_
    refine gg 1 [] [(6, vp b35), (30, .agg #[.slice none 0 0, .slice none 0 0])] hf305 ot fun a306 hf307 => ?_
    refine lo hf307 rfl (sb (j := 0) (us := [.slice none 0 0, .slice none 0 0]) (cs' := [.slice none 0 0, .slice none 0 0]) hf307 (hm303.bxAt 0 rfl) ?_)
    intro w308 hx309 hg310
    have hm311 := hm303.setBox 0 _ rfl rfl hx309 hg310
    refine gg 1 [] [(6, vp b35), (7, vi 2)] hf307 ot fun a312 hf313 => ?_
    refine endL rfl ?_
    have hm314 := hm311.se [0] _ rfl
    refine thenN ?_
    refine wp_ret ?_
    refine blkR ?_
    refine thenR ?_
    have hm315 := hm314.nilOw (Kd.int .i64) 3
    have hm316 := hm315.nilOw Kd.float 26
    have hm317 : Mem [] M w0 [.ow (Kd.int .i64) 3 none 0 ([] : (List Int)), .ow Kd.float 26 none 0 ([] : (List Nat))] w308 := hm316.se [1, 0] _ rfl
    obtain rfl := Option.some.inj H0
    refine rt [.agg #[.slice none 0 0, .slice none 0 0]] [.agg #[.slice none 0 0, .slice none 0 0], .int .i64 2] hf313 (oc (hm314.cell (j := 0) 0 rfl rfl) (oc (hm314.cell (j := 1) 0 rfl rfl) ot)) ?_
    exact ⟨_, rfl, none, 0, none, 0, rfl, hm317⟩
  refine inReg ?_
  refine gg 1 [.agg #[.slice A1_0 x1.Shape.length c1_0, .slice A1_1 x1.Data.length c1_1]] [(4, vp b21), (5, vp b28), (6, vp b35), (8, .func (.func 61) #[] #[]), (22, .agg #[.slice A1_0 x1.Shape.length c1_0, .slice A1_1 x1.Data.length c1_1])] hf54 (oc (hm50.cell (j := 0) 2 rfl rfl) (oc (hm50.cell (j := 1) 2 rfl rfl) ot)) fun a59 hf60 => ?_
  refine lo hf60 rfl (cl 23 hf60 callable32 (tensor_May.calls _ _ _ _ _ _ rfl _ _ _ rfl (hm50.give [3, 4] [.sl (Kd.int .i64) A1_0 c1_0 x1.Shape, .sl Kd.float A1_1 c1_1 x1.Data] rfl rfl) r55 hr55) ?_)
  rintro _ w61 a62 ⟨rfl, hk65⟩ hf63
  have hm66 := hm50.still hk65.cum.none
  rw [c56] at hf63
  refine gg 3 [.agg #[.slice A2_0 x2.Shape.length c2_0, .slice A2_1 x2.Data.length c2_1]] [(4, vp b21), (5, vp b28), (6, vp b35), (8, .func (.func 61) #[] #[]), (25, .bool false), (26, .agg #[.slice A2_0 x2.Shape.length c2_0, .slice A2_1 x2.Data.length c2_1])] hf63 (oc (hm66.cell (j := 0) 1 rfl rfl) (oc (hm66.cell (j := 1) 1 rfl rfl) ot)) fun a67 hf68 => ?_
  refine lo hf68 rfl (cl 27 hf68 callable32 (tensor_May.calls _ _ _ _ _ _ rfl _ _ _ rfl (hm66.give [5, 6] [.sl (Kd.int .i64) A2_0 c2_0 x2.Shape, .sl Kd.float A2_1 c2_1 x2.Data] rfl rfl) r57 hr57) ?_)
  rintro _ w69 a70 ⟨rfl, hk72⟩ hf71
  have hm73 := hm66.still hk72.cum.none
  rw [c58] at hf71
  refine gg 3 [] [(4, vp b21), (5, vp b28), (6, vp b35), (8, .func (.func 61) #[] #[]), (21, .bool false)] hf71 ot fun a74 hf75 => ?_
  refine endL rfl ?_
  refine thenN ?_
  refine cF hf75 ?_
  refine wp_skip ?_
  refine blkN ?_
  refine thenN ?_
  refine wp_seq ?_
  obtain ⟨r76, hr76, H0⟩ := ob_split H0
  refine inReg ?_
  refine gg 4 [.slice A1_0 x1.Shape.length c1_0, .slice A2_0 x2.Shape.length c2_0] [(4, vp b21), (5, vp b28), (6, vp b35), (8, .func (.func 61) #[] #[]), (33, .slice A1_0 x1.Shape.length c1_0), (35, .slice A2_0 x2.Shape.length c2_0)] hf75 (oc (hm73.cell (j := 0) 2 rfl rfl) (oc (hm73.cell (j := 0) 1 rfl rfl) ot)) fun a77 hf78 => ?_
  refine lo hf78 rfl (cl 36 hf78 callable50 (shape_Spread.calls _ _ _ _ _ _ rfl _ _ _ _ rfl (hm73.give [3, 5] [.sl (Kd.int .i64) A1_0 c1_0 x1.Shape, .sl (Kd.int .i64) A2_0 c2_0 x2.Shape] rfl rfl) r76 hr76) ?_)
  rintro _ w81 a82 ⟨A79, c80, rfl, hk84⟩ hf83
  have hm85 := hm73.back hk84
  have hm86 := hm85.seal 0 _ rfl rfl
  refine gg 5 [] [(4, vp b21), (5, vp b28), (6, vp b35), (8, .func (.func 61) #[] #[]), (9, .slice A79 r76.1.length c80), (10, vi r76.2)] hf83 ot fun a87 hf88 => ?_
  refine endL rfl ?_
  refine thenN ?_
  refine wp_seq ?_
  refine wp_seq ?_
  rcases if_split H0 with ⟨c89, H0⟩ | ⟨c89, H0⟩
  rotate_left
  · refine rg [.bool true] [(4, vp b21), (5, vp b28), (6, vp b35), (8, .func (.func 61) #[] #[]), (9, .slice A79 r76.1.length c80), (10, vi r76.2), (40, .bool true)] hf88 (oi (neT c89) ot) fun a275 hf276 => ?_
    refine thenN ?_
    refine cT hf276 ?_
    refine wp_seq ?_
    refine inReg ?_
    refine gg 2 [] [(6, vp b35), (41, .agg #[.slice none 0 0, .slice none 0 0]), (42, vi r76.2)] hf276 ot fun a277 hf278 => ?_
    refine lo hf278 rfl (sb (j := 0) (us := [.slice none 0 0, .slice none 0 0]) (cs' := [.slice none 0 0, .slice none 0 0]) hf278 (hm86.bxAt 1 rfl) ?_)
    intro w279 hx280 hg281
    have hm282 := hm86.setBox 1 _ rfl rfl hx280 hg281
    refine gg 1 [] [(6, vp b35), (7, vi r76.2)] hf278 ot fun a283 hf284 => ?_
    refine endL rfl ?_
    have hm285 := hm282.se [1] _ rfl
    refine thenN ?_
    refine wp_ret ?_
    refine thenR ?_
    have hm286 := hm285.nilOw (Kd.int .i64) 3
    have hm287 := hm286.nilOw Kd.float 26
    have hm288 : Mem [] M w0 [.ow (Kd.int .i64) 3 none 0 ([] : (List Int)), .ow Kd.float 26 none 0 ([] : (List Nat))] w279 := hm287.se [1, 0] _ rfl
    obtain rfl := Option.some.inj H0
    refine rt [.agg #[.slice none 0 0, .slice none 0 0]] [.agg #[.slice none 0 0, .slice none 0 0], .int .i64 r76.2] hf284 (oc (hm285.cell (j := 0) 0 rfl rfl) (oc (hm285.cell (j := 1) 0 rfl rfl) ot)) ?_
    exact ⟨_, rfl, none, 0, none, 0, rfl, hm288⟩
  refine rg [.bool false] [(4, vp b21), (5, vp b28), (6, vp b35), (8, .func (.func 61) #[] #[]), (9, .slice A79 r76.1.length c80), (10, vi r76.2), (40, .bool false)] hf88 (oi (neF c89) ot) fun a90 hf91 => ?_
  refine thenN ?_
  refine cF hf91 ?_
  refine wp_skip ?_
  refine thenN ?_
  refine wp_seq ?_
  obtain ⟨r92, hr92, H0⟩ := ob_split H0
  refine inReg ?_
  refine gg 1 [] [(4, vp b21), (5, vp b28), (6, vp b35), (8, .func (.func 61) #[] #[]), (9, .slice A79 r76.1.length c80), (44, .slice A79 r76.1.length c80)] hf91 ot fun a93 hf94 => ?_
  refine lo hf94 rfl (cl 45 hf94 callable47 (tensor_New.calls _ _ _ _ _ _ rfl 0 0 ((FR.lit (by kernel_rfl) (by kernel_rfl))) (hm86.give [0] [.sl (Kd.int .i64) A79 c80 r76.1] rfl rfl) r92 hr92) ?_)
  rintro _ w99 a100 ⟨A95, c96, A97, c98, rfl, hk102⟩ hf101
  have hm103 := hm86.back hk102
  refine gg 3 [] [(4, vp b21), (5, vp b28), (6, vp b35), (8, .func (.func 61) #[] #[]), (9, .slice A79 r76.1.length c80), (46, .agg #[.slice A95 r92.1.Shape.length c96, .slice A97 r92.1.Data.length c98]), (47, vi r92.2)] hf101 ot fun a104 hf105 => ?_
  refine lo hf105 rfl (nw (cs := [.slice none 0 0, .slice none 0 0]) (T := 29) (d := 11) hf105 ?_)
  intro b106 w107 a108 hbb106 hx110 hg111 hf109
  have hm112 := hm103.box hbb106 hx110 hg111
  refine lo hf109 rfl (sb (j := 0) (us := [.slice A95 r92.1.Shape.length c96, .slice A97 r92.1.Data.length c98]) (cs' := [.slice A95 r92.1.Shape.length c96, .slice A97 r92.1.Data.length c98]) hf109 (hm112.bxAt 0 rfl) ?_)
  intro w113 hx114 hg115
  have hm116 := hm112.setBox 0 _ rfl rfl hx114 hg115
  refine gg 1 [] [(4, vp b21), (5, vp b28), (6, vp b35), (8, .func (.func 61) #[] #[]), (9, .slice A79 r76.1.length c80), (11, vp b106)] hf109 ot fun a117 hf118 => ?_
  refine endL rfl ?_
  refine thenN ?_
  refine wp_seq ?_
  refine wp_seq ?_
  refine rg [.slice A97 r92.1.Data.length c98] [(4, vp b21), (5, vp b28), (6, vp b35), (8, .func (.func 61) #[] #[]), (9, .slice A79 r76.1.length c80), (11, vp b106), (50, vi (r92.1.Data.length : Int)), (51, vi 0)] hf118 (oc (hm116.cell (j := 1) 0 rfl rfl) ot) fun a119 hf120 => ?_
  refine thenN ?_
  obtain ⟨r122, hr122, H0⟩ := ob_split H0
  refine wpBlock (Mid := fun (a : Act) (w : World) => Fr 81 a [(4, .pointer (some ⟨b21, 0, none⟩)), (5, .pointer (some ⟨b28, 0, none⟩)), (6, .pointer (some ⟨b35, 0, none⟩)), (8, .func (.func 61) #[] #[]), (9, .slice A79 r76.1.length c80), (11, .pointer (some ⟨b106, 0, none⟩)), (50, .int .i64 (r92.1.Data.length : Int)), (51, .int .i64 r122.1)] ∧ Mem [] M w0 [.bx b106 [.slice A95 r92.1.Shape.length c96, .slice A97 r122.2.length c98] 29, .ow (Kd.int .i64) 3 A95 c96 r92.1.Shape, .ow Kd.float 26 A97 c98 r122.2, .sl (Kd.int .i64) A79 c80 r76.1, .bx b35 [.slice none 0 0, .slice none 0 0] 29, .bx b28 [.slice A2_0 x2.Shape.length c2_0, .slice A2_1 x2.Data.length c2_1] 29, .bx b21 [.slice A1_0 x1.Shape.length c1_0, .slice A1_1 x1.Data.length c1_1] 29, .sl (Kd.int .i64) A1_0 c1_0 x1.Shape, .sl Kd.float A1_1 c1_1 x1.Data, .sl (Kd.int .i64) A2_0 c2_0 x2.Shape, .sl Kd.float A2_1 c2_1 x2.Data] w) ?_ ?_
  · refine wpLoop (kernel_Two_c4.l0 r92 r76 x1 x2) r122 (fun (s121 : (Int × (List Nat))) (a : Act) (w : World) => Fr 81 a [(4, .pointer (some ⟨b21, 0, none⟩)), (5, .pointer (some ⟨b28, 0, none⟩)), (6, .pointer (some ⟨b35, 0, none⟩)), (8, .func (.func 61) #[] #[]), (9, .slice A79 r76.1.length c80), (11, .pointer (some ⟨b106, 0, none⟩)), (50, .int .i64 (r92.1.Data.length : Int)), (51, .int .i64 s121.1)] ∧ Mem [] M w0 [.bx b106 [.slice A95 r92.1.Shape.length c96, .slice A97 s121.2.length c98] 29, .ow (Kd.int .i64) 3 A95 c96 r92.1.Shape, .ow Kd.float 26 A97 c98 s121.2, .sl (Kd.int .i64) A79 c80 r76.1, .bx b35 [.slice none 0 0, .slice none 0 0] 29, .bx b28 [.slice A2_0 x2.Shape.length c2_0, .slice A2_1 x2.Data.length c2_1] 29, .bx b21 [.slice A1_0 x1.Shape.length c1_0, .slice A1_1 x1.Data.length c1_1] 29, .sl (Kd.int .i64) A1_0 c1_0 x1.Shape, .sl Kd.float A1_1 c1_1 x1.Data, .sl (Kd.int .i64) A2_0 c2_0 x2.Shape, .sl Kd.float A2_1 c2_1 x2.Data] w) (0, r92.1.Data) hr122 ⟨hf120.se [4, 5, 6, 8, 9, 11, 50, 51], hm116.se [0, 1, 2, 3, 4, 5, 6, 7, 8, 9, 10] _ rfl⟩ ?_
    rintro g123 s121 a124 w125 H1 ⟨hf126, hm127⟩
    unfold kernel_Two_c4.l0 at H1
    refine wp_seq ?_
    rcases ifS_split H1 with ⟨c128, H1⟩ | ⟨c128, H1⟩
    rotate_left
    · refine rg (ob := [.is (decide (s121.1 < (r92.1.Data.length : Int)) = false)]) [.bool false] [(4, vp b21), (5, vp b28), (6, vp b35), (8, .func (.func 61) #[] #[]), (9, .slice A79 r76.1.length c80), (11, vp b106), (50, vi (r92.1.Data.length : Int)), (51, vi s121.1), (52, .bool false)] hf126 ⟨(decide_eq_false c128), trivial⟩ fun a258 hf259 => ?_
      refine thenN ?_
      refine wp_seq ?_
      refine cF hf259 ?_
      refine wp_exit ?_
      refine thenE ?_
      refine thenE ?_
      obtain rfl := Option.some.inj H1
      exact .inl ⟨rfl, hf259.se [4, 5, 6, 8, 9, 11, 50, 51], hm127.se [0, 1, 2, 3, 4, 5, 6, 7, 8, 9, 10] _ rfl⟩
    refine rg (ob := [.is (decide (s121.1 < (r92.1.Data.length : Int)) = true)]) [.bool true] [(4, vp b21), (5, vp b28), (6, vp b35), (8, .func (.func 61) #[] #[]), (9, .slice A79 r76.1.length c80), (11, vp b106), (50, vi (r92.1.Data.length : Int)), (51, vi s121.1), (52, .bool true)] hf126 ⟨(decide_eq_true c128), trivial⟩ fun a129 hf130 => ?_
    refine thenN ?_
    refine wp_seq ?_
    refine cT hf130 ?_
    refine wp_skip ?_
    refine thenN ?_
    refine wp_seq ?_
    refine wp_block ?_
    refine wp_seq ?_
    refine rg [] [(4, vp b21), (5, vp b28), (6, vp b35), (8, .func (.func 61) #[] #[]), (9, .slice A79 r76.1.length c80), (11, vp b106), (13, vi s121.1), (50, vi (r92.1.Data.length : Int)), (51, vi s121.1)] hf130 ot fun a131 hf132 => ?_
    refine thenN ?_
    refine wp_seq ?_
    obtain ⟨r133, hr133, H1⟩ := obS_split H1
    refine inReg ?_
    refine gg 2 [] [(4, vp b21), (5, vp b28), (6, vp b35), (8, .func (.func 61) #[] #[]), (9, .slice A79 r76.1.length c80), (11, vp b106), (13, vi s121.1), (50, vi (r92.1.Data.length : Int)), (51, vi s121.1), (54, .slice A79 r76.1.length c80), (55, vi s121.1)] hf132 ot fun a134 hf135 => ?_
    refine lo hf135 rfl (cl 56 hf135 callable51 (shape_Place.calls _ _ _ _ _ _ rfl s121.1 (hm127.give [3] [.sl (Kd.int .i64) A79 c80 r76.1] rfl rfl) r133 hr133) ?_)
    rintro _ w138 a139 ⟨A136, c137, rfl, hk141⟩ hf140
    have hm142 := hm127.back hk141
    have hm143 := hm142.seal 0 _ rfl rfl
    refine gg 1 [] [(4, vp b21), (5, vp b28), (6, vp b35), (8, .func (.func 61) #[] #[]), (9, .slice A79 r76.1.length c80), (11, vp b106), (13, vi s121.1), (14, .slice A136 r133.length c137), (50, vi (r92.1.Data.length : Int)), (51, vi s121.1)] hf140 ot fun a144 hf145 => ?_
    refine endL rfl ?_
    refine thenN ?_
    obtain ⟨r146, hr146, H1⟩ := obS_split H1
    obtain ⟨g147, H1⟩ := ifS_guard H1
    obtain ⟨r148, hr148, H1⟩ := obS_split H1
    obtain ⟨g149, H1⟩ := ifS_guard H1
    obtain ⟨r150, hr150, H1⟩ := obS_split H1
    obtain ⟨g151, H1⟩ := ifS_guard H1
    refine midReg (fun (a : Act) (w : World) => Fr 81 a [(4, .pointer (some ⟨b21, 0, none⟩)), (5, .pointer (some ⟨b28, 0, none⟩)), (6, .pointer (some ⟨b35, 0, none⟩)), (8, .func (.func 61) #[] #[]), (9, .slice A79 r76.1.length c80), (11, .pointer (some ⟨b106, 0, none⟩)), (50, .int .i64 (r92.1.Data.length : Int)), (51, .int .i64 s121.1)] ∧ Mem [] M w0 [.bx b106 [.slice A95 r92.1.Shape.length c96, .slice A97 s121.2.length c98] 29, .ow (Kd.int .i64) 3 A95 c96 r92.1.Shape, .ow Kd.float 26 A97 c98 (put s121.2 s121.1 r150), .sl (Kd.int .i64) A79 c80 r76.1, .bx b35 [.slice none 0 0, .slice none 0 0] 29, .bx b28 [.slice A2_0 x2.Shape.length c2_0, .slice A2_1 x2.Data.length c2_1] 29, .bx b21 [.slice A1_0 x1.Shape.length c1_0, .slice A1_1 x1.Data.length c1_1] 29, .sl (Kd.int .i64) A1_0 c1_0 x1.Shape, .sl Kd.float A1_1 c1_1 x1.Data, .sl (Kd.int .i64) A2_0 c2_0 x2.Shape, .sl Kd.float A2_1 c2_1 x2.Data] w) ?_ ?_
    · refine anyG (K := []) [22] (by kernel_rfl) fun w179 hg180 => ?_
      have hm181 := hm143.still hg180
      refine qt [0, 1, 2, 3, 4, 5, 6, 7, 8, 12, 13, 14, 15, 16] [.slice A97 s121.2.length c98, .slice A1_1 x1.Data.length c1_1, .slice A1_0 x1.Shape.length c1_0, .slice A2_1 x2.Data.length c2_1, .slice A2_0 x2.Shape.length c2_0] (fb 23 127487) [(4, vp b21), (5, vp b28), (6, vp b35), (8, .func (.func 61) #[] #[]), (9, .slice A79 r76.1.length c80), (11, vp b106), (50, vi (r92.1.Data.length : Int)), (51, vi s121.1), (58, .slice A97 s121.2.length c98), (59, vi s121.1), (60, .func (.func 61) #[] #[]), (62, .slice A1_1 x1.Data.length c1_1), (64, .slice A1_0 x1.Shape.length c1_0), (65, .slice A136 r133.length c137), (70, .slice A2_1 x2.Data.length c2_1), (72, .slice A2_0 x2.Shape.length c2_0), (73, .slice A136 r133.length c137)] 9 hf145 (oc (hm181.cell (j := 1) 1 rfl rfl) (oc (hm181.cell (j := 1) 7 rfl rfl) (oc (hm181.cell (j := 0) 7 rfl rfl) (oc (hm181.cell (j := 1) 6 rfl rfl) (oc (hm181.cell (j := 0) 6 rfl rfl) ot))))) fun a216 hf217 => ?_
      refine a1 9 ?_
      refine oo hf217 rfl (cl 66 hf217 callable52 (kernel_from.calls _ _ _ _ _ _ rfl _ _ _ _ rfl (hm181.give [8, 0] [.sl (Kd.int .i64) A1_0 c1_0 x1.Shape, .sl (Kd.int .i64) A136 c137 r133] rfl rfl) r146 hr146) ?_)
      rintro _ w218 a219 ⟨rfl, hk221⟩ hf220
      refine ⟨.inr (Gr.still hk221.cum.none), ?_⟩
      have hm222 := hm181.still hk221.cum.none
      have q223 := (hm222.slAt 9 rfl).float r146 g147.1 g147.2
      obtain ⟨b224, hb224, kb224⟩ := q223.2
      refine qt [10, 11] [.float .f64 b224] (fb 23 131071) [(4, vp b21), (5, vp b28), (6, vp b35), (8, .func (.func 61) #[] #[]), (9, .slice A79 r76.1.length c80), (11, vp b106), (50, vi (r92.1.Data.length : Int)), (51, vi s121.1), (58, .slice A97 s121.2.length c98), (59, vi s121.1), (60, .func (.func 61) #[] #[]), (68, vf b224), (70, .slice A2_1 x2.Data.length c2_1), (72, .slice A2_0 x2.Shape.length c2_0), (73, .slice A136 r133.length c137)] 6 hf220 (oi q223.1 (oi g147 (oc kb224 ot))) fun a225 hf226 => ?_
      refine a1 17 ?_
      refine oo hf226 rfl (cl 74 hf226 callable52 (kernel_from.calls _ _ _ _ _ _ rfl _ _ _ _ rfl (hm222.give [10, 0] [.sl (Kd.int .i64) A2_0 c2_0 x2.Shape, .sl (Kd.int .i64) A136 c137 r133] rfl rfl) r148 hr148) ?_)
      rintro _ w227 a228 ⟨rfl, hk230⟩ hf229
      refine ⟨.inr (Gr.still hk230.cum.none), ?_⟩
      have hm231 := hm222.still hk230.cum.none
      have q232 := (hm231.slAt 11 rfl).float r148 g149.1 g149.2
      obtain ⟨b233, hb233, kb233⟩ := q232.2
      refine qt [18, 19] [.float .f64 b233] (fb 23 1048575) [(4, vp b21), (5, vp b28), (6, vp b35), (8, .func (.func 61) #[] #[]), (9, .slice A79 r76.1.length c80), (11, vp b106), (50, vi (r92.1.Data.length : Int)), (51, vi s121.1), (58, .slice A97 s121.2.length c98), (59, vi s121.1), (60, .func (.func 61) #[] #[]), (68, vf b224), (76, vf b233)] 3 hf229 (oi q232.1 (oi g149 (oc kb233 ot))) fun a234 hf235 => ?_
      refine a1 20 ?_
      refine oo hf235 rfl (cl 77 hf235 callable61 (kernel_two_1.calls _ _ (rd x1.Data r146) b224 hb224 (rd x2.Data r148) b233 hb233 (hm231.give [] [] rfl rfl) r150 hr150) ?_)
      rintro _ w237 a238 ⟨b236, rfl, hb236, hk240⟩ hf239
      refine ⟨.inr (Gr.still hk240.cum.none), ?_⟩
      have hm241 := hm231.still hk240.cum.none
      have q242 := (hm241.owAt 3 rfl).float s121.1 g151.1 g151.2
      obtain ⟨b243, hb243, kb243⟩ := q242.2
      refine qt [21] [] (fb 23 4194303) [(4, vp b21), (5, vp b28), (6, vp b35), (8, .func (.func 61) #[] #[]), (9, .slice A79 r76.1.length c80), (11, vp b106), (50, vi (r92.1.Data.length : Int)), (51, vi s121.1), (77, vf b236), (78, .pointer (some ((ad A97).add ((s121.1).toNat * 1))))] 1 hf239 (oi q242.1 (oi g151 ot)) fun a244 hf245 => ?_
      refine a1 22 ?_
      refine oo hf245 rfl (so (i := s121.1) (x := r150) (us := [.float .f64 b236]) (sz := 1) hf245 (hm241.at 3 rfl) ⟨_, rfl, hb236⟩ g151.1 g151.2 ?_)
      intro w246 hx247 hg248
      refine ⟨.inl (by decide), ?_⟩
      have hm249 := hm241.setOwn 3 _ rfl rfl hx247 hg248 (.inl rfl)
      refine aD ⟨rfl, hf245.se [4, 5, 6, 8, 9, 11, 50, 51], hm249.se [1, 2, 3, 4, 5, 6, 7, 8, 9, 10, 11] _ rfl⟩
    rintro a250 w251 ⟨hf252, hm253⟩
    refine blkN ?_
    refine thenN ?_
    refine rg [] [(4, vp b21), (5, vp b28), (6, vp b35), (8, .func (.func 61) #[] #[]), (9, .slice A79 r76.1.length c80), (11, vp b106), (50, vi (r92.1.Data.length : Int)), (51, vi (w64 (s121.1 + 1)))] hf252 ot fun a254 hf255 => ?_
    have hf256 : Fr 81 a254 [(4, .pointer (some ⟨b21, 0, none⟩)), (5, .pointer (some ⟨b28, 0, none⟩)), (6, .pointer (some ⟨b35, 0, none⟩)), (8, .func (.func 61) #[] #[]), (9, .slice A79 r76.1.length c80), (11, .pointer (some ⟨b106, 0, none⟩)), (50, .int .i64 (r92.1.Data.length : Int)), (51, .int .i64 (w64 (s121.1 + 1)))] := hf255.se [4, 5, 6, 8, 9, 11, 50, 51]
    have hm257 : Mem [] M w0 [.bx b106 [.slice A95 r92.1.Shape.length c96, .slice A97 s121.2.length c98] 29, .ow (Kd.int .i64) 3 A95 c96 r92.1.Shape, .ow Kd.float 26 A97 c98 (put s121.2 s121.1 r150), .sl (Kd.int .i64) A79 c80 r76.1, .bx b35 [.slice none 0 0, .slice none 0 0] 29, .bx b28 [.slice A2_0 x2.Shape.length c2_0, .slice A2_1 x2.Data.length c2_1] 29, .bx b21 [.slice A1_0 x1.Shape.length c1_0, .slice A1_1 x1.Data.length c1_1] 29, .sl (Kd.int .i64) A1_0 c1_0 x1.Shape, .sl Kd.float A1_1 c1_1 x1.Data, .sl (Kd.int .i64) A2_0 c2_0 x2.Shape, .sl Kd.float A2_1 c2_1 x2.Data] w251 := hm253.se [0, 1, 2, 3, 4, 5, 6, 7, 8, 9, 10] _ rfl
    exact ⟨((w64 (s121.1 + 1)), (put s121.2 s121.1 r150)), H1, (by simpa only [put_length, List.length_nil] using hf256), (by simpa only [put_length, List.length_nil] using hm257)⟩
  rintro a260 w261 ⟨hf262, hm263⟩
  refine thenN ?_
  refine wp_seq ?_
  refine inReg ?_
  refine gg 1 [.agg #[.slice A95 r92.1.Shape.length c96, .slice A97 r122.2.length c98]] [(6, vp b35), (80, .agg #[.slice A95 r92.1.Shape.length c96, .slice A97 r122.2.length c98])] hf262 (oc (hm263.cell (j := 0) 0 rfl rfl) (oc (hm263.cell (j := 1) 0 rfl rfl) ot)) fun a264 hf265 => ?_
  refine lo hf265 rfl (sb (j := 0) (us := [.slice A95 r92.1.Shape.length c96, .slice A97 r122.2.length c98]) (cs' := [.slice A95 r92.1.Shape.length c96, .slice A97 r122.2.length c98]) hf265 (hm263.bxAt 4 rfl) ?_)
  intro w266 hx267 hg268
  have hm269 := hm263.setBox 4 _ rfl rfl hx267 hg268
  refine gg 1 [] [(6, vp b35), (7, vi 0)] hf265 ot fun a270 hf271 => ?_
  refine endL rfl ?_
  have hm272 := hm269.se [1, 2, 4] _ rfl
  refine thenN ?_
  refine wp_ret ?_
  have hm273 : Mem [] M w0 [.ow (Kd.int .i64) 3 A95 c96 r92.1.Shape, .ow Kd.float 26 A97 c98 r122.2] w266 := hm272.se [0, 1] _ rfl
  obtain rfl := Option.some.inj H0
  refine rt [.agg #[.slice A95 r92.1.Shape.length c96, .slice A97 r122.2.length c98]] [.agg #[.slice A95 r92.1.Shape.length c96, .slice A97 r122.2.length c98], .int .i64 0] hf271 (oc (hm272.cell (j := 0) 2 rfl rfl) (oc (hm272.cell (j := 1) 2 rfl rfl) ot)) ?_
  exact ⟨_, rfl, A95, c96, A97, c98, rfl, hm273⟩
end Go.Proofs.Yteaoijahdinciaa
