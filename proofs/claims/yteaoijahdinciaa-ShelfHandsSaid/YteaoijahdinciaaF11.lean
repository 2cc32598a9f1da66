/- Printed by gen.py. -/
import Derived.Test.YteaoijahdinciaaF10
import Derived.Test.YteaoijahdinciaaF9
namespace Go.Proofs.Yteaoijahdinciaa
open Go Go.RowKit
set_option linter.unusedSimpArgs false
set_option linter.unusedVariables false
set_option linter.unnecessarySimpa false
/-! ### backstitch/backstitchref19.New -/
noncomputable def ref19_New.l0 (x0 : (List Tensor)) (s58 : (Int × (List Int) × (List Tensor) × (List Tensor))) : Step (Int × (List Int) × (List Tensor) × (List Tensor)) (Out2 (Int × (List Int) × (List Tensor) × (List Tensor)) ((Option Shelf65) × Int)) :=
  if s58.1 < (x0.length : Int) then (if 0 ≤ s58.1 ∧ s58.1 < (x0.length : Int) then (bindS (ref1_TensorMay.f (⟨(rd x0 s58.1).Shape, (rd x0 s58.1).Data⟩ : Tensor)) fun r76 =>
  if r76 = true then (bindS (ref1_New.f (rd x0 s58.1).Shape 0) fun r98 =>
  if s58.2.2.2.length + 1 ≤ 549755813888 then (if s58.2.2.1.length + 1 ≤ 549755813888 then (if s58.2.1.length + 1 ≤ 549755813888 then (.next ((w64 (s58.1 + 1)), (s58.2.1 ++ ([0] : List Int)), (s58.2.2.1 ++ ([r98.1] : List Tensor)), (s58.2.2.2 ++ ([(⟨(rd x0 s58.1).Shape, (rd x0 s58.1).Data⟩ : Tensor)] : List Tensor))))
  else .bad)
  else .bad)
  else .bad)
  else (.done (.ret (none, 2))))
  else .bad)
  else (.done (.go (s58.1, s58.2.1, s58.2.2.1, s58.2.2.2)))
noncomputable def ref19_New.f (x0 : (List Tensor)) : Option ((Option Shelf65) × Int) :=
  if 32 < (x0.length : Int) then (some (none, 13))
  else ((loop (ref19_New.l0 x0) (0, ([] : (List Int)), ([] : (List Tensor)), ([] : (List Tensor)))).bind fun r66 =>
  r66.on (fun yr66 =>
  some ((some (⟨yr66.2.2.2, yr66.2.2.1, yr66.2.1⟩ : Shelf65)), 0)) (fun y => some y))
set_option maxRecDepth 100000 in
set_option maxHeartbeats 4000000 in
theorem ref19_New.calls_x (M : List (Option Nat)) (w0 : World) (x0 : (List Tensor)) (A0 : Option Addr) (n0 c0 : Nat) (e0 : n0 = x0.length) (hm0 : Mem [] M w0 [.sl kTensor A0 c0 x0] w0) (r : ((Option Shelf65) × Int)) (H0 : ref19_New.f x0 = some r) :
    Calls Try.prog 16 [.slice A0 n0 c0].toArray w0 (fun x w' => PtrP (r.1) (∃ v, x = .returned v ∧ v = .tuple #[.pointer none, .int .i64 r.2] ∧ Mem [] M w0 [] w') (fun (y : Shelf65) => ∃ v, x = .returned v ∧ ∃ bp Aq_0 cq_0 Aq_1 cq_1 Aq_2 cq_2, v = .tuple #[.pointer (some ⟨bp, 0, none⟩), .int .i64 r.2] ∧ Mem [] M w0 [.bx bp [.slice Aq_0 y.T.length cq_0, .slice Aq_1 y.G.length cq_1, .slice Aq_2 y.V.length cq_2] 65, .ow kTensor 29 Aq_0 cq_0 y.T, .ow kTensor 29 Aq_1 cq_1 y.G, .ow (Kd.int .i64) 3 Aq_2 cq_2 y.V] w')) := by
  subst e0
  unfold ref19_New.f at H0
  refine enter (n := 67) Try.func16 rfl rfl (by kernel_rfl) fun a0 (hf0 : Fr 67 a0 [(0, .slice A0 x0.length c0)]) => ?_
  refine wp_seq ?_
  refine rg [] [(0, .slice A0 x0.length c0)] hf0 ot fun a21 hf22 => ?_
  refine thenN ?_
  refine wp_seq ?_
  refine wp_seq ?_
  rcases if_split H0 with ⟨c23, H0⟩ | ⟨c23, H0⟩
  · refine rg (ob := [.is (decide (32 < (x0.length : Int)) = true)]) [.bool true] [(0, .slice A0 x0.length c0), (10, .bool true)] hf22 ⟨(decide_eq_true c23), trivial⟩ fun a24 hf25 => ?_
    refine thenN ?_
    refine cT hf25 ?_
    refine wp_seq ?_
    refine rg [] [(2, .pointer none), (3, vi 13)] hf25 ot fun a26 hf27 => ?_
    have hm28 := hm0.se [] _ rfl
    refine thenN ?_
    refine wp_ret ?_
    refine thenR ?_
    have hm29 : Mem [] M w0 [] w0 := hm28.se [] _ rfl
    obtain rfl := Option.some.inj H0
    refine rt [] [.pointer none, .int .i64 13] hf27 ot ?_
    exact PtrP_no ⟨_, rfl, rfl, hm29⟩
  refine rg (ob := [.is (decide (32 < (x0.length : Int)) = false)]) [.bool false] [(0, .slice A0 x0.length c0), (10, .bool false)] hf22 ⟨(decide_eq_false c23), trivial⟩ fun a31 hf32 => ?_
  refine thenN ?_
  refine cF hf32 ?_
  refine wp_skip ?_
  refine thenN ?_
  refine wp_seq ?_
  refine inReg ?_
  refine gg 1 [] [(0, .slice A0 x0.length c0), (11, .agg #[.slice none 0 0, .slice none 0 0, .slice none 0 0])] hf32 ot fun a33 hf34 => ?_
  refine lo hf34 rfl (nw (cs := [.slice none 0 0, .slice none 0 0, .slice none 0 0]) (T := 65) (d := 12) hf34 ?_)
  intro b35 w36 a37 hbb35 hx39 hg40 hf38
  have hm41 := hm0.box hbb35 hx39 hg40
  refine gg 1 [] [(0, .slice A0 x0.length c0), (4, vp b35)] hf38 ot fun a42 hf43 => ?_
  refine endL rfl ?_
  refine thenN ?_
  refine wp_seq ?_
  refine wp_seq ?_
  refine rg [] [(0, .slice A0 x0.length c0), (4, vp b35), (5, vi 0)] hf43 ot fun a44 hf45 => ?_
  refine thenN ?_
  have hm47 := hm41.nilOw kTensor 29
  have hm49 := hm47.nilOw kTensor 29
  have hm51 := hm49.nilOw (Kd.int .i64) 3
  obtain ⟨r66, hr66, H0⟩ := ob_split H0
  refine wpBlock (Mid := fun (a : Act) (w : World) => ∃ yr66 : (Int × (List Int) × (List Tensor) × (List Tensor)), r66 = .go yr66 ∧ ∃ (A59 : Option Addr) (c60 : Nat) (A61 : Option Addr) (c62 : Nat) (A63 : Option Addr) (c65 : Nat), Fr 67 a [(0, .slice A0 x0.length c0), (4, .pointer (some ⟨b35, 0, none⟩)), (5, .int .i64 yr66.1)] ∧ Mem [] M w0 [.ow (Kd.int .i64) 3 A59 c60 yr66.2.1, .ow kTensor 29 A61 c62 yr66.2.2.1, .ow kTensor 29 A63 c65 yr66.2.2.2, .bx b35 [.slice A63 yr66.2.2.2.length c65, .slice A61 yr66.2.2.1.length c62, .slice A59 yr66.2.1.length c60] 65, .sl kTensor A0 c0 x0] w) ?_ ?_
  · refine wpLoop (ref19_New.l0 x0) r66 (fun (s58 : (Int × (List Int) × (List Tensor) × (List Tensor))) (a : Act) (w : World) => ∃ (A59 : Option Addr) (c60 : Nat) (A61 : Option Addr) (c62 : Nat) (A63 : Option Addr) (c65 : Nat), Fr 67 a [(0, .slice A0 x0.length c0), (4, .pointer (some ⟨b35, 0, none⟩)), (5, .int .i64 s58.1)] ∧ Mem [] M w0 [.ow (Kd.int .i64) 3 A59 c60 s58.2.1, .ow kTensor 29 A61 c62 s58.2.2.1, .ow kTensor 29 A63 c65 s58.2.2.2, .bx b35 [.slice A63 s58.2.2.2.length c65, .slice A61 s58.2.2.1.length c62, .slice A59 s58.2.1.length c60] 65, .sl kTensor A0 c0 x0] w) (0, ([] : (List Int)), ([] : (List Tensor)), ([] : (List Tensor))) hr66 ⟨none, 0, none, 0, none, 0, hf45.se [0, 4, 5], hm51.se [0, 1, 2, 3, 4] _ rfl⟩ ?_
    rintro g67 s58 a68 w69 H1 ⟨A59, c60, A61, c62, A63, c65, hf70, hm71⟩
    unfold ref19_New.l0 at H1
    refine wp_seq ?_
    refine wp_seq ?_
    rcases ifS_split H1 with ⟨c72, H1⟩ | ⟨c72, H1⟩
    rotate_left
    · refine rg (ob := [.is (decide (s58.1 < (x0.length : Int)) = false)]) [.bool false] [(0, .slice A0 x0.length c0), (4, vp b35), (5, vi s58.1), (16, .bool false)] hf70 ⟨(decide_eq_false c72), trivial⟩ fun a1376 hf1377 => ?_
      refine thenN ?_
      refine cF hf1377 ?_
      refine wp_exit ?_
      refine thenE ?_
      refine thenE ?_
      obtain rfl := Option.some.inj H1
      exact .inl ⟨rfl, (s58.1, s58.2.1, s58.2.2.1, s58.2.2.2), rfl, A59, c60, A61, c62, A63, c65, hf1377.se [0, 4, 5], hm71.se [0, 1, 2, 3, 4] _ rfl⟩
    refine rg (ob := [.is (decide (s58.1 < (x0.length : Int)) = true)]) [.bool true] [(0, .slice A0 x0.length c0), (4, vp b35), (5, vi s58.1), (16, .bool true)] hf70 ⟨(decide_eq_true c72), trivial⟩ fun a73 hf74 => ?_
    refine thenN ?_
    refine cT hf74 ?_
    refine wp_skip ?_
    refine thenN ?_
    refine wp_seq ?_
    refine wp_block ?_
    refine wp_seq ?_
    refine wp_seq ?_
    obtain ⟨g75, H1⟩ := ifS_guard H1
    obtain ⟨r76, hr76, H1⟩ := obS_split H1
    rcases ifbS_split H1 with ⟨c77, H1⟩ | ⟨c77, H1⟩
    rotate_left
    · have q1351 := (hm71.slAt 4 rfl).get s58.1 g75.1 g75.2
      obtain ⟨us1352, hr1353, hc1354⟩ := q1351.2
      obtain ⟨A1355, c1356, A1357, c1358, rfl, ⟨pA1355, sA1355⟩, ⟨pA1357, sA1357⟩⟩ := kTensor.open hr1353
      have hm1359 := hm71.elem pA1355 sA1355
      have hm1360 := hm1359.elem pA1357 sA1357
      refine inReg ?_
      refine gg 4 [.agg #[.slice A1355 (rd x0 s58.1).Shape.length c1356, .slice A1357 (rd x0 s58.1).Data.length c1358]] [(0, .slice A0 x0.length c0), (4, vp b35), (5, vi s58.1), (22, .agg #[.slice A1355 (rd x0 s58.1).Shape.length c1356, .slice A1357 (rd x0 s58.1).Data.length c1358])] hf74 (oi q1351.1 (oi g75 (oc (hc1354 0 _ rfl) (oc (hc1354 1 _ rfl) ot)))) fun a1361 hf1362 => ?_
      refine lo hf1362 rfl (cl 23 hf1362 callable21 (ref1_TensorMay.calls _ _ _ _ _ _ rfl _ _ _ rfl (hm1360.give [1, 0] [.sl (Kd.int .i64) A1355 c1356 (rd x0 s58.1).Shape, .sl Kd.float A1357 c1358 (rd x0 s58.1).Data] rfl rfl) r76 hr76) ?_)
      rintro _ w1363 a1364 ⟨rfl, hk1366⟩ hf1365
      have hm1367 := hm1360.still hk1366.cum.none
      rw [c77] at hf1365
      refine gg 1 [] [(0, .slice A0 x0.length c0), (4, vp b35), (5, vi s58.1), (24, .bool true)] hf1365 ot fun a1368 hf1369 => ?_
      refine endL rfl ?_
      have hm1370 := hm1367.se [2, 3, 4, 5, 6] _ rfl
      refine thenN ?_
      refine cT hf1369 ?_
      refine wp_seq ?_
      refine rg [] [(2, .pointer none), (3, vi 2)] hf1369 ot fun a1371 hf1372 => ?_
      have hm1373 := hm1370.se [] _ rfl
      refine thenN ?_
      refine wp_ret ?_
      refine thenR ?_
      refine blkR ?_
      refine thenR ?_
      refine thenR ?_
      refine .inr ⟨rfl, ?_⟩
      refine thenR ?_
      have hm1374 : Mem [] M w0 [] w1363 := hm1373.se [] _ rfl
      obtain rfl := Option.some.inj H1
      obtain rfl := Option.some.inj H0
      refine rt [] [.pointer none, .int .i64 2] hf1372 ot ?_
      exact PtrP_no ⟨_, rfl, rfl, hm1374⟩
    have q78 := (hm71.slAt 4 rfl).get s58.1 g75.1 g75.2
    obtain ⟨us79, hr80, hc81⟩ := q78.2
    obtain ⟨A82, c83, A84, c85, rfl, ⟨pA82, sA82⟩, ⟨pA84, sA84⟩⟩ := kTensor.open hr80
    have hm86 := hm71.elem pA82 sA82
    have hm87 := hm86.elem pA84 sA84
    refine inReg ?_
    refine gg 4 [.agg #[.slice A82 (rd x0 s58.1).Shape.length c83, .slice A84 (rd x0 s58.1).Data.length c85]] [(0, .slice A0 x0.length c0), (4, vp b35), (5, vi s58.1), (22, .agg #[.slice A82 (rd x0 s58.1).Shape.length c83, .slice A84 (rd x0 s58.1).Data.length c85])] hf74 (oi q78.1 (oi g75 (oc (hc81 0 _ rfl) (oc (hc81 1 _ rfl) ot)))) fun a88 hf89 => ?_
    refine lo hf89 rfl (cl 23 hf89 callable21 (ref1_TensorMay.calls _ _ _ _ _ _ rfl _ _ _ rfl (hm87.give [1, 0] [.sl (Kd.int .i64) A82 c83 (rd x0 s58.1).Shape, .sl Kd.float A84 c85 (rd x0 s58.1).Data] rfl rfl) r76 hr76) ?_)
    rintro _ w90 a91 ⟨rfl, hk93⟩ hf92
    have hm94 := hm87.still hk93.cum.none
    rw [c77] at hf92
    refine gg 1 [] [(0, .slice A0 x0.length c0), (4, vp b35), (5, vi s58.1), (24, .bool false)] hf92 ot fun a95 hf96 => ?_
    refine endL rfl ?_
    have hm97 := hm94.se [2, 3, 4, 5, 6] _ rfl
    refine thenN ?_
    refine cF hf96 ?_
    refine wp_skip ?_
    refine thenN ?_
    refine wp_seq ?_
    obtain ⟨r98, hr98, H1⟩ := obS_split H1
    have q99 := (hm97.slAt 4 rfl).get s58.1 g75.1 g75.2
    obtain ⟨us100, hr101, hc102⟩ := q99.2
    obtain ⟨A103, c104, A105, c106, rfl, ⟨pA103, sA103⟩, ⟨pA105, sA105⟩⟩ := kTensor.open hr101
    have hm107 := hm97.elem pA103 sA103
    have hm108 := hm107.elem pA105 sA105
    refine inReg ?_
    refine gg 5 [.slice A103 (rd x0 s58.1).Shape.length c104] [(0, .slice A0 x0.length c0), (4, vp b35), (5, vi s58.1), (30, .slice A103 (rd x0 s58.1).Shape.length c104)] hf96 (oi q99.1 (oi g75 (oc (hc102 0 _ rfl) ot))) fun a109 hf110 => ?_
    refine lo hf110 rfl (cl 31 hf110 callable38 (ref1_New.calls _ _ _ _ _ _ rfl 0 0 ((FR.lit (by kernel_rfl) (by kernel_rfl))) (hm108.give [1] [.sl (Kd.int .i64) A103 c104 (rd x0 s58.1).Shape] rfl rfl) r98 hr98) ?_)
    rintro _ w115 a116 ⟨A111, c112, A113, c114, rfl, hk118⟩ hf117
    have hm119 := hm108.back hk118
    have hm120 := hm119.seal 0 _ rfl rfl
    have hm121 := hm120.seal 1 _ rfl rfl
    refine gg 3 [] [(0, .slice A0 x0.length c0), (4, vp b35), (5, vi s58.1), (32, .agg #[.slice A111 r98.1.Shape.length c112, .slice A113 r98.1.Data.length c114]), (33, vi r98.2)] hf117 ot fun a122 hf123 => ?_
    refine lo hf123 rfl (nw (cs := [.slice none 0 0, .slice none 0 0]) (T := 29) (d := 6) hf123 ?_)
    intro b124 w125 a126 hbb124 hx128 hg129 hf127
    have hm130 := hm121.box hbb124 hx128 hg129
    refine lo hf127 rfl (sb (j := 0) (us := [.slice A111 r98.1.Shape.length c112, .slice A113 r98.1.Data.length c114]) (cs' := [.slice A111 r98.1.Shape.length c112, .slice A113 r98.1.Data.length c114]) hf127 (hm130.bxAt 0 rfl) ?_)
    intro w131 hx132 hg133
    have hm134 := hm130.setBox 0 _ rfl rfl hx132 hg133
    refine gg 1 [] [(0, .slice A0 x0.length c0), (4, vp b35), (5, vi s58.1), (6, vp b124)] hf127 ot fun a135 hf136 => ?_
    refine endL rfl ?_
    have hm137 := hm134.se [0, 1, 2, 5, 6, 7, 8, 9] _ rfl
    refine thenN ?_
    obtain ⟨g138, H1⟩ := ifS_guard H1
    obtain ⟨g139, H1⟩ := ifS_guard H1
    obtain ⟨g140, H1⟩ := ifS_guard H1
    refine midReg (fun (a : Act) (w : World) => ∃ (A194 : Option Addr) (c195 : Nat) (A176 : Option Addr) (c177 : Nat) (A158 : Option Addr) (c159 : Nat), Fr 67 a [(0, .slice A0 x0.length c0), (4, .pointer (some ⟨b35, 0, none⟩)), (5, .int .i64 s58.1)] ∧ Mem [] M w0 [.ow (Kd.int .i64) 3 A194 c195 (s58.2.1 ++ ([0] : List Int)), .ow kTensor 29 A176 c177 (s58.2.2.1 ++ ([r98.1] : List Tensor)), .ow kTensor 29 A158 c159 (s58.2.2.2 ++ ([(⟨(rd x0 s58.1).Shape, (rd x0 s58.1).Data⟩ : Tensor)] : List Tensor)), .bx b35 [.slice A158 ((s58.2.2.2 ++ ([(⟨(rd x0 s58.1).Shape, (rd x0 s58.1).Data⟩ : Tensor)] : List Tensor)).length) c159, .slice A176 (s58.2.2.1 ++ ([r98.1] : List Tensor)).length c177, .slice A194 (s58.2.1 ++ ([0] : List Int)).length c195] 65, .sl kTensor A0 c0 x0] w) ?_ ?_
    · refine anyG (K := [bk A63, bk A61, bk A59]) [28, 31, 34] (by kernel_rfl) fun w218 hg219 => ?_
      have hm220 := hm137.still hg219
      refine memoStep (R := fun (a : Act) (w : World) => ∃ (A225 : Option Addr) (c226 : Nat) (A227 : Option Addr) (c228 : Nat) (b233 : Nat) (A240 : Option Addr) (c241 : Nat) (b251 : Nat), Fr 67 a [(0, .slice A0 x0.length c0), (4, .pointer (some ⟨b35, 0, none⟩)), (5, .int .i64 s58.1), (34, .pointer (some ⟨b35, 0, none⟩)), (35, .pointer (some ⟨b35, 0, none⟩)), (36, .pointer (some ⟨b35, 0, none⟩)), (44, .agg #[.slice A225 (rd x0 s58.1).Shape.length c226, .slice A227 (rd x0 s58.1).Data.length c228]), (45, .slice (some ⟨b233, 0, none⟩) 1 1), (46, .slice A240 ((s58.2.2.2 ++ ([(⟨(rd x0 s58.1).Shape, (rd x0 s58.1).Data⟩ : Tensor)] : List Tensor)).length) c241), (50, .slice A61 s58.2.2.1.length c62), (51, .agg #[.slice A111 r98.1.Shape.length c112, .slice A113 r98.1.Data.length c114]), (52, .slice (some ⟨b251, 0, none⟩) 1 1), (57, .slice A59 s58.2.1.length c60)] ∧ Mem [] M w0 [.sl kTensor (some ⟨b251, 0, none⟩) 1 ([r98.1] : List Tensor), .sl kTensor (some ⟨b233, 0, none⟩) 1 ([(⟨(rd x0 s58.1).Shape, (rd x0 s58.1).Data⟩ : Tensor)] : List Tensor), .sl Kd.float A227 c228 (rd x0 s58.1).Data, .sl (Kd.int .i64) A225 c226 (rd x0 s58.1).Shape, .bx b124 [.slice A111 r98.1.Shape.length c112, .slice A113 r98.1.Data.length c114] 29, .sl (Kd.int .i64) A111 c112 r98.1.Shape, .sl Kd.float A113 c114 r98.1.Data, .ow (Kd.int .i64) 3 A59 c60 s58.2.1, .ow kTensor 29 A61 c62 s58.2.2.1, .ow kTensor 29 A240 c241 (s58.2.2.2 ++ ([(⟨(rd x0 s58.1).Shape, (rd x0 s58.1).Data⟩ : Tensor)] : List Tensor)), .bx b35 [.slice A63 s58.2.2.2.length c65, .slice A61 s58.2.2.1.length c62, .slice A59 s58.2.1.length c60] 65, .sl kTensor A0 c0 x0] w) (fb 35 16252927) 12 ?_ fun L763 => ?_
      · rintro a764 w765 ⟨A225, c226, A227, c228, b233, A240, c241, b251, hf766, hm767⟩
        refine all2 19 24 (by kernel_rfl) ?_ ?_
        · have e776 : s58.2.2.1.length = s58.2.2.1.length := rfl
          have e777 : 1 = ([r98.1] : List Tensor).length := rfl
          refine oo hf766 rfl (ap (sz := 2) (d := 53) hf766 e776 e777 (hm767.at 8 rfl) (hm767.at2 8 0 rfl rfl).2 (hm767.cpAt 0 rfl) (by have := g139; omega) ?_)
          intro A768 c769 w770 a771 ho773 hg774 hr775 hf772
          refine ⟨.inr (Gr.own hg774 (by simp)), ?_⟩
          have hm778 := hm767.setOwn 8 _ rfl rfl ho773 hg774 hr775
          refine a1 24 ?_
          refine oo hf772 rfl (li (cs := [.int .i64 0]) (E := 3) (len := 1) (d := 58) hf772 ?_)
          intro b779 w780 a781 hbb779 hx783 hg784 hf782
          refine ⟨.inr (Gr.still hg784), ?_⟩
          have hm778s := hm778.still hg784
          have hm785 := Mem.lit (kd := (Kd.int .i64)) (xs := ([0] : List Int)) hm778 hbb779 hx783 hg784 (Els.one (kd := (Kd.int .i64)) (us := [.int .i64 0]) (x := 0) rfl)
          refine a1 25 ?_
          have e794 : s58.2.1.length = s58.2.1.length := rfl
          have e795 : 1 = ([0] : List Int).length := rfl
          refine oo hf782 rfl (ap (sz := 1) (d := 59) hf782 e794 e795 (hm785.at 8 rfl) (hm785.at2 8 0 rfl rfl).2 (hm785.cpAt 0 rfl) (by have := g140; omega) ?_)
          intro A786 c787 w788 a789 ho791 hg792 hr793 hf790
          refine ⟨.inr (Gr.own hg792 (by simp)), ?_⟩
          have hm796 := hm785.setOwn 8 _ rfl rfl ho791 hg792 hr793
          refine qt [26, 27] [] (fb 35 268435455) [(0, .slice A0 x0.length c0), (4, vp b35), (5, vi s58.1), (35, vp b35), (36, vp b35), (46, .slice A240 ((s58.2.2.2 ++ ([(⟨(rd x0 s58.1).Shape, (rd x0 s58.1).Data⟩ : Tensor)] : List Tensor)).length) c241), (53, .slice A768 (s58.2.2.1 ++ ([r98.1] : List Tensor)).length c769), (59, .slice A786 (s58.2.1 ++ ([0] : List Int)).length c787), (61, vp b35)] 7 hf790 ot fun a797 hf798 => ?_
          refine a1 28 ?_
          refine oo hf798 rfl (sb (j := 0) (us := [.slice A240 ((s58.2.2.2 ++ ([(⟨(rd x0 s58.1).Shape, (rd x0 s58.1).Data⟩ : Tensor)] : List Tensor)).length) c241]) (cs' := [.slice A240 ((s58.2.2.2 ++ ([(⟨(rd x0 s58.1).Shape, (rd x0 s58.1).Data⟩ : Tensor)] : List Tensor)).length) c241, .slice A61 s58.2.2.1.length c62, .slice A59 s58.2.1.length c60]) hf798 (hm796.bxAt 11 rfl) ?_)
          intro w799 hx800 hg801
          refine ⟨.inl (by decide), ?_⟩
          have hm802 := hm796.setBox 11 _ rfl rfl hx800 hg801
          refine qt [29, 30] [] (fb 35 2147483647) [(0, .slice A0 x0.length c0), (4, vp b35), (5, vi s58.1), (36, vp b35), (53, .slice A768 (s58.2.2.1 ++ ([r98.1] : List Tensor)).length c769), (59, .slice A786 (s58.2.1 ++ ([0] : List Int)).length c787), (63, .pointer (some ⟨b35, 1, none⟩))] 4 hf798 ot fun a803 hf804 => ?_
          refine a1 31 ?_
          refine oo hf804 rfl (sb (j := 1) (us := [.slice A768 (s58.2.2.1 ++ ([r98.1] : List Tensor)).length c769]) (cs' := [.slice A240 ((s58.2.2.2 ++ ([(⟨(rd x0 s58.1).Shape, (rd x0 s58.1).Data⟩ : Tensor)] : List Tensor)).length) c241, .slice A768 (s58.2.2.1 ++ ([r98.1] : List Tensor)).length c769, .slice A59 s58.2.1.length c60]) hf804 (hm802.bxAt 11 rfl) ?_)
          intro w805 hx806 hg807
          refine ⟨.inl (by decide), ?_⟩
          have hm808 := hm802.setBox 11 _ rfl rfl hx806 hg807
          refine qt [32, 33] [] (fb 35 17179869183) [(0, .slice A0 x0.length c0), (4, vp b35), (5, vi s58.1), (59, .slice A786 (s58.2.1 ++ ([0] : List Int)).length c787), (65, .pointer (some ⟨b35, 2, none⟩))] 1 hf804 ot fun a809 hf810 => ?_
          refine a1 34 ?_
          refine oo hf810 rfl (sb (j := 2) (us := [.slice A786 (s58.2.1 ++ ([0] : List Int)).length c787]) (cs' := [.slice A240 ((s58.2.2.2 ++ ([(⟨(rd x0 s58.1).Shape, (rd x0 s58.1).Data⟩ : Tensor)] : List Tensor)).length) c241, .slice A768 (s58.2.2.1 ++ ([r98.1] : List Tensor)).length c769, .slice A786 (s58.2.1 ++ ([0] : List Int)).length c787]) hf810 (hm808.bxAt 11 rfl) ?_)
          intro w811 hx812 hg813
          refine ⟨.inl (by decide), ?_⟩
          have hm814 := hm808.setBox 11 _ rfl rfl hx812 hg813
          refine aD ⟨rfl, A786, c787, A768, c769, A240, c241, hf810.se [0, 4, 5], hm814.se [8, 9, 10, 11, 12] _ rfl⟩
        · refine oo hf766 rfl (li (cs := [.int .i64 0]) (E := 3) (len := 1) (d := 58) hf766 ?_)
          intro b815 w816 a817 hbb815 hx819 hg820 hf818
          refine ⟨.inr (Gr.still hg820), ?_⟩
          have hm767s := hm767.still hg820
          have hm821 := Mem.lit (kd := (Kd.int .i64)) (xs := ([0] : List Int)) hm767 hbb815 hx819 hg820 (Els.one (kd := (Kd.int .i64)) (us := [.int .i64 0]) (x := 0) rfl)
          refine a1 19 ?_
          have e830 : s58.2.2.1.length = s58.2.2.1.length := rfl
          have e831 : 1 = ([r98.1] : List Tensor).length := rfl
          refine oo hf818 rfl (ap (sz := 2) (d := 53) hf818 e830 e831 (hm821.at 9 rfl) (hm821.at2 9 1 rfl rfl).2 (hm821.cpAt 1 rfl) (by have := g139; omega) ?_)
          intro A822 c823 w824 a825 ho827 hg828 hr829 hf826
          refine ⟨.inr (Gr.own hg828 (by simp)), ?_⟩
          have hm832 := hm821.setOwn 9 _ rfl rfl ho827 hg828 hr829
          refine a1 25 ?_
          have e841 : s58.2.1.length = s58.2.1.length := rfl
          have e842 : 1 = ([0] : List Int).length := rfl
          refine oo hf826 rfl (ap (sz := 1) (d := 59) hf826 e841 e842 (hm832.at 8 rfl) (hm832.at2 8 0 rfl rfl).2 (hm832.cpAt 0 rfl) (by have := g140; omega) ?_)
          intro A833 c834 w835 a836 ho838 hg839 hr840 hf837
          refine ⟨.inr (Gr.own hg839 (by simp)), ?_⟩
          have hm843 := hm832.setOwn 8 _ rfl rfl ho838 hg839 hr840
          refine qt [26, 27] [] (fb 35 268435455) [(0, .slice A0 x0.length c0), (4, vp b35), (5, vi s58.1), (35, vp b35), (36, vp b35), (46, .slice A240 ((s58.2.2.2 ++ ([(⟨(rd x0 s58.1).Shape, (rd x0 s58.1).Data⟩ : Tensor)] : List Tensor)).length) c241), (53, .slice A822 (s58.2.2.1 ++ ([r98.1] : List Tensor)).length c823), (59, .slice A833 (s58.2.1 ++ ([0] : List Int)).length c834), (61, vp b35)] 7 hf837 ot fun a844 hf845 => ?_
          refine a1 28 ?_
          refine oo hf845 rfl (sb (j := 0) (us := [.slice A240 ((s58.2.2.2 ++ ([(⟨(rd x0 s58.1).Shape, (rd x0 s58.1).Data⟩ : Tensor)] : List Tensor)).length) c241]) (cs' := [.slice A240 ((s58.2.2.2 ++ ([(⟨(rd x0 s58.1).Shape, (rd x0 s58.1).Data⟩ : Tensor)] : List Tensor)).length) c241, .slice A61 s58.2.2.1.length c62, .slice A59 s58.2.1.length c60]) hf845 (hm843.bxAt 11 rfl) ?_)
          intro w846 hx847 hg848
          refine ⟨.inl (by decide), ?_⟩
          have hm849 := hm843.setBox 11 _ rfl rfl hx847 hg848
          refine qt [29, 30] [] (fb 35 2147483647) [(0, .slice A0 x0.length c0), (4, vp b35), (5, vi s58.1), (36, vp b35), (53, .slice A822 (s58.2.2.1 ++ ([r98.1] : List Tensor)).length c823), (59, .slice A833 (s58.2.1 ++ ([0] : List Int)).length c834), (63, .pointer (some ⟨b35, 1, none⟩))] 4 hf845 ot fun a850 hf851 => ?_
          refine a1 31 ?_
          refine oo hf851 rfl (sb (j := 1) (us := [.slice A822 (s58.2.2.1 ++ ([r98.1] : List Tensor)).length c823]) (cs' := [.slice A240 ((s58.2.2.2 ++ ([(⟨(rd x0 s58.1).Shape, (rd x0 s58.1).Data⟩ : Tensor)] : List Tensor)).length) c241, .slice A822 (s58.2.2.1 ++ ([r98.1] : List Tensor)).length c823, .slice A59 s58.2.1.length c60]) hf851 (hm849.bxAt 11 rfl) ?_)
          intro w852 hx853 hg854
          refine ⟨.inl (by decide), ?_⟩
          have hm855 := hm849.setBox 11 _ rfl rfl hx853 hg854
          refine qt [32, 33] [] (fb 35 17179869183) [(0, .slice A0 x0.length c0), (4, vp b35), (5, vi s58.1), (59, .slice A833 (s58.2.1 ++ ([0] : List Int)).length c834), (65, .pointer (some ⟨b35, 2, none⟩))] 1 hf851 ot fun a856 hf857 => ?_
          refine a1 34 ?_
          refine oo hf857 rfl (sb (j := 2) (us := [.slice A833 (s58.2.1 ++ ([0] : List Int)).length c834]) (cs' := [.slice A240 ((s58.2.2.2 ++ ([(⟨(rd x0 s58.1).Shape, (rd x0 s58.1).Data⟩ : Tensor)] : List Tensor)).length) c241, .slice A822 (s58.2.2.1 ++ ([r98.1] : List Tensor)).length c823, .slice A833 (s58.2.1 ++ ([0] : List Int)).length c834]) hf857 (hm855.bxAt 11 rfl) ?_)
          intro w858 hx859 hg860
          refine ⟨.inl (by decide), ?_⟩
          have hm861 := hm855.setBox 11 _ rfl rfl hx859 hg860
          refine aD ⟨rfl, A833, c834, A822, c823, A240, c241, hf857.se [0, 4, 5], hm861.se [8, 9, 10, 11, 12] _ rfl⟩
      refine memoStep (R := fun (a : Act) (w : World) => ∃ (A225 : Option Addr) (c226 : Nat) (A227 : Option Addr) (c228 : Nat) (b233 : Nat) (A240 : Option Addr) (c241 : Nat), Fr 67 a [(0, .slice A0 x0.length c0), (4, .pointer (some ⟨b35, 0, none⟩)), (5, .int .i64 s58.1), (34, .pointer (some ⟨b35, 0, none⟩)), (35, .pointer (some ⟨b35, 0, none⟩)), (36, .pointer (some ⟨b35, 0, none⟩)), (44, .agg #[.slice A225 (rd x0 s58.1).Shape.length c226, .slice A227 (rd x0 s58.1).Data.length c228]), (45, .slice (some ⟨b233, 0, none⟩) 1 1), (46, .slice A240 ((s58.2.2.2 ++ ([(⟨(rd x0 s58.1).Shape, (rd x0 s58.1).Data⟩ : Tensor)] : List Tensor)).length) c241), (50, .slice A61 s58.2.2.1.length c62), (51, .agg #[.slice A111 r98.1.Shape.length c112, .slice A113 r98.1.Data.length c114]), (57, .slice A59 s58.2.1.length c60)] ∧ Mem [] M w0 [.sl kTensor (some ⟨b233, 0, none⟩) 1 ([(⟨(rd x0 s58.1).Shape, (rd x0 s58.1).Data⟩ : Tensor)] : List Tensor), .sl Kd.float A227 c228 (rd x0 s58.1).Data, .sl (Kd.int .i64) A225 c226 (rd x0 s58.1).Shape, .bx b124 [.slice A111 r98.1.Shape.length c112, .slice A113 r98.1.Data.length c114] 29, .sl (Kd.int .i64) A111 c112 r98.1.Shape, .sl Kd.float A113 c114 r98.1.Data, .ow (Kd.int .i64) 3 A59 c60 s58.2.1, .ow kTensor 29 A61 c62 s58.2.2.1, .ow kTensor 29 A240 c241 (s58.2.2.2 ++ ([(⟨(rd x0 s58.1).Shape, (rd x0 s58.1).Data⟩ : Tensor)] : List Tensor)), .bx b35 [.slice A63 s58.2.2.2.length c65, .slice A61 s58.2.2.1.length c62, .slice A59 s58.2.1.length c60] 65, .sl kTensor A0 c0 x0] w) (fb 35 15990783) 13 ?_ fun L862 => ?_
      · rintro a863 w864 ⟨A225, c226, A227, c228, b233, A240, c241, hf865, hm866⟩
        refine all2 18 24 (by kernel_rfl) ?_ ?_
        · refine oo hf865 rfl (li (cs := [.slice A111 r98.1.Shape.length c112, .slice A113 r98.1.Data.length c114]) (E := 29) (len := 1) (d := 52) hf865 ?_)
          intro b867 w868 a869 hbb867 hx871 hg872 hf870
          refine ⟨.inr (Gr.still hg872), ?_⟩
          have hm866s := hm866.still hg872
          have hm873 := Mem.lit (kd := kTensor) (xs := ([r98.1] : List Tensor)) hm866 hbb867 hx871 hg872 (Els.one (kd := kTensor) (us := [.slice A111 r98.1.Shape.length c112, .slice A113 r98.1.Data.length c114]) (x := r98.1) (kTensor.mk r98.1 ⟨hm866s.cpAt 4 rfl, (hm866s.slAt 4 rfl)⟩ ⟨hm866s.cpAt 5 rfl, (hm866s.slAt 5 rfl)⟩))
          exact ms L763 ⟨A225, c226, A227, c228, b233, A240, c241, b867, hf870.se [0, 4, 5, 34, 35, 36, 44, 45, 46, 50, 51, 52, 57], hm873.se [0, 1, 2, 3, 4, 5, 6, 7, 8, 9, 10, 11] _ rfl⟩
        · refine oo hf865 rfl (li (cs := [.int .i64 0]) (E := 3) (len := 1) (d := 58) hf865 ?_)
          intro b874 w875 a876 hbb874 hx878 hg879 hf877
          refine ⟨.inr (Gr.still hg879), ?_⟩
          have hm866s := hm866.still hg879
          have hm880 := Mem.lit (kd := (Kd.int .i64)) (xs := ([0] : List Int)) hm866 hbb874 hx878 hg879 (Els.one (kd := (Kd.int .i64)) (us := [.int .i64 0]) (x := 0) rfl)
          refine a1 18 ?_
          refine oo hf877 rfl (li (cs := [.slice A111 r98.1.Shape.length c112, .slice A113 r98.1.Data.length c114]) (E := 29) (len := 1) (d := 52) hf877 ?_)
          intro b881 w882 a883 hbb881 hx885 hg886 hf884
          refine ⟨.inr (Gr.still hg886), ?_⟩
          have hm880s := hm880.still hg886
          have hm887 := Mem.lit (kd := kTensor) (xs := ([r98.1] : List Tensor)) hm880 hbb881 hx885 hg886 (Els.one (kd := kTensor) (us := [.slice A111 r98.1.Shape.length c112, .slice A113 r98.1.Data.length c114]) (x := r98.1) (kTensor.mk r98.1 ⟨hm880s.cpAt 5 rfl, (hm880s.slAt 5 rfl)⟩ ⟨hm880s.cpAt 6 rfl, (hm880s.slAt 6 rfl)⟩))
          refine a1 19 ?_
          have e896 : s58.2.2.1.length = s58.2.2.1.length := rfl
          have e897 : 1 = ([r98.1] : List Tensor).length := rfl
          refine oo hf884 rfl (ap (sz := 2) (d := 53) hf884 e896 e897 (hm887.at 9 rfl) (hm887.at2 9 0 rfl rfl).2 (hm887.cpAt 0 rfl) (by have := g139; omega) ?_)
          intro A888 c889 w890 a891 ho893 hg894 hr895 hf892
          refine ⟨.inr (Gr.own hg894 (by simp)), ?_⟩
          have hm898 := hm887.setOwn 9 _ rfl rfl ho893 hg894 hr895
          refine a1 25 ?_
          have e907 : s58.2.1.length = s58.2.1.length := rfl
          have e908 : 1 = ([0] : List Int).length := rfl
          refine oo hf892 rfl (ap (sz := 1) (d := 59) hf892 e907 e908 (hm898.at 8 rfl) (hm898.at2 8 1 rfl rfl).2 (hm898.cpAt 1 rfl) (by have := g140; omega) ?_)
          intro A899 c900 w901 a902 ho904 hg905 hr906 hf903
          refine ⟨.inr (Gr.own hg905 (by simp)), ?_⟩
          have hm909 := hm898.setOwn 8 _ rfl rfl ho904 hg905 hr906
          refine qt [26, 27] [] (fb 35 268435455) [(0, .slice A0 x0.length c0), (4, vp b35), (5, vi s58.1), (35, vp b35), (36, vp b35), (46, .slice A240 ((s58.2.2.2 ++ ([(⟨(rd x0 s58.1).Shape, (rd x0 s58.1).Data⟩ : Tensor)] : List Tensor)).length) c241), (53, .slice A888 (s58.2.2.1 ++ ([r98.1] : List Tensor)).length c889), (59, .slice A899 (s58.2.1 ++ ([0] : List Int)).length c900), (61, vp b35)] 7 hf903 ot fun a910 hf911 => ?_
          refine a1 28 ?_
          refine oo hf911 rfl (sb (j := 0) (us := [.slice A240 ((s58.2.2.2 ++ ([(⟨(rd x0 s58.1).Shape, (rd x0 s58.1).Data⟩ : Tensor)] : List Tensor)).length) c241]) (cs' := [.slice A240 ((s58.2.2.2 ++ ([(⟨(rd x0 s58.1).Shape, (rd x0 s58.1).Data⟩ : Tensor)] : List Tensor)).length) c241, .slice A61 s58.2.2.1.length c62, .slice A59 s58.2.1.length c60]) hf911 (hm909.bxAt 11 rfl) ?_)
          intro w912 hx913 hg914
          refine ⟨.inl (by decide), ?_⟩
          have hm915 := hm909.setBox 11 _ rfl rfl hx913 hg914
          refine qt [29, 30] [] (fb 35 2147483647) [(0, .slice A0 x0.length c0), (4, vp b35), (5, vi s58.1), (36, vp b35), (53, .slice A888 (s58.2.2.1 ++ ([r98.1] : List Tensor)).length c889), (59, .slice A899 (s58.2.1 ++ ([0] : List Int)).length c900), (63, .pointer (some ⟨b35, 1, none⟩))] 4 hf911 ot fun a916 hf917 => ?_
          refine a1 31 ?_
          refine oo hf917 rfl (sb (j := 1) (us := [.slice A888 (s58.2.2.1 ++ ([r98.1] : List Tensor)).length c889]) (cs' := [.slice A240 ((s58.2.2.2 ++ ([(⟨(rd x0 s58.1).Shape, (rd x0 s58.1).Data⟩ : Tensor)] : List Tensor)).length) c241, .slice A888 (s58.2.2.1 ++ ([r98.1] : List Tensor)).length c889, .slice A59 s58.2.1.length c60]) hf917 (hm915.bxAt 11 rfl) ?_)
          intro w918 hx919 hg920
          refine ⟨.inl (by decide), ?_⟩
          have hm921 := hm915.setBox 11 _ rfl rfl hx919 hg920
          refine qt [32, 33] [] (fb 35 17179869183) [(0, .slice A0 x0.length c0), (4, vp b35), (5, vi s58.1), (59, .slice A899 (s58.2.1 ++ ([0] : List Int)).length c900), (65, .pointer (some ⟨b35, 2, none⟩))] 1 hf917 ot fun a922 hf923 => ?_
          refine a1 34 ?_
          refine oo hf923 rfl (sb (j := 2) (us := [.slice A899 (s58.2.1 ++ ([0] : List Int)).length c900]) (cs' := [.slice A240 ((s58.2.2.2 ++ ([(⟨(rd x0 s58.1).Shape, (rd x0 s58.1).Data⟩ : Tensor)] : List Tensor)).length) c241, .slice A888 (s58.2.2.1 ++ ([r98.1] : List Tensor)).length c889, .slice A899 (s58.2.1 ++ ([0] : List Int)).length c900]) hf923 (hm921.bxAt 11 rfl) ?_)
          intro w924 hx925 hg926
          refine ⟨.inl (by decide), ?_⟩
          have hm927 := hm921.setBox 11 _ rfl rfl hx925 hg926
          refine aD ⟨rfl, A899, c900, A888, c889, A240, c241, hf923.se [0, 4, 5], hm927.se [8, 9, 10, 11, 12] _ rfl⟩
      refine memoStep (R := fun (a : Act) (w : World) => ∃ (A225 : Option Addr) (c226 : Nat) (A227 : Option Addr) (c228 : Nat) (b233 : Nat) (b406 : Nat), Fr 67 a [(0, .slice A0 x0.length c0), (4, .pointer (some ⟨b35, 0, none⟩)), (5, .int .i64 s58.1), (34, .pointer (some ⟨b35, 0, none⟩)), (35, .pointer (some ⟨b35, 0, none⟩)), (36, .pointer (some ⟨b35, 0, none⟩)), (40, .slice A63 s58.2.2.2.length c65), (44, .agg #[.slice A225 (rd x0 s58.1).Shape.length c226, .slice A227 (rd x0 s58.1).Data.length c228]), (45, .slice (some ⟨b233, 0, none⟩) 1 1), (50, .slice A61 s58.2.2.1.length c62), (51, .agg #[.slice A111 r98.1.Shape.length c112, .slice A113 r98.1.Data.length c114]), (52, .slice (some ⟨b406, 0, none⟩) 1 1), (57, .slice A59 s58.2.1.length c60)] ∧ Mem [] M w0 [.sl kTensor (some ⟨b406, 0, none⟩) 1 ([r98.1] : List Tensor), .sl kTensor (some ⟨b233, 0, none⟩) 1 ([(⟨(rd x0 s58.1).Shape, (rd x0 s58.1).Data⟩ : Tensor)] : List Tensor), .sl Kd.float A227 c228 (rd x0 s58.1).Data, .sl (Kd.int .i64) A225 c226 (rd x0 s58.1).Shape, .bx b124 [.slice A111 r98.1.Shape.length c112, .slice A113 r98.1.Data.length c114] 29, .sl (Kd.int .i64) A111 c112 r98.1.Shape, .sl Kd.float A113 c114 r98.1.Data, .ow (Kd.int .i64) 3 A59 c60 s58.2.1, .ow kTensor 29 A61 c62 s58.2.2.1, .ow kTensor 29 A63 c65 s58.2.2.2, .bx b35 [.slice A63 s58.2.2.2.length c65, .slice A61 s58.2.2.1.length c62, .slice A59 s58.2.1.length c60] 65, .sl kTensor A0 c0 x0] w) (fb 35 16248831) 13 ?_ fun L928 => ?_
      · rintro a929 w930 ⟨A225, c226, A227, c228, b233, b406, hf931, hm932⟩
        refine all2 12 24 (by kernel_rfl) ?_ ?_
        · have e941 : s58.2.2.2.length = s58.2.2.2.length := rfl
          have e942 : 1 = ([(⟨(rd x0 s58.1).Shape, (rd x0 s58.1).Data⟩ : Tensor)] : List Tensor).length := rfl
          refine oo hf931 rfl (ap (sz := 2) (d := 46) hf931 e941 e942 (hm932.at 9 rfl) (hm932.at2 9 1 rfl rfl).2 (hm932.cpAt 1 rfl) (by have := g138; omega) ?_)
          intro A933 c934 w935 a936 ho938 hg939 hr940 hf937
          refine ⟨.inr (Gr.own hg939 (by simp)), ?_⟩
          have hm943 := hm932.setOwn 9 _ rfl rfl ho938 hg939 hr940
          exact ms L763 ⟨A225, c226, A227, c228, b233, A933, c934, b406, hf937.se [0, 4, 5, 34, 35, 36, 44, 45, 46, 50, 51, 52, 57], hm943.se [0, 1, 2, 3, 4, 5, 6, 7, 8, 9, 10, 11] _ rfl⟩
        · refine oo hf931 rfl (li (cs := [.int .i64 0]) (E := 3) (len := 1) (d := 58) hf931 ?_)
          intro b944 w945 a946 hbb944 hx948 hg949 hf947
          refine ⟨.inr (Gr.still hg949), ?_⟩
          have hm932s := hm932.still hg949
          have hm950 := Mem.lit (kd := (Kd.int .i64)) (xs := ([0] : List Int)) hm932 hbb944 hx948 hg949 (Els.one (kd := (Kd.int .i64)) (us := [.int .i64 0]) (x := 0) rfl)
          refine a1 12 ?_
          have e959 : s58.2.2.2.length = s58.2.2.2.length := rfl
          have e960 : 1 = ([(⟨(rd x0 s58.1).Shape, (rd x0 s58.1).Data⟩ : Tensor)] : List Tensor).length := rfl
          refine oo hf947 rfl (ap (sz := 2) (d := 46) hf947 e959 e960 (hm950.at 10 rfl) (hm950.at2 10 2 rfl rfl).2 (hm950.cpAt 2 rfl) (by have := g138; omega) ?_)
          intro A951 c952 w953 a954 ho956 hg957 hr958 hf955
          refine ⟨.inr (Gr.own hg957 (by simp)), ?_⟩
          have hm961 := hm950.setOwn 10 _ rfl rfl ho956 hg957 hr958
          refine a1 19 ?_
          have e970 : s58.2.2.1.length = s58.2.2.1.length := rfl
          have e971 : 1 = ([r98.1] : List Tensor).length := rfl
          refine oo hf955 rfl (ap (sz := 2) (d := 53) hf955 e970 e971 (hm961.at 9 rfl) (hm961.at2 9 1 rfl rfl).2 (hm961.cpAt 1 rfl) (by have := g139; omega) ?_)
          intro A962 c963 w964 a965 ho967 hg968 hr969 hf966
          refine ⟨.inr (Gr.own hg968 (by simp)), ?_⟩
          have hm972 := hm961.setOwn 9 _ rfl rfl ho967 hg968 hr969
          refine a1 25 ?_
          have e981 : s58.2.1.length = s58.2.1.length := rfl
          have e982 : 1 = ([0] : List Int).length := rfl
          refine oo hf966 rfl (ap (sz := 1) (d := 59) hf966 e981 e982 (hm972.at 8 rfl) (hm972.at2 8 0 rfl rfl).2 (hm972.cpAt 0 rfl) (by have := g140; omega) ?_)
          intro A973 c974 w975 a976 ho978 hg979 hr980 hf977
          refine ⟨.inr (Gr.own hg979 (by simp)), ?_⟩
          have hm983 := hm972.setOwn 8 _ rfl rfl ho978 hg979 hr980
          refine qt [26, 27] [] (fb 35 268435455) [(0, .slice A0 x0.length c0), (4, vp b35), (5, vi s58.1), (35, vp b35), (36, vp b35), (46, .slice A951 ((s58.2.2.2 ++ ([(⟨(rd x0 s58.1).Shape, (rd x0 s58.1).Data⟩ : Tensor)] : List Tensor)).length) c952), (53, .slice A962 (s58.2.2.1 ++ ([r98.1] : List Tensor)).length c963), (59, .slice A973 (s58.2.1 ++ ([0] : List Int)).length c974), (61, vp b35)] 7 hf977 ot fun a984 hf985 => ?_
          refine a1 28 ?_
          refine oo hf985 rfl (sb (j := 0) (us := [.slice A951 ((s58.2.2.2 ++ ([(⟨(rd x0 s58.1).Shape, (rd x0 s58.1).Data⟩ : Tensor)] : List Tensor)).length) c952]) (cs' := [.slice A951 ((s58.2.2.2 ++ ([(⟨(rd x0 s58.1).Shape, (rd x0 s58.1).Data⟩ : Tensor)] : List Tensor)).length) c952, .slice A61 s58.2.2.1.length c62, .slice A59 s58.2.1.length c60]) hf985 (hm983.bxAt 11 rfl) ?_)
          intro w986 hx987 hg988
          refine ⟨.inl (by decide), ?_⟩
          have hm989 := hm983.setBox 11 _ rfl rfl hx987 hg988
          refine qt [29, 30] [] (fb 35 2147483647) [(0, .slice A0 x0.length c0), (4, vp b35), (5, vi s58.1), (36, vp b35), (53, .slice A962 (s58.2.2.1 ++ ([r98.1] : List Tensor)).length c963), (59, .slice A973 (s58.2.1 ++ ([0] : List Int)).length c974), (63, .pointer (some ⟨b35, 1, none⟩))] 4 hf985 ot fun a990 hf991 => ?_
          refine a1 31 ?_
          refine oo hf991 rfl (sb (j := 1) (us := [.slice A962 (s58.2.2.1 ++ ([r98.1] : List Tensor)).length c963]) (cs' := [.slice A951 ((s58.2.2.2 ++ ([(⟨(rd x0 s58.1).Shape, (rd x0 s58.1).Data⟩ : Tensor)] : List Tensor)).length) c952, .slice A962 (s58.2.2.1 ++ ([r98.1] : List Tensor)).length c963, .slice A59 s58.2.1.length c60]) hf991 (hm989.bxAt 11 rfl) ?_)
          intro w992 hx993 hg994
          refine ⟨.inl (by decide), ?_⟩
          have hm995 := hm989.setBox 11 _ rfl rfl hx993 hg994
          refine qt [32, 33] [] (fb 35 17179869183) [(0, .slice A0 x0.length c0), (4, vp b35), (5, vi s58.1), (59, .slice A973 (s58.2.1 ++ ([0] : List Int)).length c974), (65, .pointer (some ⟨b35, 2, none⟩))] 1 hf991 ot fun a996 hf997 => ?_
          refine a1 34 ?_
          refine oo hf997 rfl (sb (j := 2) (us := [.slice A973 (s58.2.1 ++ ([0] : List Int)).length c974]) (cs' := [.slice A951 ((s58.2.2.2 ++ ([(⟨(rd x0 s58.1).Shape, (rd x0 s58.1).Data⟩ : Tensor)] : List Tensor)).length) c952, .slice A962 (s58.2.2.1 ++ ([r98.1] : List Tensor)).length c963, .slice A973 (s58.2.1 ++ ([0] : List Int)).length c974]) hf997 (hm995.bxAt 11 rfl) ?_)
          intro w998 hx999 hg1000
          refine ⟨.inl (by decide), ?_⟩
          have hm1001 := hm995.setBox 11 _ rfl rfl hx999 hg1000
          refine aD ⟨rfl, A973, c974, A962, c963, A951, c952, hf997.se [0, 4, 5], hm1001.se [8, 9, 10, 11, 12] _ rfl⟩
      refine memoStep (R := fun (a : Act) (w : World) => ∃ (A225 : Option Addr) (c226 : Nat) (A227 : Option Addr) (c228 : Nat) (b233 : Nat) (b482 : Nat), Fr 67 a [(0, .slice A0 x0.length c0), (4, .pointer (some ⟨b35, 0, none⟩)), (5, .int .i64 s58.1), (34, .pointer (some ⟨b35, 0, none⟩)), (35, .pointer (some ⟨b35, 0, none⟩)), (36, .pointer (some ⟨b35, 0, none⟩)), (40, .slice A63 s58.2.2.2.length c65), (44, .agg #[.slice A225 (rd x0 s58.1).Shape.length c226, .slice A227 (rd x0 s58.1).Data.length c228]), (45, .slice (some ⟨b233, 0, none⟩) 1 1), (50, .slice A61 s58.2.2.1.length c62), (51, .agg #[.slice A111 r98.1.Shape.length c112, .slice A113 r98.1.Data.length c114]), (57, .slice A59 s58.2.1.length c60), (58, .slice (some ⟨b482, 0, none⟩) 1 1)] ∧ Mem [] M w0 [.sl (Kd.int .i64) (some ⟨b482, 0, none⟩) 1 ([0] : List Int), .sl kTensor (some ⟨b233, 0, none⟩) 1 ([(⟨(rd x0 s58.1).Shape, (rd x0 s58.1).Data⟩ : Tensor)] : List Tensor), .sl Kd.float A227 c228 (rd x0 s58.1).Data, .sl (Kd.int .i64) A225 c226 (rd x0 s58.1).Shape, .bx b124 [.slice A111 r98.1.Shape.length c112, .slice A113 r98.1.Data.length c114] 29, .sl (Kd.int .i64) A111 c112 r98.1.Shape, .sl Kd.float A113 c114 r98.1.Data, .ow (Kd.int .i64) 3 A59 c60 s58.2.1, .ow kTensor 29 A61 c62 s58.2.2.1, .ow kTensor 29 A63 c65 s58.2.2.2, .bx b35 [.slice A63 s58.2.2.2.length c65, .slice A61 s58.2.2.1.length c62, .slice A59 s58.2.1.length c60] 65, .sl kTensor A0 c0 x0] w) (fb 35 32763903) 13 ?_ fun L1002 => ?_
      · rintro a1003 w1004 ⟨A225, c226, A227, c228, b233, b482, hf1005, hm1006⟩
        refine all2 12 18 (by kernel_rfl) ?_ ?_
        · have e1015 : s58.2.2.2.length = s58.2.2.2.length := rfl
          have e1016 : 1 = ([(⟨(rd x0 s58.1).Shape, (rd x0 s58.1).Data⟩ : Tensor)] : List Tensor).length := rfl
          refine oo hf1005 rfl (ap (sz := 2) (d := 46) hf1005 e1015 e1016 (hm1006.at 9 rfl) (hm1006.at2 9 1 rfl rfl).2 (hm1006.cpAt 1 rfl) (by have := g138; omega) ?_)
          intro A1007 c1008 w1009 a1010 ho1012 hg1013 hr1014 hf1011
          refine ⟨.inr (Gr.own hg1013 (by simp)), ?_⟩
          have hm1017 := hm1006.setOwn 9 _ rfl rfl ho1012 hg1013 hr1014
          refine a1 18 ?_
          refine oo hf1011 rfl (li (cs := [.slice A111 r98.1.Shape.length c112, .slice A113 r98.1.Data.length c114]) (E := 29) (len := 1) (d := 52) hf1011 ?_)
          intro b1018 w1019 a1020 hbb1018 hx1022 hg1023 hf1021
          refine ⟨.inr (Gr.still hg1023), ?_⟩
          have hm1017s := hm1017.still hg1023
          have hm1024 := Mem.lit (kd := kTensor) (xs := ([r98.1] : List Tensor)) hm1017 hbb1018 hx1022 hg1023 (Els.one (kd := kTensor) (us := [.slice A111 r98.1.Shape.length c112, .slice A113 r98.1.Data.length c114]) (x := r98.1) (kTensor.mk r98.1 ⟨hm1017s.cpAt 5 rfl, (hm1017s.slAt 5 rfl)⟩ ⟨hm1017s.cpAt 6 rfl, (hm1017s.slAt 6 rfl)⟩))
          refine a1 19 ?_
          have e1033 : s58.2.2.1.length = s58.2.2.1.length := rfl
          have e1034 : 1 = ([r98.1] : List Tensor).length := rfl
          refine oo hf1021 rfl (ap (sz := 2) (d := 53) hf1021 e1033 e1034 (hm1024.at 9 rfl) (hm1024.at2 9 0 rfl rfl).2 (hm1024.cpAt 0 rfl) (by have := g139; omega) ?_)
          intro A1025 c1026 w1027 a1028 ho1030 hg1031 hr1032 hf1029
          refine ⟨.inr (Gr.own hg1031 (by simp)), ?_⟩
          have hm1035 := hm1024.setOwn 9 _ rfl rfl ho1030 hg1031 hr1032
          refine a1 25 ?_
          have e1044 : s58.2.1.length = s58.2.1.length := rfl
          have e1045 : 1 = ([0] : List Int).length := rfl
          refine oo hf1029 rfl (ap (sz := 1) (d := 59) hf1029 e1044 e1045 (hm1035.at 8 rfl) (hm1035.at2 8 1 rfl rfl).2 (hm1035.cpAt 1 rfl) (by have := g140; omega) ?_)
          intro A1036 c1037 w1038 a1039 ho1041 hg1042 hr1043 hf1040
          refine ⟨.inr (Gr.own hg1042 (by simp)), ?_⟩
          have hm1046 := hm1035.setOwn 8 _ rfl rfl ho1041 hg1042 hr1043
          refine qt [26, 27] [] (fb 35 268435455) [(0, .slice A0 x0.length c0), (4, vp b35), (5, vi s58.1), (35, vp b35), (36, vp b35), (46, .slice A1007 ((s58.2.2.2 ++ ([(⟨(rd x0 s58.1).Shape, (rd x0 s58.1).Data⟩ : Tensor)] : List Tensor)).length) c1008), (53, .slice A1025 (s58.2.2.1 ++ ([r98.1] : List Tensor)).length c1026), (59, .slice A1036 (s58.2.1 ++ ([0] : List Int)).length c1037), (61, vp b35)] 7 hf1040 ot fun a1047 hf1048 => ?_
          refine a1 28 ?_
          refine oo hf1048 rfl (sb (j := 0) (us := [.slice A1007 ((s58.2.2.2 ++ ([(⟨(rd x0 s58.1).Shape, (rd x0 s58.1).Data⟩ : Tensor)] : List Tensor)).length) c1008]) (cs' := [.slice A1007 ((s58.2.2.2 ++ ([(⟨(rd x0 s58.1).Shape, (rd x0 s58.1).Data⟩ : Tensor)] : List Tensor)).length) c1008, .slice A61 s58.2.2.1.length c62, .slice A59 s58.2.1.length c60]) hf1048 (hm1046.bxAt 11 rfl) ?_)
          intro w1049 hx1050 hg1051
          refine ⟨.inl (by decide), ?_⟩
          have hm1052 := hm1046.setBox 11 _ rfl rfl hx1050 hg1051
          refine qt [29, 30] [] (fb 35 2147483647) [(0, .slice A0 x0.length c0), (4, vp b35), (5, vi s58.1), (36, vp b35), (53, .slice A1025 (s58.2.2.1 ++ ([r98.1] : List Tensor)).length c1026), (59, .slice A1036 (s58.2.1 ++ ([0] : List Int)).length c1037), (63, .pointer (some ⟨b35, 1, none⟩))] 4 hf1048 ot fun a1053 hf1054 => ?_
          refine a1 31 ?_
          refine oo hf1054 rfl (sb (j := 1) (us := [.slice A1025 (s58.2.2.1 ++ ([r98.1] : List Tensor)).length c1026]) (cs' := [.slice A1007 ((s58.2.2.2 ++ ([(⟨(rd x0 s58.1).Shape, (rd x0 s58.1).Data⟩ : Tensor)] : List Tensor)).length) c1008, .slice A1025 (s58.2.2.1 ++ ([r98.1] : List Tensor)).length c1026, .slice A59 s58.2.1.length c60]) hf1054 (hm1052.bxAt 11 rfl) ?_)
          intro w1055 hx1056 hg1057
          refine ⟨.inl (by decide), ?_⟩
          have hm1058 := hm1052.setBox 11 _ rfl rfl hx1056 hg1057
          refine qt [32, 33] [] (fb 35 17179869183) [(0, .slice A0 x0.length c0), (4, vp b35), (5, vi s58.1), (59, .slice A1036 (s58.2.1 ++ ([0] : List Int)).length c1037), (65, .pointer (some ⟨b35, 2, none⟩))] 1 hf1054 ot fun a1059 hf1060 => ?_
          refine a1 34 ?_
          refine oo hf1060 rfl (sb (j := 2) (us := [.slice A1036 (s58.2.1 ++ ([0] : List Int)).length c1037]) (cs' := [.slice A1007 ((s58.2.2.2 ++ ([(⟨(rd x0 s58.1).Shape, (rd x0 s58.1).Data⟩ : Tensor)] : List Tensor)).length) c1008, .slice A1025 (s58.2.2.1 ++ ([r98.1] : List Tensor)).length c1026, .slice A1036 (s58.2.1 ++ ([0] : List Int)).length c1037]) hf1060 (hm1058.bxAt 11 rfl) ?_)
          intro w1061 hx1062 hg1063
          refine ⟨.inl (by decide), ?_⟩
          have hm1064 := hm1058.setBox 11 _ rfl rfl hx1062 hg1063
          refine aD ⟨rfl, A1036, c1037, A1025, c1026, A1007, c1008, hf1060.se [0, 4, 5], hm1064.se [8, 9, 10, 11, 12] _ rfl⟩
        · refine oo hf1005 rfl (li (cs := [.slice A111 r98.1.Shape.length c112, .slice A113 r98.1.Data.length c114]) (E := 29) (len := 1) (d := 52) hf1005 ?_)
          intro b1065 w1066 a1067 hbb1065 hx1069 hg1070 hf1068
          refine ⟨.inr (Gr.still hg1070), ?_⟩
          have hm1006s := hm1006.still hg1070
          have hm1071 := Mem.lit (kd := kTensor) (xs := ([r98.1] : List Tensor)) hm1006 hbb1065 hx1069 hg1070 (Els.one (kd := kTensor) (us := [.slice A111 r98.1.Shape.length c112, .slice A113 r98.1.Data.length c114]) (x := r98.1) (kTensor.mk r98.1 ⟨hm1006s.cpAt 5 rfl, (hm1006s.slAt 5 rfl)⟩ ⟨hm1006s.cpAt 6 rfl, (hm1006s.slAt 6 rfl)⟩))
          refine a1 12 ?_
          have e1080 : s58.2.2.2.length = s58.2.2.2.length := rfl
          have e1081 : 1 = ([(⟨(rd x0 s58.1).Shape, (rd x0 s58.1).Data⟩ : Tensor)] : List Tensor).length := rfl
          refine oo hf1068 rfl (ap (sz := 2) (d := 46) hf1068 e1080 e1081 (hm1071.at 10 rfl) (hm1071.at2 10 2 rfl rfl).2 (hm1071.cpAt 2 rfl) (by have := g138; omega) ?_)
          intro A1072 c1073 w1074 a1075 ho1077 hg1078 hr1079 hf1076
          refine ⟨.inr (Gr.own hg1078 (by simp)), ?_⟩
          have hm1082 := hm1071.setOwn 10 _ rfl rfl ho1077 hg1078 hr1079
          refine a1 19 ?_
          have e1091 : s58.2.2.1.length = s58.2.2.1.length := rfl
          have e1092 : 1 = ([r98.1] : List Tensor).length := rfl
          refine oo hf1076 rfl (ap (sz := 2) (d := 53) hf1076 e1091 e1092 (hm1082.at 9 rfl) (hm1082.at2 9 0 rfl rfl).2 (hm1082.cpAt 0 rfl) (by have := g139; omega) ?_)
          intro A1083 c1084 w1085 a1086 ho1088 hg1089 hr1090 hf1087
          refine ⟨.inr (Gr.own hg1089 (by simp)), ?_⟩
          have hm1093 := hm1082.setOwn 9 _ rfl rfl ho1088 hg1089 hr1090
          refine a1 25 ?_
          have e1102 : s58.2.1.length = s58.2.1.length := rfl
          have e1103 : 1 = ([0] : List Int).length := rfl
          refine oo hf1087 rfl (ap (sz := 1) (d := 59) hf1087 e1102 e1103 (hm1093.at 8 rfl) (hm1093.at2 8 1 rfl rfl).2 (hm1093.cpAt 1 rfl) (by have := g140; omega) ?_)
          intro A1094 c1095 w1096 a1097 ho1099 hg1100 hr1101 hf1098
          refine ⟨.inr (Gr.own hg1100 (by simp)), ?_⟩
          have hm1104 := hm1093.setOwn 8 _ rfl rfl ho1099 hg1100 hr1101
          refine qt [26, 27] [] (fb 35 268435455) [(0, .slice A0 x0.length c0), (4, vp b35), (5, vi s58.1), (35, vp b35), (36, vp b35), (46, .slice A1072 ((s58.2.2.2 ++ ([(⟨(rd x0 s58.1).Shape, (rd x0 s58.1).Data⟩ : Tensor)] : List Tensor)).length) c1073), (53, .slice A1083 (s58.2.2.1 ++ ([r98.1] : List Tensor)).length c1084), (59, .slice A1094 (s58.2.1 ++ ([0] : List Int)).length c1095), (61, vp b35)] 7 hf1098 ot fun a1105 hf1106 => ?_
          refine a1 28 ?_
          refine oo hf1106 rfl (sb (j := 0) (us := [.slice A1072 ((s58.2.2.2 ++ ([(⟨(rd x0 s58.1).Shape, (rd x0 s58.1).Data⟩ : Tensor)] : List Tensor)).length) c1073]) (cs' := [.slice A1072 ((s58.2.2.2 ++ ([(⟨(rd x0 s58.1).Shape, (rd x0 s58.1).Data⟩ : Tensor)] : List Tensor)).length) c1073, .slice A61 s58.2.2.1.length c62, .slice A59 s58.2.1.length c60]) hf1106 (hm1104.bxAt 11 rfl) ?_)
          intro w1107 hx1108 hg1109
          refine ⟨.inl (by decide), ?_⟩
          have hm1110 := hm1104.setBox 11 _ rfl rfl hx1108 hg1109
          refine qt [29, 30] [] (fb 35 2147483647) [(0, .slice A0 x0.length c0), (4, vp b35), (5, vi s58.1), (36, vp b35), (53, .slice A1083 (s58.2.2.1 ++ ([r98.1] : List Tensor)).length c1084), (59, .slice A1094 (s58.2.1 ++ ([0] : List Int)).length c1095), (63, .pointer (some ⟨b35, 1, none⟩))] 4 hf1106 ot fun a1111 hf1112 => ?_
          refine a1 31 ?_
          refine oo hf1112 rfl (sb (j := 1) (us := [.slice A1083 (s58.2.2.1 ++ ([r98.1] : List Tensor)).length c1084]) (cs' := [.slice A1072 ((s58.2.2.2 ++ ([(⟨(rd x0 s58.1).Shape, (rd x0 s58.1).Data⟩ : Tensor)] : List Tensor)).length) c1073, .slice A1083 (s58.2.2.1 ++ ([r98.1] : List Tensor)).length c1084, .slice A59 s58.2.1.length c60]) hf1112 (hm1110.bxAt 11 rfl) ?_)
          intro w1113 hx1114 hg1115
          refine ⟨.inl (by decide), ?_⟩
          have hm1116 := hm1110.setBox 11 _ rfl rfl hx1114 hg1115
          refine qt [32, 33] [] (fb 35 17179869183) [(0, .slice A0 x0.length c0), (4, vp b35), (5, vi s58.1), (59, .slice A1094 (s58.2.1 ++ ([0] : List Int)).length c1095), (65, .pointer (some ⟨b35, 2, none⟩))] 1 hf1112 ot fun a1117 hf1118 => ?_
          refine a1 34 ?_
          refine oo hf1118 rfl (sb (j := 2) (us := [.slice A1094 (s58.2.1 ++ ([0] : List Int)).length c1095]) (cs' := [.slice A1072 ((s58.2.2.2 ++ ([(⟨(rd x0 s58.1).Shape, (rd x0 s58.1).Data⟩ : Tensor)] : List Tensor)).length) c1073, .slice A1083 (s58.2.2.1 ++ ([r98.1] : List Tensor)).length c1084, .slice A1094 (s58.2.1 ++ ([0] : List Int)).length c1095]) hf1118 (hm1116.bxAt 11 rfl) ?_)
          intro w1119 hx1120 hg1121
          refine ⟨.inl (by decide), ?_⟩
          have hm1122 := hm1116.setBox 11 _ rfl rfl hx1120 hg1121
          refine aD ⟨rfl, A1094, c1095, A1083, c1084, A1072, c1073, hf1118.se [0, 4, 5], hm1122.se [8, 9, 10, 11, 12] _ rfl⟩
      refine memoStep (R := fun (a : Act) (w : World) => ∃ (A225 : Option Addr) (c226 : Nat) (A227 : Option Addr) (c228 : Nat) (b233 : Nat), Fr 67 a [(0, .slice A0 x0.length c0), (4, .pointer (some ⟨b35, 0, none⟩)), (5, .int .i64 s58.1), (34, .pointer (some ⟨b35, 0, none⟩)), (35, .pointer (some ⟨b35, 0, none⟩)), (36, .pointer (some ⟨b35, 0, none⟩)), (40, .slice A63 s58.2.2.2.length c65), (44, .agg #[.slice A225 (rd x0 s58.1).Shape.length c226, .slice A227 (rd x0 s58.1).Data.length c228]), (45, .slice (some ⟨b233, 0, none⟩) 1 1), (50, .slice A61 s58.2.2.1.length c62), (51, .agg #[.slice A111 r98.1.Shape.length c112, .slice A113 r98.1.Data.length c114]), (57, .slice A59 s58.2.1.length c60)] ∧ Mem [] M w0 [.sl kTensor (some ⟨b233, 0, none⟩) 1 ([(⟨(rd x0 s58.1).Shape, (rd x0 s58.1).Data⟩ : Tensor)] : List Tensor), .sl Kd.float A227 c228 (rd x0 s58.1).Data, .sl (Kd.int .i64) A225 c226 (rd x0 s58.1).Shape, .bx b124 [.slice A111 r98.1.Shape.length c112, .slice A113 r98.1.Data.length c114] 29, .sl (Kd.int .i64) A111 c112 r98.1.Shape, .sl Kd.float A113 c114 r98.1.Data, .ow (Kd.int .i64) 3 A59 c60 s58.2.1, .ow kTensor 29 A61 c62 s58.2.2.1, .ow kTensor 29 A63 c65 s58.2.2.2, .bx b35 [.slice A63 s58.2.2.2.length c65, .slice A61 s58.2.2.1.length c62, .slice A59 s58.2.1.length c60] 65, .sl kTensor A0 c0 x0] w) (fb 35 15986687) 14 ?_ fun L1123 => ?_
      · rintro a1124 w1125 ⟨A225, c226, A227, c228, b233, hf1126, hm1127⟩
        refine all3 12 18 24 (by kernel_rfl) ?_ ?_ ?_
        · have e1136 : s58.2.2.2.length = s58.2.2.2.length := rfl
          have e1137 : 1 = ([(⟨(rd x0 s58.1).Shape, (rd x0 s58.1).Data⟩ : Tensor)] : List Tensor).length := rfl
          refine oo hf1126 rfl (ap (sz := 2) (d := 46) hf1126 e1136 e1137 (hm1127.at 8 rfl) (hm1127.at2 8 0 rfl rfl).2 (hm1127.cpAt 0 rfl) (by have := g138; omega) ?_)
          intro A1128 c1129 w1130 a1131 ho1133 hg1134 hr1135 hf1132
          refine ⟨.inr (Gr.own hg1134 (by simp)), ?_⟩
          have hm1138 := hm1127.setOwn 8 _ rfl rfl ho1133 hg1134 hr1135
          exact ms L862 ⟨A225, c226, A227, c228, b233, A1128, c1129, hf1132.se [0, 4, 5, 34, 35, 36, 44, 45, 46, 50, 51, 57], hm1138.se [0, 1, 2, 3, 4, 5, 6, 7, 8, 9, 10] _ rfl⟩
        · refine oo hf1126 rfl (li (cs := [.slice A111 r98.1.Shape.length c112, .slice A113 r98.1.Data.length c114]) (E := 29) (len := 1) (d := 52) hf1126 ?_)
          intro b1139 w1140 a1141 hbb1139 hx1143 hg1144 hf1142
          refine ⟨.inr (Gr.still hg1144), ?_⟩
          have hm1127s := hm1127.still hg1144
          have hm1145 := Mem.lit (kd := kTensor) (xs := ([r98.1] : List Tensor)) hm1127 hbb1139 hx1143 hg1144 (Els.one (kd := kTensor) (us := [.slice A111 r98.1.Shape.length c112, .slice A113 r98.1.Data.length c114]) (x := r98.1) (kTensor.mk r98.1 ⟨hm1127s.cpAt 4 rfl, (hm1127s.slAt 4 rfl)⟩ ⟨hm1127s.cpAt 5 rfl, (hm1127s.slAt 5 rfl)⟩))
          exact ms L928 ⟨A225, c226, A227, c228, b233, b1139, hf1142.se [0, 4, 5, 34, 35, 36, 40, 44, 45, 50, 51, 52, 57], hm1145.se [0, 1, 2, 3, 4, 5, 6, 7, 8, 9, 10, 11] _ rfl⟩
        · refine oo hf1126 rfl (li (cs := [.int .i64 0]) (E := 3) (len := 1) (d := 58) hf1126 ?_)
          intro b1146 w1147 a1148 hbb1146 hx1150 hg1151 hf1149
          refine ⟨.inr (Gr.still hg1151), ?_⟩
          have hm1127s := hm1127.still hg1151
          have hm1152 := Mem.lit (kd := (Kd.int .i64)) (xs := ([0] : List Int)) hm1127 hbb1146 hx1150 hg1151 (Els.one (kd := (Kd.int .i64)) (us := [.int .i64 0]) (x := 0) rfl)
          exact ms L1002 ⟨A225, c226, A227, c228, b233, b1146, hf1149.se [0, 4, 5, 34, 35, 36, 40, 44, 45, 50, 51, 57, 58], hm1152.se [0, 1, 2, 3, 4, 5, 6, 7, 8, 9, 10, 11] _ rfl⟩
      refine memoStep (R := fun (a : Act) (w : World) => ∃ (A225 : Option Addr) (c226 : Nat) (A227 : Option Addr) (c228 : Nat) (b605 : Nat), Fr 67 a [(0, .slice A0 x0.length c0), (4, .pointer (some ⟨b35, 0, none⟩)), (5, .int .i64 s58.1), (34, .pointer (some ⟨b35, 0, none⟩)), (35, .pointer (some ⟨b35, 0, none⟩)), (36, .pointer (some ⟨b35, 0, none⟩)), (40, .slice A63 s58.2.2.2.length c65), (44, .agg #[.slice A225 (rd x0 s58.1).Shape.length c226, .slice A227 (rd x0 s58.1).Data.length c228]), (50, .slice A61 s58.2.2.1.length c62), (51, .agg #[.slice A111 r98.1.Shape.length c112, .slice A113 r98.1.Data.length c114]), (52, .slice (some ⟨b605, 0, none⟩) 1 1), (57, .slice A59 s58.2.1.length c60)] ∧ Mem [] M w0 [.sl kTensor (some ⟨b605, 0, none⟩) 1 ([r98.1] : List Tensor), .sl Kd.float A227 c228 (rd x0 s58.1).Data, .sl (Kd.int .i64) A225 c226 (rd x0 s58.1).Shape, .bx b124 [.slice A111 r98.1.Shape.length c112, .slice A113 r98.1.Data.length c114] 29, .sl (Kd.int .i64) A111 c112 r98.1.Shape, .sl Kd.float A113 c114 r98.1.Data, .ow (Kd.int .i64) 3 A59 c60 s58.2.1, .ow kTensor 29 A61 c62 s58.2.2.1, .ow kTensor 29 A63 c65 s58.2.2.2, .bx b35 [.slice A63 s58.2.2.2.length c65, .slice A61 s58.2.2.1.length c62, .slice A59 s58.2.1.length c60] 65, .sl kTensor A0 c0 x0] w) (fb 35 16246783) 14 ?_ fun L1153 => ?_
      · rintro a1154 w1155 ⟨A225, c226, A227, c228, b605, hf1156, hm1157⟩
        refine all2 11 24 (by kernel_rfl) ?_ ?_
        · refine oo hf1156 rfl (li (cs := [.slice A225 (rd x0 s58.1).Shape.length c226, .slice A227 (rd x0 s58.1).Data.length c228]) (E := 29) (len := 1) (d := 45) hf1156 ?_)
          intro b1158 w1159 a1160 hbb1158 hx1162 hg1163 hf1161
          refine ⟨.inr (Gr.still hg1163), ?_⟩
          have hm1157s := hm1157.still hg1163
          have hm1164 := Mem.lit (kd := kTensor) (xs := ([(⟨(rd x0 s58.1).Shape, (rd x0 s58.1).Data⟩ : Tensor)] : List Tensor)) hm1157 hbb1158 hx1162 hg1163 (Els.one (kd := kTensor) (us := [.slice A225 (rd x0 s58.1).Shape.length c226, .slice A227 (rd x0 s58.1).Data.length c228]) (x := (⟨(rd x0 s58.1).Shape, (rd x0 s58.1).Data⟩ : Tensor)) (kTensor.mk (⟨(rd x0 s58.1).Shape, (rd x0 s58.1).Data⟩ : Tensor) ⟨hm1157s.cpAt 2 rfl, (hm1157s.slAt 2 rfl)⟩ ⟨hm1157s.cpAt 1 rfl, (hm1157s.slAt 1 rfl)⟩))
          exact ms L928 ⟨A225, c226, A227, c228, b1158, b605, hf1161.se [0, 4, 5, 34, 35, 36, 40, 44, 45, 50, 51, 52, 57], hm1164.se [1, 0, 2, 3, 4, 5, 6, 7, 8, 9, 10, 11] _ rfl⟩
        · refine oo hf1156 rfl (li (cs := [.int .i64 0]) (E := 3) (len := 1) (d := 58) hf1156 ?_)
          intro b1165 w1166 a1167 hbb1165 hx1169 hg1170 hf1168
          refine ⟨.inr (Gr.still hg1170), ?_⟩
          have hm1157s := hm1157.still hg1170
          have hm1171 := Mem.lit (kd := (Kd.int .i64)) (xs := ([0] : List Int)) hm1157 hbb1165 hx1169 hg1170 (Els.one (kd := (Kd.int .i64)) (us := [.int .i64 0]) (x := 0) rfl)
          refine a1 11 ?_
          refine oo hf1168 rfl (li (cs := [.slice A225 (rd x0 s58.1).Shape.length c226, .slice A227 (rd x0 s58.1).Data.length c228]) (E := 29) (len := 1) (d := 45) hf1168 ?_)
          intro b1172 w1173 a1174 hbb1172 hx1176 hg1177 hf1175
          refine ⟨.inr (Gr.still hg1177), ?_⟩
          have hm1171s := hm1171.still hg1177
          have hm1178 := Mem.lit (kd := kTensor) (xs := ([(⟨(rd x0 s58.1).Shape, (rd x0 s58.1).Data⟩ : Tensor)] : List Tensor)) hm1171 hbb1172 hx1176 hg1177 (Els.one (kd := kTensor) (us := [.slice A225 (rd x0 s58.1).Shape.length c226, .slice A227 (rd x0 s58.1).Data.length c228]) (x := (⟨(rd x0 s58.1).Shape, (rd x0 s58.1).Data⟩ : Tensor)) (kTensor.mk (⟨(rd x0 s58.1).Shape, (rd x0 s58.1).Data⟩ : Tensor) ⟨hm1171s.cpAt 3 rfl, (hm1171s.slAt 3 rfl)⟩ ⟨hm1171s.cpAt 2 rfl, (hm1171s.slAt 2 rfl)⟩))
          refine a1 12 ?_
          have e1187 : s58.2.2.2.length = s58.2.2.2.length := rfl
          have e1188 : 1 = ([(⟨(rd x0 s58.1).Shape, (rd x0 s58.1).Data⟩ : Tensor)] : List Tensor).length := rfl
          refine oo hf1175 rfl (ap (sz := 2) (d := 46) hf1175 e1187 e1188 (hm1178.at 10 rfl) (hm1178.at2 10 0 rfl rfl).2 (hm1178.cpAt 0 rfl) (by have := g138; omega) ?_)
          intro A1179 c1180 w1181 a1182 ho1184 hg1185 hr1186 hf1183
          refine ⟨.inr (Gr.own hg1185 (by simp)), ?_⟩
          have hm1189 := hm1178.setOwn 10 _ rfl rfl ho1184 hg1185 hr1186
          refine a1 19 ?_
          have e1198 : s58.2.2.1.length = s58.2.2.1.length := rfl
          have e1199 : 1 = ([r98.1] : List Tensor).length := rfl
          refine oo hf1183 rfl (ap (sz := 2) (d := 53) hf1183 e1198 e1199 (hm1189.at 9 rfl) (hm1189.at2 9 2 rfl rfl).2 (hm1189.cpAt 2 rfl) (by have := g139; omega) ?_)
          intro A1190 c1191 w1192 a1193 ho1195 hg1196 hr1197 hf1194
          refine ⟨.inr (Gr.own hg1196 (by simp)), ?_⟩
          have hm1200 := hm1189.setOwn 9 _ rfl rfl ho1195 hg1196 hr1197
          refine a1 25 ?_
          have e1209 : s58.2.1.length = s58.2.1.length := rfl
          have e1210 : 1 = ([0] : List Int).length := rfl
          refine oo hf1194 rfl (ap (sz := 1) (d := 59) hf1194 e1209 e1210 (hm1200.at 8 rfl) (hm1200.at2 8 1 rfl rfl).2 (hm1200.cpAt 1 rfl) (by have := g140; omega) ?_)
          intro A1201 c1202 w1203 a1204 ho1206 hg1207 hr1208 hf1205
          refine ⟨.inr (Gr.own hg1207 (by simp)), ?_⟩
          have hm1211 := hm1200.setOwn 8 _ rfl rfl ho1206 hg1207 hr1208
          refine qt [26, 27] [] (fb 35 268435455) [(0, .slice A0 x0.length c0), (4, vp b35), (5, vi s58.1), (35, vp b35), (36, vp b35), (46, .slice A1179 ((s58.2.2.2 ++ ([(⟨(rd x0 s58.1).Shape, (rd x0 s58.1).Data⟩ : Tensor)] : List Tensor)).length) c1180), (53, .slice A1190 (s58.2.2.1 ++ ([r98.1] : List Tensor)).length c1191), (59, .slice A1201 (s58.2.1 ++ ([0] : List Int)).length c1202), (61, vp b35)] 7 hf1205 ot fun a1212 hf1213 => ?_
          refine a1 28 ?_
          refine oo hf1213 rfl (sb (j := 0) (us := [.slice A1179 ((s58.2.2.2 ++ ([(⟨(rd x0 s58.1).Shape, (rd x0 s58.1).Data⟩ : Tensor)] : List Tensor)).length) c1180]) (cs' := [.slice A1179 ((s58.2.2.2 ++ ([(⟨(rd x0 s58.1).Shape, (rd x0 s58.1).Data⟩ : Tensor)] : List Tensor)).length) c1180, .slice A61 s58.2.2.1.length c62, .slice A59 s58.2.1.length c60]) hf1213 (hm1211.bxAt 11 rfl) ?_)
          intro w1214 hx1215 hg1216
          refine ⟨.inl (by decide), ?_⟩
          have hm1217 := hm1211.setBox 11 _ rfl rfl hx1215 hg1216
          refine qt [29, 30] [] (fb 35 2147483647) [(0, .slice A0 x0.length c0), (4, vp b35), (5, vi s58.1), (36, vp b35), (53, .slice A1190 (s58.2.2.1 ++ ([r98.1] : List Tensor)).length c1191), (59, .slice A1201 (s58.2.1 ++ ([0] : List Int)).length c1202), (63, .pointer (some ⟨b35, 1, none⟩))] 4 hf1213 ot fun a1218 hf1219 => ?_
          refine a1 31 ?_
          refine oo hf1219 rfl (sb (j := 1) (us := [.slice A1190 (s58.2.2.1 ++ ([r98.1] : List Tensor)).length c1191]) (cs' := [.slice A1179 ((s58.2.2.2 ++ ([(⟨(rd x0 s58.1).Shape, (rd x0 s58.1).Data⟩ : Tensor)] : List Tensor)).length) c1180, .slice A1190 (s58.2.2.1 ++ ([r98.1] : List Tensor)).length c1191, .slice A59 s58.2.1.length c60]) hf1219 (hm1217.bxAt 11 rfl) ?_)
          intro w1220 hx1221 hg1222
          refine ⟨.inl (by decide), ?_⟩
          have hm1223 := hm1217.setBox 11 _ rfl rfl hx1221 hg1222
          refine qt [32, 33] [] (fb 35 17179869183) [(0, .slice A0 x0.length c0), (4, vp b35), (5, vi s58.1), (59, .slice A1201 (s58.2.1 ++ ([0] : List Int)).length c1202), (65, .pointer (some ⟨b35, 2, none⟩))] 1 hf1219 ot fun a1224 hf1225 => ?_
          refine a1 34 ?_
          refine oo hf1225 rfl (sb (j := 2) (us := [.slice A1201 (s58.2.1 ++ ([0] : List Int)).length c1202]) (cs' := [.slice A1179 ((s58.2.2.2 ++ ([(⟨(rd x0 s58.1).Shape, (rd x0 s58.1).Data⟩ : Tensor)] : List Tensor)).length) c1180, .slice A1190 (s58.2.2.1 ++ ([r98.1] : List Tensor)).length c1191, .slice A1201 (s58.2.1 ++ ([0] : List Int)).length c1202]) hf1225 (hm1223.bxAt 11 rfl) ?_)
          intro w1226 hx1227 hg1228
          refine ⟨.inl (by decide), ?_⟩
          have hm1229 := hm1223.setBox 11 _ rfl rfl hx1227 hg1228
          refine aD ⟨rfl, A1201, c1202, A1190, c1191, A1179, c1180, hf1225.se [0, 4, 5], hm1229.se [8, 9, 10, 11, 12] _ rfl⟩
      refine memoStep (R := fun (a : Act) (w : World) => ∃ (A225 : Option Addr) (c226 : Nat) (A227 : Option Addr) (c228 : Nat) (b684 : Nat), Fr 67 a [(0, .slice A0 x0.length c0), (4, .pointer (some ⟨b35, 0, none⟩)), (5, .int .i64 s58.1), (34, .pointer (some ⟨b35, 0, none⟩)), (35, .pointer (some ⟨b35, 0, none⟩)), (36, .pointer (some ⟨b35, 0, none⟩)), (40, .slice A63 s58.2.2.2.length c65), (44, .agg #[.slice A225 (rd x0 s58.1).Shape.length c226, .slice A227 (rd x0 s58.1).Data.length c228]), (50, .slice A61 s58.2.2.1.length c62), (51, .agg #[.slice A111 r98.1.Shape.length c112, .slice A113 r98.1.Data.length c114]), (57, .slice A59 s58.2.1.length c60), (58, .slice (some ⟨b684, 0, none⟩) 1 1)] ∧ Mem [] M w0 [.sl (Kd.int .i64) (some ⟨b684, 0, none⟩) 1 ([0] : List Int), .sl Kd.float A227 c228 (rd x0 s58.1).Data, .sl (Kd.int .i64) A225 c226 (rd x0 s58.1).Shape, .bx b124 [.slice A111 r98.1.Shape.length c112, .slice A113 r98.1.Data.length c114] 29, .sl (Kd.int .i64) A111 c112 r98.1.Shape, .sl Kd.float A113 c114 r98.1.Data, .ow (Kd.int .i64) 3 A59 c60 s58.2.1, .ow kTensor 29 A61 c62 s58.2.2.1, .ow kTensor 29 A63 c65 s58.2.2.2, .bx b35 [.slice A63 s58.2.2.2.length c65, .slice A61 s58.2.2.1.length c62, .slice A59 s58.2.1.length c60] 65, .sl kTensor A0 c0 x0] w) (fb 35 32761855) 14 ?_ fun L1230 => ?_
      · rintro a1231 w1232 ⟨A225, c226, A227, c228, b684, hf1233, hm1234⟩
        refine all2 11 18 (by kernel_rfl) ?_ ?_
        · refine oo hf1233 rfl (li (cs := [.slice A225 (rd x0 s58.1).Shape.length c226, .slice A227 (rd x0 s58.1).Data.length c228]) (E := 29) (len := 1) (d := 45) hf1233 ?_)
          intro b1235 w1236 a1237 hbb1235 hx1239 hg1240 hf1238
          refine ⟨.inr (Gr.still hg1240), ?_⟩
          have hm1234s := hm1234.still hg1240
          have hm1241 := Mem.lit (kd := kTensor) (xs := ([(⟨(rd x0 s58.1).Shape, (rd x0 s58.1).Data⟩ : Tensor)] : List Tensor)) hm1234 hbb1235 hx1239 hg1240 (Els.one (kd := kTensor) (us := [.slice A225 (rd x0 s58.1).Shape.length c226, .slice A227 (rd x0 s58.1).Data.length c228]) (x := (⟨(rd x0 s58.1).Shape, (rd x0 s58.1).Data⟩ : Tensor)) (kTensor.mk (⟨(rd x0 s58.1).Shape, (rd x0 s58.1).Data⟩ : Tensor) ⟨hm1234s.cpAt 2 rfl, (hm1234s.slAt 2 rfl)⟩ ⟨hm1234s.cpAt 1 rfl, (hm1234s.slAt 1 rfl)⟩))
          exact ms L1002 ⟨A225, c226, A227, c228, b1235, b684, hf1238.se [0, 4, 5, 34, 35, 36, 40, 44, 45, 50, 51, 57, 58], hm1241.se [1, 0, 2, 3, 4, 5, 6, 7, 8, 9, 10, 11] _ rfl⟩
        · refine oo hf1233 rfl (li (cs := [.slice A111 r98.1.Shape.length c112, .slice A113 r98.1.Data.length c114]) (E := 29) (len := 1) (d := 52) hf1233 ?_)
          intro b1242 w1243 a1244 hbb1242 hx1246 hg1247 hf1245
          refine ⟨.inr (Gr.still hg1247), ?_⟩
          have hm1234s := hm1234.still hg1247
          have hm1248 := Mem.lit (kd := kTensor) (xs := ([r98.1] : List Tensor)) hm1234 hbb1242 hx1246 hg1247 (Els.one (kd := kTensor) (us := [.slice A111 r98.1.Shape.length c112, .slice A113 r98.1.Data.length c114]) (x := r98.1) (kTensor.mk r98.1 ⟨hm1234s.cpAt 4 rfl, (hm1234s.slAt 4 rfl)⟩ ⟨hm1234s.cpAt 5 rfl, (hm1234s.slAt 5 rfl)⟩))
          refine a1 11 ?_
          refine oo hf1245 rfl (li (cs := [.slice A225 (rd x0 s58.1).Shape.length c226, .slice A227 (rd x0 s58.1).Data.length c228]) (E := 29) (len := 1) (d := 45) hf1245 ?_)
          intro b1249 w1250 a1251 hbb1249 hx1253 hg1254 hf1252
          refine ⟨.inr (Gr.still hg1254), ?_⟩
          have hm1248s := hm1248.still hg1254
          have hm1255 := Mem.lit (kd := kTensor) (xs := ([(⟨(rd x0 s58.1).Shape, (rd x0 s58.1).Data⟩ : Tensor)] : List Tensor)) hm1248 hbb1249 hx1253 hg1254 (Els.one (kd := kTensor) (us := [.slice A225 (rd x0 s58.1).Shape.length c226, .slice A227 (rd x0 s58.1).Data.length c228]) (x := (⟨(rd x0 s58.1).Shape, (rd x0 s58.1).Data⟩ : Tensor)) (kTensor.mk (⟨(rd x0 s58.1).Shape, (rd x0 s58.1).Data⟩ : Tensor) ⟨hm1248s.cpAt 3 rfl, (hm1248s.slAt 3 rfl)⟩ ⟨hm1248s.cpAt 2 rfl, (hm1248s.slAt 2 rfl)⟩))
          refine a1 12 ?_
          have e1264 : s58.2.2.2.length = s58.2.2.2.length := rfl
          have e1265 : 1 = ([(⟨(rd x0 s58.1).Shape, (rd x0 s58.1).Data⟩ : Tensor)] : List Tensor).length := rfl
          refine oo hf1252 rfl (ap (sz := 2) (d := 46) hf1252 e1264 e1265 (hm1255.at 10 rfl) (hm1255.at2 10 0 rfl rfl).2 (hm1255.cpAt 0 rfl) (by have := g138; omega) ?_)
          intro A1256 c1257 w1258 a1259 ho1261 hg1262 hr1263 hf1260
          refine ⟨.inr (Gr.own hg1262 (by simp)), ?_⟩
          have hm1266 := hm1255.setOwn 10 _ rfl rfl ho1261 hg1262 hr1263
          refine a1 19 ?_
          have e1275 : s58.2.2.1.length = s58.2.2.1.length := rfl
          have e1276 : 1 = ([r98.1] : List Tensor).length := rfl
          refine oo hf1260 rfl (ap (sz := 2) (d := 53) hf1260 e1275 e1276 (hm1266.at 9 rfl) (hm1266.at2 9 1 rfl rfl).2 (hm1266.cpAt 1 rfl) (by have := g139; omega) ?_)
          intro A1267 c1268 w1269 a1270 ho1272 hg1273 hr1274 hf1271
          refine ⟨.inr (Gr.own hg1273 (by simp)), ?_⟩
          have hm1277 := hm1266.setOwn 9 _ rfl rfl ho1272 hg1273 hr1274
          refine a1 25 ?_
          have e1286 : s58.2.1.length = s58.2.1.length := rfl
          have e1287 : 1 = ([0] : List Int).length := rfl
          refine oo hf1271 rfl (ap (sz := 1) (d := 59) hf1271 e1286 e1287 (hm1277.at 8 rfl) (hm1277.at2 8 2 rfl rfl).2 (hm1277.cpAt 2 rfl) (by have := g140; omega) ?_)
          intro A1278 c1279 w1280 a1281 ho1283 hg1284 hr1285 hf1282
          refine ⟨.inr (Gr.own hg1284 (by simp)), ?_⟩
          have hm1288 := hm1277.setOwn 8 _ rfl rfl ho1283 hg1284 hr1285
          refine qt [26, 27] [] (fb 35 268435455) [(0, .slice A0 x0.length c0), (4, vp b35), (5, vi s58.1), (35, vp b35), (36, vp b35), (46, .slice A1256 ((s58.2.2.2 ++ ([(⟨(rd x0 s58.1).Shape, (rd x0 s58.1).Data⟩ : Tensor)] : List Tensor)).length) c1257), (53, .slice A1267 (s58.2.2.1 ++ ([r98.1] : List Tensor)).length c1268), (59, .slice A1278 (s58.2.1 ++ ([0] : List Int)).length c1279), (61, vp b35)] 7 hf1282 ot fun a1289 hf1290 => ?_
          refine a1 28 ?_
          refine oo hf1290 rfl (sb (j := 0) (us := [.slice A1256 ((s58.2.2.2 ++ ([(⟨(rd x0 s58.1).Shape, (rd x0 s58.1).Data⟩ : Tensor)] : List Tensor)).length) c1257]) (cs' := [.slice A1256 ((s58.2.2.2 ++ ([(⟨(rd x0 s58.1).Shape, (rd x0 s58.1).Data⟩ : Tensor)] : List Tensor)).length) c1257, .slice A61 s58.2.2.1.length c62, .slice A59 s58.2.1.length c60]) hf1290 (hm1288.bxAt 11 rfl) ?_)
          intro w1291 hx1292 hg1293
          refine ⟨.inl (by decide), ?_⟩
          have hm1294 := hm1288.setBox 11 _ rfl rfl hx1292 hg1293
          refine qt [29, 30] [] (fb 35 2147483647) [(0, .slice A0 x0.length c0), (4, vp b35), (5, vi s58.1), (36, vp b35), (53, .slice A1267 (s58.2.2.1 ++ ([r98.1] : List Tensor)).length c1268), (59, .slice A1278 (s58.2.1 ++ ([0] : List Int)).length c1279), (63, .pointer (some ⟨b35, 1, none⟩))] 4 hf1290 ot fun a1295 hf1296 => ?_
          refine a1 31 ?_
          refine oo hf1296 rfl (sb (j := 1) (us := [.slice A1267 (s58.2.2.1 ++ ([r98.1] : List Tensor)).length c1268]) (cs' := [.slice A1256 ((s58.2.2.2 ++ ([(⟨(rd x0 s58.1).Shape, (rd x0 s58.1).Data⟩ : Tensor)] : List Tensor)).length) c1257, .slice A1267 (s58.2.2.1 ++ ([r98.1] : List Tensor)).length c1268, .slice A59 s58.2.1.length c60]) hf1296 (hm1294.bxAt 11 rfl) ?_)
          intro w1297 hx1298 hg1299
          refine ⟨.inl (by decide), ?_⟩
          have hm1300 := hm1294.setBox 11 _ rfl rfl hx1298 hg1299
          refine qt [32, 33] [] (fb 35 17179869183) [(0, .slice A0 x0.length c0), (4, vp b35), (5, vi s58.1), (59, .slice A1278 (s58.2.1 ++ ([0] : List Int)).length c1279), (65, .pointer (some ⟨b35, 2, none⟩))] 1 hf1296 ot fun a1301 hf1302 => ?_
          refine a1 34 ?_
          refine oo hf1302 rfl (sb (j := 2) (us := [.slice A1278 (s58.2.1 ++ ([0] : List Int)).length c1279]) (cs' := [.slice A1256 ((s58.2.2.2 ++ ([(⟨(rd x0 s58.1).Shape, (rd x0 s58.1).Data⟩ : Tensor)] : List Tensor)).length) c1257, .slice A1267 (s58.2.2.1 ++ ([r98.1] : List Tensor)).length c1268, .slice A1278 (s58.2.1 ++ ([0] : List Int)).length c1279]) hf1302 (hm1300.bxAt 11 rfl) ?_)
          intro w1303 hx1304 hg1305
          refine ⟨.inl (by decide), ?_⟩
          have hm1306 := hm1300.setBox 11 _ rfl rfl hx1304 hg1305
          refine aD ⟨rfl, A1278, c1279, A1267, c1268, A1256, c1257, hf1302.se [0, 4, 5], hm1306.se [8, 9, 10, 11, 12] _ rfl⟩
      refine memoStep (R := fun (a : Act) (w : World) => ∃ (A225 : Option Addr) (c226 : Nat) (A227 : Option Addr) (c228 : Nat), Fr 67 a [(0, .slice A0 x0.length c0), (4, .pointer (some ⟨b35, 0, none⟩)), (5, .int .i64 s58.1), (34, .pointer (some ⟨b35, 0, none⟩)), (35, .pointer (some ⟨b35, 0, none⟩)), (36, .pointer (some ⟨b35, 0, none⟩)), (40, .slice A63 s58.2.2.2.length c65), (44, .agg #[.slice A225 (rd x0 s58.1).Shape.length c226, .slice A227 (rd x0 s58.1).Data.length c228]), (50, .slice A61 s58.2.2.1.length c62), (51, .agg #[.slice A111 r98.1.Shape.length c112, .slice A113 r98.1.Data.length c114]), (57, .slice A59 s58.2.1.length c60)] ∧ Mem [] M w0 [.sl Kd.float A227 c228 (rd x0 s58.1).Data, .sl (Kd.int .i64) A225 c226 (rd x0 s58.1).Shape, .bx b124 [.slice A111 r98.1.Shape.length c112, .slice A113 r98.1.Data.length c114] 29, .sl (Kd.int .i64) A111 c112 r98.1.Shape, .sl Kd.float A113 c114 r98.1.Data, .ow (Kd.int .i64) 3 A59 c60 s58.2.1, .ow kTensor 29 A61 c62 s58.2.2.1, .ow kTensor 29 A63 c65 s58.2.2.2, .bx b35 [.slice A63 s58.2.2.2.length c65, .slice A61 s58.2.2.1.length c62, .slice A59 s58.2.1.length c60] 65, .sl kTensor A0 c0 x0] w) (fb 35 15984639) 15 ?_ fun L1307 => ?_
      · rintro a1308 w1309 ⟨A225, c226, A227, c228, hf1310, hm1311⟩
        refine all3 11 18 24 (by kernel_rfl) ?_ ?_ ?_
        · refine oo hf1310 rfl (li (cs := [.slice A225 (rd x0 s58.1).Shape.length c226, .slice A227 (rd x0 s58.1).Data.length c228]) (E := 29) (len := 1) (d := 45) hf1310 ?_)
          intro b1312 w1313 a1314 hbb1312 hx1316 hg1317 hf1315
          refine ⟨.inr (Gr.still hg1317), ?_⟩
          have hm1311s := hm1311.still hg1317
          have hm1318 := Mem.lit (kd := kTensor) (xs := ([(⟨(rd x0 s58.1).Shape, (rd x0 s58.1).Data⟩ : Tensor)] : List Tensor)) hm1311 hbb1312 hx1316 hg1317 (Els.one (kd := kTensor) (us := [.slice A225 (rd x0 s58.1).Shape.length c226, .slice A227 (rd x0 s58.1).Data.length c228]) (x := (⟨(rd x0 s58.1).Shape, (rd x0 s58.1).Data⟩ : Tensor)) (kTensor.mk (⟨(rd x0 s58.1).Shape, (rd x0 s58.1).Data⟩ : Tensor) ⟨hm1311s.cpAt 1 rfl, (hm1311s.slAt 1 rfl)⟩ ⟨hm1311s.cpAt 0 rfl, (hm1311s.slAt 0 rfl)⟩))
          exact ms L1123 ⟨A225, c226, A227, c228, b1312, hf1315.se [0, 4, 5, 34, 35, 36, 40, 44, 45, 50, 51, 57], hm1318.se [0, 1, 2, 3, 4, 5, 6, 7, 8, 9, 10] _ rfl⟩
        · refine oo hf1310 rfl (li (cs := [.slice A111 r98.1.Shape.length c112, .slice A113 r98.1.Data.length c114]) (E := 29) (len := 1) (d := 52) hf1310 ?_)
          intro b1319 w1320 a1321 hbb1319 hx1323 hg1324 hf1322
          refine ⟨.inr (Gr.still hg1324), ?_⟩
          have hm1311s := hm1311.still hg1324
          have hm1325 := Mem.lit (kd := kTensor) (xs := ([r98.1] : List Tensor)) hm1311 hbb1319 hx1323 hg1324 (Els.one (kd := kTensor) (us := [.slice A111 r98.1.Shape.length c112, .slice A113 r98.1.Data.length c114]) (x := r98.1) (kTensor.mk r98.1 ⟨hm1311s.cpAt 3 rfl, (hm1311s.slAt 3 rfl)⟩ ⟨hm1311s.cpAt 4 rfl, (hm1311s.slAt 4 rfl)⟩))
          exact ms L1153 ⟨A225, c226, A227, c228, b1319, hf1322.se [0, 4, 5, 34, 35, 36, 40, 44, 50, 51, 52, 57], hm1325.se [0, 1, 2, 3, 4, 5, 6, 7, 8, 9, 10] _ rfl⟩
        · refine oo hf1310 rfl (li (cs := [.int .i64 0]) (E := 3) (len := 1) (d := 58) hf1310 ?_)
          intro b1326 w1327 a1328 hbb1326 hx1330 hg1331 hf1329
          refine ⟨.inr (Gr.still hg1331), ?_⟩
          have hm1311s := hm1311.still hg1331
          have hm1332 := Mem.lit (kd := (Kd.int .i64)) (xs := ([0] : List Int)) hm1311 hbb1326 hx1330 hg1331 (Els.one (kd := (Kd.int .i64)) (us := [.int .i64 0]) (x := 0) rfl)
          exact ms L1230 ⟨A225, c226, A227, c228, b1326, hf1329.se [0, 4, 5, 34, 35, 36, 40, 44, 50, 51, 57, 58], hm1332.se [0, 1, 2, 3, 4, 5, 6, 7, 8, 9, 10] _ rfl⟩
      have q1333 := (hm220.slAt 7 rfl).get s58.1 g75.1 g75.2
      obtain ⟨us1334, hr1335, hc1336⟩ := q1333.2
      obtain ⟨A1337, c1338, A1339, c1340, rfl, ⟨pA1337, sA1337⟩, ⟨pA1339, sA1339⟩⟩ := kTensor.open hr1335
      have hm1341 := hm220.elem pA1337 sA1337
      have hm1342 := hm1341.elem pA1339 sA1339
      refine qt (ob := [.cell ⟨b35, 0, none⟩ (.slice A63 s58.2.2.2.length c65), .is (some (⟨b35, 0, none⟩ : Addr).block ∉ [bk A63, bk A61, bk A59]), .is (Option.isSome A0 = true), .is (0 ≤ s58.1 ∧ s58.1 < (x0.length : Int)), .cell ((ad A0).add ((s58.1).toNat * 2)) (.slice A1337 (rd x0 s58.1).Shape.length c1338), .is (some (((ad A0).add ((s58.1).toNat * 2)) : Addr).block ∉ [bk A63, bk A61, bk A59]), .cell (((ad A0).add ((s58.1).toNat * 2)).add 1) (.slice A1339 (rd x0 s58.1).Data.length c1340), .is (some ((((ad A0).add ((s58.1).toNat * 2)).add 1) : Addr).block ∉ [bk A63, bk A61, bk A59]), .cell ⟨b35, 1, none⟩ (.slice A61 s58.2.2.1.length c62), .is (some (⟨b35, 1, none⟩ : Addr).block ∉ [bk A63, bk A61, bk A59]), .cell ⟨b124, 0, none⟩ (.slice A111 r98.1.Shape.length c112), .is (some (⟨b124, 0, none⟩ : Addr).block ∉ [bk A63, bk A61, bk A59]), .cell ⟨b124, 1, none⟩ (.slice A113 r98.1.Data.length c114), .is (some (⟨b124, 1, none⟩ : Addr).block ∉ [bk A63, bk A61, bk A59]), .cell ⟨b35, 2, none⟩ (.slice A59 s58.2.1.length c60), .is (some (⟨b35, 2, none⟩ : Addr).block ∉ [bk A63, bk A61, bk A59])]) [0, 1, 2, 3, 4, 5, 6, 7, 8, 9, 10, 13, 14, 15, 16, 17, 20, 21, 22, 23] [.slice A63 s58.2.2.2.length c65, .agg #[.slice A1337 (rd x0 s58.1).Shape.length c1338, .slice A1339 (rd x0 s58.1).Data.length c1340], .slice A61 s58.2.2.1.length c62, .agg #[.slice A111 r98.1.Shape.length c112, .slice A113 r98.1.Data.length c114], .slice A59 s58.2.1.length c60] (fb 35 15984639) [(0, .slice A0 x0.length c0), (4, vp b35), (5, vi s58.1), (34, vp b35), (35, vp b35), (36, vp b35), (40, .slice A63 s58.2.2.2.length c65), (44, .agg #[.slice A1337 (rd x0 s58.1).Shape.length c1338, .slice A1339 (rd x0 s58.1).Data.length c1340]), (50, .slice A61 s58.2.2.1.length c62), (51, .agg #[.slice A111 r98.1.Shape.length c112, .slice A113 r98.1.Data.length c114]), (57, .slice A59 s58.2.1.length c60)] 15 hf136 ⟨(hm220.cell 6 rfl rfl), (hm220.bxK 6 [5, 4, 3] _ rfl rfl rfl), q1333.1, g75, (hc1336 0 _ rfl), (kAdd (hm220.slK 7 [5, 4, 3] _ rfl rfl g75.1 g75.2)), (hc1336 1 _ rfl), (kAdd (kAdd (hm220.slK 7 [5, 4, 3] _ rfl rfl g75.1 g75.2))), (hm1342.cell 8 rfl rfl), (hm220.bxK 6 [5, 4, 3] _ rfl rfl rfl), (hm1342.cell 2 rfl rfl), (hm220.bxK 0 [5, 4, 3] _ rfl rfl rfl), (hm1342.cell 2 rfl rfl), (hm220.bxK 0 [5, 4, 3] _ rfl rfl rfl), (hm1342.cell 8 rfl rfl), (hm220.bxK 6 [5, 4, 3] _ rfl rfl rfl), trivial⟩ fun a1343 hf1344 => ?_
      exact ms L1307 ⟨A1337, c1338, A1339, c1340, hf1344.se [0, 4, 5, 34, 35, 36, 40, 44, 50, 51, 57], hm1342.se [0, 1, 2, 3, 4, 5, 6, 7, 8, 9] _ rfl⟩
    rintro a1345 w1346 ⟨A194, c195, A176, c177, A158, c159, hf1347, hm1348⟩
    refine blkN ?_
    refine thenN ?_
    refine rg [] [(0, .slice A0 x0.length c0), (4, vp b35), (5, vi (w64 (s58.1 + 1)))] hf1347 ot fun a1349 hf1350 => ?_
    exact ⟨((w64 (s58.1 + 1)), (s58.2.1 ++ ([0] : List Int)), (s58.2.2.1 ++ ([r98.1] : List Tensor)), (s58.2.2.2 ++ ([(⟨(rd x0 s58.1).Shape, (rd x0 s58.1).Data⟩ : Tensor)] : List Tensor))), H1, A194, c195, A176, c177, A158, c159, hf1350.se [0, 4, 5], hm1348.se [0, 1, 2, 3, 4] _ rfl⟩
  rintro a1378 w1379 ⟨yr66, rfl, A59, c60, A61, c62, A63, c65, hf1380, hm1381⟩
  refine thenN ?_
  refine wp_seq ?_
  refine rg [] [(2, vp b35), (3, vi 0)] hf1380 ot fun a1382 hf1383 => ?_
  have hm1384 := hm1381.se [0, 1, 2, 3] _ rfl
  refine thenN ?_
  refine wp_ret ?_
  have hm1385 : Mem [] M w0 [.bx b35 [.slice A63 yr66.2.2.2.length c65, .slice A61 yr66.2.2.1.length c62, .slice A59 yr66.2.1.length c60] 65, .ow kTensor 29 A63 c65 yr66.2.2.2, .ow kTensor 29 A61 c62 yr66.2.2.1, .ow (Kd.int .i64) 3 A59 c60 yr66.2.1] w1379 := hm1384.se [3, 2, 1, 0] _ rfl
  obtain rfl := Option.some.inj H0
  refine rt [] [.pointer (some ⟨b35, 0, none⟩), .int .i64 0] hf1383 ot ?_
  exact PtrP_so ⟨_, rfl, b35, A63, c65, A61, c62, A59, c60, rfl, hm1385⟩
theorem ref19_New.calls_n (M : List (Option Nat)) (w0 : World) (x0 : (List Tensor)) (A0 : Option Addr) (n0 c0 : Nat) (e0 : n0 = x0.length) (hm0 : Mem [] M w0 [.sl kTensor A0 c0 x0] w0) (r : ((Option Shelf65) × Int)) (hp : r.1 = none) (H0 : ref19_New.f x0 = some r) :
    Calls Try.prog 16 [.slice A0 n0 c0].toArray w0 (fun x w' => ∃ v, x = .returned v ∧ v = .tuple #[.pointer none, .int .i64 r.2] ∧ Mem [] M w0 [] w') :=
  (ref19_New.calls_x M w0 x0 A0 n0 c0 e0 hm0 r H0).mono (fun _ _ h => by rw [hp] at h; exact h)
theorem ref19_New.calls_s (M : List (Option Nat)) (w0 : World) (x0 : (List Tensor)) (A0 : Option Addr) (n0 c0 : Nat) (e0 : n0 = x0.length) (hm0 : Mem [] M w0 [.sl kTensor A0 c0 x0] w0) (r : ((Option Shelf65) × Int)) (y : Shelf65) (hp : r.1 = some y) (H0 : ref19_New.f x0 = some r) :
    Calls Try.prog 16 [.slice A0 n0 c0].toArray w0 (fun x w' => ∃ v, x = .returned v ∧ ∃ bp Aq_0 cq_0 Aq_1 cq_1 Aq_2 cq_2, v = .tuple #[.pointer (some ⟨bp, 0, none⟩), .int .i64 r.2] ∧ Mem [] M w0 [.bx bp [.slice Aq_0 y.T.length cq_0, .slice Aq_1 y.G.length cq_1, .slice Aq_2 y.V.length cq_2] 65, .ow kTensor 29 Aq_0 cq_0 y.T, .ow kTensor 29 Aq_1 cq_1 y.G, .ow (Kd.int .i64) 3 Aq_2 cq_2 y.V] w') :=
  (ref19_New.calls_x M w0 x0 A0 n0 c0 e0 hm0 r H0).mono (fun _ _ h => by rw [hp] at h; exact h)
theorem ref19_New.calls_d (M : List (Option Nat)) (w0 : World) (x0 : (List Tensor)) (A0 : Option Addr) (n0 c0 : Nat) (e0 : n0 = x0.length) (hm0 : Mem [] M w0 [.sl kTensor A0 c0 x0] w0) (r : ((Option Shelf65) × Int)) (H0 : ref19_New.f x0 = some r) :
    Calls Try.prog 16 [.slice A0 n0 c0].toArray w0 (fun x w' => ∃ v, x = .returned v ∧ ∃ p, v = .tuple #[p, .int .i64 r.2] ∧ Mem [] M w0 [] w') := by
  cases hp : r.1 with
  | none => exact (ref19_New.calls_n M w0 x0 A0 n0 c0 e0 hm0 r hp H0).mono (fun _ _ ⟨v, e, hv, hm⟩ => ⟨v, e, _, hv, hm⟩)
  | some y => exact (ref19_New.calls_s M w0 x0 A0 n0 c0 e0 hm0 r y hp H0).mono (fun _ _ ⟨v, e, bp, Aq_0, cq_0, Aq_1, cq_1, Aq_2, cq_2, hv, hm⟩ => ⟨v, e, _, hv, hm.se [] _ rfl⟩)
end Go.Proofs.Yteaoijahdinciaa
