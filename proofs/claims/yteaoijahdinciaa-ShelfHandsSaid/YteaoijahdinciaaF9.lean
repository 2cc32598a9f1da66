/- Printed by gen.py. -/
import Derived.Test.YteaoijahdinciaaF8
namespace Go.Proofs.Yteaoijahdinciaa
open Go Go.RowKit
set_option linter.unusedSimpArgs false
set_option linter.unusedVariables false
set_option linter.unnecessarySimpa false
/-! ### backstitch/backstitchlaw12.Small -/
noncomputable def law12_Small.l0 (x0 : (List Tensor)) (s25 : Int) : Step Int (Out2 Int Bool) :=
  if s25 < (x0.length : Int) then (if 40 < s25 then (.done (.ret false))
  else (if 0 ≤ s25 ∧ s25 < (x0.length : Int) then (bindS (law3_Small.f (⟨(rd x0 s25).Shape, (rd x0 s25).Data⟩ : Tensor)) fun r44 =>
  if r44 = true then (.next (w64 (s25 + 1)))
  else (.done (.ret false)))
  else .bad))
  else (.done (.go s25))
noncomputable def law12_Small.f (x0 : (List Tensor)) : Option Bool :=
  (loop (law12_Small.l0 x0) 0).bind fun r26 =>
  r26.on (fun yr26 =>
  some true) (fun y => some y)
set_option maxRecDepth 100000 in
set_option maxHeartbeats 4000000 in
theorem law12_Small.calls (M : List (Option Nat)) (w0 : World) (x0 : (List Tensor)) (A0 : Option Addr) (n0 c0 : Nat) (e0 : n0 = x0.length) (hm0 : Mem [] M w0 [.sl kTensor A0 c0 x0] w0) (r : Bool) (H0 : law12_Small.f x0 = some r) :
    Calls Try.prog 15 [.slice A0 n0 c0].toArray w0 (fun x w' => ∃ v, x = .returned v ∧ v = .bool r ∧ Mem [] M w0 [] w') := by
  subst e0
  unfold law12_Small.f at H0
  refine enter (n := 20) Try.func15 rfl rfl (by kernel_rfl) fun a0 (hf0 : Fr 20 a0 [(0, .slice A0 x0.length c0)]) => ?_
  refine wp_seq ?_
  refine rg [] [(0, .slice A0 x0.length c0)] hf0 ot fun a21 hf22 => ?_
  refine thenN ?_
  refine wp_seq ?_
  refine wp_seq ?_
  refine rg [] [(0, .slice A0 x0.length c0), (3, vi 0)] hf22 ot fun a23 hf24 => ?_
  refine thenN ?_
  obtain ⟨r26, hr26, H0⟩ := ob_split H0
  refine wpBlock (Mid := fun (a : Act) (w : World) => ∃ yr26 : Int, r26 = .go yr26 ∧ Fr 20 a [(0, .slice A0 x0.length c0), (3, .int .i64 yr26)] ∧ Mem [] M w0 [.sl kTensor A0 c0 x0] w) ?_ ?_
  · refine wpLoop (law12_Small.l0 x0) r26 (fun (s25 : Int) (a : Act) (w : World) => Fr 20 a [(0, .slice A0 x0.length c0), (3, .int .i64 s25)] ∧ Mem [] M w0 [.sl kTensor A0 c0 x0] w) 0 hr26 ⟨hf24.se [0, 3], hm0.se [0] _ rfl⟩ ?_
    rintro g27 s25 a28 w29 H1 ⟨hf30, hm31⟩
    unfold law12_Small.l0 at H1
    refine wp_seq ?_
    refine wp_seq ?_
    rcases ifS_split H1 with ⟨c32, H1⟩ | ⟨c32, H1⟩
    rotate_left
    · refine rg (ob := [.is (decide (s25 < (x0.length : Int)) = false)]) [.bool false] [(0, .slice A0 x0.length c0), (3, vi s25), (7, .bool false)] hf30 ⟨(decide_eq_false c32), trivial⟩ fun a94 hf95 => ?_
      refine thenN ?_
      refine cF hf95 ?_
      refine wp_exit ?_
      refine thenE ?_
      refine thenE ?_
      obtain rfl := Option.some.inj H1
      exact .inl ⟨rfl, s25, rfl, hf95.se [0, 3], hm31.se [0] _ rfl⟩
    refine rg (ob := [.is (decide (s25 < (x0.length : Int)) = true)]) [.bool true] [(0, .slice A0 x0.length c0), (3, vi s25), (7, .bool true)] hf30 ⟨(decide_eq_true c32), trivial⟩ fun a33 hf34 => ?_
    refine thenN ?_
    refine cT hf34 ?_
    refine wp_skip ?_
    refine thenN ?_
    refine wp_seq ?_
    refine wp_block ?_
    refine wp_seq ?_
    rcases ifS_split H1 with ⟨c35, H1⟩ | ⟨c35, H1⟩
    · refine rg (ob := [.is (decide (40 < s25) = true)]) [.bool true] [(0, .slice A0 x0.length c0), (3, vi s25), (19, .bool true)] hf34 ⟨(decide_eq_true c35), trivial⟩ fun a36 hf37 => ?_
      refine thenN ?_
      refine cT hf37 ?_
      refine wp_seq ?_
      refine rg [] [(2, .bool false)] hf37 ot fun a38 hf39 => ?_
      have hm40 := hm31.se [] _ rfl
      refine thenN ?_
      refine wp_ret ?_
      refine blkR ?_
      refine thenR ?_
      refine thenR ?_
      refine .inr ⟨rfl, ?_⟩
      refine thenR ?_
      have hm41 : Mem [] M w0 [] w29 := hm40.se [] _ rfl
      obtain rfl := Option.some.inj H1
      obtain rfl := Option.some.inj H0
      refine rt [] [.bool false] hf39 ot ?_
      exact ⟨_, rfl, rfl, hm41⟩
    obtain ⟨g43, H1⟩ := ifS_guard H1
    obtain ⟨r44, hr44, H1⟩ := obS_split H1
    rcases ifbS_split H1 with ⟨c45, H1⟩ | ⟨c45, H1⟩
    · have q46 := (hm31.slAt 0 rfl).get s25 g43.1 g43.2
      obtain ⟨us47, hr48, hc49⟩ := q46.2
      obtain ⟨A50, c51, A52, c53, rfl, ⟨pA50, sA50⟩, ⟨pA52, sA52⟩⟩ := kTensor.open hr48
      have hm54 := hm31.elem pA50 sA50
      have hm55 := hm54.elem pA52 sA52
      refine inReg ?_
      refine gg (ob := [.is (decide (40 < s25) = false), .is (Option.isSome A0 = true), .is (0 ≤ s25 ∧ s25 < (x0.length : Int)), .cell ((ad A0).add ((s25).toNat * 2)) (.slice A50 (rd x0 s25).Shape.length c51), .cell (((ad A0).add ((s25).toNat * 2)).add 1) (.slice A52 (rd x0 s25).Data.length c53)]) 7 [.bool false, .agg #[.slice A50 (rd x0 s25).Shape.length c51, .slice A52 (rd x0 s25).Data.length c53]] [(0, .slice A0 x0.length c0), (3, vi s25), (12, .bool false), (16, .agg #[.slice A50 (rd x0 s25).Shape.length c51, .slice A52 (rd x0 s25).Data.length c53])] hf34 ⟨(decide_eq_false c35), q46.1, g43, (hc49 0 _ rfl), (hc49 1 _ rfl), trivial⟩ fun a56 hf57 => ?_
      refine lo hf57 rfl (cl 17 hf57 callable20 (law3_Small.calls _ _ _ _ _ _ rfl _ _ _ rfl (hm55.give [1, 0] [.sl (Kd.int .i64) A50 c51 (rd x0 s25).Shape, .sl Kd.float A52 c53 (rd x0 s25).Data] rfl rfl) r44 hr44) ?_)
      rintro _ w58 a59 ⟨rfl, hk61⟩ hf60
      have hm62 := hm55.still hk61.cum.none
      rw [c45] at hf60
      refine gg 2 [] [(0, .slice A0 x0.length c0), (3, vi s25), (19, .bool false)] hf60 ot fun a63 hf65 => ?_
      refine endL rfl ?_
      have hm66 := hm62.se [2] _ rfl
      refine thenN ?_
      refine cF hf65 ?_
      refine wp_skip ?_
      refine blkN ?_
      refine thenN ?_
      refine rg [] [(0, .slice A0 x0.length c0), (3, vi (w64 (s25 + 1)))] hf65 ot fun a67 hf68 => ?_
      exact ⟨(w64 (s25 + 1)), H1, hf68.se [0, 3], hm66.se [0] _ rfl⟩
    have q69 := (hm31.slAt 0 rfl).get s25 g43.1 g43.2
    obtain ⟨us70, hr71, hc72⟩ := q69.2
    obtain ⟨A73, c74, A75, c76, rfl, ⟨pA73, sA73⟩, ⟨pA75, sA75⟩⟩ := kTensor.open hr71
    have hm77 := hm31.elem pA73 sA73
    have hm78 := hm77.elem pA75 sA75
    refine inReg ?_
    refine gg (ob := [.is (decide (40 < s25) = false), .is (Option.isSome A0 = true), .is (0 ≤ s25 ∧ s25 < (x0.length : Int)), .cell ((ad A0).add ((s25).toNat * 2)) (.slice A73 (rd x0 s25).Shape.length c74), .cell (((ad A0).add ((s25).toNat * 2)).add 1) (.slice A75 (rd x0 s25).Data.length c76)]) 7 [.bool false, .agg #[.slice A73 (rd x0 s25).Shape.length c74, .slice A75 (rd x0 s25).Data.length c76]] [(0, .slice A0 x0.length c0), (3, vi s25), (12, .bool false), (16, .agg #[.slice A73 (rd x0 s25).Shape.length c74, .slice A75 (rd x0 s25).Data.length c76])] hf34 ⟨(decide_eq_false c35), q69.1, g43, (hc72 0 _ rfl), (hc72 1 _ rfl), trivial⟩ fun a79 hf80 => ?_
    refine lo hf80 rfl (cl 17 hf80 callable20 (law3_Small.calls _ _ _ _ _ _ rfl _ _ _ rfl (hm78.give [1, 0] [.sl (Kd.int .i64) A73 c74 (rd x0 s25).Shape, .sl Kd.float A75 c76 (rd x0 s25).Data] rfl rfl) r44 hr44) ?_)
    rintro _ w81 a82 ⟨rfl, hk84⟩ hf83
    have hm85 := hm78.still hk84.cum.none
    rw [c45] at hf83
    refine gg 2 [] [(0, .slice A0 x0.length c0), (3, vi s25), (19, .bool true)] hf83 ot fun a86 hf87 => ?_
    refine endL rfl ?_
    have hm88 := hm85.se [2] _ rfl
    refine thenN ?_
    refine cT hf87 ?_
    refine wp_seq ?_
    refine rg [] [(2, .bool false)] hf87 ot fun a89 hf90 => ?_
    have hm91 := hm88.se [] _ rfl
    refine thenN ?_
    refine wp_ret ?_
    refine blkR ?_
    refine thenR ?_
    refine thenR ?_
    refine .inr ⟨rfl, ?_⟩
    refine thenR ?_
    have hm92 : Mem [] M w0 [] w81 := hm91.se [] _ rfl
    obtain rfl := Option.some.inj H1
    obtain rfl := Option.some.inj H0
    refine rt [] [.bool false] hf90 ot ?_
    exact ⟨_, rfl, rfl, hm92⟩
  rintro a96 w97 ⟨yr26, rfl, hf98, hm99⟩
  refine thenN ?_
  refine wp_seq ?_
  refine rg [] [(2, .bool true)] hf98 ot fun a100 hf101 => ?_
  have hm102 := hm99.se [] _ rfl
  refine thenN ?_
  refine wp_ret ?_
  have hm103 : Mem [] M w0 [] w97 := hm102.se [] _ rfl
  obtain rfl := Option.some.inj H0
  refine rt [] [.bool true] hf101 ot ?_
  exact ⟨_, rfl, rfl, hm103⟩

/-! ### backstitch/backstitchref1.Size -/
noncomputable def ref1_Size.l0 (x0 : (List Int)) (s35 : Int) : Step Int (Out2 Int (Int × Int)) :=
  if s35 < (x0.length : Int) then (if 0 ≤ s35 ∧ s35 < (x0.length : Int) then (if (rd x0 s35) < 1 then (.done (.ret (0, 2)))
  else (.next (w64 (s35 + 1))))
  else .bad)
  else (.done (.go s35))
noncomputable def ref1_Size.l1 (x0 : (List Int)) (s71 : (Int × Int)) : Step (Int × Int) (Out2 (Int × Int) (Int × Int)) :=
  if s71.2 < (x0.length : Int) then (if 0 ≤ s71.2 ∧ s71.2 < (x0.length : Int) then (if s71.1 ≠ 0 then (if (w64 (Int.tdiv 4096 s71.1)) < (rd x0 s71.2) then (.done (.ret (0, 3)))
  else (.next ((w64 (s71.1 * (rd x0 s71.2))), (w64 (s71.2 + 1)))))
  else .bad)
  else .bad)
  else (.done (.go (s71.1, s71.2)))
noncomputable def ref1_Size.f (x0 : (List Int)) : Option (Int × Int) :=
  if 4 < (x0.length : Int) then (some (0, 2))
  else ((loop (ref1_Size.l0 x0) 0).bind fun r36 =>
  r36.on (fun yr36 =>
  (loop (ref1_Size.l1 x0) (1, 0)).bind fun r72 =>
  r72.on (fun yr72 =>
  some (yr72.1, 0)) (fun y => some y)) (fun y => some y))
set_option maxRecDepth 100000 in
set_option maxHeartbeats 4000000 in
theorem ref1_Size.calls (M : List (Option Nat)) (w0 : World) (x0 : (List Int)) (A0 : Option Addr) (n0 c0 : Nat) (e0 : n0 = x0.length) (hm0 : Mem [] M w0 [.sl (Kd.int .i64) A0 c0 x0] w0) (r : (Int × Int)) (H0 : ref1_Size.f x0 = some r) :
    Calls Try.prog 40 [.slice A0 n0 c0].toArray w0 (fun x w' => ∃ v, x = .returned v ∧ v = .tuple #[.int .i64 r.1, .int .i64 r.2] ∧ Mem [] M w0 [] w') := by
  subst e0
  unfold ref1_Size.f at H0
  refine enter (n := 41) Try.func40 rfl rfl (by kernel_rfl) fun a0 (hf0 : Fr 41 a0 [(0, .slice A0 x0.length c0)]) => ?_
  refine wp_seq ?_
  refine rg [] [(0, .slice A0 x0.length c0)] hf0 ot fun a21 hf22 => ?_
  refine thenN ?_
  refine wp_seq ?_
  refine wp_seq ?_
  rcases if_split H0 with ⟨c23, H0⟩ | ⟨c23, H0⟩
  · refine rg (ob := [.is (decide (4 < (x0.length : Int)) = true)]) [.bool true] [(0, .slice A0 x0.length c0), (9, .bool true)] hf22 ⟨(decide_eq_true c23), trivial⟩ fun a24 hf25 => ?_
    refine thenN ?_
    refine cT hf25 ?_
    refine wp_seq ?_
    refine rg [] [(2, vi 0), (3, vi 2)] hf25 ot fun a26 hf27 => ?_
    have hm28 := hm0.se [] _ rfl
    refine thenN ?_
    refine wp_ret ?_
    refine thenR ?_
    have hm29 : Mem [] M w0 [] w0 := hm28.se [] _ rfl
    obtain rfl := Option.some.inj H0
    refine rt [] [.int .i64 0, .int .i64 2] hf27 ot ?_
    exact ⟨_, rfl, rfl, hm29⟩
  refine rg (ob := [.is (decide (4 < (x0.length : Int)) = false)]) [.bool false] [(0, .slice A0 x0.length c0), (9, .bool false)] hf22 ⟨(decide_eq_false c23), trivial⟩ fun a31 hf32 => ?_
  refine thenN ?_
  refine cF hf32 ?_
  refine wp_skip ?_
  refine thenN ?_
  refine wp_seq ?_
  refine wp_seq ?_
  refine rg [] [(0, .slice A0 x0.length c0), (4, vi 0)] hf32 ot fun a33 hf34 => ?_
  refine thenN ?_
  obtain ⟨r36, hr36, H0⟩ := ob_split H0
  refine wpBlock (Mid := fun (a : Act) (w : World) => ∃ yr36 : Int, r36 = .go yr36 ∧ Fr 41 a [(0, .slice A0 x0.length c0), (4, .int .i64 yr36)] ∧ Mem [] M w0 [.sl (Kd.int .i64) A0 c0 x0] w) ?_ ?_
  · refine wpLoop (ref1_Size.l0 x0) r36 (fun (s35 : Int) (a : Act) (w : World) => Fr 41 a [(0, .slice A0 x0.length c0), (4, .int .i64 s35)] ∧ Mem [] M w0 [.sl (Kd.int .i64) A0 c0 x0] w) 0 hr36 ⟨hf34.se [0, 4], hm0.se [0] _ rfl⟩ ?_
    rintro g37 s35 a38 w39 H1 ⟨hf40, hm41⟩
    unfold ref1_Size.l0 at H1
    refine wp_seq ?_
    refine wp_seq ?_
    rcases ifS_split H1 with ⟨c42, H1⟩ | ⟨c42, H1⟩
    rotate_left
    · refine rg (ob := [.is (decide (s35 < (x0.length : Int)) = false)]) [.bool false] [(0, .slice A0 x0.length c0), (4, vi s35), (13, .bool false)] hf40 ⟨(decide_eq_false c42), trivial⟩ fun a60 hf61 => ?_
      refine thenN ?_
      refine cF hf61 ?_
      refine wp_exit ?_
      refine thenE ?_
      refine thenE ?_
      obtain rfl := Option.some.inj H1
      exact .inl ⟨rfl, s35, rfl, hf61.se [0, 4], hm41.se [0] _ rfl⟩
    refine rg (ob := [.is (decide (s35 < (x0.length : Int)) = true)]) [.bool true] [(0, .slice A0 x0.length c0), (4, vi s35), (13, .bool true)] hf40 ⟨(decide_eq_true c42), trivial⟩ fun a43 hf44 => ?_
    refine thenN ?_
    refine cT hf44 ?_
    refine wp_skip ?_
    refine thenN ?_
    refine wp_seq ?_
    refine wp_block ?_
    refine wp_seq ?_
    obtain ⟨g45, H1⟩ := ifS_guard H1
    rcases ifS_split H1 with ⟨c46, H1⟩ | ⟨c46, H1⟩
    rotate_left
    · have q55 := (hm41.slAt 0 rfl).int s35 g45.1 g45.2
      refine rg (ob := [.is (Option.isSome A0 = true), .is (0 ≤ s35 ∧ s35 < (x0.length : Int)), .cell ((ad A0).add ((s35).toNat * 1)) (.int .i64 (rd x0 s35)), .is (decide ((rd x0 s35) < 1) = false)]) [.int .i64 (rd x0 s35), .bool false] [(0, .slice A0 x0.length c0), (4, vi s35), (20, .bool false)] hf44 ⟨q55.1, g45, q55.2, (decide_eq_false c46), trivial⟩ fun a56 hf57 => ?_
      refine thenN ?_
      refine cF hf57 ?_
      refine wp_skip ?_
      refine blkN ?_
      refine thenN ?_
      refine rg [] [(0, .slice A0 x0.length c0), (4, vi (w64 (s35 + 1)))] hf57 ot fun a58 hf59 => ?_
      exact ⟨(w64 (s35 + 1)), H1, hf59.se [0, 4], hm41.se [0] _ rfl⟩
    have q47 := (hm41.slAt 0 rfl).int s35 g45.1 g45.2
    refine rg (ob := [.is (Option.isSome A0 = true), .is (0 ≤ s35 ∧ s35 < (x0.length : Int)), .cell ((ad A0).add ((s35).toNat * 1)) (.int .i64 (rd x0 s35)), .is (decide ((rd x0 s35) < 1) = true)]) [.int .i64 (rd x0 s35), .bool true] [(0, .slice A0 x0.length c0), (4, vi s35), (20, .bool true)] hf44 ⟨q47.1, g45, q47.2, (decide_eq_true c46), trivial⟩ fun a48 hf49 => ?_
    refine thenN ?_
    refine cT hf49 ?_
    refine wp_seq ?_
    refine rg [] [(2, vi 0), (3, vi 2)] hf49 ot fun a50 hf51 => ?_
    have hm52 := hm41.se [] _ rfl
    refine thenN ?_
    refine wp_ret ?_
    refine blkR ?_
    refine thenR ?_
    refine thenR ?_
    refine .inr ⟨rfl, ?_⟩
    refine thenR ?_
    have hm53 : Mem [] M w0 [] w39 := hm52.se [] _ rfl
    obtain rfl := Option.some.inj H1
    obtain rfl := Option.some.inj H0
    refine rt [] [.int .i64 0, .int .i64 2] hf51 ot ?_
    exact ⟨_, rfl, rfl, hm53⟩
  rintro a62 w63 ⟨yr36, rfl, hf65, hm66⟩
  refine thenN ?_
  refine wp_seq ?_
  refine rg [] [(0, .slice A0 x0.length c0), (5, vi 1)] hf65 ot fun a67 hf68 => ?_
  refine thenN ?_
  refine wp_seq ?_
  refine wp_seq ?_
  refine rg [] [(0, .slice A0 x0.length c0), (5, vi 1), (6, vi 0)] hf68 ot fun a69 hf70 => ?_
  refine thenN ?_
  obtain ⟨r72, hr72, H0⟩ := ob_split H0
  refine wpBlock (Mid := fun (a : Act) (w : World) => ∃ yr72 : (Int × Int), r72 = .go yr72 ∧ Fr 41 a [(0, .slice A0 x0.length c0), (5, .int .i64 yr72.1), (6, .int .i64 yr72.2)] ∧ Mem [] M w0 [.sl (Kd.int .i64) A0 c0 x0] w) ?_ ?_
  · refine wpLoop (ref1_Size.l1 x0) r72 (fun (s71 : (Int × Int)) (a : Act) (w : World) => Fr 41 a [(0, .slice A0 x0.length c0), (5, .int .i64 s71.1), (6, .int .i64 s71.2)] ∧ Mem [] M w0 [.sl (Kd.int .i64) A0 c0 x0] w) (1, 0) hr72 ⟨hf70.se [0, 5, 6], hm66.se [0] _ rfl⟩ ?_
    rintro g73 s71 a74 w75 H1 ⟨hf76, hm77⟩
    unfold ref1_Size.l1 at H1
    refine wp_seq ?_
    refine wp_seq ?_
    rcases ifS_split H1 with ⟨c78, H1⟩ | ⟨c78, H1⟩
    rotate_left
    · refine rg (ob := [.is (decide (s71.2 < (x0.length : Int)) = false)]) [.bool false] [(0, .slice A0 x0.length c0), (5, vi s71.1), (6, vi s71.2), (24, .bool false)] hf76 ⟨(decide_eq_false c78), trivial⟩ fun a106 hf107 => ?_
      refine thenN ?_
      refine cF hf107 ?_
      refine wp_exit ?_
      refine thenE ?_
      refine thenE ?_
      obtain rfl := Option.some.inj H1
      exact .inl ⟨rfl, (s71.1, s71.2), rfl, hf107.se [0, 5, 6], hm77.se [0] _ rfl⟩
    refine rg (ob := [.is (decide (s71.2 < (x0.length : Int)) = true)]) [.bool true] [(0, .slice A0 x0.length c0), (5, vi s71.1), (6, vi s71.2), (24, .bool true)] hf76 ⟨(decide_eq_true c78), trivial⟩ fun a79 hf80 => ?_
    refine thenN ?_
    refine cT hf80 ?_
    refine wp_skip ?_
    refine thenN ?_
    refine wp_seq ?_
    refine wp_block ?_
    refine wp_seq ?_
    refine wp_seq ?_
    obtain ⟨g81, H1⟩ := ifS_guard H1
    obtain ⟨g82, H1⟩ := ifS_guard H1
    rcases ifS_split H1 with ⟨c83, H1⟩ | ⟨c83, H1⟩
    rotate_left
    · have q95 := (hm77.slAt 0 rfl).int s71.2 g81.1 g81.2
      refine rq (ob := [.is (Option.isSome A0 = true), .is (0 ≤ s71.2 ∧ s71.2 < (x0.length : Int)), .cell ((ad A0).add ((s71.2).toNat * 1)) (.int .i64 (rd x0 s71.2)), .is (s71.1 ≠ 0), .is (decide ((w64 (Int.tdiv 4096 s71.1)) < (rd x0 s71.2)) = false)]) [.int .i64 (rd x0 s71.2), .bool false] [(0, .slice A0 x0.length c0), (5, vi s71.1), (6, vi s71.2), (33, .bool false)] hf80 ⟨q95.1, g81, q95.2, g82, (decide_eq_false c83), trivial⟩ fun a96 w98 hf97 hg99 => ?_
      have hm100 := hm77.still hg99
      refine thenN ?_
      refine cF hf97 ?_
      refine wp_skip ?_
      refine thenN ?_
      have q101 := (hm100.slAt 0 rfl).int s71.2 g81.1 g81.2
      refine rg [.int .i64 (rd x0 s71.2)] [(0, .slice A0 x0.length c0), (5, vi (w64 (s71.1 * (rd x0 s71.2)))), (6, vi s71.2)] hf97 (oi q101.1 (oi g81 (oc q101.2 ot))) fun a102 hf103 => ?_
      refine blkN ?_
      refine thenN ?_
      refine rg [] [(0, .slice A0 x0.length c0), (5, vi (w64 (s71.1 * (rd x0 s71.2)))), (6, vi (w64 (s71.2 + 1)))] hf103 ot fun a104 hf105 => ?_
      exact ⟨((w64 (s71.1 * (rd x0 s71.2))), (w64 (s71.2 + 1))), H1, hf105.se [0, 5, 6], hm100.se [0] _ rfl⟩
    have q84 := (hm77.slAt 0 rfl).int s71.2 g81.1 g81.2
    refine rq (ob := [.is (Option.isSome A0 = true), .is (0 ≤ s71.2 ∧ s71.2 < (x0.length : Int)), .cell ((ad A0).add ((s71.2).toNat * 1)) (.int .i64 (rd x0 s71.2)), .is (s71.1 ≠ 0), .is (decide ((w64 (Int.tdiv 4096 s71.1)) < (rd x0 s71.2)) = true)]) [.int .i64 (rd x0 s71.2), .bool true] [(0, .slice A0 x0.length c0), (5, vi s71.1), (6, vi s71.2), (33, .bool true)] hf80 ⟨q84.1, g81, q84.2, g82, (decide_eq_true c83), trivial⟩ fun a85 w87 hf86 hg88 => ?_
    have hm89 := hm77.still hg88
    refine thenN ?_
    refine cT hf86 ?_
    refine wp_seq ?_
    refine rg [] [(2, vi 0), (3, vi 3)] hf86 ot fun a90 hf91 => ?_
    have hm92 := hm89.se [] _ rfl
    refine thenN ?_
    refine wp_ret ?_
    refine thenR ?_
    refine blkR ?_
    refine thenR ?_
    refine thenR ?_
    refine .inr ⟨rfl, ?_⟩
    refine thenR ?_
    have hm93 : Mem [] M w0 [] w87 := hm92.se [] _ rfl
    obtain rfl := Option.some.inj H1
    obtain rfl := Option.some.inj H0
    refine rt [] [.int .i64 0, .int .i64 3] hf91 ot ?_
    exact ⟨_, rfl, rfl, hm93⟩
  rintro a108 w109 ⟨yr72, rfl, hf110, hm111⟩
  refine thenN ?_
  refine wp_seq ?_
  refine rg [] [(2, vi yr72.1), (3, vi 0)] hf110 ot fun a112 hf113 => ?_
  have hm114 := hm111.se [] _ rfl
  refine thenN ?_
  refine wp_ret ?_
  have hm115 : Mem [] M w0 [] w109 := hm114.se [] _ rfl
  obtain rfl := Option.some.inj H0
  refine rt [] [.int .i64 yr72.1, .int .i64 0] hf113 ot ?_
  exact ⟨_, rfl, rfl, hm115⟩

/-! ### backstitch/backstitchref1.TensorMay -/
noncomputable def ref1_TensorMay.f (x0 : Tensor) : Option Bool :=
  (ref1_Size.f x0.Shape).bind fun r30 =>
  if r30.2 = 0 then (if r30.1 = (x0.Data.length : Int) then (some true)
  else (some false))
  else (some false)
set_option maxRecDepth 100000 in
set_option maxHeartbeats 4000000 in
theorem ref1_TensorMay.calls (M : List (Option Nat)) (w0 : World) (x0 : Tensor) (A0_0 : Option Addr) (n0_0 c0_0 : Nat) (e0_0 : n0_0 = x0.Shape.length) (A0_1 : Option Addr) (n0_1 c0_1 : Nat) (e0_1 : n0_1 = x0.Data.length) (hm0 : Mem [] M w0 [.sl (Kd.int .i64) A0_0 c0_0 x0.Shape, .sl Kd.float A0_1 c0_1 x0.Data] w0) (r : Bool) (H0 : ref1_TensorMay.f x0 = some r) :
    Calls Try.prog 21 [.agg #[.slice A0_0 n0_0 c0_0, .slice A0_1 n0_1 c0_1]].toArray w0 (fun x w' => ∃ v, x = .returned v ∧ v = .bool r ∧ Mem [] M w0 [] w') := by
  subst e0_0
  subst e0_1
  unfold ref1_TensorMay.f at H0
  refine enter (n := 20) Try.func21 rfl rfl (by kernel_rfl) fun a0 (hf0 : Fr 20 a0 [(0, .agg #[.slice A0_0 x0.Shape.length c0_0, .slice A0_1 x0.Data.length c0_1])]) => ?_
  refine wp_seq ?_
  refine inReg ?_
  refine lo hf0 rfl (nw (cs := [.slice A0_0 x0.Shape.length c0_0, .slice A0_1 x0.Data.length c0_1]) (T := 29) (d := 1) hf0 ?_)
  intro b21 w22 a23 hbb21 hx25 hg26 hf24
  have hm27 := hm0.box hbb21 hx25 hg26
  refine gg 1 [] [(1, vp b21)] hf24 ot fun a28 hf29 => ?_
  refine endL rfl ?_
  refine thenN ?_
  refine wp_seq ?_
  obtain ⟨r30, hr30, H0⟩ := ob_split H0
  refine inReg ?_
  refine gg 2 [.slice A0_0 x0.Shape.length c0_0] [(1, vp b21), (7, .slice A0_0 x0.Shape.length c0_0)] hf29 (oc (hm27.cell (j := 0) 0 rfl rfl) ot) fun a31 hf32 => ?_
  refine lo hf32 rfl (cl 8 hf32 callable40 (ref1_Size.calls _ _ _ _ _ _ rfl (hm27.give [1] [.sl (Kd.int .i64) A0_0 c0_0 x0.Shape] rfl rfl) r30 hr30) ?_)
  rintro _ w33 a34 ⟨rfl, hk36⟩ hf35
  have hm37 := hm27.still hk36.cum.none
  refine gg 5 [] [(1, vp b21), (3, vi r30.1), (4, vi r30.2)] hf35 ot fun a38 hf39 => ?_
  refine endL rfl ?_
  refine thenN ?_
  refine wp_seq ?_
  rcases if_split H0 with ⟨c40, H0⟩ | ⟨c40, H0⟩
  rotate_left
  · refine rg [.bool false] [(2, .bool false)] hf39 (oi (eqF c40) ot) fun a52 hf53 => ?_
    have hm54 := hm37.se [] _ rfl
    refine thenN ?_
    refine wp_ret ?_
    have hm55 : Mem [] M w0 [] w33 := hm54.se [] _ rfl
    obtain rfl := Option.some.inj H0
    refine rt [] [.bool false] hf53 ot ?_
    exact ⟨_, rfl, rfl, hm55⟩
  rcases if_split H0 with ⟨c41, H0⟩ | ⟨c41, H0⟩
  · refine rg [.bool true, .slice A0_1 x0.Data.length c0_1, .bool true] [(2, .bool true)] hf39 (oi (eqT c40) (oc (hm37.cell (j := 1) 0 rfl rfl) (oi (eqT c41) ot))) fun a42 hf43 => ?_
    have hm44 := hm37.se [] _ rfl
    refine thenN ?_
    refine wp_ret ?_
    have hm45 : Mem [] M w0 [] w33 := hm44.se [] _ rfl
    obtain rfl := Option.some.inj H0
    refine rt [] [.bool true] hf43 ot ?_
    exact ⟨_, rfl, rfl, hm45⟩
  refine rg [.bool true, .slice A0_1 x0.Data.length c0_1, .bool false] [(2, .bool false)] hf39 (oi (eqT c40) (oc (hm37.cell (j := 1) 0 rfl rfl) (oi (eqF c41) ot))) fun a47 hf48 => ?_
  have hm49 := hm37.se [] _ rfl
  refine thenN ?_
  refine wp_ret ?_
  have hm50 : Mem [] M w0 [] w33 := hm49.se [] _ rfl
  obtain rfl := Option.some.inj H0
  refine rt [] [.bool false] hf48 ot ?_
  exact ⟨_, rfl, rfl, hm50⟩
end Go.Proofs.Yteaoijahdinciaa
