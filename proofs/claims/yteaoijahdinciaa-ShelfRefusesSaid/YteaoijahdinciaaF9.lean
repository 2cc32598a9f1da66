/- Printed by gen.py. -/
import Derived.Test.YteaoijahdinciaaF8
namespace Go.Proofs.Yteaoijahdinciaa
open Go Go.RowKit
set_option linter.unusedSimpArgs false
set_option linter.unusedVariables false
set_option linter.unnecessarySimpa false
/-! ### backstitch/backstitchlaw12.Small -/
noncomputable def law12_Small.l0 (x0 : (List Tensor)) (s25 : Int) : Step Int (Out2 Int Bool) :=
  if s25 < (x0.length : Int) then (if 40 < s25 then (.done (.ret false))
  else (if 0 ≤ s25 ∧ s25 < (x0.length : Int) then (bindS (law3_Small.f (⟨((rd x0 s25).Shape), ((rd x0 s25).Data)⟩ : Tensor)) fun r44 =>
  if r44 = true then (.next (w64 (s25 + 1)))
  else (.done (.ret false)))
  else .bad))
  else (.done (.go s25))
noncomputable def law12_Small.f (x0 : (List Tensor)) : Option Bool :=
  (loop (law12_Small.l0 x0) 0).bind fun r26 =>
  r26.on (fun yr26 =>
  some true) (fun y => some y)
set_option maxRecDepth 100000 in
set_option maxHeartbeats 4000000 in
theorem law12_Small.calls (M : List (Option Nat)) (w0 : World) (x0 : (List Tensor)) (A0 : Option Addr) (n0 c0 : Nat) (e0 : n0 = x0.length) (hm0 : Mem [] M w0 [.sl kTensor A0 c0 x0] w0) (r : Bool) (H0 : law12_Small.f x0 = some r) :
    Calls Try.prog 15 [.slice A0 n0 c0].toArray w0 (fun x w' => ∃ v, x = .returned v ∧ v = .bool r ∧ Mem [] M w0 [] w') := by
  subst e0
  unfold law12_Small.f at H0
  refine enter (n := 20) Try.func15 rfl rfl (by kernel_rfl) fun a0 (hf0 : Fr 20 a0 [(0, .slice A0 x0.length c0)]) => ?_
  refine wp_seq ?_
  refine reg [] [0] [(0, .slice A0 x0.length c0)] [] hf0 (by kernel_rfl) trivial fun a21 hf22 => ?_
  refine thenN ?_
  refine wp_seq ?_
  refine wp_seq ?_
  refine reg [] [0, 3] [(0, .slice A0 x0.length c0), (3, .int .i64 0)] [] hf22 (by kernel_rfl) trivial fun a23 hf24 => ?_
  refine thenN ?_
  obtain ⟨r26, hr26, H0⟩ := ob_split H0
  refine wpBlock (Mid := fun (a : Act) (w : World) => ∃ yr26 : Int, r26 = .go yr26 ∧ Fr 20 a [(0, .slice A0 x0.length c0), (3, .int .i64 yr26)] ∧ Mem [] M w0 [.sl kTensor A0 c0 x0] w) ?_ ?_
  · refine wpLoop (law12_Small.l0 x0) r26 (fun (s25 : Int) (a : Act) (w : World) => Fr 20 a [(0, .slice A0 x0.length c0), (3, .int .i64 s25)] ∧ Mem [] M w0 [.sl kTensor A0 c0 x0] w) 0 hr26 ⟨hf24.sel (l := [0, 3]) (by kernel_rfl), hm0.sel [0] _ rfl (by kernel_rfl)⟩ ?_
    rintro g27 s25 a28 w29 H1 ⟨hf30, hm31⟩
    unfold law12_Small.l0 at H1
    refine wp_seq ?_
    refine wp_seq ?_
    rcases ifS_split H1 with ⟨c32, H1⟩ | ⟨c32, H1⟩
    rotate_left
    · refine reg [.bool false] [0, 3, 7] [(0, .slice A0 x0.length c0), (3, .int .i64 s25), (7, .bool false)] [.is (decide (s25 < (x0.length : Int)) = false)] hf30 (by kernel_rfl) ⟨(decide_eq_false c32), trivial⟩ fun a94 hf95 => ?_
      refine thenN ?_
      refine condF hf95 (by kernel_rfl) ?_
      refine wp_exit ?_
      refine thenE ?_
      refine thenE ?_
      obtain rfl := Option.some.inj H1
      exact .inl ⟨rfl, s25, rfl, hf95.sel (l := [0, 3]) (by kernel_rfl), hm31.sel [0] _ rfl (by kernel_rfl)⟩
    refine reg [.bool true] [0, 3, 7] [(0, .slice A0 x0.length c0), (3, .int .i64 s25), (7, .bool true)] [.is (decide (s25 < (x0.length : Int)) = true)] hf30 (by kernel_rfl) ⟨(decide_eq_true c32), trivial⟩ fun a33 hf34 => ?_
    refine thenN ?_
    refine condT hf34 (by kernel_rfl) ?_
    refine wp_skip ?_
    refine thenN ?_
    refine wp_seq ?_
    refine wp_block ?_
    refine wp_seq ?_
    rcases ifS_split H1 with ⟨c35, H1⟩ | ⟨c35, H1⟩
    · refine reg [.bool true] [0, 3, 19] [(0, .slice A0 x0.length c0), (3, .int .i64 s25), (19, .bool true)] [.is (decide (40 < s25) = true)] hf34 (by kernel_rfl) ⟨(decide_eq_true c35), trivial⟩ fun a36 hf37 => ?_
      refine thenN ?_
      refine condT hf37 (by kernel_rfl) ?_
      refine wp_seq ?_
      refine reg [] [2] [(2, .bool false)] [] hf37 (by kernel_rfl) trivial fun a38 hf39 => ?_
      have hm40 := hm31.sel [] _ rfl (by kernel_rfl)
      refine thenN ?_
      refine wp_ret ?_
      refine blkR ?_
      refine thenR ?_
      refine thenR ?_
      refine .inr ⟨rfl, ?_⟩
      refine thenR ?_
      have hm41 : Mem [] M w0 [] w29 := hm40.sel [] _ rfl (by kernel_rfl)
      obtain rfl := Option.some.inj H1
      obtain rfl := Option.some.inj H0
      refine ret [] [.bool false] [] hf39 (by kernel_rfl) trivial ?_
      exact ⟨_, rfl, rfl, hm41⟩
    obtain ⟨g43, H1⟩ := ifS_guard H1
    obtain ⟨r44, hr44, H1⟩ := obS_split H1
    rcases ifbS_split H1 with ⟨c45, H1⟩ | ⟨c45, H1⟩
    · have q46 := (hm31.slAt 0 rfl).get s25 g43.1 g43.2
      obtain ⟨us47, hr48, hc49⟩ := q46.2
      obtain ⟨A50, c51, A52, c53, rfl, ⟨pA50, sA50⟩, ⟨pA52, sA52⟩⟩ := kTensor.open hr48
      have hm54 := hm31.elem pA50 sA50
      have hm55 := hm54.elem pA52 sA52
      refine inReg ?_
      refine go 7 [.bool false, .agg #[.slice A50 (((rd x0 s25).Shape).length) c51, .slice A52 (((rd x0 s25).Data).length) c53]] [0, 3, 12, 16] [(0, .slice A0 x0.length c0), (3, .int .i64 s25), (12, .bool false), (16, .agg #[.slice A50 (((rd x0 s25).Shape).length) c51, .slice A52 (((rd x0 s25).Data).length) c53])] [.is (decide (40 < s25) = false), .is (Option.isSome A0 = true), .is (0 ≤ s25 ∧ s25 < (x0.length : Int)), .cell ((ad A0).add ((s25).toNat * 2)) (.slice A50 (((rd x0 s25).Shape).length) c51), .cell (((ad A0).add ((s25).toNat * 2)).add 1) (.slice A52 (((rd x0 s25).Data).length) c53)] hf34 (by kernel_rfl) ⟨(decide_eq_false c35), q46.1, g43, (hc49 0 _ rfl), (hc49 1 _ rfl), trivial⟩ fun a56 hf57 => ?_
      refine listOf hf57 rfl (by kernel_rfl) (aCall (fid := 20) (args := [.agg #[.slice A50 (((rd x0 s25).Shape).length) c51, .slice A52 (((rd x0 s25).Data).length) c53]]) (d := 17) hf57 (by kernel_rfl) (by kernel_rfl) callable20 (law3_Small.calls _ _ (⟨((rd x0 s25).Shape), ((rd x0 s25).Data)⟩ : Tensor) A50 (((rd x0 s25).Shape).length) c51 rfl A52 (((rd x0 s25).Data).length) c53 rfl (hm55.give [1, 0] [.sl (Kd.int .i64) A50 c51 ((rd x0 s25).Shape), .sl Kd.float A52 c53 ((rd x0 s25).Data)] rfl rfl) r44 hr44) ?_)
      rintro _ w58 a59 ⟨rfl, hk61⟩ hf60
      have hm62 := hm55.still hk61.cum.none
      rw [c45] at hf60
      refine go 2 [] [0, 3, 19] [(0, .slice A0 x0.length c0), (3, .int .i64 s25), (19, .bool false)] [] hf60 (by kernel_rfl) trivial fun a63 hf65 => ?_
      refine endL rfl ?_
      have hm66 := hm62.sel [2] _ rfl (by kernel_rfl)
      refine thenN ?_
      refine condF hf65 (by kernel_rfl) ?_
      refine wp_skip ?_
      refine blkN ?_
      refine thenN ?_
      refine reg [] [0, 3] [(0, .slice A0 x0.length c0), (3, .int .i64 (w64 (s25 + 1)))] [] hf65 (by kernel_rfl) trivial fun a67 hf68 => ?_
      exact ⟨(w64 (s25 + 1)), H1, hf68.sel (l := [0, 3]) (by kernel_rfl), hm66.sel [0] _ rfl (by kernel_rfl)⟩
    have q69 := (hm31.slAt 0 rfl).get s25 g43.1 g43.2
    obtain ⟨us70, hr71, hc72⟩ := q69.2
    obtain ⟨A73, c74, A75, c76, rfl, ⟨pA73, sA73⟩, ⟨pA75, sA75⟩⟩ := kTensor.open hr71
    have hm77 := hm31.elem pA73 sA73
    have hm78 := hm77.elem pA75 sA75
    refine inReg ?_
    refine go 7 [.bool false, .agg #[.slice A73 (((rd x0 s25).Shape).length) c74, .slice A75 (((rd x0 s25).Data).length) c76]] [0, 3, 12, 16] [(0, .slice A0 x0.length c0), (3, .int .i64 s25), (12, .bool false), (16, .agg #[.slice A73 (((rd x0 s25).Shape).length) c74, .slice A75 (((rd x0 s25).Data).length) c76])] [.is (decide (40 < s25) = false), .is (Option.isSome A0 = true), .is (0 ≤ s25 ∧ s25 < (x0.length : Int)), .cell ((ad A0).add ((s25).toNat * 2)) (.slice A73 (((rd x0 s25).Shape).length) c74), .cell (((ad A0).add ((s25).toNat * 2)).add 1) (.slice A75 (((rd x0 s25).Data).length) c76)] hf34 (by kernel_rfl) ⟨(decide_eq_false c35), q69.1, g43, (hc72 0 _ rfl), (hc72 1 _ rfl), trivial⟩ fun a79 hf80 => ?_
    refine listOf hf80 rfl (by kernel_rfl) (aCall (fid := 20) (args := [.agg #[.slice A73 (((rd x0 s25).Shape).length) c74, .slice A75 (((rd x0 s25).Data).length) c76]]) (d := 17) hf80 (by kernel_rfl) (by kernel_rfl) callable20 (law3_Small.calls _ _ (⟨((rd x0 s25).Shape), ((rd x0 s25).Data)⟩ : Tensor) A73 (((rd x0 s25).Shape).length) c74 rfl A75 (((rd x0 s25).Data).length) c76 rfl (hm78.give [1, 0] [.sl (Kd.int .i64) A73 c74 ((rd x0 s25).Shape), .sl Kd.float A75 c76 ((rd x0 s25).Data)] rfl rfl) r44 hr44) ?_)
    rintro _ w81 a82 ⟨rfl, hk84⟩ hf83
    have hm85 := hm78.still hk84.cum.none
    rw [c45] at hf83
    refine go 2 [] [0, 3, 19] [(0, .slice A0 x0.length c0), (3, .int .i64 s25), (19, .bool true)] [] hf83 (by kernel_rfl) trivial fun a86 hf87 => ?_
    refine endL rfl ?_
    have hm88 := hm85.sel [2] _ rfl (by kernel_rfl)
    refine thenN ?_
    refine condT hf87 (by kernel_rfl) ?_
    refine wp_seq ?_
    refine reg [] [2] [(2, .bool false)] [] hf87 (by kernel_rfl) trivial fun a89 hf90 => ?_
    have hm91 := hm88.sel [] _ rfl (by kernel_rfl)
    refine thenN ?_
    refine wp_ret ?_
    refine blkR ?_
    refine thenR ?_
    refine thenR ?_
    refine .inr ⟨rfl, ?_⟩
    refine thenR ?_
    have hm92 : Mem [] M w0 [] w81 := hm91.sel [] _ rfl (by kernel_rfl)
    obtain rfl := Option.some.inj H1
    obtain rfl := Option.some.inj H0
    refine ret [] [.bool false] [] hf90 (by kernel_rfl) trivial ?_
    exact ⟨_, rfl, rfl, hm92⟩
  rintro a96 w97 ⟨yr26, rfl, hf98, hm99⟩
  refine thenN ?_
  refine wp_seq ?_
  refine reg [] [2] [(2, .bool true)] [] hf98 (by kernel_rfl) trivial fun a100 hf101 => ?_
  have hm102 := hm99.sel [] _ rfl (by kernel_rfl)
  refine thenN ?_
  refine wp_ret ?_
  have hm103 : Mem [] M w0 [] w97 := hm102.sel [] _ rfl (by kernel_rfl)
  obtain rfl := Option.some.inj H0
  refine ret [] [.bool true] [] hf101 (by kernel_rfl) trivial ?_
  exact ⟨_, rfl, rfl, hm103⟩

/-! ### backstitch/backstitchref1.Size -/
noncomputable def ref1_Size.l0 (x0 : (List Int)) (s35 : Int) : Step Int (Out2 Int (Int × Int)) :=
  if s35 < (x0.length : Int) then (if 0 ≤ s35 ∧ s35 < (x0.length : Int) then (if (rd x0 s35) < 1 then (.done (.ret (0, 2)))
  else (.next (w64 (s35 + 1))))
  else .bad)
  else (.done (.go s35))
noncomputable def ref1_Size.l1 (x0 : (List Int)) (s71 : (Int × Int)) : Step (Int × Int) (Out2 (Int × Int) (Int × Int)) :=
  if s71.2 < (x0.length : Int) then (if 0 ≤ s71.2 ∧ s71.2 < (x0.length : Int) then (if s71.1 ≠ 0 then (if (w64 (Int.tdiv 4096 s71.1)) < (rd x0 s71.2) then (.done (.ret (0, 3)))
  else (.next ((w64 (s71.1 * (rd x0 s71.2))), (w64 (s71.2 + 1)))))
  else .bad)
  else .bad)
  else (.done (.go (s71.1, s71.2)))
noncomputable def ref1_Size.f (x0 : (List Int)) : Option (Int × Int) :=
  if 4 < (x0.length : Int) then (some (0, 2))
  else ((loop (ref1_Size.l0 x0) 0).bind fun r36 =>
  r36.on (fun yr36 =>
  (loop (ref1_Size.l1 x0) (1, 0)).bind fun r72 =>
  r72.on (fun yr72 =>
  some (yr72.1, 0)) (fun y => some y)) (fun y => some y))
set_option maxRecDepth 100000 in
set_option maxHeartbeats 4000000 in
theorem ref1_Size.calls (M : List (Option Nat)) (w0 : World) (x0 : (List Int)) (A0 : Option Addr) (n0 c0 : Nat) (e0 : n0 = x0.length) (hm0 : Mem [] M w0 [.sl (Kd.int .i64) A0 c0 x0] w0) (r : (Int × Int)) (H0 : ref1_Size.f x0 = some r) :
    Calls Try.prog 40 [.slice A0 n0 c0].toArray w0 (fun x w' => ∃ v, x = .returned v ∧ v = .tuple #[.int .i64 r.1, .int .i64 r.2] ∧ Mem [] M w0 [] w') := by
  subst e0
  unfold ref1_Size.f at H0
  refine enter (n := 41) Try.func40 rfl rfl (by kernel_rfl) fun a0 (hf0 : Fr 41 a0 [(0, .slice A0 x0.length c0)]) => ?_
  refine wp_seq ?_
  refine reg [] [0] [(0, .slice A0 x0.length c0)] [] hf0 (by kernel_rfl) trivial fun a21 hf22 => ?_
  refine thenN ?_
  refine wp_seq ?_
  refine wp_seq ?_
  rcases if_split H0 with ⟨c23, H0⟩ | ⟨c23, H0⟩
  · refine reg [.bool true] [0, 9] [(0, .slice A0 x0.length c0), (9, .bool true)] [.is (decide (4 < (x0.length : Int)) = true)] hf22 (by kernel_rfl) ⟨(decide_eq_true c23), trivial⟩ fun a24 hf25 => ?_
    refine thenN ?_
    refine condT hf25 (by kernel_rfl) ?_
    refine wp_seq ?_
    refine reg [] [2, 3] [(2, .int .i64 0), (3, .int .i64 2)] [] hf25 (by kernel_rfl) trivial fun a26 hf27 => ?_
    have hm28 := hm0.sel [] _ rfl (by kernel_rfl)
    refine thenN ?_
    refine wp_ret ?_
    refine thenR ?_
    have hm29 : Mem [] M w0 [] w0 := hm28.sel [] _ rfl (by kernel_rfl)
    obtain rfl := Option.some.inj H0
    refine ret [] [.int .i64 0, .int .i64 2] [] hf27 (by kernel_rfl) trivial ?_
    exact ⟨_, rfl, rfl, hm29⟩
  refine reg [.bool false] [0, 9] [(0, .slice A0 x0.length c0), (9, .bool false)] [.is (decide (4 < (x0.length : Int)) = false)] hf22 (by kernel_rfl) ⟨(decide_eq_false c23), trivial⟩ fun a31 hf32 => ?_
  refine thenN ?_
  refine condF hf32 (by kernel_rfl) ?_
  refine wp_skip ?_
  refine thenN ?_
  refine wp_seq ?_
  refine wp_seq ?_
  refine reg [] [0, 4] [(0, .slice A0 x0.length c0), (4, .int .i64 0)] [] hf32 (by kernel_rfl) trivial fun a33 hf34 => ?_
  refine thenN ?_
  obtain ⟨r36, hr36, H0⟩ := ob_split H0
  refine wpBlock (Mid := fun (a : Act) (w : World) => ∃ yr36 : Int, r36 = .go yr36 ∧ Fr 41 a [(0, .slice A0 x0.length c0), (4, .int .i64 yr36)] ∧ Mem [] M w0 [.sl (Kd.int .i64) A0 c0 x0] w) ?_ ?_
  · refine wpLoop (ref1_Size.l0 x0) r36 (fun (s35 : Int) (a : Act) (w : World) => Fr 41 a [(0, .slice A0 x0.length c0), (4, .int .i64 s35)] ∧ Mem [] M w0 [.sl (Kd.int .i64) A0 c0 x0] w) 0 hr36 ⟨hf34.sel (l := [0, 4]) (by kernel_rfl), hm0.sel [0] _ rfl (by kernel_rfl)⟩ ?_
    rintro g37 s35 a38 w39 H1 ⟨hf40, hm41⟩
    unfold ref1_Size.l0 at H1
    refine wp_seq ?_
    refine wp_seq ?_
    rcases ifS_split H1 with ⟨c42, H1⟩ | ⟨c42, H1⟩
    rotate_left
    · refine reg [.bool false] [0, 4, 13] [(0, .slice A0 x0.length c0), (4, .int .i64 s35), (13, .bool false)] [.is (decide (s35 < (x0.length : Int)) = false)] hf40 (by kernel_rfl) ⟨(decide_eq_false c42), trivial⟩ fun a60 hf61 => ?_
      refine thenN ?_
      refine condF hf61 (by kernel_rfl) ?_
      refine wp_exit ?_
      refine thenE ?_
      refine thenE ?_
      obtain rfl := Option.some.inj H1
      exact .inl ⟨rfl, s35, rfl, hf61.sel (l := [0, 4]) (by kernel_rfl), hm41.sel [0] _ rfl (by kernel_rfl)⟩
    refine reg [.bool true] [0, 4, 13] [(0, .slice A0 x0.length c0), (4, .int .i64 s35), (13, .bool true)] [.is (decide (s35 < (x0.length : Int)) = true)] hf40 (by kernel_rfl) ⟨(decide_eq_true c42), trivial⟩ fun a43 hf44 => ?_
    refine thenN ?_
    refine condT hf44 (by kernel_rfl) ?_
    refine wp_skip ?_
    refine thenN ?_
    refine wp_seq ?_
    refine wp_block ?_
    refine wp_seq ?_
    obtain ⟨g45, H1⟩ := ifS_guard H1
    rcases ifS_split H1 with ⟨c46, H1⟩ | ⟨c46, H1⟩
    rotate_left
    · have q55 := (hm41.slAt 0 rfl).int s35 g45.1 g45.2
      refine reg [.int .i64 (rd x0 s35), .bool false] [0, 4, 20] [(0, .slice A0 x0.length c0), (4, .int .i64 s35), (20, .bool false)] [.is (Option.isSome A0 = true), .is (0 ≤ s35 ∧ s35 < (x0.length : Int)), .cell ((ad A0).add ((s35).toNat * 1)) (.int .i64 (rd x0 s35)), .is (decide ((rd x0 s35) < 1) = false)] hf44 (by kernel_rfl) ⟨q55.1, g45, q55.2, (decide_eq_false c46), trivial⟩ fun a56 hf57 => ?_
      refine thenN ?_
      refine condF hf57 (by kernel_rfl) ?_
      refine wp_skip ?_
      refine blkN ?_
      refine thenN ?_
      refine reg [] [0, 4] [(0, .slice A0 x0.length c0), (4, .int .i64 (w64 (s35 + 1)))] [] hf57 (by kernel_rfl) trivial fun a58 hf59 => ?_
      exact ⟨(w64 (s35 + 1)), H1, hf59.sel (l := [0, 4]) (by kernel_rfl), hm41.sel [0] _ rfl (by kernel_rfl)⟩
    have q47 := (hm41.slAt 0 rfl).int s35 g45.1 g45.2
    refine reg [.int .i64 (rd x0 s35), .bool true] [0, 4, 20] [(0, .slice A0 x0.length c0), (4, .int .i64 s35), (20, .bool true)] [.is (Option.isSome A0 = true), .is (0 ≤ s35 ∧ s35 < (x0.length : Int)), .cell ((ad A0).add ((s35).toNat * 1)) (.int .i64 (rd x0 s35)), .is (decide ((rd x0 s35) < 1) = true)] hf44 (by kernel_rfl) ⟨q47.1, g45, q47.2, (decide_eq_true c46), trivial⟩ fun a48 hf49 => ?_
    refine thenN ?_
    refine condT hf49 (by kernel_rfl) ?_
    refine wp_seq ?_
    refine reg [] [2, 3] [(2, .int .i64 0), (3, .int .i64 2)] [] hf49 (by kernel_rfl) trivial fun a50 hf51 => ?_
    have hm52 := hm41.sel [] _ rfl (by kernel_rfl)
    refine thenN ?_
    refine wp_ret ?_
    refine blkR ?_
    refine thenR ?_
    refine thenR ?_
    refine .inr ⟨rfl, ?_⟩
    refine thenR ?_
    have hm53 : Mem [] M w0 [] w39 := hm52.sel [] _ rfl (by kernel_rfl)
    obtain rfl := Option.some.inj H1
    obtain rfl := Option.some.inj H0
    refine ret [] [.int .i64 0, .int .i64 2] [] hf51 (by kernel_rfl) trivial ?_
    exact ⟨_, rfl, rfl, hm53⟩
  rintro a62 w63 ⟨yr36, rfl, hf65, hm66⟩
  refine thenN ?_
  refine wp_seq ?_
  refine reg [] [0, 5] [(0, .slice A0 x0.length c0), (5, .int .i64 1)] [] hf65 (by kernel_rfl) trivial fun a67 hf68 => ?_
  refine thenN ?_
  refine wp_seq ?_
  refine wp_seq ?_
  refine reg [] [0, 5, 6] [(0, .slice A0 x0.length c0), (5, .int .i64 1), (6, .int .i64 0)] [] hf68 (by kernel_rfl) trivial fun a69 hf70 => ?_
  refine thenN ?_
  obtain ⟨r72, hr72, H0⟩ := ob_split H0
  refine wpBlock (Mid := fun (a : Act) (w : World) => ∃ yr72 : (Int × Int), r72 = .go yr72 ∧ Fr 41 a [(0, .slice A0 x0.length c0), (5, .int .i64 yr72.1), (6, .int .i64 yr72.2)] ∧ Mem [] M w0 [.sl (Kd.int .i64) A0 c0 x0] w) ?_ ?_
  · refine wpLoop (ref1_Size.l1 x0) r72 (fun (s71 : (Int × Int)) (a : Act) (w : World) => Fr 41 a [(0, .slice A0 x0.length c0), (5, .int .i64 s71.1), (6, .int .i64 s71.2)] ∧ Mem [] M w0 [.sl (Kd.int .i64) A0 c0 x0] w) (1, 0) hr72 ⟨hf70.sel (l := [0, 5, 6]) (by kernel_rfl), hm66.sel [0] _ rfl (by kernel_rfl)⟩ ?_
    rintro g73 s71 a74 w75 H1 ⟨hf76, hm77⟩
    unfold ref1_Size.l1 at H1
    refine wp_seq ?_
    refine wp_seq ?_
    rcases ifS_split H1 with ⟨c78, H1⟩ | ⟨c78, H1⟩
    rotate_left
    · refine reg [.bool false] [0, 5, 6, 24] [(0, .slice A0 x0.length c0), (5, .int .i64 s71.1), (6, .int .i64 s71.2), (24, .bool false)] [.is (decide (s71.2 < (x0.length : Int)) = false)] hf76 (by kernel_rfl) ⟨(decide_eq_false c78), trivial⟩ fun a106 hf107 => ?_
      refine thenN ?_
      refine condF hf107 (by kernel_rfl) ?_
      refine wp_exit ?_
      refine thenE ?_
      refine thenE ?_
      obtain rfl := Option.some.inj H1
      exact .inl ⟨rfl, (s71.1, s71.2), rfl, hf107.sel (l := [0, 5, 6]) (by kernel_rfl), hm77.sel [0] _ rfl (by kernel_rfl)⟩
    refine reg [.bool true] [0, 5, 6, 24] [(0, .slice A0 x0.length c0), (5, .int .i64 s71.1), (6, .int .i64 s71.2), (24, .bool true)] [.is (decide (s71.2 < (x0.length : Int)) = true)] hf76 (by kernel_rfl) ⟨(decide_eq_true c78), trivial⟩ fun a79 hf80 => ?_
    refine thenN ?_
    refine condT hf80 (by kernel_rfl) ?_
    refine wp_skip ?_
    refine thenN ?_
    refine wp_seq ?_
    refine wp_block ?_
    refine wp_seq ?_
    refine wp_seq ?_
    obtain ⟨g81, H1⟩ := ifS_guard H1
    obtain ⟨g82, H1⟩ := ifS_guard H1
    rcases ifS_split H1 with ⟨c83, H1⟩ | ⟨c83, H1⟩
    rotate_left
    · have q95 := (hm77.slAt 0 rfl).int s71.2 g81.1 g81.2
      refine regQ [.int .i64 (rd x0 s71.2), .bool false] [0, 5, 6, 33] [(0, .slice A0 x0.length c0), (5, .int .i64 s71.1), (6, .int .i64 s71.2), (33, .bool false)] [.is (Option.isSome A0 = true), .is (0 ≤ s71.2 ∧ s71.2 < (x0.length : Int)), .cell ((ad A0).add ((s71.2).toNat * 1)) (.int .i64 (rd x0 s71.2)), .is (s71.1 ≠ 0), .is (decide ((w64 (Int.tdiv 4096 s71.1)) < (rd x0 s71.2)) = false)] (by kernel_rfl) (by kernel_rfl) hf80 (by kernel_rfl) ⟨q95.1, g81, q95.2, g82, (decide_eq_false c83), trivial⟩ fun a96 w98 hf97 hg99 => ?_
      have hm100 := hm77.still hg99
      refine thenN ?_
      refine condF hf97 (by kernel_rfl) ?_
      refine wp_skip ?_
      refine thenN ?_
      have q101 := (hm100.slAt 0 rfl).int s71.2 g81.1 g81.2
      refine reg [.int .i64 (rd x0 s71.2)] [0, 5, 6] [(0, .slice A0 x0.length c0), (5, .int .i64 (w64 (s71.1 * (rd x0 s71.2)))), (6, .int .i64 s71.2)] [.is (Option.isSome A0 = true), .is (0 ≤ s71.2 ∧ s71.2 < (x0.length : Int)), .cell ((ad A0).add ((s71.2).toNat * 1)) (.int .i64 (rd x0 s71.2))] hf97 (by kernel_rfl) ⟨q101.1, g81, q101.2, trivial⟩ fun a102 hf103 => ?_
      refine blkN ?_
      refine thenN ?_
      refine reg [] [0, 5, 6] [(0, .slice A0 x0.length c0), (5, .int .i64 (w64 (s71.1 * (rd x0 s71.2)))), (6, .int .i64 (w64 (s71.2 + 1)))] [] hf103 (by kernel_rfl) trivial fun a104 hf105 => ?_
      exact ⟨((w64 (s71.1 * (rd x0 s71.2))), (w64 (s71.2 + 1))), H1, hf105.sel (l := [0, 5, 6]) (by kernel_rfl), hm100.sel [0] _ rfl (by kernel_rfl)⟩
    have q84 := (hm77.slAt 0 rfl).int s71.2 g81.1 g81.2
    refine regQ [.int .i64 (rd x0 s71.2), .bool true] [0, 5, 6, 33] [(0, .slice A0 x0.length c0), (5, .int .i64 s71.1), (6, .int .i64 s71.2), (33, .bool true)] [.is (Option.isSome A0 = true), .is (0 ≤ s71.2 ∧ s71.2 < (x0.length : Int)), .cell ((ad A0).add ((s71.2).toNat * 1)) (.int .i64 (rd x0 s71.2)), .is (s71.1 ≠ 0), .is (decide ((w64 (Int.tdiv 4096 s71.1)) < (rd x0 s71.2)) = true)] (by kernel_rfl) (by kernel_rfl) hf80 (by kernel_rfl) ⟨q84.1, g81, q84.2, g82, (decide_eq_true c83), trivial⟩ fun a85 w87 hf86 hg88 => ?_
    have hm89 := hm77.still hg88
    refine thenN ?_
    refine condT hf86 (by kernel_rfl) ?_
    refine wp_seq ?_
    refine reg [] [2, 3] [(2, .int .i64 0), (3, .int .i64 3)] [] hf86 (by kernel_rfl) trivial fun a90 hf91 => ?_
    have hm92 := hm89.sel [] _ rfl (by kernel_rfl)
    refine thenN ?_
    refine wp_ret ?_
    refine thenR ?_
    refine blkR ?_
    refine thenR ?_
    refine thenR ?_
    refine .inr ⟨rfl, ?_⟩
    refine thenR ?_
    have hm93 : Mem [] M w0 [] w87 := hm92.sel [] _ rfl (by kernel_rfl)
    obtain rfl := Option.some.inj H1
    obtain rfl := Option.some.inj H0
    refine ret [] [.int .i64 0, .int .i64 3] [] hf91 (by kernel_rfl) trivial ?_
    exact ⟨_, rfl, rfl, hm93⟩
  rintro a108 w109 ⟨yr72, rfl, hf110, hm111⟩
  refine thenN ?_
  refine wp_seq ?_
  refine reg [] [2, 3] [(2, .int .i64 yr72.1), (3, .int .i64 0)] [] hf110 (by kernel_rfl) trivial fun a112 hf113 => ?_
  have hm114 := hm111.sel [] _ rfl (by kernel_rfl)
  refine thenN ?_
  refine wp_ret ?_
  have hm115 : Mem [] M w0 [] w109 := hm114.sel [] _ rfl (by kernel_rfl)
  obtain rfl := Option.some.inj H0
  refine ret [] [.int .i64 yr72.1, .int .i64 0] [] hf113 (by kernel_rfl) trivial ?_
  exact ⟨_, rfl, rfl, hm115⟩

/-! ### backstitch/backstitchref1.TensorMay -/
noncomputable def ref1_TensorMay.f (x0 : Tensor) : Option Bool :=
  (ref1_Size.f x0.Shape).bind fun r30 =>
  if r30.2 = 0 then (if r30.1 = (x0.Data.length : Int) then (some true)
  else (some false))
  else (some false)
set_option maxRecDepth 100000 in
set_option maxHeartbeats 4000000 in
theorem ref1_TensorMay.calls (M : List (Option Nat)) (w0 : World) (x0 : Tensor) (A0_0 : Option Addr) (n0_0 c0_0 : Nat) (e0_0 : n0_0 = x0.Shape.length) (A0_1 : Option Addr) (n0_1 c0_1 : Nat) (e0_1 : n0_1 = x0.Data.length) (hm0 : Mem [] M w0 [.sl (Kd.int .i64) A0_0 c0_0 x0.Shape, .sl Kd.float A0_1 c0_1 x0.Data] w0) (r : Bool) (H0 : ref1_TensorMay.f x0 = some r) :
    Calls Try.prog 21 [.agg #[.slice A0_0 n0_0 c0_0, .slice A0_1 n0_1 c0_1]].toArray w0 (fun x w' => ∃ v, x = .returned v ∧ v = .bool r ∧ Mem [] M w0 [] w') := by
  subst e0_0
  subst e0_1
  unfold ref1_TensorMay.f at H0
  refine enter (n := 20) Try.func21 rfl rfl (by kernel_rfl) fun a0 (hf0 : Fr 20 a0 [(0, .agg #[.slice A0_0 x0.Shape.length c0_0, .slice A0_1 x0.Data.length c0_1])]) => ?_
  refine wp_seq ?_
  refine inReg ?_
  refine listOf hf0 rfl (by kernel_rfl) (aNew (cs := [.slice A0_0 x0.Shape.length c0_0, .slice A0_1 x0.Data.length c0_1]) (T := 29) (d := 1) hf0 (by kernel_rfl) (by kernel_rfl) ?_)
  intro b21 w22 a23 hbb21 hx25 hg26 hf24
  have hm27 := hm0.box hbb21 hx25 hg26
  refine go 1 [] [1] [(1, .pointer (some ⟨b21, 0, none⟩))] [] hf24 (by kernel_rfl) trivial fun a28 hf29 => ?_
  refine endL rfl ?_
  refine thenN ?_
  refine wp_seq ?_
  obtain ⟨r30, hr30, H0⟩ := ob_split H0
  refine inReg ?_
  refine go 2 [.slice A0_0 x0.Shape.length c0_0] [1, 7] [(1, .pointer (some ⟨b21, 0, none⟩)), (7, .slice A0_0 x0.Shape.length c0_0)] [.cell ⟨b21, 0, none⟩ (.slice A0_0 x0.Shape.length c0_0)] hf29 (by kernel_rfl) ⟨(hm27.cell 0 rfl rfl), trivial⟩ fun a31 hf32 => ?_
  refine listOf hf32 rfl (by kernel_rfl) (aCall (fid := 40) (args := [.slice A0_0 x0.Shape.length c0_0]) (d := 8) hf32 (by kernel_rfl) (by kernel_rfl) callable40 (ref1_Size.calls _ _ x0.Shape A0_0 x0.Shape.length c0_0 rfl (hm27.give [1] [.sl (Kd.int .i64) A0_0 c0_0 x0.Shape] rfl rfl) r30 hr30) ?_)
  rintro _ w33 a34 ⟨rfl, hk36⟩ hf35
  have hm37 := hm27.still hk36.cum.none
  refine go 5 [] [1, 3, 4] [(1, .pointer (some ⟨b21, 0, none⟩)), (3, .int .i64 r30.1), (4, .int .i64 r30.2)] [] hf35 (by kernel_rfl) trivial fun a38 hf39 => ?_
  refine endL rfl ?_
  refine thenN ?_
  refine wp_seq ?_
  rcases if_split H0 with ⟨c40, H0⟩ | ⟨c40, H0⟩
  rotate_left
  · refine reg [.bool false] [2] [(2, .bool false)] [.is (((r30.2 : Int) == 0) = false)] hf39 (by kernel_rfl) ⟨(eqF c40), trivial⟩ fun a52 hf53 => ?_
    have hm54 := hm37.sel [] _ rfl (by kernel_rfl)
    refine thenN ?_
    refine wp_ret ?_
    have hm55 : Mem [] M w0 [] w33 := hm54.sel [] _ rfl (by kernel_rfl)
    obtain rfl := Option.some.inj H0
    refine ret [] [.bool false] [] hf53 (by kernel_rfl) trivial ?_
    exact ⟨_, rfl, rfl, hm55⟩
  rcases if_split H0 with ⟨c41, H0⟩ | ⟨c41, H0⟩
  · refine reg [.bool true, .slice A0_1 x0.Data.length c0_1, .bool true] [2] [(2, .bool true)] [.is (((r30.2 : Int) == 0) = true), .cell ⟨b21, 1, none⟩ (.slice A0_1 x0.Data.length c0_1), .is (((r30.1 : Int) == (x0.Data.length : Int)) = true)] hf39 (by kernel_rfl) ⟨(eqT c40), (hm37.cell 0 rfl rfl), (eqT c41), trivial⟩ fun a42 hf43 => ?_
    have hm44 := hm37.sel [] _ rfl (by kernel_rfl)
    refine thenN ?_
    refine wp_ret ?_
    have hm45 : Mem [] M w0 [] w33 := hm44.sel [] _ rfl (by kernel_rfl)
    obtain rfl := Option.some.inj H0
    refine ret [] [.bool true] [] hf43 (by kernel_rfl) trivial ?_
    exact ⟨_, rfl, rfl, hm45⟩
  refine reg [.bool true, .slice A0_1 x0.Data.length c0_1, .bool false] [2] [(2, .bool false)] [.is (((r30.2 : Int) == 0) = true), .cell ⟨b21, 1, none⟩ (.slice A0_1 x0.Data.length c0_1), .is (((r30.1 : Int) == (x0.Data.length : Int)) = false)] hf39 (by kernel_rfl) ⟨(eqT c40), (hm37.cell 0 rfl rfl), (eqF c41), trivial⟩ fun a47 hf48 => ?_
  have hm49 := hm37.sel [] _ rfl (by kernel_rfl)
  refine thenN ?_
  refine wp_ret ?_
  have hm50 : Mem [] M w0 [] w33 := hm49.sel [] _ rfl (by kernel_rfl)
  obtain rfl := Option.some.inj H0
  refine ret [] [.bool false] [] hf48 (by kernel_rfl) trivial ?_
  exact ⟨_, rfl, rfl, hm50⟩
end Go.Proofs.Yteaoijahdinciaa
