/- Printed by gen.py. -/
import Derived.Test.YteaoijahdinciaaF1
import Derived.Test.YteaoijahdinciaaF3
namespace Go.Proofs.Yteaoijahdinciaa
open Go Go.RowKit
set_option linter.unusedSimpArgs false
set_option linter.unusedVariables false
set_option linter.unnecessarySimpa false
/-! ### backstitch/shape.Index -/
noncomputable def shape_Index.l0 (x1 : (List Int)) (x0 : (List Int)) (s39 : (Int × Int)) : Step (Int × Int) (Out2 (Int × Int) Int) :=
  if s39.2 < (x1.length : Int) then (if 0 ≤ s39.2 ∧ s39.2 < (x1.length : Int) then (if (rd x1 s39.2) < 0 then (.done (.ret (-1)))
  else (if 0 ≤ s39.2 ∧ s39.2 < (x0.length : Int) then (if (rd x0 s39.2) ≤ (rd x1 s39.2) then (.done (.ret (-1)))
  else (.next ((w64 ((w64 (s39.1 * (rd x0 s39.2))) + (rd x1 s39.2))), (w64 (s39.2 + 1)))))
  else .bad))
  else .bad)
  else (.done (.go (s39.1, s39.2)))
noncomputable def shape_Index.f (x0 : (List Int)) (x1 : (List Int)) : Option Int :=
  (shape_May.f x0).bind fun r23 =>
  if r23 = true then (if (x1.length : Int) = (x0.length : Int) then ((loop (shape_Index.l0 x1 x0) (0, 0)).bind fun r40 =>
  r40.on (fun yr40 =>
  some yr40.1) (fun y => some y))
  else (some (-1)))
  else (some (-1))
set_option maxRecDepth 100000 in
set_option maxHeartbeats 4000000 in
theorem shape_Index.calls (M : List (Option Nat)) (w0 : World) (x0 : (List Int)) (A0 : Option Addr) (n0 c0 : Nat) (e0 : n0 = x0.length) (x1 : (List Int)) (A1 : Option Addr) (n1 c1 : Nat) (e1 : n1 = x1.length) (hm0 : Mem [] M w0 [.sl (Kd.int .i64) A0 c0 x0, .sl (Kd.int .i64) A1 c1 x1] w0) (r : Int) (H0 : shape_Index.f x0 x1 = some r) :
    Calls Try.prog 67 [.slice A0 n0 c0, .slice A1 n1 c1].toArray w0 (fun x w' => ∃ v, x = .returned v ∧ v = .int .i64 r ∧ Mem [] M w0 [] w') := by
  subst e0
  subst e1
  unfold shape_Index.f at H0
  refine enter (n := 45) Try.func67 rfl rfl (by kernel_rfl) fun a0 (hf0 : Fr 45 a0 [(0, .slice A0 x0.length c0), (1, .slice A1 x1.length c1)]) => ?_
  refine wp_seq ?_
  refine rg [] [(0, .slice A0 x0.length c0), (1, .slice A1 x1.length c1)] hf0 ot fun a21 hf22 => ?_
  refine thenN ?_
  refine wp_seq ?_
  refine wp_seq ?_
  obtain ⟨r23, hr23, H0⟩ := ob_split H0
  rcases ifb_split H0 with ⟨c24, H0⟩ | ⟨c24, H0⟩
  rotate_left
  · refine inReg ?_
    refine gg 1 [] [(0, .slice A0 x0.length c0), (1, .slice A1 x1.length c1), (8, .slice A0 x0.length c0)] hf22 ot fun a105 hf106 => ?_
    refine lo hf106 rfl (cl 9 hf106 callable65 (shape_May.calls _ _ _ _ _ _ rfl (hm0.give [0] [.sl (Kd.int .i64) A0 c0 x0] rfl rfl) r23 hr23) ?_)
    rintro _ w107 a108 ⟨rfl, hk110⟩ hf109
    have hm111 := hm0.still hk110.cum.none
    rw [c24] at hf109
    refine gg 8 [] [(0, .slice A0 x0.length c0), (1, .slice A1 x1.length c1), (17, .bool true)] hf109 ot fun a112 hf113 => ?_
    refine endL rfl ?_
    refine thenN ?_
    refine cT hf113 ?_
    refine wp_seq ?_
    refine rg [] [(4, vi (-1))] hf113 ot fun a114 hf115 => ?_
    have hm116 := hm111.se [] _ rfl
    refine thenN ?_
    refine wp_ret ?_
    refine thenR ?_
    have hm117 : Mem [] M w0 [] w107 := hm116.se [] _ rfl
    obtain rfl := Option.some.inj H0
    refine rt [] [.int .i64 (-1)] hf115 ot ?_
    exact ⟨_, rfl, rfl, hm117⟩
  rcases if_split H0 with ⟨c25, H0⟩ | ⟨c25, H0⟩
  rotate_left
  · refine inReg ?_
    refine gg 1 [] [(0, .slice A0 x0.length c0), (1, .slice A1 x1.length c1), (8, .slice A0 x0.length c0)] hf22 ot fun a91 hf92 => ?_
    refine lo hf92 rfl (cl 9 hf92 callable65 (shape_May.calls _ _ _ _ _ _ rfl (hm0.give [0] [.sl (Kd.int .i64) A0 c0 x0] rfl rfl) r23 hr23) ?_)
    rintro _ w93 a94 ⟨rfl, hk96⟩ hf95
    have hm97 := hm0.still hk96.cum.none
    rw [c24] at hf95
    refine gg 8 [.bool true] [(0, .slice A0 x0.length c0), (1, .slice A1 x1.length c1), (17, .bool true)] hf95 (oi (neT c25) ot) fun a98 hf99 => ?_
    refine endL rfl ?_
    refine thenN ?_
    refine cT hf99 ?_
    refine wp_seq ?_
    refine rg [] [(4, vi (-1))] hf99 ot fun a100 hf101 => ?_
    have hm102 := hm97.se [] _ rfl
    refine thenN ?_
    refine wp_ret ?_
    refine thenR ?_
    have hm103 : Mem [] M w0 [] w93 := hm102.se [] _ rfl
    obtain rfl := Option.some.inj H0
    refine rt [] [.int .i64 (-1)] hf101 ot ?_
    exact ⟨_, rfl, rfl, hm103⟩
  refine inReg ?_
  refine gg 1 [] [(0, .slice A0 x0.length c0), (1, .slice A1 x1.length c1), (8, .slice A0 x0.length c0)] hf22 ot fun a26 hf27 => ?_
  refine lo hf27 rfl (cl 9 hf27 callable65 (shape_May.calls _ _ _ _ _ _ rfl (hm0.give [0] [.sl (Kd.int .i64) A0 c0 x0] rfl rfl) r23 hr23) ?_)
  rintro _ w28 a29 ⟨rfl, hk31⟩ hf30
  have hm32 := hm0.still hk31.cum.none
  rw [c24] at hf30
  refine gg 8 [.bool false] [(0, .slice A0 x0.length c0), (1, .slice A1 x1.length c1), (17, .bool false)] hf30 (oi (neF c25) ot) fun a33 hf34 => ?_
  refine endL rfl ?_
  refine thenN ?_
  refine cF hf34 ?_
  refine wp_skip ?_
  refine thenN ?_
  refine wp_seq ?_
  refine rg [] [(0, .slice A0 x0.length c0), (1, .slice A1 x1.length c1), (5, vi 0)] hf34 ot fun a35 hf36 => ?_
  refine thenN ?_
  refine wp_seq ?_
  refine wp_seq ?_
  refine rg [] [(0, .slice A0 x0.length c0), (5, vi 0), (18, .slice A1 x1.length c1), (19, vi (x1.length : Int)), (20, vi 0)] hf36 ot fun a37 hf38 => ?_
  refine thenN ?_
  obtain ⟨r40, hr40, H0⟩ := ob_split H0
  refine wpBlock (Mid := fun (a : Act) (w : World) => ∃ yr40 : (Int × Int), r40 = .go yr40 ∧ Fr 45 a [(0, .slice A0 x0.length c0), (5, .int .i64 yr40.1), (18, .slice A1 x1.length c1), (19, .int .i64 (x1.length : Int)), (20, .int .i64 yr40.2)] ∧ Mem [] M w0 [.sl (Kd.int .i64) A0 c0 x0, .sl (Kd.int .i64) A1 c1 x1] w) ?_ ?_
  · refine wpLoop (shape_Index.l0 x1 x0) r40 (fun (s39 : (Int × Int)) (a : Act) (w : World) => Fr 45 a [(0, .slice A0 x0.length c0), (5, .int .i64 s39.1), (18, .slice A1 x1.length c1), (19, .int .i64 (x1.length : Int)), (20, .int .i64 s39.2)] ∧ Mem [] M w0 [.sl (Kd.int .i64) A0 c0 x0, .sl (Kd.int .i64) A1 c1 x1] w) (0, 0) hr40 ⟨hf38.se [0, 5, 18, 19, 20], hm32.se [0, 1] _ rfl⟩ ?_
    rintro g41 s39 a42 w43 H1 ⟨hf44, hm45⟩
    unfold shape_Index.l0 at H1
    refine wp_seq ?_
    rcases ifS_split H1 with ⟨c46, H1⟩ | ⟨c46, H1⟩
    rotate_left
    · refine rg (ob := [.is (decide (s39.2 < (x1.length : Int)) = false)]) [.bool false] [(0, .slice A0 x0.length c0), (5, vi s39.1), (18, .slice A1 x1.length c1), (19, vi (x1.length : Int)), (20, vi s39.2), (21, .bool false)] hf44 ⟨(decide_eq_false c46), trivial⟩ fun a80 hf81 => ?_
      refine thenN ?_
      refine wp_seq ?_
      refine cF hf81 ?_
      refine wp_exit ?_
      refine thenE ?_
      refine thenE ?_
      obtain rfl := Option.some.inj H1
      exact .inl ⟨rfl, (s39.1, s39.2), rfl, hf81.se [0, 5, 18, 19, 20], hm45.se [0, 1] _ rfl⟩
    refine rg (ob := [.is (decide (s39.2 < (x1.length : Int)) = true)]) [.bool true] [(0, .slice A0 x0.length c0), (5, vi s39.1), (18, .slice A1 x1.length c1), (19, vi (x1.length : Int)), (20, vi s39.2), (21, .bool true)] hf44 ⟨(decide_eq_true c46), trivial⟩ fun a47 hf48 => ?_
    refine thenN ?_
    refine wp_seq ?_
    refine cT hf48 ?_
    refine wp_skip ?_
    refine thenN ?_
    refine wp_seq ?_
    refine wp_block ?_
    refine wp_seq ?_
    obtain ⟨g49, H1⟩ := ifS_guard H1
    have q50 := (hm45.slAt 1 rfl).int s39.2 g49.1 g49.2
    refine rg [.int .i64 (rd x1 s39.2)] [(0, .slice A0 x0.length c0), (5, vi s39.1), (6, vi s39.2), (7, vi (rd x1 s39.2)), (18, .slice A1 x1.length c1), (19, vi (x1.length : Int)), (20, vi s39.2)] hf48 (oi q50.1 (oi g49 (oc q50.2 ot))) fun a51 hf52 => ?_
    refine thenN ?_
    refine wp_seq ?_
    refine wp_seq ?_
    rcases ifS_split H1 with ⟨c53, H1⟩ | ⟨c53, H1⟩
    · refine rg (ob := [.is (decide ((rd x1 s39.2) < 0) = true)]) [.bool true] [(0, .slice A0 x0.length c0), (5, vi s39.1), (6, vi s39.2), (7, vi (rd x1 s39.2)), (18, .slice A1 x1.length c1), (19, vi (x1.length : Int)), (20, vi s39.2), (34, .bool true)] hf52 ⟨(decide_eq_true c53), trivial⟩ fun a54 hf55 => ?_
      refine thenN ?_
      refine cT hf55 ?_
      refine wp_seq ?_
      refine rg [] [(4, vi (-1))] hf55 ot fun a56 hf57 => ?_
      have hm58 := hm45.se [] _ rfl
      refine thenN ?_
      refine wp_ret ?_
      refine thenR ?_
      refine blkR ?_
      refine thenR ?_
      refine thenR ?_
      refine .inr ⟨rfl, ?_⟩
      refine thenR ?_
      have hm59 : Mem [] M w0 [] w43 := hm58.se [] _ rfl
      obtain rfl := Option.some.inj H1
      obtain rfl := Option.some.inj H0
      refine rt [] [.int .i64 (-1)] hf57 ot ?_
      exact ⟨_, rfl, rfl, hm59⟩
    obtain ⟨g61, H1⟩ := ifS_guard H1
    rcases ifS_split H1 with ⟨c62, H1⟩ | ⟨c62, H1⟩
    rotate_left
    · have q72 := (hm45.slAt 0 rfl).int s39.2 g61.1 g61.2
      refine rg (ob := [.is (decide ((rd x1 s39.2) < 0) = false), .is (Option.isSome A0 = true), .is (0 ≤ s39.2 ∧ s39.2 < (x0.length : Int)), .cell ((ad A0).add ((s39.2).toNat * 1)) (.int .i64 (rd x0 s39.2)), .is (decide ((rd x0 s39.2) ≤ (rd x1 s39.2)) = false)]) [.bool false, .int .i64 (rd x0 s39.2), .bool false] [(0, .slice A0 x0.length c0), (5, vi s39.1), (6, vi s39.2), (7, vi (rd x1 s39.2)), (18, .slice A1 x1.length c1), (19, vi (x1.length : Int)), (20, vi s39.2), (34, .bool false)] hf52 ⟨(decide_eq_false c53), q72.1, g61, q72.2, (decide_eq_false c62), trivial⟩ fun a73 hf74 => ?_
      refine thenN ?_
      refine cF hf74 ?_
      refine wp_skip ?_
      refine thenN ?_
      have q75 := (hm45.slAt 0 rfl).int s39.2 g61.1 g61.2
      refine rg [.int .i64 (rd x0 s39.2)] [(0, .slice A0 x0.length c0), (5, vi (w64 ((w64 (s39.1 * (rd x0 s39.2))) + (rd x1 s39.2)))), (18, .slice A1 x1.length c1), (19, vi (x1.length : Int)), (20, vi s39.2)] hf74 (oi q75.1 (oi g61 (oc q75.2 ot))) fun a76 hf77 => ?_
      refine blkN ?_
      refine thenN ?_
      refine rg [] [(0, .slice A0 x0.length c0), (5, vi (w64 ((w64 (s39.1 * (rd x0 s39.2))) + (rd x1 s39.2)))), (18, .slice A1 x1.length c1), (19, vi (x1.length : Int)), (20, vi (w64 (s39.2 + 1)))] hf77 ot fun a78 hf79 => ?_
      exact ⟨((w64 ((w64 (s39.1 * (rd x0 s39.2))) + (rd x1 s39.2))), (w64 (s39.2 + 1))), H1, hf79.se [0, 5, 18, 19, 20], hm45.se [0, 1] _ rfl⟩
    have q63 := (hm45.slAt 0 rfl).int s39.2 g61.1 g61.2
    refine rg (ob := [.is (decide ((rd x1 s39.2) < 0) = false), .is (Option.isSome A0 = true), .is (0 ≤ s39.2 ∧ s39.2 < (x0.length : Int)), .cell ((ad A0).add ((s39.2).toNat * 1)) (.int .i64 (rd x0 s39.2)), .is (decide ((rd x0 s39.2) ≤ (rd x1 s39.2)) = true)]) [.bool false, .int .i64 (rd x0 s39.2), .bool true] [(0, .slice A0 x0.length c0), (5, vi s39.1), (6, vi s39.2), (7, vi (rd x1 s39.2)), (18, .slice A1 x1.length c1), (19, vi (x1.length : Int)), (20, vi s39.2), (34, .bool true)] hf52 ⟨(decide_eq_false c53), q63.1, g61, q63.2, (decide_eq_true c62), trivial⟩ fun a65 hf66 => ?_
    refine thenN ?_
    refine cT hf66 ?_
    refine wp_seq ?_
    refine rg [] [(4, vi (-1))] hf66 ot fun a67 hf68 => ?_
    have hm69 := hm45.se [] _ rfl
    refine thenN ?_
    refine wp_ret ?_
    refine thenR ?_
    refine blkR ?_
    refine thenR ?_
    refine thenR ?_
    refine .inr ⟨rfl, ?_⟩
    refine thenR ?_
    have hm70 : Mem [] M w0 [] w43 := hm69.se [] _ rfl
    obtain rfl := Option.some.inj H1
    obtain rfl := Option.some.inj H0
    refine rt [] [.int .i64 (-1)] hf68 ot ?_
    exact ⟨_, rfl, rfl, hm70⟩
  rintro a82 w83 ⟨yr40, rfl, hf84, hm85⟩
  refine thenN ?_
  refine wp_seq ?_
  refine rg [] [(4, vi yr40.1)] hf84 ot fun a86 hf87 => ?_
  have hm88 := hm85.se [] _ rfl
  refine thenN ?_
  refine wp_ret ?_
  have hm89 : Mem [] M w0 [] w83 := hm88.se [] _ rfl
  obtain rfl := Option.some.inj H0
  refine rt [] [.int .i64 yr40.1] hf87 ot ?_
  exact ⟨_, rfl, rfl, hm89⟩

/-! ### backstitch/kernel.from -/
noncomputable def kernel_from.l0 (r24 : (List Int)) (x0 : (List Int)) (s41 : (Int × (List Int))) : Step (Int × (List Int)) (Int × (List Int)) :=
  if s41.1 < (r24.length : Int) then (if 0 ≤ s41.1 ∧ s41.1 < (x0.length : Int) then (if (rd x0 s41.1) = 1 then (if 0 ≤ s41.1 ∧ s41.1 < (s41.2.length : Int) then (.next ((w64 (s41.1 + 1)), (put s41.2 s41.1 0)))
  else .bad)
  else (.next ((w64 (s41.1 + 1)), s41.2)))
  else .bad)
  else (.done (s41.1, s41.2))
noncomputable def kernel_from.f (x0 : (List Int)) (x1 : (List Int)) : Option Int :=
  if 0 ≤ (w64 ((x1.length : Int) - (x0.length : Int))) ∧ (w64 ((x1.length : Int) - (x0.length : Int))) ≤ (x1.length : Int) then ((slices_Clone_int.f ((List.take x1.length x1).drop (((w64 ((x1.length : Int) - (x0.length : Int)))).toNat))).bind fun r24 =>
  (loop (kernel_from.l0 r24 x0) (0, r24)).bind fun r42 =>
  (shape_Index.f x0 r42.2).bind fun r82 =>
  some r82)
  else none
set_option maxRecDepth 100000 in
set_option maxHeartbeats 4000000 in
theorem kernel_from.calls (M : List (Option Nat)) (w0 : World) (x0 : (List Int)) (A0 : Option Addr) (n0 c0 : Nat) (e0 : n0 = x0.length) (x1 : (List Int)) (A1 : Option Addr) (n1 c1 : Nat) (e1 : n1 = x1.length) (hm0 : Mem [] M w0 [.sl (Kd.int .i64) A0 c0 x0, .sl (Kd.int .i64) A1 c1 x1] w0) (r : Int) (H0 : kernel_from.f x0 x1 = some r) :
    Calls Try.prog 52 [.slice A0 n0 c0, .slice A1 n1 c1].toArray w0 (fun x w' => ∃ v, x = .returned v ∧ v = .int .i64 r ∧ Mem [] M w0 [] w') := by
  subst e0
  subst e1
  unfold kernel_from.f at H0
  refine enter (n := 31) Try.func52 rfl rfl (by kernel_rfl) fun a0 (hf0 : Fr 31 a0 [(0, .slice A0 x0.length c0), (1, .slice A1 x1.length c1)]) => ?_
  refine wp_seq ?_
  refine rg [] [(0, .slice A0 x0.length c0), (1, .slice A1 x1.length c1)] hf0 ot fun a21 hf22 => ?_
  refine thenN ?_
  refine wp_seq ?_
  obtain ⟨g23, H0⟩ := if_guard H0
  obtain ⟨r24, hr24, H0⟩ := ob_split H0
  have e25 : x1.length = x1.length := rfl
  have e25l : ((w64 ((x1.length : Int) - (x0.length : Int)))).toNat ≤ x1.length := by omega
  have e25h : x1.length ≤ x1.length := by omega
  have hm26 := hm0.sub 1 rfl e25l (e25 ▸ e25h)
  refine inReg ?_
  refine gg 7 [] [(0, .slice A0 x0.length c0), (1, .slice A1 x1.length c1), (12, .slice (sub A1 c1 (((w64 ((x1.length : Int) - (x0.length : Int)))).toNat) 1) (x1.length - ((w64 ((x1.length : Int) - (x0.length : Int)))).toNat) (c1 - ((w64 ((x1.length : Int) - (x0.length : Int)))).toNat))] hf22 (oi g23 ot) fun a27 hf28 => ?_
  refine lo hf28 rfl (cl 13 hf28 callable39 (slices_Clone_int.calls _ _ ((List.take x1.length x1).drop (((w64 ((x1.length : Int) - (x0.length : Int)))).toNat)) (sub A1 c1 (((w64 ((x1.length : Int) - (x0.length : Int)))).toNat) 1) (x1.length - ((w64 ((x1.length : Int) - (x0.length : Int)))).toNat) (c1 - ((w64 ((x1.length : Int) - (x0.length : Int)))).toNat) (len_sub e25 e25l e25h) (hm26.give [0] [.sl (Kd.int .i64) (sub A1 c1 (((w64 ((x1.length : Int) - (x0.length : Int)))).toNat) 1) (c1 - ((w64 ((x1.length : Int) - (x0.length : Int)))).toNat) ((List.take x1.length x1).drop (((w64 ((x1.length : Int) - (x0.length : Int)))).toNat))] rfl rfl) r24 hr24) ?_)
  rintro _ w31 a32 ⟨A29, c30, rfl, hk34⟩ hf33
  have hm35 := hm26.back hk34
  refine gg 1 [] [(0, .slice A0 x0.length c0), (1, .slice A29 r24.length c30)] hf33 ot fun a36 hf37 => ?_
  refine endL rfl ?_
  have hm38 := hm35.se [0, 2] _ rfl
  refine thenN ?_
  refine wp_seq ?_
  refine wp_seq ?_
  refine rg [] [(0, .slice A0 x0.length c0), (1, .slice A29 r24.length c30), (15, vi (r24.length : Int)), (16, vi 0)] hf37 ot fun a39 hf40 => ?_
  refine thenN ?_
  obtain ⟨r42, hr42, H0⟩ := ob_split H0
  refine wpBlock (Mid := fun (a : Act) (w : World) => Fr 31 a [(0, .slice A0 x0.length c0), (1, .slice A29 r42.2.length c30), (15, .int .i64 (r24.length : Int)), (16, .int .i64 r42.1)] ∧ Mem [] M w0 [.ow (Kd.int .i64) 3 A29 c30 r42.2, .sl (Kd.int .i64) A0 c0 x0] w) ?_ ?_
  · refine wpLoop (kernel_from.l0 r24 x0) r42 (fun (s41 : (Int × (List Int))) (a : Act) (w : World) => Fr 31 a [(0, .slice A0 x0.length c0), (1, .slice A29 s41.2.length c30), (15, .int .i64 (r24.length : Int)), (16, .int .i64 s41.1)] ∧ Mem [] M w0 [.ow (Kd.int .i64) 3 A29 c30 s41.2, .sl (Kd.int .i64) A0 c0 x0] w) (0, r24) hr42 ⟨hf40.se [0, 1, 15, 16], hm38.se [0, 1] _ rfl⟩ ?_
    rintro g43 s41 a44 w45 H1 ⟨hf46, hm47⟩
    unfold kernel_from.l0 at H1
    refine wp_seq ?_
    rcases ifS_split H1 with ⟨c48, H1⟩ | ⟨c48, H1⟩
    rotate_left
    · refine rg (ob := [.is (decide (s41.1 < (r24.length : Int)) = false)]) [.bool false] [(0, .slice A0 x0.length c0), (1, .slice A29 s41.2.length c30), (15, vi (r24.length : Int)), (16, vi s41.1), (17, .bool false)] hf46 ⟨(decide_eq_false c48), trivial⟩ fun a76 hf77 => ?_
      refine thenN ?_
      refine wp_seq ?_
      refine cF hf77 ?_
      refine wp_exit ?_
      refine thenE ?_
      refine thenE ?_
      obtain rfl := Option.some.inj H1
      exact .inl ⟨rfl, hf77.se [0, 1, 15, 16], hm47.se [0, 1] _ rfl⟩
    refine rg (ob := [.is (decide (s41.1 < (r24.length : Int)) = true)]) [.bool true] [(0, .slice A0 x0.length c0), (1, .slice A29 s41.2.length c30), (15, vi (r24.length : Int)), (16, vi s41.1), (17, .bool true)] hf46 ⟨(decide_eq_true c48), trivial⟩ fun a49 hf50 => ?_
    refine thenN ?_
    refine wp_seq ?_
    refine cT hf50 ?_
    refine wp_skip ?_
    refine thenN ?_
    refine wp_seq ?_
    refine wp_block ?_
    refine wp_seq ?_
    refine rg [] [(0, .slice A0 x0.length c0), (1, .slice A29 s41.2.length c30), (5, vi s41.1), (15, vi (r24.length : Int)), (16, vi s41.1)] hf50 ot fun a51 hf52 => ?_
    refine thenN ?_
    refine wp_seq ?_
    obtain ⟨g53, H1⟩ := ifS_guard H1
    rcases ifS_split H1 with ⟨c54, H1⟩ | ⟨c54, H1⟩
    rotate_left
    · have q71 := (hm47.slAt 1 rfl).int s41.1 g53.1 g53.2
      refine rg [.int .i64 (rd x0 s41.1), .bool false] [(0, .slice A0 x0.length c0), (1, .slice A29 s41.2.length c30), (5, vi s41.1), (15, vi (r24.length : Int)), (16, vi s41.1), (23, .bool false)] hf52 (oi q71.1 (oi g53 (oc q71.2 (oi (eqF c54) ot)))) fun a72 hf73 => ?_
      refine thenN ?_
      refine cF hf73 ?_
      refine wp_skip ?_
      refine blkN ?_
      refine thenN ?_
      refine rg [] [(0, .slice A0 x0.length c0), (1, .slice A29 s41.2.length c30), (15, vi (r24.length : Int)), (16, vi (w64 (s41.1 + 1)))] hf73 ot fun a74 hf75 => ?_
      exact ⟨((w64 (s41.1 + 1)), s41.2), H1, hf75.se [0, 1, 15, 16], hm47.se [0, 1] _ rfl⟩
    have q55 := (hm47.slAt 1 rfl).int s41.1 g53.1 g53.2
    refine rg [.int .i64 (rd x0 s41.1), .bool true] [(0, .slice A0 x0.length c0), (1, .slice A29 s41.2.length c30), (5, vi s41.1), (15, vi (r24.length : Int)), (16, vi s41.1), (23, .bool true)] hf52 (oi q55.1 (oi g53 (oc q55.2 (oi (eqT c54) ot)))) fun a56 hf57 => ?_
    refine thenN ?_
    refine cT hf57 ?_
    obtain ⟨g58, H1⟩ := ifS_guard H1
    have q59 := (hm47.owAt 0 rfl).int s41.1 g58.1 g58.2
    refine inReg ?_
    refine gg 3 [] [(0, .slice A0 x0.length c0), (1, .slice A29 s41.2.length c30), (15, vi (r24.length : Int)), (16, vi s41.1), (26, .pointer (some ((ad A29).add ((s41.1).toNat * 1))))] hf57 (oi q59.1 (oi g58 ot)) fun a60 hf61 => ?_
    refine lo hf61 rfl (so (i := s41.1) (x := 0) (us := [.int .i64 0]) (sz := 1) hf61 (hm47.at 0 rfl) rfl g58.1 g58.2 ?_)
    intro w62 hx63 hg65
    have hm66 := hm47.setOwn 0 _ rfl rfl hx63 hg65 (.inl rfl)
    refine endL rfl ?_
    refine blkN ?_
    refine thenN ?_
    refine rg [] [(0, .slice A0 x0.length c0), (1, .slice A29 s41.2.length c30), (15, vi (r24.length : Int)), (16, vi (w64 (s41.1 + 1)))] hf61 ot fun a67 hf68 => ?_
    have hf69 : Fr 31 a67 [(0, .slice A0 x0.length c0), (1, .slice A29 s41.2.length c30), (15, .int .i64 (r24.length : Int)), (16, .int .i64 (w64 (s41.1 + 1)))] := hf68.se [0, 1, 15, 16]
    have hm70 : Mem [] M w0 [.ow (Kd.int .i64) 3 A29 c30 (put s41.2 s41.1 0), .sl (Kd.int .i64) A0 c0 x0] w62 := hm66.se [0, 1] _ rfl
    exact ⟨((w64 (s41.1 + 1)), (put s41.2 s41.1 0)), H1, (by simpa only [put_length, List.length_nil] using hf69), (by simpa only [put_length, List.length_nil] using hm70)⟩
  rintro a78 w79 ⟨hf80, hm81⟩
  refine thenN ?_
  refine wp_seq ?_
  obtain ⟨r82, hr82, H0⟩ := ob_split H0
  refine inReg ?_
  refine gg 2 [] [(28, .slice A0 x0.length c0), (29, .slice A29 r42.2.length c30)] hf80 ot fun a83 hf84 => ?_
  have hm85 : Mem [] M w0 [.sl (Kd.int .i64) A29 c30 r42.2, .sl (Kd.int .i64) A0 c0 x0] w79 := hm81.seal 0 _ rfl rfl
  refine lo hf84 rfl (cl 30 hf84 callable67 (shape_Index.calls _ _ _ _ _ _ rfl _ _ _ _ rfl (hm85.give [1, 0] [.sl (Kd.int .i64) A0 c0 x0, .sl (Kd.int .i64) A29 c30 r42.2] rfl rfl) r82 hr82) ?_)
  rintro _ w86 a87 ⟨rfl, hk89⟩ hf88
  have hm90 := hm81.still hk89.cum.none
  refine gg 1 [] [(4, vi r82)] hf88 ot fun a91 hf92 => ?_
  refine endL rfl ?_
  have hm93 := hm90.se [] _ rfl
  refine thenN ?_
  refine wp_ret ?_
  have hm94 : Mem [] M w0 [] w86 := hm93.se [] _ rfl
  obtain rfl := Option.some.inj H0
  refine rt [] [.int .i64 r82] hf92 ot ?_
  exact ⟨_, rfl, rfl, hm94⟩

/-! ### backstitch/kernel.two$1 -/
noncomputable def kernel_two_1.f (x0 : Nat) (x1 : Nat) : Option Nat :=
  some (fadd x0 x1)
set_option maxRecDepth 100000 in
set_option maxHeartbeats 4000000 in
theorem kernel_two_1.calls (M : List (Option Nat)) (w0 : World) (x0 : Nat) (b0 : Nat) (h0 : FR b0 x0) (x1 : Nat) (b1 : Nat) (h1 : FR b1 x1) (hm0 : Mem [] M w0 [] w0) (r : Nat) (H0 : kernel_two_1.f x0 x1 = some r) :
    Calls Try.prog 61 [.float .f64 b0, .float .f64 b1].toArray w0 (fun x w' => ∃ v, x = .returned v ∧ ∃ br0, v = .float .f64 br0 ∧ FR br0 r ∧ Mem [] M w0 [] w') := by
  unfold kernel_two_1.f at H0
  refine enter (n := 8) Try.func61 rfl rfl (by kernel_rfl) fun a0 (hf0 : Fr 8 a0 [(0, .float .f64 b0), (1, .float .f64 b1)]) => ?_
  refine wp_seq ?_
  refine rg [] [(0, vf b0), (1, vf b1)] hf0 ot fun a21 hf22 => ?_
  refine thenN ?_
  refine wp_seq ?_
  refine inReg ?_
  refine gg 2 [] [(5, vf b0), (6, vf b1)] hf22 ot fun a23 hf24 => ?_
  refine lo hf24 rfl (ar (k := 0) (d := 7) hf24 h0 h1 ?_)
  intro b25 w26 a27 hb25 hg29 hf28
  replace hb25 : FR b25 (fadd x0 x1) := hb25
  have hm30 := hm0.still hg29
  refine gg 1 [] [(4, vf b25)] hf28 ot fun a31 hf32 => ?_
  refine endL rfl ?_
  refine thenN ?_
  refine wp_ret ?_
  have hm33 : Mem [] M w0 [] w26 := hm30.se [] _ rfl
  obtain rfl := Option.some.inj H0
  refine rt [] [.float .f64 b25] hf32 ot ?_
  exact ⟨_, rfl, b25, rfl, hb25, hm33⟩

/-! ### backstitch/kernel.two$2 -/
noncomputable def kernel_two_2.f (x0 : Nat) (x1 : Nat) : Option Nat :=
  some (fsub x0 x1)
set_option maxRecDepth 100000 in
set_option maxHeartbeats 4000000 in
theorem kernel_two_2.calls (M : List (Option Nat)) (w0 : World) (x0 : Nat) (b0 : Nat) (h0 : FR b0 x0) (x1 : Nat) (b1 : Nat) (h1 : FR b1 x1) (hm0 : Mem [] M w0 [] w0) (r : Nat) (H0 : kernel_two_2.f x0 x1 = some r) :
    Calls Try.prog 62 [.float .f64 b0, .float .f64 b1].toArray w0 (fun x w' => ∃ v, x = .returned v ∧ ∃ br0, v = .float .f64 br0 ∧ FR br0 r ∧ Mem [] M w0 [] w') := by
  unfold kernel_two_2.f at H0
  refine enter (n := 8) Try.func62 rfl rfl (by kernel_rfl) fun a0 (hf0 : Fr 8 a0 [(0, .float .f64 b0), (1, .float .f64 b1)]) => ?_
  refine wp_seq ?_
  refine rg [] [(0, vf b0), (1, vf b1)] hf0 ot fun a21 hf22 => ?_
  refine thenN ?_
  refine wp_seq ?_
  refine inReg ?_
  refine gg 2 [] [(5, vf b0), (6, vf b1)] hf22 ot fun a23 hf24 => ?_
  refine lo hf24 rfl (ar (k := 1) (d := 7) hf24 h0 h1 ?_)
  intro b25 w26 a27 hb25 hg29 hf28
  replace hb25 : FR b25 (fsub x0 x1) := hb25
  have hm30 := hm0.still hg29
  refine gg 1 [] [(4, vf b25)] hf28 ot fun a31 hf32 => ?_
  refine endL rfl ?_
  refine thenN ?_
  refine wp_ret ?_
  have hm33 : Mem [] M w0 [] w26 := hm30.se [] _ rfl
  obtain rfl := Option.some.inj H0
  refine rt [] [.float .f64 b25] hf32 ot ?_
  exact ⟨_, rfl, b25, rfl, hb25, hm33⟩

/-! ### backstitch/kernel.two$3 -/
noncomputable def kernel_two_3.f (x0 : Nat) (x1 : Nat) : Option Nat :=
  some (fmul x0 x1)
set_option maxRecDepth 100000 in
set_option maxHeartbeats 4000000 in
theorem kernel_two_3.calls (M : List (Option Nat)) (w0 : World) (x0 : Nat) (b0 : Nat) (h0 : FR b0 x0) (x1 : Nat) (b1 : Nat) (h1 : FR b1 x1) (hm0 : Mem [] M w0 [] w0) (r : Nat) (H0 : kernel_two_3.f x0 x1 = some r) :
    Calls Try.prog 63 [.float .f64 b0, .float .f64 b1].toArray w0 (fun x w' => ∃ v, x = .returned v ∧ ∃ br0, v = .float .f64 br0 ∧ FR br0 r ∧ Mem [] M w0 [] w') := by
  unfold kernel_two_3.f at H0
  refine enter (n := 8) Try.func63 rfl rfl (by kernel_rfl) fun a0 (hf0 : Fr 8 a0 [(0, .float .f64 b0), (1, .float .f64 b1)]) => ?_
  refine wp_seq ?_
  refine rg [] [(0, vf b0), (1, vf b1)] hf0 ot fun a21 hf22 => ?_
  refine thenN ?_
  refine wp_seq ?_
  refine inReg ?_
  refine gg 2 [] [(5, vf b0), (6, vf b1)] hf22 ot fun a23 hf24 => ?_
  refine lo hf24 rfl (ar (k := 2) (d := 7) hf24 h0 h1 ?_)
  intro b25 w26 a27 hb25 hg29 hf28
  replace hb25 : FR b25 (fmul x0 x1) := hb25
  have hm30 := hm0.still hg29
  refine gg 1 [] [(4, vf b25)] hf28 ot fun a31 hf32 => ?_
  refine endL rfl ?_
  refine thenN ?_
  refine wp_ret ?_
  have hm33 : Mem [] M w0 [] w26 := hm30.se [] _ rfl
  obtain rfl := Option.some.inj H0
  refine rt [] [.float .f64 b25] hf32 ot ?_
  exact ⟨_, rfl, b25, rfl, hb25, hm33⟩

/-! ### backstitch/kernel.two$4 -/
noncomputable def kernel_two_4.f (x0 : Nat) (x1 : Nat) : Option Nat :=
  some (fdiv x0 x1)
set_option maxRecDepth 100000 in
set_option maxHeartbeats 4000000 in
theorem kernel_two_4.calls (M : List (Option Nat)) (w0 : World) (x0 : Nat) (b0 : Nat) (h0 : FR b0 x0) (x1 : Nat) (b1 : Nat) (h1 : FR b1 x1) (hm0 : Mem [] M w0 [] w0) (r : Nat) (H0 : kernel_two_4.f x0 x1 = some r) :
    Calls Try.prog 64 [.float .f64 b0, .float .f64 b1].toArray w0 (fun x w' => ∃ v, x = .returned v ∧ ∃ br0, v = .float .f64 br0 ∧ FR br0 r ∧ Mem [] M w0 [] w') := by
  unfold kernel_two_4.f at H0
  refine enter (n := 8) Try.func64 rfl rfl (by kernel_rfl) fun a0 (hf0 : Fr 8 a0 [(0, .float .f64 b0), (1, .float .f64 b1)]) => ?_
  refine wp_seq ?_
  refine rg [] [(0, vf b0), (1, vf b1)] hf0 ot fun a21 hf22 => ?_
  refine thenN ?_
  refine wp_seq ?_
  refine inReg ?_
  refine gg 2 [] [(5, vf b0), (6, vf b1)] hf22 ot fun a23 hf24 => ?_
  refine lo hf24 rfl (ar (k := 3) (d := 7) hf24 h0 h1 ?_)
  intro b25 w26 a27 hb25 hg29 hf28
  replace hb25 : FR b25 (fdiv x0 x1) := hb25
  have hm30 := hm0.still hg29
  refine gg 1 [] [(4, vf b25)] hf28 ot fun a31 hf32 => ?_
  refine endL rfl ?_
  refine thenN ?_
  refine wp_ret ?_
  have hm33 : Mem [] M w0 [] w26 := hm30.se [] _ rfl
  obtain rfl := Option.some.inj H0
  refine rt [] [.float .f64 b25] hf32 ot ?_
  exact ⟨_, rfl, b25, rfl, hb25, hm33⟩
end Go.Proofs.Yteaoijahdinciaa
