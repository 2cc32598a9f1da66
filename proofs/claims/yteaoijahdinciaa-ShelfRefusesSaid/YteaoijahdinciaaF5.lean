/- Printed by gen.py. -/
import Derived.Test.YteaoijahdinciaaF1
import Derived.Test.YteaoijahdinciaaF3
namespace Go.Proofs.Yteaoijahdinciaa
open Go Go.RowKit
set_option linter.unusedSimpArgs false
set_option linter.unusedVariables false
set_option linter.unnecessarySimpa false
/-! ### backstitch/shape.Index -/
noncomputable def shape_Index.l0 (x1 : (List Int)) (x0 : (List Int)) (s39 : (Int × Int)) : Step (Int × Int) (Out2 (Int × Int) Int) :=
  if s39.2 < (x1.length : Int) then (if 0 ≤ s39.2 ∧ s39.2 < (x1.length : Int) then (if (rd x1 s39.2) < 0 then (.done (.ret (-1)))
  else (if 0 ≤ s39.2 ∧ s39.2 < (x0.length : Int) then (if (rd x0 s39.2) ≤ (rd x1 s39.2) then (.done (.ret (-1)))
  else (.next ((w64 ((w64 (s39.1 * (rd x0 s39.2))) + (rd x1 s39.2))), (w64 (s39.2 + 1)))))
  else .bad))
  else .bad)
  else (.done (.go (s39.1, s39.2)))
noncomputable def shape_Index.f (x0 : (List Int)) (x1 : (List Int)) : Option Int :=
  (shape_May.f x0).bind fun r23 =>
  if r23 = true then (if (x1.length : Int) = (x0.length : Int) then ((loop (shape_Index.l0 x1 x0) (0, 0)).bind fun r40 =>
  r40.on (fun yr40 =>
  some yr40.1) (fun y => some y))
  else (some (-1)))
  else (some (-1))
set_option maxRecDepth 100000 in
set_option maxHeartbeats 4000000 in
theorem shape_Index.calls (M : List (Option Nat)) (w0 : World) (x0 : (List Int)) (A0 : Option Addr) (n0 c0 : Nat) (e0 : n0 = x0.length) (x1 : (List Int)) (A1 : Option Addr) (n1 c1 : Nat) (e1 : n1 = x1.length) (hm0 : Mem [] M w0 [.sl (Kd.int .i64) A0 c0 x0, .sl (Kd.int .i64) A1 c1 x1] w0) (r : Int) (H0 : shape_Index.f x0 x1 = some r) :
    Calls Try.prog 67 [.slice A0 n0 c0, .slice A1 n1 c1].toArray w0 (fun x w' => ∃ v, x = .returned v ∧ v = .int .i64 r ∧ Mem [] M w0 [] w') := by
  subst e0
  subst e1
  unfold shape_Index.f at H0
  refine enter (n := 45) Try.func67 rfl rfl (by kernel_rfl) fun a0 (hf0 : Fr 45 a0 [(0, .slice A0 x0.length c0), (1, .slice A1 x1.length c1)]) => ?_
  refine wp_seq ?_
  refine reg [] [0, 1] [(0, .slice A0 x0.length c0), (1, .slice A1 x1.length c1)] [] hf0 (by kernel_rfl) trivial fun a21 hf22 => ?_
  refine thenN ?_
  refine wp_seq ?_
  refine wp_seq ?_
  obtain ⟨r23, hr23, H0⟩ := ob_split H0
  rcases ifb_split H0 with ⟨c24, H0⟩ | ⟨c24, H0⟩
  rotate_left
  · refine inReg ?_
    refine go 1 [] [0, 1, 8] [(0, .slice A0 x0.length c0), (1, .slice A1 x1.length c1), (8, .slice A0 x0.length c0)] [] hf22 (by kernel_rfl) trivial fun a105 hf106 => ?_
    refine listOf hf106 rfl (by kernel_rfl) (aCall (fid := 65) (args := [.slice A0 x0.length c0]) (d := 9) hf106 (by kernel_rfl) (by kernel_rfl) callable65 (shape_May.calls _ _ x0 A0 x0.length c0 rfl (hm0.give [0] [.sl (Kd.int .i64) A0 c0 x0] rfl rfl) r23 hr23) ?_)
    rintro _ w107 a108 ⟨rfl, hk110⟩ hf109
    have hm111 := hm0.still hk110.cum.none
    rw [c24] at hf109
    refine go 8 [] [0, 1, 17] [(0, .slice A0 x0.length c0), (1, .slice A1 x1.length c1), (17, .bool true)] [] hf109 (by kernel_rfl) trivial fun a112 hf113 => ?_
    refine endL rfl ?_
    refine thenN ?_
    refine condT hf113 (by kernel_rfl) ?_
    refine wp_seq ?_
    refine reg [] [4] [(4, .int .i64 (-1))] [] hf113 (by kernel_rfl) trivial fun a114 hf115 => ?_
    have hm116 := hm111.sel [] _ rfl (by kernel_rfl)
    refine thenN ?_
    refine wp_ret ?_
    refine thenR ?_
    have hm117 : Mem [] M w0 [] w107 := hm116.sel [] _ rfl (by kernel_rfl)
    obtain rfl := Option.some.inj H0
    refine ret [] [.int .i64 (-1)] [] hf115 (by kernel_rfl) trivial ?_
    exact ⟨_, rfl, rfl, hm117⟩
  rcases if_split H0 with ⟨c25, H0⟩ | ⟨c25, H0⟩
  rotate_left
  · refine inReg ?_
    refine go 1 [] [0, 1, 8] [(0, .slice A0 x0.length c0), (1, .slice A1 x1.length c1), (8, .slice A0 x0.length c0)] [] hf22 (by kernel_rfl) trivial fun a91 hf92 => ?_
    refine listOf hf92 rfl (by kernel_rfl) (aCall (fid := 65) (args := [.slice A0 x0.length c0]) (d := 9) hf92 (by kernel_rfl) (by kernel_rfl) callable65 (shape_May.calls _ _ x0 A0 x0.length c0 rfl (hm0.give [0] [.sl (Kd.int .i64) A0 c0 x0] rfl rfl) r23 hr23) ?_)
    rintro _ w93 a94 ⟨rfl, hk96⟩ hf95
    have hm97 := hm0.still hk96.cum.none
    rw [c24] at hf95
    refine go 8 [.bool true] [0, 1, 17] [(0, .slice A0 x0.length c0), (1, .slice A1 x1.length c1), (17, .bool true)] [.is ((((x1.length : Int) : Int) != (x0.length : Int)) = true)] hf95 (by kernel_rfl) ⟨(neT c25), trivial⟩ fun a98 hf99 => ?_
    refine endL rfl ?_
    refine thenN ?_
    refine condT hf99 (by kernel_rfl) ?_
    refine wp_seq ?_
    refine reg [] [4] [(4, .int .i64 (-1))] [] hf99 (by kernel_rfl) trivial fun a100 hf101 => ?_
    have hm102 := hm97.sel [] _ rfl (by kernel_rfl)
    refine thenN ?_
    refine wp_ret ?_
    refine thenR ?_
    have hm103 : Mem [] M w0 [] w93 := hm102.sel [] _ rfl (by kernel_rfl)
    obtain rfl := Option.some.inj H0
    refine ret [] [.int .i64 (-1)] [] hf101 (by kernel_rfl) trivial ?_
    exact ⟨_, rfl, rfl, hm103⟩
  refine inReg ?_
  refine go 1 [] [0, 1, 8] [(0, .slice A0 x0.length c0), (1, .slice A1 x1.length c1), (8, .slice A0 x0.length c0)] [] hf22 (by kernel_rfl) trivial fun a26 hf27 => ?_
  refine listOf hf27 rfl (by kernel_rfl) (aCall (fid := 65) (args := [.slice A0 x0.length c0]) (d := 9) hf27 (by kernel_rfl) (by kernel_rfl) callable65 (shape_May.calls _ _ x0 A0 x0.length c0 rfl (hm0.give [0] [.sl (Kd.int .i64) A0 c0 x0] rfl rfl) r23 hr23) ?_)
  rintro _ w28 a29 ⟨rfl, hk31⟩ hf30
  have hm32 := hm0.still hk31.cum.none
  rw [c24] at hf30
  refine go 8 [.bool false] [0, 1, 17] [(0, .slice A0 x0.length c0), (1, .slice A1 x1.length c1), (17, .bool false)] [.is ((((x1.length : Int) : Int) != (x0.length : Int)) = false)] hf30 (by kernel_rfl) ⟨(neF c25), trivial⟩ fun a33 hf34 => ?_
  refine endL rfl ?_
  refine thenN ?_
  refine condF hf34 (by kernel_rfl) ?_
  refine wp_skip ?_
  refine thenN ?_
  refine wp_seq ?_
  refine reg [] [0, 1, 5] [(0, .slice A0 x0.length c0), (1, .slice A1 x1.length c1), (5, .int .i64 0)] [] hf34 (by kernel_rfl) trivial fun a35 hf36 => ?_
  refine thenN ?_
  refine wp_seq ?_
  refine wp_seq ?_
  refine reg [] [0, 5, 18, 19, 20] [(0, .slice A0 x0.length c0), (5, .int .i64 0), (18, .slice A1 x1.length c1), (19, .int .i64 (x1.length : Int)), (20, .int .i64 0)] [] hf36 (by kernel_rfl) trivial fun a37 hf38 => ?_
  refine thenN ?_
  obtain ⟨r40, hr40, H0⟩ := ob_split H0
  refine wpBlock (Mid := fun (a : Act) (w : World) => ∃ yr40 : (Int × Int), r40 = .go yr40 ∧ Fr 45 a [(0, .slice A0 x0.length c0), (5, .int .i64 yr40.1), (18, .slice A1 x1.length c1), (19, .int .i64 (x1.length : Int)), (20, .int .i64 yr40.2)] ∧ Mem [] M w0 [.sl (Kd.int .i64) A0 c0 x0, .sl (Kd.int .i64) A1 c1 x1] w) ?_ ?_
  · refine wpLoop (shape_Index.l0 x1 x0) r40 (fun (s39 : (Int × Int)) (a : Act) (w : World) => Fr 45 a [(0, .slice A0 x0.length c0), (5, .int .i64 s39.1), (18, .slice A1 x1.length c1), (19, .int .i64 (x1.length : Int)), (20, .int .i64 s39.2)] ∧ Mem [] M w0 [.sl (Kd.int .i64) A0 c0 x0, .sl (Kd.int .i64) A1 c1 x1] w) (0, 0) hr40 ⟨hf38.sel (l := [0, 5, 18, 19, 20]) (by kernel_rfl), hm32.sel [0, 1] _ rfl (by kernel_rfl)⟩ ?_
    rintro g41 s39 a42 w43 H1 ⟨hf44, hm45⟩
    unfold shape_Index.l0 at H1
    refine wp_seq ?_
    rcases ifS_split H1 with ⟨c46, H1⟩ | ⟨c46, H1⟩
    rotate_left
    · refine reg [.bool false] [0, 5, 18, 19, 20, 21] [(0, .slice A0 x0.length c0), (5, .int .i64 s39.1), (18, .slice A1 x1.length c1), (19, .int .i64 (x1.length : Int)), (20, .int .i64 s39.2), (21, .bool false)] [.is (decide (s39.2 < (x1.length : Int)) = false)] hf44 (by kernel_rfl) ⟨(decide_eq_false c46), trivial⟩ fun a80 hf81 => ?_
      refine thenN ?_
      refine wp_seq ?_
      refine condF hf81 (by kernel_rfl) ?_
      refine wp_exit ?_
      refine thenE ?_
      refine thenE ?_
      obtain rfl := Option.some.inj H1
      exact .inl ⟨rfl, (s39.1, s39.2), rfl, hf81.sel (l := [0, 5, 18, 19, 20]) (by kernel_rfl), hm45.sel [0, 1] _ rfl (by kernel_rfl)⟩
    refine reg [.bool true] [0, 5, 18, 19, 20, 21] [(0, .slice A0 x0.length c0), (5, .int .i64 s39.1), (18, .slice A1 x1.length c1), (19, .int .i64 (x1.length : Int)), (20, .int .i64 s39.2), (21, .bool true)] [.is (decide (s39.2 < (x1.length : Int)) = true)] hf44 (by kernel_rfl) ⟨(decide_eq_true c46), trivial⟩ fun a47 hf48 => ?_
    refine thenN ?_
    refine wp_seq ?_
    refine condT hf48 (by kernel_rfl) ?_
    refine wp_skip ?_
    refine thenN ?_
    refine wp_seq ?_
    refine wp_block ?_
    refine wp_seq ?_
    obtain ⟨g49, H1⟩ := ifS_guard H1
    have q50 := (hm45.slAt 1 rfl).int s39.2 g49.1 g49.2
    refine reg [.int .i64 (rd x1 s39.2)] [0, 5, 6, 7, 18, 19, 20] [(0, .slice A0 x0.length c0), (5, .int .i64 s39.1), (6, .int .i64 s39.2), (7, .int .i64 (rd x1 s39.2)), (18, .slice A1 x1.length c1), (19, .int .i64 (x1.length : Int)), (20, .int .i64 s39.2)] [.is (Option.isSome A1 = true), .is (0 ≤ s39.2 ∧ s39.2 < (x1.length : Int)), .cell ((ad A1).add ((s39.2).toNat * 1)) (.int .i64 (rd x1 s39.2))] hf48 (by kernel_rfl) ⟨q50.1, g49, q50.2, trivial⟩ fun a51 hf52 => ?_
    refine thenN ?_
    refine wp_seq ?_
    refine wp_seq ?_
    rcases ifS_split H1 with ⟨c53, H1⟩ | ⟨c53, H1⟩
    · refine reg [.bool true] [0, 5, 6, 7, 18, 19, 20, 34] [(0, .slice A0 x0.length c0), (5, .int .i64 s39.1), (6, .int .i64 s39.2), (7, .int .i64 (rd x1 s39.2)), (18, .slice A1 x1.length c1), (19, .int .i64 (x1.length : Int)), (20, .int .i64 s39.2), (34, .bool true)] [.is (decide ((rd x1 s39.2) < 0) = true)] hf52 (by kernel_rfl) ⟨(decide_eq_true c53), trivial⟩ fun a54 hf55 => ?_
      refine thenN ?_
      refine condT hf55 (by kernel_rfl) ?_
      refine wp_seq ?_
      refine reg [] [4] [(4, .int .i64 (-1))] [] hf55 (by kernel_rfl) trivial fun a56 hf57 => ?_
      have hm58 := hm45.sel [] _ rfl (by kernel_rfl)
      refine thenN ?_
      refine wp_ret ?_
      refine thenR ?_
      refine blkR ?_
      refine thenR ?_
      refine thenR ?_
      refine .inr ⟨rfl, ?_⟩
      refine thenR ?_
      have hm59 : Mem [] M w0 [] w43 := hm58.sel [] _ rfl (by kernel_rfl)
      obtain rfl := Option.some.inj H1
      obtain rfl := Option.some.inj H0
      refine ret [] [.int .i64 (-1)] [] hf57 (by kernel_rfl) trivial ?_
      exact ⟨_, rfl, rfl, hm59⟩
    obtain ⟨g61, H1⟩ := ifS_guard H1
    rcases ifS_split H1 with ⟨c62, H1⟩ | ⟨c62, H1⟩
    rotate_left
    · have q72 := (hm45.slAt 0 rfl).int s39.2 g61.1 g61.2
      refine reg [.bool false, .int .i64 (rd x0 s39.2), .bool false] [0, 5, 6, 7, 18, 19, 20, 34] [(0, .slice A0 x0.length c0), (5, .int .i64 s39.1), (6, .int .i64 s39.2), (7, .int .i64 (rd x1 s39.2)), (18, .slice A1 x1.length c1), (19, .int .i64 (x1.length : Int)), (20, .int .i64 s39.2), (34, .bool false)] [.is (decide ((rd x1 s39.2) < 0) = false), .is (Option.isSome A0 = true), .is (0 ≤ s39.2 ∧ s39.2 < (x0.length : Int)), .cell ((ad A0).add ((s39.2).toNat * 1)) (.int .i64 (rd x0 s39.2)), .is (decide ((rd x0 s39.2) ≤ (rd x1 s39.2)) = false)] hf52 (by kernel_rfl) ⟨(decide_eq_false c53), q72.1, g61, q72.2, (decide_eq_false c62), trivial⟩ fun a73 hf74 => ?_
      refine thenN ?_
      refine condF hf74 (by kernel_rfl) ?_
      refine wp_skip ?_
      refine thenN ?_
      have q75 := (hm45.slAt 0 rfl).int s39.2 g61.1 g61.2
      refine reg [.int .i64 (rd x0 s39.2)] [0, 5, 18, 19, 20] [(0, .slice A0 x0.length c0), (5, .int .i64 (w64 ((w64 (s39.1 * (rd x0 s39.2))) + (rd x1 s39.2)))), (18, .slice A1 x1.length c1), (19, .int .i64 (x1.length : Int)), (20, .int .i64 s39.2)] [.is (Option.isSome A0 = true), .is (0 ≤ s39.2 ∧ s39.2 < (x0.length : Int)), .cell ((ad A0).add ((s39.2).toNat * 1)) (.int .i64 (rd x0 s39.2))] hf74 (by kernel_rfl) ⟨q75.1, g61, q75.2, trivial⟩ fun a76 hf77 => ?_
      refine blkN ?_
      refine thenN ?_
      refine reg [] [0, 5, 18, 19, 20] [(0, .slice A0 x0.length c0), (5, .int .i64 (w64 ((w64 (s39.1 * (rd x0 s39.2))) + (rd x1 s39.2)))), (18, .slice A1 x1.length c1), (19, .int .i64 (x1.length : Int)), (20, .int .i64 (w64 (s39.2 + 1)))] [] hf77 (by kernel_rfl) trivial fun a78 hf79 => ?_
      exact ⟨((w64 ((w64 (s39.1 * (rd x0 s39.2))) + (rd x1 s39.2))), (w64 (s39.2 + 1))), H1, hf79.sel (l := [0, 5, 18, 19, 20]) (by kernel_rfl), hm45.sel [0, 1] _ rfl (by kernel_rfl)⟩
    have q63 := (hm45.slAt 0 rfl).int s39.2 g61.1 g61.2
    refine reg [.bool false, .int .i64 (rd x0 s39.2), .bool true] [0, 5, 6, 7, 18, 19, 20, 34] [(0, .slice A0 x0.length c0), (5, .int .i64 s39.1), (6, .int .i64 s39.2), (7, .int .i64 (rd x1 s39.2)), (18, .slice A1 x1.length c1), (19, .int .i64 (x1.length : Int)), (20, .int .i64 s39.2), (34, .bool true)] [.is (decide ((rd x1 s39.2) < 0) = false), .is (Option.isSome A0 = true), .is (0 ≤ s39.2 ∧ s39.2 < (x0.length : Int)), .cell ((ad A0).add ((s39.2).toNat * 1)) (.int .i64 (rd x0 s39.2)), .is (decide ((rd x0 s39.2) ≤ (rd x1 s39.2)) = true)] hf52 (by kernel_rfl) ⟨(decide_eq_false c53), q63.1, g61, q63.2, (decide_eq_true c62), trivial⟩ fun a65 hf66 => ?_
    refine thenN ?_
    refine condT hf66 (by kernel_rfl) ?_
    refine wp_seq ?_
    refine reg [] [4] [(4, .int .i64 (-1))] [] hf66 (by kernel_rfl) trivial fun a67 hf68 => ?_
    have hm69 := hm45.sel [] _ rfl (by kernel_rfl)
    refine thenN ?_
    refine wp_ret ?_
    refine thenR ?_
    refine blkR ?_
    refine thenR ?_
    refine thenR ?_
    refine .inr ⟨rfl, ?_⟩
    refine thenR ?_
    have hm70 : Mem [] M w0 [] w43 := hm69.sel [] _ rfl (by kernel_rfl)
    obtain rfl := Option.some.inj H1
    obtain rfl := Option.some.inj H0
    refine ret [] [.int .i64 (-1)] [] hf68 (by kernel_rfl) trivial ?_
    exact ⟨_, rfl, rfl, hm70⟩
  rintro a82 w83 ⟨yr40, rfl, hf84, hm85⟩
  refine thenN ?_
  refine wp_seq ?_
  refine reg [] [4] [(4, .int .i64 yr40.1)] [] hf84 (by kernel_rfl) trivial fun a86 hf87 => ?_
  have hm88 := hm85.sel [] _ rfl (by kernel_rfl)
  refine thenN ?_
  refine wp_ret ?_
  have hm89 : Mem [] M w0 [] w83 := hm88.sel [] _ rfl (by kernel_rfl)
  obtain rfl := Option.some.inj H0
  refine ret [] [.int .i64 yr40.1] [] hf87 (by kernel_rfl) trivial ?_
  exact ⟨_, rfl, rfl, hm89⟩

/-! ### backstitch/kernel.from -/
noncomputable def kernel_from.l0 (r24 : (List Int)) (x0 : (List Int)) (s41 : (Int × (List Int))) : Step (Int × (List Int)) (Int × (List Int)) :=
  if s41.1 < (r24.length : Int) then (if 0 ≤ s41.1 ∧ s41.1 < (x0.length : Int) then (if (rd x0 s41.1) = 1 then (if 0 ≤ s41.1 ∧ s41.1 < (s41.2.length : Int) then (.next ((w64 (s41.1 + 1)), (put s41.2 s41.1 0)))
  else .bad)
  else (.next ((w64 (s41.1 + 1)), s41.2)))
  else .bad)
  else (.done (s41.1, s41.2))
noncomputable def kernel_from.f (x0 : (List Int)) (x1 : (List Int)) : Option Int :=
  if 0 ≤ (w64 ((x1.length : Int) - (x0.length : Int))) ∧ (w64 ((x1.length : Int) - (x0.length : Int))) ≤ (x1.length : Int) then ((slices_Clone_int.f ((List.take x1.length x1).drop (((w64 ((x1.length : Int) - (x0.length : Int)))).toNat))).bind fun r24 =>
  (loop (kernel_from.l0 r24 x0) (0, r24)).bind fun r42 =>
  (shape_Index.f x0 r42.2).bind fun r82 =>
  some r82)
  else none
set_option maxRecDepth 100000 in
set_option maxHeartbeats 4000000 in
theorem kernel_from.calls (M : List (Option Nat)) (w0 : World) (x0 : (List Int)) (A0 : Option Addr) (n0 c0 : Nat) (e0 : n0 = x0.length) (x1 : (List Int)) (A1 : Option Addr) (n1 c1 : Nat) (e1 : n1 = x1.length) (hm0 : Mem [] M w0 [.sl (Kd.int .i64) A0 c0 x0, .sl (Kd.int .i64) A1 c1 x1] w0) (r : Int) (H0 : kernel_from.f x0 x1 = some r) :
    Calls Try.prog 52 [.slice A0 n0 c0, .slice A1 n1 c1].toArray w0 (fun x w' => ∃ v, x = .returned v ∧ v = .int .i64 r ∧ Mem [] M w0 [] w') := by
  subst e0
  subst e1
  unfold kernel_from.f at H0
  refine enter (n := 31) Try.func52 rfl rfl (by kernel_rfl) fun a0 (hf0 : Fr 31 a0 [(0, .slice A0 x0.length c0), (1, .slice A1 x1.length c1)]) => ?_
  refine wp_seq ?_
  refine reg [] [0, 1] [(0, .slice A0 x0.length c0), (1, .slice A1 x1.length c1)] [] hf0 (by kernel_rfl) trivial fun a21 hf22 => ?_
  refine thenN ?_
  refine wp_seq ?_
  obtain ⟨g23, H0⟩ := if_guard H0
  obtain ⟨r24, hr24, H0⟩ := ob_split H0
  have e25 : x1.length = x1.length := rfl
  have e25l : ((w64 ((x1.length : Int) - (x0.length : Int)))).toNat ≤ x1.length := by omega
  have e25h : x1.length ≤ x1.length := by omega
  have hm26 := hm0.sub 1 rfl e25l (e25 ▸ e25h)
  refine inReg ?_
  refine go 7 [] [0, 1, 12] [(0, .slice A0 x0.length c0), (1, .slice A1 x1.length c1), (12, .slice (sub A1 c1 (((w64 ((x1.length : Int) - (x0.length : Int)))).toNat) 1) (x1.length - ((w64 ((x1.length : Int) - (x0.length : Int)))).toNat) (c1 - ((w64 ((x1.length : Int) - (x0.length : Int)))).toNat))] [.is (0 ≤ (w64 ((x1.length : Int) - (x0.length : Int))) ∧ (w64 ((x1.length : Int) - (x0.length : Int))) ≤ (x1.length : Int))] hf22 (by kernel_rfl) ⟨g23, trivial⟩ fun a27 hf28 => ?_
  refine listOf hf28 rfl (by kernel_rfl) (aCall (fid := 39) (args := [.slice (sub A1 c1 (((w64 ((x1.length : Int) - (x0.length : Int)))).toNat) 1) (x1.length - ((w64 ((x1.length : Int) - (x0.length : Int)))).toNat) (c1 - ((w64 ((x1.length : Int) - (x0.length : Int)))).toNat)]) (d := 13) hf28 (by kernel_rfl) (by kernel_rfl) callable39 (slices_Clone_int.calls _ _ ((List.take x1.length x1).drop (((w64 ((x1.length : Int) - (x0.length : Int)))).toNat)) (sub A1 c1 (((w64 ((x1.length : Int) - (x0.length : Int)))).toNat) 1) (x1.length - ((w64 ((x1.length : Int) - (x0.length : Int)))).toNat) (c1 - ((w64 ((x1.length : Int) - (x0.length : Int)))).toNat) (len_sub e25 e25l e25h) (hm26.give [0] [.sl (Kd.int .i64) (sub A1 c1 (((w64 ((x1.length : Int) - (x0.length : Int)))).toNat) 1) (c1 - ((w64 ((x1.length : Int) - (x0.length : Int)))).toNat) ((List.take x1.length x1).drop (((w64 ((x1.length : Int) - (x0.length : Int)))).toNat))] rfl rfl) r24 hr24) ?_)
  rintro _ w31 a32 ⟨A29, c30, rfl, hk34⟩ hf33
  have hm35 := hm26.back hk34
  refine go 1 [] [0, 1] [(0, .slice A0 x0.length c0), (1, .slice A29 r24.length c30)] [] hf33 (by kernel_rfl) trivial fun a36 hf37 => ?_
  refine endL rfl ?_
  have hm38 := hm35.sel [0, 2] _ rfl (by kernel_rfl)
  refine thenN ?_
  refine wp_seq ?_
  refine wp_seq ?_
  refine reg [] [0, 1, 15, 16] [(0, .slice A0 x0.length c0), (1, .slice A29 r24.length c30), (15, .int .i64 (r24.length : Int)), (16, .int .i64 0)] [] hf37 (by kernel_rfl) trivial fun a39 hf40 => ?_
  refine thenN ?_
  obtain ⟨r42, hr42, H0⟩ := ob_split H0
  refine wpBlock (Mid := fun (a : Act) (w : World) => Fr 31 a [(0, .slice A0 x0.length c0), (1, .slice A29 r42.2.length c30), (15, .int .i64 (r24.length : Int)), (16, .int .i64 r42.1)] ∧ Mem [] M w0 [.ow (Kd.int .i64) 3 A29 c30 r42.2, .sl (Kd.int .i64) A0 c0 x0] w) ?_ ?_
  · refine wpLoop (kernel_from.l0 r24 x0) r42 (fun (s41 : (Int × (List Int))) (a : Act) (w : World) => Fr 31 a [(0, .slice A0 x0.length c0), (1, .slice A29 s41.2.length c30), (15, .int .i64 (r24.length : Int)), (16, .int .i64 s41.1)] ∧ Mem [] M w0 [.ow (Kd.int .i64) 3 A29 c30 s41.2, .sl (Kd.int .i64) A0 c0 x0] w) (0, r24) hr42 ⟨hf40.sel (l := [0, 1, 15, 16]) (by kernel_rfl), hm38.sel [0, 1] _ rfl (by kernel_rfl)⟩ ?_
    rintro g43 s41 a44 w45 H1 ⟨hf46, hm47⟩
    unfold kernel_from.l0 at H1
    refine wp_seq ?_
    rcases ifS_split H1 with ⟨c48, H1⟩ | ⟨c48, H1⟩
    rotate_left
    · refine reg [.bool false] [0, 1, 15, 16, 17] [(0, .slice A0 x0.length c0), (1, .slice A29 s41.2.length c30), (15, .int .i64 (r24.length : Int)), (16, .int .i64 s41.1), (17, .bool false)] [.is (decide (s41.1 < (r24.length : Int)) = false)] hf46 (by kernel_rfl) ⟨(decide_eq_false c48), trivial⟩ fun a76 hf77 => ?_
      refine thenN ?_
      refine wp_seq ?_
      refine condF hf77 (by kernel_rfl) ?_
      refine wp_exit ?_
      refine thenE ?_
      refine thenE ?_
      obtain rfl := Option.some.inj H1
      exact .inl ⟨rfl, hf77.sel (l := [0, 1, 15, 16]) (by kernel_rfl), hm47.sel [0, 1] _ rfl (by kernel_rfl)⟩
    refine reg [.bool true] [0, 1, 15, 16, 17] [(0, .slice A0 x0.length c0), (1, .slice A29 s41.2.length c30), (15, .int .i64 (r24.length : Int)), (16, .int .i64 s41.1), (17, .bool true)] [.is (decide (s41.1 < (r24.length : Int)) = true)] hf46 (by kernel_rfl) ⟨(decide_eq_true c48), trivial⟩ fun a49 hf50 => ?_
    refine thenN ?_
    refine wp_seq ?_
    refine condT hf50 (by kernel_rfl) ?_
    refine wp_skip ?_
    refine thenN ?_
    refine wp_seq ?_
    refine wp_block ?_
    refine wp_seq ?_
    refine reg [] [0, 1, 5, 15, 16] [(0, .slice A0 x0.length c0), (1, .slice A29 s41.2.length c30), (5, .int .i64 s41.1), (15, .int .i64 (r24.length : Int)), (16, .int .i64 s41.1)] [] hf50 (by kernel_rfl) trivial fun a51 hf52 => ?_
    refine thenN ?_
    refine wp_seq ?_
    obtain ⟨g53, H1⟩ := ifS_guard H1
    rcases ifS_split H1 with ⟨c54, H1⟩ | ⟨c54, H1⟩
    rotate_left
    · have q71 := (hm47.slAt 1 rfl).int s41.1 g53.1 g53.2
      refine reg [.int .i64 (rd x0 s41.1), .bool false] [0, 1, 5, 15, 16, 23] [(0, .slice A0 x0.length c0), (1, .slice A29 s41.2.length c30), (5, .int .i64 s41.1), (15, .int .i64 (r24.length : Int)), (16, .int .i64 s41.1), (23, .bool false)] [.is (Option.isSome A0 = true), .is (0 ≤ s41.1 ∧ s41.1 < (x0.length : Int)), .cell ((ad A0).add ((s41.1).toNat * 1)) (.int .i64 (rd x0 s41.1)), .is ((((rd x0 s41.1) : Int) == 1) = false)] hf52 (by kernel_rfl) ⟨q71.1, g53, q71.2, (eqF c54), trivial⟩ fun a72 hf73 => ?_
      refine thenN ?_
      refine condF hf73 (by kernel_rfl) ?_
      refine wp_skip ?_
      refine blkN ?_
      refine thenN ?_
      refine reg [] [0, 1, 15, 16] [(0, .slice A0 x0.length c0), (1, .slice A29 s41.2.length c30), (15, .int .i64 (r24.length : Int)), (16, .int .i64 (w64 (s41.1 + 1)))] [] hf73 (by kernel_rfl) trivial fun a74 hf75 => ?_
      exact ⟨((w64 (s41.1 + 1)), s41.2), H1, hf75.sel (l := [0, 1, 15, 16]) (by kernel_rfl), hm47.sel [0, 1] _ rfl (by kernel_rfl)⟩
    have q55 := (hm47.slAt 1 rfl).int s41.1 g53.1 g53.2
    refine reg [.int .i64 (rd x0 s41.1), .bool true] [0, 1, 5, 15, 16, 23] [(0, .slice A0 x0.length c0), (1, .slice A29 s41.2.length c30), (5, .int .i64 s41.1), (15, .int .i64 (r24.length : Int)), (16, .int .i64 s41.1), (23, .bool true)] [.is (Option.isSome A0 = true), .is (0 ≤ s41.1 ∧ s41.1 < (x0.length : Int)), .cell ((ad A0).add ((s41.1).toNat * 1)) (.int .i64 (rd x0 s41.1)), .is ((((rd x0 s41.1) : Int) == 1) = true)] hf52 (by kernel_rfl) ⟨q55.1, g53, q55.2, (eqT c54), trivial⟩ fun a56 hf57 => ?_
    refine thenN ?_
    refine condT hf57 (by kernel_rfl) ?_
    obtain ⟨g58, H1⟩ := ifS_guard H1
    have q59 := (hm47.owAt 0 rfl).int s41.1 g58.1 g58.2
    refine inReg ?_
    refine go 3 [] [0, 1, 15, 16, 26] [(0, .slice A0 x0.length c0), (1, .slice A29 s41.2.length c30), (15, .int .i64 (r24.length : Int)), (16, .int .i64 s41.1), (26, .pointer (some ((ad A29).add ((s41.1).toNat * 1))))] [.is (Option.isSome A29 = true), .is (0 ≤ s41.1 ∧ s41.1 < (s41.2.length : Int))] hf57 (by kernel_rfl) ⟨q59.1, g58, trivial⟩ fun a60 hf61 => ?_
    refine listOf hf61 rfl (by kernel_rfl) (aStoreO (kd := (Kd.int .i64)) (base := 0) (E := 3) (A := A29) (c := c30) (xs := s41.2) (i := s41.1) (x := 0) (us := [.int .i64 0]) (sz := 1) hf61 (by kernel_rfl) rfl (by kernel_rfl) (hm47.at 0 rfl) rfl g58.1 g58.2 ?_)
    intro w62 hx63 hg65
    have hm66 := hm47.setOwn 0 _ rfl rfl hx63 hg65 (.inl rfl)
    refine endL rfl ?_
    refine blkN ?_
    refine thenN ?_
    refine reg [] [0, 1, 15, 16] [(0, .slice A0 x0.length c0), (1, .slice A29 s41.2.length c30), (15, .int .i64 (r24.length : Int)), (16, .int .i64 (w64 (s41.1 + 1)))] [] hf61 (by kernel_rfl) trivial fun a67 hf68 => ?_
    have hf69 : Fr 31 a67 [(0, .slice A0 x0.length c0), (1, .slice A29 s41.2.length c30), (15, .int .i64 (r24.length : Int)), (16, .int .i64 (w64 (s41.1 + 1)))] := hf68.sel (l := [0, 1, 15, 16]) (by kernel_rfl)
    have hm70 : Mem [] M w0 [.ow (Kd.int .i64) 3 A29 c30 (put s41.2 s41.1 0), .sl (Kd.int .i64) A0 c0 x0] w62 := hm66.sel [0, 1] _ rfl (by kernel_rfl)
    exact ⟨((w64 (s41.1 + 1)), (put s41.2 s41.1 0)), H1, (by simpa only [put_length, List.length_nil] using hf69), (by simpa only [put_length, List.length_nil] using hm70)⟩
  rintro a78 w79 ⟨hf80, hm81⟩
  refine thenN ?_
  refine wp_seq ?_
  obtain ⟨r82, hr82, H0⟩ := ob_split H0
  refine inReg ?_
  refine go 2 [] [28, 29] [(28, .slice A0 x0.length c0), (29, .slice A29 r42.2.length c30)] [] hf80 (by kernel_rfl) trivial fun a83 hf84 => ?_
  have hm85 : Mem [] M w0 [.sl (Kd.int .i64) A29 c30 r42.2, .sl (Kd.int .i64) A0 c0 x0] w79 := hm81.seal 0 _ rfl rfl
  refine listOf hf84 rfl (by kernel_rfl) (aCall (fid := 67) (args := [.slice A0 x0.length c0, .slice A29 r42.2.length c30]) (d := 30) hf84 (by kernel_rfl) (by kernel_rfl) callable67 (shape_Index.calls _ _ x0 A0 x0.length c0 rfl r42.2 A29 r42.2.length c30 rfl (hm85.give [1, 0] [.sl (Kd.int .i64) A0 c0 x0, .sl (Kd.int .i64) A29 c30 r42.2] rfl rfl) r82 hr82) ?_)
  rintro _ w86 a87 ⟨rfl, hk89⟩ hf88
  have hm90 := hm81.still hk89.cum.none
  refine go 1 [] [4] [(4, .int .i64 r82)] [] hf88 (by kernel_rfl) trivial fun a91 hf92 => ?_
  refine endL rfl ?_
  have hm93 := hm90.sel [] _ rfl (by kernel_rfl)
  refine thenN ?_
  refine wp_ret ?_
  have hm94 : Mem [] M w0 [] w86 := hm93.sel [] _ rfl (by kernel_rfl)
  obtain rfl := Option.some.inj H0
  refine ret [] [.int .i64 r82] [] hf92 (by kernel_rfl) trivial ?_
  exact ⟨_, rfl, rfl, hm94⟩

/-! ### backstitch/kernel.two$1 -/
noncomputable def kernel_two_1.f (x0 : Nat) (x1 : Nat) : Option Nat :=
  some (fadd x0 x1)
set_option maxRecDepth 100000 in
set_option maxHeartbeats 4000000 in
theorem kernel_two_1.calls (M : List (Option Nat)) (w0 : World) (x0 : Nat) (b0 : Nat) (h0 : FR b0 x0) (x1 : Nat) (b1 : Nat) (h1 : FR b1 x1) (hm0 : Mem [] M w0 [] w0) (r : Nat) (H0 : kernel_two_1.f x0 x1 = some r) :
    Calls Try.prog 61 [.float .f64 b0, .float .f64 b1].toArray w0 (fun x w' => ∃ v, x = .returned v ∧ ∃ br0, v = .float .f64 br0 ∧ FR br0 r ∧ Mem [] M w0 [] w') := by
  unfold kernel_two_1.f at H0
  refine enter (n := 8) Try.func61 rfl rfl (by kernel_rfl) fun a0 (hf0 : Fr 8 a0 [(0, .float .f64 b0), (1, .float .f64 b1)]) => ?_
  refine wp_seq ?_
  refine reg [] [0, 1] [(0, .float .f64 b0), (1, .float .f64 b1)] [] hf0 (by kernel_rfl) trivial fun a21 hf22 => ?_
  refine thenN ?_
  refine wp_seq ?_
  refine inReg ?_
  refine go 2 [] [5, 6] [(5, .float .f64 b0), (6, .float .f64 b1)] [] hf22 (by kernel_rfl) trivial fun a23 hf24 => ?_
  refine listOf hf24 rfl (by kernel_rfl) (aArith (k := 0) (b := b0) (c := b1) (x := x0) (y := x1) (d := 7) hf24 (by kernel_rfl) (by kernel_rfl) h0 h1 ?_)
  intro b25 w26 a27 hb25 hg29 hf28
  replace hb25 : FR b25 (fadd x0 x1) := hb25
  have hm30 := hm0.still hg29
  refine go 1 [] [4] [(4, .float .f64 b25)] [] hf28 (by kernel_rfl) trivial fun a31 hf32 => ?_
  refine endL rfl ?_
  refine thenN ?_
  refine wp_ret ?_
  have hm33 : Mem [] M w0 [] w26 := hm30.sel [] _ rfl (by kernel_rfl)
  obtain rfl := Option.some.inj H0
  refine ret [] [.float .f64 b25] [] hf32 (by kernel_rfl) trivial ?_
  exact ⟨_, rfl, b25, rfl, hb25, hm33⟩

/-! ### backstitch/kernel.two$2 -/
noncomputable def kernel_two_2.f (x0 : Nat) (x1 : Nat) : Option Nat :=
  some (fsub x0 x1)
set_option maxRecDepth 100000 in
set_option maxHeartbeats 4000000 in
theorem kernel_two_2.calls (M : List (Option Nat)) (w0 : World) (x0 : Nat) (b0 : Nat) (h0 : FR b0 x0) (x1 : Nat) (b1 : Nat) (h1 : FR b1 x1) (hm0 : Mem [] M w0 [] w0) (r : Nat) (H0 : kernel_two_2.f x0 x1 = some r) :
    Calls Try.prog 62 [.float .f64 b0, .float .f64 b1].toArray w0 (fun x w' => ∃ v, x = .returned v ∧ ∃ br0, v = .float .f64 br0 ∧ FR br0 r ∧ Mem [] M w0 [] w') := by
  unfold kernel_two_2.f at H0
  refine enter (n := 8) Try.func62 rfl rfl (by kernel_rfl) fun a0 (hf0 : Fr 8 a0 [(0, .float .f64 b0), (1, .float .f64 b1)]) => ?_
  refine wp_seq ?_
  refine reg [] [0, 1] [(0, .float .f64 b0), (1, .float .f64 b1)] [] hf0 (by kernel_rfl) trivial fun a21 hf22 => ?_
  refine thenN ?_
  refine wp_seq ?_
  refine inReg ?_
  refine go 2 [] [5, 6] [(5, .float .f64 b0), (6, .float .f64 b1)] [] hf22 (by kernel_rfl) trivial fun a23 hf24 => ?_
  refine listOf hf24 rfl (by kernel_rfl) (aArith (k := 1) (b := b0) (c := b1) (x := x0) (y := x1) (d := 7) hf24 (by kernel_rfl) (by kernel_rfl) h0 h1 ?_)
  intro b25 w26 a27 hb25 hg29 hf28
  replace hb25 : FR b25 (fsub x0 x1) := hb25
  have hm30 := hm0.still hg29
  refine go 1 [] [4] [(4, .float .f64 b25)] [] hf28 (by kernel_rfl) trivial fun a31 hf32 => ?_
  refine endL rfl ?_
  refine thenN ?_
  refine wp_ret ?_
  have hm33 : Mem [] M w0 [] w26 := hm30.sel [] _ rfl (by kernel_rfl)
  obtain rfl := Option.some.inj H0
  refine ret [] [.float .f64 b25] [] hf32 (by kernel_rfl) trivial ?_
  exact ⟨_, rfl, b25, rfl, hb25, hm33⟩

/-! ### backstitch/kernel.two$3 -/
noncomputable def kernel_two_3.f (x0 : Nat) (x1 : Nat) : Option Nat :=
  some (fmul x0 x1)
set_option maxRecDepth 100000 in
set_option maxHeartbeats 4000000 in
theorem kernel_two_3.calls (M : List (Option Nat)) (w0 : World) (x0 : Nat) (b0 : Nat) (h0 : FR b0 x0) (x1 : Nat) (b1 : Nat) (h1 : FR b1 x1) (hm0 : Mem [] M w0 [] w0) (r : Nat) (H0 : kernel_two_3.f x0 x1 = some r) :
    Calls Try.prog 63 [.float .f64 b0, .float .f64 b1].toArray w0 (fun x w' => ∃ v, x = .returned v ∧ ∃ br0, v = .float .f64 br0 ∧ FR br0 r ∧ Mem [] M w0 [] w') := by
  unfold kernel_two_3.f at H0
  refine enter (n := 8) Try.func63 rfl rfl (by kernel_rfl) fun a0 (hf0 : Fr 8 a0 [(0, .float .f64 b0), (1, .float .f64 b1)]) => ?_
  refine wp_seq ?_
  refine reg [] [0, 1] [(0, .float .f64 b0), (1, .float .f64 b1)] [] hf0 (by kernel_rfl) trivial fun a21 hf22 => ?_
  refine thenN ?_
  refine wp_seq ?_
  refine inReg ?_
  refine go 2 [] [5, 6] [(5, .float .f64 b0), (6, .float .f64 b1)] [] hf22 (by kernel_rfl) trivial fun a23 hf24 => ?_
  refine listOf hf24 rfl (by kernel_rfl) (aArith (k := 2) (b := b0) (c := b1) (x := x0) (y := x1) (d := 7) hf24 (by kernel_rfl) (by kernel_rfl) h0 h1 ?_)
  intro b25 w26 a27 hb25 hg29 hf28
  replace hb25 : FR b25 (fmul x0 x1) := hb25
  have hm30 := hm0.still hg29
  refine go 1 [] [4] [(4, .float .f64 b25)] [] hf28 (by kernel_rfl) trivial fun a31 hf32 => ?_
  refine endL rfl ?_
  refine thenN ?_
  refine wp_ret ?_
  have hm33 : Mem [] M w0 [] w26 := hm30.sel [] _ rfl (by kernel_rfl)
  obtain rfl := Option.some.inj H0
  refine ret [] [.float .f64 b25] [] hf32 (by kernel_rfl) trivial ?_
  exact ⟨_, rfl, b25, rfl, hb25, hm33⟩

/-! ### backstitch/kernel.two$4 -/
noncomputable def kernel_two_4.f (x0 : Nat) (x1 : Nat) : Option Nat :=
  some (fdiv x0 x1)
set_option maxRecDepth 100000 in
set_option maxHeartbeats 4000000 in
theorem kernel_two_4.calls (M : List (Option Nat)) (w0 : World) (x0 : Nat) (b0 : Nat) (h0 : FR b0 x0) (x1 : Nat) (b1 : Nat) (h1 : FR b1 x1) (hm0 : Mem [] M w0 [] w0) (r : Nat) (H0 : kernel_two_4.f x0 x1 = some r) :
    Calls Try.prog 64 [.float .f64 b0, .float .f64 b1].toArray w0 (fun x w' => ∃ v, x = .returned v ∧ ∃ br0, v = .float .f64 br0 ∧ FR br0 r ∧ Mem [] M w0 [] w') := by
  unfold kernel_two_4.f at H0
  refine enter (n := 8) Try.func64 rfl rfl (by kernel_rfl) fun a0 (hf0 : Fr 8 a0 [(0, .float .f64 b0), (1, .float .f64 b1)]) => ?_
  refine wp_seq ?_
  refine reg [] [0, 1] [(0, .float .f64 b0), (1, .float .f64 b1)] [] hf0 (by kernel_rfl) trivial fun a21 hf22 => ?_
  refine thenN ?_
  refine wp_seq ?_
  refine inReg ?_
  refine go 2 [] [5, 6] [(5, .float .f64 b0), (6, .float .f64 b1)] [] hf22 (by kernel_rfl) trivial fun a23 hf24 => ?_
  refine listOf hf24 rfl (by kernel_rfl) (aArith (k := 3) (b := b0) (c := b1) (x := x0) (y := x1) (d := 7) hf24 (by kernel_rfl) (by kernel_rfl) h0 h1 ?_)
  intro b25 w26 a27 hb25 hg29 hf28
  replace hb25 : FR b25 (fdiv x0 x1) := hb25
  have hm30 := hm0.still hg29
  refine go 1 [] [4] [(4, .float .f64 b25)] [] hf28 (by kernel_rfl) trivial fun a31 hf32 => ?_
  refine endL rfl ?_
  refine thenN ?_
  refine wp_ret ?_
  have hm33 : Mem [] M w0 [] w26 := hm30.sel [] _ rfl (by kernel_rfl)
  obtain rfl := Option.some.inj H0
  refine ret [] [.float .f64 b25] [] hf32 (by kernel_rfl) trivial ?_
  exact ⟨_, rfl, b25, rfl, hb25, hm33⟩
end Go.Proofs.Yteaoijahdinciaa
