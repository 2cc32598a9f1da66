/- Printed by gen.py. -/
import Derived.Test.YtkcgiolledmbnabF0
import Derived.Test.YtkcgiolledmbnabF2
namespace Go.Proofs.Ytkcgiolledmbnab
open Go Go.RowKit
set_option linter.unusedSimpArgs false
set_option linter.unusedVariables false
set_option linter.unnecessarySimpa false
/-! ### backstitch/shape.May -/
noncomputable def shape_May.f (x0 : (List Int)) : Option Bool :=
  (shape_Size.f x0).bind fun r23 =>
  if r23.2 = 0 then (some true)
  else (some false)
set_option maxRecDepth 100000 in
set_option maxHeartbeats 4000000 in
theorem shape_May.calls (M : List (Option Nat)) (w0 : World) (x0 : (List Int)) (A0 : Option Addr) (n0 c0 : Nat) (e0 : n0 = x0.length) (hm0 : Mem [] M w0 [.sl (Kd.int .i64) A0 c0 x0] w0) (r : Bool) (H0 : shape_May.f x0 = some r) :
    Calls Try.prog 82 [.slice A0 n0 c0].toArray w0 (fun x w' => ∃ v, x = .returned v ∧ v = .bool r ∧ Mem [] M w0 [] w') := by
  subst e0
  unfold shape_May.f at H0
  refine enter (n := 12) Try.func82 rfl rfl (by kernel_rfl) fun a0 (hf0 : Fr 12 a0 [(0, .slice A0 x0.length c0)]) => ?_
  refine wp_seq ?_
  refine reg [] [0] [(0, .slice A0 x0.length c0)] [] hf0 (by kernel_rfl) trivial fun a21 hf22 => ?_
  refine thenN ?_
  refine wp_seq ?_
  obtain ⟨r23, hr23, H0⟩ := ob_split H0
  refine inReg ?_
  refine go 1 [] [6] [(6, .slice A0 x0.length c0)] [] hf22 (by kernel_rfl) trivial fun a24 hf25 => ?_
  refine listOf hf25 rfl (by kernel_rfl) (aCall (fid := 53) (args := [.slice A0 x0.length c0]) (d := 7) hf25 (by kernel_rfl) (by kernel_rfl) callable53 (shape_Size.calls _ _ x0 A0 x0.length c0 rfl (hm0.give [0] [.sl (Kd.int .i64) A0 c0 x0] rfl rfl) r23 hr23) ?_)
  rintro _ w26 a27 ⟨rfl, hk29⟩ hf28
  have hm30 := hm0.still hk29.cum.none
  refine go 5 [] [4] [(4, .int .i64 r23.2)] [] hf28 (by kernel_rfl) trivial fun a31 hf32 => ?_
  refine endL rfl ?_
  have hm33 := hm30.sel [] _ rfl (by kernel_rfl)
  refine thenN ?_
  refine wp_seq ?_
  rcases if_split H0 with ⟨c34, H0⟩ | ⟨c34, H0⟩
  · refine reg [.bool true] [2] [(2, .bool true)] [.is (((r23.2 : Int) == 0) = true)] hf32 (by kernel_rfl) ⟨(eqT c34), trivial⟩ fun a35 hf36 => ?_
    refine thenN ?_
    refine wp_ret ?_
    have hm37 : Mem [] M w0 [] w26 := hm33.sel [] _ rfl (by kernel_rfl)
    obtain rfl := Option.some.inj H0
    refine ret [] [.bool true] [] hf36 (by kernel_rfl) trivial ?_
    exact ⟨_, rfl, rfl, hm37⟩
  · refine reg [.bool false] [2] [(2, .bool false)] [.is (((r23.2 : Int) == 0) = false)] hf32 (by kernel_rfl) ⟨(eqF c34), trivial⟩ fun a39 hf40 => ?_
    refine thenN ?_
    refine wp_ret ?_
    have hm41 : Mem [] M w0 [] w26 := hm33.sel [] _ rfl (by kernel_rfl)
    obtain rfl := Option.some.inj H0
    refine ret [] [.bool false] [] hf40 (by kernel_rfl) trivial ?_
    exact ⟨_, rfl, rfl, hm41⟩

/-! ### backstitch/shape.Index -/
noncomputable def shape_Index.l0 (x1 : (List Int)) (x0 : (List Int)) (s39 : (Int × Int)) : Step (Int × Int) (Out2 (Int × Int) Int) :=
  if s39.2 < (x1.length : Int) then (if 0 ≤ s39.2 ∧ s39.2 < (x1.length : Int) then (if (rd x1 s39.2) < 0 then (.done (.ret (-1)))
  else (if 0 ≤ s39.2 ∧ s39.2 < (x0.length : Int) then (if (rd x0 s39.2) ≤ (rd x1 s39.2) then (.done (.ret (-1)))
  else (.next ((w64 ((w64 (s39.1 * (rd x0 s39.2))) + (rd x1 s39.2))), (w64 (s39.2 + 1)))))
  else .bad))
  else .bad)
  else (.done (.go (s39.1, s39.2)))
noncomputable def shape_Index.f (x0 : (List Int)) (x1 : (List Int)) : Option Int :=
  (shape_May.f x0).bind fun r23 =>
  if r23 = true then (if (x1.length : Int) = (x0.length : Int) then ((loop (shape_Index.l0 x1 x0) (0, 0)).bind fun r40 =>
  r40.on (fun yr40 =>
  some yr40.1) (fun y => some y))
  else (some (-1)))
  else (some (-1))
set_option maxRecDepth 100000 in
set_option maxHeartbeats 4000000 in
theorem shape_Index.calls (M : List (Option Nat)) (w0 : World) (x0 : (List Int)) (A0 : Option Addr) (n0 c0 : Nat) (e0 : n0 = x0.length) (x1 : (List Int)) (A1 : Option Addr) (n1 c1 : Nat) (e1 : n1 = x1.length) (hm0 : Mem [] M w0 [.sl (Kd.int .i64) A0 c0 x0, .sl (Kd.int .i64) A1 c1 x1] w0) (r : Int) (H0 : shape_Index.f x0 x1 = some r) :
    Calls Try.prog 60 [.slice A0 n0 c0, .slice A1 n1 c1].toArray w0 (fun x w' => ∃ v, x = .returned v ∧ v = .int .i64 r ∧ Mem [] M w0 [] w') := by
  subst e0
  subst e1
  unfold shape_Index.f at H0
  refine enter (n := 45) Try.func60 rfl rfl (by kernel_rfl) fun a0 (hf0 : Fr 45 a0 [(0, .slice A0 x0.length c0), (1, .slice A1 x1.length c1)]) => ?_
  refine wp_seq ?_
  refine reg [] [0, 1] [(0, .slice A0 x0.length c0), (1, .slice A1 x1.length c1)] [] hf0 (by kernel_rfl) trivial fun a21 hf22 => ?_
  refine thenN ?_
  refine wp_seq ?_
  refine wp_seq ?_
  obtain ⟨r23, hr23, H0⟩ := ob_split H0
  rcases ifb_split H0 with ⟨c24, H0⟩ | ⟨c24, H0⟩
  · rcases if_split H0 with ⟨c25, H0⟩ | ⟨c25, H0⟩
    · refine inReg ?_
      refine go 1 [] [0, 1, 8] [(0, .slice A0 x0.length c0), (1, .slice A1 x1.length c1), (8, .slice A0 x0.length c0)] [] hf22 (by kernel_rfl) trivial fun a26 hf27 => ?_
      refine listOf hf27 rfl (by kernel_rfl) (aCall (fid := 82) (args := [.slice A0 x0.length c0]) (d := 9) hf27 (by kernel_rfl) (by kernel_rfl) callable82 (shape_May.calls _ _ x0 A0 x0.length c0 rfl (hm0.give [0] [.sl (Kd.int .i64) A0 c0 x0] rfl rfl) r23 hr23) ?_)
      rintro _ w28 a29 ⟨rfl, hk31⟩ hf30
      have hm32 := hm0.still hk31.cum.none
      rw [c24] at hf30
      refine go 8 [.bool false] [0, 1, 17] [(0, .slice A0 x0.length c0), (1, .slice A1 x1.length c1), (17, .bool false)] [.is ((((x1.length : Int) : Int) != (x0.length : Int)) = false)] hf30 (by kernel_rfl) ⟨(neF c25), trivial⟩ fun a33 hf34 => ?_
      refine endL rfl ?_
      refine thenN ?_
      refine condF hf34 (by kernel_rfl) ?_
      refine wp_skip ?_
      refine thenN ?_
      refine wp_seq ?_
      refine reg [] [0, 1, 5] [(0, .slice A0 x0.length c0), (1, .slice A1 x1.length c1), (5, .int .i64 0)] [] hf34 (by kernel_rfl) trivial fun a35 hf36 => ?_
      refine thenN ?_
      refine wp_seq ?_
      refine wp_seq ?_
      refine reg [] [0, 5, 18, 19, 20] [(0, .slice A0 x0.length c0), (5, .int .i64 0), (18, .slice A1 x1.length c1), (19, .int .i64 (x1.length : Int)), (20, .int .i64 0)] [] hf36 (by kernel_rfl) trivial fun a37 hf38 => ?_
      refine thenN ?_
      obtain ⟨r40, hr40, H0⟩ := ob_split H0
      refine wpBlock (Mid := fun (a : Act) (w : World) => ∃ yr40 : (Int × Int), r40 = .go yr40 ∧ Fr 45 a [(0, .slice A0 x0.length c0), (5, .int .i64 yr40.1), (18, .slice A1 x1.length c1), (19, .int .i64 (x1.length : Int)), (20, .int .i64 yr40.2)] ∧ Mem [] M w0 [.sl (Kd.int .i64) A0 c0 x0, .sl (Kd.int .i64) A1 c1 x1] w) ?_ ?_
      · refine wpLoop (shape_Index.l0 x1 x0) r40 (fun (s39 : (Int × Int)) (a : Act) (w : World) => Fr 45 a [(0, .slice A0 x0.length c0), (5, .int .i64 s39.1), (18, .slice A1 x1.length c1), (19, .int .i64 (x1.length : Int)), (20, .int .i64 s39.2)] ∧ Mem [] M w0 [.sl (Kd.int .i64) A0 c0 x0, .sl (Kd.int .i64) A1 c1 x1] w) (0, 0) hr40 ⟨hf38.sel (l := [0, 5, 18, 19, 20]) (by kernel_rfl), hm32.sel [0, 1] _ rfl (by kernel_rfl)⟩ ?_
        rintro g41 s39 a42 w43 H1 ⟨hf44, hm45⟩
        unfold shape_Index.l0 at H1
        refine wp_seq ?_
        rcases ifS_split H1 with ⟨c46, H1⟩ | ⟨c46, H1⟩
        · refine reg [.bool true] [0, 5, 18, 19, 20, 21] [(0, .slice A0 x0.length c0), (5, .int .i64 s39.1), (18, .slice A1 x1.length c1), (19, .int .i64 (x1.length : Int)), (20, .int .i64 s39.2), (21, .bool true)] [.is (decide (s39.2 < (x1.length : Int)) = true)] hf44 (by kernel_rfl) ⟨(decide_eq_true c46), trivial⟩ fun a47 hf48 => ?_
          refine thenN ?_
          refine wp_seq ?_
          refine condT hf48 (by kernel_rfl) ?_
          refine wp_skip ?_
          refine thenN ?_
          refine wp_seq ?_
          refine wp_block ?_
          refine wp_seq ?_
          obtain ⟨g49, H1⟩ := ifS_guard H1
          have q50 := (hm45.slAt 1 rfl).int s39.2 g49.1 g49.2
          refine reg [.int .i64 (rd x1 s39.2)] [0, 5, 6, 7, 18, 19, 20] [(0, .slice A0 x0.length c0), (5, .int .i64 s39.1), (6, .int .i64 s39.2), (7, .int .i64 (rd x1 s39.2)), (18, .slice A1 x1.length c1), (19, .int .i64 (x1.length : Int)), (20, .int .i64 s39.2)] [.is (Option.isSome A1 = true), .is (0 ≤ s39.2 ∧ s39.2 < (x1.length : Int)), .cell ((ad A1).add ((s39.2).toNat * 1)) (.int .i64 (rd x1 s39.2))] hf48 (by kernel_rfl) ⟨q50.1, g49, q50.2, trivial⟩ fun a51 hf52 => ?_
          refine thenN ?_
          refine wp_seq ?_
          refine wp_seq ?_
          rcases ifS_split H1 with ⟨c53, H1⟩ | ⟨c53, H1⟩
          · refine reg [.bool true] [0, 5, 6, 7, 18, 19, 20, 34] [(0, .slice A0 x0.length c0), (5, .int .i64 s39.1), (6, .int .i64 s39.2), (7, .int .i64 (rd x1 s39.2)), (18, .slice A1 x1.length c1), (19, .int .i64 (x1.length : Int)), (20, .int .i64 s39.2), (34, .bool true)] [.is (decide ((rd x1 s39.2) < 0) = true)] hf52 (by kernel_rfl) ⟨(decide_eq_true c53), trivial⟩ fun a54 hf55 => ?_
            refine thenN ?_
            refine condT hf55 (by kernel_rfl) ?_
            refine wp_seq ?_
            refine reg [] [4] [(4, .int .i64 (-1))] [] hf55 (by kernel_rfl) trivial fun a56 hf57 => ?_
            have hm58 := hm45.sel [] _ rfl (by kernel_rfl)
            refine thenN ?_
            refine wp_ret ?_
            refine thenR ?_
            refine blkR ?_
            refine thenR ?_
            refine thenR ?_
            refine .inr ⟨rfl, ?_⟩
            refine thenR ?_
            have hm59 : Mem [] M w0 [] w43 := hm58.sel [] _ rfl (by kernel_rfl)
            obtain rfl := Option.some.inj H1
            obtain rfl := Option.some.inj H0
            refine ret [] [.int .i64 (-1)] [] hf57 (by kernel_rfl) trivial ?_
            exact ⟨_, rfl, rfl, hm59⟩
          · obtain ⟨g61, H1⟩ := ifS_guard H1
            rcases ifS_split H1 with ⟨c62, H1⟩ | ⟨c62, H1⟩
            · have q63 := (hm45.slAt 0 rfl).int s39.2 g61.1 g61.2
              refine reg [.bool false, .int .i64 (rd x0 s39.2), .bool true] [0, 5, 6, 7, 18, 19, 20, 34] [(0, .slice A0 x0.length c0), (5, .int .i64 s39.1), (6, .int .i64 s39.2), (7, .int .i64 (rd x1 s39.2)), (18, .slice A1 x1.length c1), (19, .int .i64 (x1.length : Int)), (20, .int .i64 s39.2), (34, .bool true)] [.is (decide ((rd x1 s39.2) < 0) = false), .is (Option.isSome A0 = true), .is (0 ≤ s39.2 ∧ s39.2 < (x0.length : Int)), .cell ((ad A0).add ((s39.2).toNat * 1)) (.int .i64 (rd x0 s39.2)), .is (decide ((rd x0 s39.2) ≤ (rd x1 s39.2)) = true)] hf52 (by kernel_rfl) ⟨(decide_eq_false c53), q63.1, g61, q63.2, (decide_eq_true c62), trivial⟩ fun a65 hf66 => ?_
              refine thenN ?_
              refine condT hf66 (by kernel_rfl) ?_
              refine wp_seq ?_
              refine reg [] [4] [(4, .int .i64 (-1))] [] hf66 (by kernel_rfl) trivial fun a67 hf68 => ?_
              have hm69 := hm45.sel [] _ rfl (by kernel_rfl)
              refine thenN ?_
              refine wp_ret ?_
              refine thenR ?_
              refine blkR ?_
              refine thenR ?_
              refine thenR ?_
              refine .inr ⟨rfl, ?_⟩
              refine thenR ?_
              have hm70 : Mem [] M w0 [] w43 := hm69.sel [] _ rfl (by kernel_rfl)
              obtain rfl := Option.some.inj H1
              obtain rfl := Option.some.inj H0
              refine ret [] [.int .i64 (-1)] [] hf68 (by kernel_rfl) trivial ?_
              exact ⟨_, rfl, rfl, hm70⟩
            · have q72 := (hm45.slAt 0 rfl).int s39.2 g61.1 g61.2
              refine reg [.bool false, .int .i64 (rd x0 s39.2), .bool false] [0, 5, 6, 7, 18, 19, 20, 34] [(0, .slice A0 x0.length c0), (5, .int .i64 s39.1), (6, .int .i64 s39.2), (7, .int .i64 (rd x1 s39.2)), (18, .slice A1 x1.length c1), (19, .int .i64 (x1.length : Int)), (20, .int .i64 s39.2), (34, .bool false)] [.is (decide ((rd x1 s39.2) < 0) = false), .is (Option.isSome A0 = true), .is (0 ≤ s39.2 ∧ s39.2 < (x0.length : Int)), .cell ((ad A0).add ((s39.2).toNat * 1)) (.int .i64 (rd x0 s39.2)), .is (decide ((rd x0 s39.2) ≤ (rd x1 s39.2)) = false)] hf52 (by kernel_rfl) ⟨(decide_eq_false c53), q72.1, g61, q72.2, (decide_eq_false c62), trivial⟩ fun a73 hf74 => ?_
              refine thenN ?_
              refine condF hf74 (by kernel_rfl) ?_
              refine wp_skip ?_
              refine thenN ?_
              have q75 := (hm45.slAt 0 rfl).int s39.2 g61.1 g61.2
              refine reg [.int .i64 (rd x0 s39.2)] [0, 5, 18, 19, 20] [(0, .slice A0 x0.length c0), (5, .int .i64 (w64 ((w64 (s39.1 * (rd x0 s39.2))) + (rd x1 s39.2)))), (18, .slice A1 x1.length c1), (19, .int .i64 (x1.length : Int)), (20, .int .i64 s39.2)] [.is (Option.isSome A0 = true), .is (0 ≤ s39.2 ∧ s39.2 < (x0.length : Int)), .cell ((ad A0).add ((s39.2).toNat * 1)) (.int .i64 (rd x0 s39.2))] hf74 (by kernel_rfl) ⟨q75.1, g61, q75.2, trivial⟩ fun a76 hf77 => ?_
              refine blkN ?_
              refine thenN ?_
              refine reg [] [0, 5, 18, 19, 20] [(0, .slice A0 x0.length c0), (5, .int .i64 (w64 ((w64 (s39.1 * (rd x0 s39.2))) + (rd x1 s39.2)))), (18, .slice A1 x1.length c1), (19, .int .i64 (x1.length : Int)), (20, .int .i64 (w64 (s39.2 + 1)))] [] hf77 (by kernel_rfl) trivial fun a78 hf79 => ?_
              exact ⟨((w64 ((w64 (s39.1 * (rd x0 s39.2))) + (rd x1 s39.2))), (w64 (s39.2 + 1))), H1, hf79.sel (l := [0, 5, 18, 19, 20]) (by kernel_rfl), hm45.sel [0, 1] _ rfl (by kernel_rfl)⟩
        · refine reg [.bool false] [0, 5, 18, 19, 20, 21] [(0, .slice A0 x0.length c0), (5, .int .i64 s39.1), (18, .slice A1 x1.length c1), (19, .int .i64 (x1.length : Int)), (20, .int .i64 s39.2), (21, .bool false)] [.is (decide (s39.2 < (x1.length : Int)) = false)] hf44 (by kernel_rfl) ⟨(decide_eq_false c46), trivial⟩ fun a80 hf81 => ?_
          refine thenN ?_
          refine wp_seq ?_
          refine condF hf81 (by kernel_rfl) ?_
          refine wp_exit ?_
          refine thenE ?_
          refine thenE ?_
          obtain rfl := Option.some.inj H1
          exact .inl ⟨rfl, (s39.1, s39.2), rfl, hf81.sel (l := [0, 5, 18, 19, 20]) (by kernel_rfl), hm45.sel [0, 1] _ rfl (by kernel_rfl)⟩
      rintro a82 w83 ⟨yr40, rfl, hf84, hm85⟩
      refine thenN ?_
      refine wp_seq ?_
      refine reg [] [4] [(4, .int .i64 yr40.1)] [] hf84 (by kernel_rfl) trivial fun a86 hf87 => ?_
      have hm88 := hm85.sel [] _ rfl (by kernel_rfl)
      refine thenN ?_
      refine wp_ret ?_
      have hm89 : Mem [] M w0 [] w83 := hm88.sel [] _ rfl (by kernel_rfl)
      obtain rfl := Option.some.inj H0
      refine ret [] [.int .i64 yr40.1] [] hf87 (by kernel_rfl) trivial ?_
      exact ⟨_, rfl, rfl, hm89⟩
    · refine inReg ?_
      refine go 1 [] [0, 1, 8] [(0, .slice A0 x0.length c0), (1, .slice A1 x1.length c1), (8, .slice A0 x0.length c0)] [] hf22 (by kernel_rfl) trivial fun a91 hf92 => ?_
      refine listOf hf92 rfl (by kernel_rfl) (aCall (fid := 82) (args := [.slice A0 x0.length c0]) (d := 9) hf92 (by kernel_rfl) (by kernel_rfl) callable82 (shape_May.calls _ _ x0 A0 x0.length c0 rfl (hm0.give [0] [.sl (Kd.int .i64) A0 c0 x0] rfl rfl) r23 hr23) ?_)
      rintro _ w93 a94 ⟨rfl, hk96⟩ hf95
      have hm97 := hm0.still hk96.cum.none
      rw [c24] at hf95
      refine go 8 [.bool true] [0, 1, 17] [(0, .slice A0 x0.length c0), (1, .slice A1 x1.length c1), (17, .bool true)] [.is ((((x1.length : Int) : Int) != (x0.length : Int)) = true)] hf95 (by kernel_rfl) ⟨(neT c25), trivial⟩ fun a98 hf99 => ?_
      refine endL rfl ?_
      refine thenN ?_
      refine condT hf99 (by kernel_rfl) ?_
      refine wp_seq ?_
      refine reg [] [4] [(4, .int .i64 (-1))] [] hf99 (by kernel_rfl) trivial fun a100 hf101 => ?_
      have hm102 := hm97.sel [] _ rfl (by kernel_rfl)
      refine thenN ?_
      refine wp_ret ?_
      refine thenR ?_
      have hm103 : Mem [] M w0 [] w93 := hm102.sel [] _ rfl (by kernel_rfl)
      obtain rfl := Option.some.inj H0
      refine ret [] [.int .i64 (-1)] [] hf101 (by kernel_rfl) trivial ?_
      exact ⟨_, rfl, rfl, hm103⟩
  · refine inReg ?_
    refine go 1 [] [0, 1, 8] [(0, .slice A0 x0.length c0), (1, .slice A1 x1.length c1), (8, .slice A0 x0.length c0)] [] hf22 (by kernel_rfl) trivial fun a105 hf106 => ?_
    refine listOf hf106 rfl (by kernel_rfl) (aCall (fid := 82) (args := [.slice A0 x0.length c0]) (d := 9) hf106 (by kernel_rfl) (by kernel_rfl) callable82 (shape_May.calls _ _ x0 A0 x0.length c0 rfl (hm0.give [0] [.sl (Kd.int .i64) A0 c0 x0] rfl rfl) r23 hr23) ?_)
    rintro _ w107 a108 ⟨rfl, hk110⟩ hf109
    have hm111 := hm0.still hk110.cum.none
    rw [c24] at hf109
    refine go 8 [] [0, 1, 17] [(0, .slice A0 x0.length c0), (1, .slice A1 x1.length c1), (17, .bool true)] [] hf109 (by kernel_rfl) trivial fun a112 hf113 => ?_
    refine endL rfl ?_
    refine thenN ?_
    refine condT hf113 (by kernel_rfl) ?_
    refine wp_seq ?_
    refine reg [] [4] [(4, .int .i64 (-1))] [] hf113 (by kernel_rfl) trivial fun a114 hf115 => ?_
    have hm116 := hm111.sel [] _ rfl (by kernel_rfl)
    refine thenN ?_
    refine wp_ret ?_
    refine thenR ?_
    have hm117 : Mem [] M w0 [] w107 := hm116.sel [] _ rfl (by kernel_rfl)
    obtain rfl := Option.some.inj H0
    refine ret [] [.int .i64 (-1)] [] hf115 (by kernel_rfl) trivial ?_
    exact ⟨_, rfl, rfl, hm117⟩

/-! ### backstitch/tensor.At -/
noncomputable def tensor_At.f (x0 : Tensor) (x1 : (List Int)) : Option (Nat × Bool) :=
  (shape_Index.f x0.Shape x1).bind fun r30 =>
  (tensor_May.f x0).bind fun r41 =>
  if r41 = true then (if r30 < 0 then (some (0, false))
  else (if 0 ≤ r30 ∧ r30 < (x0.Data.length : Int) then (some ((rd x0.Data r30), true))
  else none))
  else (some (0, false))
set_option maxRecDepth 100000 in
set_option maxHeartbeats 4000000 in
theorem tensor_At.calls (M : List (Option Nat)) (w0 : World) (x0 : Tensor) (A0_0 : Option Addr) (n0_0 c0_0 : Nat) (e0_0 : n0_0 = x0.Shape.length) (A0_1 : Option Addr) (n0_1 c0_1 : Nat) (e0_1 : n0_1 = x0.Data.length) (x1 : (List Int)) (A1 : Option Addr) (n1 c1 : Nat) (e1 : n1 = x1.length) (hm0 : Mem [] M w0 [.sl (Kd.int .i64) A0_0 c0_0 x0.Shape, .sl Kd.float A0_1 c0_1 x0.Data, .sl (Kd.int .i64) A1 c1 x1] w0) (r : (Nat × Bool)) (H0 : tensor_At.f x0 x1 = some r) :
    Calls Try.prog 33 [.agg #[.slice A0_0 n0_0 c0_0, .slice A0_1 n0_1 c0_1], .slice A1 n1 c1].toArray w0 (fun x w' => ∃ v, x = .returned v ∧ ∃ br0, v = .tuple #[.float .f64 br0, .bool r.2] ∧ FR br0 r.1 ∧ Mem [] M w0 [] w') := by
  subst e0_0
  subst e0_1
  subst e1
  unfold tensor_At.f at H0
  refine enter (n := 23) Try.func33 rfl rfl (by kernel_rfl) fun a0 (hf0 : Fr 23 a0 [(0, .agg #[.slice A0_0 x0.Shape.length c0_0, .slice A0_1 x0.Data.length c0_1]), (1, .slice A1 x1.length c1)]) => ?_
  refine wp_seq ?_
  refine inReg ?_
  refine listOf hf0 rfl (by kernel_rfl) (aNew (cs := [.slice A0_0 x0.Shape.length c0_0, .slice A0_1 x0.Data.length c0_1]) (T := 28) (d := 2) hf0 (by kernel_rfl) (by kernel_rfl) ?_)
  intro b21 w22 a23 hbb21 hx25 hg26 hf24
  have hm27 := hm0.box hbb21 hx25 hg26
  refine go 2 [] [1, 2] [(1, .slice A1 x1.length c1), (2, .pointer (some ⟨b21, 0, none⟩))] [] hf24 (by kernel_rfl) trivial fun a28 hf29 => ?_
  refine endL rfl ?_
  refine thenN ?_
  refine wp_seq ?_
  obtain ⟨r30, hr30, H0⟩ := ob_split H0
  refine inReg ?_
  refine go 3 [.slice A0_0 x0.Shape.length c0_0] [2, 8, 9] [(2, .pointer (some ⟨b21, 0, none⟩)), (8, .slice A0_0 x0.Shape.length c0_0), (9, .slice A1 x1.length c1)] [.cell ⟨b21, 0, none⟩ (.slice A0_0 x0.Shape.length c0_0)] hf29 (by kernel_rfl) ⟨(hm27.cell 0 rfl rfl), trivial⟩ fun a31 hf32 => ?_
  refine listOf hf32 rfl (by kernel_rfl) (aCall (fid := 60) (args := [.slice A0_0 x0.Shape.length c0_0, .slice A1 x1.length c1]) (d := 10) hf32 (by kernel_rfl) (by kernel_rfl) callable60 (shape_Index.calls _ _ x0.Shape A0_0 x0.Shape.length c0_0 rfl x1 A1 x1.length c1 rfl (hm27.give [1, 3] [.sl (Kd.int .i64) A0_0 c0_0 x0.Shape, .sl (Kd.int .i64) A1 c1 x1] rfl rfl) r30 hr30) ?_)
  rintro _ w33 a34 ⟨rfl, hk36⟩ hf35
  have hm37 := hm27.still hk36.cum.none
  refine go 1 [] [2, 6] [(2, .pointer (some ⟨b21, 0, none⟩)), (6, .int .i64 r30)] [] hf35 (by kernel_rfl) trivial fun a38 hf39 => ?_
  refine endL rfl ?_
  have hm40 := hm37.sel [0, 1, 2] _ rfl (by kernel_rfl)
  refine thenN ?_
  refine wp_seq ?_
  refine wp_seq ?_
  obtain ⟨r41, hr41, H0⟩ := ob_split H0
  rcases ifb_split H0 with ⟨c42, H0⟩ | ⟨c42, H0⟩
  · rcases if_split H0 with ⟨c43, H0⟩ | ⟨c43, H0⟩
    · refine inReg ?_
      refine go 1 [.agg #[.slice A0_0 x0.Shape.length c0_0, .slice A0_1 x0.Data.length c0_1]] [2, 6, 11] [(2, .pointer (some ⟨b21, 0, none⟩)), (6, .int .i64 r30), (11, .agg #[.slice A0_0 x0.Shape.length c0_0, .slice A0_1 x0.Data.length c0_1])] [.cell ⟨b21, 0, none⟩ (.slice A0_0 x0.Shape.length c0_0), .cell ⟨b21, 1, none⟩ (.slice A0_1 x0.Data.length c0_1)] hf39 (by kernel_rfl) ⟨(hm40.cell 0 rfl rfl), (hm40.cell 0 rfl rfl), trivial⟩ fun a44 hf45 => ?_
      refine listOf hf45 rfl (by kernel_rfl) (aCall (fid := 38) (args := [.agg #[.slice A0_0 x0.Shape.length c0_0, .slice A0_1 x0.Data.length c0_1]]) (d := 12) hf45 (by kernel_rfl) (by kernel_rfl) callable38 (tensor_May.calls _ _ x0 A0_0 x0.Shape.length c0_0 rfl A0_1 x0.Data.length c0_1 rfl (hm40.give [1, 2] [.sl (Kd.int .i64) A0_0 c0_0 x0.Shape, .sl Kd.float A0_1 c0_1 x0.Data] rfl rfl) r41 hr41) ?_)
      rintro _ w46 a47 ⟨rfl, hk49⟩ hf48
      have hm50 := hm40.still hk49.cum.none
      rw [c42] at hf48
      refine go 5 [.bool true] [2, 6, 17] [(2, .pointer (some ⟨b21, 0, none⟩)), (6, .int .i64 r30), (17, .bool true)] [.is (decide (r30 < 0) = true)] hf48 (by kernel_rfl) ⟨(decide_eq_true c43), trivial⟩ fun a51 hf52 => ?_
      refine endL rfl ?_
      refine thenN ?_
      refine condT hf52 (by kernel_rfl) ?_
      refine wp_seq ?_
      refine reg [] [4, 5] [(4, .float .f64 0), (5, .bool false)] [] hf52 (by kernel_rfl) trivial fun a53 hf54 => ?_
      have hm55 := hm50.sel [] _ rfl (by kernel_rfl)
      refine thenN ?_
      refine wp_ret ?_
      refine thenR ?_
      have hm56 : Mem [] M w0 [] w46 := hm55.sel [] _ rfl (by kernel_rfl)
      obtain rfl := Option.some.inj H0
      refine ret [] [.float .f64 0, .bool false] [] hf54 (by kernel_rfl) trivial ?_
      exact ⟨_, rfl, 0, rfl, (FR.lit (by kernel_rfl) (by kernel_rfl)), hm56⟩
    · refine inReg ?_
      refine go 1 [.agg #[.slice A0_0 x0.Shape.length c0_0, .slice A0_1 x0.Data.length c0_1]] [2, 6, 11] [(2, .pointer (some ⟨b21, 0, none⟩)), (6, .int .i64 r30), (11, .agg #[.slice A0_0 x0.Shape.length c0_0, .slice A0_1 x0.Data.length c0_1])] [.cell ⟨b21, 0, none⟩ (.slice A0_0 x0.Shape.length c0_0), .cell ⟨b21, 1, none⟩ (.slice A0_1 x0.Data.length c0_1)] hf39 (by kernel_rfl) ⟨(hm40.cell 0 rfl rfl), (hm40.cell 0 rfl rfl), trivial⟩ fun a58 hf59 => ?_
      refine listOf hf59 rfl (by kernel_rfl) (aCall (fid := 38) (args := [.agg #[.slice A0_0 x0.Shape.length c0_0, .slice A0_1 x0.Data.length c0_1]]) (d := 12) hf59 (by kernel_rfl) (by kernel_rfl) callable38 (tensor_May.calls _ _ x0 A0_0 x0.Shape.length c0_0 rfl A0_1 x0.Data.length c0_1 rfl (hm40.give [1, 2] [.sl (Kd.int .i64) A0_0 c0_0 x0.Shape, .sl Kd.float A0_1 c0_1 x0.Data] rfl rfl) r41 hr41) ?_)
      rintro _ w60 a61 ⟨rfl, hk63⟩ hf62
      have hm65 := hm40.still hk63.cum.none
      rw [c42] at hf62
      refine go 5 [.bool false] [2, 6, 17] [(2, .pointer (some ⟨b21, 0, none⟩)), (6, .int .i64 r30), (17, .bool false)] [.is (decide (r30 < 0) = false)] hf62 (by kernel_rfl) ⟨(decide_eq_false c43), trivial⟩ fun a66 hf67 => ?_
      refine endL rfl ?_
      refine thenN ?_
      refine condF hf67 (by kernel_rfl) ?_
      refine wp_skip ?_
      refine thenN ?_
      refine wp_seq ?_
      obtain ⟨g68, H0⟩ := if_guard H0
      have q69 := (hm65.slAt 2 rfl).float r30 g68.1 g68.2
      obtain ⟨b70, hb70, kb70⟩ := q69.2
      refine reg [.slice A0_1 x0.Data.length c0_1, .float .f64 b70] [4, 5] [(4, .float .f64 b70), (5, .bool true)] [.cell ⟨b21, 1, none⟩ (.slice A0_1 x0.Data.length c0_1), .is (Option.isSome A0_1 = true), .is (0 ≤ r30 ∧ r30 < (x0.Data.length : Int)), .cell ((ad A0_1).add ((r30).toNat * 1)) (.float .f64 b70)] hf67 (by kernel_rfl) ⟨(hm65.cell 0 rfl rfl), q69.1, g68, kb70, trivial⟩ fun a71 hf72 => ?_
      have hm73 := hm65.sel [] _ rfl (by kernel_rfl)
      refine thenN ?_
      refine wp_ret ?_
      have hm74 : Mem [] M w0 [] w60 := hm73.sel [] _ rfl (by kernel_rfl)
      obtain rfl := Option.some.inj H0
      refine ret [] [.float .f64 b70, .bool true] [] hf72 (by kernel_rfl) trivial ?_
      exact ⟨_, rfl, b70, rfl, hb70, hm74⟩
  · refine inReg ?_
    refine go 1 [.agg #[.slice A0_0 x0.Shape.length c0_0, .slice A0_1 x0.Data.length c0_1]] [2, 6, 11] [(2, .pointer (some ⟨b21, 0, none⟩)), (6, .int .i64 r30), (11, .agg #[.slice A0_0 x0.Shape.length c0_0, .slice A0_1 x0.Data.length c0_1])] [.cell ⟨b21, 0, none⟩ (.slice A0_0 x0.Shape.length c0_0), .cell ⟨b21, 1, none⟩ (.slice A0_1 x0.Data.length c0_1)] hf39 (by kernel_rfl) ⟨(hm40.cell 0 rfl rfl), (hm40.cell 0 rfl rfl), trivial⟩ fun a76 hf77 => ?_
    refine listOf hf77 rfl (by kernel_rfl) (aCall (fid := 38) (args := [.agg #[.slice A0_0 x0.Shape.length c0_0, .slice A0_1 x0.Data.length c0_1]]) (d := 12) hf77 (by kernel_rfl) (by kernel_rfl) callable38 (tensor_May.calls _ _ x0 A0_0 x0.Shape.length c0_0 rfl A0_1 x0.Data.length c0_1 rfl (hm40.give [1, 2] [.sl (Kd.int .i64) A0_0 c0_0 x0.Shape, .sl Kd.float A0_1 c0_1 x0.Data] rfl rfl) r41 hr41) ?_)
    rintro _ w78 a79 ⟨rfl, hk81⟩ hf80
    have hm82 := hm40.still hk81.cum.none
    rw [c42] at hf80
    refine go 5 [] [2, 6, 17] [(2, .pointer (some ⟨b21, 0, none⟩)), (6, .int .i64 r30), (17, .bool true)] [] hf80 (by kernel_rfl) trivial fun a83 hf84 => ?_
    refine endL rfl ?_
    refine thenN ?_
    refine condT hf84 (by kernel_rfl) ?_
    refine wp_seq ?_
    refine reg [] [4, 5] [(4, .float .f64 0), (5, .bool false)] [] hf84 (by kernel_rfl) trivial fun a85 hf86 => ?_
    have hm87 := hm82.sel [] _ rfl (by kernel_rfl)
    refine thenN ?_
    refine wp_ret ?_
    refine thenR ?_
    have hm88 : Mem [] M w0 [] w78 := hm87.sel [] _ rfl (by kernel_rfl)
    obtain rfl := Option.some.inj H0
    refine ret [] [.float .f64 0, .bool false] [] hf86 (by kernel_rfl) trivial ?_
    exact ⟨_, rfl, 0, rfl, (FR.lit (by kernel_rfl) (by kernel_rfl)), hm88⟩

/-! ### math.IsNaN -/
noncomputable def math_IsNaN.f (x0 : Nat) : Option Bool :=
  if (fne x0 x0) = true then (some true)
  else (some false)
set_option maxRecDepth 100000 in
set_option maxHeartbeats 4000000 in
theorem math_IsNaN.calls (M : List (Option Nat)) (w0 : World) (x0 : Nat) (b0 : Nat) (h0 : FR b0 x0) (hm0 : Mem [] M w0 [] w0) (r : Bool) (H0 : math_IsNaN.f x0 = some r) :
    Calls Try.prog 85 [.float .f64 b0].toArray w0 (fun x w' => ∃ v, x = .returned v ∧ v = .bool r ∧ Mem [] M w0 [] w') := by
  unfold math_IsNaN.f at H0
  refine enter (n := 6) Try.func85 rfl rfl (by kernel_rfl) fun a0 (hf0 : Fr 6 a0 [(0, .float .f64 b0)]) => ?_
  refine wp_seq ?_
  refine reg [] [0] [(0, .float .f64 b0)] [] hf0 (by kernel_rfl) trivial fun a21 hf22 => ?_
  refine thenN ?_
  refine wp_seq ?_
  rcases ifb_split H0 with ⟨c23, H0⟩ | ⟨c23, H0⟩
  · refine reg [.bool true] [2] [(2, .bool true)] [.is ((FloatKind.f64.format.order b0 b0 != some .eq) = true)] hf22 (by kernel_rfl) ⟨(ftNe h0 h0 c23), trivial⟩ fun a24 hf25 => ?_
    refine thenN ?_
    refine wp_ret ?_
    have hm26 : Mem [] M w0 [] w0 := hm0.sel [] _ rfl (by kernel_rfl)
    obtain rfl := Option.some.inj H0
    refine ret [] [.bool true] [] hf25 (by kernel_rfl) trivial ?_
    exact ⟨_, rfl, rfl, hm26⟩
  · refine reg [.bool false] [2] [(2, .bool false)] [.is ((FloatKind.f64.format.order b0 b0 != some .eq) = false)] hf22 (by kernel_rfl) ⟨(ftNe h0 h0 c23), trivial⟩ fun a28 hf29 => ?_
    refine thenN ?_
    refine wp_ret ?_
    have hm30 : Mem [] M w0 [] w0 := hm0.sel [] _ rfl (by kernel_rfl)
    obtain rfl := Option.some.inj H0
    refine ret [] [.bool false] [] hf29 (by kernel_rfl) trivial ?_
    exact ⟨_, rfl, rfl, hm30⟩

/-! ### math.Abs -/
noncomputable def math_Abs.f (x0 : Nat) : Option Nat := some (fabs x0)
set_option maxRecDepth 100000 in
theorem math_Abs.calls (M : List (Option Nat)) (w0 : World) (x0 : Nat) (b0 : Nat) (h0 : FR b0 x0) (hm0 : Mem [] M w0 [] w0) (r : Nat) (H0 : math_Abs.f x0 = some r) :
    Calls Try.prog 37 [.float .f64 b0].toArray w0 (fun x w' => ∃ v, x = .returned v ∧ ∃ b, v = .float .f64 b ∧ FR b r ∧ Mem [] M w0 [] w') := by
  unfold math_Abs.f at H0
  obtain rfl := Option.some.inj H0
  refine enter (n := 7) Try.func37 rfl rfl (by kernel_rfl) fun a0 (hf0 : Fr 7 a0 [(0, .float .f64 b0)]) => ?_
  refine wp_seq ?_
  refine reg [] [0] [(0, .float .f64 b0)] [] hf0 (by kernel_rfl) trivial fun a1 hf2 => ?_
  refine thenN ?_
  refine wp_seq ?_
  refine inReg ?_
  refine go 1 [] [3] [(3, .float .f64 b0)] [] hf2 (by kernel_rfl) trivial fun a3 hf3 => ?_
  refine listOf hf3 rfl (by kernel_rfl) (aExtern (fid := 64) (args := [.float .f64 b0]) (d := 4) (R := fun v w' => v = .int .u64 (b0 : Int) ∧ w0 = w') hf3 (by kernel_rfl) (by kernel_rfl) ⟨_, Try.func64, rfl, rfl, by kernel_rfl, rfl⟩ ⟨_, _, run_bits _, rfl, rfl⟩ ?_)
  rintro _ _ a4 ⟨rfl, rfl⟩ hf4
  refine listOf hf4 rfl (by kernel_rfl) (aBin (.int .u64 ((b0 % 2 ^ 63 : Nat) : Int)) hf4 rfl (by kernel_rfl) (fun _ _ => rfl) (run_andNot_sign h0.1) ?_)
  intro a5 hf5
  refine listOf hf5 rfl (by kernel_rfl) (aExtern (fid := 63) (args := [.int .u64 ((b0 % 2 ^ 63 : Nat) : Int)]) (d := 6) (R := fun v w' => v = .float .f64 (b0 % 2 ^ 63) ∧ w0 = w') hf5 (by kernel_rfl) (by kernel_rfl) ⟨_, Try.func63, rfl, rfl, by kernel_rfl, rfl⟩ ⟨_, _, run_frombits _, rfl, rfl⟩ ?_)
  rintro _ _ a6 ⟨rfl, rfl⟩ hf6
  refine go 1 [] [2] [(2, .float .f64 (b0 % 2 ^ 63))] [] hf6 (by kernel_rfl) trivial fun a7 hf7 => ?_
  refine endL rfl ?_
  refine thenN ?_
  refine wp_ret ?_
  refine ret [] [.float .f64 (b0 % 2 ^ 63)] [] hf7 (by kernel_rfl) trivial ?_
  exact ⟨_, rfl, _, rfl, h0.abs, hm0⟩

/-! ### math.IsInf -/
noncomputable def math_IsInf.f (x0 : Nat) (x1 : Int) : Option Bool :=
  if x1 = 0 then ((math_Abs.f x0).bind fun r26 =>
  if (fgt r26 9218868437227405311) = true then (some true)
  else (some false))
  else (if x1 < 0 then (if (fgt (fneg x0) 9218868437227405311) = true then (some true)
  else (some false))
  else (if (fgt x0 9218868437227405311) = true then (some true)
  else (some false)))
set_option maxRecDepth 100000 in
set_option maxHeartbeats 4000000 in
theorem math_IsInf.calls (M : List (Option Nat)) (w0 : World) (x0 : Nat) (b0 : Nat) (h0 : FR b0 x0) (x1 : Int) (hm0 : Mem [] M w0 [] w0) (r : Bool) (H0 : math_IsInf.f x0 x1 = some r) :
    Calls Try.prog 69 [.float .f64 b0, .int .i64 x1].toArray w0 (fun x w' => ∃ v, x = .returned v ∧ v = .bool r ∧ Mem [] M w0 [] w') := by
  unfold math_IsInf.f at H0
  refine enter (n := 15) Try.func69 rfl rfl (by kernel_rfl) fun a0 (hf0 : Fr 15 a0 [(0, .float .f64 b0), (1, .int .i64 x1)]) => ?_
  refine wp_seq ?_
  refine reg [] [0, 1] [(0, .float .f64 b0), (1, .int .i64 x1)] [] hf0 (by kernel_rfl) trivial fun a21 hf22 => ?_
  refine thenN ?_
  refine wp_seq ?_
  refine wp_seq ?_
  rcases if_split H0 with ⟨c23, H0⟩ | ⟨c23, H0⟩
  · refine reg [.bool true] [0, 1, 6] [(0, .float .f64 b0), (1, .int .i64 x1), (6, .bool true)] [.is (((x1 : Int) == 0) = true)] hf22 (by kernel_rfl) ⟨(eqT c23), trivial⟩ fun a24 hf25 => ?_
    refine thenN ?_
    refine condT hf25 (by kernel_rfl) ?_
    obtain ⟨r26, hr26, H0⟩ := ob_split H0
    refine inReg ?_
    refine go 1 [] [0, 7] [(0, .float .f64 b0), (7, .float .f64 b0)] [] hf25 (by kernel_rfl) trivial fun a27 hf28 => ?_
    refine listOf hf28 rfl (by kernel_rfl) (aCall (fid := 37) (args := [.float .f64 b0]) (d := 8) hf28 (by kernel_rfl) (by kernel_rfl) callable37 (math_Abs.calls _ _ x0 b0 h0 (hm0.give [] [] rfl rfl) r26 hr26) ?_)
    rintro _ w30 a31 ⟨b29, rfl, hb29, hk33⟩ hf32
    have hm34 := hm0.still hk33.cum.none
    refine go 1 [] [0] [(0, .float .f64 b29)] [] hf32 (by kernel_rfl) trivial fun a35 hf36 => ?_
    refine endL rfl ?_
    refine thenN ?_
    refine wp_seq ?_
    rcases ifb_split H0 with ⟨c37, H0⟩ | ⟨c37, H0⟩
    · refine reg [.bool true] [4] [(4, .bool true)] [.is ((FloatKind.f64.format.order b29 9218868437227405311 == some .gt) = true)] hf36 (by kernel_rfl) ⟨(ftGt hb29 (FR.lit (by kernel_rfl) (by kernel_rfl)) c37), trivial⟩ fun a38 hf39 => ?_
      refine thenN ?_
      refine wp_ret ?_
      have hm40 : Mem [] M w0 [] w30 := hm34.sel [] _ rfl (by kernel_rfl)
      obtain rfl := Option.some.inj H0
      refine ret [] [.bool true] [] hf39 (by kernel_rfl) trivial ?_
      exact ⟨_, rfl, rfl, hm40⟩
    · refine reg [.bool false] [4] [(4, .bool false)] [.is ((FloatKind.f64.format.order b29 9218868437227405311 == some .gt) = false)] hf36 (by kernel_rfl) ⟨(ftGt hb29 (FR.lit (by kernel_rfl) (by kernel_rfl)) c37), trivial⟩ fun a42 hf43 => ?_
      refine thenN ?_
      refine wp_ret ?_
      have hm44 : Mem [] M w0 [] w30 := hm34.sel [] _ rfl (by kernel_rfl)
      obtain rfl := Option.some.inj H0
      refine ret [] [.bool false] [] hf43 (by kernel_rfl) trivial ?_
      exact ⟨_, rfl, rfl, hm44⟩
  · refine reg [.bool false] [0, 1, 6] [(0, .float .f64 b0), (1, .int .i64 x1), (6, .bool false)] [.is (((x1 : Int) == 0) = false)] hf22 (by kernel_rfl) ⟨(eqF c23), trivial⟩ fun a46 hf47 => ?_
    refine thenN ?_
    refine condF hf47 (by kernel_rfl) ?_
    refine wp_seq ?_
    rcases if_split H0 with ⟨c48, H0⟩ | ⟨c48, H0⟩
    · refine reg [.bool true] [0, 10] [(0, .float .f64 b0), (10, .bool true)] [.is (decide (x1 < 0) = true)] hf47 (by kernel_rfl) ⟨(decide_eq_true c48), trivial⟩ fun a49 hf50 => ?_
      refine thenN ?_
      refine condT hf50 (by kernel_rfl) ?_
      refine reg [] [0] [(0, .float .f64 (Op.negFloat .f64 b0))] [] hf50 (by kernel_rfl) trivial fun a51 hf52 => ?_
      refine thenN ?_
      refine wp_seq ?_
      rcases ifb_split H0 with ⟨c53, H0⟩ | ⟨c53, H0⟩
      · refine reg [.bool true] [4] [(4, .bool true)] [.is ((FloatKind.f64.format.order (Op.negFloat .f64 b0) 9218868437227405311 == some .gt) = true)] hf52 (by kernel_rfl) ⟨(ftGt (FR.neg h0) (FR.lit (by kernel_rfl) (by kernel_rfl)) c53), trivial⟩ fun a54 hf55 => ?_
        refine thenN ?_
        refine wp_ret ?_
        have hm56 : Mem [] M w0 [] w0 := hm0.sel [] _ rfl (by kernel_rfl)
        obtain rfl := Option.some.inj H0
        refine ret [] [.bool true] [] hf55 (by kernel_rfl) trivial ?_
        exact ⟨_, rfl, rfl, hm56⟩
      · refine reg [.bool false] [4] [(4, .bool false)] [.is ((FloatKind.f64.format.order (Op.negFloat .f64 b0) 9218868437227405311 == some .gt) = false)] hf52 (by kernel_rfl) ⟨(ftGt (FR.neg h0) (FR.lit (by kernel_rfl) (by kernel_rfl)) c53), trivial⟩ fun a58 hf59 => ?_
        refine thenN ?_
        refine wp_ret ?_
        have hm60 : Mem [] M w0 [] w0 := hm0.sel [] _ rfl (by kernel_rfl)
        obtain rfl := Option.some.inj H0
        refine ret [] [.bool false] [] hf59 (by kernel_rfl) trivial ?_
        exact ⟨_, rfl, rfl, hm60⟩
    · refine reg [.bool false] [0, 10] [(0, .float .f64 b0), (10, .bool false)] [.is (decide (x1 < 0) = false)] hf47 (by kernel_rfl) ⟨(decide_eq_false c48), trivial⟩ fun a62 hf63 => ?_
      refine thenN ?_
      refine condF hf63 (by kernel_rfl) ?_
      refine wp_skip ?_
      refine thenN ?_
      refine wp_seq ?_
      rcases ifb_split H0 with ⟨c65, H0⟩ | ⟨c65, H0⟩
      · refine reg [.bool true] [4] [(4, .bool true)] [.is ((FloatKind.f64.format.order b0 9218868437227405311 == some .gt) = true)] hf63 (by kernel_rfl) ⟨(ftGt h0 (FR.lit (by kernel_rfl) (by kernel_rfl)) c65), trivial⟩ fun a66 hf67 => ?_
        refine thenN ?_
        refine wp_ret ?_
        have hm68 : Mem [] M w0 [] w0 := hm0.sel [] _ rfl (by kernel_rfl)
        obtain rfl := Option.some.inj H0
        refine ret [] [.bool true] [] hf67 (by kernel_rfl) trivial ?_
        exact ⟨_, rfl, rfl, hm68⟩
      · refine reg [.bool false] [4] [(4, .bool false)] [.is ((FloatKind.f64.format.order b0 9218868437227405311 == some .gt) = false)] hf63 (by kernel_rfl) ⟨(ftGt h0 (FR.lit (by kernel_rfl) (by kernel_rfl)) c65), trivial⟩ fun a70 hf71 => ?_
        refine thenN ?_
        refine wp_ret ?_
        have hm72 : Mem [] M w0 [] w0 := hm0.sel [] _ rfl (by kernel_rfl)
        obtain rfl := Option.some.inj H0
        refine ret [] [.bool false] [] hf71 (by kernel_rfl) trivial ?_
        exact ⟨_, rfl, rfl, hm72⟩

/-! ### backstitch/tensor.odd -/
noncomputable def tensor_odd.f (x0 : Nat) : Option Bool :=
  (math_IsNaN.f x0).bind fun r23 =>
  if r23 = true then (some true)
  else ((math_IsInf.f x0 0).bind fun r36 =>
  some r36)
set_option maxRecDepth 100000 in
set_option maxHeartbeats 4000000 in
theorem tensor_odd.calls (M : List (Option Nat)) (w0 : World) (x0 : Nat) (b0 : Nat) (h0 : FR b0 x0) (hm0 : Mem [] M w0 [] w0) (r : Bool) (H0 : tensor_odd.f x0 = some r) :
    Calls Try.prog 68 [.float .f64 b0].toArray w0 (fun x w' => ∃ v, x = .returned v ∧ v = .bool r ∧ Mem [] M w0 [] w') := by
  unfold tensor_odd.f at H0
  refine enter (n := 9) Try.func68 rfl rfl (by kernel_rfl) fun a0 (hf0 : Fr 9 a0 [(0, .float .f64 b0)]) => ?_
  refine wp_seq ?_
  refine reg [] [0] [(0, .float .f64 b0)] [] hf0 (by kernel_rfl) trivial fun a21 hf22 => ?_
  refine thenN ?_
  refine wp_seq ?_
  obtain ⟨r23, hr23, H0⟩ := ob_split H0
  rcases ifb_split H0 with ⟨c24, H0⟩ | ⟨c24, H0⟩
  · refine inReg ?_
    refine go 1 [] [0, 3] [(0, .float .f64 b0), (3, .float .f64 b0)] [] hf22 (by kernel_rfl) trivial fun a25 hf26 => ?_
    refine listOf hf26 rfl (by kernel_rfl) (aCall (fid := 85) (args := [.float .f64 b0]) (d := 4) hf26 (by kernel_rfl) (by kernel_rfl) callable85 (math_IsNaN.calls _ _ x0 b0 h0 (hm0.give [] [] rfl rfl) r23 hr23) ?_)
    rintro _ w27 a28 ⟨rfl, hk30⟩ hf29
    have hm31 := hm0.still hk30.cum.none
    rw [c24] at hf29
    refine go 5 [] [2] [(2, .bool true)] [] hf29 (by kernel_rfl) trivial fun a32 hf33 => ?_
    refine endL rfl ?_
    refine thenN ?_
    refine wp_ret ?_
    have hm34 : Mem [] M w0 [] w27 := hm31.sel [] _ rfl (by kernel_rfl)
    obtain rfl := Option.some.inj H0
    refine ret [] [.bool true] [] hf33 (by kernel_rfl) trivial ?_
    exact ⟨_, rfl, rfl, hm34⟩
  · obtain ⟨r36, hr36, H0⟩ := ob_split H0
    refine inReg ?_
    refine go 1 [] [0, 3] [(0, .float .f64 b0), (3, .float .f64 b0)] [] hf22 (by kernel_rfl) trivial fun a37 hf38 => ?_
    refine listOf hf38 rfl (by kernel_rfl) (aCall (fid := 85) (args := [.float .f64 b0]) (d := 4) hf38 (by kernel_rfl) (by kernel_rfl) callable85 (math_IsNaN.calls _ _ x0 b0 h0 (hm0.give [] [] rfl rfl) r23 hr23) ?_)
    rintro _ w39 a40 ⟨rfl, hk42⟩ hf41
    have hm43 := hm0.still hk42.cum.none
    rw [c24] at hf41
    refine go 2 [] [5, 6] [(5, .bool false), (6, .float .f64 b0)] [] hf41 (by kernel_rfl) trivial fun a44 hf45 => ?_
    refine listOf hf45 rfl (by kernel_rfl) (aCall (fid := 69) (args := [.float .f64 b0, .int .i64 0]) (d := 7) hf45 (by kernel_rfl) (by kernel_rfl) callable69 (math_IsInf.calls _ _ x0 b0 h0 0 (hm43.give [] [] rfl rfl) r36 hr36) ?_)
    rintro _ w46 a47 ⟨rfl, hk49⟩ hf48
    have hm50 := hm43.still hk49.cum.none
    refine go 2 [] [2] [(2, .bool r36)] [] hf48 (by kernel_rfl) trivial fun a51 hf52 => ?_
    refine endL rfl ?_
    refine thenN ?_
    refine wp_ret ?_
    have hm53 : Mem [] M w0 [] w46 := hm50.sel [] _ rfl (by kernel_rfl)
    obtain rfl := Option.some.inj H0
    refine ret [] [.bool r36] [] hf52 (by kernel_rfl) trivial ?_
    exact ⟨_, rfl, rfl, hm53⟩
end Go.Proofs.Ytkcgiolledmbnab
