/- Printed by gen.py. -/
import Derived.Test.YtgekodhpkhdanaaF1
namespace Go.Proofs.Ytgekodhpkhdanaa
open Go Go.RowKit
set_option linter.unusedSimpArgs false
set_option linter.unusedVariables false
set_option linter.unnecessarySimpa false
/-! ### backstitch/backstitchlaw1.ShapePlaces -/
noncomputable def law1_ShapePlaces.l1 (r60 : (List Int)) (r35 : (List Int)) (s89 : (Int × Int)) : Step (Int × Int) (Int × Int) :=
  if s89.2 < (r60.length : Int) then (if 0 ≤ s89.2 ∧ s89.2 < (r60.length : Int) then (if 0 ≤ s89.2 ∧ s89.2 < (r35.length : Int) then (.next ((w64 (s89.1 + (w64 ((rd r60 s89.2) * (rd r35 s89.2))))), (w64 (s89.2 + 1))))
  else .bad)
  else .bad)
  else (.done (s89.1, s89.2))
noncomputable def law1_ShapePlaces.l0 (r22 : (Int × Int)) (x0 : (List Int)) (r35 : (List Int)) (s50 : Int) : Step Int (Out2 Int Bool) :=
  if s50 < r22.1 then (bindS (shape_Place.f x0 s50) fun r60 =>
  bindS (shape_Index.f x0 r60) fun r73 =>
  if r73 = s50 then (if (r60.length : Int) = (x0.length : Int) then (bindS (loop (law1_ShapePlaces.l1 r60 r35) (0, 0)) fun r90 =>
  if r90.1 = s50 then (.next (w64 (s50 + 1)))
  else (.done (.ret false)))
  else (.done (.ret false)))
  else (.done (.ret false)))
  else (.done (.go s50))
noncomputable def law1_ShapePlaces.f (x0 : (List Int)) : Option Bool :=
  (law1_awake.f).bind fun r3 =>
  if r3 = true then (if 40 < (x0.length : Int) then (some true)
  else ((shape_Size.f x0).bind fun r22 =>
  if r22.2 = 0 then ((shape_Strides.f x0).bind fun r35 =>
  (loop (law1_ShapePlaces.l0 r22 x0 r35) 0).bind fun r51 =>
  r51.on (fun yr51 =>
  (shape_Place.f x0 r22.1).bind fun r164 =>
  if (r164.length : Int) = 0 then ((shape_Place.f x0 (-1)).bind fun r166 =>
  if (r166.length : Int) = 0 then (some true)
  else (some false))
  else (some false)) (fun y => some y))
  else (if r22.1 = 0 then (some true)
  else (some false))))
  else (some false)
set_option maxRecDepth 100000 in
set_option maxHeartbeats 4000000 in
theorem law1_ShapePlaces.calls (M : List (Option Nat)) (w0 : World) (x0 : (List Int)) (A0 : Option Addr) (n0 c0 : Nat) (e0 : n0 = x0.length) (hm0 : Mem [] M w0 [.sl (Kd.int .i64) A0 c0 x0] w0) (r : Bool) (H0 : law1_ShapePlaces.f x0 = some r) :
    Calls Try.prog 8 [.slice A0 n0 c0].toArray w0 (fun x w' => ∃ v, x = .returned v ∧ v = .bool r ∧ Mem [] M w0 [] w') := by
  subst e0
  unfold law1_ShapePlaces.f at H0
  refine enter (n := 77) Try.func8 rfl rfl (by kernel_rfl) fun a0 (hf0 : Fr 77 a0 [(0, .slice A0 x0.length c0)]) => ?_
  refine wp_seq ?_
  refine reg [] [0] [(0, .slice A0 x0.length c0)] [] hf0 (by kernel_rfl) trivial fun a1 hf2 => ?_
  refine thenN ?_
  refine wp_seq ?_
  refine wp_seq ?_
  obtain ⟨r3, hr3, H0⟩ := ob_split H0
  rcases ifb_split H0 with ⟨c4, H0⟩ | ⟨c4, H0⟩
  · refine inReg ?_
    refine listOf hf2 rfl (by kernel_rfl) (aCall (fid := 9) (args := []) (d := 10) hf2 (by kernel_rfl) (by kernel_rfl) callable9 (law1_awake.calls _ _  (hm0.give [] [] rfl rfl) r3 hr3) ?_)
    rintro _ w5 a6 ⟨rfl, hk8⟩ hf7
    have hm9 : Mem [] M w0 [.sl (Kd.int .i64) A0 c0 x0] w5 := hm0.still hk8.cum.none
    rw [c4] at hf7
    refine go 1 [] [0, 11] [(0, .slice A0 x0.length c0), (11, .bool false)] [] hf7 (by kernel_rfl) trivial fun a10 hf11 => ?_
    refine endL rfl ?_
    refine thenN ?_
    refine condF hf11 (by kernel_rfl) ?_
    refine wp_skip ?_
    refine thenN ?_
    refine wp_seq ?_
    refine wp_seq ?_
    rcases if_split H0 with ⟨c12, H0⟩ | ⟨c12, H0⟩
    · refine reg [.bool true] [0, 14] [(0, .slice A0 x0.length c0), (14, .bool true)] [.is (decide (40 < (x0.length : Int)) = true)] hf11 (by kernel_rfl) ⟨(decide_eq_true c12), trivial⟩ fun a13 hf14 => ?_
      refine thenN ?_
      refine condT hf14 (by kernel_rfl) ?_
      refine wp_seq ?_
      refine reg [] [2] [(2, .bool true)] [] hf14 (by kernel_rfl) trivial fun a15 hf16 => ?_
      have hm17 : Mem [] M w0 [] w5 := hm9.sel [] _ rfl (by kernel_rfl)
      refine thenN ?_
      refine wp_ret ?_
      refine thenR ?_
      have hm18 : Mem [] M w0 [] w5 := hm17.sel [] _ rfl (by kernel_rfl)
      obtain rfl := Option.some.inj H0
      refine ret [] [.bool true] [] hf16 (by kernel_rfl) trivial ?_
      exact ⟨_, rfl, rfl, hm18⟩
    · refine reg [.bool false] [0, 14] [(0, .slice A0 x0.length c0), (14, .bool false)] [.is (decide (40 < (x0.length : Int)) = false)] hf11 (by kernel_rfl) ⟨(decide_eq_false c12), trivial⟩ fun a20 hf21 => ?_
      refine thenN ?_
      refine condF hf21 (by kernel_rfl) ?_
      refine wp_skip ?_
      refine thenN ?_
      refine wp_seq ?_
      obtain ⟨r22, hr22, H0⟩ := ob_split H0
      refine inReg ?_
      refine go 1 [] [0, 16] [(0, .slice A0 x0.length c0), (16, .slice A0 x0.length c0)] [] hf21 (by kernel_rfl) trivial fun a23 hf24 => ?_
      refine listOf hf24 rfl (by kernel_rfl) (aCall (fid := 15) (args := [.slice A0 x0.length c0]) (d := 17) hf24 (by kernel_rfl) (by kernel_rfl) callable15 (shape_Size.calls _ _ x0 A0 x0.length c0 rfl (hm9.give [0] [.sl (Kd.int .i64) A0 c0 x0] rfl rfl) r22 hr22) ?_)
      rintro _ w25 a26 ⟨rfl, hk28⟩ hf27
      have hm29 : Mem [] M w0 [.sl (Kd.int .i64) A0 c0 x0] w25 := hm9.still hk28.cum.none
      refine go 5 [] [0, 3, 4] [(0, .slice A0 x0.length c0), (3, .int .i64 r22.1), (4, .int .i64 r22.2)] [] hf27 (by kernel_rfl) trivial fun a30 hf31 => ?_
      refine endL rfl ?_
      refine thenN ?_
      refine wp_seq ?_
      refine wp_seq ?_
      rcases if_split H0 with ⟨c32, H0⟩ | ⟨c32, H0⟩
      · refine reg [.bool false] [0, 3, 21] [(0, .slice A0 x0.length c0), (3, .int .i64 r22.1), (21, .bool false)] [.is (((r22.2 : Int) != 0) = false)] hf31 (by kernel_rfl) ⟨(neF c32), trivial⟩ fun a33 hf34 => ?_
        refine thenN ?_
        refine condF hf34 (by kernel_rfl) ?_
        refine wp_skip ?_
        refine thenN ?_
        refine wp_seq ?_
        obtain ⟨r35, hr35, H0⟩ := ob_split H0
        refine inReg ?_
        refine go 1 [] [0, 3, 24] [(0, .slice A0 x0.length c0), (3, .int .i64 r22.1), (24, .slice A0 x0.length c0)] [] hf34 (by kernel_rfl) trivial fun a36 hf37 => ?_
        refine listOf hf37 rfl (by kernel_rfl) (aCall (fid := 21) (args := [.slice A0 x0.length c0]) (d := 25) hf37 (by kernel_rfl) (by kernel_rfl) callable21 (shape_Strides.calls _ _ x0 A0 x0.length c0 rfl (hm29.give [0] [.sl (Kd.int .i64) A0 c0 x0] rfl rfl) r35 hr35) ?_)
        rintro _ w40 a41 ⟨A38, c39, rfl, hk43⟩ hf42
        have hm44 : Mem [] M w0 [.ow (Kd.int .i64) 3 A38 c39 r35, .sl (Kd.int .i64) A0 c0 x0] w40 := hm29.back hk43
        have hm45 : Mem [] M w0 [.sl (Kd.int .i64) A38 c39 r35, .sl (Kd.int .i64) A0 c0 x0] w40 := hm44.seal 0 _ rfl rfl
        refine go 1 [] [0, 3, 5] [(0, .slice A0 x0.length c0), (3, .int .i64 r22.1), (5, .slice A38 r35.length c39)] [] hf42 (by kernel_rfl) trivial fun a46 hf47 => ?_
        refine endL rfl ?_
        refine thenN ?_
        refine wp_seq ?_
        refine wp_seq ?_
        refine reg [] [0, 3, 5, 6] [(0, .slice A0 x0.length c0), (3, .int .i64 r22.1), (5, .slice A38 r35.length c39), (6, .int .i64 0)] [] hf47 (by kernel_rfl) trivial fun a48 hf49 => ?_
        refine thenN ?_
        obtain ⟨r51, hr51, H0⟩ := ob_split H0
        refine wpBlock (Mid := fun (a : Act) (w : World) => ∃ yr51 : Int, r51 = .go yr51 ∧ Fr 77 a [(0, .slice A0 x0.length c0), (3, .int .i64 r22.1), (5, .slice A38 r35.length c39), (6, .int .i64 yr51)] ∧ Mem [] M w0 [.sl (Kd.int .i64) A38 c39 r35, .sl (Kd.int .i64) A0 c0 x0] w) ?_ ?_
        · refine wpLoop (law1_ShapePlaces.l0 r22 x0 r35) r51 (fun (s50 : Int) (a : Act) (w : World) => Fr 77 a [(0, .slice A0 x0.length c0), (3, .int .i64 r22.1), (5, .slice A38 r35.length c39), (6, .int .i64 s50)] ∧ Mem [] M w0 [.sl (Kd.int .i64) A38 c39 r35, .sl (Kd.int .i64) A0 c0 x0] w) 0 hr51 ⟨hf49.sel (l := [0, 3, 5, 6]) (by kernel_rfl), hm45.sel [0, 1] _ rfl (by kernel_rfl)⟩ ?_
          rintro g52 s50 a53 w54 H1 ⟨hf55, hm56⟩
          unfold law1_ShapePlaces.l0 at H1
          refine wp_seq ?_
          refine wp_seq ?_
          rcases ifS_split H1 with ⟨c57, H1⟩ | ⟨c57, H1⟩
          · refine reg [.bool true] [0, 3, 5, 6, 28] [(0, .slice A0 x0.length c0), (3, .int .i64 r22.1), (5, .slice A38 r35.length c39), (6, .int .i64 s50), (28, .bool true)] [.is (decide (s50 < r22.1) = true)] hf55 (by kernel_rfl) ⟨(decide_eq_true c57), trivial⟩ fun a58 hf59 => ?_
            refine thenN ?_
            refine condT hf59 (by kernel_rfl) ?_
            refine wp_skip ?_
            refine thenN ?_
            refine wp_seq ?_
            refine wp_block ?_
            refine wp_seq ?_
            obtain ⟨r60, hr60, H1⟩ := obS_split H1
            refine inReg ?_
            refine go 2 [] [0, 3, 5, 6, 31, 32] [(0, .slice A0 x0.length c0), (3, .int .i64 r22.1), (5, .slice A38 r35.length c39), (6, .int .i64 s50), (31, .slice A0 x0.length c0), (32, .int .i64 s50)] [] hf59 (by kernel_rfl) trivial fun a61 hf62 => ?_
            refine listOf hf62 rfl (by kernel_rfl) (aCall (fid := 24) (args := [.slice A0 x0.length c0, .int .i64 s50]) (d := 33) hf62 (by kernel_rfl) (by kernel_rfl) callable24 (shape_Place.calls _ _ x0 A0 x0.length c0 rfl s50 (hm56.give [1] [.sl (Kd.int .i64) A0 c0 x0] rfl rfl) r60 hr60) ?_)
            rintro _ w65 a66 ⟨A63, c64, rfl, hk68⟩ hf67
            have hm69 : Mem [] M w0 [.ow (Kd.int .i64) 3 A63 c64 r60, .sl (Kd.int .i64) A38 c39 r35, .sl (Kd.int .i64) A0 c0 x0] w65 := hm56.back hk68
            have hm70 : Mem [] M w0 [.sl (Kd.int .i64) A63 c64 r60, .sl (Kd.int .i64) A38 c39 r35, .sl (Kd.int .i64) A0 c0 x0] w65 := hm69.seal 0 _ rfl rfl
            refine go 1 [] [0, 3, 5, 6, 7] [(0, .slice A0 x0.length c0), (3, .int .i64 r22.1), (5, .slice A38 r35.length c39), (6, .int .i64 s50), (7, .slice A63 r60.length c64)] [] hf67 (by kernel_rfl) trivial fun a71 hf72 => ?_
            refine endL rfl ?_
            refine thenN ?_
            refine wp_seq ?_
            refine wp_seq ?_
            obtain ⟨r73, hr73, H1⟩ := obS_split H1
            rcases ifS_split H1 with ⟨c74, H1⟩ | ⟨c74, H1⟩
            · rcases ifS_split H1 with ⟨c75, H1⟩ | ⟨c75, H1⟩
              · refine inReg ?_
                refine go 2 [] [0, 3, 5, 6, 7, 34, 35] [(0, .slice A0 x0.length c0), (3, .int .i64 r22.1), (5, .slice A38 r35.length c39), (6, .int .i64 s50), (7, .slice A63 r60.length c64), (34, .slice A0 x0.length c0), (35, .slice A63 r60.length c64)] [] hf72 (by kernel_rfl) trivial fun a76 hf77 => ?_
                refine listOf hf77 rfl (by kernel_rfl) (aCall (fid := 17) (args := [.slice A0 x0.length c0, .slice A63 r60.length c64]) (d := 36) hf77 (by kernel_rfl) (by kernel_rfl) callable17 (shape_Index.calls _ _ x0 A0 x0.length c0 rfl r60 A63 r60.length c64 rfl (hm70.give [2, 0] [.sl (Kd.int .i64) A0 c0 x0, .sl (Kd.int .i64) A63 c64 r60] rfl rfl) r73 hr73) ?_)
                rintro _ w78 a79 ⟨rfl, hk81⟩ hf80
                have hm82 : Mem [] M w0 [.sl (Kd.int .i64) A63 c64 r60, .sl (Kd.int .i64) A38 c39 r35, .sl (Kd.int .i64) A0 c0 x0] w78 := hm70.still hk81.cum.none
                refine go 9 [.bool false, .bool false] [0, 3, 5, 6, 7, 45] [(0, .slice A0 x0.length c0), (3, .int .i64 r22.1), (5, .slice A38 r35.length c39), (6, .int .i64 s50), (7, .slice A63 r60.length c64), (45, .bool false)] [.is (((r73 : Int) != s50) = false), .is ((((r60.length : Int) : Int) != (x0.length : Int)) = false)] hf80 (by kernel_rfl) ⟨(neF c74), (neF c75), trivial⟩ fun a83 hf84 => ?_
                refine endL rfl ?_
                refine thenN ?_
                refine condF hf84 (by kernel_rfl) ?_
                refine wp_skip ?_
                refine thenN ?_
                refine wp_seq ?_
                refine reg [] [0, 3, 5, 6, 7, 8] [(0, .slice A0 x0.length c0), (3, .int .i64 r22.1), (5, .slice A38 r35.length c39), (6, .int .i64 s50), (7, .slice A63 r60.length c64), (8, .int .i64 0)] [] hf84 (by kernel_rfl) trivial fun a85 hf86 => ?_
                refine thenN ?_
                refine wp_seq ?_
                refine wp_seq ?_
                refine reg [] [0, 3, 5, 6, 7, 8, 9] [(0, .slice A0 x0.length c0), (3, .int .i64 r22.1), (5, .slice A38 r35.length c39), (6, .int .i64 s50), (7, .slice A63 r60.length c64), (8, .int .i64 0), (9, .int .i64 0)] [] hf86 (by kernel_rfl) trivial fun a87 hf88 => ?_
                refine thenN ?_
                obtain ⟨r90, hr90, H1⟩ := obS_split H1
                refine wpBlock (Mid := fun (a : Act) (w : World) => Fr 77 a [(0, .slice A0 x0.length c0), (3, .int .i64 r22.1), (5, .slice A38 r35.length c39), (6, .int .i64 s50), (7, .slice A63 r60.length c64), (8, .int .i64 r90.1), (9, .int .i64 r90.2)] ∧ Mem [] M w0 [.sl (Kd.int .i64) A63 c64 r60, .sl (Kd.int .i64) A38 c39 r35, .sl (Kd.int .i64) A0 c0 x0] w) ?_ ?_
                · refine wpLoop (law1_ShapePlaces.l1 r60 r35) r90 (fun (s89 : (Int × Int)) (a : Act) (w : World) => Fr 77 a [(0, .slice A0 x0.length c0), (3, .int .i64 r22.1), (5, .slice A38 r35.length c39), (6, .int .i64 s50), (7, .slice A63 r60.length c64), (8, .int .i64 s89.1), (9, .int .i64 s89.2)] ∧ Mem [] M w0 [.sl (Kd.int .i64) A63 c64 r60, .sl (Kd.int .i64) A38 c39 r35, .sl (Kd.int .i64) A0 c0 x0] w) (0, 0) hr90 ⟨hf88.sel (l := [0, 3, 5, 6, 7, 8, 9]) (by kernel_rfl), hm82.sel [0, 1, 2] _ rfl (by kernel_rfl)⟩ ?_
                  rintro g91 s89 a92 w93 H2 ⟨hf94, hm95⟩
                  unfold law1_ShapePlaces.l1 at H2
                  refine wp_seq ?_
                  refine wp_seq ?_
                  rcases ifS_split H2 with ⟨c96, H2⟩ | ⟨c96, H2⟩
                  · refine reg [.bool true] [0, 3, 5, 6, 7, 8, 9, 49] [(0, .slice A0 x0.length c0), (3, .int .i64 r22.1), (5, .slice A38 r35.length c39), (6, .int .i64 s50), (7, .slice A63 r60.length c64), (8, .int .i64 s89.1), (9, .int .i64 s89.2), (49, .bool true)] [.is (decide (s89.2 < (r60.length : Int)) = true)] hf94 (by kernel_rfl) ⟨(decide_eq_true c96), trivial⟩ fun a97 hf98 => ?_
                    refine thenN ?_
                    refine condT hf98 (by kernel_rfl) ?_
                    refine wp_skip ?_
                    refine thenN ?_
                    refine wp_seq ?_
                    refine wp_block ?_
                    obtain ⟨g99, H2⟩ := ifS_guard H2
                    obtain ⟨g100, H2⟩ := ifS_guard H2
                    have q101 := (hm95.slAt 0 rfl).int s89.2 g99.1 g99.2
                    have q102 := (hm95.slAt 1 rfl).int s89.2 g100.1 g100.2
                    refine regQ [.int .i64 (rd r60 s89.2), .int .i64 (rd r35 s89.2)] [0, 3, 5, 6, 7, 8, 9] [(0, .slice A0 x0.length c0), (3, .int .i64 r22.1), (5, .slice A38 r35.length c39), (6, .int .i64 s50), (7, .slice A63 r60.length c64), (8, .int .i64 (w64 (s89.1 + (w64 ((rd r60 s89.2) * (rd r35 s89.2)))))), (9, .int .i64 s89.2)] [.is (Option.isSome A63 = true), .is (0 ≤ s89.2 ∧ s89.2 < (r60.length : Int)), .cell ((ad A63).add ((s89.2).toNat * 1)) (.int .i64 (rd r60 s89.2)), .is (Option.isSome A38 = true), .is (0 ≤ s89.2 ∧ s89.2 < (r35.length : Int)), .cell ((ad A38).add ((s89.2).toNat * 1)) (.int .i64 (rd r35 s89.2))] (by kernel_rfl) (by kernel_rfl) hf98 (by kernel_rfl) ⟨q101.1, g99, q101.2, q102.1, g100, q102.2, trivial⟩ fun a103 w105 hf104 hg106 => ?_
                    have hm107 : Mem [] M w0 [.sl (Kd.int .i64) A63 c64 r60, .sl (Kd.int .i64) A38 c39 r35, .sl (Kd.int .i64) A0 c0 x0] w105 := hm95.still hg106
                    refine blkN ?_
                    refine thenN ?_
                    refine reg [] [0, 3, 5, 6, 7, 8, 9] [(0, .slice A0 x0.length c0), (3, .int .i64 r22.1), (5, .slice A38 r35.length c39), (6, .int .i64 s50), (7, .slice A63 r60.length c64), (8, .int .i64 (w64 (s89.1 + (w64 ((rd r60 s89.2) * (rd r35 s89.2)))))), (9, .int .i64 (w64 (s89.2 + 1)))] [] hf104 (by kernel_rfl) trivial fun a108 hf109 => ?_
                    exact ⟨((w64 (s89.1 + (w64 ((rd r60 s89.2) * (rd r35 s89.2))))), (w64 (s89.2 + 1))), H2, hf109.sel (l := [0, 3, 5, 6, 7, 8, 9]) (by kernel_rfl), hm107.sel [0, 1, 2] _ rfl (by kernel_rfl)⟩
                  · refine reg [.bool false] [0, 3, 5, 6, 7, 8, 9, 49] [(0, .slice A0 x0.length c0), (3, .int .i64 r22.1), (5, .slice A38 r35.length c39), (6, .int .i64 s50), (7, .slice A63 r60.length c64), (8, .int .i64 s89.1), (9, .int .i64 s89.2), (49, .bool false)] [.is (decide (s89.2 < (r60.length : Int)) = false)] hf94 (by kernel_rfl) ⟨(decide_eq_false c96), trivial⟩ fun a110 hf111 => ?_
                    refine thenN ?_
                    refine condF hf111 (by kernel_rfl) ?_
                    refine wp_exit ?_
                    refine thenE ?_
                    refine thenE ?_
                    obtain rfl := Option.some.inj H2
                    exact .inl ⟨rfl, hf111.sel (l := [0, 3, 5, 6, 7, 8, 9]) (by kernel_rfl), hm95.sel [0, 1, 2] _ rfl (by kernel_rfl)⟩
                rintro a112 w113 ⟨hf114, hm115⟩
                refine thenN ?_
                refine wp_seq ?_
                rcases ifS_split H1 with ⟨c116, H1⟩ | ⟨c116, H1⟩
                · refine reg [.bool false] [0, 3, 5, 6, 65] [(0, .slice A0 x0.length c0), (3, .int .i64 r22.1), (5, .slice A38 r35.length c39), (6, .int .i64 s50), (65, .bool false)] [.is (((r90.1 : Int) != s50) = false)] hf114 (by kernel_rfl) ⟨(neF c116), trivial⟩ fun a117 hf118 => ?_
                  have hm119 : Mem [] M w0 [.sl (Kd.int .i64) A38 c39 r35, .sl (Kd.int .i64) A0 c0 x0] w113 := hm115.sel [1, 2] _ rfl (by kernel_rfl)
                  refine thenN ?_
                  refine condF hf118 (by kernel_rfl) ?_
                  refine wp_skip ?_
                  refine blkN ?_
                  refine thenN ?_
                  refine reg [] [0, 3, 5, 6] [(0, .slice A0 x0.length c0), (3, .int .i64 r22.1), (5, .slice A38 r35.length c39), (6, .int .i64 (w64 (s50 + 1)))] [] hf118 (by kernel_rfl) trivial fun a120 hf121 => ?_
                  exact ⟨(w64 (s50 + 1)), H1, hf121.sel (l := [0, 3, 5, 6]) (by kernel_rfl), hm119.sel [0, 1] _ rfl (by kernel_rfl)⟩
                · refine reg [.bool true] [0, 3, 5, 6, 65] [(0, .slice A0 x0.length c0), (3, .int .i64 r22.1), (5, .slice A38 r35.length c39), (6, .int .i64 s50), (65, .bool true)] [.is (((r90.1 : Int) != s50) = true)] hf114 (by kernel_rfl) ⟨(neT c116), trivial⟩ fun a122 hf123 => ?_
                  have hm124 : Mem [] M w0 [.sl (Kd.int .i64) A38 c39 r35, .sl (Kd.int .i64) A0 c0 x0] w113 := hm115.sel [1, 2] _ rfl (by kernel_rfl)
                  refine thenN ?_
                  refine condT hf123 (by kernel_rfl) ?_
                  refine wp_seq ?_
                  refine reg [] [2] [(2, .bool false)] [] hf123 (by kernel_rfl) trivial fun a125 hf126 => ?_
                  have hm127 : Mem [] M w0 [] w113 := hm124.sel [] _ rfl (by kernel_rfl)
                  refine thenN ?_
                  refine wp_ret ?_
                  refine blkR ?_
                  refine thenR ?_
                  refine thenR ?_
                  refine .inr ⟨rfl, ?_⟩
                  refine thenR ?_
                  have hm128 : Mem [] M w0 [] w113 := hm127.sel [] _ rfl (by kernel_rfl)
                  obtain rfl := Option.some.inj H1
                  obtain rfl := Option.some.inj H0
                  refine ret [] [.bool false] [] hf126 (by kernel_rfl) trivial ?_
                  exact ⟨_, rfl, rfl, hm128⟩
              · refine inReg ?_
                refine go 2 [] [0, 3, 5, 6, 7, 34, 35] [(0, .slice A0 x0.length c0), (3, .int .i64 r22.1), (5, .slice A38 r35.length c39), (6, .int .i64 s50), (7, .slice A63 r60.length c64), (34, .slice A0 x0.length c0), (35, .slice A63 r60.length c64)] [] hf72 (by kernel_rfl) trivial fun a130 hf131 => ?_
                refine listOf hf131 rfl (by kernel_rfl) (aCall (fid := 17) (args := [.slice A0 x0.length c0, .slice A63 r60.length c64]) (d := 36) hf131 (by kernel_rfl) (by kernel_rfl) callable17 (shape_Index.calls _ _ x0 A0 x0.length c0 rfl r60 A63 r60.length c64 rfl (hm70.give [2, 0] [.sl (Kd.int .i64) A0 c0 x0, .sl (Kd.int .i64) A63 c64 r60] rfl rfl) r73 hr73) ?_)
                rintro _ w132 a133 ⟨rfl, hk135⟩ hf134
                have hm136 : Mem [] M w0 [.sl (Kd.int .i64) A63 c64 r60, .sl (Kd.int .i64) A38 c39 r35, .sl (Kd.int .i64) A0 c0 x0] w132 := hm70.still hk135.cum.none
                refine go 9 [.bool false, .bool true] [0, 3, 5, 6, 7, 45] [(0, .slice A0 x0.length c0), (3, .int .i64 r22.1), (5, .slice A38 r35.length c39), (6, .int .i64 s50), (7, .slice A63 r60.length c64), (45, .bool true)] [.is (((r73 : Int) != s50) = false), .is ((((r60.length : Int) : Int) != (x0.length : Int)) = true)] hf134 (by kernel_rfl) ⟨(neF c74), (neT c75), trivial⟩ fun a137 hf138 => ?_
                refine endL rfl ?_
                refine thenN ?_
                refine condT hf138 (by kernel_rfl) ?_
                refine wp_seq ?_
                refine reg [] [2] [(2, .bool false)] [] hf138 (by kernel_rfl) trivial fun a139 hf140 => ?_
                have hm141 : Mem [] M w0 [] w132 := hm136.sel [] _ rfl (by kernel_rfl)
                refine thenN ?_
                refine wp_ret ?_
                refine thenR ?_
                refine blkR ?_
                refine thenR ?_
                refine thenR ?_
                refine .inr ⟨rfl, ?_⟩
                refine thenR ?_
                have hm142 : Mem [] M w0 [] w132 := hm141.sel [] _ rfl (by kernel_rfl)
                obtain rfl := Option.some.inj H1
                obtain rfl := Option.some.inj H0
                refine ret [] [.bool false] [] hf140 (by kernel_rfl) trivial ?_
                exact ⟨_, rfl, rfl, hm142⟩
            · refine inReg ?_
              refine go 2 [] [0, 3, 5, 6, 7, 34, 35] [(0, .slice A0 x0.length c0), (3, .int .i64 r22.1), (5, .slice A38 r35.length c39), (6, .int .i64 s50), (7, .slice A63 r60.length c64), (34, .slice A0 x0.length c0), (35, .slice A63 r60.length c64)] [] hf72 (by kernel_rfl) trivial fun a144 hf145 => ?_
              refine listOf hf145 rfl (by kernel_rfl) (aCall (fid := 17) (args := [.slice A0 x0.length c0, .slice A63 r60.length c64]) (d := 36) hf145 (by kernel_rfl) (by kernel_rfl) callable17 (shape_Index.calls _ _ x0 A0 x0.length c0 rfl r60 A63 r60.length c64 rfl (hm70.give [2, 0] [.sl (Kd.int .i64) A0 c0 x0, .sl (Kd.int .i64) A63 c64 r60] rfl rfl) r73 hr73) ?_)
              rintro _ w146 a147 ⟨rfl, hk149⟩ hf148
              have hm150 : Mem [] M w0 [.sl (Kd.int .i64) A63 c64 r60, .sl (Kd.int .i64) A38 c39 r35, .sl (Kd.int .i64) A0 c0 x0] w146 := hm70.still hk149.cum.none
              refine go 9 [.bool true] [0, 3, 5, 6, 7, 45] [(0, .slice A0 x0.length c0), (3, .int .i64 r22.1), (5, .slice A38 r35.length c39), (6, .int .i64 s50), (7, .slice A63 r60.length c64), (45, .bool true)] [.is (((r73 : Int) != s50) = true)] hf148 (by kernel_rfl) ⟨(neT c74), trivial⟩ fun a151 hf152 => ?_
              refine endL rfl ?_
              refine thenN ?_
              refine condT hf152 (by kernel_rfl) ?_
              refine wp_seq ?_
              refine reg [] [2] [(2, .bool false)] [] hf152 (by kernel_rfl) trivial fun a153 hf154 => ?_
              have hm155 : Mem [] M w0 [] w146 := hm150.sel [] _ rfl (by kernel_rfl)
              refine thenN ?_
              refine wp_ret ?_
              refine thenR ?_
              refine blkR ?_
              refine thenR ?_
              refine thenR ?_
              refine .inr ⟨rfl, ?_⟩
              refine thenR ?_
              have hm156 : Mem [] M w0 [] w146 := hm155.sel [] _ rfl (by kernel_rfl)
              obtain rfl := Option.some.inj H1
              obtain rfl := Option.some.inj H0
              refine ret [] [.bool false] [] hf154 (by kernel_rfl) trivial ?_
              exact ⟨_, rfl, rfl, hm156⟩
          · refine reg [.bool false] [0, 3, 5, 6, 28] [(0, .slice A0 x0.length c0), (3, .int .i64 r22.1), (5, .slice A38 r35.length c39), (6, .int .i64 s50), (28, .bool false)] [.is (decide (s50 < r22.1) = false)] hf55 (by kernel_rfl) ⟨(decide_eq_false c57), trivial⟩ fun a158 hf159 => ?_
            refine thenN ?_
            refine condF hf159 (by kernel_rfl) ?_
            refine wp_exit ?_
            refine thenE ?_
            refine thenE ?_
            obtain rfl := Option.some.inj H1
            exact .inl ⟨rfl, s50, rfl, hf159.sel (l := [0, 3, 5, 6]) (by kernel_rfl), hm56.sel [0, 1] _ rfl (by kernel_rfl)⟩
        rintro a160 w161 ⟨yr51, rfl, hf162, hm163⟩
        refine thenN ?_
        refine wp_seq ?_
        obtain ⟨r164, hr164, H0⟩ := ob_split H0
        rcases if_split H0 with ⟨c165, H0⟩ | ⟨c165, H0⟩
        · obtain ⟨r166, hr166, H0⟩ := ob_split H0
          rcases if_split H0 with ⟨c167, H0⟩ | ⟨c167, H0⟩
          · refine inReg ?_
            refine go 2 [] [0, 66, 67] [(0, .slice A0 x0.length c0), (66, .slice A0 x0.length c0), (67, .int .i64 r22.1)] [] hf162 (by kernel_rfl) trivial fun a168 hf169 => ?_
            refine listOf hf169 rfl (by kernel_rfl) (aCall (fid := 24) (args := [.slice A0 x0.length c0, .int .i64 r22.1]) (d := 68) hf169 (by kernel_rfl) (by kernel_rfl) callable24 (shape_Place.calls _ _ x0 A0 x0.length c0 rfl r22.1 (hm163.give [1] [.sl (Kd.int .i64) A0 c0 x0] rfl rfl) r164 hr164) ?_)
            rintro _ w172 a173 ⟨A170, c171, rfl, hk175⟩ hf174
            have hm176 : Mem [] M w0 [.ow (Kd.int .i64) 3 A170 c171 r164, .sl (Kd.int .i64) A38 c39 r35, .sl (Kd.int .i64) A0 c0 x0] w172 := hm163.back hk175
            have hm177 : Mem [] M w0 [.sl (Kd.int .i64) A170 c171 r164, .sl (Kd.int .i64) A38 c39 r35, .sl (Kd.int .i64) A0 c0 x0] w172 := hm176.seal 0 _ rfl rfl
            refine go 4 [.bool true] [71, 72] [(71, .bool true), (72, .slice A0 x0.length c0)] [.is ((((r164.length : Int) : Int) == 0) = true)] hf174 (by kernel_rfl) ⟨(eqT c165), trivial⟩ fun a178 hf179 => ?_
            refine listOf hf179 rfl (by kernel_rfl) (aCall (fid := 24) (args := [.slice A0 x0.length c0, .int .i64 (-1)]) (d := 73) hf179 (by kernel_rfl) (by kernel_rfl) callable24 (shape_Place.calls _ _ x0 A0 x0.length c0 rfl (-1) (hm177.give [2] [.sl (Kd.int .i64) A0 c0 x0] rfl rfl) r166 hr166) ?_)
            rintro _ w182 a183 ⟨A180, c181, rfl, hk185⟩ hf184
            have hm186 : Mem [] M w0 [.ow (Kd.int .i64) 3 A180 c181 r166, .sl (Kd.int .i64) A170 c171 r164, .sl (Kd.int .i64) A38 c39 r35, .sl (Kd.int .i64) A0 c0 x0] w182 := hm177.back hk185
            have hm187 : Mem [] M w0 [.sl (Kd.int .i64) A180 c181 r166, .sl (Kd.int .i64) A170 c171 r164, .sl (Kd.int .i64) A38 c39 r35, .sl (Kd.int .i64) A0 c0 x0] w182 := hm186.seal 0 _ rfl rfl
            refine go 4 [.bool true] [2] [(2, .bool true)] [.is ((((r166.length : Int) : Int) == 0) = true)] hf184 (by kernel_rfl) ⟨(eqT c167), trivial⟩ fun a188 hf189 => ?_
            refine endL rfl ?_
            have hm190 : Mem [] M w0 [] w182 := hm187.sel [] _ rfl (by kernel_rfl)
            refine thenN ?_
            refine wp_ret ?_
            have hm191 : Mem [] M w0 [] w182 := hm190.sel [] _ rfl (by kernel_rfl)
            obtain rfl := Option.some.inj H0
            refine ret [] [.bool true] [] hf189 (by kernel_rfl) trivial ?_
            exact ⟨_, rfl, rfl, hm191⟩
          · refine inReg ?_
            refine go 2 [] [0, 66, 67] [(0, .slice A0 x0.length c0), (66, .slice A0 x0.length c0), (67, .int .i64 r22.1)] [] hf162 (by kernel_rfl) trivial fun a193 hf194 => ?_
            refine listOf hf194 rfl (by kernel_rfl) (aCall (fid := 24) (args := [.slice A0 x0.length c0, .int .i64 r22.1]) (d := 68) hf194 (by kernel_rfl) (by kernel_rfl) callable24 (shape_Place.calls _ _ x0 A0 x0.length c0 rfl r22.1 (hm163.give [1] [.sl (Kd.int .i64) A0 c0 x0] rfl rfl) r164 hr164) ?_)
            rintro _ w197 a198 ⟨A195, c196, rfl, hk200⟩ hf199
            have hm201 : Mem [] M w0 [.ow (Kd.int .i64) 3 A195 c196 r164, .sl (Kd.int .i64) A38 c39 r35, .sl (Kd.int .i64) A0 c0 x0] w197 := hm163.back hk200
            have hm202 : Mem [] M w0 [.sl (Kd.int .i64) A195 c196 r164, .sl (Kd.int .i64) A38 c39 r35, .sl (Kd.int .i64) A0 c0 x0] w197 := hm201.seal 0 _ rfl rfl
            refine go 4 [.bool true] [71, 72] [(71, .bool true), (72, .slice A0 x0.length c0)] [.is ((((r164.length : Int) : Int) == 0) = true)] hf199 (by kernel_rfl) ⟨(eqT c165), trivial⟩ fun a203 hf204 => ?_
            refine listOf hf204 rfl (by kernel_rfl) (aCall (fid := 24) (args := [.slice A0 x0.length c0, .int .i64 (-1)]) (d := 73) hf204 (by kernel_rfl) (by kernel_rfl) callable24 (shape_Place.calls _ _ x0 A0 x0.length c0 rfl (-1) (hm202.give [2] [.sl (Kd.int .i64) A0 c0 x0] rfl rfl) r166 hr166) ?_)
            rintro _ w207 a208 ⟨A205, c206, rfl, hk210⟩ hf209
            have hm211 : Mem [] M w0 [.ow (Kd.int .i64) 3 A205 c206 r166, .sl (Kd.int .i64) A195 c196 r164, .sl (Kd.int .i64) A38 c39 r35, .sl (Kd.int .i64) A0 c0 x0] w207 := hm202.back hk210
            have hm212 : Mem [] M w0 [.sl (Kd.int .i64) A205 c206 r166, .sl (Kd.int .i64) A195 c196 r164, .sl (Kd.int .i64) A38 c39 r35, .sl (Kd.int .i64) A0 c0 x0] w207 := hm211.seal 0 _ rfl rfl
            refine go 4 [.bool false] [2] [(2, .bool false)] [.is ((((r166.length : Int) : Int) == 0) = false)] hf209 (by kernel_rfl) ⟨(eqF c167), trivial⟩ fun a213 hf214 => ?_
            refine endL rfl ?_
            have hm215 : Mem [] M w0 [] w207 := hm212.sel [] _ rfl (by kernel_rfl)
            refine thenN ?_
            refine wp_ret ?_
            have hm216 : Mem [] M w0 [] w207 := hm215.sel [] _ rfl (by kernel_rfl)
            obtain rfl := Option.some.inj H0
            refine ret [] [.bool false] [] hf214 (by kernel_rfl) trivial ?_
            exact ⟨_, rfl, rfl, hm216⟩
        · refine inReg ?_
          refine go 2 [] [0, 66, 67] [(0, .slice A0 x0.length c0), (66, .slice A0 x0.length c0), (67, .int .i64 r22.1)] [] hf162 (by kernel_rfl) trivial fun a218 hf219 => ?_
          refine listOf hf219 rfl (by kernel_rfl) (aCall (fid := 24) (args := [.slice A0 x0.length c0, .int .i64 r22.1]) (d := 68) hf219 (by kernel_rfl) (by kernel_rfl) callable24 (shape_Place.calls _ _ x0 A0 x0.length c0 rfl r22.1 (hm163.give [1] [.sl (Kd.int .i64) A0 c0 x0] rfl rfl) r164 hr164) ?_)
          rintro _ w222 a223 ⟨A220, c221, rfl, hk225⟩ hf224
          have hm226 : Mem [] M w0 [.ow (Kd.int .i64) 3 A220 c221 r164, .sl (Kd.int .i64) A38 c39 r35, .sl (Kd.int .i64) A0 c0 x0] w222 := hm163.back hk225
          have hm227 : Mem [] M w0 [.sl (Kd.int .i64) A220 c221 r164, .sl (Kd.int .i64) A38 c39 r35, .sl (Kd.int .i64) A0 c0 x0] w222 := hm226.seal 0 _ rfl rfl
          refine go 9 [.bool false] [2] [(2, .bool false)] [.is ((((r164.length : Int) : Int) == 0) = false)] hf224 (by kernel_rfl) ⟨(eqF c165), trivial⟩ fun a228 hf229 => ?_
          refine endL rfl ?_
          have hm230 : Mem [] M w0 [] w222 := hm227.sel [] _ rfl (by kernel_rfl)
          refine thenN ?_
          refine wp_ret ?_
          have hm231 : Mem [] M w0 [] w222 := hm230.sel [] _ rfl (by kernel_rfl)
          obtain rfl := Option.some.inj H0
          refine ret [] [.bool false] [] hf229 (by kernel_rfl) trivial ?_
          exact ⟨_, rfl, rfl, hm231⟩
      · refine reg [.bool true] [0, 3, 21] [(0, .slice A0 x0.length c0), (3, .int .i64 r22.1), (21, .bool true)] [.is (((r22.2 : Int) != 0) = true)] hf31 (by kernel_rfl) ⟨(neT c32), trivial⟩ fun a233 hf234 => ?_
        refine thenN ?_
        refine condT hf234 (by kernel_rfl) ?_
        refine wp_seq ?_
        rcases if_split H0 with ⟨c235, H0⟩ | ⟨c235, H0⟩
        · refine reg [.bool true] [2] [(2, .bool true)] [.is (((r22.1 : Int) == 0) = true)] hf234 (by kernel_rfl) ⟨(eqT c235), trivial⟩ fun a236 hf237 => ?_
          have hm238 : Mem [] M w0 [] w25 := hm29.sel [] _ rfl (by kernel_rfl)
          refine thenN ?_
          refine wp_ret ?_
          refine thenR ?_
          have hm239 : Mem [] M w0 [] w25 := hm238.sel [] _ rfl (by kernel_rfl)
          obtain rfl := Option.some.inj H0
          refine ret [] [.bool true] [] hf237 (by kernel_rfl) trivial ?_
          exact ⟨_, rfl, rfl, hm239⟩
        · refine reg [.bool false] [2] [(2, .bool false)] [.is (((r22.1 : Int) == 0) = false)] hf234 (by kernel_rfl) ⟨(eqF c235), trivial⟩ fun a241 hf242 => ?_
          have hm243 : Mem [] M w0 [] w25 := hm29.sel [] _ rfl (by kernel_rfl)
          refine thenN ?_
          refine wp_ret ?_
          refine thenR ?_
          have hm244 : Mem [] M w0 [] w25 := hm243.sel [] _ rfl (by kernel_rfl)
          obtain rfl := Option.some.inj H0
          refine ret [] [.bool false] [] hf242 (by kernel_rfl) trivial ?_
          exact ⟨_, rfl, rfl, hm244⟩
  · refine inReg ?_
    refine listOf hf2 rfl (by kernel_rfl) (aCall (fid := 9) (args := []) (d := 10) hf2 (by kernel_rfl) (by kernel_rfl) callable9 (law1_awake.calls _ _  (hm0.give [] [] rfl rfl) r3 hr3) ?_)
    rintro _ w246 a247 ⟨rfl, hk249⟩ hf248
    have hm250 : Mem [] M w0 [.sl (Kd.int .i64) A0 c0 x0] w246 := hm0.still hk249.cum.none
    rw [c4] at hf248
    refine go 1 [] [0, 11] [(0, .slice A0 x0.length c0), (11, .bool true)] [] hf248 (by kernel_rfl) trivial fun a251 hf252 => ?_
    refine endL rfl ?_
    refine thenN ?_
    refine condT hf252 (by kernel_rfl) ?_
    refine wp_seq ?_
    refine reg [] [2] [(2, .bool false)] [] hf252 (by kernel_rfl) trivial fun a253 hf254 => ?_
    have hm255 : Mem [] M w0 [] w246 := hm250.sel [] _ rfl (by kernel_rfl)
    refine thenN ?_
    refine wp_ret ?_
    refine thenR ?_
    have hm256 : Mem [] M w0 [] w246 := hm255.sel [] _ rfl (by kernel_rfl)
    obtain rfl := Option.some.inj H0
    refine ret [] [.bool false] [] hf254 (by kernel_rfl) trivial ?_
    exact ⟨_, rfl, rfl, hm256⟩
end Go.Proofs.Ytgekodhpkhdanaa
