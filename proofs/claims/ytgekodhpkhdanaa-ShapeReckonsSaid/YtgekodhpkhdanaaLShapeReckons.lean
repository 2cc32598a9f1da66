/- Printed by gen.py. -/
import Derived.Test.YtgekodhpkhdanaaF1
namespace Go.Proofs.Ytgekodhpkhdanaa
open Go Go.RowKit
set_option linter.unusedSimpArgs false
set_option linter.unusedVariables false
set_option linter.unnecessarySimpa false
/-! ### backstitch/backstitchlaw1.ShapeReckons -/
noncomputable def law1_ShapeReckons.f (x0 : (List Int)) (x1 : (List Int)) (x2 : Int) : Option Bool :=
  (law1_awake.f).bind fun r3 =>
  if r3 = true then (if 40 < (x0.length : Int) then (some true)
  else (if 40 < (x1.length : Int) then (some true)
  else ((shape_Size.f x0).bind fun r30 =>
  (ref1_Size.f x0).bind fun r40 =>
  if r30.1 = r40.1 then (if r30.2 = r40.2 then ((shape_May.f x0).bind fun r52 =>
  (ref1_May.f x0).bind fun r53 =>
  if r52 = true then (if r53 = true then ((shape_Strides.f x0).bind fun r56 =>
  (ref1_Strides.f x0).bind fun r57 =>
  (ref1_SameInts.f r56 r57).bind fun r58 =>
  if r58 = true then ((shape_Index.f x0 x1).bind fun r60 =>
  (ref1_Index.f x0 x1).bind fun r61 =>
  if r60 = r61 then ((shape_Place.f x0 x2).bind fun r63 =>
  (ref1_Place.f x0 x2).bind fun r64 =>
  (ref1_SameInts.f r63 r64).bind fun r65 =>
  if r65 = true then ((shape_Same.f x0 x1).bind fun r67 =>
  (ref1_SameInts.f x0 x1).bind fun r68 =>
  if r67 = true then (if r68 = true then (some true)
  else (some false))
  else (if r68 = true then (some false)
  else (some true)))
  else (some false))
  else (some false))
  else (some false))
  else (some false))
  else (if r53 = true then (some false)
  else ((shape_Strides.f x0).bind fun r684 =>
  (ref1_Strides.f x0).bind fun r685 =>
  (ref1_SameInts.f r684 r685).bind fun r686 =>
  if r686 = true then ((shape_Index.f x0 x1).bind fun r688 =>
  (ref1_Index.f x0 x1).bind fun r689 =>
  if r688 = r689 then ((shape_Place.f x0 x2).bind fun r691 =>
  (ref1_Place.f x0 x2).bind fun r692 =>
  (ref1_SameInts.f r691 r692).bind fun r693 =>
  if r693 = true then ((shape_Same.f x0 x1).bind fun r695 =>
  (ref1_SameInts.f x0 x1).bind fun r696 =>
  if r695 = true then (if r696 = true then (some true)
  else (some false))
  else (if r696 = true then (some false)
  else (some true)))
  else (some false))
  else (some false))
  else (some false))))
  else (some false))
  else (some false))))
  else (some false)
set_option maxRecDepth 100000 in
set_option maxHeartbeats 4000000 in
theorem law1_ShapeReckons.calls (M : List (Option Nat)) (w0 : World) (x0 : (List Int)) (A0 : Option Addr) (n0 c0 : Nat) (e0 : n0 = x0.length) (x1 : (List Int)) (A1 : Option Addr) (n1 c1 : Nat) (e1 : n1 = x1.length) (x2 : Int) (hm0 : Mem [] M w0 [.sl (Kd.int .i64) A0 c0 x0, .sl (Kd.int .i64) A1 c1 x1] w0) (r : Bool) (H0 : law1_ShapeReckons.f x0 x1 x2 = some r) :
    Calls Try.prog 7 [.slice A0 n0 c0, .slice A1 n1 c1, .int .i64 x2].toArray w0 (fun x w' => ∃ v, x = .returned v ∧ v = .bool r ∧ Mem [] M w0 [] w') := by
  subst e0
  subst e1
  unfold law1_ShapeReckons.f at H0
  refine enter (n := 80) Try.func7 rfl rfl (by kernel_rfl) fun a0 (hf0 : Fr 80 a0 [(0, .slice A0 x0.length c0), (1, .slice A1 x1.length c1), (2, .int .i64 x2)]) => ?_
  refine wp_seq ?_
  refine reg [] [0, 1, 2] [(0, .slice A0 x0.length c0), (1, .slice A1 x1.length c1), (2, .int .i64 x2)] [] hf0 (by kernel_rfl) trivial fun a1 hf2 => ?_
  refine thenN ?_
  refine wp_seq ?_
  refine wp_seq ?_
  obtain ⟨r3, hr3, H0⟩ := ob_split H0
  rcases ifb_split H0 with ⟨c4, H0⟩ | ⟨c4, H0⟩
  · refine inReg ?_
    refine listOf hf2 rfl (by kernel_rfl) (aCall (fid := 9) (args := []) (d := 11) hf2 (by kernel_rfl) (by kernel_rfl) callable9 (law1_awake.calls _ _  (hm0.give [] [] rfl rfl) r3 hr3) ?_)
    rintro _ w5 a6 ⟨rfl, hk8⟩ hf7
    have hm9 : Mem [] M w0 [.sl (Kd.int .i64) A0 c0 x0, .sl (Kd.int .i64) A1 c1 x1] w5 := hm0.still hk8.cum.none
    rw [c4] at hf7
    refine go 1 [] [0, 1, 2, 12] [(0, .slice A0 x0.length c0), (1, .slice A1 x1.length c1), (2, .int .i64 x2), (12, .bool false)] [] hf7 (by kernel_rfl) trivial fun a10 hf11 => ?_
    refine endL rfl ?_
    refine thenN ?_
    refine condF hf11 (by kernel_rfl) ?_
    refine wp_skip ?_
    refine thenN ?_
    refine wp_seq ?_
    refine wp_seq ?_
    rcases if_split H0 with ⟨c12, H0⟩ | ⟨c12, H0⟩
    · refine reg [.bool true] [0, 1, 2, 20] [(0, .slice A0 x0.length c0), (1, .slice A1 x1.length c1), (2, .int .i64 x2), (20, .bool true)] [.is (decide (40 < (x0.length : Int)) = true)] hf11 (by kernel_rfl) ⟨(decide_eq_true c12), trivial⟩ fun a13 hf14 => ?_
      refine thenN ?_
      refine condT hf14 (by kernel_rfl) ?_
      refine wp_seq ?_
      refine reg [] [6] [(6, .bool true)] [] hf14 (by kernel_rfl) trivial fun a15 hf16 => ?_
      have hm17 : Mem [] M w0 [] w5 := hm9.sel [] _ rfl (by kernel_rfl)
      refine thenN ?_
      refine wp_ret ?_
      refine thenR ?_
      have hm18 : Mem [] M w0 [] w5 := hm17.sel [] _ rfl (by kernel_rfl)
      obtain rfl := Option.some.inj H0
      refine ret [] [.bool true] [] hf16 (by kernel_rfl) trivial ?_
      exact ⟨_, rfl, rfl, hm18⟩
    · rcases if_split H0 with ⟨c20, H0⟩ | ⟨c20, H0⟩
      · refine reg [.bool false, .bool true] [0, 1, 2, 20] [(0, .slice A0 x0.length c0), (1, .slice A1 x1.length c1), (2, .int .i64 x2), (20, .bool true)] [.is (decide (40 < (x0.length : Int)) = false), .is (decide (40 < (x1.length : Int)) = true)] hf11 (by kernel_rfl) ⟨(decide_eq_false c12), (decide_eq_true c20), trivial⟩ fun a21 hf22 => ?_
        refine thenN ?_
        refine condT hf22 (by kernel_rfl) ?_
        refine wp_seq ?_
        refine reg [] [6] [(6, .bool true)] [] hf22 (by kernel_rfl) trivial fun a23 hf24 => ?_
        have hm25 : Mem [] M w0 [] w5 := hm9.sel [] _ rfl (by kernel_rfl)
        refine thenN ?_
        refine wp_ret ?_
        refine thenR ?_
        have hm26 : Mem [] M w0 [] w5 := hm25.sel [] _ rfl (by kernel_rfl)
        obtain rfl := Option.some.inj H0
        refine ret [] [.bool true] [] hf24 (by kernel_rfl) trivial ?_
        exact ⟨_, rfl, rfl, hm26⟩
      · refine reg [.bool false, .bool false] [0, 1, 2, 20] [(0, .slice A0 x0.length c0), (1, .slice A1 x1.length c1), (2, .int .i64 x2), (20, .bool false)] [.is (decide (40 < (x0.length : Int)) = false), .is (decide (40 < (x1.length : Int)) = false)] hf11 (by kernel_rfl) ⟨(decide_eq_false c12), (decide_eq_false c20), trivial⟩ fun a28 hf29 => ?_
        refine thenN ?_
        refine condF hf29 (by kernel_rfl) ?_
        refine wp_skip ?_
        refine thenN ?_
        refine wp_seq ?_
        obtain ⟨r30, hr30, H0⟩ := ob_split H0
        refine inReg ?_
        refine go 1 [] [0, 1, 2, 22] [(0, .slice A0 x0.length c0), (1, .slice A1 x1.length c1), (2, .int .i64 x2), (22, .slice A0 x0.length c0)] [] hf29 (by kernel_rfl) trivial fun a31 hf32 => ?_
        refine listOf hf32 rfl (by kernel_rfl) (aCall (fid := 15) (args := [.slice A0 x0.length c0]) (d := 23) hf32 (by kernel_rfl) (by kernel_rfl) callable15 (shape_Size.calls _ _ x0 A0 x0.length c0 rfl (hm9.give [0] [.sl (Kd.int .i64) A0 c0 x0] rfl rfl) r30 hr30) ?_)
        rintro _ w33 a34 ⟨rfl, hk36⟩ hf35
        have hm37 : Mem [] M w0 [.sl (Kd.int .i64) A0 c0 x0, .sl (Kd.int .i64) A1 c1 x1] w33 := hm9.still hk36.cum.none
        refine go 5 [] [0, 1, 2, 7, 8] [(0, .slice A0 x0.length c0), (1, .slice A1 x1.length c1), (2, .int .i64 x2), (7, .int .i64 r30.1), (8, .int .i64 r30.2)] [] hf35 (by kernel_rfl) trivial fun a38 hf39 => ?_
        refine endL rfl ?_
        refine thenN ?_
        refine wp_seq ?_
        obtain ⟨r40, hr40, H0⟩ := ob_split H0
        refine inReg ?_
        refine go 1 [] [0, 1, 2, 7, 8, 27] [(0, .slice A0 x0.length c0), (1, .slice A1 x1.length c1), (2, .int .i64 x2), (7, .int .i64 r30.1), (8, .int .i64 r30.2), (27, .slice A0 x0.length c0)] [] hf39 (by kernel_rfl) trivial fun a41 hf42 => ?_
        refine listOf hf42 rfl (by kernel_rfl) (aCall (fid := 18) (args := [.slice A0 x0.length c0]) (d := 28) hf42 (by kernel_rfl) (by kernel_rfl) callable18 (ref1_Size.calls _ _ x0 A0 x0.length c0 rfl (hm37.give [0] [.sl (Kd.int .i64) A0 c0 x0] rfl rfl) r40 hr40) ?_)
        rintro _ w43 a44 ⟨rfl, hk46⟩ hf45
        have hm47 : Mem [] M w0 [.sl (Kd.int .i64) A0 c0 x0, .sl (Kd.int .i64) A1 c1 x1] w43 := hm37.still hk46.cum.none
        refine go 5 [] [0, 1, 2, 7, 8, 9, 10] [(0, .slice A0 x0.length c0), (1, .slice A1 x1.length c1), (2, .int .i64 x2), (7, .int .i64 r30.1), (8, .int .i64 r30.2), (9, .int .i64 r40.1), (10, .int .i64 r40.2)] [] hf45 (by kernel_rfl) trivial fun a48 hf49 => ?_
        refine endL rfl ?_
        refine thenN ?_
        refine wp_seq ?_
        rcases if_split H0 with ⟨c50, H0⟩ | ⟨c50, H0⟩
        · rcases if_split H0 with ⟨c51, H0⟩ | ⟨c51, H0⟩
          · obtain ⟨r52, hr52, H0⟩ := ob_split H0
            obtain ⟨r53, hr53, H0⟩ := ob_split H0
            rcases ifb_split H0 with ⟨c54, H0⟩ | ⟨c54, H0⟩
            · rcases ifb_split H0 with ⟨c55, H0⟩ | ⟨c55, H0⟩
              · obtain ⟨r56, hr56, H0⟩ := ob_split H0
                obtain ⟨r57, hr57, H0⟩ := ob_split H0
                obtain ⟨r58, hr58, H0⟩ := ob_split H0
                rcases ifb_split H0 with ⟨c59, H0⟩ | ⟨c59, H0⟩
                · obtain ⟨r60, hr60, H0⟩ := ob_split H0
                  obtain ⟨r61, hr61, H0⟩ := ob_split H0
                  rcases if_split H0 with ⟨c62, H0⟩ | ⟨c62, H0⟩
                  · obtain ⟨r63, hr63, H0⟩ := ob_split H0
                    obtain ⟨r64, hr64, H0⟩ := ob_split H0
                    obtain ⟨r65, hr65, H0⟩ := ob_split H0
                    rcases ifb_split H0 with ⟨c66, H0⟩ | ⟨c66, H0⟩
                    · obtain ⟨r67, hr67, H0⟩ := ob_split H0
                      obtain ⟨r68, hr68, H0⟩ := ob_split H0
                      rcases ifb_split H0 with ⟨c69, H0⟩ | ⟨c69, H0⟩
                      · rcases ifb_split H0 with ⟨c70, H0⟩ | ⟨c70, H0⟩
                        · refine inReg ?_
                          refine go 10 [.bool true, .bool true] [0, 1, 2, 39, 40] [(0, .slice A0 x0.length c0), (1, .slice A1 x1.length c1), (2, .int .i64 x2), (39, .bool true), (40, .slice A0 x0.length c0)] [.is (((r30.1 : Int) == r40.1) = true), .is (((r30.2 : Int) == r40.2) = true)] hf49 (by kernel_rfl) ⟨(eqT c50), (eqT c51), trivial⟩ fun a71 hf72 => ?_
                          refine listOf hf72 rfl (by kernel_rfl) (aCall (fid := 19) (args := [.slice A0 x0.length c0]) (d := 41) hf72 (by kernel_rfl) (by kernel_rfl) callable19 (shape_May.calls _ _ x0 A0 x0.length c0 rfl (hm47.give [0] [.sl (Kd.int .i64) A0 c0 x0] rfl rfl) r52 hr52) ?_)
                          rintro _ w73 a74 ⟨rfl, hk76⟩ hf75
                          have hm77 : Mem [] M w0 [.sl (Kd.int .i64) A0 c0 x0, .sl (Kd.int .i64) A1 c1 x1] w73 := hm47.still hk76.cum.none
                          rw [c54] at hf75
                          refine go 1 [] [0, 1, 2, 39, 41, 42] [(0, .slice A0 x0.length c0), (1, .slice A1 x1.length c1), (2, .int .i64 x2), (39, .bool true), (41, .bool true), (42, .slice A0 x0.length c0)] [] hf75 (by kernel_rfl) trivial fun a78 hf79 => ?_
                          refine listOf hf79 rfl (by kernel_rfl) (aCall (fid := 20) (args := [.slice A0 x0.length c0]) (d := 43) hf79 (by kernel_rfl) (by kernel_rfl) callable20 (ref1_May.calls _ _ x0 A0 x0.length c0 rfl (hm77.give [0] [.sl (Kd.int .i64) A0 c0 x0] rfl rfl) r53 hr53) ?_)
                          rintro _ w80 a81 ⟨rfl, hk83⟩ hf82
                          have hm84 : Mem [] M w0 [.sl (Kd.int .i64) A0 c0 x0, .sl (Kd.int .i64) A1 c1 x1] w80 := hm77.still hk83.cum.none
                          rw [c55] at hf82
                          refine go 4 [] [0, 1, 2, 46, 47] [(0, .slice A0 x0.length c0), (1, .slice A1 x1.length c1), (2, .int .i64 x2), (46, .bool true), (47, .slice A0 x0.length c0)] [] hf82 (by kernel_rfl) trivial fun a85 hf86 => ?_
                          refine listOf hf86 rfl (by kernel_rfl) (aCall (fid := 21) (args := [.slice A0 x0.length c0]) (d := 48) hf86 (by kernel_rfl) (by kernel_rfl) callable21 (shape_Strides.calls _ _ x0 A0 x0.length c0 rfl (hm84.give [0] [.sl (Kd.int .i64) A0 c0 x0] rfl rfl) r56 hr56) ?_)
                          rintro _ w89 a90 ⟨A87, c88, rfl, hk92⟩ hf91
                          have hm93 : Mem [] M w0 [.ow (Kd.int .i64) 3 A87 c88 r56, .sl (Kd.int .i64) A0 c0 x0, .sl (Kd.int .i64) A1 c1 x1] w89 := hm84.back hk92
                          have hm94 : Mem [] M w0 [.sl (Kd.int .i64) A87 c88 r56, .sl (Kd.int .i64) A0 c0 x0, .sl (Kd.int .i64) A1 c1 x1] w89 := hm93.seal 0 _ rfl rfl
                          refine go 1 [] [0, 1, 2, 46, 48, 49] [(0, .slice A0 x0.length c0), (1, .slice A1 x1.length c1), (2, .int .i64 x2), (46, .bool true), (48, .slice A87 r56.length c88), (49, .slice A0 x0.length c0)] [] hf91 (by kernel_rfl) trivial fun a95 hf96 => ?_
                          refine listOf hf96 rfl (by kernel_rfl) (aCall (fid := 22) (args := [.slice A0 x0.length c0]) (d := 50) hf96 (by kernel_rfl) (by kernel_rfl) callable22 (ref1_Strides.calls _ _ x0 A0 x0.length c0 rfl (hm94.give [1] [.sl (Kd.int .i64) A0 c0 x0] rfl rfl) r57 hr57) ?_)
                          rintro _ w99 a100 ⟨A97, c98, rfl, hk102⟩ hf101
                          have hm103 : Mem [] M w0 [.ow (Kd.int .i64) 3 A97 c98 r57, .sl (Kd.int .i64) A87 c88 r56, .sl (Kd.int .i64) A0 c0 x0, .sl (Kd.int .i64) A1 c1 x1] w99 := hm94.back hk102
                          have hm104 : Mem [] M w0 [.sl (Kd.int .i64) A97 c98 r57, .sl (Kd.int .i64) A87 c88 r56, .sl (Kd.int .i64) A0 c0 x0, .sl (Kd.int .i64) A1 c1 x1] w99 := hm103.seal 0 _ rfl rfl
                          refine listOf hf101 rfl (by kernel_rfl) (aCall (fid := 12) (args := [.slice A87 r56.length c88, .slice A97 r57.length c98]) (d := 51) hf101 (by kernel_rfl) (by kernel_rfl) callable12 (ref1_SameInts.calls _ _ r56 A87 r56.length c88 rfl r57 A97 r57.length c98 rfl (hm104.give [1, 0] [.sl (Kd.int .i64) A87 c88 r56, .sl (Kd.int .i64) A97 c98 r57] rfl rfl) r58 hr58) ?_)
                          rintro _ w105 a106 ⟨rfl, hk108⟩ hf107
                          have hm109 : Mem [] M w0 [.sl (Kd.int .i64) A97 c98 r57, .sl (Kd.int .i64) A87 c88 r56, .sl (Kd.int .i64) A0 c0 x0, .sl (Kd.int .i64) A1 c1 x1] w105 := hm104.still hk108.cum.none
                          rw [c59] at hf107
                          refine go 4 [] [0, 1, 2, 53, 54, 55] [(0, .slice A0 x0.length c0), (1, .slice A1 x1.length c1), (2, .int .i64 x2), (53, .bool true), (54, .slice A0 x0.length c0), (55, .slice A1 x1.length c1)] [] hf107 (by kernel_rfl) trivial fun a110 hf111 => ?_
                          refine listOf hf111 rfl (by kernel_rfl) (aCall (fid := 17) (args := [.slice A0 x0.length c0, .slice A1 x1.length c1]) (d := 56) hf111 (by kernel_rfl) (by kernel_rfl) callable17 (shape_Index.calls _ _ x0 A0 x0.length c0 rfl x1 A1 x1.length c1 rfl (hm109.give [2, 3] [.sl (Kd.int .i64) A0 c0 x0, .sl (Kd.int .i64) A1 c1 x1] rfl rfl) r60 hr60) ?_)
                          rintro _ w112 a113 ⟨rfl, hk115⟩ hf114
                          have hm116 : Mem [] M w0 [.sl (Kd.int .i64) A97 c98 r57, .sl (Kd.int .i64) A87 c88 r56, .sl (Kd.int .i64) A0 c0 x0, .sl (Kd.int .i64) A1 c1 x1] w112 := hm109.still hk115.cum.none
                          refine go 2 [] [0, 1, 2, 53, 56, 57, 58] [(0, .slice A0 x0.length c0), (1, .slice A1 x1.length c1), (2, .int .i64 x2), (53, .bool true), (56, .int .i64 r60), (57, .slice A0 x0.length c0), (58, .slice A1 x1.length c1)] [] hf114 (by kernel_rfl) trivial fun a117 hf118 => ?_
                          refine listOf hf118 rfl (by kernel_rfl) (aCall (fid := 23) (args := [.slice A0 x0.length c0, .slice A1 x1.length c1]) (d := 59) hf118 (by kernel_rfl) (by kernel_rfl) callable23 (ref1_Index.calls _ _ x0 A0 x0.length c0 rfl x1 A1 x1.length c1 rfl (hm116.give [2, 3] [.sl (Kd.int .i64) A0 c0 x0, .sl (Kd.int .i64) A1 c1 x1] rfl rfl) r61 hr61) ?_)
                          rintro _ w119 a120 ⟨rfl, hk122⟩ hf121
                          have hm123 : Mem [] M w0 [.sl (Kd.int .i64) A97 c98 r57, .sl (Kd.int .i64) A87 c88 r56, .sl (Kd.int .i64) A0 c0 x0, .sl (Kd.int .i64) A1 c1 x1] w119 := hm116.still hk122.cum.none
                          refine go 5 [.bool true] [0, 1, 2, 62, 63, 64] [(0, .slice A0 x0.length c0), (1, .slice A1 x1.length c1), (2, .int .i64 x2), (62, .bool true), (63, .slice A0 x0.length c0), (64, .int .i64 x2)] [.is (((r60 : Int) == r61) = true)] hf121 (by kernel_rfl) ⟨(eqT c62), trivial⟩ fun a124 hf125 => ?_
                          refine listOf hf125 rfl (by kernel_rfl) (aCall (fid := 24) (args := [.slice A0 x0.length c0, .int .i64 x2]) (d := 65) hf125 (by kernel_rfl) (by kernel_rfl) callable24 (shape_Place.calls _ _ x0 A0 x0.length c0 rfl x2 (hm123.give [2] [.sl (Kd.int .i64) A0 c0 x0] rfl rfl) r63 hr63) ?_)
                          rintro _ w128 a129 ⟨A126, c127, rfl, hk131⟩ hf130
                          have hm132 : Mem [] M w0 [.ow (Kd.int .i64) 3 A126 c127 r63, .sl (Kd.int .i64) A97 c98 r57, .sl (Kd.int .i64) A87 c88 r56, .sl (Kd.int .i64) A0 c0 x0, .sl (Kd.int .i64) A1 c1 x1] w128 := hm123.back hk131
                          have hm133 : Mem [] M w0 [.sl (Kd.int .i64) A126 c127 r63, .sl (Kd.int .i64) A97 c98 r57, .sl (Kd.int .i64) A87 c88 r56, .sl (Kd.int .i64) A0 c0 x0, .sl (Kd.int .i64) A1 c1 x1] w128 := hm132.seal 0 _ rfl rfl
                          refine go 2 [] [0, 1, 62, 65, 66, 67] [(0, .slice A0 x0.length c0), (1, .slice A1 x1.length c1), (62, .bool true), (65, .slice A126 r63.length c127), (66, .slice A0 x0.length c0), (67, .int .i64 x2)] [] hf130 (by kernel_rfl) trivial fun a134 hf135 => ?_
                          refine listOf hf135 rfl (by kernel_rfl) (aCall (fid := 25) (args := [.slice A0 x0.length c0, .int .i64 x2]) (d := 68) hf135 (by kernel_rfl) (by kernel_rfl) callable25 (ref1_Place.calls _ _ x0 A0 x0.length c0 rfl x2 (hm133.give [3] [.sl (Kd.int .i64) A0 c0 x0] rfl rfl) r64 hr64) ?_)
                          rintro _ w138 a139 ⟨A136, c137, rfl, hk141⟩ hf140
                          have hm142 : Mem [] M w0 [.ow (Kd.int .i64) 3 A136 c137 r64, .sl (Kd.int .i64) A126 c127 r63, .sl (Kd.int .i64) A97 c98 r57, .sl (Kd.int .i64) A87 c88 r56, .sl (Kd.int .i64) A0 c0 x0, .sl (Kd.int .i64) A1 c1 x1] w138 := hm133.back hk141
                          have hm143 : Mem [] M w0 [.sl (Kd.int .i64) A136 c137 r64, .sl (Kd.int .i64) A126 c127 r63, .sl (Kd.int .i64) A97 c98 r57, .sl (Kd.int .i64) A87 c88 r56, .sl (Kd.int .i64) A0 c0 x0, .sl (Kd.int .i64) A1 c1 x1] w138 := hm142.seal 0 _ rfl rfl
                          refine listOf hf140 rfl (by kernel_rfl) (aCall (fid := 12) (args := [.slice A126 r63.length c127, .slice A136 r64.length c137]) (d := 69) hf140 (by kernel_rfl) (by kernel_rfl) callable12 (ref1_SameInts.calls _ _ r63 A126 r63.length c127 rfl r64 A136 r64.length c137 rfl (hm143.give [1, 0] [.sl (Kd.int .i64) A126 c127 r63, .sl (Kd.int .i64) A136 c137 r64] rfl rfl) r65 hr65) ?_)
                          rintro _ w144 a145 ⟨rfl, hk147⟩ hf146
                          have hm148 : Mem [] M w0 [.sl (Kd.int .i64) A136 c137 r64, .sl (Kd.int .i64) A126 c127 r63, .sl (Kd.int .i64) A97 c98 r57, .sl (Kd.int .i64) A87 c88 r56, .sl (Kd.int .i64) A0 c0 x0, .sl (Kd.int .i64) A1 c1 x1] w144 := hm143.still hk147.cum.none
                          rw [c66] at hf146
                          refine go 4 [] [0, 1, 71, 72, 73] [(0, .slice A0 x0.length c0), (1, .slice A1 x1.length c1), (71, .bool true), (72, .slice A0 x0.length c0), (73, .slice A1 x1.length c1)] [] hf146 (by kernel_rfl) trivial fun a149 hf150 => ?_
                          refine listOf hf150 rfl (by kernel_rfl) (aCall (fid := 16) (args := [.slice A0 x0.length c0, .slice A1 x1.length c1]) (d := 74) hf150 (by kernel_rfl) (by kernel_rfl) callable16 (shape_Same.calls _ _ x0 A0 x0.length c0 rfl x1 A1 x1.length c1 rfl (hm148.give [4, 5] [.sl (Kd.int .i64) A0 c0 x0, .sl (Kd.int .i64) A1 c1 x1] rfl rfl) r67 hr67) ?_)
                          rintro _ w151 a152 ⟨rfl, hk154⟩ hf153
                          have hm155 : Mem [] M w0 [.sl (Kd.int .i64) A136 c137 r64, .sl (Kd.int .i64) A126 c127 r63, .sl (Kd.int .i64) A97 c98 r57, .sl (Kd.int .i64) A87 c88 r56, .sl (Kd.int .i64) A0 c0 x0, .sl (Kd.int .i64) A1 c1 x1] w151 := hm148.still hk154.cum.none
                          rw [c69] at hf153
                          refine go 2 [] [71, 74, 75, 76] [(71, .bool true), (74, .bool true), (75, .slice A0 x0.length c0), (76, .slice A1 x1.length c1)] [] hf153 (by kernel_rfl) trivial fun a156 hf157 => ?_
                          refine listOf hf157 rfl (by kernel_rfl) (aCall (fid := 12) (args := [.slice A0 x0.length c0, .slice A1 x1.length c1]) (d := 77) hf157 (by kernel_rfl) (by kernel_rfl) callable12 (ref1_SameInts.calls _ _ x0 A0 x0.length c0 rfl x1 A1 x1.length c1 rfl (hm155.give [4, 5] [.sl (Kd.int .i64) A0 c0 x0, .sl (Kd.int .i64) A1 c1 x1] rfl rfl) r68 hr68) ?_)
                          rintro _ w158 a159 ⟨rfl, hk161⟩ hf160
                          have hm162 : Mem [] M w0 [.sl (Kd.int .i64) A136 c137 r64, .sl (Kd.int .i64) A126 c127 r63, .sl (Kd.int .i64) A97 c98 r57, .sl (Kd.int .i64) A87 c88 r56, .sl (Kd.int .i64) A0 c0 x0, .sl (Kd.int .i64) A1 c1 x1] w158 := hm155.still hk161.cum.none
                          rw [c70] at hf160
                          refine go 3 [] [6] [(6, .bool true)] [] hf160 (by kernel_rfl) trivial fun a163 hf164 => ?_
                          refine endL rfl ?_
                          have hm165 : Mem [] M w0 [] w158 := hm162.sel [] _ rfl (by kernel_rfl)
                          refine thenN ?_
                          refine wp_ret ?_
                          have hm166 : Mem [] M w0 [] w158 := hm165.sel [] _ rfl (by kernel_rfl)
                          obtain rfl := Option.some.inj H0
                          refine ret [] [.bool true] [] hf164 (by kernel_rfl) trivial ?_
                          exact ⟨_, rfl, rfl, hm166⟩
                        · refine inReg ?_
                          refine go 10 [.bool true, .bool true] [0, 1, 2, 39, 40] [(0, .slice A0 x0.length c0), (1, .slice A1 x1.length c1), (2, .int .i64 x2), (39, .bool true), (40, .slice A0 x0.length c0)] [.is (((r30.1 : Int) == r40.1) = true), .is (((r30.2 : Int) == r40.2) = true)] hf49 (by kernel_rfl) ⟨(eqT c50), (eqT c51), trivial⟩ fun a168 hf169 => ?_
                          refine listOf hf169 rfl (by kernel_rfl) (aCall (fid := 19) (args := [.slice A0 x0.length c0]) (d := 41) hf169 (by kernel_rfl) (by kernel_rfl) callable19 (shape_May.calls _ _ x0 A0 x0.length c0 rfl (hm47.give [0] [.sl (Kd.int .i64) A0 c0 x0] rfl rfl) r52 hr52) ?_)
                          rintro _ w170 a171 ⟨rfl, hk173⟩ hf172
                          have hm174 : Mem [] M w0 [.sl (Kd.int .i64) A0 c0 x0, .sl (Kd.int .i64) A1 c1 x1] w170 := hm47.still hk173.cum.none
                          rw [c54] at hf172
                          refine go 1 [] [0, 1, 2, 39, 41, 42] [(0, .slice A0 x0.length c0), (1, .slice A1 x1.length c1), (2, .int .i64 x2), (39, .bool true), (41, .bool true), (42, .slice A0 x0.length c0)] [] hf172 (by kernel_rfl) trivial fun a175 hf176 => ?_
                          refine listOf hf176 rfl (by kernel_rfl) (aCall (fid := 20) (args := [.slice A0 x0.length c0]) (d := 43) hf176 (by kernel_rfl) (by kernel_rfl) callable20 (ref1_May.calls _ _ x0 A0 x0.length c0 rfl (hm174.give [0] [.sl (Kd.int .i64) A0 c0 x0] rfl rfl) r53 hr53) ?_)
                          rintro _ w177 a178 ⟨rfl, hk180⟩ hf179
                          have hm181 : Mem [] M w0 [.sl (Kd.int .i64) A0 c0 x0, .sl (Kd.int .i64) A1 c1 x1] w177 := hm174.still hk180.cum.none
                          rw [c55] at hf179
                          refine go 4 [] [0, 1, 2, 46, 47] [(0, .slice A0 x0.length c0), (1, .slice A1 x1.length c1), (2, .int .i64 x2), (46, .bool true), (47, .slice A0 x0.length c0)] [] hf179 (by kernel_rfl) trivial fun a182 hf183 => ?_
                          refine listOf hf183 rfl (by kernel_rfl) (aCall (fid := 21) (args := [.slice A0 x0.length c0]) (d := 48) hf183 (by kernel_rfl) (by kernel_rfl) callable21 (shape_Strides.calls _ _ x0 A0 x0.length c0 rfl (hm181.give [0] [.sl (Kd.int .i64) A0 c0 x0] rfl rfl) r56 hr56) ?_)
                          rintro _ w186 a187 ⟨A184, c185, rfl, hk189⟩ hf188
                          have hm190 : Mem [] M w0 [.ow (Kd.int .i64) 3 A184 c185 r56, .sl (Kd.int .i64) A0 c0 x0, .sl (Kd.int .i64) A1 c1 x1] w186 := hm181.back hk189
                          have hm191 : Mem [] M w0 [.sl (Kd.int .i64) A184 c185 r56, .sl (Kd.int .i64) A0 c0 x0, .sl (Kd.int .i64) A1 c1 x1] w186 := hm190.seal 0 _ rfl rfl
                          refine go 1 [] [0, 1, 2, 46, 48, 49] [(0, .slice A0 x0.length c0), (1, .slice A1 x1.length c1), (2, .int .i64 x2), (46, .bool true), (48, .slice A184 r56.length c185), (49, .slice A0 x0.length c0)] [] hf188 (by kernel_rfl) trivial fun a192 hf193 => ?_
                          refine listOf hf193 rfl (by kernel_rfl) (aCall (fid := 22) (args := [.slice A0 x0.length c0]) (d := 50) hf193 (by kernel_rfl) (by kernel_rfl) callable22 (ref1_Strides.calls _ _ x0 A0 x0.length c0 rfl (hm191.give [1] [.sl (Kd.int .i64) A0 c0 x0] rfl rfl) r57 hr57) ?_)
                          rintro _ w196 a197 ⟨A194, c195, rfl, hk199⟩ hf198
                          have hm200 : Mem [] M w0 [.ow (Kd.int .i64) 3 A194 c195 r57, .sl (Kd.int .i64) A184 c185 r56, .sl (Kd.int .i64) A0 c0 x0, .sl (Kd.int .i64) A1 c1 x1] w196 := hm191.back hk199
                          have hm201 : Mem [] M w0 [.sl (Kd.int .i64) A194 c195 r57, .sl (Kd.int .i64) A184 c185 r56, .sl (Kd.int .i64) A0 c0 x0, .sl (Kd.int .i64) A1 c1 x1] w196 := hm200.seal 0 _ rfl rfl
                          refine listOf hf198 rfl (by kernel_rfl) (aCall (fid := 12) (args := [.slice A184 r56.length c185, .slice A194 r57.length c195]) (d := 51) hf198 (by kernel_rfl) (by kernel_rfl) callable12 (ref1_SameInts.calls _ _ r56 A184 r56.length c185 rfl r57 A194 r57.length c195 rfl (hm201.give [1, 0] [.sl (Kd.int .i64) A184 c185 r56, .sl (Kd.int .i64) A194 c195 r57] rfl rfl) r58 hr58) ?_)
                          rintro _ w202 a203 ⟨rfl, hk205⟩ hf204
                          have hm206 : Mem [] M w0 [.sl (Kd.int .i64) A194 c195 r57, .sl (Kd.int .i64) A184 c185 r56, .sl (Kd.int .i64) A0 c0 x0, .sl (Kd.int .i64) A1 c1 x1] w202 := hm201.still hk205.cum.none
                          rw [c59] at hf204
                          refine go 4 [] [0, 1, 2, 53, 54, 55] [(0, .slice A0 x0.length c0), (1, .slice A1 x1.length c1), (2, .int .i64 x2), (53, .bool true), (54, .slice A0 x0.length c0), (55, .slice A1 x1.length c1)] [] hf204 (by kernel_rfl) trivial fun a207 hf208 => ?_
                          refine listOf hf208 rfl (by kernel_rfl) (aCall (fid := 17) (args := [.slice A0 x0.length c0, .slice A1 x1.length c1]) (d := 56) hf208 (by kernel_rfl) (by kernel_rfl) callable17 (shape_Index.calls _ _ x0 A0 x0.length c0 rfl x1 A1 x1.length c1 rfl (hm206.give [2, 3] [.sl (Kd.int .i64) A0 c0 x0, .sl (Kd.int .i64) A1 c1 x1] rfl rfl) r60 hr60) ?_)
                          rintro _ w209 a210 ⟨rfl, hk212⟩ hf211
                          have hm213 : Mem [] M w0 [.sl (Kd.int .i64) A194 c195 r57, .sl (Kd.int .i64) A184 c185 r56, .sl (Kd.int .i64) A0 c0 x0, .sl (Kd.int .i64) A1 c1 x1] w209 := hm206.still hk212.cum.none
                          refine go 2 [] [0, 1, 2, 53, 56, 57, 58] [(0, .slice A0 x0.length c0), (1, .slice A1 x1.length c1), (2, .int .i64 x2), (53, .bool true), (56, .int .i64 r60), (57, .slice A0 x0.length c0), (58, .slice A1 x1.length c1)] [] hf211 (by kernel_rfl) trivial fun a214 hf215 => ?_
                          refine listOf hf215 rfl (by kernel_rfl) (aCall (fid := 23) (args := [.slice A0 x0.length c0, .slice A1 x1.length c1]) (d := 59) hf215 (by kernel_rfl) (by kernel_rfl) callable23 (ref1_Index.calls _ _ x0 A0 x0.length c0 rfl x1 A1 x1.length c1 rfl (hm213.give [2, 3] [.sl (Kd.int .i64) A0 c0 x0, .sl (Kd.int .i64) A1 c1 x1] rfl rfl) r61 hr61) ?_)
                          rintro _ w216 a217 ⟨rfl, hk219⟩ hf218
                          have hm220 : Mem [] M w0 [.sl (Kd.int .i64) A194 c195 r57, .sl (Kd.int .i64) A184 c185 r56, .sl (Kd.int .i64) A0 c0 x0, .sl (Kd.int .i64) A1 c1 x1] w216 := hm213.still hk219.cum.none
                          refine go 5 [.bool true] [0, 1, 2, 62, 63, 64] [(0, .slice A0 x0.length c0), (1, .slice A1 x1.length c1), (2, .int .i64 x2), (62, .bool true), (63, .slice A0 x0.length c0), (64, .int .i64 x2)] [.is (((r60 : Int) == r61) = true)] hf218 (by kernel_rfl) ⟨(eqT c62), trivial⟩ fun a221 hf222 => ?_
                          refine listOf hf222 rfl (by kernel_rfl) (aCall (fid := 24) (args := [.slice A0 x0.length c0, .int .i64 x2]) (d := 65) hf222 (by kernel_rfl) (by kernel_rfl) callable24 (shape_Place.calls _ _ x0 A0 x0.length c0 rfl x2 (hm220.give [2] [.sl (Kd.int .i64) A0 c0 x0] rfl rfl) r63 hr63) ?_)
                          rintro _ w225 a226 ⟨A223, c224, rfl, hk228⟩ hf227
                          have hm229 : Mem [] M w0 [.ow (Kd.int .i64) 3 A223 c224 r63, .sl (Kd.int .i64) A194 c195 r57, .sl (Kd.int .i64) A184 c185 r56, .sl (Kd.int .i64) A0 c0 x0, .sl (Kd.int .i64) A1 c1 x1] w225 := hm220.back hk228
                          have hm230 : Mem [] M w0 [.sl (Kd.int .i64) A223 c224 r63, .sl (Kd.int .i64) A194 c195 r57, .sl (Kd.int .i64) A184 c185 r56, .sl (Kd.int .i64) A0 c0 x0, .sl (Kd.int .i64) A1 c1 x1] w225 := hm229.seal 0 _ rfl rfl
                          refine go 2 [] [0, 1, 62, 65, 66, 67] [(0, .slice A0 x0.length c0), (1, .slice A1 x1.length c1), (62, .bool true), (65, .slice A223 r63.length c224), (66, .slice A0 x0.length c0), (67, .int .i64 x2)] [] hf227 (by kernel_rfl) trivial fun a231 hf232 => ?_
                          refine listOf hf232 rfl (by kernel_rfl) (aCall (fid := 25) (args := [.slice A0 x0.length c0, .int .i64 x2]) (d := 68) hf232 (by kernel_rfl) (by kernel_rfl) callable25 (ref1_Place.calls _ _ x0 A0 x0.length c0 rfl x2 (hm230.give [3] [.sl (Kd.int .i64) A0 c0 x0] rfl rfl) r64 hr64) ?_)
                          rintro _ w235 a236 ⟨A233, c234, rfl, hk238⟩ hf237
                          have hm239 : Mem [] M w0 [.ow (Kd.int .i64) 3 A233 c234 r64, .sl (Kd.int .i64) A223 c224 r63, .sl (Kd.int .i64) A194 c195 r57, .sl (Kd.int .i64) A184 c185 r56, .sl (Kd.int .i64) A0 c0 x0, .sl (Kd.int .i64) A1 c1 x1] w235 := hm230.back hk238
                          have hm240 : Mem [] M w0 [.sl (Kd.int .i64) A233 c234 r64, .sl (Kd.int .i64) A223 c224 r63, .sl (Kd.int .i64) A194 c195 r57, .sl (Kd.int .i64) A184 c185 r56, .sl (Kd.int .i64) A0 c0 x0, .sl (Kd.int .i64) A1 c1 x1] w235 := hm239.seal 0 _ rfl rfl
                          refine listOf hf237 rfl (by kernel_rfl) (aCall (fid := 12) (args := [.slice A223 r63.length c224, .slice A233 r64.length c234]) (d := 69) hf237 (by kernel_rfl) (by kernel_rfl) callable12 (ref1_SameInts.calls _ _ r63 A223 r63.length c224 rfl r64 A233 r64.length c234 rfl (hm240.give [1, 0] [.sl (Kd.int .i64) A223 c224 r63, .sl (Kd.int .i64) A233 c234 r64] rfl rfl) r65 hr65) ?_)
                          rintro _ w241 a242 ⟨rfl, hk244⟩ hf243
                          have hm245 : Mem [] M w0 [.sl (Kd.int .i64) A233 c234 r64, .sl (Kd.int .i64) A223 c224 r63, .sl (Kd.int .i64) A194 c195 r57, .sl (Kd.int .i64) A184 c185 r56, .sl (Kd.int .i64) A0 c0 x0, .sl (Kd.int .i64) A1 c1 x1] w241 := hm240.still hk244.cum.none
                          rw [c66] at hf243
                          refine go 4 [] [0, 1, 71, 72, 73] [(0, .slice A0 x0.length c0), (1, .slice A1 x1.length c1), (71, .bool true), (72, .slice A0 x0.length c0), (73, .slice A1 x1.length c1)] [] hf243 (by kernel_rfl) trivial fun a246 hf247 => ?_
                          refine listOf hf247 rfl (by kernel_rfl) (aCall (fid := 16) (args := [.slice A0 x0.length c0, .slice A1 x1.length c1]) (d := 74) hf247 (by kernel_rfl) (by kernel_rfl) callable16 (shape_Same.calls _ _ x0 A0 x0.length c0 rfl x1 A1 x1.length c1 rfl (hm245.give [4, 5] [.sl (Kd.int .i64) A0 c0 x0, .sl (Kd.int .i64) A1 c1 x1] rfl rfl) r67 hr67) ?_)
                          rintro _ w248 a249 ⟨rfl, hk251⟩ hf250
                          have hm252 : Mem [] M w0 [.sl (Kd.int .i64) A233 c234 r64, .sl (Kd.int .i64) A223 c224 r63, .sl (Kd.int .i64) A194 c195 r57, .sl (Kd.int .i64) A184 c185 r56, .sl (Kd.int .i64) A0 c0 x0, .sl (Kd.int .i64) A1 c1 x1] w248 := hm245.still hk251.cum.none
                          rw [c69] at hf250
                          refine go 2 [] [71, 74, 75, 76] [(71, .bool true), (74, .bool true), (75, .slice A0 x0.length c0), (76, .slice A1 x1.length c1)] [] hf250 (by kernel_rfl) trivial fun a253 hf254 => ?_
                          refine listOf hf254 rfl (by kernel_rfl) (aCall (fid := 12) (args := [.slice A0 x0.length c0, .slice A1 x1.length c1]) (d := 77) hf254 (by kernel_rfl) (by kernel_rfl) callable12 (ref1_SameInts.calls _ _ x0 A0 x0.length c0 rfl x1 A1 x1.length c1 rfl (hm252.give [4, 5] [.sl (Kd.int .i64) A0 c0 x0, .sl (Kd.int .i64) A1 c1 x1] rfl rfl) r68 hr68) ?_)
                          rintro _ w255 a256 ⟨rfl, hk258⟩ hf257
                          have hm259 : Mem [] M w0 [.sl (Kd.int .i64) A233 c234 r64, .sl (Kd.int .i64) A223 c224 r63, .sl (Kd.int .i64) A194 c195 r57, .sl (Kd.int .i64) A184 c185 r56, .sl (Kd.int .i64) A0 c0 x0, .sl (Kd.int .i64) A1 c1 x1] w255 := hm252.still hk258.cum.none
                          rw [c70] at hf257
                          refine go 3 [] [6] [(6, .bool false)] [] hf257 (by kernel_rfl) trivial fun a260 hf261 => ?_
                          refine endL rfl ?_
                          have hm262 : Mem [] M w0 [] w255 := hm259.sel [] _ rfl (by kernel_rfl)
                          refine thenN ?_
                          refine wp_ret ?_
                          have hm263 : Mem [] M w0 [] w255 := hm262.sel [] _ rfl (by kernel_rfl)
                          obtain rfl := Option.some.inj H0
                          refine ret [] [.bool false] [] hf261 (by kernel_rfl) trivial ?_
                          exact ⟨_, rfl, rfl, hm263⟩
                      · rcases ifb_split H0 with ⟨c265, H0⟩ | ⟨c265, H0⟩
                        · refine inReg ?_
                          refine go 10 [.bool true, .bool true] [0, 1, 2, 39, 40] [(0, .slice A0 x0.length c0), (1, .slice A1 x1.length c1), (2, .int .i64 x2), (39, .bool true), (40, .slice A0 x0.length c0)] [.is (((r30.1 : Int) == r40.1) = true), .is (((r30.2 : Int) == r40.2) = true)] hf49 (by kernel_rfl) ⟨(eqT c50), (eqT c51), trivial⟩ fun a266 hf267 => ?_
                          refine listOf hf267 rfl (by kernel_rfl) (aCall (fid := 19) (args := [.slice A0 x0.length c0]) (d := 41) hf267 (by kernel_rfl) (by kernel_rfl) callable19 (shape_May.calls _ _ x0 A0 x0.length c0 rfl (hm47.give [0] [.sl (Kd.int .i64) A0 c0 x0] rfl rfl) r52 hr52) ?_)
                          rintro _ w268 a269 ⟨rfl, hk271⟩ hf270
                          have hm272 : Mem [] M w0 [.sl (Kd.int .i64) A0 c0 x0, .sl (Kd.int .i64) A1 c1 x1] w268 := hm47.still hk271.cum.none
                          rw [c54] at hf270
                          refine go 1 [] [0, 1, 2, 39, 41, 42] [(0, .slice A0 x0.length c0), (1, .slice A1 x1.length c1), (2, .int .i64 x2), (39, .bool true), (41, .bool true), (42, .slice A0 x0.length c0)] [] hf270 (by kernel_rfl) trivial fun a273 hf274 => ?_
                          refine listOf hf274 rfl (by kernel_rfl) (aCall (fid := 20) (args := [.slice A0 x0.length c0]) (d := 43) hf274 (by kernel_rfl) (by kernel_rfl) callable20 (ref1_May.calls _ _ x0 A0 x0.length c0 rfl (hm272.give [0] [.sl (Kd.int .i64) A0 c0 x0] rfl rfl) r53 hr53) ?_)
                          rintro _ w275 a276 ⟨rfl, hk278⟩ hf277
                          have hm279 : Mem [] M w0 [.sl (Kd.int .i64) A0 c0 x0, .sl (Kd.int .i64) A1 c1 x1] w275 := hm272.still hk278.cum.none
                          rw [c55] at hf277
                          refine go 4 [] [0, 1, 2, 46, 47] [(0, .slice A0 x0.length c0), (1, .slice A1 x1.length c1), (2, .int .i64 x2), (46, .bool true), (47, .slice A0 x0.length c0)] [] hf277 (by kernel_rfl) trivial fun a280 hf281 => ?_
                          refine listOf hf281 rfl (by kernel_rfl) (aCall (fid := 21) (args := [.slice A0 x0.length c0]) (d := 48) hf281 (by kernel_rfl) (by kernel_rfl) callable21 (shape_Strides.calls _ _ x0 A0 x0.length c0 rfl (hm279.give [0] [.sl (Kd.int .i64) A0 c0 x0] rfl rfl) r56 hr56) ?_)
                          rintro _ w284 a285 ⟨A282, c283, rfl, hk287⟩ hf286
                          have hm288 : Mem [] M w0 [.ow (Kd.int .i64) 3 A282 c283 r56, .sl (Kd.int .i64) A0 c0 x0, .sl (Kd.int .i64) A1 c1 x1] w284 := hm279.back hk287
                          have hm289 : Mem [] M w0 [.sl (Kd.int .i64) A282 c283 r56, .sl (Kd.int .i64) A0 c0 x0, .sl (Kd.int .i64) A1 c1 x1] w284 := hm288.seal 0 _ rfl rfl
                          refine go 1 [] [0, 1, 2, 46, 48, 49] [(0, .slice A0 x0.length c0), (1, .slice A1 x1.length c1), (2, .int .i64 x2), (46, .bool true), (48, .slice A282 r56.length c283), (49, .slice A0 x0.length c0)] [] hf286 (by kernel_rfl) trivial fun a290 hf291 => ?_
                          refine listOf hf291 rfl (by kernel_rfl) (aCall (fid := 22) (args := [.slice A0 x0.length c0]) (d := 50) hf291 (by kernel_rfl) (by kernel_rfl) callable22 (ref1_Strides.calls _ _ x0 A0 x0.length c0 rfl (hm289.give [1] [.sl (Kd.int .i64) A0 c0 x0] rfl rfl) r57 hr57) ?_)
                          rintro _ w294 a295 ⟨A292, c293, rfl, hk297⟩ hf296
                          have hm298 : Mem [] M w0 [.ow (Kd.int .i64) 3 A292 c293 r57, .sl (Kd.int .i64) A282 c283 r56, .sl (Kd.int .i64) A0 c0 x0, .sl (Kd.int .i64) A1 c1 x1] w294 := hm289.back hk297
                          have hm299 : Mem [] M w0 [.sl (Kd.int .i64) A292 c293 r57, .sl (Kd.int .i64) A282 c283 r56, .sl (Kd.int .i64) A0 c0 x0, .sl (Kd.int .i64) A1 c1 x1] w294 := hm298.seal 0 _ rfl rfl
                          refine listOf hf296 rfl (by kernel_rfl) (aCall (fid := 12) (args := [.slice A282 r56.length c283, .slice A292 r57.length c293]) (d := 51) hf296 (by kernel_rfl) (by kernel_rfl) callable12 (ref1_SameInts.calls _ _ r56 A282 r56.length c283 rfl r57 A292 r57.length c293 rfl (hm299.give [1, 0] [.sl (Kd.int .i64) A282 c283 r56, .sl (Kd.int .i64) A292 c293 r57] rfl rfl) r58 hr58) ?_)
                          rintro _ w300 a301 ⟨rfl, hk303⟩ hf302
                          have hm304 : Mem [] M w0 [.sl (Kd.int .i64) A292 c293 r57, .sl (Kd.int .i64) A282 c283 r56, .sl (Kd.int .i64) A0 c0 x0, .sl (Kd.int .i64) A1 c1 x1] w300 := hm299.still hk303.cum.none
                          rw [c59] at hf302
                          refine go 4 [] [0, 1, 2, 53, 54, 55] [(0, .slice A0 x0.length c0), (1, .slice A1 x1.length c1), (2, .int .i64 x2), (53, .bool true), (54, .slice A0 x0.length c0), (55, .slice A1 x1.length c1)] [] hf302 (by kernel_rfl) trivial fun a305 hf306 => ?_
                          refine listOf hf306 rfl (by kernel_rfl) (aCall (fid := 17) (args := [.slice A0 x0.length c0, .slice A1 x1.length c1]) (d := 56) hf306 (by kernel_rfl) (by kernel_rfl) callable17 (shape_Index.calls _ _ x0 A0 x0.length c0 rfl x1 A1 x1.length c1 rfl (hm304.give [2, 3] [.sl (Kd.int .i64) A0 c0 x0, .sl (Kd.int .i64) A1 c1 x1] rfl rfl) r60 hr60) ?_)
                          rintro _ w307 a308 ⟨rfl, hk310⟩ hf309
                          have hm311 : Mem [] M w0 [.sl (Kd.int .i64) A292 c293 r57, .sl (Kd.int .i64) A282 c283 r56, .sl (Kd.int .i64) A0 c0 x0, .sl (Kd.int .i64) A1 c1 x1] w307 := hm304.still hk310.cum.none
                          refine go 2 [] [0, 1, 2, 53, 56, 57, 58] [(0, .slice A0 x0.length c0), (1, .slice A1 x1.length c1), (2, .int .i64 x2), (53, .bool true), (56, .int .i64 r60), (57, .slice A0 x0.length c0), (58, .slice A1 x1.length c1)] [] hf309 (by kernel_rfl) trivial fun a312 hf313 => ?_
                          refine listOf hf313 rfl (by kernel_rfl) (aCall (fid := 23) (args := [.slice A0 x0.length c0, .slice A1 x1.length c1]) (d := 59) hf313 (by kernel_rfl) (by kernel_rfl) callable23 (ref1_Index.calls _ _ x0 A0 x0.length c0 rfl x1 A1 x1.length c1 rfl (hm311.give [2, 3] [.sl (Kd.int .i64) A0 c0 x0, .sl (Kd.int .i64) A1 c1 x1] rfl rfl) r61 hr61) ?_)
                          rintro _ w314 a315 ⟨rfl, hk317⟩ hf316
                          have hm318 : Mem [] M w0 [.sl (Kd.int .i64) A292 c293 r57, .sl (Kd.int .i64) A282 c283 r56, .sl (Kd.int .i64) A0 c0 x0, .sl (Kd.int .i64) A1 c1 x1] w314 := hm311.still hk317.cum.none
                          refine go 5 [.bool true] [0, 1, 2, 62, 63, 64] [(0, .slice A0 x0.length c0), (1, .slice A1 x1.length c1), (2, .int .i64 x2), (62, .bool true), (63, .slice A0 x0.length c0), (64, .int .i64 x2)] [.is (((r60 : Int) == r61) = true)] hf316 (by kernel_rfl) ⟨(eqT c62), trivial⟩ fun a319 hf320 => ?_
                          refine listOf hf320 rfl (by kernel_rfl) (aCall (fid := 24) (args := [.slice A0 x0.length c0, .int .i64 x2]) (d := 65) hf320 (by kernel_rfl) (by kernel_rfl) callable24 (shape_Place.calls _ _ x0 A0 x0.length c0 rfl x2 (hm318.give [2] [.sl (Kd.int .i64) A0 c0 x0] rfl rfl) r63 hr63) ?_)
                          rintro _ w323 a324 ⟨A321, c322, rfl, hk326⟩ hf325
                          have hm327 : Mem [] M w0 [.ow (Kd.int .i64) 3 A321 c322 r63, .sl (Kd.int .i64) A292 c293 r57, .sl (Kd.int .i64) A282 c283 r56, .sl (Kd.int .i64) A0 c0 x0, .sl (Kd.int .i64) A1 c1 x1] w323 := hm318.back hk326
                          have hm328 : Mem [] M w0 [.sl (Kd.int .i64) A321 c322 r63, .sl (Kd.int .i64) A292 c293 r57, .sl (Kd.int .i64) A282 c283 r56, .sl (Kd.int .i64) A0 c0 x0, .sl (Kd.int .i64) A1 c1 x1] w323 := hm327.seal 0 _ rfl rfl
                          refine go 2 [] [0, 1, 62, 65, 66, 67] [(0, .slice A0 x0.length c0), (1, .slice A1 x1.length c1), (62, .bool true), (65, .slice A321 r63.length c322), (66, .slice A0 x0.length c0), (67, .int .i64 x2)] [] hf325 (by kernel_rfl) trivial fun a329 hf330 => ?_
                          refine listOf hf330 rfl (by kernel_rfl) (aCall (fid := 25) (args := [.slice A0 x0.length c0, .int .i64 x2]) (d := 68) hf330 (by kernel_rfl) (by kernel_rfl) callable25 (ref1_Place.calls _ _ x0 A0 x0.length c0 rfl x2 (hm328.give [3] [.sl (Kd.int .i64) A0 c0 x0] rfl rfl) r64 hr64) ?_)
                          rintro _ w333 a334 ⟨A331, c332, rfl, hk336⟩ hf335
                          have hm337 : Mem [] M w0 [.ow (Kd.int .i64) 3 A331 c332 r64, .sl (Kd.int .i64) A321 c322 r63, .sl (Kd.int .i64) A292 c293 r57, .sl (Kd.int .i64) A282 c283 r56, .sl (Kd.int .i64) A0 c0 x0, .sl (Kd.int .i64) A1 c1 x1] w333 := hm328.back hk336
                          have hm338 : Mem [] M w0 [.sl (Kd.int .i64) A331 c332 r64, .sl (Kd.int .i64) A321 c322 r63, .sl (Kd.int .i64) A292 c293 r57, .sl (Kd.int .i64) A282 c283 r56, .sl (Kd.int .i64) A0 c0 x0, .sl (Kd.int .i64) A1 c1 x1] w333 := hm337.seal 0 _ rfl rfl
                          refine listOf hf335 rfl (by kernel_rfl) (aCall (fid := 12) (args := [.slice A321 r63.length c322, .slice A331 r64.length c332]) (d := 69) hf335 (by kernel_rfl) (by kernel_rfl) callable12 (ref1_SameInts.calls _ _ r63 A321 r63.length c322 rfl r64 A331 r64.length c332 rfl (hm338.give [1, 0] [.sl (Kd.int .i64) A321 c322 r63, .sl (Kd.int .i64) A331 c332 r64] rfl rfl) r65 hr65) ?_)
                          rintro _ w339 a340 ⟨rfl, hk342⟩ hf341
                          have hm343 : Mem [] M w0 [.sl (Kd.int .i64) A331 c332 r64, .sl (Kd.int .i64) A321 c322 r63, .sl (Kd.int .i64) A292 c293 r57, .sl (Kd.int .i64) A282 c283 r56, .sl (Kd.int .i64) A0 c0 x0, .sl (Kd.int .i64) A1 c1 x1] w339 := hm338.still hk342.cum.none
                          rw [c66] at hf341
                          refine go 4 [] [0, 1, 71, 72, 73] [(0, .slice A0 x0.length c0), (1, .slice A1 x1.length c1), (71, .bool true), (72, .slice A0 x0.length c0), (73, .slice A1 x1.length c1)] [] hf341 (by kernel_rfl) trivial fun a344 hf345 => ?_
                          refine listOf hf345 rfl (by kernel_rfl) (aCall (fid := 16) (args := [.slice A0 x0.length c0, .slice A1 x1.length c1]) (d := 74) hf345 (by kernel_rfl) (by kernel_rfl) callable16 (shape_Same.calls _ _ x0 A0 x0.length c0 rfl x1 A1 x1.length c1 rfl (hm343.give [4, 5] [.sl (Kd.int .i64) A0 c0 x0, .sl (Kd.int .i64) A1 c1 x1] rfl rfl) r67 hr67) ?_)
                          rintro _ w346 a347 ⟨rfl, hk349⟩ hf348
                          have hm350 : Mem [] M w0 [.sl (Kd.int .i64) A331 c332 r64, .sl (Kd.int .i64) A321 c322 r63, .sl (Kd.int .i64) A292 c293 r57, .sl (Kd.int .i64) A282 c283 r56, .sl (Kd.int .i64) A0 c0 x0, .sl (Kd.int .i64) A1 c1 x1] w346 := hm343.still hk349.cum.none
                          rw [c69] at hf348
                          refine go 2 [] [71, 74, 75, 76] [(71, .bool true), (74, .bool false), (75, .slice A0 x0.length c0), (76, .slice A1 x1.length c1)] [] hf348 (by kernel_rfl) trivial fun a351 hf352 => ?_
                          refine listOf hf352 rfl (by kernel_rfl) (aCall (fid := 12) (args := [.slice A0 x0.length c0, .slice A1 x1.length c1]) (d := 77) hf352 (by kernel_rfl) (by kernel_rfl) callable12 (ref1_SameInts.calls _ _ x0 A0 x0.length c0 rfl x1 A1 x1.length c1 rfl (hm350.give [4, 5] [.sl (Kd.int .i64) A0 c0 x0, .sl (Kd.int .i64) A1 c1 x1] rfl rfl) r68 hr68) ?_)
                          rintro _ w353 a354 ⟨rfl, hk356⟩ hf355
                          have hm357 : Mem [] M w0 [.sl (Kd.int .i64) A331 c332 r64, .sl (Kd.int .i64) A321 c322 r63, .sl (Kd.int .i64) A292 c293 r57, .sl (Kd.int .i64) A282 c283 r56, .sl (Kd.int .i64) A0 c0 x0, .sl (Kd.int .i64) A1 c1 x1] w353 := hm350.still hk356.cum.none
                          rw [c265] at hf355
                          refine go 3 [] [6] [(6, .bool false)] [] hf355 (by kernel_rfl) trivial fun a358 hf359 => ?_
                          refine endL rfl ?_
                          have hm360 : Mem [] M w0 [] w353 := hm357.sel [] _ rfl (by kernel_rfl)
                          refine thenN ?_
                          refine wp_ret ?_
                          have hm361 : Mem [] M w0 [] w353 := hm360.sel [] _ rfl (by kernel_rfl)
                          obtain rfl := Option.some.inj H0
                          refine ret [] [.bool false] [] hf359 (by kernel_rfl) trivial ?_
                          exact ⟨_, rfl, rfl, hm361⟩
                        · refine inReg ?_
                          refine go 10 [.bool true, .bool true] [0, 1, 2, 39, 40] [(0, .slice A0 x0.length c0), (1, .slice A1 x1.length c1), (2, .int .i64 x2), (39, .bool true), (40, .slice A0 x0.length c0)] [.is (((r30.1 : Int) == r40.1) = true), .is (((r30.2 : Int) == r40.2) = true)] hf49 (by kernel_rfl) ⟨(eqT c50), (eqT c51), trivial⟩ fun a363 hf364 => ?_
                          refine listOf hf364 rfl (by kernel_rfl) (aCall (fid := 19) (args := [.slice A0 x0.length c0]) (d := 41) hf364 (by kernel_rfl) (by kernel_rfl) callable19 (shape_May.calls _ _ x0 A0 x0.length c0 rfl (hm47.give [0] [.sl (Kd.int .i64) A0 c0 x0] rfl rfl) r52 hr52) ?_)
                          rintro _ w365 a366 ⟨rfl, hk368⟩ hf367
                          have hm369 : Mem [] M w0 [.sl (Kd.int .i64) A0 c0 x0, .sl (Kd.int .i64) A1 c1 x1] w365 := hm47.still hk368.cum.none
                          rw [c54] at hf367
                          refine go 1 [] [0, 1, 2, 39, 41, 42] [(0, .slice A0 x0.length c0), (1, .slice A1 x1.length c1), (2, .int .i64 x2), (39, .bool true), (41, .bool true), (42, .slice A0 x0.length c0)] [] hf367 (by kernel_rfl) trivial fun a370 hf371 => ?_
                          refine listOf hf371 rfl (by kernel_rfl) (aCall (fid := 20) (args := [.slice A0 x0.length c0]) (d := 43) hf371 (by kernel_rfl) (by kernel_rfl) callable20 (ref1_May.calls _ _ x0 A0 x0.length c0 rfl (hm369.give [0] [.sl (Kd.int .i64) A0 c0 x0] rfl rfl) r53 hr53) ?_)
                          rintro _ w372 a373 ⟨rfl, hk375⟩ hf374
                          have hm376 : Mem [] M w0 [.sl (Kd.int .i64) A0 c0 x0, .sl (Kd.int .i64) A1 c1 x1] w372 := hm369.still hk375.cum.none
                          rw [c55] at hf374
                          refine go 4 [] [0, 1, 2, 46, 47] [(0, .slice A0 x0.length c0), (1, .slice A1 x1.length c1), (2, .int .i64 x2), (46, .bool true), (47, .slice A0 x0.length c0)] [] hf374 (by kernel_rfl) trivial fun a377 hf378 => ?_
                          refine listOf hf378 rfl (by kernel_rfl) (aCall (fid := 21) (args := [.slice A0 x0.length c0]) (d := 48) hf378 (by kernel_rfl) (by kernel_rfl) callable21 (shape_Strides.calls _ _ x0 A0 x0.length c0 rfl (hm376.give [0] [.sl (Kd.int .i64) A0 c0 x0] rfl rfl) r56 hr56) ?_)
                          rintro _ w381 a382 ⟨A379, c380, rfl, hk384⟩ hf383
                          have hm385 : Mem [] M w0 [.ow (Kd.int .i64) 3 A379 c380 r56, .sl (Kd.int .i64) A0 c0 x0, .sl (Kd.int .i64) A1 c1 x1] w381 := hm376.back hk384
                          have hm386 : Mem [] M w0 [.sl (Kd.int .i64) A379 c380 r56, .sl (Kd.int .i64) A0 c0 x0, .sl (Kd.int .i64) A1 c1 x1] w381 := hm385.seal 0 _ rfl rfl
                          refine go 1 [] [0, 1, 2, 46, 48, 49] [(0, .slice A0 x0.length c0), (1, .slice A1 x1.length c1), (2, .int .i64 x2), (46, .bool true), (48, .slice A379 r56.length c380), (49, .slice A0 x0.length c0)] [] hf383 (by kernel_rfl) trivial fun a387 hf388 => ?_
                          refine listOf hf388 rfl (by kernel_rfl) (aCall (fid := 22) (args := [.slice A0 x0.length c0]) (d := 50) hf388 (by kernel_rfl) (by kernel_rfl) callable22 (ref1_Strides.calls _ _ x0 A0 x0.length c0 rfl (hm386.give [1] [.sl (Kd.int .i64) A0 c0 x0] rfl rfl) r57 hr57) ?_)
                          rintro _ w391 a392 ⟨A389, c390, rfl, hk394⟩ hf393
                          have hm395 : Mem [] M w0 [.ow (Kd.int .i64) 3 A389 c390 r57, .sl (Kd.int .i64) A379 c380 r56, .sl (Kd.int .i64) A0 c0 x0, .sl (Kd.int .i64) A1 c1 x1] w391 := hm386.back hk394
                          have hm396 : Mem [] M w0 [.sl (Kd.int .i64) A389 c390 r57, .sl (Kd.int .i64) A379 c380 r56, .sl (Kd.int .i64) A0 c0 x0, .sl (Kd.int .i64) A1 c1 x1] w391 := hm395.seal 0 _ rfl rfl
                          refine listOf hf393 rfl (by kernel_rfl) (aCall (fid := 12) (args := [.slice A379 r56.length c380, .slice A389 r57.length c390]) (d := 51) hf393 (by kernel_rfl) (by kernel_rfl) callable12 (ref1_SameInts.calls _ _ r56 A379 r56.length c380 rfl r57 A389 r57.length c390 rfl (hm396.give [1, 0] [.sl (Kd.int .i64) A379 c380 r56, .sl (Kd.int .i64) A389 c390 r57] rfl rfl) r58 hr58) ?_)
                          rintro _ w397 a398 ⟨rfl, hk400⟩ hf399
                          have hm401 : Mem [] M w0 [.sl (Kd.int .i64) A389 c390 r57, .sl (Kd.int .i64) A379 c380 r56, .sl (Kd.int .i64) A0 c0 x0, .sl (Kd.int .i64) A1 c1 x1] w397 := hm396.still hk400.cum.none
                          rw [c59] at hf399
                          refine go 4 [] [0, 1, 2, 53, 54, 55] [(0, .slice A0 x0.length c0), (1, .slice A1 x1.length c1), (2, .int .i64 x2), (53, .bool true), (54, .slice A0 x0.length c0), (55, .slice A1 x1.length c1)] [] hf399 (by kernel_rfl) trivial fun a402 hf403 => ?_
                          refine listOf hf403 rfl (by kernel_rfl) (aCall (fid := 17) (args := [.slice A0 x0.length c0, .slice A1 x1.length c1]) (d := 56) hf403 (by kernel_rfl) (by kernel_rfl) callable17 (shape_Index.calls _ _ x0 A0 x0.length c0 rfl x1 A1 x1.length c1 rfl (hm401.give [2, 3] [.sl (Kd.int .i64) A0 c0 x0, .sl (Kd.int .i64) A1 c1 x1] rfl rfl) r60 hr60) ?_)
                          rintro _ w404 a405 ⟨rfl, hk407⟩ hf406
                          have hm408 : Mem [] M w0 [.sl (Kd.int .i64) A389 c390 r57, .sl (Kd.int .i64) A379 c380 r56, .sl (Kd.int .i64) A0 c0 x0, .sl (Kd.int .i64) A1 c1 x1] w404 := hm401.still hk407.cum.none
                          refine go 2 [] [0, 1, 2, 53, 56, 57, 58] [(0, .slice A0 x0.length c0), (1, .slice A1 x1.length c1), (2, .int .i64 x2), (53, .bool true), (56, .int .i64 r60), (57, .slice A0 x0.length c0), (58, .slice A1 x1.length c1)] [] hf406 (by kernel_rfl) trivial fun a409 hf410 => ?_
                          refine listOf hf410 rfl (by kernel_rfl) (aCall (fid := 23) (args := [.slice A0 x0.length c0, .slice A1 x1.length c1]) (d := 59) hf410 (by kernel_rfl) (by kernel_rfl) callable23 (ref1_Index.calls _ _ x0 A0 x0.length c0 rfl x1 A1 x1.length c1 rfl (hm408.give [2, 3] [.sl (Kd.int .i64) A0 c0 x0, .sl (Kd.int .i64) A1 c1 x1] rfl rfl) r61 hr61) ?_)
                          rintro _ w411 a412 ⟨rfl, hk414⟩ hf413
                          have hm415 : Mem [] M w0 [.sl (Kd.int .i64) A389 c390 r57, .sl (Kd.int .i64) A379 c380 r56, .sl (Kd.int .i64) A0 c0 x0, .sl (Kd.int .i64) A1 c1 x1] w411 := hm408.still hk414.cum.none
                          refine go 5 [.bool true] [0, 1, 2, 62, 63, 64] [(0, .slice A0 x0.length c0), (1, .slice A1 x1.length c1), (2, .int .i64 x2), (62, .bool true), (63, .slice A0 x0.length c0), (64, .int .i64 x2)] [.is (((r60 : Int) == r61) = true)] hf413 (by kernel_rfl) ⟨(eqT c62), trivial⟩ fun a416 hf417 => ?_
                          refine listOf hf417 rfl (by kernel_rfl) (aCall (fid := 24) (args := [.slice A0 x0.length c0, .int .i64 x2]) (d := 65) hf417 (by kernel_rfl) (by kernel_rfl) callable24 (shape_Place.calls _ _ x0 A0 x0.length c0 rfl x2 (hm415.give [2] [.sl (Kd.int .i64) A0 c0 x0] rfl rfl) r63 hr63) ?_)
                          rintro _ w420 a421 ⟨A418, c419, rfl, hk423⟩ hf422
                          have hm424 : Mem [] M w0 [.ow (Kd.int .i64) 3 A418 c419 r63, .sl (Kd.int .i64) A389 c390 r57, .sl (Kd.int .i64) A379 c380 r56, .sl (Kd.int .i64) A0 c0 x0, .sl (Kd.int .i64) A1 c1 x1] w420 := hm415.back hk423
                          have hm425 : Mem [] M w0 [.sl (Kd.int .i64) A418 c419 r63, .sl (Kd.int .i64) A389 c390 r57, .sl (Kd.int .i64) A379 c380 r56, .sl (Kd.int .i64) A0 c0 x0, .sl (Kd.int .i64) A1 c1 x1] w420 := hm424.seal 0 _ rfl rfl
                          refine go 2 [] [0, 1, 62, 65, 66, 67] [(0, .slice A0 x0.length c0), (1, .slice A1 x1.length c1), (62, .bool true), (65, .slice A418 r63.length c419), (66, .slice A0 x0.length c0), (67, .int .i64 x2)] [] hf422 (by kernel_rfl) trivial fun a426 hf427 => ?_
                          refine listOf hf427 rfl (by kernel_rfl) (aCall (fid := 25) (args := [.slice A0 x0.length c0, .int .i64 x2]) (d := 68) hf427 (by kernel_rfl) (by kernel_rfl) callable25 (ref1_Place.calls _ _ x0 A0 x0.length c0 rfl x2 (hm425.give [3] [.sl (Kd.int .i64) A0 c0 x0] rfl rfl) r64 hr64) ?_)
                          rintro _ w430 a431 ⟨A428, c429, rfl, hk433⟩ hf432
                          have hm434 : Mem [] M w0 [.ow (Kd.int .i64) 3 A428 c429 r64, .sl (Kd.int .i64) A418 c419 r63, .sl (Kd.int .i64) A389 c390 r57, .sl (Kd.int .i64) A379 c380 r56, .sl (Kd.int .i64) A0 c0 x0, .sl (Kd.int .i64) A1 c1 x1] w430 := hm425.back hk433
                          have hm435 : Mem [] M w0 [.sl (Kd.int .i64) A428 c429 r64, .sl (Kd.int .i64) A418 c419 r63, .sl (Kd.int .i64) A389 c390 r57, .sl (Kd.int .i64) A379 c380 r56, .sl (Kd.int .i64) A0 c0 x0, .sl (Kd.int .i64) A1 c1 x1] w430 := hm434.seal 0 _ rfl rfl
                          refine listOf hf432 rfl (by kernel_rfl) (aCall (fid := 12) (args := [.slice A418 r63.length c419, .slice A428 r64.length c429]) (d := 69) hf432 (by kernel_rfl) (by kernel_rfl) callable12 (ref1_SameInts.calls _ _ r63 A418 r63.length c419 rfl r64 A428 r64.length c429 rfl (hm435.give [1, 0] [.sl (Kd.int .i64) A418 c419 r63, .sl (Kd.int .i64) A428 c429 r64] rfl rfl) r65 hr65) ?_)
                          rintro _ w436 a437 ⟨rfl, hk439⟩ hf438
                          have hm440 : Mem [] M w0 [.sl (Kd.int .i64) A428 c429 r64, .sl (Kd.int .i64) A418 c419 r63, .sl (Kd.int .i64) A389 c390 r57, .sl (Kd.int .i64) A379 c380 r56, .sl (Kd.int .i64) A0 c0 x0, .sl (Kd.int .i64) A1 c1 x1] w436 := hm435.still hk439.cum.none
                          rw [c66] at hf438
                          refine go 4 [] [0, 1, 71, 72, 73] [(0, .slice A0 x0.length c0), (1, .slice A1 x1.length c1), (71, .bool true), (72, .slice A0 x0.length c0), (73, .slice A1 x1.length c1)] [] hf438 (by kernel_rfl) trivial fun a441 hf442 => ?_
                          refine listOf hf442 rfl (by kernel_rfl) (aCall (fid := 16) (args := [.slice A0 x0.length c0, .slice A1 x1.length c1]) (d := 74) hf442 (by kernel_rfl) (by kernel_rfl) callable16 (shape_Same.calls _ _ x0 A0 x0.length c0 rfl x1 A1 x1.length c1 rfl (hm440.give [4, 5] [.sl (Kd.int .i64) A0 c0 x0, .sl (Kd.int .i64) A1 c1 x1] rfl rfl) r67 hr67) ?_)
                          rintro _ w443 a444 ⟨rfl, hk446⟩ hf445
                          have hm447 : Mem [] M w0 [.sl (Kd.int .i64) A428 c429 r64, .sl (Kd.int .i64) A418 c419 r63, .sl (Kd.int .i64) A389 c390 r57, .sl (Kd.int .i64) A379 c380 r56, .sl (Kd.int .i64) A0 c0 x0, .sl (Kd.int .i64) A1 c1 x1] w443 := hm440.still hk446.cum.none
                          rw [c69] at hf445
                          refine go 2 [] [71, 74, 75, 76] [(71, .bool true), (74, .bool false), (75, .slice A0 x0.length c0), (76, .slice A1 x1.length c1)] [] hf445 (by kernel_rfl) trivial fun a448 hf449 => ?_
                          refine listOf hf449 rfl (by kernel_rfl) (aCall (fid := 12) (args := [.slice A0 x0.length c0, .slice A1 x1.length c1]) (d := 77) hf449 (by kernel_rfl) (by kernel_rfl) callable12 (ref1_SameInts.calls _ _ x0 A0 x0.length c0 rfl x1 A1 x1.length c1 rfl (hm447.give [4, 5] [.sl (Kd.int .i64) A0 c0 x0, .sl (Kd.int .i64) A1 c1 x1] rfl rfl) r68 hr68) ?_)
                          rintro _ w450 a451 ⟨rfl, hk453⟩ hf452
                          have hm454 : Mem [] M w0 [.sl (Kd.int .i64) A428 c429 r64, .sl (Kd.int .i64) A418 c419 r63, .sl (Kd.int .i64) A389 c390 r57, .sl (Kd.int .i64) A379 c380 r56, .sl (Kd.int .i64) A0 c0 x0, .sl (Kd.int .i64) A1 c1 x1] w450 := hm447.still hk453.cum.none
                          rw [c265] at hf452
                          refine go 3 [] [6] [(6, .bool true)] [] hf452 (by kernel_rfl) trivial fun a455 hf456 => ?_
                          refine endL rfl ?_
                          have hm457 : Mem [] M w0 [] w450 := hm454.sel [] _ rfl (by kernel_rfl)
                          refine thenN ?_
                          refine wp_ret ?_
                          have hm458 : Mem [] M w0 [] w450 := hm457.sel [] _ rfl (by kernel_rfl)
                          obtain rfl := Option.some.inj H0
                          refine ret [] [.bool true] [] hf456 (by kernel_rfl) trivial ?_
                          exact ⟨_, rfl, rfl, hm458⟩
                    · refine inReg ?_
                      refine go 10 [.bool true, .bool true] [0, 1, 2, 39, 40] [(0, .slice A0 x0.length c0), (1, .slice A1 x1.length c1), (2, .int .i64 x2), (39, .bool true), (40, .slice A0 x0.length c0)] [.is (((r30.1 : Int) == r40.1) = true), .is (((r30.2 : Int) == r40.2) = true)] hf49 (by kernel_rfl) ⟨(eqT c50), (eqT c51), trivial⟩ fun a460 hf461 => ?_
                      refine listOf hf461 rfl (by kernel_rfl) (aCall (fid := 19) (args := [.slice A0 x0.length c0]) (d := 41) hf461 (by kernel_rfl) (by kernel_rfl) callable19 (shape_May.calls _ _ x0 A0 x0.length c0 rfl (hm47.give [0] [.sl (Kd.int .i64) A0 c0 x0] rfl rfl) r52 hr52) ?_)
                      rintro _ w462 a463 ⟨rfl, hk465⟩ hf464
                      have hm466 : Mem [] M w0 [.sl (Kd.int .i64) A0 c0 x0, .sl (Kd.int .i64) A1 c1 x1] w462 := hm47.still hk465.cum.none
                      rw [c54] at hf464
                      refine go 1 [] [0, 1, 2, 39, 41, 42] [(0, .slice A0 x0.length c0), (1, .slice A1 x1.length c1), (2, .int .i64 x2), (39, .bool true), (41, .bool true), (42, .slice A0 x0.length c0)] [] hf464 (by kernel_rfl) trivial fun a467 hf468 => ?_
                      refine listOf hf468 rfl (by kernel_rfl) (aCall (fid := 20) (args := [.slice A0 x0.length c0]) (d := 43) hf468 (by kernel_rfl) (by kernel_rfl) callable20 (ref1_May.calls _ _ x0 A0 x0.length c0 rfl (hm466.give [0] [.sl (Kd.int .i64) A0 c0 x0] rfl rfl) r53 hr53) ?_)
                      rintro _ w469 a470 ⟨rfl, hk472⟩ hf471
                      have hm473 : Mem [] M w0 [.sl (Kd.int .i64) A0 c0 x0, .sl (Kd.int .i64) A1 c1 x1] w469 := hm466.still hk472.cum.none
                      rw [c55] at hf471
                      refine go 4 [] [0, 1, 2, 46, 47] [(0, .slice A0 x0.length c0), (1, .slice A1 x1.length c1), (2, .int .i64 x2), (46, .bool true), (47, .slice A0 x0.length c0)] [] hf471 (by kernel_rfl) trivial fun a474 hf475 => ?_
                      refine listOf hf475 rfl (by kernel_rfl) (aCall (fid := 21) (args := [.slice A0 x0.length c0]) (d := 48) hf475 (by kernel_rfl) (by kernel_rfl) callable21 (shape_Strides.calls _ _ x0 A0 x0.length c0 rfl (hm473.give [0] [.sl (Kd.int .i64) A0 c0 x0] rfl rfl) r56 hr56) ?_)
                      rintro _ w478 a479 ⟨A476, c477, rfl, hk481⟩ hf480
                      have hm482 : Mem [] M w0 [.ow (Kd.int .i64) 3 A476 c477 r56, .sl (Kd.int .i64) A0 c0 x0, .sl (Kd.int .i64) A1 c1 x1] w478 := hm473.back hk481
                      have hm483 : Mem [] M w0 [.sl (Kd.int .i64) A476 c477 r56, .sl (Kd.int .i64) A0 c0 x0, .sl (Kd.int .i64) A1 c1 x1] w478 := hm482.seal 0 _ rfl rfl
                      refine go 1 [] [0, 1, 2, 46, 48, 49] [(0, .slice A0 x0.length c0), (1, .slice A1 x1.length c1), (2, .int .i64 x2), (46, .bool true), (48, .slice A476 r56.length c477), (49, .slice A0 x0.length c0)] [] hf480 (by kernel_rfl) trivial fun a484 hf485 => ?_
                      refine listOf hf485 rfl (by kernel_rfl) (aCall (fid := 22) (args := [.slice A0 x0.length c0]) (d := 50) hf485 (by kernel_rfl) (by kernel_rfl) callable22 (ref1_Strides.calls _ _ x0 A0 x0.length c0 rfl (hm483.give [1] [.sl (Kd.int .i64) A0 c0 x0] rfl rfl) r57 hr57) ?_)
                      rintro _ w488 a489 ⟨A486, c487, rfl, hk491⟩ hf490
                      have hm492 : Mem [] M w0 [.ow (Kd.int .i64) 3 A486 c487 r57, .sl (Kd.int .i64) A476 c477 r56, .sl (Kd.int .i64) A0 c0 x0, .sl (Kd.int .i64) A1 c1 x1] w488 := hm483.back hk491
                      have hm493 : Mem [] M w0 [.sl (Kd.int .i64) A486 c487 r57, .sl (Kd.int .i64) A476 c477 r56, .sl (Kd.int .i64) A0 c0 x0, .sl (Kd.int .i64) A1 c1 x1] w488 := hm492.seal 0 _ rfl rfl
                      refine listOf hf490 rfl (by kernel_rfl) (aCall (fid := 12) (args := [.slice A476 r56.length c477, .slice A486 r57.length c487]) (d := 51) hf490 (by kernel_rfl) (by kernel_rfl) callable12 (ref1_SameInts.calls _ _ r56 A476 r56.length c477 rfl r57 A486 r57.length c487 rfl (hm493.give [1, 0] [.sl (Kd.int .i64) A476 c477 r56, .sl (Kd.int .i64) A486 c487 r57] rfl rfl) r58 hr58) ?_)
                      rintro _ w494 a495 ⟨rfl, hk497⟩ hf496
                      have hm498 : Mem [] M w0 [.sl (Kd.int .i64) A486 c487 r57, .sl (Kd.int .i64) A476 c477 r56, .sl (Kd.int .i64) A0 c0 x0, .sl (Kd.int .i64) A1 c1 x1] w494 := hm493.still hk497.cum.none
                      rw [c59] at hf496
                      refine go 4 [] [0, 1, 2, 53, 54, 55] [(0, .slice A0 x0.length c0), (1, .slice A1 x1.length c1), (2, .int .i64 x2), (53, .bool true), (54, .slice A0 x0.length c0), (55, .slice A1 x1.length c1)] [] hf496 (by kernel_rfl) trivial fun a499 hf500 => ?_
                      refine listOf hf500 rfl (by kernel_rfl) (aCall (fid := 17) (args := [.slice A0 x0.length c0, .slice A1 x1.length c1]) (d := 56) hf500 (by kernel_rfl) (by kernel_rfl) callable17 (shape_Index.calls _ _ x0 A0 x0.length c0 rfl x1 A1 x1.length c1 rfl (hm498.give [2, 3] [.sl (Kd.int .i64) A0 c0 x0, .sl (Kd.int .i64) A1 c1 x1] rfl rfl) r60 hr60) ?_)
                      rintro _ w501 a502 ⟨rfl, hk504⟩ hf503
                      have hm505 : Mem [] M w0 [.sl (Kd.int .i64) A486 c487 r57, .sl (Kd.int .i64) A476 c477 r56, .sl (Kd.int .i64) A0 c0 x0, .sl (Kd.int .i64) A1 c1 x1] w501 := hm498.still hk504.cum.none
                      refine go 2 [] [0, 1, 2, 53, 56, 57, 58] [(0, .slice A0 x0.length c0), (1, .slice A1 x1.length c1), (2, .int .i64 x2), (53, .bool true), (56, .int .i64 r60), (57, .slice A0 x0.length c0), (58, .slice A1 x1.length c1)] [] hf503 (by kernel_rfl) trivial fun a506 hf507 => ?_
                      refine listOf hf507 rfl (by kernel_rfl) (aCall (fid := 23) (args := [.slice A0 x0.length c0, .slice A1 x1.length c1]) (d := 59) hf507 (by kernel_rfl) (by kernel_rfl) callable23 (ref1_Index.calls _ _ x0 A0 x0.length c0 rfl x1 A1 x1.length c1 rfl (hm505.give [2, 3] [.sl (Kd.int .i64) A0 c0 x0, .sl (Kd.int .i64) A1 c1 x1] rfl rfl) r61 hr61) ?_)
                      rintro _ w508 a509 ⟨rfl, hk511⟩ hf510
                      have hm512 : Mem [] M w0 [.sl (Kd.int .i64) A486 c487 r57, .sl (Kd.int .i64) A476 c477 r56, .sl (Kd.int .i64) A0 c0 x0, .sl (Kd.int .i64) A1 c1 x1] w508 := hm505.still hk511.cum.none
                      refine go 5 [.bool true] [0, 1, 2, 62, 63, 64] [(0, .slice A0 x0.length c0), (1, .slice A1 x1.length c1), (2, .int .i64 x2), (62, .bool true), (63, .slice A0 x0.length c0), (64, .int .i64 x2)] [.is (((r60 : Int) == r61) = true)] hf510 (by kernel_rfl) ⟨(eqT c62), trivial⟩ fun a513 hf514 => ?_
                      refine listOf hf514 rfl (by kernel_rfl) (aCall (fid := 24) (args := [.slice A0 x0.length c0, .int .i64 x2]) (d := 65) hf514 (by kernel_rfl) (by kernel_rfl) callable24 (shape_Place.calls _ _ x0 A0 x0.length c0 rfl x2 (hm512.give [2] [.sl (Kd.int .i64) A0 c0 x0] rfl rfl) r63 hr63) ?_)
                      rintro _ w517 a518 ⟨A515, c516, rfl, hk520⟩ hf519
                      have hm521 : Mem [] M w0 [.ow (Kd.int .i64) 3 A515 c516 r63, .sl (Kd.int .i64) A486 c487 r57, .sl (Kd.int .i64) A476 c477 r56, .sl (Kd.int .i64) A0 c0 x0, .sl (Kd.int .i64) A1 c1 x1] w517 := hm512.back hk520
                      have hm522 : Mem [] M w0 [.sl (Kd.int .i64) A515 c516 r63, .sl (Kd.int .i64) A486 c487 r57, .sl (Kd.int .i64) A476 c477 r56, .sl (Kd.int .i64) A0 c0 x0, .sl (Kd.int .i64) A1 c1 x1] w517 := hm521.seal 0 _ rfl rfl
                      refine go 2 [] [0, 1, 62, 65, 66, 67] [(0, .slice A0 x0.length c0), (1, .slice A1 x1.length c1), (62, .bool true), (65, .slice A515 r63.length c516), (66, .slice A0 x0.length c0), (67, .int .i64 x2)] [] hf519 (by kernel_rfl) trivial fun a523 hf524 => ?_
                      refine listOf hf524 rfl (by kernel_rfl) (aCall (fid := 25) (args := [.slice A0 x0.length c0, .int .i64 x2]) (d := 68) hf524 (by kernel_rfl) (by kernel_rfl) callable25 (ref1_Place.calls _ _ x0 A0 x0.length c0 rfl x2 (hm522.give [3] [.sl (Kd.int .i64) A0 c0 x0] rfl rfl) r64 hr64) ?_)
                      rintro _ w527 a528 ⟨A525, c526, rfl, hk530⟩ hf529
                      have hm531 : Mem [] M w0 [.ow (Kd.int .i64) 3 A525 c526 r64, .sl (Kd.int .i64) A515 c516 r63, .sl (Kd.int .i64) A486 c487 r57, .sl (Kd.int .i64) A476 c477 r56, .sl (Kd.int .i64) A0 c0 x0, .sl (Kd.int .i64) A1 c1 x1] w527 := hm522.back hk530
                      have hm532 : Mem [] M w0 [.sl (Kd.int .i64) A525 c526 r64, .sl (Kd.int .i64) A515 c516 r63, .sl (Kd.int .i64) A486 c487 r57, .sl (Kd.int .i64) A476 c477 r56, .sl (Kd.int .i64) A0 c0 x0, .sl (Kd.int .i64) A1 c1 x1] w527 := hm531.seal 0 _ rfl rfl
                      refine listOf hf529 rfl (by kernel_rfl) (aCall (fid := 12) (args := [.slice A515 r63.length c516, .slice A525 r64.length c526]) (d := 69) hf529 (by kernel_rfl) (by kernel_rfl) callable12 (ref1_SameInts.calls _ _ r63 A515 r63.length c516 rfl r64 A525 r64.length c526 rfl (hm532.give [1, 0] [.sl (Kd.int .i64) A515 c516 r63, .sl (Kd.int .i64) A525 c526 r64] rfl rfl) r65 hr65) ?_)
                      rintro _ w533 a534 ⟨rfl, hk536⟩ hf535
                      have hm537 : Mem [] M w0 [.sl (Kd.int .i64) A525 c526 r64, .sl (Kd.int .i64) A515 c516 r63, .sl (Kd.int .i64) A486 c487 r57, .sl (Kd.int .i64) A476 c477 r56, .sl (Kd.int .i64) A0 c0 x0, .sl (Kd.int .i64) A1 c1 x1] w533 := hm532.still hk536.cum.none
                      rw [c66] at hf535
                      refine go 11 [] [6] [(6, .bool false)] [] hf535 (by kernel_rfl) trivial fun a538 hf539 => ?_
                      refine endL rfl ?_
                      have hm540 : Mem [] M w0 [] w533 := hm537.sel [] _ rfl (by kernel_rfl)
                      refine thenN ?_
                      refine wp_ret ?_
                      have hm541 : Mem [] M w0 [] w533 := hm540.sel [] _ rfl (by kernel_rfl)
                      obtain rfl := Option.some.inj H0
                      refine ret [] [.bool false] [] hf539 (by kernel_rfl) trivial ?_
                      exact ⟨_, rfl, rfl, hm541⟩
                  · refine inReg ?_
                    refine go 10 [.bool true, .bool true] [0, 1, 2, 39, 40] [(0, .slice A0 x0.length c0), (1, .slice A1 x1.length c1), (2, .int .i64 x2), (39, .bool true), (40, .slice A0 x0.length c0)] [.is (((r30.1 : Int) == r40.1) = true), .is (((r30.2 : Int) == r40.2) = true)] hf49 (by kernel_rfl) ⟨(eqT c50), (eqT c51), trivial⟩ fun a543 hf544 => ?_
                    refine listOf hf544 rfl (by kernel_rfl) (aCall (fid := 19) (args := [.slice A0 x0.length c0]) (d := 41) hf544 (by kernel_rfl) (by kernel_rfl) callable19 (shape_May.calls _ _ x0 A0 x0.length c0 rfl (hm47.give [0] [.sl (Kd.int .i64) A0 c0 x0] rfl rfl) r52 hr52) ?_)
                    rintro _ w545 a546 ⟨rfl, hk548⟩ hf547
                    have hm549 : Mem [] M w0 [.sl (Kd.int .i64) A0 c0 x0, .sl (Kd.int .i64) A1 c1 x1] w545 := hm47.still hk548.cum.none
                    rw [c54] at hf547
                    refine go 1 [] [0, 1, 2, 39, 41, 42] [(0, .slice A0 x0.length c0), (1, .slice A1 x1.length c1), (2, .int .i64 x2), (39, .bool true), (41, .bool true), (42, .slice A0 x0.length c0)] [] hf547 (by kernel_rfl) trivial fun a550 hf551 => ?_
                    refine listOf hf551 rfl (by kernel_rfl) (aCall (fid := 20) (args := [.slice A0 x0.length c0]) (d := 43) hf551 (by kernel_rfl) (by kernel_rfl) callable20 (ref1_May.calls _ _ x0 A0 x0.length c0 rfl (hm549.give [0] [.sl (Kd.int .i64) A0 c0 x0] rfl rfl) r53 hr53) ?_)
                    rintro _ w552 a553 ⟨rfl, hk555⟩ hf554
                    have hm556 : Mem [] M w0 [.sl (Kd.int .i64) A0 c0 x0, .sl (Kd.int .i64) A1 c1 x1] w552 := hm549.still hk555.cum.none
                    rw [c55] at hf554
                    refine go 4 [] [0, 1, 2, 46, 47] [(0, .slice A0 x0.length c0), (1, .slice A1 x1.length c1), (2, .int .i64 x2), (46, .bool true), (47, .slice A0 x0.length c0)] [] hf554 (by kernel_rfl) trivial fun a557 hf558 => ?_
                    refine listOf hf558 rfl (by kernel_rfl) (aCall (fid := 21) (args := [.slice A0 x0.length c0]) (d := 48) hf558 (by kernel_rfl) (by kernel_rfl) callable21 (shape_Strides.calls _ _ x0 A0 x0.length c0 rfl (hm556.give [0] [.sl (Kd.int .i64) A0 c0 x0] rfl rfl) r56 hr56) ?_)
                    rintro _ w561 a562 ⟨A559, c560, rfl, hk564⟩ hf563
                    have hm565 : Mem [] M w0 [.ow (Kd.int .i64) 3 A559 c560 r56, .sl (Kd.int .i64) A0 c0 x0, .sl (Kd.int .i64) A1 c1 x1] w561 := hm556.back hk564
                    have hm566 : Mem [] M w0 [.sl (Kd.int .i64) A559 c560 r56, .sl (Kd.int .i64) A0 c0 x0, .sl (Kd.int .i64) A1 c1 x1] w561 := hm565.seal 0 _ rfl rfl
                    refine go 1 [] [0, 1, 2, 46, 48, 49] [(0, .slice A0 x0.length c0), (1, .slice A1 x1.length c1), (2, .int .i64 x2), (46, .bool true), (48, .slice A559 r56.length c560), (49, .slice A0 x0.length c0)] [] hf563 (by kernel_rfl) trivial fun a567 hf568 => ?_
                    refine listOf hf568 rfl (by kernel_rfl) (aCall (fid := 22) (args := [.slice A0 x0.length c0]) (d := 50) hf568 (by kernel_rfl) (by kernel_rfl) callable22 (ref1_Strides.calls _ _ x0 A0 x0.length c0 rfl (hm566.give [1] [.sl (Kd.int .i64) A0 c0 x0] rfl rfl) r57 hr57) ?_)
                    rintro _ w571 a572 ⟨A569, c570, rfl, hk574⟩ hf573
                    have hm575 : Mem [] M w0 [.ow (Kd.int .i64) 3 A569 c570 r57, .sl (Kd.int .i64) A559 c560 r56, .sl (Kd.int .i64) A0 c0 x0, .sl (Kd.int .i64) A1 c1 x1] w571 := hm566.back hk574
                    have hm576 : Mem [] M w0 [.sl (Kd.int .i64) A569 c570 r57, .sl (Kd.int .i64) A559 c560 r56, .sl (Kd.int .i64) A0 c0 x0, .sl (Kd.int .i64) A1 c1 x1] w571 := hm575.seal 0 _ rfl rfl
                    refine listOf hf573 rfl (by kernel_rfl) (aCall (fid := 12) (args := [.slice A559 r56.length c560, .slice A569 r57.length c570]) (d := 51) hf573 (by kernel_rfl) (by kernel_rfl) callable12 (ref1_SameInts.calls _ _ r56 A559 r56.length c560 rfl r57 A569 r57.length c570 rfl (hm576.give [1, 0] [.sl (Kd.int .i64) A559 c560 r56, .sl (Kd.int .i64) A569 c570 r57] rfl rfl) r58 hr58) ?_)
                    rintro _ w577 a578 ⟨rfl, hk580⟩ hf579
                    have hm581 : Mem [] M w0 [.sl (Kd.int .i64) A569 c570 r57, .sl (Kd.int .i64) A559 c560 r56, .sl (Kd.int .i64) A0 c0 x0, .sl (Kd.int .i64) A1 c1 x1] w577 := hm576.still hk580.cum.none
                    rw [c59] at hf579
                    refine go 4 [] [0, 1, 2, 53, 54, 55] [(0, .slice A0 x0.length c0), (1, .slice A1 x1.length c1), (2, .int .i64 x2), (53, .bool true), (54, .slice A0 x0.length c0), (55, .slice A1 x1.length c1)] [] hf579 (by kernel_rfl) trivial fun a582 hf583 => ?_
                    refine listOf hf583 rfl (by kernel_rfl) (aCall (fid := 17) (args := [.slice A0 x0.length c0, .slice A1 x1.length c1]) (d := 56) hf583 (by kernel_rfl) (by kernel_rfl) callable17 (shape_Index.calls _ _ x0 A0 x0.length c0 rfl x1 A1 x1.length c1 rfl (hm581.give [2, 3] [.sl (Kd.int .i64) A0 c0 x0, .sl (Kd.int .i64) A1 c1 x1] rfl rfl) r60 hr60) ?_)
                    rintro _ w584 a585 ⟨rfl, hk587⟩ hf586
                    have hm588 : Mem [] M w0 [.sl (Kd.int .i64) A569 c570 r57, .sl (Kd.int .i64) A559 c560 r56, .sl (Kd.int .i64) A0 c0 x0, .sl (Kd.int .i64) A1 c1 x1] w584 := hm581.still hk587.cum.none
                    refine go 2 [] [0, 1, 2, 53, 56, 57, 58] [(0, .slice A0 x0.length c0), (1, .slice A1 x1.length c1), (2, .int .i64 x2), (53, .bool true), (56, .int .i64 r60), (57, .slice A0 x0.length c0), (58, .slice A1 x1.length c1)] [] hf586 (by kernel_rfl) trivial fun a589 hf590 => ?_
                    refine listOf hf590 rfl (by kernel_rfl) (aCall (fid := 23) (args := [.slice A0 x0.length c0, .slice A1 x1.length c1]) (d := 59) hf590 (by kernel_rfl) (by kernel_rfl) callable23 (ref1_Index.calls _ _ x0 A0 x0.length c0 rfl x1 A1 x1.length c1 rfl (hm588.give [2, 3] [.sl (Kd.int .i64) A0 c0 x0, .sl (Kd.int .i64) A1 c1 x1] rfl rfl) r61 hr61) ?_)
                    rintro _ w591 a592 ⟨rfl, hk594⟩ hf593
                    have hm595 : Mem [] M w0 [.sl (Kd.int .i64) A569 c570 r57, .sl (Kd.int .i64) A559 c560 r56, .sl (Kd.int .i64) A0 c0 x0, .sl (Kd.int .i64) A1 c1 x1] w591 := hm588.still hk594.cum.none
                    refine go 21 [.bool false] [6] [(6, .bool false)] [.is (((r60 : Int) == r61) = false)] hf593 (by kernel_rfl) ⟨(eqF c62), trivial⟩ fun a596 hf597 => ?_
                    refine endL rfl ?_
                    have hm598 : Mem [] M w0 [] w591 := hm595.sel [] _ rfl (by kernel_rfl)
                    refine thenN ?_
                    refine wp_ret ?_
                    have hm599 : Mem [] M w0 [] w591 := hm598.sel [] _ rfl (by kernel_rfl)
                    obtain rfl := Option.some.inj H0
                    refine ret [] [.bool false] [] hf597 (by kernel_rfl) trivial ?_
                    exact ⟨_, rfl, rfl, hm599⟩
                · refine inReg ?_
                  refine go 10 [.bool true, .bool true] [0, 1, 2, 39, 40] [(0, .slice A0 x0.length c0), (1, .slice A1 x1.length c1), (2, .int .i64 x2), (39, .bool true), (40, .slice A0 x0.length c0)] [.is (((r30.1 : Int) == r40.1) = true), .is (((r30.2 : Int) == r40.2) = true)] hf49 (by kernel_rfl) ⟨(eqT c50), (eqT c51), trivial⟩ fun a601 hf602 => ?_
                  refine listOf hf602 rfl (by kernel_rfl) (aCall (fid := 19) (args := [.slice A0 x0.length c0]) (d := 41) hf602 (by kernel_rfl) (by kernel_rfl) callable19 (shape_May.calls _ _ x0 A0 x0.length c0 rfl (hm47.give [0] [.sl (Kd.int .i64) A0 c0 x0] rfl rfl) r52 hr52) ?_)
                  rintro _ w603 a604 ⟨rfl, hk606⟩ hf605
                  have hm607 : Mem [] M w0 [.sl (Kd.int .i64) A0 c0 x0, .sl (Kd.int .i64) A1 c1 x1] w603 := hm47.still hk606.cum.none
                  rw [c54] at hf605
                  refine go 1 [] [0, 1, 2, 39, 41, 42] [(0, .slice A0 x0.length c0), (1, .slice A1 x1.length c1), (2, .int .i64 x2), (39, .bool true), (41, .bool true), (42, .slice A0 x0.length c0)] [] hf605 (by kernel_rfl) trivial fun a608 hf609 => ?_
                  refine listOf hf609 rfl (by kernel_rfl) (aCall (fid := 20) (args := [.slice A0 x0.length c0]) (d := 43) hf609 (by kernel_rfl) (by kernel_rfl) callable20 (ref1_May.calls _ _ x0 A0 x0.length c0 rfl (hm607.give [0] [.sl (Kd.int .i64) A0 c0 x0] rfl rfl) r53 hr53) ?_)
                  rintro _ w610 a611 ⟨rfl, hk613⟩ hf612
                  have hm614 : Mem [] M w0 [.sl (Kd.int .i64) A0 c0 x0, .sl (Kd.int .i64) A1 c1 x1] w610 := hm607.still hk613.cum.none
                  rw [c55] at hf612
                  refine go 4 [] [0, 1, 2, 46, 47] [(0, .slice A0 x0.length c0), (1, .slice A1 x1.length c1), (2, .int .i64 x2), (46, .bool true), (47, .slice A0 x0.length c0)] [] hf612 (by kernel_rfl) trivial fun a615 hf616 => ?_
                  refine listOf hf616 rfl (by kernel_rfl) (aCall (fid := 21) (args := [.slice A0 x0.length c0]) (d := 48) hf616 (by kernel_rfl) (by kernel_rfl) callable21 (shape_Strides.calls _ _ x0 A0 x0.length c0 rfl (hm614.give [0] [.sl (Kd.int .i64) A0 c0 x0] rfl rfl) r56 hr56) ?_)
                  rintro _ w619 a620 ⟨A617, c618, rfl, hk622⟩ hf621
                  have hm623 : Mem [] M w0 [.ow (Kd.int .i64) 3 A617 c618 r56, .sl (Kd.int .i64) A0 c0 x0, .sl (Kd.int .i64) A1 c1 x1] w619 := hm614.back hk622
                  have hm624 : Mem [] M w0 [.sl (Kd.int .i64) A617 c618 r56, .sl (Kd.int .i64) A0 c0 x0, .sl (Kd.int .i64) A1 c1 x1] w619 := hm623.seal 0 _ rfl rfl
                  refine go 1 [] [0, 1, 2, 46, 48, 49] [(0, .slice A0 x0.length c0), (1, .slice A1 x1.length c1), (2, .int .i64 x2), (46, .bool true), (48, .slice A617 r56.length c618), (49, .slice A0 x0.length c0)] [] hf621 (by kernel_rfl) trivial fun a625 hf626 => ?_
                  refine listOf hf626 rfl (by kernel_rfl) (aCall (fid := 22) (args := [.slice A0 x0.length c0]) (d := 50) hf626 (by kernel_rfl) (by kernel_rfl) callable22 (ref1_Strides.calls _ _ x0 A0 x0.length c0 rfl (hm624.give [1] [.sl (Kd.int .i64) A0 c0 x0] rfl rfl) r57 hr57) ?_)
                  rintro _ w629 a630 ⟨A627, c628, rfl, hk632⟩ hf631
                  have hm633 : Mem [] M w0 [.ow (Kd.int .i64) 3 A627 c628 r57, .sl (Kd.int .i64) A617 c618 r56, .sl (Kd.int .i64) A0 c0 x0, .sl (Kd.int .i64) A1 c1 x1] w629 := hm624.back hk632
                  have hm634 : Mem [] M w0 [.sl (Kd.int .i64) A627 c628 r57, .sl (Kd.int .i64) A617 c618 r56, .sl (Kd.int .i64) A0 c0 x0, .sl (Kd.int .i64) A1 c1 x1] w629 := hm633.seal 0 _ rfl rfl
                  refine listOf hf631 rfl (by kernel_rfl) (aCall (fid := 12) (args := [.slice A617 r56.length c618, .slice A627 r57.length c628]) (d := 51) hf631 (by kernel_rfl) (by kernel_rfl) callable12 (ref1_SameInts.calls _ _ r56 A617 r56.length c618 rfl r57 A627 r57.length c628 rfl (hm634.give [1, 0] [.sl (Kd.int .i64) A617 c618 r56, .sl (Kd.int .i64) A627 c628 r57] rfl rfl) r58 hr58) ?_)
                  rintro _ w635 a636 ⟨rfl, hk638⟩ hf637
                  have hm639 : Mem [] M w0 [.sl (Kd.int .i64) A627 c628 r57, .sl (Kd.int .i64) A617 c618 r56, .sl (Kd.int .i64) A0 c0 x0, .sl (Kd.int .i64) A1 c1 x1] w635 := hm634.still hk638.cum.none
                  rw [c59] at hf637
                  refine go 29 [] [6] [(6, .bool false)] [] hf637 (by kernel_rfl) trivial fun a640 hf641 => ?_
                  refine endL rfl ?_
                  have hm642 : Mem [] M w0 [] w635 := hm639.sel [] _ rfl (by kernel_rfl)
                  refine thenN ?_
                  refine wp_ret ?_
                  have hm643 : Mem [] M w0 [] w635 := hm642.sel [] _ rfl (by kernel_rfl)
                  obtain rfl := Option.some.inj H0
                  refine ret [] [.bool false] [] hf641 (by kernel_rfl) trivial ?_
                  exact ⟨_, rfl, rfl, hm643⟩
              · refine inReg ?_
                refine go 10 [.bool true, .bool true] [0, 1, 2, 39, 40] [(0, .slice A0 x0.length c0), (1, .slice A1 x1.length c1), (2, .int .i64 x2), (39, .bool true), (40, .slice A0 x0.length c0)] [.is (((r30.1 : Int) == r40.1) = true), .is (((r30.2 : Int) == r40.2) = true)] hf49 (by kernel_rfl) ⟨(eqT c50), (eqT c51), trivial⟩ fun a645 hf646 => ?_
                refine listOf hf646 rfl (by kernel_rfl) (aCall (fid := 19) (args := [.slice A0 x0.length c0]) (d := 41) hf646 (by kernel_rfl) (by kernel_rfl) callable19 (shape_May.calls _ _ x0 A0 x0.length c0 rfl (hm47.give [0] [.sl (Kd.int .i64) A0 c0 x0] rfl rfl) r52 hr52) ?_)
                rintro _ w647 a648 ⟨rfl, hk650⟩ hf649
                have hm651 : Mem [] M w0 [.sl (Kd.int .i64) A0 c0 x0, .sl (Kd.int .i64) A1 c1 x1] w647 := hm47.still hk650.cum.none
                rw [c54] at hf649
                refine go 1 [] [0, 1, 2, 39, 41, 42] [(0, .slice A0 x0.length c0), (1, .slice A1 x1.length c1), (2, .int .i64 x2), (39, .bool true), (41, .bool true), (42, .slice A0 x0.length c0)] [] hf649 (by kernel_rfl) trivial fun a652 hf653 => ?_
                refine listOf hf653 rfl (by kernel_rfl) (aCall (fid := 20) (args := [.slice A0 x0.length c0]) (d := 43) hf653 (by kernel_rfl) (by kernel_rfl) callable20 (ref1_May.calls _ _ x0 A0 x0.length c0 rfl (hm651.give [0] [.sl (Kd.int .i64) A0 c0 x0] rfl rfl) r53 hr53) ?_)
                rintro _ w654 a655 ⟨rfl, hk657⟩ hf656
                have hm658 : Mem [] M w0 [.sl (Kd.int .i64) A0 c0 x0, .sl (Kd.int .i64) A1 c1 x1] w654 := hm651.still hk657.cum.none
                rw [c55] at hf656
                refine go 37 [] [6] [(6, .bool false)] [] hf656 (by kernel_rfl) trivial fun a659 hf660 => ?_
                refine endL rfl ?_
                have hm661 : Mem [] M w0 [] w654 := hm658.sel [] _ rfl (by kernel_rfl)
                refine thenN ?_
                refine wp_ret ?_
                have hm662 : Mem [] M w0 [] w654 := hm661.sel [] _ rfl (by kernel_rfl)
                obtain rfl := Option.some.inj H0
                refine ret [] [.bool false] [] hf660 (by kernel_rfl) trivial ?_
                exact ⟨_, rfl, rfl, hm662⟩
            · rcases ifb_split H0 with ⟨c664, H0⟩ | ⟨c664, H0⟩
              · refine inReg ?_
                refine go 10 [.bool true, .bool true] [0, 1, 2, 39, 40] [(0, .slice A0 x0.length c0), (1, .slice A1 x1.length c1), (2, .int .i64 x2), (39, .bool true), (40, .slice A0 x0.length c0)] [.is (((r30.1 : Int) == r40.1) = true), .is (((r30.2 : Int) == r40.2) = true)] hf49 (by kernel_rfl) ⟨(eqT c50), (eqT c51), trivial⟩ fun a665 hf666 => ?_
                refine listOf hf666 rfl (by kernel_rfl) (aCall (fid := 19) (args := [.slice A0 x0.length c0]) (d := 41) hf666 (by kernel_rfl) (by kernel_rfl) callable19 (shape_May.calls _ _ x0 A0 x0.length c0 rfl (hm47.give [0] [.sl (Kd.int .i64) A0 c0 x0] rfl rfl) r52 hr52) ?_)
                rintro _ w667 a668 ⟨rfl, hk670⟩ hf669
                have hm671 : Mem [] M w0 [.sl (Kd.int .i64) A0 c0 x0, .sl (Kd.int .i64) A1 c1 x1] w667 := hm47.still hk670.cum.none
                rw [c54] at hf669
                refine go 1 [] [0, 1, 2, 39, 41, 42] [(0, .slice A0 x0.length c0), (1, .slice A1 x1.length c1), (2, .int .i64 x2), (39, .bool true), (41, .bool false), (42, .slice A0 x0.length c0)] [] hf669 (by kernel_rfl) trivial fun a672 hf673 => ?_
                refine listOf hf673 rfl (by kernel_rfl) (aCall (fid := 20) (args := [.slice A0 x0.length c0]) (d := 43) hf673 (by kernel_rfl) (by kernel_rfl) callable20 (ref1_May.calls _ _ x0 A0 x0.length c0 rfl (hm671.give [0] [.sl (Kd.int .i64) A0 c0 x0] rfl rfl) r53 hr53) ?_)
                rintro _ w674 a675 ⟨rfl, hk677⟩ hf676
                have hm678 : Mem [] M w0 [.sl (Kd.int .i64) A0 c0 x0, .sl (Kd.int .i64) A1 c1 x1] w674 := hm671.still hk677.cum.none
                rw [c664] at hf676
                refine go 37 [] [6] [(6, .bool false)] [] hf676 (by kernel_rfl) trivial fun a679 hf680 => ?_
                refine endL rfl ?_
                have hm681 : Mem [] M w0 [] w674 := hm678.sel [] _ rfl (by kernel_rfl)
                refine thenN ?_
                refine wp_ret ?_
                have hm682 : Mem [] M w0 [] w674 := hm681.sel [] _ rfl (by kernel_rfl)
                obtain rfl := Option.some.inj H0
                refine ret [] [.bool false] [] hf680 (by kernel_rfl) trivial ?_
                exact ⟨_, rfl, rfl, hm682⟩
              · obtain ⟨r684, hr684, H0⟩ := ob_split H0
                obtain ⟨r685, hr685, H0⟩ := ob_split H0
                obtain ⟨r686, hr686, H0⟩ := ob_split H0
                rcases ifb_split H0 with ⟨c687, H0⟩ | ⟨c687, H0⟩
                · obtain ⟨r688, hr688, H0⟩ := ob_split H0
                  obtain ⟨r689, hr689, H0⟩ := ob_split H0
                  rcases if_split H0 with ⟨c690, H0⟩ | ⟨c690, H0⟩
                  · obtain ⟨r691, hr691, H0⟩ := ob_split H0
                    obtain ⟨r692, hr692, H0⟩ := ob_split H0
                    obtain ⟨r693, hr693, H0⟩ := ob_split H0
                    rcases ifb_split H0 with ⟨c694, H0⟩ | ⟨c694, H0⟩
                    · obtain ⟨r695, hr695, H0⟩ := ob_split H0
                      obtain ⟨r696, hr696, H0⟩ := ob_split H0
                      rcases ifb_split H0 with ⟨c697, H0⟩ | ⟨c697, H0⟩
                      · rcases ifb_split H0 with ⟨c698, H0⟩ | ⟨c698, H0⟩
                        · refine inReg ?_
                          refine go 10 [.bool true, .bool true] [0, 1, 2, 39, 40] [(0, .slice A0 x0.length c0), (1, .slice A1 x1.length c1), (2, .int .i64 x2), (39, .bool true), (40, .slice A0 x0.length c0)] [.is (((r30.1 : Int) == r40.1) = true), .is (((r30.2 : Int) == r40.2) = true)] hf49 (by kernel_rfl) ⟨(eqT c50), (eqT c51), trivial⟩ fun a699 hf700 => ?_
                          refine listOf hf700 rfl (by kernel_rfl) (aCall (fid := 19) (args := [.slice A0 x0.length c0]) (d := 41) hf700 (by kernel_rfl) (by kernel_rfl) callable19 (shape_May.calls _ _ x0 A0 x0.length c0 rfl (hm47.give [0] [.sl (Kd.int .i64) A0 c0 x0] rfl rfl) r52 hr52) ?_)
                          rintro _ w701 a702 ⟨rfl, hk704⟩ hf703
                          have hm705 : Mem [] M w0 [.sl (Kd.int .i64) A0 c0 x0, .sl (Kd.int .i64) A1 c1 x1] w701 := hm47.still hk704.cum.none
                          rw [c54] at hf703
                          refine go 1 [] [0, 1, 2, 39, 41, 42] [(0, .slice A0 x0.length c0), (1, .slice A1 x1.length c1), (2, .int .i64 x2), (39, .bool true), (41, .bool false), (42, .slice A0 x0.length c0)] [] hf703 (by kernel_rfl) trivial fun a706 hf707 => ?_
                          refine listOf hf707 rfl (by kernel_rfl) (aCall (fid := 20) (args := [.slice A0 x0.length c0]) (d := 43) hf707 (by kernel_rfl) (by kernel_rfl) callable20 (ref1_May.calls _ _ x0 A0 x0.length c0 rfl (hm705.give [0] [.sl (Kd.int .i64) A0 c0 x0] rfl rfl) r53 hr53) ?_)
                          rintro _ w708 a709 ⟨rfl, hk711⟩ hf710
                          have hm712 : Mem [] M w0 [.sl (Kd.int .i64) A0 c0 x0, .sl (Kd.int .i64) A1 c1 x1] w708 := hm705.still hk711.cum.none
                          rw [c664] at hf710
                          refine go 4 [] [0, 1, 2, 46, 47] [(0, .slice A0 x0.length c0), (1, .slice A1 x1.length c1), (2, .int .i64 x2), (46, .bool true), (47, .slice A0 x0.length c0)] [] hf710 (by kernel_rfl) trivial fun a713 hf714 => ?_
                          refine listOf hf714 rfl (by kernel_rfl) (aCall (fid := 21) (args := [.slice A0 x0.length c0]) (d := 48) hf714 (by kernel_rfl) (by kernel_rfl) callable21 (shape_Strides.calls _ _ x0 A0 x0.length c0 rfl (hm712.give [0] [.sl (Kd.int .i64) A0 c0 x0] rfl rfl) r684 hr684) ?_)
                          rintro _ w717 a718 ⟨A715, c716, rfl, hk720⟩ hf719
                          have hm721 : Mem [] M w0 [.ow (Kd.int .i64) 3 A715 c716 r684, .sl (Kd.int .i64) A0 c0 x0, .sl (Kd.int .i64) A1 c1 x1] w717 := hm712.back hk720
                          have hm722 : Mem [] M w0 [.sl (Kd.int .i64) A715 c716 r684, .sl (Kd.int .i64) A0 c0 x0, .sl (Kd.int .i64) A1 c1 x1] w717 := hm721.seal 0 _ rfl rfl
                          refine go 1 [] [0, 1, 2, 46, 48, 49] [(0, .slice A0 x0.length c0), (1, .slice A1 x1.length c1), (2, .int .i64 x2), (46, .bool true), (48, .slice A715 r684.length c716), (49, .slice A0 x0.length c0)] [] hf719 (by kernel_rfl) trivial fun a723 hf724 => ?_
                          refine listOf hf724 rfl (by kernel_rfl) (aCall (fid := 22) (args := [.slice A0 x0.length c0]) (d := 50) hf724 (by kernel_rfl) (by kernel_rfl) callable22 (ref1_Strides.calls _ _ x0 A0 x0.length c0 rfl (hm722.give [1] [.sl (Kd.int .i64) A0 c0 x0] rfl rfl) r685 hr685) ?_)
                          rintro _ w727 a728 ⟨A725, c726, rfl, hk730⟩ hf729
                          have hm731 : Mem [] M w0 [.ow (Kd.int .i64) 3 A725 c726 r685, .sl (Kd.int .i64) A715 c716 r684, .sl (Kd.int .i64) A0 c0 x0, .sl (Kd.int .i64) A1 c1 x1] w727 := hm722.back hk730
                          have hm732 : Mem [] M w0 [.sl (Kd.int .i64) A725 c726 r685, .sl (Kd.int .i64) A715 c716 r684, .sl (Kd.int .i64) A0 c0 x0, .sl (Kd.int .i64) A1 c1 x1] w727 := hm731.seal 0 _ rfl rfl
                          refine listOf hf729 rfl (by kernel_rfl) (aCall (fid := 12) (args := [.slice A715 r684.length c716, .slice A725 r685.length c726]) (d := 51) hf729 (by kernel_rfl) (by kernel_rfl) callable12 (ref1_SameInts.calls _ _ r684 A715 r684.length c716 rfl r685 A725 r685.length c726 rfl (hm732.give [1, 0] [.sl (Kd.int .i64) A715 c716 r684, .sl (Kd.int .i64) A725 c726 r685] rfl rfl) r686 hr686) ?_)
                          rintro _ w733 a734 ⟨rfl, hk736⟩ hf735
                          have hm737 : Mem [] M w0 [.sl (Kd.int .i64) A725 c726 r685, .sl (Kd.int .i64) A715 c716 r684, .sl (Kd.int .i64) A0 c0 x0, .sl (Kd.int .i64) A1 c1 x1] w733 := hm732.still hk736.cum.none
                          rw [c687] at hf735
                          refine go 4 [] [0, 1, 2, 53, 54, 55] [(0, .slice A0 x0.length c0), (1, .slice A1 x1.length c1), (2, .int .i64 x2), (53, .bool true), (54, .slice A0 x0.length c0), (55, .slice A1 x1.length c1)] [] hf735 (by kernel_rfl) trivial fun a738 hf739 => ?_
                          refine listOf hf739 rfl (by kernel_rfl) (aCall (fid := 17) (args := [.slice A0 x0.length c0, .slice A1 x1.length c1]) (d := 56) hf739 (by kernel_rfl) (by kernel_rfl) callable17 (shape_Index.calls _ _ x0 A0 x0.length c0 rfl x1 A1 x1.length c1 rfl (hm737.give [2, 3] [.sl (Kd.int .i64) A0 c0 x0, .sl (Kd.int .i64) A1 c1 x1] rfl rfl) r688 hr688) ?_)
                          rintro _ w740 a741 ⟨rfl, hk743⟩ hf742
                          have hm744 : Mem [] M w0 [.sl (Kd.int .i64) A725 c726 r685, .sl (Kd.int .i64) A715 c716 r684, .sl (Kd.int .i64) A0 c0 x0, .sl (Kd.int .i64) A1 c1 x1] w740 := hm737.still hk743.cum.none
                          refine go 2 [] [0, 1, 2, 53, 56, 57, 58] [(0, .slice A0 x0.length c0), (1, .slice A1 x1.length c1), (2, .int .i64 x2), (53, .bool true), (56, .int .i64 r688), (57, .slice A0 x0.length c0), (58, .slice A1 x1.length c1)] [] hf742 (by kernel_rfl) trivial fun a745 hf746 => ?_
                          refine listOf hf746 rfl (by kernel_rfl) (aCall (fid := 23) (args := [.slice A0 x0.length c0, .slice A1 x1.length c1]) (d := 59) hf746 (by kernel_rfl) (by kernel_rfl) callable23 (ref1_Index.calls _ _ x0 A0 x0.length c0 rfl x1 A1 x1.length c1 rfl (hm744.give [2, 3] [.sl (Kd.int .i64) A0 c0 x0, .sl (Kd.int .i64) A1 c1 x1] rfl rfl) r689 hr689) ?_)
                          rintro _ w747 a748 ⟨rfl, hk750⟩ hf749
                          have hm751 : Mem [] M w0 [.sl (Kd.int .i64) A725 c726 r685, .sl (Kd.int .i64) A715 c716 r684, .sl (Kd.int .i64) A0 c0 x0, .sl (Kd.int .i64) A1 c1 x1] w747 := hm744.still hk750.cum.none
                          refine go 5 [.bool true] [0, 1, 2, 62, 63, 64] [(0, .slice A0 x0.length c0), (1, .slice A1 x1.length c1), (2, .int .i64 x2), (62, .bool true), (63, .slice A0 x0.length c0), (64, .int .i64 x2)] [.is (((r688 : Int) == r689) = true)] hf749 (by kernel_rfl) ⟨(eqT c690), trivial⟩ fun a752 hf753 => ?_
                          refine listOf hf753 rfl (by kernel_rfl) (aCall (fid := 24) (args := [.slice A0 x0.length c0, .int .i64 x2]) (d := 65) hf753 (by kernel_rfl) (by kernel_rfl) callable24 (shape_Place.calls _ _ x0 A0 x0.length c0 rfl x2 (hm751.give [2] [.sl (Kd.int .i64) A0 c0 x0] rfl rfl) r691 hr691) ?_)
                          rintro _ w756 a757 ⟨A754, c755, rfl, hk759⟩ hf758
                          have hm760 : Mem [] M w0 [.ow (Kd.int .i64) 3 A754 c755 r691, .sl (Kd.int .i64) A725 c726 r685, .sl (Kd.int .i64) A715 c716 r684, .sl (Kd.int .i64) A0 c0 x0, .sl (Kd.int .i64) A1 c1 x1] w756 := hm751.back hk759
                          have hm761 : Mem [] M w0 [.sl (Kd.int .i64) A754 c755 r691, .sl (Kd.int .i64) A725 c726 r685, .sl (Kd.int .i64) A715 c716 r684, .sl (Kd.int .i64) A0 c0 x0, .sl (Kd.int .i64) A1 c1 x1] w756 := hm760.seal 0 _ rfl rfl
                          refine go 2 [] [0, 1, 62, 65, 66, 67] [(0, .slice A0 x0.length c0), (1, .slice A1 x1.length c1), (62, .bool true), (65, .slice A754 r691.length c755), (66, .slice A0 x0.length c0), (67, .int .i64 x2)] [] hf758 (by kernel_rfl) trivial fun a762 hf763 => ?_
                          refine listOf hf763 rfl (by kernel_rfl) (aCall (fid := 25) (args := [.slice A0 x0.length c0, .int .i64 x2]) (d := 68) hf763 (by kernel_rfl) (by kernel_rfl) callable25 (ref1_Place.calls _ _ x0 A0 x0.length c0 rfl x2 (hm761.give [3] [.sl (Kd.int .i64) A0 c0 x0] rfl rfl) r692 hr692) ?_)
                          rintro _ w766 a767 ⟨A764, c765, rfl, hk769⟩ hf768
                          have hm770 : Mem [] M w0 [.ow (Kd.int .i64) 3 A764 c765 r692, .sl (Kd.int .i64) A754 c755 r691, .sl (Kd.int .i64) A725 c726 r685, .sl (Kd.int .i64) A715 c716 r684, .sl (Kd.int .i64) A0 c0 x0, .sl (Kd.int .i64) A1 c1 x1] w766 := hm761.back hk769
                          have hm771 : Mem [] M w0 [.sl (Kd.int .i64) A764 c765 r692, .sl (Kd.int .i64) A754 c755 r691, .sl (Kd.int .i64) A725 c726 r685, .sl (Kd.int .i64) A715 c716 r684, .sl (Kd.int .i64) A0 c0 x0, .sl (Kd.int .i64) A1 c1 x1] w766 := hm770.seal 0 _ rfl rfl
                          refine listOf hf768 rfl (by kernel_rfl) (aCall (fid := 12) (args := [.slice A754 r691.length c755, .slice A764 r692.length c765]) (d := 69) hf768 (by kernel_rfl) (by kernel_rfl) callable12 (ref1_SameInts.calls _ _ r691 A754 r691.length c755 rfl r692 A764 r692.length c765 rfl (hm771.give [1, 0] [.sl (Kd.int .i64) A754 c755 r691, .sl (Kd.int .i64) A764 c765 r692] rfl rfl) r693 hr693) ?_)
                          rintro _ w772 a773 ⟨rfl, hk775⟩ hf774
                          have hm776 : Mem [] M w0 [.sl (Kd.int .i64) A764 c765 r692, .sl (Kd.int .i64) A754 c755 r691, .sl (Kd.int .i64) A725 c726 r685, .sl (Kd.int .i64) A715 c716 r684, .sl (Kd.int .i64) A0 c0 x0, .sl (Kd.int .i64) A1 c1 x1] w772 := hm771.still hk775.cum.none
                          rw [c694] at hf774
                          refine go 4 [] [0, 1, 71, 72, 73] [(0, .slice A0 x0.length c0), (1, .slice A1 x1.length c1), (71, .bool true), (72, .slice A0 x0.length c0), (73, .slice A1 x1.length c1)] [] hf774 (by kernel_rfl) trivial fun a777 hf778 => ?_
                          refine listOf hf778 rfl (by kernel_rfl) (aCall (fid := 16) (args := [.slice A0 x0.length c0, .slice A1 x1.length c1]) (d := 74) hf778 (by kernel_rfl) (by kernel_rfl) callable16 (shape_Same.calls _ _ x0 A0 x0.length c0 rfl x1 A1 x1.length c1 rfl (hm776.give [4, 5] [.sl (Kd.int .i64) A0 c0 x0, .sl (Kd.int .i64) A1 c1 x1] rfl rfl) r695 hr695) ?_)
                          rintro _ w779 a780 ⟨rfl, hk782⟩ hf781
                          have hm783 : Mem [] M w0 [.sl (Kd.int .i64) A764 c765 r692, .sl (Kd.int .i64) A754 c755 r691, .sl (Kd.int .i64) A725 c726 r685, .sl (Kd.int .i64) A715 c716 r684, .sl (Kd.int .i64) A0 c0 x0, .sl (Kd.int .i64) A1 c1 x1] w779 := hm776.still hk782.cum.none
                          rw [c697] at hf781
                          refine go 2 [] [71, 74, 75, 76] [(71, .bool true), (74, .bool true), (75, .slice A0 x0.length c0), (76, .slice A1 x1.length c1)] [] hf781 (by kernel_rfl) trivial fun a784 hf785 => ?_
                          refine listOf hf785 rfl (by kernel_rfl) (aCall (fid := 12) (args := [.slice A0 x0.length c0, .slice A1 x1.length c1]) (d := 77) hf785 (by kernel_rfl) (by kernel_rfl) callable12 (ref1_SameInts.calls _ _ x0 A0 x0.length c0 rfl x1 A1 x1.length c1 rfl (hm783.give [4, 5] [.sl (Kd.int .i64) A0 c0 x0, .sl (Kd.int .i64) A1 c1 x1] rfl rfl) r696 hr696) ?_)
                          rintro _ w786 a787 ⟨rfl, hk789⟩ hf788
                          have hm790 : Mem [] M w0 [.sl (Kd.int .i64) A764 c765 r692, .sl (Kd.int .i64) A754 c755 r691, .sl (Kd.int .i64) A725 c726 r685, .sl (Kd.int .i64) A715 c716 r684, .sl (Kd.int .i64) A0 c0 x0, .sl (Kd.int .i64) A1 c1 x1] w786 := hm783.still hk789.cum.none
                          rw [c698] at hf788
                          refine go 3 [] [6] [(6, .bool true)] [] hf788 (by kernel_rfl) trivial fun a791 hf792 => ?_
                          refine endL rfl ?_
                          have hm793 : Mem [] M w0 [] w786 := hm790.sel [] _ rfl (by kernel_rfl)
                          refine thenN ?_
                          refine wp_ret ?_
                          have hm794 : Mem [] M w0 [] w786 := hm793.sel [] _ rfl (by kernel_rfl)
                          obtain rfl := Option.some.inj H0
                          refine ret [] [.bool true] [] hf792 (by kernel_rfl) trivial ?_
                          exact ⟨_, rfl, rfl, hm794⟩
                        · refine inReg ?_
                          refine go 10 [.bool true, .bool true] [0, 1, 2, 39, 40] [(0, .slice A0 x0.length c0), (1, .slice A1 x1.length c1), (2, .int .i64 x2), (39, .bool true), (40, .slice A0 x0.length c0)] [.is (((r30.1 : Int) == r40.1) = true), .is (((r30.2 : Int) == r40.2) = true)] hf49 (by kernel_rfl) ⟨(eqT c50), (eqT c51), trivial⟩ fun a796 hf797 => ?_
                          refine listOf hf797 rfl (by kernel_rfl) (aCall (fid := 19) (args := [.slice A0 x0.length c0]) (d := 41) hf797 (by kernel_rfl) (by kernel_rfl) callable19 (shape_May.calls _ _ x0 A0 x0.length c0 rfl (hm47.give [0] [.sl (Kd.int .i64) A0 c0 x0] rfl rfl) r52 hr52) ?_)
                          rintro _ w798 a799 ⟨rfl, hk801⟩ hf800
                          have hm802 : Mem [] M w0 [.sl (Kd.int .i64) A0 c0 x0, .sl (Kd.int .i64) A1 c1 x1] w798 := hm47.still hk801.cum.none
                          rw [c54] at hf800
                          refine go 1 [] [0, 1, 2, 39, 41, 42] [(0, .slice A0 x0.length c0), (1, .slice A1 x1.length c1), (2, .int .i64 x2), (39, .bool true), (41, .bool false), (42, .slice A0 x0.length c0)] [] hf800 (by kernel_rfl) trivial fun a803 hf804 => ?_
                          refine listOf hf804 rfl (by kernel_rfl) (aCall (fid := 20) (args := [.slice A0 x0.length c0]) (d := 43) hf804 (by kernel_rfl) (by kernel_rfl) callable20 (ref1_May.calls _ _ x0 A0 x0.length c0 rfl (hm802.give [0] [.sl (Kd.int .i64) A0 c0 x0] rfl rfl) r53 hr53) ?_)
                          rintro _ w805 a806 ⟨rfl, hk808⟩ hf807
                          have hm809 : Mem [] M w0 [.sl (Kd.int .i64) A0 c0 x0, .sl (Kd.int .i64) A1 c1 x1] w805 := hm802.still hk808.cum.none
                          rw [c664] at hf807
                          refine go 4 [] [0, 1, 2, 46, 47] [(0, .slice A0 x0.length c0), (1, .slice A1 x1.length c1), (2, .int .i64 x2), (46, .bool true), (47, .slice A0 x0.length c0)] [] hf807 (by kernel_rfl) trivial fun a810 hf811 => ?_
                          refine listOf hf811 rfl (by kernel_rfl) (aCall (fid := 21) (args := [.slice A0 x0.length c0]) (d := 48) hf811 (by kernel_rfl) (by kernel_rfl) callable21 (shape_Strides.calls _ _ x0 A0 x0.length c0 rfl (hm809.give [0] [.sl (Kd.int .i64) A0 c0 x0] rfl rfl) r684 hr684) ?_)
                          rintro _ w814 a815 ⟨A812, c813, rfl, hk817⟩ hf816
                          have hm818 : Mem [] M w0 [.ow (Kd.int .i64) 3 A812 c813 r684, .sl (Kd.int .i64) A0 c0 x0, .sl (Kd.int .i64) A1 c1 x1] w814 := hm809.back hk817
                          have hm819 : Mem [] M w0 [.sl (Kd.int .i64) A812 c813 r684, .sl (Kd.int .i64) A0 c0 x0, .sl (Kd.int .i64) A1 c1 x1] w814 := hm818.seal 0 _ rfl rfl
                          refine go 1 [] [0, 1, 2, 46, 48, 49] [(0, .slice A0 x0.length c0), (1, .slice A1 x1.length c1), (2, .int .i64 x2), (46, .bool true), (48, .slice A812 r684.length c813), (49, .slice A0 x0.length c0)] [] hf816 (by kernel_rfl) trivial fun a820 hf821 => ?_
                          refine listOf hf821 rfl (by kernel_rfl) (aCall (fid := 22) (args := [.slice A0 x0.length c0]) (d := 50) hf821 (by kernel_rfl) (by kernel_rfl) callable22 (ref1_Strides.calls _ _ x0 A0 x0.length c0 rfl (hm819.give [1] [.sl (Kd.int .i64) A0 c0 x0] rfl rfl) r685 hr685) ?_)
                          rintro _ w824 a825 ⟨A822, c823, rfl, hk827⟩ hf826
                          have hm828 : Mem [] M w0 [.ow (Kd.int .i64) 3 A822 c823 r685, .sl (Kd.int .i64) A812 c813 r684, .sl (Kd.int .i64) A0 c0 x0, .sl (Kd.int .i64) A1 c1 x1] w824 := hm819.back hk827
                          have hm829 : Mem [] M w0 [.sl (Kd.int .i64) A822 c823 r685, .sl (Kd.int .i64) A812 c813 r684, .sl (Kd.int .i64) A0 c0 x0, .sl (Kd.int .i64) A1 c1 x1] w824 := hm828.seal 0 _ rfl rfl
                          refine listOf hf826 rfl (by kernel_rfl) (aCall (fid := 12) (args := [.slice A812 r684.length c813, .slice A822 r685.length c823]) (d := 51) hf826 (by kernel_rfl) (by kernel_rfl) callable12 (ref1_SameInts.calls _ _ r684 A812 r684.length c813 rfl r685 A822 r685.length c823 rfl (hm829.give [1, 0] [.sl (Kd.int .i64) A812 c813 r684, .sl (Kd.int .i64) A822 c823 r685] rfl rfl) r686 hr686) ?_)
                          rintro _ w830 a831 ⟨rfl, hk833⟩ hf832
                          have hm834 : Mem [] M w0 [.sl (Kd.int .i64) A822 c823 r685, .sl (Kd.int .i64) A812 c813 r684, .sl (Kd.int .i64) A0 c0 x0, .sl (Kd.int .i64) A1 c1 x1] w830 := hm829.still hk833.cum.none
                          rw [c687] at hf832
                          refine go 4 [] [0, 1, 2, 53, 54, 55] [(0, .slice A0 x0.length c0), (1, .slice A1 x1.length c1), (2, .int .i64 x2), (53, .bool true), (54, .slice A0 x0.length c0), (55, .slice A1 x1.length c1)] [] hf832 (by kernel_rfl) trivial fun a835 hf836 => ?_
                          refine listOf hf836 rfl (by kernel_rfl) (aCall (fid := 17) (args := [.slice A0 x0.length c0, .slice A1 x1.length c1]) (d := 56) hf836 (by kernel_rfl) (by kernel_rfl) callable17 (shape_Index.calls _ _ x0 A0 x0.length c0 rfl x1 A1 x1.length c1 rfl (hm834.give [2, 3] [.sl (Kd.int .i64) A0 c0 x0, .sl (Kd.int .i64) A1 c1 x1] rfl rfl) r688 hr688) ?_)
                          rintro _ w837 a838 ⟨rfl, hk840⟩ hf839
                          have hm841 : Mem [] M w0 [.sl (Kd.int .i64) A822 c823 r685, .sl (Kd.int .i64) A812 c813 r684, .sl (Kd.int .i64) A0 c0 x0, .sl (Kd.int .i64) A1 c1 x1] w837 := hm834.still hk840.cum.none
                          refine go 2 [] [0, 1, 2, 53, 56, 57, 58] [(0, .slice A0 x0.length c0), (1, .slice A1 x1.length c1), (2, .int .i64 x2), (53, .bool true), (56, .int .i64 r688), (57, .slice A0 x0.length c0), (58, .slice A1 x1.length c1)] [] hf839 (by kernel_rfl) trivial fun a842 hf843 => ?_
                          refine listOf hf843 rfl (by kernel_rfl) (aCall (fid := 23) (args := [.slice A0 x0.length c0, .slice A1 x1.length c1]) (d := 59) hf843 (by kernel_rfl) (by kernel_rfl) callable23 (ref1_Index.calls _ _ x0 A0 x0.length c0 rfl x1 A1 x1.length c1 rfl (hm841.give [2, 3] [.sl (Kd.int .i64) A0 c0 x0, .sl (Kd.int .i64) A1 c1 x1] rfl rfl) r689 hr689) ?_)
                          rintro _ w844 a845 ⟨rfl, hk847⟩ hf846
                          have hm848 : Mem [] M w0 [.sl (Kd.int .i64) A822 c823 r685, .sl (Kd.int .i64) A812 c813 r684, .sl (Kd.int .i64) A0 c0 x0, .sl (Kd.int .i64) A1 c1 x1] w844 := hm841.still hk847.cum.none
                          refine go 5 [.bool true] [0, 1, 2, 62, 63, 64] [(0, .slice A0 x0.length c0), (1, .slice A1 x1.length c1), (2, .int .i64 x2), (62, .bool true), (63, .slice A0 x0.length c0), (64, .int .i64 x2)] [.is (((r688 : Int) == r689) = true)] hf846 (by kernel_rfl) ⟨(eqT c690), trivial⟩ fun a849 hf850 => ?_
                          refine listOf hf850 rfl (by kernel_rfl) (aCall (fid := 24) (args := [.slice A0 x0.length c0, .int .i64 x2]) (d := 65) hf850 (by kernel_rfl) (by kernel_rfl) callable24 (shape_Place.calls _ _ x0 A0 x0.length c0 rfl x2 (hm848.give [2] [.sl (Kd.int .i64) A0 c0 x0] rfl rfl) r691 hr691) ?_)
                          rintro _ w853 a854 ⟨A851, c852, rfl, hk856⟩ hf855
                          have hm857 : Mem [] M w0 [.ow (Kd.int .i64) 3 A851 c852 r691, .sl (Kd.int .i64) A822 c823 r685, .sl (Kd.int .i64) A812 c813 r684, .sl (Kd.int .i64) A0 c0 x0, .sl (Kd.int .i64) A1 c1 x1] w853 := hm848.back hk856
                          have hm858 : Mem [] M w0 [.sl (Kd.int .i64) A851 c852 r691, .sl (Kd.int .i64) A822 c823 r685, .sl (Kd.int .i64) A812 c813 r684, .sl (Kd.int .i64) A0 c0 x0, .sl (Kd.int .i64) A1 c1 x1] w853 := hm857.seal 0 _ rfl rfl
                          refine go 2 [] [0, 1, 62, 65, 66, 67] [(0, .slice A0 x0.length c0), (1, .slice A1 x1.length c1), (62, .bool true), (65, .slice A851 r691.length c852), (66, .slice A0 x0.length c0), (67, .int .i64 x2)] [] hf855 (by kernel_rfl) trivial fun a859 hf860 => ?_
                          refine listOf hf860 rfl (by kernel_rfl) (aCall (fid := 25) (args := [.slice A0 x0.length c0, .int .i64 x2]) (d := 68) hf860 (by kernel_rfl) (by kernel_rfl) callable25 (ref1_Place.calls _ _ x0 A0 x0.length c0 rfl x2 (hm858.give [3] [.sl (Kd.int .i64) A0 c0 x0] rfl rfl) r692 hr692) ?_)
                          rintro _ w863 a864 ⟨A861, c862, rfl, hk866⟩ hf865
                          have hm867 : Mem [] M w0 [.ow (Kd.int .i64) 3 A861 c862 r692, .sl (Kd.int .i64) A851 c852 r691, .sl (Kd.int .i64) A822 c823 r685, .sl (Kd.int .i64) A812 c813 r684, .sl (Kd.int .i64) A0 c0 x0, .sl (Kd.int .i64) A1 c1 x1] w863 := hm858.back hk866
                          have hm868 : Mem [] M w0 [.sl (Kd.int .i64) A861 c862 r692, .sl (Kd.int .i64) A851 c852 r691, .sl (Kd.int .i64) A822 c823 r685, .sl (Kd.int .i64) A812 c813 r684, .sl (Kd.int .i64) A0 c0 x0, .sl (Kd.int .i64) A1 c1 x1] w863 := hm867.seal 0 _ rfl rfl
                          refine listOf hf865 rfl (by kernel_rfl) (aCall (fid := 12) (args := [.slice A851 r691.length c852, .slice A861 r692.length c862]) (d := 69) hf865 (by kernel_rfl) (by kernel_rfl) callable12 (ref1_SameInts.calls _ _ r691 A851 r691.length c852 rfl r692 A861 r692.length c862 rfl (hm868.give [1, 0] [.sl (Kd.int .i64) A851 c852 r691, .sl (Kd.int .i64) A861 c862 r692] rfl rfl) r693 hr693) ?_)
                          rintro _ w869 a870 ⟨rfl, hk872⟩ hf871
                          have hm873 : Mem [] M w0 [.sl (Kd.int .i64) A861 c862 r692, .sl (Kd.int .i64) A851 c852 r691, .sl (Kd.int .i64) A822 c823 r685, .sl (Kd.int .i64) A812 c813 r684, .sl (Kd.int .i64) A0 c0 x0, .sl (Kd.int .i64) A1 c1 x1] w869 := hm868.still hk872.cum.none
                          rw [c694] at hf871
                          refine go 4 [] [0, 1, 71, 72, 73] [(0, .slice A0 x0.length c0), (1, .slice A1 x1.length c1), (71, .bool true), (72, .slice A0 x0.length c0), (73, .slice A1 x1.length c1)] [] hf871 (by kernel_rfl) trivial fun a874 hf875 => ?_
                          refine listOf hf875 rfl (by kernel_rfl) (aCall (fid := 16) (args := [.slice A0 x0.length c0, .slice A1 x1.length c1]) (d := 74) hf875 (by kernel_rfl) (by kernel_rfl) callable16 (shape_Same.calls _ _ x0 A0 x0.length c0 rfl x1 A1 x1.length c1 rfl (hm873.give [4, 5] [.sl (Kd.int .i64) A0 c0 x0, .sl (Kd.int .i64) A1 c1 x1] rfl rfl) r695 hr695) ?_)
                          rintro _ w876 a877 ⟨rfl, hk879⟩ hf878
                          have hm880 : Mem [] M w0 [.sl (Kd.int .i64) A861 c862 r692, .sl (Kd.int .i64) A851 c852 r691, .sl (Kd.int .i64) A822 c823 r685, .sl (Kd.int .i64) A812 c813 r684, .sl (Kd.int .i64) A0 c0 x0, .sl (Kd.int .i64) A1 c1 x1] w876 := hm873.still hk879.cum.none
                          rw [c697] at hf878
                          refine go 2 [] [71, 74, 75, 76] [(71, .bool true), (74, .bool true), (75, .slice A0 x0.length c0), (76, .slice A1 x1.length c1)] [] hf878 (by kernel_rfl) trivial fun a881 hf882 => ?_
                          refine listOf hf882 rfl (by kernel_rfl) (aCall (fid := 12) (args := [.slice A0 x0.length c0, .slice A1 x1.length c1]) (d := 77) hf882 (by kernel_rfl) (by kernel_rfl) callable12 (ref1_SameInts.calls _ _ x0 A0 x0.length c0 rfl x1 A1 x1.length c1 rfl (hm880.give [4, 5] [.sl (Kd.int .i64) A0 c0 x0, .sl (Kd.int .i64) A1 c1 x1] rfl rfl) r696 hr696) ?_)
                          rintro _ w883 a884 ⟨rfl, hk886⟩ hf885
                          have hm887 : Mem [] M w0 [.sl (Kd.int .i64) A861 c862 r692, .sl (Kd.int .i64) A851 c852 r691, .sl (Kd.int .i64) A822 c823 r685, .sl (Kd.int .i64) A812 c813 r684, .sl (Kd.int .i64) A0 c0 x0, .sl (Kd.int .i64) A1 c1 x1] w883 := hm880.still hk886.cum.none
                          rw [c698] at hf885
                          refine go 3 [] [6] [(6, .bool false)] [] hf885 (by kernel_rfl) trivial fun a888 hf889 => ?_
                          refine endL rfl ?_
                          have hm890 : Mem [] M w0 [] w883 := hm887.sel [] _ rfl (by kernel_rfl)
                          refine thenN ?_
                          refine wp_ret ?_
                          have hm891 : Mem [] M w0 [] w883 := hm890.sel [] _ rfl (by kernel_rfl)
                          obtain rfl := Option.some.inj H0
                          refine ret [] [.bool false] [] hf889 (by kernel_rfl) trivial ?_
                          exact ⟨_, rfl, rfl, hm891⟩
                      · rcases ifb_split H0 with ⟨c893, H0⟩ | ⟨c893, H0⟩
                        · refine inReg ?_
                          refine go 10 [.bool true, .bool true] [0, 1, 2, 39, 40] [(0, .slice A0 x0.length c0), (1, .slice A1 x1.length c1), (2, .int .i64 x2), (39, .bool true), (40, .slice A0 x0.length c0)] [.is (((r30.1 : Int) == r40.1) = true), .is (((r30.2 : Int) == r40.2) = true)] hf49 (by kernel_rfl) ⟨(eqT c50), (eqT c51), trivial⟩ fun a894 hf895 => ?_
                          refine listOf hf895 rfl (by kernel_rfl) (aCall (fid := 19) (args := [.slice A0 x0.length c0]) (d := 41) hf895 (by kernel_rfl) (by kernel_rfl) callable19 (shape_May.calls _ _ x0 A0 x0.length c0 rfl (hm47.give [0] [.sl (Kd.int .i64) A0 c0 x0] rfl rfl) r52 hr52) ?_)
                          rintro _ w896 a897 ⟨rfl, hk899⟩ hf898
                          have hm900 : Mem [] M w0 [.sl (Kd.int .i64) A0 c0 x0, .sl (Kd.int .i64) A1 c1 x1] w896 := hm47.still hk899.cum.none
                          rw [c54] at hf898
                          refine go 1 [] [0, 1, 2, 39, 41, 42] [(0, .slice A0 x0.length c0), (1, .slice A1 x1.length c1), (2, .int .i64 x2), (39, .bool true), (41, .bool false), (42, .slice A0 x0.length c0)] [] hf898 (by kernel_rfl) trivial fun a901 hf902 => ?_
                          refine listOf hf902 rfl (by kernel_rfl) (aCall (fid := 20) (args := [.slice A0 x0.length c0]) (d := 43) hf902 (by kernel_rfl) (by kernel_rfl) callable20 (ref1_May.calls _ _ x0 A0 x0.length c0 rfl (hm900.give [0] [.sl (Kd.int .i64) A0 c0 x0] rfl rfl) r53 hr53) ?_)
                          rintro _ w903 a904 ⟨rfl, hk906⟩ hf905
                          have hm907 : Mem [] M w0 [.sl (Kd.int .i64) A0 c0 x0, .sl (Kd.int .i64) A1 c1 x1] w903 := hm900.still hk906.cum.none
                          rw [c664] at hf905
                          refine go 4 [] [0, 1, 2, 46, 47] [(0, .slice A0 x0.length c0), (1, .slice A1 x1.length c1), (2, .int .i64 x2), (46, .bool true), (47, .slice A0 x0.length c0)] [] hf905 (by kernel_rfl) trivial fun a908 hf909 => ?_
                          refine listOf hf909 rfl (by kernel_rfl) (aCall (fid := 21) (args := [.slice A0 x0.length c0]) (d := 48) hf909 (by kernel_rfl) (by kernel_rfl) callable21 (shape_Strides.calls _ _ x0 A0 x0.length c0 rfl (hm907.give [0] [.sl (Kd.int .i64) A0 c0 x0] rfl rfl) r684 hr684) ?_)
                          rintro _ w912 a913 ⟨A910, c911, rfl, hk915⟩ hf914
                          have hm916 : Mem [] M w0 [.ow (Kd.int .i64) 3 A910 c911 r684, .sl (Kd.int .i64) A0 c0 x0, .sl (Kd.int .i64) A1 c1 x1] w912 := hm907.back hk915
                          have hm917 : Mem [] M w0 [.sl (Kd.int .i64) A910 c911 r684, .sl (Kd.int .i64) A0 c0 x0, .sl (Kd.int .i64) A1 c1 x1] w912 := hm916.seal 0 _ rfl rfl
                          refine go 1 [] [0, 1, 2, 46, 48, 49] [(0, .slice A0 x0.length c0), (1, .slice A1 x1.length c1), (2, .int .i64 x2), (46, .bool true), (48, .slice A910 r684.length c911), (49, .slice A0 x0.length c0)] [] hf914 (by kernel_rfl) trivial fun a918 hf919 => ?_
                          refine listOf hf919 rfl (by kernel_rfl) (aCall (fid := 22) (args := [.slice A0 x0.length c0]) (d := 50) hf919 (by kernel_rfl) (by kernel_rfl) callable22 (ref1_Strides.calls _ _ x0 A0 x0.length c0 rfl (hm917.give [1] [.sl (Kd.int .i64) A0 c0 x0] rfl rfl) r685 hr685) ?_)
                          rintro _ w922 a923 ⟨A920, c921, rfl, hk925⟩ hf924
                          have hm926 : Mem [] M w0 [.ow (Kd.int .i64) 3 A920 c921 r685, .sl (Kd.int .i64) A910 c911 r684, .sl (Kd.int .i64) A0 c0 x0, .sl (Kd.int .i64) A1 c1 x1] w922 := hm917.back hk925
                          have hm927 : Mem [] M w0 [.sl (Kd.int .i64) A920 c921 r685, .sl (Kd.int .i64) A910 c911 r684, .sl (Kd.int .i64) A0 c0 x0, .sl (Kd.int .i64) A1 c1 x1] w922 := hm926.seal 0 _ rfl rfl
                          refine listOf hf924 rfl (by kernel_rfl) (aCall (fid := 12) (args := [.slice A910 r684.length c911, .slice A920 r685.length c921]) (d := 51) hf924 (by kernel_rfl) (by kernel_rfl) callable12 (ref1_SameInts.calls _ _ r684 A910 r684.length c911 rfl r685 A920 r685.length c921 rfl (hm927.give [1, 0] [.sl (Kd.int .i64) A910 c911 r684, .sl (Kd.int .i64) A920 c921 r685] rfl rfl) r686 hr686) ?_)
                          rintro _ w928 a929 ⟨rfl, hk931⟩ hf930
                          have hm932 : Mem [] M w0 [.sl (Kd.int .i64) A920 c921 r685, .sl (Kd.int .i64) A910 c911 r684, .sl (Kd.int .i64) A0 c0 x0, .sl (Kd.int .i64) A1 c1 x1] w928 := hm927.still hk931.cum.none
                          rw [c687] at hf930
                          refine go 4 [] [0, 1, 2, 53, 54, 55] [(0, .slice A0 x0.length c0), (1, .slice A1 x1.length c1), (2, .int .i64 x2), (53, .bool true), (54, .slice A0 x0.length c0), (55, .slice A1 x1.length c1)] [] hf930 (by kernel_rfl) trivial fun a933 hf934 => ?_
                          refine listOf hf934 rfl (by kernel_rfl) (aCall (fid := 17) (args := [.slice A0 x0.length c0, .slice A1 x1.length c1]) (d := 56) hf934 (by kernel_rfl) (by kernel_rfl) callable17 (shape_Index.calls _ _ x0 A0 x0.length c0 rfl x1 A1 x1.length c1 rfl (hm932.give [2, 3] [.sl (Kd.int .i64) A0 c0 x0, .sl (Kd.int .i64) A1 c1 x1] rfl rfl) r688 hr688) ?_)
                          rintro _ w935 a936 ⟨rfl, hk938⟩ hf937
                          have hm939 : Mem [] M w0 [.sl (Kd.int .i64) A920 c921 r685, .sl (Kd.int .i64) A910 c911 r684, .sl (Kd.int .i64) A0 c0 x0, .sl (Kd.int .i64) A1 c1 x1] w935 := hm932.still hk938.cum.none
                          refine go 2 [] [0, 1, 2, 53, 56, 57, 58] [(0, .slice A0 x0.length c0), (1, .slice A1 x1.length c1), (2, .int .i64 x2), (53, .bool true), (56, .int .i64 r688), (57, .slice A0 x0.length c0), (58, .slice A1 x1.length c1)] [] hf937 (by kernel_rfl) trivial fun a940 hf941 => ?_
                          refine listOf hf941 rfl (by kernel_rfl) (aCall (fid := 23) (args := [.slice A0 x0.length c0, .slice A1 x1.length c1]) (d := 59) hf941 (by kernel_rfl) (by kernel_rfl) callable23 (ref1_Index.calls _ _ x0 A0 x0.length c0 rfl x1 A1 x1.length c1 rfl (hm939.give [2, 3] [.sl (Kd.int .i64) A0 c0 x0, .sl (Kd.int .i64) A1 c1 x1] rfl rfl) r689 hr689) ?_)
                          rintro _ w942 a943 ⟨rfl, hk945⟩ hf944
                          have hm946 : Mem [] M w0 [.sl (Kd.int .i64) A920 c921 r685, .sl (Kd.int .i64) A910 c911 r684, .sl (Kd.int .i64) A0 c0 x0, .sl (Kd.int .i64) A1 c1 x1] w942 := hm939.still hk945.cum.none
                          refine go 5 [.bool true] [0, 1, 2, 62, 63, 64] [(0, .slice A0 x0.length c0), (1, .slice A1 x1.length c1), (2, .int .i64 x2), (62, .bool true), (63, .slice A0 x0.length c0), (64, .int .i64 x2)] [.is (((r688 : Int) == r689) = true)] hf944 (by kernel_rfl) ⟨(eqT c690), trivial⟩ fun a947 hf948 => ?_
                          refine listOf hf948 rfl (by kernel_rfl) (aCall (fid := 24) (args := [.slice A0 x0.length c0, .int .i64 x2]) (d := 65) hf948 (by kernel_rfl) (by kernel_rfl) callable24 (shape_Place.calls _ _ x0 A0 x0.length c0 rfl x2 (hm946.give [2] [.sl (Kd.int .i64) A0 c0 x0] rfl rfl) r691 hr691) ?_)
                          rintro _ w951 a952 ⟨A949, c950, rfl, hk954⟩ hf953
                          have hm955 : Mem [] M w0 [.ow (Kd.int .i64) 3 A949 c950 r691, .sl (Kd.int .i64) A920 c921 r685, .sl (Kd.int .i64) A910 c911 r684, .sl (Kd.int .i64) A0 c0 x0, .sl (Kd.int .i64) A1 c1 x1] w951 := hm946.back hk954
                          have hm956 : Mem [] M w0 [.sl (Kd.int .i64) A949 c950 r691, .sl (Kd.int .i64) A920 c921 r685, .sl (Kd.int .i64) A910 c911 r684, .sl (Kd.int .i64) A0 c0 x0, .sl (Kd.int .i64) A1 c1 x1] w951 := hm955.seal 0 _ rfl rfl
                          refine go 2 [] [0, 1, 62, 65, 66, 67] [(0, .slice A0 x0.length c0), (1, .slice A1 x1.length c1), (62, .bool true), (65, .slice A949 r691.length c950), (66, .slice A0 x0.length c0), (67, .int .i64 x2)] [] hf953 (by kernel_rfl) trivial fun a957 hf958 => ?_
                          refine listOf hf958 rfl (by kernel_rfl) (aCall (fid := 25) (args := [.slice A0 x0.length c0, .int .i64 x2]) (d := 68) hf958 (by kernel_rfl) (by kernel_rfl) callable25 (ref1_Place.calls _ _ x0 A0 x0.length c0 rfl x2 (hm956.give [3] [.sl (Kd.int .i64) A0 c0 x0] rfl rfl) r692 hr692) ?_)
                          rintro _ w961 a962 ⟨A959, c960, rfl, hk964⟩ hf963
                          have hm965 : Mem [] M w0 [.ow (Kd.int .i64) 3 A959 c960 r692, .sl (Kd.int .i64) A949 c950 r691, .sl (Kd.int .i64) A920 c921 r685, .sl (Kd.int .i64) A910 c911 r684, .sl (Kd.int .i64) A0 c0 x0, .sl (Kd.int .i64) A1 c1 x1] w961 := hm956.back hk964
                          have hm966 : Mem [] M w0 [.sl (Kd.int .i64) A959 c960 r692, .sl (Kd.int .i64) A949 c950 r691, .sl (Kd.int .i64) A920 c921 r685, .sl (Kd.int .i64) A910 c911 r684, .sl (Kd.int .i64) A0 c0 x0, .sl (Kd.int .i64) A1 c1 x1] w961 := hm965.seal 0 _ rfl rfl
                          refine listOf hf963 rfl (by kernel_rfl) (aCall (fid := 12) (args := [.slice A949 r691.length c950, .slice A959 r692.length c960]) (d := 69) hf963 (by kernel_rfl) (by kernel_rfl) callable12 (ref1_SameInts.calls _ _ r691 A949 r691.length c950 rfl r692 A959 r692.length c960 rfl (hm966.give [1, 0] [.sl (Kd.int .i64) A949 c950 r691, .sl (Kd.int .i64) A959 c960 r692] rfl rfl) r693 hr693) ?_)
                          rintro _ w967 a968 ⟨rfl, hk970⟩ hf969
                          have hm971 : Mem [] M w0 [.sl (Kd.int .i64) A959 c960 r692, .sl (Kd.int .i64) A949 c950 r691, .sl (Kd.int .i64) A920 c921 r685, .sl (Kd.int .i64) A910 c911 r684, .sl (Kd.int .i64) A0 c0 x0, .sl (Kd.int .i64) A1 c1 x1] w967 := hm966.still hk970.cum.none
                          rw [c694] at hf969
                          refine go 4 [] [0, 1, 71, 72, 73] [(0, .slice A0 x0.length c0), (1, .slice A1 x1.length c1), (71, .bool true), (72, .slice A0 x0.length c0), (73, .slice A1 x1.length c1)] [] hf969 (by kernel_rfl) trivial fun a972 hf973 => ?_
                          refine listOf hf973 rfl (by kernel_rfl) (aCall (fid := 16) (args := [.slice A0 x0.length c0, .slice A1 x1.length c1]) (d := 74) hf973 (by kernel_rfl) (by kernel_rfl) callable16 (shape_Same.calls _ _ x0 A0 x0.length c0 rfl x1 A1 x1.length c1 rfl (hm971.give [4, 5] [.sl (Kd.int .i64) A0 c0 x0, .sl (Kd.int .i64) A1 c1 x1] rfl rfl) r695 hr695) ?_)
                          rintro _ w974 a975 ⟨rfl, hk977⟩ hf976
                          have hm978 : Mem [] M w0 [.sl (Kd.int .i64) A959 c960 r692, .sl (Kd.int .i64) A949 c950 r691, .sl (Kd.int .i64) A920 c921 r685, .sl (Kd.int .i64) A910 c911 r684, .sl (Kd.int .i64) A0 c0 x0, .sl (Kd.int .i64) A1 c1 x1] w974 := hm971.still hk977.cum.none
                          rw [c697] at hf976
                          refine go 2 [] [71, 74, 75, 76] [(71, .bool true), (74, .bool false), (75, .slice A0 x0.length c0), (76, .slice A1 x1.length c1)] [] hf976 (by kernel_rfl) trivial fun a979 hf980 => ?_
                          refine listOf hf980 rfl (by kernel_rfl) (aCall (fid := 12) (args := [.slice A0 x0.length c0, .slice A1 x1.length c1]) (d := 77) hf980 (by kernel_rfl) (by kernel_rfl) callable12 (ref1_SameInts.calls _ _ x0 A0 x0.length c0 rfl x1 A1 x1.length c1 rfl (hm978.give [4, 5] [.sl (Kd.int .i64) A0 c0 x0, .sl (Kd.int .i64) A1 c1 x1] rfl rfl) r696 hr696) ?_)
                          rintro _ w981 a982 ⟨rfl, hk984⟩ hf983
                          have hm985 : Mem [] M w0 [.sl (Kd.int .i64) A959 c960 r692, .sl (Kd.int .i64) A949 c950 r691, .sl (Kd.int .i64) A920 c921 r685, .sl (Kd.int .i64) A910 c911 r684, .sl (Kd.int .i64) A0 c0 x0, .sl (Kd.int .i64) A1 c1 x1] w981 := hm978.still hk984.cum.none
                          rw [c893] at hf983
                          refine go 3 [] [6] [(6, .bool false)] [] hf983 (by kernel_rfl) trivial fun a986 hf987 => ?_
                          refine endL rfl ?_
                          have hm988 : Mem [] M w0 [] w981 := hm985.sel [] _ rfl (by kernel_rfl)
                          refine thenN ?_
                          refine wp_ret ?_
                          have hm989 : Mem [] M w0 [] w981 := hm988.sel [] _ rfl (by kernel_rfl)
                          obtain rfl := Option.some.inj H0
                          refine ret [] [.bool false] [] hf987 (by kernel_rfl) trivial ?_
                          exact ⟨_, rfl, rfl, hm989⟩
                        · refine inReg ?_
                          refine go 10 [.bool true, .bool true] [0, 1, 2, 39, 40] [(0, .slice A0 x0.length c0), (1, .slice A1 x1.length c1), (2, .int .i64 x2), (39, .bool true), (40, .slice A0 x0.length c0)] [.is (((r30.1 : Int) == r40.1) = true), .is (((r30.2 : Int) == r40.2) = true)] hf49 (by kernel_rfl) ⟨(eqT c50), (eqT c51), trivial⟩ fun a991 hf992 => ?_
                          refine listOf hf992 rfl (by kernel_rfl) (aCall (fid := 19) (args := [.slice A0 x0.length c0]) (d := 41) hf992 (by kernel_rfl) (by kernel_rfl) callable19 (shape_May.calls _ _ x0 A0 x0.length c0 rfl (hm47.give [0] [.sl (Kd.int .i64) A0 c0 x0] rfl rfl) r52 hr52) ?_)
                          rintro _ w993 a994 ⟨rfl, hk996⟩ hf995
                          have hm997 : Mem [] M w0 [.sl (Kd.int .i64) A0 c0 x0, .sl (Kd.int .i64) A1 c1 x1] w993 := hm47.still hk996.cum.none
                          rw [c54] at hf995
                          refine go 1 [] [0, 1, 2, 39, 41, 42] [(0, .slice A0 x0.length c0), (1, .slice A1 x1.length c1), (2, .int .i64 x2), (39, .bool true), (41, .bool false), (42, .slice A0 x0.length c0)] [] hf995 (by kernel_rfl) trivial fun a998 hf999 => ?_
                          refine listOf hf999 rfl (by kernel_rfl) (aCall (fid := 20) (args := [.slice A0 x0.length c0]) (d := 43) hf999 (by kernel_rfl) (by kernel_rfl) callable20 (ref1_May.calls _ _ x0 A0 x0.length c0 rfl (hm997.give [0] [.sl (Kd.int .i64) A0 c0 x0] rfl rfl) r53 hr53) ?_)
                          rintro _ w1000 a1001 ⟨rfl, hk1003⟩ hf1002
                          have hm1004 : Mem [] M w0 [.sl (Kd.int .i64) A0 c0 x0, .sl (Kd.int .i64) A1 c1 x1] w1000 := hm997.still hk1003.cum.none
                          rw [c664] at hf1002
                          refine go 4 [] [0, 1, 2, 46, 47] [(0, .slice A0 x0.length c0), (1, .slice A1 x1.length c1), (2, .int .i64 x2), (46, .bool true), (47, .slice A0 x0.length c0)] [] hf1002 (by kernel_rfl) trivial fun a1005 hf1006 => ?_
                          refine listOf hf1006 rfl (by kernel_rfl) (aCall (fid := 21) (args := [.slice A0 x0.length c0]) (d := 48) hf1006 (by kernel_rfl) (by kernel_rfl) callable21 (shape_Strides.calls _ _ x0 A0 x0.length c0 rfl (hm1004.give [0] [.sl (Kd.int .i64) A0 c0 x0] rfl rfl) r684 hr684) ?_)
                          rintro _ w1009 a1010 ⟨A1007, c1008, rfl, hk1012⟩ hf1011
                          have hm1013 : Mem [] M w0 [.ow (Kd.int .i64) 3 A1007 c1008 r684, .sl (Kd.int .i64) A0 c0 x0, .sl (Kd.int .i64) A1 c1 x1] w1009 := hm1004.back hk1012
                          have hm1014 : Mem [] M w0 [.sl (Kd.int .i64) A1007 c1008 r684, .sl (Kd.int .i64) A0 c0 x0, .sl (Kd.int .i64) A1 c1 x1] w1009 := hm1013.seal 0 _ rfl rfl
                          refine go 1 [] [0, 1, 2, 46, 48, 49] [(0, .slice A0 x0.length c0), (1, .slice A1 x1.length c1), (2, .int .i64 x2), (46, .bool true), (48, .slice A1007 r684.length c1008), (49, .slice A0 x0.length c0)] [] hf1011 (by kernel_rfl) trivial fun a1015 hf1016 => ?_
                          refine listOf hf1016 rfl (by kernel_rfl) (aCall (fid := 22) (args := [.slice A0 x0.length c0]) (d := 50) hf1016 (by kernel_rfl) (by kernel_rfl) callable22 (ref1_Strides.calls _ _ x0 A0 x0.length c0 rfl (hm1014.give [1] [.sl (Kd.int .i64) A0 c0 x0] rfl rfl) r685 hr685) ?_)
                          rintro _ w1019 a1020 ⟨A1017, c1018, rfl, hk1022⟩ hf1021
                          have hm1023 : Mem [] M w0 [.ow (Kd.int .i64) 3 A1017 c1018 r685, .sl (Kd.int .i64) A1007 c1008 r684, .sl (Kd.int .i64) A0 c0 x0, .sl (Kd.int .i64) A1 c1 x1] w1019 := hm1014.back hk1022
                          have hm1024 : Mem [] M w0 [.sl (Kd.int .i64) A1017 c1018 r685, .sl (Kd.int .i64) A1007 c1008 r684, .sl (Kd.int .i64) A0 c0 x0, .sl (Kd.int .i64) A1 c1 x1] w1019 := hm1023.seal 0 _ rfl rfl
                          refine listOf hf1021 rfl (by kernel_rfl) (aCall (fid := 12) (args := [.slice A1007 r684.length c1008, .slice A1017 r685.length c1018]) (d := 51) hf1021 (by kernel_rfl) (by kernel_rfl) callable12 (ref1_SameInts.calls _ _ r684 A1007 r684.length c1008 rfl r685 A1017 r685.length c1018 rfl (hm1024.give [1, 0] [.sl (Kd.int .i64) A1007 c1008 r684, .sl (Kd.int .i64) A1017 c1018 r685] rfl rfl) r686 hr686) ?_)
                          rintro _ w1025 a1026 ⟨rfl, hk1028⟩ hf1027
                          have hm1029 : Mem [] M w0 [.sl (Kd.int .i64) A1017 c1018 r685, .sl (Kd.int .i64) A1007 c1008 r684, .sl (Kd.int .i64) A0 c0 x0, .sl (Kd.int .i64) A1 c1 x1] w1025 := hm1024.still hk1028.cum.none
                          rw [c687] at hf1027
                          refine go 4 [] [0, 1, 2, 53, 54, 55] [(0, .slice A0 x0.length c0), (1, .slice A1 x1.length c1), (2, .int .i64 x2), (53, .bool true), (54, .slice A0 x0.length c0), (55, .slice A1 x1.length c1)] [] hf1027 (by kernel_rfl) trivial fun a1030 hf1031 => ?_
                          refine listOf hf1031 rfl (by kernel_rfl) (aCall (fid := 17) (args := [.slice A0 x0.length c0, .slice A1 x1.length c1]) (d := 56) hf1031 (by kernel_rfl) (by kernel_rfl) callable17 (shape_Index.calls _ _ x0 A0 x0.length c0 rfl x1 A1 x1.length c1 rfl (hm1029.give [2, 3] [.sl (Kd.int .i64) A0 c0 x0, .sl (Kd.int .i64) A1 c1 x1] rfl rfl) r688 hr688) ?_)
                          rintro _ w1032 a1033 ⟨rfl, hk1035⟩ hf1034
                          have hm1036 : Mem [] M w0 [.sl (Kd.int .i64) A1017 c1018 r685, .sl (Kd.int .i64) A1007 c1008 r684, .sl (Kd.int .i64) A0 c0 x0, .sl (Kd.int .i64) A1 c1 x1] w1032 := hm1029.still hk1035.cum.none
                          refine go 2 [] [0, 1, 2, 53, 56, 57, 58] [(0, .slice A0 x0.length c0), (1, .slice A1 x1.length c1), (2, .int .i64 x2), (53, .bool true), (56, .int .i64 r688), (57, .slice A0 x0.length c0), (58, .slice A1 x1.length c1)] [] hf1034 (by kernel_rfl) trivial fun a1037 hf1038 => ?_
                          refine listOf hf1038 rfl (by kernel_rfl) (aCall (fid := 23) (args := [.slice A0 x0.length c0, .slice A1 x1.length c1]) (d := 59) hf1038 (by kernel_rfl) (by kernel_rfl) callable23 (ref1_Index.calls _ _ x0 A0 x0.length c0 rfl x1 A1 x1.length c1 rfl (hm1036.give [2, 3] [.sl (Kd.int .i64) A0 c0 x0, .sl (Kd.int .i64) A1 c1 x1] rfl rfl) r689 hr689) ?_)
                          rintro _ w1039 a1040 ⟨rfl, hk1042⟩ hf1041
                          have hm1043 : Mem [] M w0 [.sl (Kd.int .i64) A1017 c1018 r685, .sl (Kd.int .i64) A1007 c1008 r684, .sl (Kd.int .i64) A0 c0 x0, .sl (Kd.int .i64) A1 c1 x1] w1039 := hm1036.still hk1042.cum.none
                          refine go 5 [.bool true] [0, 1, 2, 62, 63, 64] [(0, .slice A0 x0.length c0), (1, .slice A1 x1.length c1), (2, .int .i64 x2), (62, .bool true), (63, .slice A0 x0.length c0), (64, .int .i64 x2)] [.is (((r688 : Int) == r689) = true)] hf1041 (by kernel_rfl) ⟨(eqT c690), trivial⟩ fun a1044 hf1045 => ?_
                          refine listOf hf1045 rfl (by kernel_rfl) (aCall (fid := 24) (args := [.slice A0 x0.length c0, .int .i64 x2]) (d := 65) hf1045 (by kernel_rfl) (by kernel_rfl) callable24 (shape_Place.calls _ _ x0 A0 x0.length c0 rfl x2 (hm1043.give [2] [.sl (Kd.int .i64) A0 c0 x0] rfl rfl) r691 hr691) ?_)
                          rintro _ w1048 a1049 ⟨A1046, c1047, rfl, hk1051⟩ hf1050
                          have hm1052 : Mem [] M w0 [.ow (Kd.int .i64) 3 A1046 c1047 r691, .sl (Kd.int .i64) A1017 c1018 r685, .sl (Kd.int .i64) A1007 c1008 r684, .sl (Kd.int .i64) A0 c0 x0, .sl (Kd.int .i64) A1 c1 x1] w1048 := hm1043.back hk1051
                          have hm1053 : Mem [] M w0 [.sl (Kd.int .i64) A1046 c1047 r691, .sl (Kd.int .i64) A1017 c1018 r685, .sl (Kd.int .i64) A1007 c1008 r684, .sl (Kd.int .i64) A0 c0 x0, .sl (Kd.int .i64) A1 c1 x1] w1048 := hm1052.seal 0 _ rfl rfl
                          refine go 2 [] [0, 1, 62, 65, 66, 67] [(0, .slice A0 x0.length c0), (1, .slice A1 x1.length c1), (62, .bool true), (65, .slice A1046 r691.length c1047), (66, .slice A0 x0.length c0), (67, .int .i64 x2)] [] hf1050 (by kernel_rfl) trivial fun a1054 hf1055 => ?_
                          refine listOf hf1055 rfl (by kernel_rfl) (aCall (fid := 25) (args := [.slice A0 x0.length c0, .int .i64 x2]) (d := 68) hf1055 (by kernel_rfl) (by kernel_rfl) callable25 (ref1_Place.calls _ _ x0 A0 x0.length c0 rfl x2 (hm1053.give [3] [.sl (Kd.int .i64) A0 c0 x0] rfl rfl) r692 hr692) ?_)
                          rintro _ w1058 a1059 ⟨A1056, c1057, rfl, hk1061⟩ hf1060
                          have hm1062 : Mem [] M w0 [.ow (Kd.int .i64) 3 A1056 c1057 r692, .sl (Kd.int .i64) A1046 c1047 r691, .sl (Kd.int .i64) A1017 c1018 r685, .sl (Kd.int .i64) A1007 c1008 r684, .sl (Kd.int .i64) A0 c0 x0, .sl (Kd.int .i64) A1 c1 x1] w1058 := hm1053.back hk1061
                          have hm1063 : Mem [] M w0 [.sl (Kd.int .i64) A1056 c1057 r692, .sl (Kd.int .i64) A1046 c1047 r691, .sl (Kd.int .i64) A1017 c1018 r685, .sl (Kd.int .i64) A1007 c1008 r684, .sl (Kd.int .i64) A0 c0 x0, .sl (Kd.int .i64) A1 c1 x1] w1058 := hm1062.seal 0 _ rfl rfl
                          refine listOf hf1060 rfl (by kernel_rfl) (aCall (fid := 12) (args := [.slice A1046 r691.length c1047, .slice A1056 r692.length c1057]) (d := 69) hf1060 (by kernel_rfl) (by kernel_rfl) callable12 (ref1_SameInts.calls _ _ r691 A1046 r691.length c1047 rfl r692 A1056 r692.length c1057 rfl (hm1063.give [1, 0] [.sl (Kd.int .i64) A1046 c1047 r691, .sl (Kd.int .i64) A1056 c1057 r692] rfl rfl) r693 hr693) ?_)
                          rintro _ w1064 a1065 ⟨rfl, hk1067⟩ hf1066
                          have hm1068 : Mem [] M w0 [.sl (Kd.int .i64) A1056 c1057 r692, .sl (Kd.int .i64) A1046 c1047 r691, .sl (Kd.int .i64) A1017 c1018 r685, .sl (Kd.int .i64) A1007 c1008 r684, .sl (Kd.int .i64) A0 c0 x0, .sl (Kd.int .i64) A1 c1 x1] w1064 := hm1063.still hk1067.cum.none
                          rw [c694] at hf1066
                          refine go 4 [] [0, 1, 71, 72, 73] [(0, .slice A0 x0.length c0), (1, .slice A1 x1.length c1), (71, .bool true), (72, .slice A0 x0.length c0), (73, .slice A1 x1.length c1)] [] hf1066 (by kernel_rfl) trivial fun a1069 hf1070 => ?_
                          refine listOf hf1070 rfl (by kernel_rfl) (aCall (fid := 16) (args := [.slice A0 x0.length c0, .slice A1 x1.length c1]) (d := 74) hf1070 (by kernel_rfl) (by kernel_rfl) callable16 (shape_Same.calls _ _ x0 A0 x0.length c0 rfl x1 A1 x1.length c1 rfl (hm1068.give [4, 5] [.sl (Kd.int .i64) A0 c0 x0, .sl (Kd.int .i64) A1 c1 x1] rfl rfl) r695 hr695) ?_)
                          rintro _ w1071 a1072 ⟨rfl, hk1074⟩ hf1073
                          have hm1075 : Mem [] M w0 [.sl (Kd.int .i64) A1056 c1057 r692, .sl (Kd.int .i64) A1046 c1047 r691, .sl (Kd.int .i64) A1017 c1018 r685, .sl (Kd.int .i64) A1007 c1008 r684, .sl (Kd.int .i64) A0 c0 x0, .sl (Kd.int .i64) A1 c1 x1] w1071 := hm1068.still hk1074.cum.none
                          rw [c697] at hf1073
                          refine go 2 [] [71, 74, 75, 76] [(71, .bool true), (74, .bool false), (75, .slice A0 x0.length c0), (76, .slice A1 x1.length c1)] [] hf1073 (by kernel_rfl) trivial fun a1076 hf1077 => ?_
                          refine listOf hf1077 rfl (by kernel_rfl) (aCall (fid := 12) (args := [.slice A0 x0.length c0, .slice A1 x1.length c1]) (d := 77) hf1077 (by kernel_rfl) (by kernel_rfl) callable12 (ref1_SameInts.calls _ _ x0 A0 x0.length c0 rfl x1 A1 x1.length c1 rfl (hm1075.give [4, 5] [.sl (Kd.int .i64) A0 c0 x0, .sl (Kd.int .i64) A1 c1 x1] rfl rfl) r696 hr696) ?_)
                          rintro _ w1078 a1079 ⟨rfl, hk1081⟩ hf1080
                          have hm1082 : Mem [] M w0 [.sl (Kd.int .i64) A1056 c1057 r692, .sl (Kd.int .i64) A1046 c1047 r691, .sl (Kd.int .i64) A1017 c1018 r685, .sl (Kd.int .i64) A1007 c1008 r684, .sl (Kd.int .i64) A0 c0 x0, .sl (Kd.int .i64) A1 c1 x1] w1078 := hm1075.still hk1081.cum.none
                          rw [c893] at hf1080
                          refine go 3 [] [6] [(6, .bool true)] [] hf1080 (by kernel_rfl) trivial fun a1083 hf1084 => ?_
                          refine endL rfl ?_
                          have hm1085 : Mem [] M w0 [] w1078 := hm1082.sel [] _ rfl (by kernel_rfl)
                          refine thenN ?_
                          refine wp_ret ?_
                          have hm1086 : Mem [] M w0 [] w1078 := hm1085.sel [] _ rfl (by kernel_rfl)
                          obtain rfl := Option.some.inj H0
                          refine ret [] [.bool true] [] hf1084 (by kernel_rfl) trivial ?_
                          exact ⟨_, rfl, rfl, hm1086⟩
                    · refine inReg ?_
                      refine go 10 [.bool true, .bool true] [0, 1, 2, 39, 40] [(0, .slice A0 x0.length c0), (1, .slice A1 x1.length c1), (2, .int .i64 x2), (39, .bool true), (40, .slice A0 x0.length c0)] [.is (((r30.1 : Int) == r40.1) = true), .is (((r30.2 : Int) == r40.2) = true)] hf49 (by kernel_rfl) ⟨(eqT c50), (eqT c51), trivial⟩ fun a1088 hf1089 => ?_
                      refine listOf hf1089 rfl (by kernel_rfl) (aCall (fid := 19) (args := [.slice A0 x0.length c0]) (d := 41) hf1089 (by kernel_rfl) (by kernel_rfl) callable19 (shape_May.calls _ _ x0 A0 x0.length c0 rfl (hm47.give [0] [.sl (Kd.int .i64) A0 c0 x0] rfl rfl) r52 hr52) ?_)
                      rintro _ w1090 a1091 ⟨rfl, hk1093⟩ hf1092
                      have hm1094 : Mem [] M w0 [.sl (Kd.int .i64) A0 c0 x0, .sl (Kd.int .i64) A1 c1 x1] w1090 := hm47.still hk1093.cum.none
                      rw [c54] at hf1092
                      refine go 1 [] [0, 1, 2, 39, 41, 42] [(0, .slice A0 x0.length c0), (1, .slice A1 x1.length c1), (2, .int .i64 x2), (39, .bool true), (41, .bool false), (42, .slice A0 x0.length c0)] [] hf1092 (by kernel_rfl) trivial fun a1095 hf1096 => ?_
                      refine listOf hf1096 rfl (by kernel_rfl) (aCall (fid := 20) (args := [.slice A0 x0.length c0]) (d := 43) hf1096 (by kernel_rfl) (by kernel_rfl) callable20 (ref1_May.calls _ _ x0 A0 x0.length c0 rfl (hm1094.give [0] [.sl (Kd.int .i64) A0 c0 x0] rfl rfl) r53 hr53) ?_)
                      rintro _ w1097 a1098 ⟨rfl, hk1100⟩ hf1099
                      have hm1101 : Mem [] M w0 [.sl (Kd.int .i64) A0 c0 x0, .sl (Kd.int .i64) A1 c1 x1] w1097 := hm1094.still hk1100.cum.none
                      rw [c664] at hf1099
                      refine go 4 [] [0, 1, 2, 46, 47] [(0, .slice A0 x0.length c0), (1, .slice A1 x1.length c1), (2, .int .i64 x2), (46, .bool true), (47, .slice A0 x0.length c0)] [] hf1099 (by kernel_rfl) trivial fun a1102 hf1103 => ?_
                      refine listOf hf1103 rfl (by kernel_rfl) (aCall (fid := 21) (args := [.slice A0 x0.length c0]) (d := 48) hf1103 (by kernel_rfl) (by kernel_rfl) callable21 (shape_Strides.calls _ _ x0 A0 x0.length c0 rfl (hm1101.give [0] [.sl (Kd.int .i64) A0 c0 x0] rfl rfl) r684 hr684) ?_)
                      rintro _ w1106 a1107 ⟨A1104, c1105, rfl, hk1109⟩ hf1108
                      have hm1110 : Mem [] M w0 [.ow (Kd.int .i64) 3 A1104 c1105 r684, .sl (Kd.int .i64) A0 c0 x0, .sl (Kd.int .i64) A1 c1 x1] w1106 := hm1101.back hk1109
                      have hm1111 : Mem [] M w0 [.sl (Kd.int .i64) A1104 c1105 r684, .sl (Kd.int .i64) A0 c0 x0, .sl (Kd.int .i64) A1 c1 x1] w1106 := hm1110.seal 0 _ rfl rfl
                      refine go 1 [] [0, 1, 2, 46, 48, 49] [(0, .slice A0 x0.length c0), (1, .slice A1 x1.length c1), (2, .int .i64 x2), (46, .bool true), (48, .slice A1104 r684.length c1105), (49, .slice A0 x0.length c0)] [] hf1108 (by kernel_rfl) trivial fun a1112 hf1113 => ?_
                      refine listOf hf1113 rfl (by kernel_rfl) (aCall (fid := 22) (args := [.slice A0 x0.length c0]) (d := 50) hf1113 (by kernel_rfl) (by kernel_rfl) callable22 (ref1_Strides.calls _ _ x0 A0 x0.length c0 rfl (hm1111.give [1] [.sl (Kd.int .i64) A0 c0 x0] rfl rfl) r685 hr685) ?_)
                      rintro _ w1116 a1117 ⟨A1114, c1115, rfl, hk1119⟩ hf1118
                      have hm1120 : Mem [] M w0 [.ow (Kd.int .i64) 3 A1114 c1115 r685, .sl (Kd.int .i64) A1104 c1105 r684, .sl (Kd.int .i64) A0 c0 x0, .sl (Kd.int .i64) A1 c1 x1] w1116 := hm1111.back hk1119
                      have hm1121 : Mem [] M w0 [.sl (Kd.int .i64) A1114 c1115 r685, .sl (Kd.int .i64) A1104 c1105 r684, .sl (Kd.int .i64) A0 c0 x0, .sl (Kd.int .i64) A1 c1 x1] w1116 := hm1120.seal 0 _ rfl rfl
                      refine listOf hf1118 rfl (by kernel_rfl) (aCall (fid := 12) (args := [.slice A1104 r684.length c1105, .slice A1114 r685.length c1115]) (d := 51) hf1118 (by kernel_rfl) (by kernel_rfl) callable12 (ref1_SameInts.calls _ _ r684 A1104 r684.length c1105 rfl r685 A1114 r685.length c1115 rfl (hm1121.give [1, 0] [.sl (Kd.int .i64) A1104 c1105 r684, .sl (Kd.int .i64) A1114 c1115 r685] rfl rfl) r686 hr686) ?_)
                      rintro _ w1122 a1123 ⟨rfl, hk1125⟩ hf1124
                      have hm1126 : Mem [] M w0 [.sl (Kd.int .i64) A1114 c1115 r685, .sl (Kd.int .i64) A1104 c1105 r684, .sl (Kd.int .i64) A0 c0 x0, .sl (Kd.int .i64) A1 c1 x1] w1122 := hm1121.still hk1125.cum.none
                      rw [c687] at hf1124
                      refine go 4 [] [0, 1, 2, 53, 54, 55] [(0, .slice A0 x0.length c0), (1, .slice A1 x1.length c1), (2, .int .i64 x2), (53, .bool true), (54, .slice A0 x0.length c0), (55, .slice A1 x1.length c1)] [] hf1124 (by kernel_rfl) trivial fun a1127 hf1128 => ?_
                      refine listOf hf1128 rfl (by kernel_rfl) (aCall (fid := 17) (args := [.slice A0 x0.length c0, .slice A1 x1.length c1]) (d := 56) hf1128 (by kernel_rfl) (by kernel_rfl) callable17 (shape_Index.calls _ _ x0 A0 x0.length c0 rfl x1 A1 x1.length c1 rfl (hm1126.give [2, 3] [.sl (Kd.int .i64) A0 c0 x0, .sl (Kd.int .i64) A1 c1 x1] rfl rfl) r688 hr688) ?_)
                      rintro _ w1129 a1130 ⟨rfl, hk1132⟩ hf1131
                      have hm1133 : Mem [] M w0 [.sl (Kd.int .i64) A1114 c1115 r685, .sl (Kd.int .i64) A1104 c1105 r684, .sl (Kd.int .i64) A0 c0 x0, .sl (Kd.int .i64) A1 c1 x1] w1129 := hm1126.still hk1132.cum.none
                      refine go 2 [] [0, 1, 2, 53, 56, 57, 58] [(0, .slice A0 x0.length c0), (1, .slice A1 x1.length c1), (2, .int .i64 x2), (53, .bool true), (56, .int .i64 r688), (57, .slice A0 x0.length c0), (58, .slice A1 x1.length c1)] [] hf1131 (by kernel_rfl) trivial fun a1134 hf1135 => ?_
                      refine listOf hf1135 rfl (by kernel_rfl) (aCall (fid := 23) (args := [.slice A0 x0.length c0, .slice A1 x1.length c1]) (d := 59) hf1135 (by kernel_rfl) (by kernel_rfl) callable23 (ref1_Index.calls _ _ x0 A0 x0.length c0 rfl x1 A1 x1.length c1 rfl (hm1133.give [2, 3] [.sl (Kd.int .i64) A0 c0 x0, .sl (Kd.int .i64) A1 c1 x1] rfl rfl) r689 hr689) ?_)
                      rintro _ w1136 a1137 ⟨rfl, hk1139⟩ hf1138
                      have hm1140 : Mem [] M w0 [.sl (Kd.int .i64) A1114 c1115 r685, .sl (Kd.int .i64) A1104 c1105 r684, .sl (Kd.int .i64) A0 c0 x0, .sl (Kd.int .i64) A1 c1 x1] w1136 := hm1133.still hk1139.cum.none
                      refine go 5 [.bool true] [0, 1, 2, 62, 63, 64] [(0, .slice A0 x0.length c0), (1, .slice A1 x1.length c1), (2, .int .i64 x2), (62, .bool true), (63, .slice A0 x0.length c0), (64, .int .i64 x2)] [.is (((r688 : Int) == r689) = true)] hf1138 (by kernel_rfl) ⟨(eqT c690), trivial⟩ fun a1141 hf1142 => ?_
                      refine listOf hf1142 rfl (by kernel_rfl) (aCall (fid := 24) (args := [.slice A0 x0.length c0, .int .i64 x2]) (d := 65) hf1142 (by kernel_rfl) (by kernel_rfl) callable24 (shape_Place.calls _ _ x0 A0 x0.length c0 rfl x2 (hm1140.give [2] [.sl (Kd.int .i64) A0 c0 x0] rfl rfl) r691 hr691) ?_)
                      rintro _ w1145 a1146 ⟨A1143, c1144, rfl, hk1148⟩ hf1147
                      have hm1149 : Mem [] M w0 [.ow (Kd.int .i64) 3 A1143 c1144 r691, .sl (Kd.int .i64) A1114 c1115 r685, .sl (Kd.int .i64) A1104 c1105 r684, .sl (Kd.int .i64) A0 c0 x0, .sl (Kd.int .i64) A1 c1 x1] w1145 := hm1140.back hk1148
                      have hm1150 : Mem [] M w0 [.sl (Kd.int .i64) A1143 c1144 r691, .sl (Kd.int .i64) A1114 c1115 r685, .sl (Kd.int .i64) A1104 c1105 r684, .sl (Kd.int .i64) A0 c0 x0, .sl (Kd.int .i64) A1 c1 x1] w1145 := hm1149.seal 0 _ rfl rfl
                      refine go 2 [] [0, 1, 62, 65, 66, 67] [(0, .slice A0 x0.length c0), (1, .slice A1 x1.length c1), (62, .bool true), (65, .slice A1143 r691.length c1144), (66, .slice A0 x0.length c0), (67, .int .i64 x2)] [] hf1147 (by kernel_rfl) trivial fun a1151 hf1152 => ?_
                      refine listOf hf1152 rfl (by kernel_rfl) (aCall (fid := 25) (args := [.slice A0 x0.length c0, .int .i64 x2]) (d := 68) hf1152 (by kernel_rfl) (by kernel_rfl) callable25 (ref1_Place.calls _ _ x0 A0 x0.length c0 rfl x2 (hm1150.give [3] [.sl (Kd.int .i64) A0 c0 x0] rfl rfl) r692 hr692) ?_)
                      rintro _ w1155 a1156 ⟨A1153, c1154, rfl, hk1158⟩ hf1157
                      have hm1159 : Mem [] M w0 [.ow (Kd.int .i64) 3 A1153 c1154 r692, .sl (Kd.int .i64) A1143 c1144 r691, .sl (Kd.int .i64) A1114 c1115 r685, .sl (Kd.int .i64) A1104 c1105 r684, .sl (Kd.int .i64) A0 c0 x0, .sl (Kd.int .i64) A1 c1 x1] w1155 := hm1150.back hk1158
                      have hm1160 : Mem [] M w0 [.sl (Kd.int .i64) A1153 c1154 r692, .sl (Kd.int .i64) A1143 c1144 r691, .sl (Kd.int .i64) A1114 c1115 r685, .sl (Kd.int .i64) A1104 c1105 r684, .sl (Kd.int .i64) A0 c0 x0, .sl (Kd.int .i64) A1 c1 x1] w1155 := hm1159.seal 0 _ rfl rfl
                      refine listOf hf1157 rfl (by kernel_rfl) (aCall (fid := 12) (args := [.slice A1143 r691.length c1144, .slice A1153 r692.length c1154]) (d := 69) hf1157 (by kernel_rfl) (by kernel_rfl) callable12 (ref1_SameInts.calls _ _ r691 A1143 r691.length c1144 rfl r692 A1153 r692.length c1154 rfl (hm1160.give [1, 0] [.sl (Kd.int .i64) A1143 c1144 r691, .sl (Kd.int .i64) A1153 c1154 r692] rfl rfl) r693 hr693) ?_)
                      rintro _ w1161 a1162 ⟨rfl, hk1164⟩ hf1163
                      have hm1165 : Mem [] M w0 [.sl (Kd.int .i64) A1153 c1154 r692, .sl (Kd.int .i64) A1143 c1144 r691, .sl (Kd.int .i64) A1114 c1115 r685, .sl (Kd.int .i64) A1104 c1105 r684, .sl (Kd.int .i64) A0 c0 x0, .sl (Kd.int .i64) A1 c1 x1] w1161 := hm1160.still hk1164.cum.none
                      rw [c694] at hf1163
                      refine go 11 [] [6] [(6, .bool false)] [] hf1163 (by kernel_rfl) trivial fun a1166 hf1167 => ?_
                      refine endL rfl ?_
                      have hm1168 : Mem [] M w0 [] w1161 := hm1165.sel [] _ rfl (by kernel_rfl)
                      refine thenN ?_
                      refine wp_ret ?_
                      have hm1169 : Mem [] M w0 [] w1161 := hm1168.sel [] _ rfl (by kernel_rfl)
                      obtain rfl := Option.some.inj H0
                      refine ret [] [.bool false] [] hf1167 (by kernel_rfl) trivial ?_
                      exact ⟨_, rfl, rfl, hm1169⟩
                  · refine inReg ?_
                    refine go 10 [.bool true, .bool true] [0, 1, 2, 39, 40] [(0, .slice A0 x0.length c0), (1, .slice A1 x1.length c1), (2, .int .i64 x2), (39, .bool true), (40, .slice A0 x0.length c0)] [.is (((r30.1 : Int) == r40.1) = true), .is (((r30.2 : Int) == r40.2) = true)] hf49 (by kernel_rfl) ⟨(eqT c50), (eqT c51), trivial⟩ fun a1171 hf1172 => ?_
                    refine listOf hf1172 rfl (by kernel_rfl) (aCall (fid := 19) (args := [.slice A0 x0.length c0]) (d := 41) hf1172 (by kernel_rfl) (by kernel_rfl) callable19 (shape_May.calls _ _ x0 A0 x0.length c0 rfl (hm47.give [0] [.sl (Kd.int .i64) A0 c0 x0] rfl rfl) r52 hr52) ?_)
                    rintro _ w1173 a1174 ⟨rfl, hk1176⟩ hf1175
                    have hm1177 : Mem [] M w0 [.sl (Kd.int .i64) A0 c0 x0, .sl (Kd.int .i64) A1 c1 x1] w1173 := hm47.still hk1176.cum.none
                    rw [c54] at hf1175
                    refine go 1 [] [0, 1, 2, 39, 41, 42] [(0, .slice A0 x0.length c0), (1, .slice A1 x1.length c1), (2, .int .i64 x2), (39, .bool true), (41, .bool false), (42, .slice A0 x0.length c0)] [] hf1175 (by kernel_rfl) trivial fun a1178 hf1179 => ?_
                    refine listOf hf1179 rfl (by kernel_rfl) (aCall (fid := 20) (args := [.slice A0 x0.length c0]) (d := 43) hf1179 (by kernel_rfl) (by kernel_rfl) callable20 (ref1_May.calls _ _ x0 A0 x0.length c0 rfl (hm1177.give [0] [.sl (Kd.int .i64) A0 c0 x0] rfl rfl) r53 hr53) ?_)
                    rintro _ w1180 a1181 ⟨rfl, hk1183⟩ hf1182
                    have hm1184 : Mem [] M w0 [.sl (Kd.int .i64) A0 c0 x0, .sl (Kd.int .i64) A1 c1 x1] w1180 := hm1177.still hk1183.cum.none
                    rw [c664] at hf1182
                    refine go 4 [] [0, 1, 2, 46, 47] [(0, .slice A0 x0.length c0), (1, .slice A1 x1.length c1), (2, .int .i64 x2), (46, .bool true), (47, .slice A0 x0.length c0)] [] hf1182 (by kernel_rfl) trivial fun a1185 hf1186 => ?_
                    refine listOf hf1186 rfl (by kernel_rfl) (aCall (fid := 21) (args := [.slice A0 x0.length c0]) (d := 48) hf1186 (by kernel_rfl) (by kernel_rfl) callable21 (shape_Strides.calls _ _ x0 A0 x0.length c0 rfl (hm1184.give [0] [.sl (Kd.int .i64) A0 c0 x0] rfl rfl) r684 hr684) ?_)
                    rintro _ w1189 a1190 ⟨A1187, c1188, rfl, hk1192⟩ hf1191
                    have hm1193 : Mem [] M w0 [.ow (Kd.int .i64) 3 A1187 c1188 r684, .sl (Kd.int .i64) A0 c0 x0, .sl (Kd.int .i64) A1 c1 x1] w1189 := hm1184.back hk1192
                    have hm1194 : Mem [] M w0 [.sl (Kd.int .i64) A1187 c1188 r684, .sl (Kd.int .i64) A0 c0 x0, .sl (Kd.int .i64) A1 c1 x1] w1189 := hm1193.seal 0 _ rfl rfl
                    refine go 1 [] [0, 1, 2, 46, 48, 49] [(0, .slice A0 x0.length c0), (1, .slice A1 x1.length c1), (2, .int .i64 x2), (46, .bool true), (48, .slice A1187 r684.length c1188), (49, .slice A0 x0.length c0)] [] hf1191 (by kernel_rfl) trivial fun a1195 hf1196 => ?_
                    refine listOf hf1196 rfl (by kernel_rfl) (aCall (fid := 22) (args := [.slice A0 x0.length c0]) (d := 50) hf1196 (by kernel_rfl) (by kernel_rfl) callable22 (ref1_Strides.calls _ _ x0 A0 x0.length c0 rfl (hm1194.give [1] [.sl (Kd.int .i64) A0 c0 x0] rfl rfl) r685 hr685) ?_)
                    rintro _ w1199 a1200 ⟨A1197, c1198, rfl, hk1202⟩ hf1201
                    have hm1203 : Mem [] M w0 [.ow (Kd.int .i64) 3 A1197 c1198 r685, .sl (Kd.int .i64) A1187 c1188 r684, .sl (Kd.int .i64) A0 c0 x0, .sl (Kd.int .i64) A1 c1 x1] w1199 := hm1194.back hk1202
                    have hm1204 : Mem [] M w0 [.sl (Kd.int .i64) A1197 c1198 r685, .sl (Kd.int .i64) A1187 c1188 r684, .sl (Kd.int .i64) A0 c0 x0, .sl (Kd.int .i64) A1 c1 x1] w1199 := hm1203.seal 0 _ rfl rfl
                    refine listOf hf1201 rfl (by kernel_rfl) (aCall (fid := 12) (args := [.slice A1187 r684.length c1188, .slice A1197 r685.length c1198]) (d := 51) hf1201 (by kernel_rfl) (by kernel_rfl) callable12 (ref1_SameInts.calls _ _ r684 A1187 r684.length c1188 rfl r685 A1197 r685.length c1198 rfl (hm1204.give [1, 0] [.sl (Kd.int .i64) A1187 c1188 r684, .sl (Kd.int .i64) A1197 c1198 r685] rfl rfl) r686 hr686) ?_)
                    rintro _ w1205 a1206 ⟨rfl, hk1208⟩ hf1207
                    have hm1209 : Mem [] M w0 [.sl (Kd.int .i64) A1197 c1198 r685, .sl (Kd.int .i64) A1187 c1188 r684, .sl (Kd.int .i64) A0 c0 x0, .sl (Kd.int .i64) A1 c1 x1] w1205 := hm1204.still hk1208.cum.none
                    rw [c687] at hf1207
                    refine go 4 [] [0, 1, 2, 53, 54, 55] [(0, .slice A0 x0.length c0), (1, .slice A1 x1.length c1), (2, .int .i64 x2), (53, .bool true), (54, .slice A0 x0.length c0), (55, .slice A1 x1.length c1)] [] hf1207 (by kernel_rfl) trivial fun a1210 hf1211 => ?_
                    refine listOf hf1211 rfl (by kernel_rfl) (aCall (fid := 17) (args := [.slice A0 x0.length c0, .slice A1 x1.length c1]) (d := 56) hf1211 (by kernel_rfl) (by kernel_rfl) callable17 (shape_Index.calls _ _ x0 A0 x0.length c0 rfl x1 A1 x1.length c1 rfl (hm1209.give [2, 3] [.sl (Kd.int .i64) A0 c0 x0, .sl (Kd.int .i64) A1 c1 x1] rfl rfl) r688 hr688) ?_)
                    rintro _ w1212 a1213 ⟨rfl, hk1215⟩ hf1214
                    have hm1216 : Mem [] M w0 [.sl (Kd.int .i64) A1197 c1198 r685, .sl (Kd.int .i64) A1187 c1188 r684, .sl (Kd.int .i64) A0 c0 x0, .sl (Kd.int .i64) A1 c1 x1] w1212 := hm1209.still hk1215.cum.none
                    refine go 2 [] [0, 1, 2, 53, 56, 57, 58] [(0, .slice A0 x0.length c0), (1, .slice A1 x1.length c1), (2, .int .i64 x2), (53, .bool true), (56, .int .i64 r688), (57, .slice A0 x0.length c0), (58, .slice A1 x1.length c1)] [] hf1214 (by kernel_rfl) trivial fun a1217 hf1218 => ?_
                    refine listOf hf1218 rfl (by kernel_rfl) (aCall (fid := 23) (args := [.slice A0 x0.length c0, .slice A1 x1.length c1]) (d := 59) hf1218 (by kernel_rfl) (by kernel_rfl) callable23 (ref1_Index.calls _ _ x0 A0 x0.length c0 rfl x1 A1 x1.length c1 rfl (hm1216.give [2, 3] [.sl (Kd.int .i64) A0 c0 x0, .sl (Kd.int .i64) A1 c1 x1] rfl rfl) r689 hr689) ?_)
                    rintro _ w1219 a1220 ⟨rfl, hk1222⟩ hf1221
                    have hm1223 : Mem [] M w0 [.sl (Kd.int .i64) A1197 c1198 r685, .sl (Kd.int .i64) A1187 c1188 r684, .sl (Kd.int .i64) A0 c0 x0, .sl (Kd.int .i64) A1 c1 x1] w1219 := hm1216.still hk1222.cum.none
                    refine go 21 [.bool false] [6] [(6, .bool false)] [.is (((r688 : Int) == r689) = false)] hf1221 (by kernel_rfl) ⟨(eqF c690), trivial⟩ fun a1224 hf1225 => ?_
                    refine endL rfl ?_
                    have hm1226 : Mem [] M w0 [] w1219 := hm1223.sel [] _ rfl (by kernel_rfl)
                    refine thenN ?_
                    refine wp_ret ?_
                    have hm1227 : Mem [] M w0 [] w1219 := hm1226.sel [] _ rfl (by kernel_rfl)
                    obtain rfl := Option.some.inj H0
                    refine ret [] [.bool false] [] hf1225 (by kernel_rfl) trivial ?_
                    exact ⟨_, rfl, rfl, hm1227⟩
                · refine inReg ?_
                  refine go 10 [.bool true, .bool true] [0, 1, 2, 39, 40] [(0, .slice A0 x0.length c0), (1, .slice A1 x1.length c1), (2, .int .i64 x2), (39, .bool true), (40, .slice A0 x0.length c0)] [.is (((r30.1 : Int) == r40.1) = true), .is (((r30.2 : Int) == r40.2) = true)] hf49 (by kernel_rfl) ⟨(eqT c50), (eqT c51), trivial⟩ fun a1229 hf1230 => ?_
                  refine listOf hf1230 rfl (by kernel_rfl) (aCall (fid := 19) (args := [.slice A0 x0.length c0]) (d := 41) hf1230 (by kernel_rfl) (by kernel_rfl) callable19 (shape_May.calls _ _ x0 A0 x0.length c0 rfl (hm47.give [0] [.sl (Kd.int .i64) A0 c0 x0] rfl rfl) r52 hr52) ?_)
                  rintro _ w1231 a1232 ⟨rfl, hk1234⟩ hf1233
                  have hm1235 : Mem [] M w0 [.sl (Kd.int .i64) A0 c0 x0, .sl (Kd.int .i64) A1 c1 x1] w1231 := hm47.still hk1234.cum.none
                  rw [c54] at hf1233
                  refine go 1 [] [0, 1, 2, 39, 41, 42] [(0, .slice A0 x0.length c0), (1, .slice A1 x1.length c1), (2, .int .i64 x2), (39, .bool true), (41, .bool false), (42, .slice A0 x0.length c0)] [] hf1233 (by kernel_rfl) trivial fun a1236 hf1237 => ?_
                  refine listOf hf1237 rfl (by kernel_rfl) (aCall (fid := 20) (args := [.slice A0 x0.length c0]) (d := 43) hf1237 (by kernel_rfl) (by kernel_rfl) callable20 (ref1_May.calls _ _ x0 A0 x0.length c0 rfl (hm1235.give [0] [.sl (Kd.int .i64) A0 c0 x0] rfl rfl) r53 hr53) ?_)
                  rintro _ w1238 a1239 ⟨rfl, hk1241⟩ hf1240
                  have hm1242 : Mem [] M w0 [.sl (Kd.int .i64) A0 c0 x0, .sl (Kd.int .i64) A1 c1 x1] w1238 := hm1235.still hk1241.cum.none
                  rw [c664] at hf1240
                  refine go 4 [] [0, 1, 2, 46, 47] [(0, .slice A0 x0.length c0), (1, .slice A1 x1.length c1), (2, .int .i64 x2), (46, .bool true), (47, .slice A0 x0.length c0)] [] hf1240 (by kernel_rfl) trivial fun a1243 hf1244 => ?_
                  refine listOf hf1244 rfl (by kernel_rfl) (aCall (fid := 21) (args := [.slice A0 x0.length c0]) (d := 48) hf1244 (by kernel_rfl) (by kernel_rfl) callable21 (shape_Strides.calls _ _ x0 A0 x0.length c0 rfl (hm1242.give [0] [.sl (Kd.int .i64) A0 c0 x0] rfl rfl) r684 hr684) ?_)
                  rintro _ w1247 a1248 ⟨A1245, c1246, rfl, hk1250⟩ hf1249
                  have hm1251 : Mem [] M w0 [.ow (Kd.int .i64) 3 A1245 c1246 r684, .sl (Kd.int .i64) A0 c0 x0, .sl (Kd.int .i64) A1 c1 x1] w1247 := hm1242.back hk1250
                  have hm1252 : Mem [] M w0 [.sl (Kd.int .i64) A1245 c1246 r684, .sl (Kd.int .i64) A0 c0 x0, .sl (Kd.int .i64) A1 c1 x1] w1247 := hm1251.seal 0 _ rfl rfl
                  refine go 1 [] [0, 1, 2, 46, 48, 49] [(0, .slice A0 x0.length c0), (1, .slice A1 x1.length c1), (2, .int .i64 x2), (46, .bool true), (48, .slice A1245 r684.length c1246), (49, .slice A0 x0.length c0)] [] hf1249 (by kernel_rfl) trivial fun a1253 hf1254 => ?_
                  refine listOf hf1254 rfl (by kernel_rfl) (aCall (fid := 22) (args := [.slice A0 x0.length c0]) (d := 50) hf1254 (by kernel_rfl) (by kernel_rfl) callable22 (ref1_Strides.calls _ _ x0 A0 x0.length c0 rfl (hm1252.give [1] [.sl (Kd.int .i64) A0 c0 x0] rfl rfl) r685 hr685) ?_)
                  rintro _ w1257 a1258 ⟨A1255, c1256, rfl, hk1260⟩ hf1259
                  have hm1261 : Mem [] M w0 [.ow (Kd.int .i64) 3 A1255 c1256 r685, .sl (Kd.int .i64) A1245 c1246 r684, .sl (Kd.int .i64) A0 c0 x0, .sl (Kd.int .i64) A1 c1 x1] w1257 := hm1252.back hk1260
                  have hm1262 : Mem [] M w0 [.sl (Kd.int .i64) A1255 c1256 r685, .sl (Kd.int .i64) A1245 c1246 r684, .sl (Kd.int .i64) A0 c0 x0, .sl (Kd.int .i64) A1 c1 x1] w1257 := hm1261.seal 0 _ rfl rfl
                  refine listOf hf1259 rfl (by kernel_rfl) (aCall (fid := 12) (args := [.slice A1245 r684.length c1246, .slice A1255 r685.length c1256]) (d := 51) hf1259 (by kernel_rfl) (by kernel_rfl) callable12 (ref1_SameInts.calls _ _ r684 A1245 r684.length c1246 rfl r685 A1255 r685.length c1256 rfl (hm1262.give [1, 0] [.sl (Kd.int .i64) A1245 c1246 r684, .sl (Kd.int .i64) A1255 c1256 r685] rfl rfl) r686 hr686) ?_)
                  rintro _ w1263 a1264 ⟨rfl, hk1266⟩ hf1265
                  have hm1267 : Mem [] M w0 [.sl (Kd.int .i64) A1255 c1256 r685, .sl (Kd.int .i64) A1245 c1246 r684, .sl (Kd.int .i64) A0 c0 x0, .sl (Kd.int .i64) A1 c1 x1] w1263 := hm1262.still hk1266.cum.none
                  rw [c687] at hf1265
                  refine go 29 [] [6] [(6, .bool false)] [] hf1265 (by kernel_rfl) trivial fun a1268 hf1269 => ?_
                  refine endL rfl ?_
                  have hm1270 : Mem [] M w0 [] w1263 := hm1267.sel [] _ rfl (by kernel_rfl)
                  refine thenN ?_
                  refine wp_ret ?_
                  have hm1271 : Mem [] M w0 [] w1263 := hm1270.sel [] _ rfl (by kernel_rfl)
                  obtain rfl := Option.some.inj H0
                  refine ret [] [.bool false] [] hf1269 (by kernel_rfl) trivial ?_
                  exact ⟨_, rfl, rfl, hm1271⟩
          · refine reg [.bool true, .bool false] [6] [(6, .bool false)] [.is (((r30.1 : Int) == r40.1) = true), .is (((r30.2 : Int) == r40.2) = false)] hf49 (by kernel_rfl) ⟨(eqT c50), (eqF c51), trivial⟩ fun a1273 hf1274 => ?_
            have hm1275 : Mem [] M w0 [] w43 := hm47.sel [] _ rfl (by kernel_rfl)
            refine thenN ?_
            refine wp_ret ?_
            have hm1276 : Mem [] M w0 [] w43 := hm1275.sel [] _ rfl (by kernel_rfl)
            obtain rfl := Option.some.inj H0
            refine ret [] [.bool false] [] hf1274 (by kernel_rfl) trivial ?_
            exact ⟨_, rfl, rfl, hm1276⟩
        · refine reg [.bool false] [6] [(6, .bool false)] [.is (((r30.1 : Int) == r40.1) = false)] hf49 (by kernel_rfl) ⟨(eqF c50), trivial⟩ fun a1278 hf1279 => ?_
          have hm1280 : Mem [] M w0 [] w43 := hm47.sel [] _ rfl (by kernel_rfl)
          refine thenN ?_
          refine wp_ret ?_
          have hm1281 : Mem [] M w0 [] w43 := hm1280.sel [] _ rfl (by kernel_rfl)
          obtain rfl := Option.some.inj H0
          refine ret [] [.bool false] [] hf1279 (by kernel_rfl) trivial ?_
          exact ⟨_, rfl, rfl, hm1281⟩
  · refine inReg ?_
    refine listOf hf2 rfl (by kernel_rfl) (aCall (fid := 9) (args := []) (d := 11) hf2 (by kernel_rfl) (by kernel_rfl) callable9 (law1_awake.calls _ _  (hm0.give [] [] rfl rfl) r3 hr3) ?_)
    rintro _ w1283 a1284 ⟨rfl, hk1286⟩ hf1285
    have hm1287 : Mem [] M w0 [.sl (Kd.int .i64) A0 c0 x0, .sl (Kd.int .i64) A1 c1 x1] w1283 := hm0.still hk1286.cum.none
    rw [c4] at hf1285
    refine go 1 [] [0, 1, 2, 12] [(0, .slice A0 x0.length c0), (1, .slice A1 x1.length c1), (2, .int .i64 x2), (12, .bool true)] [] hf1285 (by kernel_rfl) trivial fun a1288 hf1289 => ?_
    refine endL rfl ?_
    refine thenN ?_
    refine condT hf1289 (by kernel_rfl) ?_
    refine wp_seq ?_
    refine reg [] [6] [(6, .bool false)] [] hf1289 (by kernel_rfl) trivial fun a1290 hf1291 => ?_
    have hm1292 : Mem [] M w0 [] w1283 := hm1287.sel [] _ rfl (by kernel_rfl)
    refine thenN ?_
    refine wp_ret ?_
    refine thenR ?_
    have hm1293 : Mem [] M w0 [] w1283 := hm1292.sel [] _ rfl (by kernel_rfl)
    obtain rfl := Option.some.inj H0
    refine ret [] [.bool false] [] hf1291 (by kernel_rfl) trivial ?_
    exact ⟨_, rfl, rfl, hm1293⟩
end Go.Proofs.Ytgekodhpkhdanaa
