/- Printed by gen.py. -/
import Derived.Test.YtgekodhpkhdanaaF1
namespace Go.Proofs.Ytgekodhpkhdanaa
open Go Go.RowKit
set_option linter.unusedSimpArgs false
set_option linter.unusedVariables false
set_option linter.unnecessarySimpa false
/-! ### backstitch/backstitchlaw1.ShapeSpreads -/
noncomputable def law1_ShapeSpreads.f (x0 : (List Int)) (x1 : (List Int)) : Option Bool :=
  (law1_awake.f).bind fun r3 =>
  if r3 = true then (if 40 < (x0.length : Int) then (some true)
  else (if 40 < (x1.length : Int) then (some true)
  else ((shape_Spread.f x0 x1).bind fun r30 =>
  (ref1_Spread.f x0 x1).bind fun r43 =>
  (shape_Spread.f x1 x0).bind fun r56 =>
  if r30.2 = r43.2 then ((ref1_SameInts.f r30.1 r43.1).bind fun r70 =>
  if r70 = true then (if r30.2 = r56.2 then ((ref1_SameInts.f r30.1 r56.1).bind fun r73 =>
  if r73 = true then ((shape_Into.f x0 x1).bind fun r75 =>
  (ref1_Into.f x0 x1).bind fun r76 =>
  if r75 = true then (if r76 = true then (some true)
  else (some false))
  else (if r76 = true then (some false)
  else (some true)))
  else (some false))
  else (some false))
  else (some false))
  else (some false))))
  else (some false)
set_option maxRecDepth 100000 in
set_option maxHeartbeats 4000000 in
theorem law1_ShapeSpreads.calls (M : List (Option Nat)) (w0 : World) (x0 : (List Int)) (A0 : Option Addr) (n0 c0 : Nat) (e0 : n0 = x0.length) (x1 : (List Int)) (A1 : Option Addr) (n1 c1 : Nat) (e1 : n1 = x1.length) (hm0 : Mem [] M w0 [.sl (Kd.int .i64) A0 c0 x0, .sl (Kd.int .i64) A1 c1 x1] w0) (r : Bool) (H0 : law1_ShapeSpreads.f x0 x1 = some r) :
    Calls Try.prog 3 [.slice A0 n0 c0, .slice A1 n1 c1].toArray w0 (fun x w' => ∃ v, x = .returned v ∧ v = .bool r ∧ Mem [] M w0 [] w') := by
  subst e0
  subst e1
  unfold law1_ShapeSpreads.f at H0
  refine enter (n := 66) Try.func3 rfl rfl (by kernel_rfl) fun a0 (hf0 : Fr 66 a0 [(0, .slice A0 x0.length c0), (1, .slice A1 x1.length c1)]) => ?_
  refine wp_seq ?_
  refine reg [] [0, 1] [(0, .slice A0 x0.length c0), (1, .slice A1 x1.length c1)] [] hf0 (by kernel_rfl) trivial fun a1 hf2 => ?_
  refine thenN ?_
  refine wp_seq ?_
  refine wp_seq ?_
  obtain ⟨r3, hr3, H0⟩ := ob_split H0
  rcases ifb_split H0 with ⟨c4, H0⟩ | ⟨c4, H0⟩
  · refine inReg ?_
    refine listOf hf2 rfl (by kernel_rfl) (aCall (fid := 9) (args := []) (d := 11) hf2 (by kernel_rfl) (by kernel_rfl) callable9 (law1_awake.calls _ _  (hm0.give [] [] rfl rfl) r3 hr3) ?_)
    rintro _ w5 a6 ⟨rfl, hk8⟩ hf7
    have hm9 : Mem [] M w0 [.sl (Kd.int .i64) A0 c0 x0, .sl (Kd.int .i64) A1 c1 x1] w5 := hm0.still hk8.cum.none
    rw [c4] at hf7
    refine go 1 [] [0, 1, 12] [(0, .slice A0 x0.length c0), (1, .slice A1 x1.length c1), (12, .bool false)] [] hf7 (by kernel_rfl) trivial fun a10 hf11 => ?_
    refine endL rfl ?_
    refine thenN ?_
    refine condF hf11 (by kernel_rfl) ?_
    refine wp_skip ?_
    refine thenN ?_
    refine wp_seq ?_
    refine wp_seq ?_
    rcases if_split H0 with ⟨c12, H0⟩ | ⟨c12, H0⟩
    · refine reg [.bool true] [0, 1, 20] [(0, .slice A0 x0.length c0), (1, .slice A1 x1.length c1), (20, .bool true)] [.is (decide (40 < (x0.length : Int)) = true)] hf11 (by kernel_rfl) ⟨(decide_eq_true c12), trivial⟩ fun a13 hf14 => ?_
      refine thenN ?_
      refine condT hf14 (by kernel_rfl) ?_
      refine wp_seq ?_
      refine reg [] [4] [(4, .bool true)] [] hf14 (by kernel_rfl) trivial fun a15 hf16 => ?_
      have hm17 : Mem [] M w0 [] w5 := hm9.sel [] _ rfl (by kernel_rfl)
      refine thenN ?_
      refine wp_ret ?_
      refine thenR ?_
      have hm18 : Mem [] M w0 [] w5 := hm17.sel [] _ rfl (by kernel_rfl)
      obtain rfl := Option.some.inj H0
      refine ret [] [.bool true] [] hf16 (by kernel_rfl) trivial ?_
      exact ⟨_, rfl, rfl, hm18⟩
    · rcases if_split H0 with ⟨c20, H0⟩ | ⟨c20, H0⟩
      · refine reg [.bool false, .bool true] [0, 1, 20] [(0, .slice A0 x0.length c0), (1, .slice A1 x1.length c1), (20, .bool true)] [.is (decide (40 < (x0.length : Int)) = false), .is (decide (40 < (x1.length : Int)) = true)] hf11 (by kernel_rfl) ⟨(decide_eq_false c12), (decide_eq_true c20), trivial⟩ fun a21 hf22 => ?_
        refine thenN ?_
        refine condT hf22 (by kernel_rfl) ?_
        refine wp_seq ?_
        refine reg [] [4] [(4, .bool true)] [] hf22 (by kernel_rfl) trivial fun a23 hf24 => ?_
        have hm25 : Mem [] M w0 [] w5 := hm9.sel [] _ rfl (by kernel_rfl)
        refine thenN ?_
        refine wp_ret ?_
        refine thenR ?_
        have hm26 : Mem [] M w0 [] w5 := hm25.sel [] _ rfl (by kernel_rfl)
        obtain rfl := Option.some.inj H0
        refine ret [] [.bool true] [] hf24 (by kernel_rfl) trivial ?_
        exact ⟨_, rfl, rfl, hm26⟩
      · refine reg [.bool false, .bool false] [0, 1, 20] [(0, .slice A0 x0.length c0), (1, .slice A1 x1.length c1), (20, .bool false)] [.is (decide (40 < (x0.length : Int)) = false), .is (decide (40 < (x1.length : Int)) = false)] hf11 (by kernel_rfl) ⟨(decide_eq_false c12), (decide_eq_false c20), trivial⟩ fun a28 hf29 => ?_
        refine thenN ?_
        refine condF hf29 (by kernel_rfl) ?_
        refine wp_skip ?_
        refine thenN ?_
        refine wp_seq ?_
        obtain ⟨r30, hr30, H0⟩ := ob_split H0
        refine inReg ?_
        refine go 2 [] [0, 1, 22, 23] [(0, .slice A0 x0.length c0), (1, .slice A1 x1.length c1), (22, .slice A0 x0.length c0), (23, .slice A1 x1.length c1)] [] hf29 (by kernel_rfl) trivial fun a31 hf32 => ?_
        refine listOf hf32 rfl (by kernel_rfl) (aCall (fid := 10) (args := [.slice A0 x0.length c0, .slice A1 x1.length c1]) (d := 24) hf32 (by kernel_rfl) (by kernel_rfl) callable10 (shape_Spread.calls _ _ x0 A0 x0.length c0 rfl x1 A1 x1.length c1 rfl (hm9.give [0, 1] [.sl (Kd.int .i64) A0 c0 x0, .sl (Kd.int .i64) A1 c1 x1] rfl rfl) r30 hr30) ?_)
        rintro _ w35 a36 ⟨A33, c34, rfl, hk38⟩ hf37
        have hm39 : Mem [] M w0 [.ow (Kd.int .i64) 3 A33 c34 r30.1, .sl (Kd.int .i64) A0 c0 x0, .sl (Kd.int .i64) A1 c1 x1] w35 := hm9.back hk38
        have hm40 : Mem [] M w0 [.sl (Kd.int .i64) A33 c34 r30.1, .sl (Kd.int .i64) A0 c0 x0, .sl (Kd.int .i64) A1 c1 x1] w35 := hm39.seal 0 _ rfl rfl
        refine go 5 [] [0, 1, 5, 6] [(0, .slice A0 x0.length c0), (1, .slice A1 x1.length c1), (5, .slice A33 r30.1.length c34), (6, .int .i64 r30.2)] [] hf37 (by kernel_rfl) trivial fun a41 hf42 => ?_
        refine endL rfl ?_
        refine thenN ?_
        refine wp_seq ?_
        obtain ⟨r43, hr43, H0⟩ := ob_split H0
        refine inReg ?_
        refine go 2 [] [0, 1, 5, 6, 28, 29] [(0, .slice A0 x0.length c0), (1, .slice A1 x1.length c1), (5, .slice A33 r30.1.length c34), (6, .int .i64 r30.2), (28, .slice A0 x0.length c0), (29, .slice A1 x1.length c1)] [] hf42 (by kernel_rfl) trivial fun a44 hf45 => ?_
        refine listOf hf45 rfl (by kernel_rfl) (aCall (fid := 11) (args := [.slice A0 x0.length c0, .slice A1 x1.length c1]) (d := 30) hf45 (by kernel_rfl) (by kernel_rfl) callable11 (ref1_Spread.calls _ _ x0 A0 x0.length c0 rfl x1 A1 x1.length c1 rfl (hm40.give [1, 2] [.sl (Kd.int .i64) A0 c0 x0, .sl (Kd.int .i64) A1 c1 x1] rfl rfl) r43 hr43) ?_)
        rintro _ w48 a49 ⟨A46, c47, rfl, hk51⟩ hf50
        have hm52 : Mem [] M w0 [.ow (Kd.int .i64) 3 A46 c47 r43.1, .sl (Kd.int .i64) A33 c34 r30.1, .sl (Kd.int .i64) A0 c0 x0, .sl (Kd.int .i64) A1 c1 x1] w48 := hm40.back hk51
        have hm53 : Mem [] M w0 [.sl (Kd.int .i64) A46 c47 r43.1, .sl (Kd.int .i64) A33 c34 r30.1, .sl (Kd.int .i64) A0 c0 x0, .sl (Kd.int .i64) A1 c1 x1] w48 := hm52.seal 0 _ rfl rfl
        refine go 5 [] [0, 1, 5, 6, 7, 8] [(0, .slice A0 x0.length c0), (1, .slice A1 x1.length c1), (5, .slice A33 r30.1.length c34), (6, .int .i64 r30.2), (7, .slice A46 r43.1.length c47), (8, .int .i64 r43.2)] [] hf50 (by kernel_rfl) trivial fun a54 hf55 => ?_
        refine endL rfl ?_
        refine thenN ?_
        refine wp_seq ?_
        obtain ⟨r56, hr56, H0⟩ := ob_split H0
        refine inReg ?_
        refine go 2 [] [0, 1, 5, 6, 7, 8, 34, 35] [(0, .slice A0 x0.length c0), (1, .slice A1 x1.length c1), (5, .slice A33 r30.1.length c34), (6, .int .i64 r30.2), (7, .slice A46 r43.1.length c47), (8, .int .i64 r43.2), (34, .slice A1 x1.length c1), (35, .slice A0 x0.length c0)] [] hf55 (by kernel_rfl) trivial fun a57 hf58 => ?_
        refine listOf hf58 rfl (by kernel_rfl) (aCall (fid := 10) (args := [.slice A1 x1.length c1, .slice A0 x0.length c0]) (d := 36) hf58 (by kernel_rfl) (by kernel_rfl) callable10 (shape_Spread.calls _ _ x1 A1 x1.length c1 rfl x0 A0 x0.length c0 rfl (hm53.give [3, 2] [.sl (Kd.int .i64) A1 c1 x1, .sl (Kd.int .i64) A0 c0 x0] rfl rfl) r56 hr56) ?_)
        rintro _ w61 a62 ⟨A59, c60, rfl, hk64⟩ hf63
        have hm65 : Mem [] M w0 [.ow (Kd.int .i64) 3 A59 c60 r56.1, .sl (Kd.int .i64) A46 c47 r43.1, .sl (Kd.int .i64) A33 c34 r30.1, .sl (Kd.int .i64) A0 c0 x0, .sl (Kd.int .i64) A1 c1 x1] w61 := hm53.back hk64
        have hm66 : Mem [] M w0 [.sl (Kd.int .i64) A59 c60 r56.1, .sl (Kd.int .i64) A46 c47 r43.1, .sl (Kd.int .i64) A33 c34 r30.1, .sl (Kd.int .i64) A0 c0 x0, .sl (Kd.int .i64) A1 c1 x1] w61 := hm65.seal 0 _ rfl rfl
        refine go 5 [] [0, 1, 5, 6, 7, 8, 9, 10] [(0, .slice A0 x0.length c0), (1, .slice A1 x1.length c1), (5, .slice A33 r30.1.length c34), (6, .int .i64 r30.2), (7, .slice A46 r43.1.length c47), (8, .int .i64 r43.2), (9, .slice A59 r56.1.length c60), (10, .int .i64 r56.2)] [] hf63 (by kernel_rfl) trivial fun a67 hf68 => ?_
        refine endL rfl ?_
        refine thenN ?_
        refine wp_seq ?_
        rcases if_split H0 with ⟨c69, H0⟩ | ⟨c69, H0⟩
        · obtain ⟨r70, hr70, H0⟩ := ob_split H0
          rcases ifb_split H0 with ⟨c71, H0⟩ | ⟨c71, H0⟩
          · rcases if_split H0 with ⟨c72, H0⟩ | ⟨c72, H0⟩
            · obtain ⟨r73, hr73, H0⟩ := ob_split H0
              rcases ifb_split H0 with ⟨c74, H0⟩ | ⟨c74, H0⟩
              · obtain ⟨r75, hr75, H0⟩ := ob_split H0
                obtain ⟨r76, hr76, H0⟩ := ob_split H0
                rcases ifb_split H0 with ⟨c77, H0⟩ | ⟨c77, H0⟩
                · rcases ifb_split H0 with ⟨c78, H0⟩ | ⟨c78, H0⟩
                  · refine inReg ?_
                    refine go 6 [.bool true] [0, 1, 5, 6, 9, 10, 42, 43, 44] [(0, .slice A0 x0.length c0), (1, .slice A1 x1.length c1), (5, .slice A33 r30.1.length c34), (6, .int .i64 r30.2), (9, .slice A59 r56.1.length c60), (10, .int .i64 r56.2), (42, .bool true), (43, .slice A33 r30.1.length c34), (44, .slice A46 r43.1.length c47)] [.is (((r30.2 : Int) == r43.2) = true)] hf68 (by kernel_rfl) ⟨(eqT c69), trivial⟩ fun a79 hf80 => ?_
                    refine listOf hf80 rfl (by kernel_rfl) (aCall (fid := 12) (args := [.slice A33 r30.1.length c34, .slice A46 r43.1.length c47]) (d := 45) hf80 (by kernel_rfl) (by kernel_rfl) callable12 (ref1_SameInts.calls _ _ r30.1 A33 r30.1.length c34 rfl r43.1 A46 r43.1.length c47 rfl (hm66.give [2, 1] [.sl (Kd.int .i64) A33 c34 r30.1, .sl (Kd.int .i64) A46 c47 r43.1] rfl rfl) r70 hr70) ?_)
                    rintro _ w81 a82 ⟨rfl, hk84⟩ hf83
                    have hm85 : Mem [] M w0 [.sl (Kd.int .i64) A59 c60 r56.1, .sl (Kd.int .i64) A46 c47 r43.1, .sl (Kd.int .i64) A33 c34 r30.1, .sl (Kd.int .i64) A0 c0 x0, .sl (Kd.int .i64) A1 c1 x1] w81 := hm66.still hk84.cum.none
                    rw [c71] at hf83
                    refine go 9 [.bool true] [0, 1, 52, 53, 54] [(0, .slice A0 x0.length c0), (1, .slice A1 x1.length c1), (52, .bool true), (53, .slice A33 r30.1.length c34), (54, .slice A59 r56.1.length c60)] [.is (((r30.2 : Int) == r56.2) = true)] hf83 (by kernel_rfl) ⟨(eqT c72), trivial⟩ fun a86 hf87 => ?_
                    refine listOf hf87 rfl (by kernel_rfl) (aCall (fid := 12) (args := [.slice A33 r30.1.length c34, .slice A59 r56.1.length c60]) (d := 55) hf87 (by kernel_rfl) (by kernel_rfl) callable12 (ref1_SameInts.calls _ _ r30.1 A33 r30.1.length c34 rfl r56.1 A59 r56.1.length c60 rfl (hm85.give [2, 0] [.sl (Kd.int .i64) A33 c34 r30.1, .sl (Kd.int .i64) A59 c60 r56.1] rfl rfl) r73 hr73) ?_)
                    rintro _ w88 a89 ⟨rfl, hk91⟩ hf90
                    have hm92 : Mem [] M w0 [.sl (Kd.int .i64) A59 c60 r56.1, .sl (Kd.int .i64) A46 c47 r43.1, .sl (Kd.int .i64) A33 c34 r30.1, .sl (Kd.int .i64) A0 c0 x0, .sl (Kd.int .i64) A1 c1 x1] w88 := hm85.still hk91.cum.none
                    rw [c74] at hf90
                    refine go 4 [] [0, 1, 57, 58, 59] [(0, .slice A0 x0.length c0), (1, .slice A1 x1.length c1), (57, .bool true), (58, .slice A0 x0.length c0), (59, .slice A1 x1.length c1)] [] hf90 (by kernel_rfl) trivial fun a93 hf94 => ?_
                    refine listOf hf94 rfl (by kernel_rfl) (aCall (fid := 13) (args := [.slice A0 x0.length c0, .slice A1 x1.length c1]) (d := 60) hf94 (by kernel_rfl) (by kernel_rfl) callable13 (shape_Into.calls _ _ x0 A0 x0.length c0 rfl x1 A1 x1.length c1 rfl (hm92.give [3, 4] [.sl (Kd.int .i64) A0 c0 x0, .sl (Kd.int .i64) A1 c1 x1] rfl rfl) r75 hr75) ?_)
                    rintro _ w95 a96 ⟨rfl, hk98⟩ hf97
                    have hm99 : Mem [] M w0 [.sl (Kd.int .i64) A59 c60 r56.1, .sl (Kd.int .i64) A46 c47 r43.1, .sl (Kd.int .i64) A33 c34 r30.1, .sl (Kd.int .i64) A0 c0 x0, .sl (Kd.int .i64) A1 c1 x1] w95 := hm92.still hk98.cum.none
                    rw [c77] at hf97
                    refine go 2 [] [57, 60, 61, 62] [(57, .bool true), (60, .bool true), (61, .slice A0 x0.length c0), (62, .slice A1 x1.length c1)] [] hf97 (by kernel_rfl) trivial fun a100 hf101 => ?_
                    refine listOf hf101 rfl (by kernel_rfl) (aCall (fid := 14) (args := [.slice A0 x0.length c0, .slice A1 x1.length c1]) (d := 63) hf101 (by kernel_rfl) (by kernel_rfl) callable14 (ref1_Into.calls _ _ x0 A0 x0.length c0 rfl x1 A1 x1.length c1 rfl (hm99.give [3, 4] [.sl (Kd.int .i64) A0 c0 x0, .sl (Kd.int .i64) A1 c1 x1] rfl rfl) r76 hr76) ?_)
                    rintro _ w102 a103 ⟨rfl, hk105⟩ hf104
                    have hm106 : Mem [] M w0 [.sl (Kd.int .i64) A59 c60 r56.1, .sl (Kd.int .i64) A46 c47 r43.1, .sl (Kd.int .i64) A33 c34 r30.1, .sl (Kd.int .i64) A0 c0 x0, .sl (Kd.int .i64) A1 c1 x1] w102 := hm99.still hk105.cum.none
                    rw [c78] at hf104
                    refine go 3 [] [4] [(4, .bool true)] [] hf104 (by kernel_rfl) trivial fun a107 hf108 => ?_
                    refine endL rfl ?_
                    have hm109 : Mem [] M w0 [] w102 := hm106.sel [] _ rfl (by kernel_rfl)
                    refine thenN ?_
                    refine wp_ret ?_
                    have hm110 : Mem [] M w0 [] w102 := hm109.sel [] _ rfl (by kernel_rfl)
                    obtain rfl := Option.some.inj H0
                    refine ret [] [.bool true] [] hf108 (by kernel_rfl) trivial ?_
                    exact ⟨_, rfl, rfl, hm110⟩
                  · refine inReg ?_
                    refine go 6 [.bool true] [0, 1, 5, 6, 9, 10, 42, 43, 44] [(0, .slice A0 x0.length c0), (1, .slice A1 x1.length c1), (5, .slice A33 r30.1.length c34), (6, .int .i64 r30.2), (9, .slice A59 r56.1.length c60), (10, .int .i64 r56.2), (42, .bool true), (43, .slice A33 r30.1.length c34), (44, .slice A46 r43.1.length c47)] [.is (((r30.2 : Int) == r43.2) = true)] hf68 (by kernel_rfl) ⟨(eqT c69), trivial⟩ fun a112 hf113 => ?_
                    refine listOf hf113 rfl (by kernel_rfl) (aCall (fid := 12) (args := [.slice A33 r30.1.length c34, .slice A46 r43.1.length c47]) (d := 45) hf113 (by kernel_rfl) (by kernel_rfl) callable12 (ref1_SameInts.calls _ _ r30.1 A33 r30.1.length c34 rfl r43.1 A46 r43.1.length c47 rfl (hm66.give [2, 1] [.sl (Kd.int .i64) A33 c34 r30.1, .sl (Kd.int .i64) A46 c47 r43.1] rfl rfl) r70 hr70) ?_)
                    rintro _ w114 a115 ⟨rfl, hk117⟩ hf116
                    have hm118 : Mem [] M w0 [.sl (Kd.int .i64) A59 c60 r56.1, .sl (Kd.int .i64) A46 c47 r43.1, .sl (Kd.int .i64) A33 c34 r30.1, .sl (Kd.int .i64) A0 c0 x0, .sl (Kd.int .i64) A1 c1 x1] w114 := hm66.still hk117.cum.none
                    rw [c71] at hf116
                    refine go 9 [.bool true] [0, 1, 52, 53, 54] [(0, .slice A0 x0.length c0), (1, .slice A1 x1.length c1), (52, .bool true), (53, .slice A33 r30.1.length c34), (54, .slice A59 r56.1.length c60)] [.is (((r30.2 : Int) == r56.2) = true)] hf116 (by kernel_rfl) ⟨(eqT c72), trivial⟩ fun a119 hf120 => ?_
                    refine listOf hf120 rfl (by kernel_rfl) (aCall (fid := 12) (args := [.slice A33 r30.1.length c34, .slice A59 r56.1.length c60]) (d := 55) hf120 (by kernel_rfl) (by kernel_rfl) callable12 (ref1_SameInts.calls _ _ r30.1 A33 r30.1.length c34 rfl r56.1 A59 r56.1.length c60 rfl (hm118.give [2, 0] [.sl (Kd.int .i64) A33 c34 r30.1, .sl (Kd.int .i64) A59 c60 r56.1] rfl rfl) r73 hr73) ?_)
                    rintro _ w121 a122 ⟨rfl, hk124⟩ hf123
                    have hm125 : Mem [] M w0 [.sl (Kd.int .i64) A59 c60 r56.1, .sl (Kd.int .i64) A46 c47 r43.1, .sl (Kd.int .i64) A33 c34 r30.1, .sl (Kd.int .i64) A0 c0 x0, .sl (Kd.int .i64) A1 c1 x1] w121 := hm118.still hk124.cum.none
                    rw [c74] at hf123
                    refine go 4 [] [0, 1, 57, 58, 59] [(0, .slice A0 x0.length c0), (1, .slice A1 x1.length c1), (57, .bool true), (58, .slice A0 x0.length c0), (59, .slice A1 x1.length c1)] [] hf123 (by kernel_rfl) trivial fun a126 hf127 => ?_
                    refine listOf hf127 rfl (by kernel_rfl) (aCall (fid := 13) (args := [.slice A0 x0.length c0, .slice A1 x1.length c1]) (d := 60) hf127 (by kernel_rfl) (by kernel_rfl) callable13 (shape_Into.calls _ _ x0 A0 x0.length c0 rfl x1 A1 x1.length c1 rfl (hm125.give [3, 4] [.sl (Kd.int .i64) A0 c0 x0, .sl (Kd.int .i64) A1 c1 x1] rfl rfl) r75 hr75) ?_)
                    rintro _ w128 a129 ⟨rfl, hk131⟩ hf130
                    have hm132 : Mem [] M w0 [.sl (Kd.int .i64) A59 c60 r56.1, .sl (Kd.int .i64) A46 c47 r43.1, .sl (Kd.int .i64) A33 c34 r30.1, .sl (Kd.int .i64) A0 c0 x0, .sl (Kd.int .i64) A1 c1 x1] w128 := hm125.still hk131.cum.none
                    rw [c77] at hf130
                    refine go 2 [] [57, 60, 61, 62] [(57, .bool true), (60, .bool true), (61, .slice A0 x0.length c0), (62, .slice A1 x1.length c1)] [] hf130 (by kernel_rfl) trivial fun a133 hf134 => ?_
                    refine listOf hf134 rfl (by kernel_rfl) (aCall (fid := 14) (args := [.slice A0 x0.length c0, .slice A1 x1.length c1]) (d := 63) hf134 (by kernel_rfl) (by kernel_rfl) callable14 (ref1_Into.calls _ _ x0 A0 x0.length c0 rfl x1 A1 x1.length c1 rfl (hm132.give [3, 4] [.sl (Kd.int .i64) A0 c0 x0, .sl (Kd.int .i64) A1 c1 x1] rfl rfl) r76 hr76) ?_)
                    rintro _ w135 a136 ⟨rfl, hk138⟩ hf137
                    have hm139 : Mem [] M w0 [.sl (Kd.int .i64) A59 c60 r56.1, .sl (Kd.int .i64) A46 c47 r43.1, .sl (Kd.int .i64) A33 c34 r30.1, .sl (Kd.int .i64) A0 c0 x0, .sl (Kd.int .i64) A1 c1 x1] w135 := hm132.still hk138.cum.none
                    rw [c78] at hf137
                    refine go 3 [] [4] [(4, .bool false)] [] hf137 (by kernel_rfl) trivial fun a140 hf141 => ?_
                    refine endL rfl ?_
                    have hm142 : Mem [] M w0 [] w135 := hm139.sel [] _ rfl (by kernel_rfl)
                    refine thenN ?_
                    refine wp_ret ?_
                    have hm143 : Mem [] M w0 [] w135 := hm142.sel [] _ rfl (by kernel_rfl)
                    obtain rfl := Option.some.inj H0
                    refine ret [] [.bool false] [] hf141 (by kernel_rfl) trivial ?_
                    exact ⟨_, rfl, rfl, hm143⟩
                · rcases ifb_split H0 with ⟨c145, H0⟩ | ⟨c145, H0⟩
                  · refine inReg ?_
                    refine go 6 [.bool true] [0, 1, 5, 6, 9, 10, 42, 43, 44] [(0, .slice A0 x0.length c0), (1, .slice A1 x1.length c1), (5, .slice A33 r30.1.length c34), (6, .int .i64 r30.2), (9, .slice A59 r56.1.length c60), (10, .int .i64 r56.2), (42, .bool true), (43, .slice A33 r30.1.length c34), (44, .slice A46 r43.1.length c47)] [.is (((r30.2 : Int) == r43.2) = true)] hf68 (by kernel_rfl) ⟨(eqT c69), trivial⟩ fun a146 hf147 => ?_
                    refine listOf hf147 rfl (by kernel_rfl) (aCall (fid := 12) (args := [.slice A33 r30.1.length c34, .slice A46 r43.1.length c47]) (d := 45) hf147 (by kernel_rfl) (by kernel_rfl) callable12 (ref1_SameInts.calls _ _ r30.1 A33 r30.1.length c34 rfl r43.1 A46 r43.1.length c47 rfl (hm66.give [2, 1] [.sl (Kd.int .i64) A33 c34 r30.1, .sl (Kd.int .i64) A46 c47 r43.1] rfl rfl) r70 hr70) ?_)
                    rintro _ w148 a149 ⟨rfl, hk151⟩ hf150
                    have hm152 : Mem [] M w0 [.sl (Kd.int .i64) A59 c60 r56.1, .sl (Kd.int .i64) A46 c47 r43.1, .sl (Kd.int .i64) A33 c34 r30.1, .sl (Kd.int .i64) A0 c0 x0, .sl (Kd.int .i64) A1 c1 x1] w148 := hm66.still hk151.cum.none
                    rw [c71] at hf150
                    refine go 9 [.bool true] [0, 1, 52, 53, 54] [(0, .slice A0 x0.length c0), (1, .slice A1 x1.length c1), (52, .bool true), (53, .slice A33 r30.1.length c34), (54, .slice A59 r56.1.length c60)] [.is (((r30.2 : Int) == r56.2) = true)] hf150 (by kernel_rfl) ⟨(eqT c72), trivial⟩ fun a153 hf154 => ?_
                    refine listOf hf154 rfl (by kernel_rfl) (aCall (fid := 12) (args := [.slice A33 r30.1.length c34, .slice A59 r56.1.length c60]) (d := 55) hf154 (by kernel_rfl) (by kernel_rfl) callable12 (ref1_SameInts.calls _ _ r30.1 A33 r30.1.length c34 rfl r56.1 A59 r56.1.length c60 rfl (hm152.give [2, 0] [.sl (Kd.int .i64) A33 c34 r30.1, .sl (Kd.int .i64) A59 c60 r56.1] rfl rfl) r73 hr73) ?_)
                    rintro _ w155 a156 ⟨rfl, hk158⟩ hf157
                    have hm159 : Mem [] M w0 [.sl (Kd.int .i64) A59 c60 r56.1, .sl (Kd.int .i64) A46 c47 r43.1, .sl (Kd.int .i64) A33 c34 r30.1, .sl (Kd.int .i64) A0 c0 x0, .sl (Kd.int .i64) A1 c1 x1] w155 := hm152.still hk158.cum.none
                    rw [c74] at hf157
                    refine go 4 [] [0, 1, 57, 58, 59] [(0, .slice A0 x0.length c0), (1, .slice A1 x1.length c1), (57, .bool true), (58, .slice A0 x0.length c0), (59, .slice A1 x1.length c1)] [] hf157 (by kernel_rfl) trivial fun a160 hf161 => ?_
                    refine listOf hf161 rfl (by kernel_rfl) (aCall (fid := 13) (args := [.slice A0 x0.length c0, .slice A1 x1.length c1]) (d := 60) hf161 (by kernel_rfl) (by kernel_rfl) callable13 (shape_Into.calls _ _ x0 A0 x0.length c0 rfl x1 A1 x1.length c1 rfl (hm159.give [3, 4] [.sl (Kd.int .i64) A0 c0 x0, .sl (Kd.int .i64) A1 c1 x1] rfl rfl) r75 hr75) ?_)
                    rintro _ w162 a163 ⟨rfl, hk165⟩ hf164
                    have hm166 : Mem [] M w0 [.sl (Kd.int .i64) A59 c60 r56.1, .sl (Kd.int .i64) A46 c47 r43.1, .sl (Kd.int .i64) A33 c34 r30.1, .sl (Kd.int .i64) A0 c0 x0, .sl (Kd.int .i64) A1 c1 x1] w162 := hm159.still hk165.cum.none
                    rw [c77] at hf164
                    refine go 2 [] [57, 60, 61, 62] [(57, .bool true), (60, .bool false), (61, .slice A0 x0.length c0), (62, .slice A1 x1.length c1)] [] hf164 (by kernel_rfl) trivial fun a167 hf168 => ?_
                    refine listOf hf168 rfl (by kernel_rfl) (aCall (fid := 14) (args := [.slice A0 x0.length c0, .slice A1 x1.length c1]) (d := 63) hf168 (by kernel_rfl) (by kernel_rfl) callable14 (ref1_Into.calls _ _ x0 A0 x0.length c0 rfl x1 A1 x1.length c1 rfl (hm166.give [3, 4] [.sl (Kd.int .i64) A0 c0 x0, .sl (Kd.int .i64) A1 c1 x1] rfl rfl) r76 hr76) ?_)
                    rintro _ w169 a170 ⟨rfl, hk172⟩ hf171
                    have hm173 : Mem [] M w0 [.sl (Kd.int .i64) A59 c60 r56.1, .sl (Kd.int .i64) A46 c47 r43.1, .sl (Kd.int .i64) A33 c34 r30.1, .sl (Kd.int .i64) A0 c0 x0, .sl (Kd.int .i64) A1 c1 x1] w169 := hm166.still hk172.cum.none
                    rw [c145] at hf171
                    refine go 3 [] [4] [(4, .bool false)] [] hf171 (by kernel_rfl) trivial fun a174 hf175 => ?_
                    refine endL rfl ?_
                    have hm176 : Mem [] M w0 [] w169 := hm173.sel [] _ rfl (by kernel_rfl)
                    refine thenN ?_
                    refine wp_ret ?_
                    have hm177 : Mem [] M w0 [] w169 := hm176.sel [] _ rfl (by kernel_rfl)
                    obtain rfl := Option.some.inj H0
                    refine ret [] [.bool false] [] hf175 (by kernel_rfl) trivial ?_
                    exact ⟨_, rfl, rfl, hm177⟩
                  · refine inReg ?_
                    refine go 6 [.bool true] [0, 1, 5, 6, 9, 10, 42, 43, 44] [(0, .slice A0 x0.length c0), (1, .slice A1 x1.length c1), (5, .slice A33 r30.1.length c34), (6, .int .i64 r30.2), (9, .slice A59 r56.1.length c60), (10, .int .i64 r56.2), (42, .bool true), (43, .slice A33 r30.1.length c34), (44, .slice A46 r43.1.length c47)] [.is (((r30.2 : Int) == r43.2) = true)] hf68 (by kernel_rfl) ⟨(eqT c69), trivial⟩ fun a179 hf180 => ?_
                    refine listOf hf180 rfl (by kernel_rfl) (aCall (fid := 12) (args := [.slice A33 r30.1.length c34, .slice A46 r43.1.length c47]) (d := 45) hf180 (by kernel_rfl) (by kernel_rfl) callable12 (ref1_SameInts.calls _ _ r30.1 A33 r30.1.length c34 rfl r43.1 A46 r43.1.length c47 rfl (hm66.give [2, 1] [.sl (Kd.int .i64) A33 c34 r30.1, .sl (Kd.int .i64) A46 c47 r43.1] rfl rfl) r70 hr70) ?_)
                    rintro _ w181 a182 ⟨rfl, hk184⟩ hf183
                    have hm185 : Mem [] M w0 [.sl (Kd.int .i64) A59 c60 r56.1, .sl (Kd.int .i64) A46 c47 r43.1, .sl (Kd.int .i64) A33 c34 r30.1, .sl (Kd.int .i64) A0 c0 x0, .sl (Kd.int .i64) A1 c1 x1] w181 := hm66.still hk184.cum.none
                    rw [c71] at hf183
                    refine go 9 [.bool true] [0, 1, 52, 53, 54] [(0, .slice A0 x0.length c0), (1, .slice A1 x1.length c1), (52, .bool true), (53, .slice A33 r30.1.length c34), (54, .slice A59 r56.1.length c60)] [.is (((r30.2 : Int) == r56.2) = true)] hf183 (by kernel_rfl) ⟨(eqT c72), trivial⟩ fun a186 hf187 => ?_
                    refine listOf hf187 rfl (by kernel_rfl) (aCall (fid := 12) (args := [.slice A33 r30.1.length c34, .slice A59 r56.1.length c60]) (d := 55) hf187 (by kernel_rfl) (by kernel_rfl) callable12 (ref1_SameInts.calls _ _ r30.1 A33 r30.1.length c34 rfl r56.1 A59 r56.1.length c60 rfl (hm185.give [2, 0] [.sl (Kd.int .i64) A33 c34 r30.1, .sl (Kd.int .i64) A59 c60 r56.1] rfl rfl) r73 hr73) ?_)
                    rintro _ w188 a189 ⟨rfl, hk191⟩ hf190
                    have hm192 : Mem [] M w0 [.sl (Kd.int .i64) A59 c60 r56.1, .sl (Kd.int .i64) A46 c47 r43.1, .sl (Kd.int .i64) A33 c34 r30.1, .sl (Kd.int .i64) A0 c0 x0, .sl (Kd.int .i64) A1 c1 x1] w188 := hm185.still hk191.cum.none
                    rw [c74] at hf190
                    refine go 4 [] [0, 1, 57, 58, 59] [(0, .slice A0 x0.length c0), (1, .slice A1 x1.length c1), (57, .bool true), (58, .slice A0 x0.length c0), (59, .slice A1 x1.length c1)] [] hf190 (by kernel_rfl) trivial fun a193 hf194 => ?_
                    refine listOf hf194 rfl (by kernel_rfl) (aCall (fid := 13) (args := [.slice A0 x0.length c0, .slice A1 x1.length c1]) (d := 60) hf194 (by kernel_rfl) (by kernel_rfl) callable13 (shape_Into.calls _ _ x0 A0 x0.length c0 rfl x1 A1 x1.length c1 rfl (hm192.give [3, 4] [.sl (Kd.int .i64) A0 c0 x0, .sl (Kd.int .i64) A1 c1 x1] rfl rfl) r75 hr75) ?_)
                    rintro _ w195 a196 ⟨rfl, hk198⟩ hf197
                    have hm199 : Mem [] M w0 [.sl (Kd.int .i64) A59 c60 r56.1, .sl (Kd.int .i64) A46 c47 r43.1, .sl (Kd.int .i64) A33 c34 r30.1, .sl (Kd.int .i64) A0 c0 x0, .sl (Kd.int .i64) A1 c1 x1] w195 := hm192.still hk198.cum.none
                    rw [c77] at hf197
                    refine go 2 [] [57, 60, 61, 62] [(57, .bool true), (60, .bool false), (61, .slice A0 x0.length c0), (62, .slice A1 x1.length c1)] [] hf197 (by kernel_rfl) trivial fun a200 hf201 => ?_
                    refine listOf hf201 rfl (by kernel_rfl) (aCall (fid := 14) (args := [.slice A0 x0.length c0, .slice A1 x1.length c1]) (d := 63) hf201 (by kernel_rfl) (by kernel_rfl) callable14 (ref1_Into.calls _ _ x0 A0 x0.length c0 rfl x1 A1 x1.length c1 rfl (hm199.give [3, 4] [.sl (Kd.int .i64) A0 c0 x0, .sl (Kd.int .i64) A1 c1 x1] rfl rfl) r76 hr76) ?_)
                    rintro _ w202 a203 ⟨rfl, hk205⟩ hf204
                    have hm206 : Mem [] M w0 [.sl (Kd.int .i64) A59 c60 r56.1, .sl (Kd.int .i64) A46 c47 r43.1, .sl (Kd.int .i64) A33 c34 r30.1, .sl (Kd.int .i64) A0 c0 x0, .sl (Kd.int .i64) A1 c1 x1] w202 := hm199.still hk205.cum.none
                    rw [c145] at hf204
                    refine go 3 [] [4] [(4, .bool true)] [] hf204 (by kernel_rfl) trivial fun a207 hf208 => ?_
                    refine endL rfl ?_
                    have hm209 : Mem [] M w0 [] w202 := hm206.sel [] _ rfl (by kernel_rfl)
                    refine thenN ?_
                    refine wp_ret ?_
                    have hm210 : Mem [] M w0 [] w202 := hm209.sel [] _ rfl (by kernel_rfl)
                    obtain rfl := Option.some.inj H0
                    refine ret [] [.bool true] [] hf208 (by kernel_rfl) trivial ?_
                    exact ⟨_, rfl, rfl, hm210⟩
              · refine inReg ?_
                refine go 6 [.bool true] [0, 1, 5, 6, 9, 10, 42, 43, 44] [(0, .slice A0 x0.length c0), (1, .slice A1 x1.length c1), (5, .slice A33 r30.1.length c34), (6, .int .i64 r30.2), (9, .slice A59 r56.1.length c60), (10, .int .i64 r56.2), (42, .bool true), (43, .slice A33 r30.1.length c34), (44, .slice A46 r43.1.length c47)] [.is (((r30.2 : Int) == r43.2) = true)] hf68 (by kernel_rfl) ⟨(eqT c69), trivial⟩ fun a212 hf213 => ?_
                refine listOf hf213 rfl (by kernel_rfl) (aCall (fid := 12) (args := [.slice A33 r30.1.length c34, .slice A46 r43.1.length c47]) (d := 45) hf213 (by kernel_rfl) (by kernel_rfl) callable12 (ref1_SameInts.calls _ _ r30.1 A33 r30.1.length c34 rfl r43.1 A46 r43.1.length c47 rfl (hm66.give [2, 1] [.sl (Kd.int .i64) A33 c34 r30.1, .sl (Kd.int .i64) A46 c47 r43.1] rfl rfl) r70 hr70) ?_)
                rintro _ w214 a215 ⟨rfl, hk217⟩ hf216
                have hm218 : Mem [] M w0 [.sl (Kd.int .i64) A59 c60 r56.1, .sl (Kd.int .i64) A46 c47 r43.1, .sl (Kd.int .i64) A33 c34 r30.1, .sl (Kd.int .i64) A0 c0 x0, .sl (Kd.int .i64) A1 c1 x1] w214 := hm66.still hk217.cum.none
                rw [c71] at hf216
                refine go 9 [.bool true] [0, 1, 52, 53, 54] [(0, .slice A0 x0.length c0), (1, .slice A1 x1.length c1), (52, .bool true), (53, .slice A33 r30.1.length c34), (54, .slice A59 r56.1.length c60)] [.is (((r30.2 : Int) == r56.2) = true)] hf216 (by kernel_rfl) ⟨(eqT c72), trivial⟩ fun a219 hf220 => ?_
                refine listOf hf220 rfl (by kernel_rfl) (aCall (fid := 12) (args := [.slice A33 r30.1.length c34, .slice A59 r56.1.length c60]) (d := 55) hf220 (by kernel_rfl) (by kernel_rfl) callable12 (ref1_SameInts.calls _ _ r30.1 A33 r30.1.length c34 rfl r56.1 A59 r56.1.length c60 rfl (hm218.give [2, 0] [.sl (Kd.int .i64) A33 c34 r30.1, .sl (Kd.int .i64) A59 c60 r56.1] rfl rfl) r73 hr73) ?_)
                rintro _ w221 a222 ⟨rfl, hk224⟩ hf223
                have hm225 : Mem [] M w0 [.sl (Kd.int .i64) A59 c60 r56.1, .sl (Kd.int .i64) A46 c47 r43.1, .sl (Kd.int .i64) A33 c34 r30.1, .sl (Kd.int .i64) A0 c0 x0, .sl (Kd.int .i64) A1 c1 x1] w221 := hm218.still hk224.cum.none
                rw [c74] at hf223
                refine go 11 [] [4] [(4, .bool false)] [] hf223 (by kernel_rfl) trivial fun a226 hf227 => ?_
                refine endL rfl ?_
                have hm228 : Mem [] M w0 [] w221 := hm225.sel [] _ rfl (by kernel_rfl)
                refine thenN ?_
                refine wp_ret ?_
                have hm229 : Mem [] M w0 [] w221 := hm228.sel [] _ rfl (by kernel_rfl)
                obtain rfl := Option.some.inj H0
                refine ret [] [.bool false] [] hf227 (by kernel_rfl) trivial ?_
                exact ⟨_, rfl, rfl, hm229⟩
            · refine inReg ?_
              refine go 6 [.bool true] [0, 1, 5, 6, 9, 10, 42, 43, 44] [(0, .slice A0 x0.length c0), (1, .slice A1 x1.length c1), (5, .slice A33 r30.1.length c34), (6, .int .i64 r30.2), (9, .slice A59 r56.1.length c60), (10, .int .i64 r56.2), (42, .bool true), (43, .slice A33 r30.1.length c34), (44, .slice A46 r43.1.length c47)] [.is (((r30.2 : Int) == r43.2) = true)] hf68 (by kernel_rfl) ⟨(eqT c69), trivial⟩ fun a231 hf232 => ?_
              refine listOf hf232 rfl (by kernel_rfl) (aCall (fid := 12) (args := [.slice A33 r30.1.length c34, .slice A46 r43.1.length c47]) (d := 45) hf232 (by kernel_rfl) (by kernel_rfl) callable12 (ref1_SameInts.calls _ _ r30.1 A33 r30.1.length c34 rfl r43.1 A46 r43.1.length c47 rfl (hm66.give [2, 1] [.sl (Kd.int .i64) A33 c34 r30.1, .sl (Kd.int .i64) A46 c47 r43.1] rfl rfl) r70 hr70) ?_)
              rintro _ w233 a234 ⟨rfl, hk236⟩ hf235
              have hm237 : Mem [] M w0 [.sl (Kd.int .i64) A59 c60 r56.1, .sl (Kd.int .i64) A46 c47 r43.1, .sl (Kd.int .i64) A33 c34 r30.1, .sl (Kd.int .i64) A0 c0 x0, .sl (Kd.int .i64) A1 c1 x1] w233 := hm66.still hk236.cum.none
              rw [c71] at hf235
              refine go 21 [.bool false] [4] [(4, .bool false)] [.is (((r30.2 : Int) == r56.2) = false)] hf235 (by kernel_rfl) ⟨(eqF c72), trivial⟩ fun a238 hf239 => ?_
              refine endL rfl ?_
              have hm240 : Mem [] M w0 [] w233 := hm237.sel [] _ rfl (by kernel_rfl)
              refine thenN ?_
              refine wp_ret ?_
              have hm241 : Mem [] M w0 [] w233 := hm240.sel [] _ rfl (by kernel_rfl)
              obtain rfl := Option.some.inj H0
              refine ret [] [.bool false] [] hf239 (by kernel_rfl) trivial ?_
              exact ⟨_, rfl, rfl, hm241⟩
          · refine inReg ?_
            refine go 6 [.bool true] [0, 1, 5, 6, 9, 10, 42, 43, 44] [(0, .slice A0 x0.length c0), (1, .slice A1 x1.length c1), (5, .slice A33 r30.1.length c34), (6, .int .i64 r30.2), (9, .slice A59 r56.1.length c60), (10, .int .i64 r56.2), (42, .bool true), (43, .slice A33 r30.1.length c34), (44, .slice A46 r43.1.length c47)] [.is (((r30.2 : Int) == r43.2) = true)] hf68 (by kernel_rfl) ⟨(eqT c69), trivial⟩ fun a243 hf244 => ?_
            refine listOf hf244 rfl (by kernel_rfl) (aCall (fid := 12) (args := [.slice A33 r30.1.length c34, .slice A46 r43.1.length c47]) (d := 45) hf244 (by kernel_rfl) (by kernel_rfl) callable12 (ref1_SameInts.calls _ _ r30.1 A33 r30.1.length c34 rfl r43.1 A46 r43.1.length c47 rfl (hm66.give [2, 1] [.sl (Kd.int .i64) A33 c34 r30.1, .sl (Kd.int .i64) A46 c47 r43.1] rfl rfl) r70 hr70) ?_)
            rintro _ w245 a246 ⟨rfl, hk248⟩ hf247
            have hm249 : Mem [] M w0 [.sl (Kd.int .i64) A59 c60 r56.1, .sl (Kd.int .i64) A46 c47 r43.1, .sl (Kd.int .i64) A33 c34 r30.1, .sl (Kd.int .i64) A0 c0 x0, .sl (Kd.int .i64) A1 c1 x1] w245 := hm66.still hk248.cum.none
            rw [c71] at hf247
            refine go 21 [] [4] [(4, .bool false)] [] hf247 (by kernel_rfl) trivial fun a250 hf251 => ?_
            refine endL rfl ?_
            have hm252 : Mem [] M w0 [] w245 := hm249.sel [] _ rfl (by kernel_rfl)
            refine thenN ?_
            refine wp_ret ?_
            have hm253 : Mem [] M w0 [] w245 := hm252.sel [] _ rfl (by kernel_rfl)
            obtain rfl := Option.some.inj H0
            refine ret [] [.bool false] [] hf251 (by kernel_rfl) trivial ?_
            exact ⟨_, rfl, rfl, hm253⟩
        · refine reg [.bool false] [4] [(4, .bool false)] [.is (((r30.2 : Int) == r43.2) = false)] hf68 (by kernel_rfl) ⟨(eqF c69), trivial⟩ fun a255 hf256 => ?_
          have hm257 : Mem [] M w0 [] w61 := hm66.sel [] _ rfl (by kernel_rfl)
          refine thenN ?_
          refine wp_ret ?_
          have hm258 : Mem [] M w0 [] w61 := hm257.sel [] _ rfl (by kernel_rfl)
          obtain rfl := Option.some.inj H0
          refine ret [] [.bool false] [] hf256 (by kernel_rfl) trivial ?_
          exact ⟨_, rfl, rfl, hm258⟩
  · refine inReg ?_
    refine listOf hf2 rfl (by kernel_rfl) (aCall (fid := 9) (args := []) (d := 11) hf2 (by kernel_rfl) (by kernel_rfl) callable9 (law1_awake.calls _ _  (hm0.give [] [] rfl rfl) r3 hr3) ?_)
    rintro _ w260 a261 ⟨rfl, hk263⟩ hf262
    have hm264 : Mem [] M w0 [.sl (Kd.int .i64) A0 c0 x0, .sl (Kd.int .i64) A1 c1 x1] w260 := hm0.still hk263.cum.none
    rw [c4] at hf262
    refine go 1 [] [0, 1, 12] [(0, .slice A0 x0.length c0), (1, .slice A1 x1.length c1), (12, .bool true)] [] hf262 (by kernel_rfl) trivial fun a265 hf266 => ?_
    refine endL rfl ?_
    refine thenN ?_
    refine condT hf266 (by kernel_rfl) ?_
    refine wp_seq ?_
    refine reg [] [4] [(4, .bool false)] [] hf266 (by kernel_rfl) trivial fun a267 hf268 => ?_
    have hm269 : Mem [] M w0 [] w260 := hm264.sel [] _ rfl (by kernel_rfl)
    refine thenN ?_
    refine wp_ret ?_
    refine thenR ?_
    have hm270 : Mem [] M w0 [] w260 := hm269.sel [] _ rfl (by kernel_rfl)
    obtain rfl := Option.some.inj H0
    refine ret [] [.bool false] [] hf268 (by kernel_rfl) trivial ?_
    exact ⟨_, rfl, rfl, hm270⟩
end Go.Proofs.Ytgekodhpkhdanaa
