/- Printed by gen.py. -/
import Derived.Test.YtgekodhpkhdanaaF1
namespace Go.Proofs.Ytgekodhpkhdanaa
open Go Go.RowKit
set_option linter.unusedSimpArgs false
set_option linter.unusedVariables false
set_option linter.unnecessarySimpa false
/-! ### backstitch/backstitchlaw1.ShapeThree -/
noncomputable def law1_ShapeThree.f (x0 : (List Int)) (x1 : (List Int)) (x2 : (List Int)) : Option Bool :=
  (law1_awake.f).bind fun r3 =>
  if r3 = true then (if 40 < (x0.length : Int) then (some true)
  else (if 40 < (x1.length : Int) then (some true)
  else (if 40 < (x2.length : Int) then (some true)
  else ((shape_Spread.f x0 x1).bind fun r38 =>
  (shape_Spread.f x1 x2).bind fun r51 =>
  if r38.2 = 0 then (if r51.2 = 0 then ((shape_Spread.f r38.1 x2).bind fun r68 =>
  (shape_Spread.f x0 r51.1).bind fun r82 =>
  if r68.2 = 0 then (if r82.2 = 0 then ((shape_Same.f r68.1 r82.1).bind fun r98 =>
  if r98 = true then ((shape_Into.f x0 r68.1).bind fun r100 =>
  if r100 = true then ((shape_Into.f x1 r68.1).bind fun r102 =>
  if r102 = true then ((shape_Into.f x2 r68.1).bind fun r104 =>
  some r104)
  else (some false))
  else (some false))
  else (some false))
  else (some false))
  else (if r82.2 = 0 then (some false)
  else ((shape_Same.f r68.1 r82.1).bind fun r206 =>
  if r206 = true then (some true)
  else (some false))))
  else (some true))
  else (some true)))))
  else (some false)
set_option maxRecDepth 100000 in
set_option maxHeartbeats 4000000 in
theorem law1_ShapeThree.calls (M : List (Option Nat)) (w0 : World) (x0 : (List Int)) (A0 : Option Addr) (n0 c0 : Nat) (e0 : n0 = x0.length) (x1 : (List Int)) (A1 : Option Addr) (n1 c1 : Nat) (e1 : n1 = x1.length) (x2 : (List Int)) (A2 : Option Addr) (n2 c2 : Nat) (e2 : n2 = x2.length) (hm0 : Mem [] M w0 [.sl (Kd.int .i64) A0 c0 x0, .sl (Kd.int .i64) A1 c1 x1, .sl (Kd.int .i64) A2 c2 x2] w0) (r : Bool) (H0 : law1_ShapeThree.f x0 x1 x2 = some r) :
    Calls Try.prog 5 [.slice A0 n0 c0, .slice A1 n1 c1, .slice A2 n2 c2].toArray w0 (fun x w' => ∃ v, x = .returned v ∧ v = .bool r ∧ Mem [] M w0 [] w') := by
  subst e0
  subst e1
  subst e2
  unfold law1_ShapeThree.f at H0
  refine enter (n := 89) Try.func5 rfl rfl (by kernel_rfl) fun a0 (hf0 : Fr 89 a0 [(0, .slice A0 x0.length c0), (1, .slice A1 x1.length c1), (2, .slice A2 x2.length c2)]) => ?_
  refine wp_seq ?_
  refine reg [] [0, 1, 2] [(0, .slice A0 x0.length c0), (1, .slice A1 x1.length c1), (2, .slice A2 x2.length c2)] [] hf0 (by kernel_rfl) trivial fun a1 hf2 => ?_
  refine thenN ?_
  refine wp_seq ?_
  refine wp_seq ?_
  obtain ⟨r3, hr3, H0⟩ := ob_split H0
  rcases ifb_split H0 with ⟨c4, H0⟩ | ⟨c4, H0⟩
  · refine inReg ?_
    refine listOf hf2 rfl (by kernel_rfl) (aCall (fid := 9) (args := []) (d := 15) hf2 (by kernel_rfl) (by kernel_rfl) callable9 (law1_awake.calls _ _  (hm0.give [] [] rfl rfl) r3 hr3) ?_)
    rintro _ w5 a6 ⟨rfl, hk8⟩ hf7
    have hm9 : Mem [] M w0 [.sl (Kd.int .i64) A0 c0 x0, .sl (Kd.int .i64) A1 c1 x1, .sl (Kd.int .i64) A2 c2 x2] w5 := hm0.still hk8.cum.none
    rw [c4] at hf7
    refine go 1 [] [0, 1, 2, 16] [(0, .slice A0 x0.length c0), (1, .slice A1 x1.length c1), (2, .slice A2 x2.length c2), (16, .bool false)] [] hf7 (by kernel_rfl) trivial fun a10 hf11 => ?_
    refine endL rfl ?_
    refine thenN ?_
    refine condF hf11 (by kernel_rfl) ?_
    refine wp_skip ?_
    refine thenN ?_
    refine wp_seq ?_
    refine wp_seq ?_
    rcases if_split H0 with ⟨c12, H0⟩ | ⟨c12, H0⟩
    · refine reg [.bool true] [0, 1, 2, 29] [(0, .slice A0 x0.length c0), (1, .slice A1 x1.length c1), (2, .slice A2 x2.length c2), (29, .bool true)] [.is (decide (40 < (x0.length : Int)) = true)] hf11 (by kernel_rfl) ⟨(decide_eq_true c12), trivial⟩ fun a13 hf14 => ?_
      refine thenN ?_
      refine condT hf14 (by kernel_rfl) ?_
      refine wp_seq ?_
      refine reg [] [6] [(6, .bool true)] [] hf14 (by kernel_rfl) trivial fun a15 hf16 => ?_
      have hm17 : Mem [] M w0 [] w5 := hm9.sel [] _ rfl (by kernel_rfl)
      refine thenN ?_
      refine wp_ret ?_
      refine thenR ?_
      have hm18 : Mem [] M w0 [] w5 := hm17.sel [] _ rfl (by kernel_rfl)
      obtain rfl := Option.some.inj H0
      refine ret [] [.bool true] [] hf16 (by kernel_rfl) trivial ?_
      exact ⟨_, rfl, rfl, hm18⟩
    · rcases if_split H0 with ⟨c20, H0⟩ | ⟨c20, H0⟩
      · refine reg [.bool false, .bool true] [0, 1, 2, 29] [(0, .slice A0 x0.length c0), (1, .slice A1 x1.length c1), (2, .slice A2 x2.length c2), (29, .bool true)] [.is (decide (40 < (x0.length : Int)) = false), .is (decide (40 < (x1.length : Int)) = true)] hf11 (by kernel_rfl) ⟨(decide_eq_false c12), (decide_eq_true c20), trivial⟩ fun a21 hf22 => ?_
        refine thenN ?_
        refine condT hf22 (by kernel_rfl) ?_
        refine wp_seq ?_
        refine reg [] [6] [(6, .bool true)] [] hf22 (by kernel_rfl) trivial fun a23 hf24 => ?_
        have hm25 : Mem [] M w0 [] w5 := hm9.sel [] _ rfl (by kernel_rfl)
        refine thenN ?_
        refine wp_ret ?_
        refine thenR ?_
        have hm26 : Mem [] M w0 [] w5 := hm25.sel [] _ rfl (by kernel_rfl)
        obtain rfl := Option.some.inj H0
        refine ret [] [.bool true] [] hf24 (by kernel_rfl) trivial ?_
        exact ⟨_, rfl, rfl, hm26⟩
      · rcases if_split H0 with ⟨c28, H0⟩ | ⟨c28, H0⟩
        · refine reg [.bool false, .bool false, .bool true] [0, 1, 2, 29] [(0, .slice A0 x0.length c0), (1, .slice A1 x1.length c1), (2, .slice A2 x2.length c2), (29, .bool true)] [.is (decide (40 < (x0.length : Int)) = false), .is (decide (40 < (x1.length : Int)) = false), .is (decide (40 < (x2.length : Int)) = true)] hf11 (by kernel_rfl) ⟨(decide_eq_false c12), (decide_eq_false c20), (decide_eq_true c28), trivial⟩ fun a29 hf30 => ?_
          refine thenN ?_
          refine condT hf30 (by kernel_rfl) ?_
          refine wp_seq ?_
          refine reg [] [6] [(6, .bool true)] [] hf30 (by kernel_rfl) trivial fun a31 hf32 => ?_
          have hm33 : Mem [] M w0 [] w5 := hm9.sel [] _ rfl (by kernel_rfl)
          refine thenN ?_
          refine wp_ret ?_
          refine thenR ?_
          have hm34 : Mem [] M w0 [] w5 := hm33.sel [] _ rfl (by kernel_rfl)
          obtain rfl := Option.some.inj H0
          refine ret [] [.bool true] [] hf32 (by kernel_rfl) trivial ?_
          exact ⟨_, rfl, rfl, hm34⟩
        · refine reg [.bool false, .bool false, .bool false] [0, 1, 2, 29] [(0, .slice A0 x0.length c0), (1, .slice A1 x1.length c1), (2, .slice A2 x2.length c2), (29, .bool false)] [.is (decide (40 < (x0.length : Int)) = false), .is (decide (40 < (x1.length : Int)) = false), .is (decide (40 < (x2.length : Int)) = false)] hf11 (by kernel_rfl) ⟨(decide_eq_false c12), (decide_eq_false c20), (decide_eq_false c28), trivial⟩ fun a36 hf37 => ?_
          refine thenN ?_
          refine condF hf37 (by kernel_rfl) ?_
          refine wp_skip ?_
          refine thenN ?_
          refine wp_seq ?_
          obtain ⟨r38, hr38, H0⟩ := ob_split H0
          refine inReg ?_
          refine go 2 [] [0, 1, 2, 31, 32] [(0, .slice A0 x0.length c0), (1, .slice A1 x1.length c1), (2, .slice A2 x2.length c2), (31, .slice A0 x0.length c0), (32, .slice A1 x1.length c1)] [] hf37 (by kernel_rfl) trivial fun a39 hf40 => ?_
          refine listOf hf40 rfl (by kernel_rfl) (aCall (fid := 10) (args := [.slice A0 x0.length c0, .slice A1 x1.length c1]) (d := 33) hf40 (by kernel_rfl) (by kernel_rfl) callable10 (shape_Spread.calls _ _ x0 A0 x0.length c0 rfl x1 A1 x1.length c1 rfl (hm9.give [0, 1] [.sl (Kd.int .i64) A0 c0 x0, .sl (Kd.int .i64) A1 c1 x1] rfl rfl) r38 hr38) ?_)
          rintro _ w43 a44 ⟨A41, c42, rfl, hk46⟩ hf45
          have hm47 : Mem [] M w0 [.ow (Kd.int .i64) 3 A41 c42 r38.1, .sl (Kd.int .i64) A0 c0 x0, .sl (Kd.int .i64) A1 c1 x1, .sl (Kd.int .i64) A2 c2 x2] w43 := hm9.back hk46
          have hm48 : Mem [] M w0 [.sl (Kd.int .i64) A41 c42 r38.1, .sl (Kd.int .i64) A0 c0 x0, .sl (Kd.int .i64) A1 c1 x1, .sl (Kd.int .i64) A2 c2 x2] w43 := hm47.seal 0 _ rfl rfl
          refine go 5 [] [0, 1, 2, 7, 8] [(0, .slice A0 x0.length c0), (1, .slice A1 x1.length c1), (2, .slice A2 x2.length c2), (7, .slice A41 r38.1.length c42), (8, .int .i64 r38.2)] [] hf45 (by kernel_rfl) trivial fun a49 hf50 => ?_
          refine endL rfl ?_
          refine thenN ?_
          refine wp_seq ?_
          obtain ⟨r51, hr51, H0⟩ := ob_split H0
          refine inReg ?_
          refine go 2 [] [0, 1, 2, 7, 8, 37, 38] [(0, .slice A0 x0.length c0), (1, .slice A1 x1.length c1), (2, .slice A2 x2.length c2), (7, .slice A41 r38.1.length c42), (8, .int .i64 r38.2), (37, .slice A1 x1.length c1), (38, .slice A2 x2.length c2)] [] hf50 (by kernel_rfl) trivial fun a52 hf53 => ?_
          refine listOf hf53 rfl (by kernel_rfl) (aCall (fid := 10) (args := [.slice A1 x1.length c1, .slice A2 x2.length c2]) (d := 39) hf53 (by kernel_rfl) (by kernel_rfl) callable10 (shape_Spread.calls _ _ x1 A1 x1.length c1 rfl x2 A2 x2.length c2 rfl (hm48.give [2, 3] [.sl (Kd.int .i64) A1 c1 x1, .sl (Kd.int .i64) A2 c2 x2] rfl rfl) r51 hr51) ?_)
          rintro _ w56 a57 ⟨A54, c55, rfl, hk59⟩ hf58
          have hm60 : Mem [] M w0 [.ow (Kd.int .i64) 3 A54 c55 r51.1, .sl (Kd.int .i64) A41 c42 r38.1, .sl (Kd.int .i64) A0 c0 x0, .sl (Kd.int .i64) A1 c1 x1, .sl (Kd.int .i64) A2 c2 x2] w56 := hm48.back hk59
          have hm61 : Mem [] M w0 [.sl (Kd.int .i64) A54 c55 r51.1, .sl (Kd.int .i64) A41 c42 r38.1, .sl (Kd.int .i64) A0 c0 x0, .sl (Kd.int .i64) A1 c1 x1, .sl (Kd.int .i64) A2 c2 x2] w56 := hm60.seal 0 _ rfl rfl
          refine go 5 [] [0, 1, 2, 7, 8, 9, 10] [(0, .slice A0 x0.length c0), (1, .slice A1 x1.length c1), (2, .slice A2 x2.length c2), (7, .slice A41 r38.1.length c42), (8, .int .i64 r38.2), (9, .slice A54 r51.1.length c55), (10, .int .i64 r51.2)] [] hf58 (by kernel_rfl) trivial fun a62 hf63 => ?_
          refine endL rfl ?_
          refine thenN ?_
          refine wp_seq ?_
          refine wp_seq ?_
          rcases if_split H0 with ⟨c64, H0⟩ | ⟨c64, H0⟩
          · rcases if_split H0 with ⟨c65, H0⟩ | ⟨c65, H0⟩
            · refine reg [.bool false, .bool false] [0, 1, 2, 7, 9, 47] [(0, .slice A0 x0.length c0), (1, .slice A1 x1.length c1), (2, .slice A2 x2.length c2), (7, .slice A41 r38.1.length c42), (9, .slice A54 r51.1.length c55), (47, .bool false)] [.is (((r38.2 : Int) != 0) = false), .is (((r51.2 : Int) != 0) = false)] hf63 (by kernel_rfl) ⟨(neF c64), (neF c65), trivial⟩ fun a66 hf67 => ?_
              refine thenN ?_
              refine condF hf67 (by kernel_rfl) ?_
              refine wp_skip ?_
              refine thenN ?_
              refine wp_seq ?_
              obtain ⟨r68, hr68, H0⟩ := ob_split H0
              refine inReg ?_
              refine go 2 [] [0, 1, 2, 9, 49, 50] [(0, .slice A0 x0.length c0), (1, .slice A1 x1.length c1), (2, .slice A2 x2.length c2), (9, .slice A54 r51.1.length c55), (49, .slice A41 r38.1.length c42), (50, .slice A2 x2.length c2)] [] hf67 (by kernel_rfl) trivial fun a69 hf70 => ?_
              refine listOf hf70 rfl (by kernel_rfl) (aCall (fid := 10) (args := [.slice A41 r38.1.length c42, .slice A2 x2.length c2]) (d := 51) hf70 (by kernel_rfl) (by kernel_rfl) callable10 (shape_Spread.calls _ _ r38.1 A41 r38.1.length c42 rfl x2 A2 x2.length c2 rfl (hm61.give [1, 4] [.sl (Kd.int .i64) A41 c42 r38.1, .sl (Kd.int .i64) A2 c2 x2] rfl rfl) r68 hr68) ?_)
              rintro _ w73 a74 ⟨A71, c72, rfl, hk76⟩ hf75
              have hm77 : Mem [] M w0 [.ow (Kd.int .i64) 3 A71 c72 r68.1, .sl (Kd.int .i64) A54 c55 r51.1, .sl (Kd.int .i64) A41 c42 r38.1, .sl (Kd.int .i64) A0 c0 x0, .sl (Kd.int .i64) A1 c1 x1, .sl (Kd.int .i64) A2 c2 x2] w73 := hm61.back hk76
              have hm78 : Mem [] M w0 [.sl (Kd.int .i64) A71 c72 r68.1, .sl (Kd.int .i64) A54 c55 r51.1, .sl (Kd.int .i64) A41 c42 r38.1, .sl (Kd.int .i64) A0 c0 x0, .sl (Kd.int .i64) A1 c1 x1, .sl (Kd.int .i64) A2 c2 x2] w73 := hm77.seal 0 _ rfl rfl
              refine go 5 [] [0, 1, 2, 9, 11, 12] [(0, .slice A0 x0.length c0), (1, .slice A1 x1.length c1), (2, .slice A2 x2.length c2), (9, .slice A54 r51.1.length c55), (11, .slice A71 r68.1.length c72), (12, .int .i64 r68.2)] [] hf75 (by kernel_rfl) trivial fun a79 hf80 => ?_
              refine endL rfl ?_
              have hm81 : Mem [] M w0 [.sl (Kd.int .i64) A71 c72 r68.1, .sl (Kd.int .i64) A54 c55 r51.1, .sl (Kd.int .i64) A0 c0 x0, .sl (Kd.int .i64) A1 c1 x1, .sl (Kd.int .i64) A2 c2 x2] w73 := hm78.sel [0, 1, 3, 4, 5] _ rfl (by kernel_rfl)
              refine thenN ?_
              refine wp_seq ?_
              obtain ⟨r82, hr82, H0⟩ := ob_split H0
              refine inReg ?_
              refine go 2 [] [0, 1, 2, 11, 12, 55, 56] [(0, .slice A0 x0.length c0), (1, .slice A1 x1.length c1), (2, .slice A2 x2.length c2), (11, .slice A71 r68.1.length c72), (12, .int .i64 r68.2), (55, .slice A0 x0.length c0), (56, .slice A54 r51.1.length c55)] [] hf80 (by kernel_rfl) trivial fun a83 hf84 => ?_
              refine listOf hf84 rfl (by kernel_rfl) (aCall (fid := 10) (args := [.slice A0 x0.length c0, .slice A54 r51.1.length c55]) (d := 57) hf84 (by kernel_rfl) (by kernel_rfl) callable10 (shape_Spread.calls _ _ x0 A0 x0.length c0 rfl r51.1 A54 r51.1.length c55 rfl (hm81.give [2, 1] [.sl (Kd.int .i64) A0 c0 x0, .sl (Kd.int .i64) A54 c55 r51.1] rfl rfl) r82 hr82) ?_)
              rintro _ w87 a88 ⟨A85, c86, rfl, hk90⟩ hf89
              have hm91 : Mem [] M w0 [.ow (Kd.int .i64) 3 A85 c86 r82.1, .sl (Kd.int .i64) A71 c72 r68.1, .sl (Kd.int .i64) A54 c55 r51.1, .sl (Kd.int .i64) A0 c0 x0, .sl (Kd.int .i64) A1 c1 x1, .sl (Kd.int .i64) A2 c2 x2] w87 := hm81.back hk90
              have hm92 : Mem [] M w0 [.sl (Kd.int .i64) A85 c86 r82.1, .sl (Kd.int .i64) A71 c72 r68.1, .sl (Kd.int .i64) A54 c55 r51.1, .sl (Kd.int .i64) A0 c0 x0, .sl (Kd.int .i64) A1 c1 x1, .sl (Kd.int .i64) A2 c2 x2] w87 := hm91.seal 0 _ rfl rfl
              refine go 5 [] [0, 1, 2, 11, 12, 13, 14] [(0, .slice A0 x0.length c0), (1, .slice A1 x1.length c1), (2, .slice A2 x2.length c2), (11, .slice A71 r68.1.length c72), (12, .int .i64 r68.2), (13, .slice A85 r82.1.length c86), (14, .int .i64 r82.2)] [] hf89 (by kernel_rfl) trivial fun a93 hf94 => ?_
              refine endL rfl ?_
              have hm95 : Mem [] M w0 [.sl (Kd.int .i64) A85 c86 r82.1, .sl (Kd.int .i64) A71 c72 r68.1, .sl (Kd.int .i64) A0 c0 x0, .sl (Kd.int .i64) A1 c1 x1, .sl (Kd.int .i64) A2 c2 x2] w87 := hm92.sel [0, 1, 3, 4, 5] _ rfl (by kernel_rfl)
              refine thenN ?_
              refine wp_seq ?_
              rcases if_split H0 with ⟨c96, H0⟩ | ⟨c96, H0⟩
              · rcases if_split H0 with ⟨c97, H0⟩ | ⟨c97, H0⟩
                · obtain ⟨r98, hr98, H0⟩ := ob_split H0
                  rcases ifb_split H0 with ⟨c99, H0⟩ | ⟨c99, H0⟩
                  · obtain ⟨r100, hr100, H0⟩ := ob_split H0
                    rcases ifb_split H0 with ⟨c101, H0⟩ | ⟨c101, H0⟩
                    · obtain ⟨r102, hr102, H0⟩ := ob_split H0
                      rcases ifb_split H0 with ⟨c103, H0⟩ | ⟨c103, H0⟩
                      · obtain ⟨r104, hr104, H0⟩ := ob_split H0
                        refine inReg ?_
                        refine go 8 [.bool true, .bool true] [0, 1, 2, 11, 12, 65, 66, 67] [(0, .slice A0 x0.length c0), (1, .slice A1 x1.length c1), (2, .slice A2 x2.length c2), (11, .slice A71 r68.1.length c72), (12, .int .i64 r68.2), (65, .bool true), (66, .slice A71 r68.1.length c72), (67, .slice A85 r82.1.length c86)] [.is (((r68.2 : Int) == 0) = true), .is (((r82.2 : Int) == 0) = true)] hf94 (by kernel_rfl) ⟨(eqT c96), (eqT c97), trivial⟩ fun a105 hf106 => ?_
                        refine listOf hf106 rfl (by kernel_rfl) (aCall (fid := 16) (args := [.slice A71 r68.1.length c72, .slice A85 r82.1.length c86]) (d := 68) hf106 (by kernel_rfl) (by kernel_rfl) callable16 (shape_Same.calls _ _ r68.1 A71 r68.1.length c72 rfl r82.1 A85 r82.1.length c86 rfl (hm95.give [1, 0] [.sl (Kd.int .i64) A71 c72 r68.1, .sl (Kd.int .i64) A85 c86 r82.1] rfl rfl) r98 hr98) ?_)
                        rintro _ w107 a108 ⟨rfl, hk110⟩ hf109
                        have hm111 : Mem [] M w0 [.sl (Kd.int .i64) A85 c86 r82.1, .sl (Kd.int .i64) A71 c72 r68.1, .sl (Kd.int .i64) A0 c0 x0, .sl (Kd.int .i64) A1 c1 x1, .sl (Kd.int .i64) A2 c2 x2] w107 := hm95.still hk110.cum.none
                        rw [c99] at hf109
                        refine go 7 [.bool false] [1, 2, 11, 70, 73, 74, 75] [(1, .slice A1 x1.length c1), (2, .slice A2 x2.length c2), (11, .slice A71 r68.1.length c72), (70, .bool true), (73, .bool false), (74, .slice A0 x0.length c0), (75, .slice A71 r68.1.length c72)] [.is (((r68.2 : Int) != 0) = false)] hf109 (by kernel_rfl) ⟨(neF c96), trivial⟩ fun a112 hf113 => ?_
                        refine listOf hf113 rfl (by kernel_rfl) (aCall (fid := 13) (args := [.slice A0 x0.length c0, .slice A71 r68.1.length c72]) (d := 76) hf113 (by kernel_rfl) (by kernel_rfl) callable13 (shape_Into.calls _ _ x0 A0 x0.length c0 rfl r68.1 A71 r68.1.length c72 rfl (hm111.give [2, 1] [.sl (Kd.int .i64) A0 c0 x0, .sl (Kd.int .i64) A71 c72 r68.1] rfl rfl) r100 hr100) ?_)
                        rintro _ w114 a115 ⟨rfl, hk117⟩ hf116
                        have hm118 : Mem [] M w0 [.sl (Kd.int .i64) A85 c86 r82.1, .sl (Kd.int .i64) A71 c72 r68.1, .sl (Kd.int .i64) A0 c0 x0, .sl (Kd.int .i64) A1 c1 x1, .sl (Kd.int .i64) A2 c2 x2] w114 := hm111.still hk117.cum.none
                        rw [c101] at hf116
                        refine go 3 [] [2, 11, 70, 73, 77, 78, 79] [(2, .slice A2 x2.length c2), (11, .slice A71 r68.1.length c72), (70, .bool true), (73, .bool false), (77, .bool true), (78, .slice A1 x1.length c1), (79, .slice A71 r68.1.length c72)] [] hf116 (by kernel_rfl) trivial fun a119 hf120 => ?_
                        refine listOf hf120 rfl (by kernel_rfl) (aCall (fid := 13) (args := [.slice A1 x1.length c1, .slice A71 r68.1.length c72]) (d := 80) hf120 (by kernel_rfl) (by kernel_rfl) callable13 (shape_Into.calls _ _ x1 A1 x1.length c1 rfl r68.1 A71 r68.1.length c72 rfl (hm118.give [3, 1] [.sl (Kd.int .i64) A1 c1 x1, .sl (Kd.int .i64) A71 c72 r68.1] rfl rfl) r102 hr102) ?_)
                        rintro _ w121 a122 ⟨rfl, hk124⟩ hf123
                        have hm125 : Mem [] M w0 [.sl (Kd.int .i64) A85 c86 r82.1, .sl (Kd.int .i64) A71 c72 r68.1, .sl (Kd.int .i64) A0 c0 x0, .sl (Kd.int .i64) A1 c1 x1, .sl (Kd.int .i64) A2 c2 x2] w121 := hm118.still hk124.cum.none
                        rw [c103] at hf123
                        refine go 4 [] [70, 73, 82, 83, 84] [(70, .bool true), (73, .bool false), (82, .bool true), (83, .slice A2 x2.length c2), (84, .slice A71 r68.1.length c72)] [] hf123 (by kernel_rfl) trivial fun a126 hf127 => ?_
                        refine listOf hf127 rfl (by kernel_rfl) (aCall (fid := 13) (args := [.slice A2 x2.length c2, .slice A71 r68.1.length c72]) (d := 85) hf127 (by kernel_rfl) (by kernel_rfl) callable13 (shape_Into.calls _ _ x2 A2 x2.length c2 rfl r68.1 A71 r68.1.length c72 rfl (hm125.give [4, 1] [.sl (Kd.int .i64) A2 c2 x2, .sl (Kd.int .i64) A71 c72 r68.1] rfl rfl) r104 hr104) ?_)
                        rintro _ w128 a129 ⟨rfl, hk131⟩ hf130
                        have hm132 : Mem [] M w0 [.sl (Kd.int .i64) A85 c86 r82.1, .sl (Kd.int .i64) A71 c72 r68.1, .sl (Kd.int .i64) A0 c0 x0, .sl (Kd.int .i64) A1 c1 x1, .sl (Kd.int .i64) A2 c2 x2] w128 := hm125.still hk131.cum.none
                        refine go 4 [] [6] [(6, .bool r104)] [] hf130 (by kernel_rfl) trivial fun a133 hf134 => ?_
                        refine endL rfl ?_
                        have hm135 : Mem [] M w0 [] w128 := hm132.sel [] _ rfl (by kernel_rfl)
                        refine thenN ?_
                        refine wp_ret ?_
                        have hm136 : Mem [] M w0 [] w128 := hm135.sel [] _ rfl (by kernel_rfl)
                        obtain rfl := Option.some.inj H0
                        refine ret [] [.bool r104] [] hf134 (by kernel_rfl) trivial ?_
                        exact ⟨_, rfl, rfl, hm136⟩
                      · refine inReg ?_
                        refine go 8 [.bool true, .bool true] [0, 1, 2, 11, 12, 65, 66, 67] [(0, .slice A0 x0.length c0), (1, .slice A1 x1.length c1), (2, .slice A2 x2.length c2), (11, .slice A71 r68.1.length c72), (12, .int .i64 r68.2), (65, .bool true), (66, .slice A71 r68.1.length c72), (67, .slice A85 r82.1.length c86)] [.is (((r68.2 : Int) == 0) = true), .is (((r82.2 : Int) == 0) = true)] hf94 (by kernel_rfl) ⟨(eqT c96), (eqT c97), trivial⟩ fun a138 hf139 => ?_
                        refine listOf hf139 rfl (by kernel_rfl) (aCall (fid := 16) (args := [.slice A71 r68.1.length c72, .slice A85 r82.1.length c86]) (d := 68) hf139 (by kernel_rfl) (by kernel_rfl) callable16 (shape_Same.calls _ _ r68.1 A71 r68.1.length c72 rfl r82.1 A85 r82.1.length c86 rfl (hm95.give [1, 0] [.sl (Kd.int .i64) A71 c72 r68.1, .sl (Kd.int .i64) A85 c86 r82.1] rfl rfl) r98 hr98) ?_)
                        rintro _ w140 a141 ⟨rfl, hk143⟩ hf142
                        have hm144 : Mem [] M w0 [.sl (Kd.int .i64) A85 c86 r82.1, .sl (Kd.int .i64) A71 c72 r68.1, .sl (Kd.int .i64) A0 c0 x0, .sl (Kd.int .i64) A1 c1 x1, .sl (Kd.int .i64) A2 c2 x2] w140 := hm95.still hk143.cum.none
                        rw [c99] at hf142
                        refine go 7 [.bool false] [1, 2, 11, 70, 73, 74, 75] [(1, .slice A1 x1.length c1), (2, .slice A2 x2.length c2), (11, .slice A71 r68.1.length c72), (70, .bool true), (73, .bool false), (74, .slice A0 x0.length c0), (75, .slice A71 r68.1.length c72)] [.is (((r68.2 : Int) != 0) = false)] hf142 (by kernel_rfl) ⟨(neF c96), trivial⟩ fun a145 hf146 => ?_
                        refine listOf hf146 rfl (by kernel_rfl) (aCall (fid := 13) (args := [.slice A0 x0.length c0, .slice A71 r68.1.length c72]) (d := 76) hf146 (by kernel_rfl) (by kernel_rfl) callable13 (shape_Into.calls _ _ x0 A0 x0.length c0 rfl r68.1 A71 r68.1.length c72 rfl (hm144.give [2, 1] [.sl (Kd.int .i64) A0 c0 x0, .sl (Kd.int .i64) A71 c72 r68.1] rfl rfl) r100 hr100) ?_)
                        rintro _ w147 a148 ⟨rfl, hk150⟩ hf149
                        have hm151 : Mem [] M w0 [.sl (Kd.int .i64) A85 c86 r82.1, .sl (Kd.int .i64) A71 c72 r68.1, .sl (Kd.int .i64) A0 c0 x0, .sl (Kd.int .i64) A1 c1 x1, .sl (Kd.int .i64) A2 c2 x2] w147 := hm144.still hk150.cum.none
                        rw [c101] at hf149
                        refine go 3 [] [2, 11, 70, 73, 77, 78, 79] [(2, .slice A2 x2.length c2), (11, .slice A71 r68.1.length c72), (70, .bool true), (73, .bool false), (77, .bool true), (78, .slice A1 x1.length c1), (79, .slice A71 r68.1.length c72)] [] hf149 (by kernel_rfl) trivial fun a152 hf153 => ?_
                        refine listOf hf153 rfl (by kernel_rfl) (aCall (fid := 13) (args := [.slice A1 x1.length c1, .slice A71 r68.1.length c72]) (d := 80) hf153 (by kernel_rfl) (by kernel_rfl) callable13 (shape_Into.calls _ _ x1 A1 x1.length c1 rfl r68.1 A71 r68.1.length c72 rfl (hm151.give [3, 1] [.sl (Kd.int .i64) A1 c1 x1, .sl (Kd.int .i64) A71 c72 r68.1] rfl rfl) r102 hr102) ?_)
                        rintro _ w154 a155 ⟨rfl, hk157⟩ hf156
                        have hm158 : Mem [] M w0 [.sl (Kd.int .i64) A85 c86 r82.1, .sl (Kd.int .i64) A71 c72 r68.1, .sl (Kd.int .i64) A0 c0 x0, .sl (Kd.int .i64) A1 c1 x1, .sl (Kd.int .i64) A2 c2 x2] w154 := hm151.still hk157.cum.none
                        rw [c103] at hf156
                        refine go 9 [] [6] [(6, .bool false)] [] hf156 (by kernel_rfl) trivial fun a159 hf160 => ?_
                        refine endL rfl ?_
                        have hm161 : Mem [] M w0 [] w154 := hm158.sel [] _ rfl (by kernel_rfl)
                        refine thenN ?_
                        refine wp_ret ?_
                        have hm162 : Mem [] M w0 [] w154 := hm161.sel [] _ rfl (by kernel_rfl)
                        obtain rfl := Option.some.inj H0
                        refine ret [] [.bool false] [] hf160 (by kernel_rfl) trivial ?_
                        exact ⟨_, rfl, rfl, hm162⟩
                    · refine inReg ?_
                      refine go 8 [.bool true, .bool true] [0, 1, 2, 11, 12, 65, 66, 67] [(0, .slice A0 x0.length c0), (1, .slice A1 x1.length c1), (2, .slice A2 x2.length c2), (11, .slice A71 r68.1.length c72), (12, .int .i64 r68.2), (65, .bool true), (66, .slice A71 r68.1.length c72), (67, .slice A85 r82.1.length c86)] [.is (((r68.2 : Int) == 0) = true), .is (((r82.2 : Int) == 0) = true)] hf94 (by kernel_rfl) ⟨(eqT c96), (eqT c97), trivial⟩ fun a164 hf165 => ?_
                      refine listOf hf165 rfl (by kernel_rfl) (aCall (fid := 16) (args := [.slice A71 r68.1.length c72, .slice A85 r82.1.length c86]) (d := 68) hf165 (by kernel_rfl) (by kernel_rfl) callable16 (shape_Same.calls _ _ r68.1 A71 r68.1.length c72 rfl r82.1 A85 r82.1.length c86 rfl (hm95.give [1, 0] [.sl (Kd.int .i64) A71 c72 r68.1, .sl (Kd.int .i64) A85 c86 r82.1] rfl rfl) r98 hr98) ?_)
                      rintro _ w166 a167 ⟨rfl, hk169⟩ hf168
                      have hm170 : Mem [] M w0 [.sl (Kd.int .i64) A85 c86 r82.1, .sl (Kd.int .i64) A71 c72 r68.1, .sl (Kd.int .i64) A0 c0 x0, .sl (Kd.int .i64) A1 c1 x1, .sl (Kd.int .i64) A2 c2 x2] w166 := hm95.still hk169.cum.none
                      rw [c99] at hf168
                      refine go 7 [.bool false] [1, 2, 11, 70, 73, 74, 75] [(1, .slice A1 x1.length c1), (2, .slice A2 x2.length c2), (11, .slice A71 r68.1.length c72), (70, .bool true), (73, .bool false), (74, .slice A0 x0.length c0), (75, .slice A71 r68.1.length c72)] [.is (((r68.2 : Int) != 0) = false)] hf168 (by kernel_rfl) ⟨(neF c96), trivial⟩ fun a171 hf172 => ?_
                      refine listOf hf172 rfl (by kernel_rfl) (aCall (fid := 13) (args := [.slice A0 x0.length c0, .slice A71 r68.1.length c72]) (d := 76) hf172 (by kernel_rfl) (by kernel_rfl) callable13 (shape_Into.calls _ _ x0 A0 x0.length c0 rfl r68.1 A71 r68.1.length c72 rfl (hm170.give [2, 1] [.sl (Kd.int .i64) A0 c0 x0, .sl (Kd.int .i64) A71 c72 r68.1] rfl rfl) r100 hr100) ?_)
                      rintro _ w173 a174 ⟨rfl, hk176⟩ hf175
                      have hm177 : Mem [] M w0 [.sl (Kd.int .i64) A85 c86 r82.1, .sl (Kd.int .i64) A71 c72 r68.1, .sl (Kd.int .i64) A0 c0 x0, .sl (Kd.int .i64) A1 c1 x1, .sl (Kd.int .i64) A2 c2 x2] w173 := hm170.still hk176.cum.none
                      rw [c101] at hf175
                      refine go 13 [] [6] [(6, .bool false)] [] hf175 (by kernel_rfl) trivial fun a178 hf179 => ?_
                      refine endL rfl ?_
                      have hm180 : Mem [] M w0 [] w173 := hm177.sel [] _ rfl (by kernel_rfl)
                      refine thenN ?_
                      refine wp_ret ?_
                      have hm181 : Mem [] M w0 [] w173 := hm180.sel [] _ rfl (by kernel_rfl)
                      obtain rfl := Option.some.inj H0
                      refine ret [] [.bool false] [] hf179 (by kernel_rfl) trivial ?_
                      exact ⟨_, rfl, rfl, hm181⟩
                  · refine inReg ?_
                    refine go 8 [.bool true, .bool true] [0, 1, 2, 11, 12, 65, 66, 67] [(0, .slice A0 x0.length c0), (1, .slice A1 x1.length c1), (2, .slice A2 x2.length c2), (11, .slice A71 r68.1.length c72), (12, .int .i64 r68.2), (65, .bool true), (66, .slice A71 r68.1.length c72), (67, .slice A85 r82.1.length c86)] [.is (((r68.2 : Int) == 0) = true), .is (((r82.2 : Int) == 0) = true)] hf94 (by kernel_rfl) ⟨(eqT c96), (eqT c97), trivial⟩ fun a183 hf184 => ?_
                    refine listOf hf184 rfl (by kernel_rfl) (aCall (fid := 16) (args := [.slice A71 r68.1.length c72, .slice A85 r82.1.length c86]) (d := 68) hf184 (by kernel_rfl) (by kernel_rfl) callable16 (shape_Same.calls _ _ r68.1 A71 r68.1.length c72 rfl r82.1 A85 r82.1.length c86 rfl (hm95.give [1, 0] [.sl (Kd.int .i64) A71 c72 r68.1, .sl (Kd.int .i64) A85 c86 r82.1] rfl rfl) r98 hr98) ?_)
                    rintro _ w185 a186 ⟨rfl, hk188⟩ hf187
                    have hm189 : Mem [] M w0 [.sl (Kd.int .i64) A85 c86 r82.1, .sl (Kd.int .i64) A71 c72 r68.1, .sl (Kd.int .i64) A0 c0 x0, .sl (Kd.int .i64) A1 c1 x1, .sl (Kd.int .i64) A2 c2 x2] w185 := hm95.still hk188.cum.none
                    rw [c99] at hf187
                    refine go 21 [] [6] [(6, .bool false)] [] hf187 (by kernel_rfl) trivial fun a190 hf191 => ?_
                    refine endL rfl ?_
                    have hm192 : Mem [] M w0 [] w185 := hm189.sel [] _ rfl (by kernel_rfl)
                    refine thenN ?_
                    refine wp_ret ?_
                    have hm193 : Mem [] M w0 [] w185 := hm192.sel [] _ rfl (by kernel_rfl)
                    obtain rfl := Option.some.inj H0
                    refine ret [] [.bool false] [] hf191 (by kernel_rfl) trivial ?_
                    exact ⟨_, rfl, rfl, hm193⟩
                · refine reg [.bool true, .bool false] [6] [(6, .bool false)] [.is (((r68.2 : Int) == 0) = true), .is (((r82.2 : Int) == 0) = false)] hf94 (by kernel_rfl) ⟨(eqT c96), (eqF c97), trivial⟩ fun a195 hf196 => ?_
                  have hm197 : Mem [] M w0 [] w87 := hm95.sel [] _ rfl (by kernel_rfl)
                  refine thenN ?_
                  refine wp_ret ?_
                  have hm198 : Mem [] M w0 [] w87 := hm197.sel [] _ rfl (by kernel_rfl)
                  obtain rfl := Option.some.inj H0
                  refine ret [] [.bool false] [] hf196 (by kernel_rfl) trivial ?_
                  exact ⟨_, rfl, rfl, hm198⟩
              · rcases if_split H0 with ⟨c200, H0⟩ | ⟨c200, H0⟩
                · refine reg [.bool false, .bool true] [6] [(6, .bool false)] [.is (((r68.2 : Int) == 0) = false), .is (((r82.2 : Int) == 0) = true)] hf94 (by kernel_rfl) ⟨(eqF c96), (eqT c200), trivial⟩ fun a201 hf202 => ?_
                  have hm203 : Mem [] M w0 [] w87 := hm95.sel [] _ rfl (by kernel_rfl)
                  refine thenN ?_
                  refine wp_ret ?_
                  have hm204 : Mem [] M w0 [] w87 := hm203.sel [] _ rfl (by kernel_rfl)
                  obtain rfl := Option.some.inj H0
                  refine ret [] [.bool false] [] hf202 (by kernel_rfl) trivial ?_
                  exact ⟨_, rfl, rfl, hm204⟩
                · obtain ⟨r206, hr206, H0⟩ := ob_split H0
                  rcases ifb_split H0 with ⟨c207, H0⟩ | ⟨c207, H0⟩
                  · refine inReg ?_
                    refine go 8 [.bool false, .bool false] [0, 1, 2, 11, 12, 65, 66, 67] [(0, .slice A0 x0.length c0), (1, .slice A1 x1.length c1), (2, .slice A2 x2.length c2), (11, .slice A71 r68.1.length c72), (12, .int .i64 r68.2), (65, .bool true), (66, .slice A71 r68.1.length c72), (67, .slice A85 r82.1.length c86)] [.is (((r68.2 : Int) == 0) = false), .is (((r82.2 : Int) == 0) = false)] hf94 (by kernel_rfl) ⟨(eqF c96), (eqF c200), trivial⟩ fun a208 hf209 => ?_
                    refine listOf hf209 rfl (by kernel_rfl) (aCall (fid := 16) (args := [.slice A71 r68.1.length c72, .slice A85 r82.1.length c86]) (d := 68) hf209 (by kernel_rfl) (by kernel_rfl) callable16 (shape_Same.calls _ _ r68.1 A71 r68.1.length c72 rfl r82.1 A85 r82.1.length c86 rfl (hm95.give [1, 0] [.sl (Kd.int .i64) A71 c72 r68.1, .sl (Kd.int .i64) A85 c86 r82.1] rfl rfl) r206 hr206) ?_)
                    rintro _ w210 a211 ⟨rfl, hk213⟩ hf212
                    have hm214 : Mem [] M w0 [.sl (Kd.int .i64) A85 c86 r82.1, .sl (Kd.int .i64) A71 c72 r68.1, .sl (Kd.int .i64) A0 c0 x0, .sl (Kd.int .i64) A1 c1 x1, .sl (Kd.int .i64) A2 c2 x2] w210 := hm95.still hk213.cum.none
                    rw [c207] at hf212
                    refine go 21 [.bool true] [6] [(6, .bool true)] [.is (((r68.2 : Int) != 0) = true)] hf212 (by kernel_rfl) ⟨(neT c96), trivial⟩ fun a215 hf216 => ?_
                    refine endL rfl ?_
                    have hm217 : Mem [] M w0 [] w210 := hm214.sel [] _ rfl (by kernel_rfl)
                    refine thenN ?_
                    refine wp_ret ?_
                    have hm218 : Mem [] M w0 [] w210 := hm217.sel [] _ rfl (by kernel_rfl)
                    obtain rfl := Option.some.inj H0
                    refine ret [] [.bool true] [] hf216 (by kernel_rfl) trivial ?_
                    exact ⟨_, rfl, rfl, hm218⟩
                  · refine inReg ?_
                    refine go 8 [.bool false, .bool false] [0, 1, 2, 11, 12, 65, 66, 67] [(0, .slice A0 x0.length c0), (1, .slice A1 x1.length c1), (2, .slice A2 x2.length c2), (11, .slice A71 r68.1.length c72), (12, .int .i64 r68.2), (65, .bool true), (66, .slice A71 r68.1.length c72), (67, .slice A85 r82.1.length c86)] [.is (((r68.2 : Int) == 0) = false), .is (((r82.2 : Int) == 0) = false)] hf94 (by kernel_rfl) ⟨(eqF c96), (eqF c200), trivial⟩ fun a220 hf221 => ?_
                    refine listOf hf221 rfl (by kernel_rfl) (aCall (fid := 16) (args := [.slice A71 r68.1.length c72, .slice A85 r82.1.length c86]) (d := 68) hf221 (by kernel_rfl) (by kernel_rfl) callable16 (shape_Same.calls _ _ r68.1 A71 r68.1.length c72 rfl r82.1 A85 r82.1.length c86 rfl (hm95.give [1, 0] [.sl (Kd.int .i64) A71 c72 r68.1, .sl (Kd.int .i64) A85 c86 r82.1] rfl rfl) r206 hr206) ?_)
                    rintro _ w222 a223 ⟨rfl, hk225⟩ hf224
                    have hm226 : Mem [] M w0 [.sl (Kd.int .i64) A85 c86 r82.1, .sl (Kd.int .i64) A71 c72 r68.1, .sl (Kd.int .i64) A0 c0 x0, .sl (Kd.int .i64) A1 c1 x1, .sl (Kd.int .i64) A2 c2 x2] w222 := hm95.still hk225.cum.none
                    rw [c207] at hf224
                    refine go 21 [] [6] [(6, .bool false)] [] hf224 (by kernel_rfl) trivial fun a227 hf228 => ?_
                    refine endL rfl ?_
                    have hm229 : Mem [] M w0 [] w222 := hm226.sel [] _ rfl (by kernel_rfl)
                    refine thenN ?_
                    refine wp_ret ?_
                    have hm230 : Mem [] M w0 [] w222 := hm229.sel [] _ rfl (by kernel_rfl)
                    obtain rfl := Option.some.inj H0
                    refine ret [] [.bool false] [] hf228 (by kernel_rfl) trivial ?_
                    exact ⟨_, rfl, rfl, hm230⟩
            · refine reg [.bool false, .bool true] [0, 1, 2, 7, 9, 47] [(0, .slice A0 x0.length c0), (1, .slice A1 x1.length c1), (2, .slice A2 x2.length c2), (7, .slice A41 r38.1.length c42), (9, .slice A54 r51.1.length c55), (47, .bool true)] [.is (((r38.2 : Int) != 0) = false), .is (((r51.2 : Int) != 0) = true)] hf63 (by kernel_rfl) ⟨(neF c64), (neT c65), trivial⟩ fun a232 hf233 => ?_
              refine thenN ?_
              refine condT hf233 (by kernel_rfl) ?_
              refine wp_seq ?_
              refine reg [] [6] [(6, .bool true)] [] hf233 (by kernel_rfl) trivial fun a234 hf235 => ?_
              have hm236 : Mem [] M w0 [] w56 := hm61.sel [] _ rfl (by kernel_rfl)
              refine thenN ?_
              refine wp_ret ?_
              refine thenR ?_
              have hm237 : Mem [] M w0 [] w56 := hm236.sel [] _ rfl (by kernel_rfl)
              obtain rfl := Option.some.inj H0
              refine ret [] [.bool true] [] hf235 (by kernel_rfl) trivial ?_
              exact ⟨_, rfl, rfl, hm237⟩
          · refine reg [.bool true] [0, 1, 2, 7, 9, 47] [(0, .slice A0 x0.length c0), (1, .slice A1 x1.length c1), (2, .slice A2 x2.length c2), (7, .slice A41 r38.1.length c42), (9, .slice A54 r51.1.length c55), (47, .bool true)] [.is (((r38.2 : Int) != 0) = true)] hf63 (by kernel_rfl) ⟨(neT c64), trivial⟩ fun a239 hf240 => ?_
            refine thenN ?_
            refine condT hf240 (by kernel_rfl) ?_
            refine wp_seq ?_
            refine reg [] [6] [(6, .bool true)] [] hf240 (by kernel_rfl) trivial fun a241 hf242 => ?_
            have hm243 : Mem [] M w0 [] w56 := hm61.sel [] _ rfl (by kernel_rfl)
            refine thenN ?_
            refine wp_ret ?_
            refine thenR ?_
            have hm244 : Mem [] M w0 [] w56 := hm243.sel [] _ rfl (by kernel_rfl)
            obtain rfl := Option.some.inj H0
            refine ret [] [.bool true] [] hf242 (by kernel_rfl) trivial ?_
            exact ⟨_, rfl, rfl, hm244⟩
  · refine inReg ?_
    refine listOf hf2 rfl (by kernel_rfl) (aCall (fid := 9) (args := []) (d := 15) hf2 (by kernel_rfl) (by kernel_rfl) callable9 (law1_awake.calls _ _  (hm0.give [] [] rfl rfl) r3 hr3) ?_)
    rintro _ w246 a247 ⟨rfl, hk249⟩ hf248
    have hm250 : Mem [] M w0 [.sl (Kd.int .i64) A0 c0 x0, .sl (Kd.int .i64) A1 c1 x1, .sl (Kd.int .i64) A2 c2 x2] w246 := hm0.still hk249.cum.none
    rw [c4] at hf248
    refine go 1 [] [0, 1, 2, 16] [(0, .slice A0 x0.length c0), (1, .slice A1 x1.length c1), (2, .slice A2 x2.length c2), (16, .bool true)] [] hf248 (by kernel_rfl) trivial fun a251 hf252 => ?_
    refine endL rfl ?_
    refine thenN ?_
    refine condT hf252 (by kernel_rfl) ?_
    refine wp_seq ?_
    refine reg [] [6] [(6, .bool false)] [] hf252 (by kernel_rfl) trivial fun a253 hf254 => ?_
    have hm255 : Mem [] M w0 [] w246 := hm250.sel [] _ rfl (by kernel_rfl)
    refine thenN ?_
    refine wp_ret ?_
    refine thenR ?_
    have hm256 : Mem [] M w0 [] w246 := hm255.sel [] _ rfl (by kernel_rfl)
    obtain rfl := Option.some.inj H0
    refine ret [] [.bool false] [] hf254 (by kernel_rfl) trivial ?_
    exact ⟨_, rfl, rfl, hm256⟩
end Go.Proofs.Ytgekodhpkhdanaa
