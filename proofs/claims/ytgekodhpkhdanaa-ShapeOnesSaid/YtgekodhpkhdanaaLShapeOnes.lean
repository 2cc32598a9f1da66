/- Printed by gen.py. -/
import Derived.Test.YtgekodhpkhdanaaF1
namespace Go.Proofs.Ytgekodhpkhdanaa
open Go Go.RowKit
set_option linter.unusedSimpArgs false
set_option linter.unusedVariables false
set_option linter.unnecessarySimpa false
/-! ### backstitch/backstitchlaw1.ShapeOnes -/
noncomputable def law1_ShapeOnes.f (x0 : (List Int)) (x1 : (List Int)) : Option Bool :=
  (law1_awake.f).bind fun r3 =>
  if r3 = true then (if 4 ≤ (x0.length : Int) then (some true)
  else (if 40 < (x1.length : Int) then (some true)
  else (if 1 + x0.length ≤ 549755813888 then ((shape_Size.f x0).bind fun r53 =>
  (shape_Size.f (([1] : List Int) ++ x0)).bind fun r63 =>
  if r53.1 = r63.1 then (if r53.2 = r63.2 then ((shape_Spread.f x0 x1).bind fun r78 =>
  (shape_Spread.f (([1] : List Int) ++ x0) x1).bind fun r91 =>
  if r78.2 = r91.2 then (if (x1.length : Int) ≤ (x0.length : Int) then ((shape_Into.f (([1] : List Int) ++ x0) x1).bind fun r107 =>
  if r107 = true then ((shape_Into.f x0 x1).bind fun r109 =>
  some r109)
  else (some true))
  else ((shape_Same.f r78.1 r91.1).bind fun r141 =>
  if r141 = true then ((shape_Into.f (([1] : List Int) ++ x0) x1).bind fun r143 =>
  if r143 = true then ((shape_Into.f x0 x1).bind fun r145 =>
  some r145)
  else (some true))
  else (some false)))
  else (some false))
  else (some false))
  else (some false))
  else none)))
  else (some false)
set_option maxRecDepth 100000 in
set_option maxHeartbeats 4000000 in
theorem law1_ShapeOnes.calls (M : List (Option Nat)) (w0 : World) (x0 : (List Int)) (A0 : Option Addr) (n0 c0 : Nat) (e0 : n0 = x0.length) (x1 : (List Int)) (A1 : Option Addr) (n1 c1 : Nat) (e1 : n1 = x1.length) (hm0 : Mem [] M w0 [.sl (Kd.int .i64) A0 c0 x0, .sl (Kd.int .i64) A1 c1 x1] w0) (r : Bool) (H0 : law1_ShapeOnes.f x0 x1 = some r) :
    Calls Try.prog 6 [.slice A0 n0 c0, .slice A1 n1 c1].toArray w0 (fun x w' => ∃ v, x = .returned v ∧ v = .bool r ∧ Mem [] M w0 [] w') := by
  subst e0
  subst e1
  unfold law1_ShapeOnes.f at H0
  refine enter (n := 83) Try.func6 rfl rfl (by kernel_rfl) fun a0 (hf0 : Fr 83 a0 [(0, .slice A0 x0.length c0), (1, .slice A1 x1.length c1)]) => ?_
  refine wp_seq ?_
  refine reg [] [0, 1] [(0, .slice A0 x0.length c0), (1, .slice A1 x1.length c1)] [] hf0 (by kernel_rfl) trivial fun a1 hf2 => ?_
  refine thenN ?_
  refine wp_seq ?_
  refine wp_seq ?_
  obtain ⟨r3, hr3, H0⟩ := ob_split H0
  rcases ifb_split H0 with ⟨c4, H0⟩ | ⟨c4, H0⟩
  · refine inReg ?_
    refine listOf hf2 rfl (by kernel_rfl) (aCall (fid := 9) (args := []) (d := 14) hf2 (by kernel_rfl) (by kernel_rfl) callable9 (law1_awake.calls _ _  (hm0.give [] [] rfl rfl) r3 hr3) ?_)
    rintro _ w5 a6 ⟨rfl, hk8⟩ hf7
    have hm9 : Mem [] M w0 [.sl (Kd.int .i64) A0 c0 x0, .sl (Kd.int .i64) A1 c1 x1] w5 := hm0.still hk8.cum.none
    rw [c4] at hf7
    refine go 1 [] [0, 1, 15] [(0, .slice A0 x0.length c0), (1, .slice A1 x1.length c1), (15, .bool false)] [] hf7 (by kernel_rfl) trivial fun a10 hf11 => ?_
    refine endL rfl ?_
    refine thenN ?_
    refine condF hf11 (by kernel_rfl) ?_
    refine wp_skip ?_
    refine thenN ?_
    refine wp_seq ?_
    refine wp_seq ?_
    rcases if_split H0 with ⟨c12, H0⟩ | ⟨c12, H0⟩
    · refine reg [.bool true] [0, 1, 23] [(0, .slice A0 x0.length c0), (1, .slice A1 x1.length c1), (23, .bool true)] [.is (decide (4 ≤ (x0.length : Int)) = true)] hf11 (by kernel_rfl) ⟨(decide_eq_true c12), trivial⟩ fun a13 hf14 => ?_
      refine thenN ?_
      refine condT hf14 (by kernel_rfl) ?_
      refine wp_seq ?_
      refine reg [] [4] [(4, .bool true)] [] hf14 (by kernel_rfl) trivial fun a15 hf16 => ?_
      have hm17 : Mem [] M w0 [] w5 := hm9.sel [] _ rfl (by kernel_rfl)
      refine thenN ?_
      refine wp_ret ?_
      refine thenR ?_
      have hm18 : Mem [] M w0 [] w5 := hm17.sel [] _ rfl (by kernel_rfl)
      obtain rfl := Option.some.inj H0
      refine ret [] [.bool true] [] hf16 (by kernel_rfl) trivial ?_
      exact ⟨_, rfl, rfl, hm18⟩
    · rcases if_split H0 with ⟨c20, H0⟩ | ⟨c20, H0⟩
      · refine reg [.bool false, .bool true] [0, 1, 23] [(0, .slice A0 x0.length c0), (1, .slice A1 x1.length c1), (23, .bool true)] [.is (decide (4 ≤ (x0.length : Int)) = false), .is (decide (40 < (x1.length : Int)) = true)] hf11 (by kernel_rfl) ⟨(decide_eq_false c12), (decide_eq_true c20), trivial⟩ fun a21 hf22 => ?_
        refine thenN ?_
        refine condT hf22 (by kernel_rfl) ?_
        refine wp_seq ?_
        refine reg [] [4] [(4, .bool true)] [] hf22 (by kernel_rfl) trivial fun a23 hf24 => ?_
        have hm25 : Mem [] M w0 [] w5 := hm9.sel [] _ rfl (by kernel_rfl)
        refine thenN ?_
        refine wp_ret ?_
        refine thenR ?_
        have hm26 : Mem [] M w0 [] w5 := hm25.sel [] _ rfl (by kernel_rfl)
        obtain rfl := Option.some.inj H0
        refine ret [] [.bool true] [] hf24 (by kernel_rfl) trivial ?_
        exact ⟨_, rfl, rfl, hm26⟩
      · refine reg [.bool false, .bool false] [0, 1, 23] [(0, .slice A0 x0.length c0), (1, .slice A1 x1.length c1), (23, .bool false)] [.is (decide (4 ≤ (x0.length : Int)) = false), .is (decide (40 < (x1.length : Int)) = false)] hf11 (by kernel_rfl) ⟨(decide_eq_false c12), (decide_eq_false c20), trivial⟩ fun a28 hf29 => ?_
        refine thenN ?_
        refine condF hf29 (by kernel_rfl) ?_
        refine wp_skip ?_
        refine thenN ?_
        refine wp_seq ?_
        obtain ⟨g30, H0⟩ := if_guard H0
        refine inReg ?_
        refine listOf hf29 rfl (by kernel_rfl) (aLit (cs := [.int .i64 1]) (E := 3) (len := 1) (d := 24) hf29 (by kernel_rfl) (by kernel_rfl) ?_)
        intro b31 w32 a33 hbb31 hx35 hg36 hf34
        have hm37 : Mem [] M w0 [.ow (Kd.int .i64) 3 (some ⟨b31, 0, none⟩) 1 ([1] : List Int), .sl (Kd.int .i64) A0 c0 x0, .sl (Kd.int .i64) A1 c1 x1] w32 := Mem.litOwn (kd := (Kd.int .i64)) (xs := ([1] : List Int)) hm9 hbb31 hx35 hg36 (Els.one (kd := (Kd.int .i64)) (us := [.int .i64 1]) (x := 1) rfl) (by simp [maxLen])
        refine go 1 [] [0, 1, 24, 25] [(0, .slice A0 x0.length c0), (1, .slice A1 x1.length c1), (24, .slice (some ⟨b31, 0, none⟩) 1 1), (25, .slice A0 x0.length c0)] [] hf34 (by kernel_rfl) trivial fun a38 hf39 => ?_
        have e48 : 1 = ([1] : List Int).length := rfl
        have e49 : x0.length = x0.length := rfl
        refine listOf hf39 rfl (by kernel_rfl) (aApp (kd := (Kd.int .i64)) (base := 0) (E := 3) (A := (some ⟨b31, 0, none⟩)) (B := A0) (c := 1) (c2 := c0) (xs := ([1] : List Int)) (ys := x0) (k := 1) (m := x0.length) (sz := 1) (d := 26) hf39 (by kernel_rfl) e48 e49 (by kernel_rfl) rfl (by kernel_rfl) (hm37.at 0 rfl) (hm37.at2 0 1 rfl rfl).2 (hm37.cpAt 1 rfl) (Nat.zero_le _) (by have := g30; omega) ?_)
        intro A40 c41 w42 a43 ho45 hg46 hr47 hf44
        have hm50 : Mem [] M w0 [.ow (Kd.int .i64) 3 A40 c41 (([1] : List Int) ++ x0), .sl (Kd.int .i64) A0 c0 x0, .sl (Kd.int .i64) A1 c1 x1] w42 := hm37.setOwn 0 _ rfl rfl ho45 hg46 hr47
        refine go 1 [] [0, 1, 5] [(0, .slice A0 x0.length c0), (1, .slice A1 x1.length c1), (5, .slice A40 ((([1] : List Int) ++ x0).length) c41)] [] hf44 (by kernel_rfl) trivial fun a51 hf52 => ?_
        refine endL rfl ?_
        refine thenN ?_
        refine wp_seq ?_
        obtain ⟨r53, hr53, H0⟩ := ob_split H0
        refine inReg ?_
        refine go 1 [] [0, 1, 5, 28] [(0, .slice A0 x0.length c0), (1, .slice A1 x1.length c1), (5, .slice A40 ((([1] : List Int) ++ x0).length) c41), (28, .slice A0 x0.length c0)] [] hf52 (by kernel_rfl) trivial fun a54 hf55 => ?_
        refine listOf hf55 rfl (by kernel_rfl) (aCall (fid := 15) (args := [.slice A0 x0.length c0]) (d := 29) hf55 (by kernel_rfl) (by kernel_rfl) callable15 (shape_Size.calls _ _ x0 A0 x0.length c0 rfl (hm50.give [1] [.sl (Kd.int .i64) A0 c0 x0] rfl rfl) r53 hr53) ?_)
        rintro _ w56 a57 ⟨rfl, hk59⟩ hf58
        have hm60 : Mem [] M w0 [.ow (Kd.int .i64) 3 A40 c41 (([1] : List Int) ++ x0), .sl (Kd.int .i64) A0 c0 x0, .sl (Kd.int .i64) A1 c1 x1] w56 := hm50.still hk59.cum.none
        refine go 5 [] [0, 1, 5, 6, 7] [(0, .slice A0 x0.length c0), (1, .slice A1 x1.length c1), (5, .slice A40 ((([1] : List Int) ++ x0).length) c41), (6, .int .i64 r53.1), (7, .int .i64 r53.2)] [] hf58 (by kernel_rfl) trivial fun a61 hf62 => ?_
        refine endL rfl ?_
        refine thenN ?_
        refine wp_seq ?_
        obtain ⟨r63, hr63, H0⟩ := ob_split H0
        refine inReg ?_
        refine go 1 [] [0, 1, 5, 6, 7, 33] [(0, .slice A0 x0.length c0), (1, .slice A1 x1.length c1), (5, .slice A40 ((([1] : List Int) ++ x0).length) c41), (6, .int .i64 r53.1), (7, .int .i64 r53.2), (33, .slice A40 ((([1] : List Int) ++ x0).length) c41)] [] hf62 (by kernel_rfl) trivial fun a64 hf65 => ?_
        have hm66 : Mem [] M w0 [.sl (Kd.int .i64) A40 c41 (([1] : List Int) ++ x0), .sl (Kd.int .i64) A0 c0 x0, .sl (Kd.int .i64) A1 c1 x1] w56 := hm60.seal 0 _ rfl rfl
        refine listOf hf65 rfl (by kernel_rfl) (aCall (fid := 15) (args := [.slice A40 ((([1] : List Int) ++ x0).length) c41]) (d := 34) hf65 (by kernel_rfl) (by kernel_rfl) callable15 (shape_Size.calls _ _ (([1] : List Int) ++ x0) A40 ((([1] : List Int) ++ x0).length) c41 rfl (hm66.give [0] [.sl (Kd.int .i64) A40 c41 (([1] : List Int) ++ x0)] rfl rfl) r63 hr63) ?_)
        rintro _ w67 a68 ⟨rfl, hk70⟩ hf69
        have hm71 : Mem [] M w0 [.ow (Kd.int .i64) 3 A40 c41 (([1] : List Int) ++ x0), .sl (Kd.int .i64) A0 c0 x0, .sl (Kd.int .i64) A1 c1 x1] w67 := hm60.still hk70.cum.none
        refine go 5 [] [0, 1, 5, 6, 7, 8, 9] [(0, .slice A0 x0.length c0), (1, .slice A1 x1.length c1), (5, .slice A40 ((([1] : List Int) ++ x0).length) c41), (6, .int .i64 r53.1), (7, .int .i64 r53.2), (8, .int .i64 r63.1), (9, .int .i64 r63.2)] [] hf69 (by kernel_rfl) trivial fun a72 hf73 => ?_
        refine endL rfl ?_
        refine thenN ?_
        refine wp_seq ?_
        refine wp_seq ?_
        rcases if_split H0 with ⟨c74, H0⟩ | ⟨c74, H0⟩
        · rcases if_split H0 with ⟨c75, H0⟩ | ⟨c75, H0⟩
          · refine reg [.bool false, .bool false] [0, 1, 5, 44] [(0, .slice A0 x0.length c0), (1, .slice A1 x1.length c1), (5, .slice A40 ((([1] : List Int) ++ x0).length) c41), (44, .bool false)] [.is (((r53.1 : Int) != r63.1) = false), .is (((r53.2 : Int) != r63.2) = false)] hf73 (by kernel_rfl) ⟨(neF c74), (neF c75), trivial⟩ fun a76 hf77 => ?_
            refine thenN ?_
            refine condF hf77 (by kernel_rfl) ?_
            refine wp_skip ?_
            refine thenN ?_
            refine wp_seq ?_
            obtain ⟨r78, hr78, H0⟩ := ob_split H0
            refine inReg ?_
            refine go 2 [] [0, 1, 5, 46, 47] [(0, .slice A0 x0.length c0), (1, .slice A1 x1.length c1), (5, .slice A40 ((([1] : List Int) ++ x0).length) c41), (46, .slice A0 x0.length c0), (47, .slice A1 x1.length c1)] [] hf77 (by kernel_rfl) trivial fun a79 hf80 => ?_
            refine listOf hf80 rfl (by kernel_rfl) (aCall (fid := 10) (args := [.slice A0 x0.length c0, .slice A1 x1.length c1]) (d := 48) hf80 (by kernel_rfl) (by kernel_rfl) callable10 (shape_Spread.calls _ _ x0 A0 x0.length c0 rfl x1 A1 x1.length c1 rfl (hm71.give [1, 2] [.sl (Kd.int .i64) A0 c0 x0, .sl (Kd.int .i64) A1 c1 x1] rfl rfl) r78 hr78) ?_)
            rintro _ w83 a84 ⟨A81, c82, rfl, hk86⟩ hf85
            have hm87 : Mem [] M w0 [.ow (Kd.int .i64) 3 A81 c82 r78.1, .ow (Kd.int .i64) 3 A40 c41 (([1] : List Int) ++ x0), .sl (Kd.int .i64) A0 c0 x0, .sl (Kd.int .i64) A1 c1 x1] w83 := hm71.back hk86
            have hm88 : Mem [] M w0 [.sl (Kd.int .i64) A81 c82 r78.1, .ow (Kd.int .i64) 3 A40 c41 (([1] : List Int) ++ x0), .sl (Kd.int .i64) A0 c0 x0, .sl (Kd.int .i64) A1 c1 x1] w83 := hm87.seal 0 _ rfl rfl
            refine go 5 [] [0, 1, 5, 10, 11] [(0, .slice A0 x0.length c0), (1, .slice A1 x1.length c1), (5, .slice A40 ((([1] : List Int) ++ x0).length) c41), (10, .slice A81 r78.1.length c82), (11, .int .i64 r78.2)] [] hf85 (by kernel_rfl) trivial fun a89 hf90 => ?_
            refine endL rfl ?_
            refine thenN ?_
            refine wp_seq ?_
            obtain ⟨r91, hr91, H0⟩ := ob_split H0
            refine inReg ?_
            refine go 2 [] [0, 1, 5, 10, 11, 52, 53] [(0, .slice A0 x0.length c0), (1, .slice A1 x1.length c1), (5, .slice A40 ((([1] : List Int) ++ x0).length) c41), (10, .slice A81 r78.1.length c82), (11, .int .i64 r78.2), (52, .slice A40 ((([1] : List Int) ++ x0).length) c41), (53, .slice A1 x1.length c1)] [] hf90 (by kernel_rfl) trivial fun a92 hf93 => ?_
            have hm94 : Mem [] M w0 [.sl (Kd.int .i64) A81 c82 r78.1, .sl (Kd.int .i64) A40 c41 (([1] : List Int) ++ x0), .sl (Kd.int .i64) A0 c0 x0, .sl (Kd.int .i64) A1 c1 x1] w83 := hm88.seal 1 _ rfl rfl
            refine listOf hf93 rfl (by kernel_rfl) (aCall (fid := 10) (args := [.slice A40 ((([1] : List Int) ++ x0).length) c41, .slice A1 x1.length c1]) (d := 54) hf93 (by kernel_rfl) (by kernel_rfl) callable10 (shape_Spread.calls _ _ (([1] : List Int) ++ x0) A40 ((([1] : List Int) ++ x0).length) c41 rfl x1 A1 x1.length c1 rfl (hm94.give [1, 3] [.sl (Kd.int .i64) A40 c41 (([1] : List Int) ++ x0), .sl (Kd.int .i64) A1 c1 x1] rfl rfl) r91 hr91) ?_)
            rintro _ w97 a98 ⟨A95, c96, rfl, hk100⟩ hf99
            have hm101 : Mem [] M w0 [.ow (Kd.int .i64) 3 A95 c96 r91.1, .sl (Kd.int .i64) A81 c82 r78.1, .sl (Kd.int .i64) A40 c41 (([1] : List Int) ++ x0), .sl (Kd.int .i64) A0 c0 x0, .sl (Kd.int .i64) A1 c1 x1] w97 := hm94.back hk100
            have hm102 : Mem [] M w0 [.sl (Kd.int .i64) A95 c96 r91.1, .sl (Kd.int .i64) A81 c82 r78.1, .sl (Kd.int .i64) A40 c41 (([1] : List Int) ++ x0), .sl (Kd.int .i64) A0 c0 x0, .sl (Kd.int .i64) A1 c1 x1] w97 := hm101.seal 0 _ rfl rfl
            refine go 5 [] [0, 1, 5, 10, 11, 12, 13] [(0, .slice A0 x0.length c0), (1, .slice A1 x1.length c1), (5, .slice A40 ((([1] : List Int) ++ x0).length) c41), (10, .slice A81 r78.1.length c82), (11, .int .i64 r78.2), (12, .slice A95 r91.1.length c96), (13, .int .i64 r91.2)] [] hf99 (by kernel_rfl) trivial fun a103 hf104 => ?_
            refine endL rfl ?_
            refine thenN ?_
            refine wp_seq ?_
            rcases if_split H0 with ⟨c105, H0⟩ | ⟨c105, H0⟩
            · rcases if_split H0 with ⟨c106, H0⟩ | ⟨c106, H0⟩
              · obtain ⟨r107, hr107, H0⟩ := ob_split H0
                rcases ifb_split H0 with ⟨c108, H0⟩ | ⟨c108, H0⟩
                · obtain ⟨r109, hr109, H0⟩ := ob_split H0
                  refine inReg ?_
                  refine go 18 [.bool true, .bool true] [0, 1, 72, 73, 74] [(0, .slice A0 x0.length c0), (1, .slice A1 x1.length c1), (72, .bool true), (73, .slice A40 ((([1] : List Int) ++ x0).length) c41), (74, .slice A1 x1.length c1)] [.is (((r78.2 : Int) == r91.2) = true), .is (decide ((x1.length : Int) ≤ (x0.length : Int)) = true)] hf104 (by kernel_rfl) ⟨(eqT c105), (decide_eq_true c106), trivial⟩ fun a110 hf111 => ?_
                  refine listOf hf111 rfl (by kernel_rfl) (aCall (fid := 13) (args := [.slice A40 ((([1] : List Int) ++ x0).length) c41, .slice A1 x1.length c1]) (d := 75) hf111 (by kernel_rfl) (by kernel_rfl) callable13 (shape_Into.calls _ _ (([1] : List Int) ++ x0) A40 ((([1] : List Int) ++ x0).length) c41 rfl x1 A1 x1.length c1 rfl (hm102.give [2, 4] [.sl (Kd.int .i64) A40 c41 (([1] : List Int) ++ x0), .sl (Kd.int .i64) A1 c1 x1] rfl rfl) r107 hr107) ?_)
                  rintro _ w112 a113 ⟨rfl, hk115⟩ hf114
                  have hm116 : Mem [] M w0 [.sl (Kd.int .i64) A95 c96 r91.1, .sl (Kd.int .i64) A81 c82 r78.1, .sl (Kd.int .i64) A40 c41 (([1] : List Int) ++ x0), .sl (Kd.int .i64) A0 c0 x0, .sl (Kd.int .i64) A1 c1 x1] w112 := hm102.still hk115.cum.none
                  rw [c108] at hf114
                  refine go 4 [] [72, 77, 78, 79] [(72, .bool true), (77, .bool false), (78, .slice A0 x0.length c0), (79, .slice A1 x1.length c1)] [] hf114 (by kernel_rfl) trivial fun a117 hf118 => ?_
                  refine listOf hf118 rfl (by kernel_rfl) (aCall (fid := 13) (args := [.slice A0 x0.length c0, .slice A1 x1.length c1]) (d := 80) hf118 (by kernel_rfl) (by kernel_rfl) callable13 (shape_Into.calls _ _ x0 A0 x0.length c0 rfl x1 A1 x1.length c1 rfl (hm116.give [3, 4] [.sl (Kd.int .i64) A0 c0 x0, .sl (Kd.int .i64) A1 c1 x1] rfl rfl) r109 hr109) ?_)
                  rintro _ w119 a120 ⟨rfl, hk122⟩ hf121
                  have hm123 : Mem [] M w0 [.sl (Kd.int .i64) A95 c96 r91.1, .sl (Kd.int .i64) A81 c82 r78.1, .sl (Kd.int .i64) A40 c41 (([1] : List Int) ++ x0), .sl (Kd.int .i64) A0 c0 x0, .sl (Kd.int .i64) A1 c1 x1] w119 := hm116.still hk122.cum.none
                  refine go 3 [] [4] [(4, .bool r109)] [] hf121 (by kernel_rfl) trivial fun a124 hf125 => ?_
                  refine endL rfl ?_
                  have hm126 : Mem [] M w0 [] w119 := hm123.sel [] _ rfl (by kernel_rfl)
                  refine thenN ?_
                  refine wp_ret ?_
                  have hm127 : Mem [] M w0 [] w119 := hm126.sel [] _ rfl (by kernel_rfl)
                  obtain rfl := Option.some.inj H0
                  refine ret [] [.bool r109] [] hf125 (by kernel_rfl) trivial ?_
                  exact ⟨_, rfl, rfl, hm127⟩
                · refine inReg ?_
                  refine go 18 [.bool true, .bool true] [0, 1, 72, 73, 74] [(0, .slice A0 x0.length c0), (1, .slice A1 x1.length c1), (72, .bool true), (73, .slice A40 ((([1] : List Int) ++ x0).length) c41), (74, .slice A1 x1.length c1)] [.is (((r78.2 : Int) == r91.2) = true), .is (decide ((x1.length : Int) ≤ (x0.length : Int)) = true)] hf104 (by kernel_rfl) ⟨(eqT c105), (decide_eq_true c106), trivial⟩ fun a129 hf130 => ?_
                  refine listOf hf130 rfl (by kernel_rfl) (aCall (fid := 13) (args := [.slice A40 ((([1] : List Int) ++ x0).length) c41, .slice A1 x1.length c1]) (d := 75) hf130 (by kernel_rfl) (by kernel_rfl) callable13 (shape_Into.calls _ _ (([1] : List Int) ++ x0) A40 ((([1] : List Int) ++ x0).length) c41 rfl x1 A1 x1.length c1 rfl (hm102.give [2, 4] [.sl (Kd.int .i64) A40 c41 (([1] : List Int) ++ x0), .sl (Kd.int .i64) A1 c1 x1] rfl rfl) r107 hr107) ?_)
                  rintro _ w131 a132 ⟨rfl, hk134⟩ hf133
                  have hm135 : Mem [] M w0 [.sl (Kd.int .i64) A95 c96 r91.1, .sl (Kd.int .i64) A81 c82 r78.1, .sl (Kd.int .i64) A40 c41 (([1] : List Int) ++ x0), .sl (Kd.int .i64) A0 c0 x0, .sl (Kd.int .i64) A1 c1 x1] w131 := hm102.still hk134.cum.none
                  rw [c108] at hf133
                  refine go 8 [] [4] [(4, .bool true)] [] hf133 (by kernel_rfl) trivial fun a136 hf137 => ?_
                  refine endL rfl ?_
                  have hm138 : Mem [] M w0 [] w131 := hm135.sel [] _ rfl (by kernel_rfl)
                  refine thenN ?_
                  refine wp_ret ?_
                  have hm139 : Mem [] M w0 [] w131 := hm138.sel [] _ rfl (by kernel_rfl)
                  obtain rfl := Option.some.inj H0
                  refine ret [] [.bool true] [] hf137 (by kernel_rfl) trivial ?_
                  exact ⟨_, rfl, rfl, hm139⟩
              · obtain ⟨r141, hr141, H0⟩ := ob_split H0
                rcases ifb_split H0 with ⟨c142, H0⟩ | ⟨c142, H0⟩
                · obtain ⟨r143, hr143, H0⟩ := ob_split H0
                  rcases ifb_split H0 with ⟨c144, H0⟩ | ⟨c144, H0⟩
                  · obtain ⟨r145, hr145, H0⟩ := ob_split H0
                    refine inReg ?_
                    refine go 12 [.bool true, .bool false] [0, 1, 5, 60, 66, 67, 68] [(0, .slice A0 x0.length c0), (1, .slice A1 x1.length c1), (5, .slice A40 ((([1] : List Int) ++ x0).length) c41), (60, .bool true), (66, .bool false), (67, .slice A81 r78.1.length c82), (68, .slice A95 r91.1.length c96)] [.is (((r78.2 : Int) == r91.2) = true), .is (decide ((x1.length : Int) ≤ (x0.length : Int)) = false)] hf104 (by kernel_rfl) ⟨(eqT c105), (decide_eq_false c106), trivial⟩ fun a146 hf147 => ?_
                    refine listOf hf147 rfl (by kernel_rfl) (aCall (fid := 16) (args := [.slice A81 r78.1.length c82, .slice A95 r91.1.length c96]) (d := 69) hf147 (by kernel_rfl) (by kernel_rfl) callable16 (shape_Same.calls _ _ r78.1 A81 r78.1.length c82 rfl r91.1 A95 r91.1.length c96 rfl (hm102.give [1, 0] [.sl (Kd.int .i64) A81 c82 r78.1, .sl (Kd.int .i64) A95 c96 r91.1] rfl rfl) r141 hr141) ?_)
                    rintro _ w148 a149 ⟨rfl, hk151⟩ hf150
                    have hm152 : Mem [] M w0 [.sl (Kd.int .i64) A95 c96 r91.1, .sl (Kd.int .i64) A81 c82 r78.1, .sl (Kd.int .i64) A40 c41 (([1] : List Int) ++ x0), .sl (Kd.int .i64) A0 c0 x0, .sl (Kd.int .i64) A1 c1 x1] w148 := hm102.still hk151.cum.none
                    rw [c142] at hf150
                    refine go 5 [] [0, 1, 72, 73, 74] [(0, .slice A0 x0.length c0), (1, .slice A1 x1.length c1), (72, .bool true), (73, .slice A40 ((([1] : List Int) ++ x0).length) c41), (74, .slice A1 x1.length c1)] [] hf150 (by kernel_rfl) trivial fun a153 hf154 => ?_
                    refine listOf hf154 rfl (by kernel_rfl) (aCall (fid := 13) (args := [.slice A40 ((([1] : List Int) ++ x0).length) c41, .slice A1 x1.length c1]) (d := 75) hf154 (by kernel_rfl) (by kernel_rfl) callable13 (shape_Into.calls _ _ (([1] : List Int) ++ x0) A40 ((([1] : List Int) ++ x0).length) c41 rfl x1 A1 x1.length c1 rfl (hm152.give [2, 4] [.sl (Kd.int .i64) A40 c41 (([1] : List Int) ++ x0), .sl (Kd.int .i64) A1 c1 x1] rfl rfl) r143 hr143) ?_)
                    rintro _ w155 a156 ⟨rfl, hk158⟩ hf157
                    have hm159 : Mem [] M w0 [.sl (Kd.int .i64) A95 c96 r91.1, .sl (Kd.int .i64) A81 c82 r78.1, .sl (Kd.int .i64) A40 c41 (([1] : List Int) ++ x0), .sl (Kd.int .i64) A0 c0 x0, .sl (Kd.int .i64) A1 c1 x1] w155 := hm152.still hk158.cum.none
                    rw [c144] at hf157
                    refine go 4 [] [72, 77, 78, 79] [(72, .bool true), (77, .bool false), (78, .slice A0 x0.length c0), (79, .slice A1 x1.length c1)] [] hf157 (by kernel_rfl) trivial fun a160 hf161 => ?_
                    refine listOf hf161 rfl (by kernel_rfl) (aCall (fid := 13) (args := [.slice A0 x0.length c0, .slice A1 x1.length c1]) (d := 80) hf161 (by kernel_rfl) (by kernel_rfl) callable13 (shape_Into.calls _ _ x0 A0 x0.length c0 rfl x1 A1 x1.length c1 rfl (hm159.give [3, 4] [.sl (Kd.int .i64) A0 c0 x0, .sl (Kd.int .i64) A1 c1 x1] rfl rfl) r145 hr145) ?_)
                    rintro _ w162 a163 ⟨rfl, hk165⟩ hf164
                    have hm166 : Mem [] M w0 [.sl (Kd.int .i64) A95 c96 r91.1, .sl (Kd.int .i64) A81 c82 r78.1, .sl (Kd.int .i64) A40 c41 (([1] : List Int) ++ x0), .sl (Kd.int .i64) A0 c0 x0, .sl (Kd.int .i64) A1 c1 x1] w162 := hm159.still hk165.cum.none
                    refine go 3 [] [4] [(4, .bool r145)] [] hf164 (by kernel_rfl) trivial fun a167 hf168 => ?_
                    refine endL rfl ?_
                    have hm169 : Mem [] M w0 [] w162 := hm166.sel [] _ rfl (by kernel_rfl)
                    refine thenN ?_
                    refine wp_ret ?_
                    have hm170 : Mem [] M w0 [] w162 := hm169.sel [] _ rfl (by kernel_rfl)
                    obtain rfl := Option.some.inj H0
                    refine ret [] [.bool r145] [] hf168 (by kernel_rfl) trivial ?_
                    exact ⟨_, rfl, rfl, hm170⟩
                  · refine inReg ?_
                    refine go 12 [.bool true, .bool false] [0, 1, 5, 60, 66, 67, 68] [(0, .slice A0 x0.length c0), (1, .slice A1 x1.length c1), (5, .slice A40 ((([1] : List Int) ++ x0).length) c41), (60, .bool true), (66, .bool false), (67, .slice A81 r78.1.length c82), (68, .slice A95 r91.1.length c96)] [.is (((r78.2 : Int) == r91.2) = true), .is (decide ((x1.length : Int) ≤ (x0.length : Int)) = false)] hf104 (by kernel_rfl) ⟨(eqT c105), (decide_eq_false c106), trivial⟩ fun a172 hf173 => ?_
                    refine listOf hf173 rfl (by kernel_rfl) (aCall (fid := 16) (args := [.slice A81 r78.1.length c82, .slice A95 r91.1.length c96]) (d := 69) hf173 (by kernel_rfl) (by kernel_rfl) callable16 (shape_Same.calls _ _ r78.1 A81 r78.1.length c82 rfl r91.1 A95 r91.1.length c96 rfl (hm102.give [1, 0] [.sl (Kd.int .i64) A81 c82 r78.1, .sl (Kd.int .i64) A95 c96 r91.1] rfl rfl) r141 hr141) ?_)
                    rintro _ w174 a175 ⟨rfl, hk177⟩ hf176
                    have hm178 : Mem [] M w0 [.sl (Kd.int .i64) A95 c96 r91.1, .sl (Kd.int .i64) A81 c82 r78.1, .sl (Kd.int .i64) A40 c41 (([1] : List Int) ++ x0), .sl (Kd.int .i64) A0 c0 x0, .sl (Kd.int .i64) A1 c1 x1] w174 := hm102.still hk177.cum.none
                    rw [c142] at hf176
                    refine go 5 [] [0, 1, 72, 73, 74] [(0, .slice A0 x0.length c0), (1, .slice A1 x1.length c1), (72, .bool true), (73, .slice A40 ((([1] : List Int) ++ x0).length) c41), (74, .slice A1 x1.length c1)] [] hf176 (by kernel_rfl) trivial fun a179 hf180 => ?_
                    refine listOf hf180 rfl (by kernel_rfl) (aCall (fid := 13) (args := [.slice A40 ((([1] : List Int) ++ x0).length) c41, .slice A1 x1.length c1]) (d := 75) hf180 (by kernel_rfl) (by kernel_rfl) callable13 (shape_Into.calls _ _ (([1] : List Int) ++ x0) A40 ((([1] : List Int) ++ x0).length) c41 rfl x1 A1 x1.length c1 rfl (hm178.give [2, 4] [.sl (Kd.int .i64) A40 c41 (([1] : List Int) ++ x0), .sl (Kd.int .i64) A1 c1 x1] rfl rfl) r143 hr143) ?_)
                    rintro _ w181 a182 ⟨rfl, hk184⟩ hf183
                    have hm185 : Mem [] M w0 [.sl (Kd.int .i64) A95 c96 r91.1, .sl (Kd.int .i64) A81 c82 r78.1, .sl (Kd.int .i64) A40 c41 (([1] : List Int) ++ x0), .sl (Kd.int .i64) A0 c0 x0, .sl (Kd.int .i64) A1 c1 x1] w181 := hm178.still hk184.cum.none
                    rw [c144] at hf183
                    refine go 8 [] [4] [(4, .bool true)] [] hf183 (by kernel_rfl) trivial fun a186 hf187 => ?_
                    refine endL rfl ?_
                    have hm188 : Mem [] M w0 [] w181 := hm185.sel [] _ rfl (by kernel_rfl)
                    refine thenN ?_
                    refine wp_ret ?_
                    have hm189 : Mem [] M w0 [] w181 := hm188.sel [] _ rfl (by kernel_rfl)
                    obtain rfl := Option.some.inj H0
                    refine ret [] [.bool true] [] hf187 (by kernel_rfl) trivial ?_
                    exact ⟨_, rfl, rfl, hm189⟩
                · refine inReg ?_
                  refine go 12 [.bool true, .bool false] [0, 1, 5, 60, 66, 67, 68] [(0, .slice A0 x0.length c0), (1, .slice A1 x1.length c1), (5, .slice A40 ((([1] : List Int) ++ x0).length) c41), (60, .bool true), (66, .bool false), (67, .slice A81 r78.1.length c82), (68, .slice A95 r91.1.length c96)] [.is (((r78.2 : Int) == r91.2) = true), .is (decide ((x1.length : Int) ≤ (x0.length : Int)) = false)] hf104 (by kernel_rfl) ⟨(eqT c105), (decide_eq_false c106), trivial⟩ fun a191 hf192 => ?_
                  refine listOf hf192 rfl (by kernel_rfl) (aCall (fid := 16) (args := [.slice A81 r78.1.length c82, .slice A95 r91.1.length c96]) (d := 69) hf192 (by kernel_rfl) (by kernel_rfl) callable16 (shape_Same.calls _ _ r78.1 A81 r78.1.length c82 rfl r91.1 A95 r91.1.length c96 rfl (hm102.give [1, 0] [.sl (Kd.int .i64) A81 c82 r78.1, .sl (Kd.int .i64) A95 c96 r91.1] rfl rfl) r141 hr141) ?_)
                  rintro _ w193 a194 ⟨rfl, hk196⟩ hf195
                  have hm197 : Mem [] M w0 [.sl (Kd.int .i64) A95 c96 r91.1, .sl (Kd.int .i64) A81 c82 r78.1, .sl (Kd.int .i64) A40 c41 (([1] : List Int) ++ x0), .sl (Kd.int .i64) A0 c0 x0, .sl (Kd.int .i64) A1 c1 x1] w193 := hm102.still hk196.cum.none
                  rw [c142] at hf195
                  refine go 14 [] [4] [(4, .bool false)] [] hf195 (by kernel_rfl) trivial fun a198 hf199 => ?_
                  refine endL rfl ?_
                  have hm200 : Mem [] M w0 [] w193 := hm197.sel [] _ rfl (by kernel_rfl)
                  refine thenN ?_
                  refine wp_ret ?_
                  have hm201 : Mem [] M w0 [] w193 := hm200.sel [] _ rfl (by kernel_rfl)
                  obtain rfl := Option.some.inj H0
                  refine ret [] [.bool false] [] hf199 (by kernel_rfl) trivial ?_
                  exact ⟨_, rfl, rfl, hm201⟩
            · refine reg [.bool false] [4] [(4, .bool false)] [.is (((r78.2 : Int) == r91.2) = false)] hf104 (by kernel_rfl) ⟨(eqF c105), trivial⟩ fun a203 hf204 => ?_
              have hm205 : Mem [] M w0 [] w97 := hm102.sel [] _ rfl (by kernel_rfl)
              refine thenN ?_
              refine wp_ret ?_
              have hm206 : Mem [] M w0 [] w97 := hm205.sel [] _ rfl (by kernel_rfl)
              obtain rfl := Option.some.inj H0
              refine ret [] [.bool false] [] hf204 (by kernel_rfl) trivial ?_
              exact ⟨_, rfl, rfl, hm206⟩
          · refine reg [.bool false, .bool true] [0, 1, 5, 44] [(0, .slice A0 x0.length c0), (1, .slice A1 x1.length c1), (5, .slice A40 ((([1] : List Int) ++ x0).length) c41), (44, .bool true)] [.is (((r53.1 : Int) != r63.1) = false), .is (((r53.2 : Int) != r63.2) = true)] hf73 (by kernel_rfl) ⟨(neF c74), (neT c75), trivial⟩ fun a208 hf209 => ?_
            refine thenN ?_
            refine condT hf209 (by kernel_rfl) ?_
            refine wp_seq ?_
            refine reg [] [4] [(4, .bool false)] [] hf209 (by kernel_rfl) trivial fun a210 hf211 => ?_
            have hm212 : Mem [] M w0 [] w67 := hm71.sel [] _ rfl (by kernel_rfl)
            refine thenN ?_
            refine wp_ret ?_
            refine thenR ?_
            have hm213 : Mem [] M w0 [] w67 := hm212.sel [] _ rfl (by kernel_rfl)
            obtain rfl := Option.some.inj H0
            refine ret [] [.bool false] [] hf211 (by kernel_rfl) trivial ?_
            exact ⟨_, rfl, rfl, hm213⟩
        · refine reg [.bool true] [0, 1, 5, 44] [(0, .slice A0 x0.length c0), (1, .slice A1 x1.length c1), (5, .slice A40 ((([1] : List Int) ++ x0).length) c41), (44, .bool true)] [.is (((r53.1 : Int) != r63.1) = true)] hf73 (by kernel_rfl) ⟨(neT c74), trivial⟩ fun a215 hf216 => ?_
          refine thenN ?_
          refine condT hf216 (by kernel_rfl) ?_
          refine wp_seq ?_
          refine reg [] [4] [(4, .bool false)] [] hf216 (by kernel_rfl) trivial fun a217 hf218 => ?_
          have hm219 : Mem [] M w0 [] w67 := hm71.sel [] _ rfl (by kernel_rfl)
          refine thenN ?_
          refine wp_ret ?_
          refine thenR ?_
          have hm220 : Mem [] M w0 [] w67 := hm219.sel [] _ rfl (by kernel_rfl)
          obtain rfl := Option.some.inj H0
          refine ret [] [.bool false] [] hf218 (by kernel_rfl) trivial ?_
          exact ⟨_, rfl, rfl, hm220⟩
  · refine inReg ?_
    refine listOf hf2 rfl (by kernel_rfl) (aCall (fid := 9) (args := []) (d := 14) hf2 (by kernel_rfl) (by kernel_rfl) callable9 (law1_awake.calls _ _  (hm0.give [] [] rfl rfl) r3 hr3) ?_)
    rintro _ w222 a223 ⟨rfl, hk225⟩ hf224
    have hm226 : Mem [] M w0 [.sl (Kd.int .i64) A0 c0 x0, .sl (Kd.int .i64) A1 c1 x1] w222 := hm0.still hk225.cum.none
    rw [c4] at hf224
    refine go 1 [] [0, 1, 15] [(0, .slice A0 x0.length c0), (1, .slice A1 x1.length c1), (15, .bool true)] [] hf224 (by kernel_rfl) trivial fun a227 hf228 => ?_
    refine endL rfl ?_
    refine thenN ?_
    refine condT hf228 (by kernel_rfl) ?_
    refine wp_seq ?_
    refine reg [] [4] [(4, .bool false)] [] hf228 (by kernel_rfl) trivial fun a229 hf230 => ?_
    have hm231 : Mem [] M w0 [] w222 := hm226.sel [] _ rfl (by kernel_rfl)
    refine thenN ?_
    refine wp_ret ?_
    refine thenR ?_
    have hm232 : Mem [] M w0 [] w222 := hm231.sel [] _ rfl (by kernel_rfl)
    obtain rfl := Option.some.inj H0
    refine ret [] [.bool false] [] hf230 (by kernel_rfl) trivial ?_
    exact ⟨_, rfl, rfl, hm232⟩
end Go.Proofs.Ytgekodhpkhdanaa
