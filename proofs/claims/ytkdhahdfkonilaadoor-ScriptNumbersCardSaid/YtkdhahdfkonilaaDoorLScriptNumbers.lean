/- Printed by gen.py. -/
import Derived.Test.YtkdhahdfkonilaaDoorF0
import Derived.Test.YtkdhahdfkonilaaDoorF2
import Derived.Test.YtkdhahdfkonilaaDoorF7
import Derived.Test.YtkdhahdfkonilaaDoorF8
namespace Go.Proofs.YtkdhahdfkonilaaDoor
open Go Go.RowKit
set_option linter.unusedSimpArgs false
set_option linter.unusedVariables false
set_option linter.unnecessarySimpa false
/-! ### backstitch/backstitchlaw24.ScriptNumbers -/
noncomputable def law24_ScriptNumbers.f (x0 : Nat) (x1 : Int) (x2 : (List UInt8)) : Option Bool :=
  (law24_awake.f).bind fun r23 =>
  if r23 = true then (if 100 < (x2.length : Int) then (some true)
  else ((script_Number.f x0).bind fun r41 =>
  (script_Parse.f r41).bind fun r51 =>
  if 0 ≤ x1 ∧ x1 < 18446744073709551616 then ((script_Number.f (canon (x1).toNat)).bind fun r63 =>
  (script_Parse.f x2).bind fun r78 =>
  (ref19_Parse.f x2).bind fun r89 =>
  (ref19_Number.f x0).bind fun r100 =>
  if r41 = r100 then (if r51.2 = true then ((ref1_Same.f x0 r51.1).bind fun r103 =>
  if r103 = true then ((ref19_Number.f (canon (x1).toNat)).bind fun r105 =>
  if r63 = r105 then (if (r78.2 == r89.2) = true then ((ref1_Same.f r78.1 r89.1).bind fun r108 =>
  some r108)
  else (some false))
  else (some false))
  else (some false))
  else (some false))
  else (some false))
  else none))
  else (some false)
set_option maxRecDepth 100000 in
set_option maxHeartbeats 4000000 in
theorem law24_ScriptNumbers.calls (M : List (Option Nat)) (w0 : World) (x0 : Nat) (b0 : Nat) (h0 : FR b0 x0) (x1 : Int) (x2 : (List UInt8)) (hm0 : Mem [] M w0 [] w0) (r : Bool) (H0 : law24_ScriptNumbers.f x0 x1 x2 = some r) (hG : Glob [] w0) :
    Calls Tryd.prog 5 [.float .f64 b0, .int .u64 x1, .string (bs x2)].toArray w0 (fun x w' => ∃ v, x = .returned v ∧ v = .bool r ∧ Mem [] M w0 [] w') := by
  unfold law24_ScriptNumbers.f at H0
  refine enter (n := 69) Tryd.func5 rfl rfl (by kernel_rfl) fun a0 (hf0 : Fr 69 a0 [(0, .float .f64 b0), (1, .int .u64 x1), (2, .string (bs x2))]) => ?_
  refine wp_seq ?_
  refine reg [] [0, 1, 2] [(0, .float .f64 b0), (1, .int .u64 x1), (2, .string (bs x2))] [] hf0 (by kernel_rfl) trivial fun a21 hf22 => ?_
  refine thenN ?_
  refine wp_seq ?_
  refine wp_seq ?_
  obtain ⟨r23, hr23, H0⟩ := ob_split H0
  rcases ifb_split H0 with ⟨c24, H0⟩ | ⟨c24, H0⟩
  rotate_left
  · refine inReg ?_
    refine listOf hf22 rfl (by kernel_rfl) (aCall (fid := 9) (args := []) (d := 15) hf22 (by kernel_rfl) (by kernel_rfl) callable9 (law24_awake.calls _ _  (hm0.give [] [] rfl rfl) r23 hr23 (hG.at hm0)) ?_)
    rintro _ w243 a244 ⟨rfl, hk246⟩ hf245
    have hm247 := hm0.still hk246.cum.none
    rw [c24] at hf245
    refine go 1 [] [0, 1, 2, 16] [(0, .float .f64 b0), (1, .int .u64 x1), (2, .string (bs x2)), (16, .bool true)] [] hf245 (by kernel_rfl) trivial fun a248 hf249 => ?_
    refine endL rfl ?_
    refine thenN ?_
    refine condT hf249 (by kernel_rfl) ?_
    refine wp_seq ?_
    refine reg [] [6] [(6, .bool false)] [] hf249 (by kernel_rfl) trivial fun a250 hf251 => ?_
    refine thenN ?_
    refine wp_ret ?_
    refine thenR ?_
    have hm252 : Mem [] M w0 [] w243 := hm247.sel [] _ rfl (by kernel_rfl)
    obtain rfl := Option.some.inj H0
    refine ret [] [.bool false] [] hf251 (by kernel_rfl) trivial ?_
    exact ⟨_, rfl, rfl, hm252⟩
  refine inReg ?_
  refine listOf hf22 rfl (by kernel_rfl) (aCall (fid := 9) (args := []) (d := 15) hf22 (by kernel_rfl) (by kernel_rfl) callable9 (law24_awake.calls _ _  (hm0.give [] [] rfl rfl) r23 hr23 (hG.at hm0)) ?_)
  rintro _ w25 a26 ⟨rfl, hk28⟩ hf27
  have hm29 := hm0.still hk28.cum.none
  rw [c24] at hf27
  refine go 1 [] [0, 1, 2, 16] [(0, .float .f64 b0), (1, .int .u64 x1), (2, .string (bs x2)), (16, .bool false)] [] hf27 (by kernel_rfl) trivial fun a30 hf31 => ?_
  refine endL rfl ?_
  refine thenN ?_
  refine condF hf31 (by kernel_rfl) ?_
  refine wp_skip ?_
  refine thenN ?_
  refine wp_seq ?_
  refine wp_seq ?_
  rcases if_split H0 with ⟨c32, H0⟩ | ⟨c32, H0⟩
  · refine reg [.bool true] [0, 1, 2, 19] [(0, .float .f64 b0), (1, .int .u64 x1), (2, .string (bs x2)), (19, .bool true)] [.is (decide (100 < (x2.length : Int)) = true)] hf31 (by kernel_rfl) ⟨(decide_eq_true c32), trivial⟩ fun a33 hf34 => ?_
    refine thenN ?_
    refine condT hf34 (by kernel_rfl) ?_
    refine wp_seq ?_
    refine reg [] [6] [(6, .bool true)] [] hf34 (by kernel_rfl) trivial fun a35 hf36 => ?_
    refine thenN ?_
    refine wp_ret ?_
    refine thenR ?_
    have hm37 : Mem [] M w0 [] w25 := hm29.sel [] _ rfl (by kernel_rfl)
    obtain rfl := Option.some.inj H0
    refine ret [] [.bool true] [] hf36 (by kernel_rfl) trivial ?_
    exact ⟨_, rfl, rfl, hm37⟩
  refine reg [.bool false] [0, 1, 2, 19] [(0, .float .f64 b0), (1, .int .u64 x1), (2, .string (bs x2)), (19, .bool false)] [.is (decide (100 < (x2.length : Int)) = false)] hf31 (by kernel_rfl) ⟨(decide_eq_false c32), trivial⟩ fun a39 hf40 => ?_
  refine thenN ?_
  refine condF hf40 (by kernel_rfl) ?_
  refine wp_skip ?_
  refine thenN ?_
  refine wp_seq ?_
  obtain ⟨r41, hr41, H0⟩ := ob_split H0
  refine inReg ?_
  refine go 1 [] [0, 1, 2, 20] [(0, .float .f64 b0), (1, .int .u64 x1), (2, .string (bs x2)), (20, .float .f64 b0)] [] hf40 (by kernel_rfl) trivial fun a42 hf43 => ?_
  refine listOf hf43 rfl (by kernel_rfl) (aCall (fid := 15) (args := [.float .f64 b0]) (d := 21) hf43 (by kernel_rfl) (by kernel_rfl) callable15 (script_Number.calls _ _ x0 b0 h0 (hm29.give [] [] rfl rfl) r41 hr41) ?_)
  rintro _ w44 a45 ⟨rfl, hk47⟩ hf46
  have hm48 := hm29.still hk47.cum.none
  refine go 1 [] [0, 1, 2, 7] [(0, .float .f64 b0), (1, .int .u64 x1), (2, .string (bs x2)), (7, .string (bs r41))] [] hf46 (by kernel_rfl) trivial fun a49 hf50 => ?_
  refine endL rfl ?_
  refine thenN ?_
  refine wp_seq ?_
  obtain ⟨r51, hr51, H0⟩ := ob_split H0
  refine inReg ?_
  refine go 1 [] [0, 1, 2, 7, 23] [(0, .float .f64 b0), (1, .int .u64 x1), (2, .string (bs x2)), (7, .string (bs r41)), (23, .string (bs r41))] [] hf50 (by kernel_rfl) trivial fun a52 hf53 => ?_
  refine listOf hf53 rfl (by kernel_rfl) (aCall (fid := 16) (args := [.string (bs r41)]) (d := 24) hf53 (by kernel_rfl) (by kernel_rfl) callable16 (script_Parse.calls _ _ r41 (hm48.give [] [] rfl rfl) r51 hr51) ?_)
  rintro _ w55 a56 ⟨b54, rfl, hb54, hk58⟩ hf57
  have hm59 := hm48.still hk58.cum.none
  refine go 5 [] [0, 1, 2, 7, 8, 9] [(0, .float .f64 b0), (1, .int .u64 x1), (2, .string (bs x2)), (7, .string (bs r41)), (8, .float .f64 b54), (9, .bool r51.2)] [] hf57 (by kernel_rfl) trivial fun a60 hf61 => ?_
  refine endL rfl ?_
  refine thenN ?_
  refine wp_seq ?_
  obtain ⟨g62, H0⟩ := if_guard H0
  obtain ⟨r63, hr63, H0⟩ := ob_split H0
  refine inReg ?_
  refine go 1 [] [0, 1, 2, 7, 8, 9, 27] [(0, .float .f64 b0), (1, .int .u64 x1), (2, .string (bs x2)), (7, .string (bs r41)), (8, .float .f64 b54), (9, .bool r51.2), (27, .int .u64 x1)] [] hf61 (by kernel_rfl) trivial fun a65 hf66 => ?_
  refine listOf hf66 rfl (by kernel_rfl) (aExtern (fid := 17) (args := [.int .u64 x1]) (d := 28) (R := fun v w' => v = .float .f64 ((x1).toNat) ∧ w55 = w') hf66 (by kernel_rfl) (by kernel_rfl) ⟨_, Tryd.func17, rfl, rfl, by kernel_rfl, rfl⟩ ⟨_, _, (by have h := run_frombits (P := Tryd.prog) (w := w55) (x1).toNat; rwa [Int.toNat_of_nonneg g62.1] at h), rfl, rfl⟩ ?_)
  rintro _ _ a68 ⟨rfl, rfl⟩ hf69
  have h70 : FR ((x1).toNat) (canon (x1).toNat) := (FR.canon (by omega))
  refine listOf hf69 rfl (by kernel_rfl) (aCall (fid := 15) (args := [.float .f64 ((x1).toNat)]) (d := 29) hf69 (by kernel_rfl) (by kernel_rfl) callable15 (script_Number.calls _ _ (canon (x1).toNat) ((x1).toNat) h70 (hm59.give [] [] rfl rfl) r63 hr63) ?_)
  rintro _ w71 a72 ⟨rfl, hk74⟩ hf73
  have hm75 := hm59.still hk74.cum.none
  refine go 1 [] [0, 1, 2, 7, 8, 9, 10] [(0, .float .f64 b0), (1, .int .u64 x1), (2, .string (bs x2)), (7, .string (bs r41)), (8, .float .f64 b54), (9, .bool r51.2), (10, .string (bs r63))] [] hf73 (by kernel_rfl) trivial fun a76 hf77 => ?_
  refine endL rfl ?_
  refine thenN ?_
  refine wp_seq ?_
  obtain ⟨r78, hr78, H0⟩ := ob_split H0
  refine inReg ?_
  refine go 1 [] [0, 1, 2, 7, 8, 9, 10, 31] [(0, .float .f64 b0), (1, .int .u64 x1), (2, .string (bs x2)), (7, .string (bs r41)), (8, .float .f64 b54), (9, .bool r51.2), (10, .string (bs r63)), (31, .string (bs x2))] [] hf77 (by kernel_rfl) trivial fun a79 hf80 => ?_
  refine listOf hf80 rfl (by kernel_rfl) (aCall (fid := 16) (args := [.string (bs x2)]) (d := 32) hf80 (by kernel_rfl) (by kernel_rfl) callable16 (script_Parse.calls _ _ x2 (hm75.give [] [] rfl rfl) r78 hr78) ?_)
  rintro _ w82 a83 ⟨b81, rfl, hb81, hk85⟩ hf84
  have hm86 := hm75.still hk85.cum.none
  refine go 5 [] [0, 1, 2, 7, 8, 9, 10, 11, 12] [(0, .float .f64 b0), (1, .int .u64 x1), (2, .string (bs x2)), (7, .string (bs r41)), (8, .float .f64 b54), (9, .bool r51.2), (10, .string (bs r63)), (11, .float .f64 b81), (12, .bool r78.2)] [] hf84 (by kernel_rfl) trivial fun a87 hf88 => ?_
  refine endL rfl ?_
  refine thenN ?_
  refine wp_seq ?_
  obtain ⟨r89, hr89, H0⟩ := ob_split H0
  refine inReg ?_
  refine go 1 [] [0, 1, 7, 8, 9, 10, 11, 12, 36] [(0, .float .f64 b0), (1, .int .u64 x1), (7, .string (bs r41)), (8, .float .f64 b54), (9, .bool r51.2), (10, .string (bs r63)), (11, .float .f64 b81), (12, .bool r78.2), (36, .string (bs x2))] [] hf88 (by kernel_rfl) trivial fun a90 hf91 => ?_
  refine listOf hf91 rfl (by kernel_rfl) (aCall (fid := 18) (args := [.string (bs x2)]) (d := 37) hf91 (by kernel_rfl) (by kernel_rfl) callable18 (ref19_Parse.calls _ _ x2 (hm86.give [] [] rfl rfl) r89 hr89) ?_)
  rintro _ w93 a94 ⟨b92, rfl, hb92, hk96⟩ hf95
  have hm97 := hm86.still hk96.cum.none
  refine go 5 [] [0, 1, 7, 8, 9, 10, 11, 12, 13, 14] [(0, .float .f64 b0), (1, .int .u64 x1), (7, .string (bs r41)), (8, .float .f64 b54), (9, .bool r51.2), (10, .string (bs r63)), (11, .float .f64 b81), (12, .bool r78.2), (13, .float .f64 b92), (14, .bool r89.2)] [] hf95 (by kernel_rfl) trivial fun a98 hf99 => ?_
  refine endL rfl ?_
  refine thenN ?_
  refine wp_seq ?_
  obtain ⟨r100, hr100, H0⟩ := ob_split H0
  rcases if_split H0 with ⟨c101, H0⟩ | ⟨c101, H0⟩
  rotate_left
  · refine inReg ?_
    refine go 2 [] [0, 1, 8, 9, 10, 11, 12, 13, 14, 40, 41] [(0, .float .f64 b0), (1, .int .u64 x1), (8, .float .f64 b54), (9, .bool r51.2), (10, .string (bs r63)), (11, .float .f64 b81), (12, .bool r78.2), (13, .float .f64 b92), (14, .bool r89.2), (40, .string (bs r41)), (41, .float .f64 b0)] [] hf99 (by kernel_rfl) trivial fun a232 hf233 => ?_
    refine listOf hf233 rfl (by kernel_rfl) (aCall (fid := 19) (args := [.float .f64 b0]) (d := 42) hf233 (by kernel_rfl) (by kernel_rfl) callable19 (ref19_Number.calls _ _ x0 b0 h0 (hm97.give [] [] rfl rfl) r100 hr100) ?_)
    rintro _ w234 a235 ⟨rfl, hk237⟩ hf236
    have hm238 := hm97.still hk237.cum.none
    refine go 27 [.bool false] [6] [(6, .bool false)] [.is ((decide (bs r41 = bs r100)) = false)] hf236 (by kernel_rfl) ⟨(seF c101), trivial⟩ fun a239 hf240 => ?_
    refine endL rfl ?_
    refine thenN ?_
    refine wp_ret ?_
    have hm241 : Mem [] M w0 [] w234 := hm238.sel [] _ rfl (by kernel_rfl)
    obtain rfl := Option.some.inj H0
    refine ret [] [.bool false] [] hf240 (by kernel_rfl) trivial ?_
    exact ⟨_, rfl, rfl, hm241⟩
  rcases ifb_split H0 with ⟨c102, H0⟩ | ⟨c102, H0⟩
  rotate_left
  · rw [c102] at hf99
    refine inReg ?_
    refine go 2 [] [0, 1, 8, 9, 10, 11, 12, 13, 14, 40, 41] [(0, .float .f64 b0), (1, .int .u64 x1), (8, .float .f64 b54), (9, .bool false), (10, .string (bs r63)), (11, .float .f64 b81), (12, .bool r78.2), (13, .float .f64 b92), (14, .bool r89.2), (40, .string (bs r41)), (41, .float .f64 b0)] [] hf99 (by kernel_rfl) trivial fun a221 hf222 => ?_
    refine listOf hf222 rfl (by kernel_rfl) (aCall (fid := 19) (args := [.float .f64 b0]) (d := 42) hf222 (by kernel_rfl) (by kernel_rfl) callable19 (ref19_Number.calls _ _ x0 b0 h0 (hm97.give [] [] rfl rfl) r100 hr100) ?_)
    rintro _ w223 a224 ⟨rfl, hk226⟩ hf225
    have hm227 := hm97.still hk226.cum.none
    refine go 27 [.bool true] [6] [(6, .bool false)] [.is ((decide (bs r41 = bs r100)) = true)] hf225 (by kernel_rfl) ⟨(seT c101), trivial⟩ fun a228 hf229 => ?_
    refine endL rfl ?_
    refine thenN ?_
    refine wp_ret ?_
    have hm230 : Mem [] M w0 [] w223 := hm227.sel [] _ rfl (by kernel_rfl)
    obtain rfl := Option.some.inj H0
    refine ret [] [.bool false] [] hf229 (by kernel_rfl) trivial ?_
    exact ⟨_, rfl, rfl, hm230⟩
  rw [c102] at hf99
  obtain ⟨r103, hr103, H0⟩ := ob_split H0
  rcases ifb_split H0 with ⟨c104, H0⟩ | ⟨c104, H0⟩
  rotate_left
  · refine inReg ?_
    refine go 2 [] [0, 1, 8, 9, 10, 11, 12, 13, 14, 40, 41] [(0, .float .f64 b0), (1, .int .u64 x1), (8, .float .f64 b54), (9, .bool true), (10, .string (bs r63)), (11, .float .f64 b81), (12, .bool r78.2), (13, .float .f64 b92), (14, .bool r89.2), (40, .string (bs r41)), (41, .float .f64 b0)] [] hf99 (by kernel_rfl) trivial fun a203 hf204 => ?_
    refine listOf hf204 rfl (by kernel_rfl) (aCall (fid := 19) (args := [.float .f64 b0]) (d := 42) hf204 (by kernel_rfl) (by kernel_rfl) callable19 (ref19_Number.calls _ _ x0 b0 h0 (hm97.give [] [] rfl rfl) r100 hr100) ?_)
    rintro _ w205 a206 ⟨rfl, hk208⟩ hf207
    have hm209 := hm97.still hk208.cum.none
    refine go 7 [.bool true] [1, 10, 11, 12, 13, 14, 47, 48, 49] [(1, .int .u64 x1), (10, .string (bs r63)), (11, .float .f64 b81), (12, .bool r78.2), (13, .float .f64 b92), (14, .bool r89.2), (47, .bool true), (48, .float .f64 b0), (49, .float .f64 b54)] [.is ((decide (bs r41 = bs r100)) = true)] hf207 (by kernel_rfl) ⟨(seT c101), trivial⟩ fun a210 hf211 => ?_
    refine listOf hf211 rfl (by kernel_rfl) (aCall (fid := 20) (args := [.float .f64 b0, .float .f64 b54]) (d := 50) hf211 (by kernel_rfl) (by kernel_rfl) callable20 (ref1_Same.calls _ _ x0 b0 h0 r51.1 b54 hb54 (hm209.give [] [] rfl rfl) r103 hr103) ?_)
    rintro _ w212 a213 ⟨rfl, hk215⟩ hf214
    have hm216 := hm209.still hk215.cum.none
    rw [c104] at hf214
    refine go 19 [] [6] [(6, .bool false)] [] hf214 (by kernel_rfl) trivial fun a217 hf218 => ?_
    refine endL rfl ?_
    refine thenN ?_
    refine wp_ret ?_
    have hm219 : Mem [] M w0 [] w212 := hm216.sel [] _ rfl (by kernel_rfl)
    obtain rfl := Option.some.inj H0
    refine ret [] [.bool false] [] hf218 (by kernel_rfl) trivial ?_
    exact ⟨_, rfl, rfl, hm219⟩
  obtain ⟨r105, hr105, H0⟩ := ob_split H0
  rcases if_split H0 with ⟨c106, H0⟩ | ⟨c106, H0⟩
  rotate_left
  · refine inReg ?_
    refine go 2 [] [0, 1, 8, 9, 10, 11, 12, 13, 14, 40, 41] [(0, .float .f64 b0), (1, .int .u64 x1), (8, .float .f64 b54), (9, .bool true), (10, .string (bs r63)), (11, .float .f64 b81), (12, .bool r78.2), (13, .float .f64 b92), (14, .bool r89.2), (40, .string (bs r41)), (41, .float .f64 b0)] [] hf99 (by kernel_rfl) trivial fun a174 hf175 => ?_
    refine listOf hf175 rfl (by kernel_rfl) (aCall (fid := 19) (args := [.float .f64 b0]) (d := 42) hf175 (by kernel_rfl) (by kernel_rfl) callable19 (ref19_Number.calls _ _ x0 b0 h0 (hm97.give [] [] rfl rfl) r100 hr100) ?_)
    rintro _ w176 a177 ⟨rfl, hk179⟩ hf178
    have hm180 := hm97.still hk179.cum.none
    refine go 7 [.bool true] [1, 10, 11, 12, 13, 14, 47, 48, 49] [(1, .int .u64 x1), (10, .string (bs r63)), (11, .float .f64 b81), (12, .bool r78.2), (13, .float .f64 b92), (14, .bool r89.2), (47, .bool true), (48, .float .f64 b0), (49, .float .f64 b54)] [.is ((decide (bs r41 = bs r100)) = true)] hf178 (by kernel_rfl) ⟨(seT c101), trivial⟩ fun a181 hf182 => ?_
    refine listOf hf182 rfl (by kernel_rfl) (aCall (fid := 20) (args := [.float .f64 b0, .float .f64 b54]) (d := 50) hf182 (by kernel_rfl) (by kernel_rfl) callable20 (ref1_Same.calls _ _ x0 b0 h0 r51.1 b54 hb54 (hm180.give [] [] rfl rfl) r103 hr103) ?_)
    rintro _ w183 a184 ⟨rfl, hk186⟩ hf185
    have hm187 := hm180.still hk186.cum.none
    rw [c104] at hf185
    refine go 4 [] [11, 12, 13, 14, 52, 53, 54] [(11, .float .f64 b81), (12, .bool r78.2), (13, .float .f64 b92), (14, .bool r89.2), (52, .bool true), (53, .string (bs r63)), (54, .int .u64 x1)] [] hf185 (by kernel_rfl) trivial fun a188 hf189 => ?_
    refine listOf hf189 rfl (by kernel_rfl) (aExtern (fid := 17) (args := [.int .u64 x1]) (d := 55) (R := fun v w' => v = .float .f64 ((x1).toNat) ∧ w183 = w') hf189 (by kernel_rfl) (by kernel_rfl) ⟨_, Tryd.func17, rfl, rfl, by kernel_rfl, rfl⟩ ⟨_, _, (by have h := run_frombits (P := Tryd.prog) (w := w183) (x1).toNat; rwa [Int.toNat_of_nonneg g62.1] at h), rfl, rfl⟩ ?_)
    rintro _ _ a191 ⟨rfl, rfl⟩ hf192
    have h193 : FR ((x1).toNat) (canon (x1).toNat) := (FR.canon (by omega))
    refine listOf hf192 rfl (by kernel_rfl) (aCall (fid := 19) (args := [.float .f64 ((x1).toNat)]) (d := 56) hf192 (by kernel_rfl) (by kernel_rfl) callable19 (ref19_Number.calls _ _ (canon (x1).toNat) ((x1).toNat) h193 (hm187.give [] [] rfl rfl) r105 hr105) ?_)
    rintro _ w194 a195 ⟨rfl, hk197⟩ hf196
    have hm198 := hm187.still hk197.cum.none
    refine go 13 [.bool false] [6] [(6, .bool false)] [.is ((decide (bs r63 = bs r105)) = false)] hf196 (by kernel_rfl) ⟨(seF c106), trivial⟩ fun a199 hf200 => ?_
    refine endL rfl ?_
    refine thenN ?_
    refine wp_ret ?_
    have hm201 : Mem [] M w0 [] w194 := hm198.sel [] _ rfl (by kernel_rfl)
    obtain rfl := Option.some.inj H0
    refine ret [] [.bool false] [] hf200 (by kernel_rfl) trivial ?_
    exact ⟨_, rfl, rfl, hm201⟩
  rcases ifb_split H0 with ⟨c107, H0⟩ | ⟨c107, H0⟩
  rotate_left
  · refine inReg ?_
    refine go 2 [] [0, 1, 8, 9, 10, 11, 12, 13, 14, 40, 41] [(0, .float .f64 b0), (1, .int .u64 x1), (8, .float .f64 b54), (9, .bool true), (10, .string (bs r63)), (11, .float .f64 b81), (12, .bool r78.2), (13, .float .f64 b92), (14, .bool r89.2), (40, .string (bs r41)), (41, .float .f64 b0)] [] hf99 (by kernel_rfl) trivial fun a145 hf146 => ?_
    refine listOf hf146 rfl (by kernel_rfl) (aCall (fid := 19) (args := [.float .f64 b0]) (d := 42) hf146 (by kernel_rfl) (by kernel_rfl) callable19 (ref19_Number.calls _ _ x0 b0 h0 (hm97.give [] [] rfl rfl) r100 hr100) ?_)
    rintro _ w147 a148 ⟨rfl, hk150⟩ hf149
    have hm151 := hm97.still hk150.cum.none
    refine go 7 [.bool true] [1, 10, 11, 12, 13, 14, 47, 48, 49] [(1, .int .u64 x1), (10, .string (bs r63)), (11, .float .f64 b81), (12, .bool r78.2), (13, .float .f64 b92), (14, .bool r89.2), (47, .bool true), (48, .float .f64 b0), (49, .float .f64 b54)] [.is ((decide (bs r41 = bs r100)) = true)] hf149 (by kernel_rfl) ⟨(seT c101), trivial⟩ fun a152 hf153 => ?_
    refine listOf hf153 rfl (by kernel_rfl) (aCall (fid := 20) (args := [.float .f64 b0, .float .f64 b54]) (d := 50) hf153 (by kernel_rfl) (by kernel_rfl) callable20 (ref1_Same.calls _ _ x0 b0 h0 r51.1 b54 hb54 (hm151.give [] [] rfl rfl) r103 hr103) ?_)
    rintro _ w154 a155 ⟨rfl, hk157⟩ hf156
    have hm158 := hm151.still hk157.cum.none
    rw [c104] at hf156
    refine go 4 [] [11, 12, 13, 14, 52, 53, 54] [(11, .float .f64 b81), (12, .bool r78.2), (13, .float .f64 b92), (14, .bool r89.2), (52, .bool true), (53, .string (bs r63)), (54, .int .u64 x1)] [] hf156 (by kernel_rfl) trivial fun a159 hf160 => ?_
    refine listOf hf160 rfl (by kernel_rfl) (aExtern (fid := 17) (args := [.int .u64 x1]) (d := 55) (R := fun v w' => v = .float .f64 ((x1).toNat) ∧ w154 = w') hf160 (by kernel_rfl) (by kernel_rfl) ⟨_, Tryd.func17, rfl, rfl, by kernel_rfl, rfl⟩ ⟨_, _, (by have h := run_frombits (P := Tryd.prog) (w := w154) (x1).toNat; rwa [Int.toNat_of_nonneg g62.1] at h), rfl, rfl⟩ ?_)
    rintro _ _ a162 ⟨rfl, rfl⟩ hf163
    have h164 : FR ((x1).toNat) (canon (x1).toNat) := (FR.canon (by omega))
    refine listOf hf163 rfl (by kernel_rfl) (aCall (fid := 19) (args := [.float .f64 ((x1).toNat)]) (d := 56) hf163 (by kernel_rfl) (by kernel_rfl) callable19 (ref19_Number.calls _ _ (canon (x1).toNat) ((x1).toNat) h164 (hm158.give [] [] rfl rfl) r105 hr105) ?_)
    rintro _ w165 a166 ⟨rfl, hk168⟩ hf167
    have hm169 := hm158.still hk168.cum.none
    refine go 13 [.bool true, .bool false] [6] [(6, .bool false)] [.is ((decide (bs r63 = bs r105)) = true), .is ((r78.2 == r89.2) = false)] hf167 (by kernel_rfl) ⟨(seT c106), c107, trivial⟩ fun a170 hf171 => ?_
    refine endL rfl ?_
    refine thenN ?_
    refine wp_ret ?_
    have hm172 : Mem [] M w0 [] w165 := hm169.sel [] _ rfl (by kernel_rfl)
    obtain rfl := Option.some.inj H0
    refine ret [] [.bool false] [] hf171 (by kernel_rfl) trivial ?_
    exact ⟨_, rfl, rfl, hm172⟩
  obtain ⟨r108, hr108, H0⟩ := ob_split H0
  refine inReg ?_
  refine go 2 [] [0, 1, 8, 9, 10, 11, 12, 13, 14, 40, 41] [(0, .float .f64 b0), (1, .int .u64 x1), (8, .float .f64 b54), (9, .bool true), (10, .string (bs r63)), (11, .float .f64 b81), (12, .bool r78.2), (13, .float .f64 b92), (14, .bool r89.2), (40, .string (bs r41)), (41, .float .f64 b0)] [] hf99 (by kernel_rfl) trivial fun a109 hf110 => ?_
  refine listOf hf110 rfl (by kernel_rfl) (aCall (fid := 19) (args := [.float .f64 b0]) (d := 42) hf110 (by kernel_rfl) (by kernel_rfl) callable19 (ref19_Number.calls _ _ x0 b0 h0 (hm97.give [] [] rfl rfl) r100 hr100) ?_)
  rintro _ w111 a112 ⟨rfl, hk114⟩ hf113
  have hm115 := hm97.still hk114.cum.none
  refine go 7 [.bool true] [1, 10, 11, 12, 13, 14, 47, 48, 49] [(1, .int .u64 x1), (10, .string (bs r63)), (11, .float .f64 b81), (12, .bool r78.2), (13, .float .f64 b92), (14, .bool r89.2), (47, .bool true), (48, .float .f64 b0), (49, .float .f64 b54)] [.is ((decide (bs r41 = bs r100)) = true)] hf113 (by kernel_rfl) ⟨(seT c101), trivial⟩ fun a116 hf117 => ?_
  refine listOf hf117 rfl (by kernel_rfl) (aCall (fid := 20) (args := [.float .f64 b0, .float .f64 b54]) (d := 50) hf117 (by kernel_rfl) (by kernel_rfl) callable20 (ref1_Same.calls _ _ x0 b0 h0 r51.1 b54 hb54 (hm115.give [] [] rfl rfl) r103 hr103) ?_)
  rintro _ w118 a119 ⟨rfl, hk121⟩ hf120
  have hm122 := hm115.still hk121.cum.none
  rw [c104] at hf120
  refine go 4 [] [11, 12, 13, 14, 52, 53, 54] [(11, .float .f64 b81), (12, .bool r78.2), (13, .float .f64 b92), (14, .bool r89.2), (52, .bool true), (53, .string (bs r63)), (54, .int .u64 x1)] [] hf120 (by kernel_rfl) trivial fun a123 hf124 => ?_
  refine listOf hf124 rfl (by kernel_rfl) (aExtern (fid := 17) (args := [.int .u64 x1]) (d := 55) (R := fun v w' => v = .float .f64 ((x1).toNat) ∧ w118 = w') hf124 (by kernel_rfl) (by kernel_rfl) ⟨_, Tryd.func17, rfl, rfl, by kernel_rfl, rfl⟩ ⟨_, _, (by have h := run_frombits (P := Tryd.prog) (w := w118) (x1).toNat; rwa [Int.toNat_of_nonneg g62.1] at h), rfl, rfl⟩ ?_)
  rintro _ _ a126 ⟨rfl, rfl⟩ hf127
  have h128 : FR ((x1).toNat) (canon (x1).toNat) := (FR.canon (by omega))
  refine listOf hf127 rfl (by kernel_rfl) (aCall (fid := 19) (args := [.float .f64 ((x1).toNat)]) (d := 56) hf127 (by kernel_rfl) (by kernel_rfl) callable19 (ref19_Number.calls _ _ (canon (x1).toNat) ((x1).toNat) h128 (hm122.give [] [] rfl rfl) r105 hr105) ?_)
  rintro _ w129 a130 ⟨rfl, hk132⟩ hf131
  have hm133 := hm122.still hk132.cum.none
  refine go 10 [.bool true, .bool true] [64, 65, 66] [(64, .bool true), (65, .float .f64 b81), (66, .float .f64 b92)] [.is ((decide (bs r63 = bs r105)) = true), .is ((r78.2 == r89.2) = true)] hf131 (by kernel_rfl) ⟨(seT c106), c107, trivial⟩ fun a134 hf135 => ?_
  refine listOf hf135 rfl (by kernel_rfl) (aCall (fid := 20) (args := [.float .f64 b81, .float .f64 b92]) (d := 67) hf135 (by kernel_rfl) (by kernel_rfl) callable20 (ref1_Same.calls _ _ r78.1 b81 hb81 r89.1 b92 hb92 (hm133.give [] [] rfl rfl) r108 hr108) ?_)
  rintro _ w136 a137 ⟨rfl, hk139⟩ hf138
  have hm140 := hm133.still hk139.cum.none
  refine go 2 [] [6] [(6, .bool r108)] [] hf138 (by kernel_rfl) trivial fun a141 hf142 => ?_
  refine endL rfl ?_
  refine thenN ?_
  refine wp_ret ?_
  have hm143 : Mem [] M w0 [] w136 := hm140.sel [] _ rfl (by kernel_rfl)
  obtain rfl := Option.some.inj H0
  refine ret [] [.bool r108] [] hf142 (by kernel_rfl) trivial ?_
  exact ⟨_, rfl, rfl, hm143⟩
end Go.Proofs.YtkdhahdfkonilaaDoor
