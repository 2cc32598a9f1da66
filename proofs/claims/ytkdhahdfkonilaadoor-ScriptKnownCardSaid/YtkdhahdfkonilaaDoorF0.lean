/- Printed by gen.py. -/
import Derived.Test.YtkdhahdfkonilaaDoorK
namespace Go.Proofs.YtkdhahdfkonilaaDoor
open Go Go.RowKit
set_option linter.unusedSimpArgs false
set_option linter.unusedVariables false
set_option linter.unnecessarySimpa false
/-! ### backstitch/op.May -/
noncomputable def op_May.f (x0 : Int) : Option Bool :=
  if 1 ≤ x0 then (if x0 ≤ 16 then (some true)
  else (some false))
  else (some false)
set_option maxRecDepth 100000 in
set_option maxHeartbeats 4000000 in
theorem op_May.calls (M : List (Option Nat)) (w0 : World) (x0 : Int) (hm0 : Mem [] M w0 [] w0) (r : Bool) (H0 : op_May.f x0 = some r) :
    Calls Tryd.prog 36 [.int .i64 x0].toArray w0 (fun x w' => ∃ v, x = .returned v ∧ v = .bool r ∧ Mem [] M w0 [] w') := by
  unfold op_May.f at H0
  refine enter (n := 9) Tryd.func36 rfl rfl (by kernel_rfl) fun a0 (hf0 : Fr 9 a0 [(0, .int .i64 x0)]) => ?_
  refine wp_seq ?_
  refine reg [] [0] [(0, .int .i64 x0)] [] hf0 (by kernel_rfl) trivial fun a21 hf22 => ?_
  refine thenN ?_
  refine wp_seq ?_
  rcases if_split H0 with ⟨c23, H0⟩ | ⟨c23, H0⟩
  rotate_left
  · refine reg [.bool false] [2] [(2, .bool false)] [.is (decide (1 ≤ x0) = false)] hf22 (by kernel_rfl) ⟨(decide_eq_false c23), trivial⟩ fun a33 hf34 => ?_
    refine thenN ?_
    refine wp_ret ?_
    have hm35 : Mem [] M w0 [] w0 := hm0.sel [] _ rfl (by kernel_rfl)
    obtain rfl := Option.some.inj H0
    refine ret [] [.bool false] [] hf34 (by kernel_rfl) trivial ?_
    exact ⟨_, rfl, rfl, hm35⟩
  rcases if_split H0 with ⟨c24, H0⟩ | ⟨c24, H0⟩
  · refine reg [.bool true, .bool true] [2] [(2, .bool true)] [.is (decide (1 ≤ x0) = true), .is (decide (x0 ≤ 16) = true)] hf22 (by kernel_rfl) ⟨(decide_eq_true c23), (decide_eq_true c24), trivial⟩ fun a25 hf26 => ?_
    refine thenN ?_
    refine wp_ret ?_
    have hm27 : Mem [] M w0 [] w0 := hm0.sel [] _ rfl (by kernel_rfl)
    obtain rfl := Option.some.inj H0
    refine ret [] [.bool true] [] hf26 (by kernel_rfl) trivial ?_
    exact ⟨_, rfl, rfl, hm27⟩
  refine reg [.bool true, .bool false] [2] [(2, .bool false)] [.is (decide (1 ≤ x0) = true), .is (decide (x0 ≤ 16) = false)] hf22 (by kernel_rfl) ⟨(decide_eq_true c23), (decide_eq_false c24), trivial⟩ fun a29 hf30 => ?_
  refine thenN ?_
  refine wp_ret ?_
  have hm31 : Mem [] M w0 [] w0 := hm0.sel [] _ rfl (by kernel_rfl)
  obtain rfl := Option.some.inj H0
  refine ret [] [.bool false] [] hf30 (by kernel_rfl) trivial ?_
  exact ⟨_, rfl, rfl, hm31⟩

/-! ### backstitch/op.Name -/
noncomputable def op_Name.f (x0 : Int) : Option (List UInt8) :=
  (op_May.f x0).bind fun r23 =>
  if r23 = true then ((strings_Fields.f ([108, 101, 97, 102, 32, 99, 111, 110, 115, 116, 32, 112, 97, 114, 97, 109, 32, 97, 100, 100, 32, 115, 117, 98, 32, 109, 117, 108, 32, 100, 105, 118, 32, 110, 101, 103, 32, 101, 120, 112, 32, 108, 111, 103, 32, 114, 101, 108, 117, 32, 109, 97, 116, 109, 117, 108, 32, 115, 117, 109, 32, 98, 114, 111, 97, 100, 99, 97, 115, 116, 32, 114, 101, 115, 104, 97, 112, 101, 32, 99, 97, 108, 108] : List UInt8)).bind fun r34 =>
  if 0 ≤ (w64 (x0 - 1)) ∧ (w64 (x0 - 1)) < (r34.length : Int) then (some (rd r34 (w64 (x0 - 1))))
  else none)
  else (some ([] : List UInt8))
set_option maxRecDepth 100000 in
set_option maxHeartbeats 4000000 in
theorem op_Name.calls (M : List (Option Nat)) (w0 : World) (x0 : Int) (hm0 : Mem [] M w0 [] w0) (r : (List UInt8)) (H0 : op_Name.f x0 = some r) (hG : Glob [] w0) :
    Calls Tryd.prog 37 [.int .i64 x0].toArray w0 (fun x w' => ∃ v, x = .returned v ∧ v = .string (bs r) ∧ Mem [] M w0 [] w') := by
  unfold op_Name.f at H0
  refine enter (n := 11) Tryd.func37 rfl rfl (by kernel_rfl) fun a0 (hf0 : Fr 11 a0 [(0, .int .i64 x0)]) => ?_
  refine wp_seq ?_
  refine reg [] [0] [(0, .int .i64 x0)] [] hf0 (by kernel_rfl) trivial fun a21 hf22 => ?_
  refine thenN ?_
  refine wp_seq ?_
  refine wp_seq ?_
  obtain ⟨r23, hr23, H0⟩ := ob_split H0
  rcases ifb_split H0 with ⟨c24, H0⟩ | ⟨c24, H0⟩
  rotate_left
  · refine inReg ?_
    refine go 1 [] [0, 3] [(0, .int .i64 x0), (3, .int .i64 x0)] [] hf22 (by kernel_rfl) trivial fun a50 hf51 => ?_
    refine listOf hf51 rfl (by kernel_rfl) (aCall (fid := 36) (args := [.int .i64 x0]) (d := 4) hf51 (by kernel_rfl) (by kernel_rfl) callable36 (op_May.calls _ _ x0 (hm0.give [] [] rfl rfl) r23 hr23) ?_)
    rintro _ w52 a53 ⟨rfl, hk55⟩ hf54
    have hm56 := hm0.still hk55.cum.none
    rw [c24] at hf54
    refine go 1 [] [0, 5] [(0, .int .i64 x0), (5, .bool true)] [] hf54 (by kernel_rfl) trivial fun a57 hf58 => ?_
    refine endL rfl ?_
    refine thenN ?_
    refine condT hf58 (by kernel_rfl) ?_
    refine wp_seq ?_
    refine reg [] [2] [(2, .string (bs ([] : List UInt8)))] [] hf58 (by kernel_rfl) trivial fun a59 hf60 => ?_
    refine thenN ?_
    refine wp_ret ?_
    refine thenR ?_
    have hm61 : Mem [] M w0 [] w52 := hm56.sel [] _ rfl (by kernel_rfl)
    obtain rfl := Option.some.inj H0
    refine ret [] [.string (bs ([] : List UInt8))] [] hf60 (by kernel_rfl) trivial ?_
    exact ⟨_, rfl, rfl, hm61⟩
  refine inReg ?_
  refine go 1 [] [0, 3] [(0, .int .i64 x0), (3, .int .i64 x0)] [] hf22 (by kernel_rfl) trivial fun a25 hf26 => ?_
  refine listOf hf26 rfl (by kernel_rfl) (aCall (fid := 36) (args := [.int .i64 x0]) (d := 4) hf26 (by kernel_rfl) (by kernel_rfl) callable36 (op_May.calls _ _ x0 (hm0.give [] [] rfl rfl) r23 hr23) ?_)
  rintro _ w27 a28 ⟨rfl, hk30⟩ hf29
  have hm31 := hm0.still hk30.cum.none
  rw [c24] at hf29
  refine go 1 [] [0, 5] [(0, .int .i64 x0), (5, .bool false)] [] hf29 (by kernel_rfl) trivial fun a32 hf33 => ?_
  refine endL rfl ?_
  refine thenN ?_
  refine condF hf33 (by kernel_rfl) ?_
  refine wp_skip ?_
  refine thenN ?_
  refine wp_seq ?_
  obtain ⟨r34, hr34, H0⟩ := ob_split H0
  obtain ⟨g35, H0⟩ := if_guard H0
  refine inReg ?_
  refine listOf hf33 rfl (by kernel_rfl) (aCall (fid := 47) (args := [.string (bs ([108, 101, 97, 102, 32, 99, 111, 110, 115, 116, 32, 112, 97, 114, 97, 109, 32, 97, 100, 100, 32, 115, 117, 98, 32, 109, 117, 108, 32, 100, 105, 118, 32, 110, 101, 103, 32, 101, 120, 112, 32, 108, 111, 103, 32, 114, 101, 108, 117, 32, 109, 97, 116, 109, 117, 108, 32, 115, 117, 109, 32, 98, 114, 111, 97, 100, 99, 97, 115, 116, 32, 114, 101, 115, 104, 97, 112, 101, 32, 99, 97, 108, 108] : List UInt8))]) (d := 6) hf33 (by kernel_rfl) (by kernel_rfl) callable47 (strings_Fields.calls _ _ ([108, 101, 97, 102, 32, 99, 111, 110, 115, 116, 32, 112, 97, 114, 97, 109, 32, 97, 100, 100, 32, 115, 117, 98, 32, 109, 117, 108, 32, 100, 105, 118, 32, 110, 101, 103, 32, 101, 120, 112, 32, 108, 111, 103, 32, 114, 101, 108, 117, 32, 109, 97, 116, 109, 117, 108, 32, 115, 117, 109, 32, 98, 114, 111, 97, 100, 99, 97, 115, 116, 32, 114, 101, 115, 104, 97, 112, 101, 32, 99, 97, 108, 108] : List UInt8) (hm31.give [] [] rfl rfl) r34 hr34 (hG.at hm31)) ?_)
  rintro _ w38 a39 ⟨A36, c37, rfl, hk41⟩ hf40
  have hm42 := hm31.back hk41
  have hm43 := hm42.seal 0 _ rfl rfl
  have q44 := (hm43.slAt 0 rfl).str (w64 (x0 - 1)) g35.1 g35.2
  refine go 5 [.string (bs (rd r34 (w64 (x0 - 1))))] [2] [(2, .string (bs (rd r34 (w64 (x0 - 1)))))] [.is (Option.isSome A36 = true), .is (0 ≤ (w64 (x0 - 1)) ∧ (w64 (x0 - 1)) < (r34.length : Int)), .cell ((ad A36).add (((w64 (x0 - 1))).toNat * 1)) (.string (bs (rd r34 (w64 (x0 - 1)))))] hf40 (by kernel_rfl) ⟨q44.1, g35, q44.2, trivial⟩ fun a45 hf46 => ?_
  refine endL rfl ?_
  have hm47 := hm43.sel [] _ rfl (by kernel_rfl)
  refine thenN ?_
  refine wp_ret ?_
  have hm48 : Mem [] M w0 [] w38 := hm47.sel [] _ rfl (by kernel_rfl)
  obtain rfl := Option.some.inj H0
  refine ret [] [.string (bs (rd r34 (w64 (x0 - 1))))] [] hf46 (by kernel_rfl) trivial ?_
  exact ⟨_, rfl, rfl, hm48⟩

/-! ### backstitch/script.number -/
noncomputable def script_number.f (x0 : (List UInt8)) : Option (Int × Bool) :=
  if 9 < (x0.length : Int) then (some (0, false))
  else ((strconv_Atoi.f x0).bind fun r32 =>
  if r32.2 = true then (if 0 ≤ r32.1 then ((strconv_Itoa.f r32.1).bind fun r45 =>
  if r45 = x0 then (some (r32.1, true))
  else (some (r32.1, false)))
  else (some (r32.1, false)))
  else (some (r32.1, false)))
set_option maxRecDepth 100000 in
set_option maxHeartbeats 4000000 in
theorem script_number.calls (M : List (Option Nat)) (w0 : World) (x0 : (List UInt8)) (hm0 : Mem [] M w0 [] w0) (r : (Int × Bool)) (H0 : script_number.f x0 = some r) (hG : Glob [] w0) :
    Calls Tryd.prog 53 [.string (bs x0)].toArray w0 (fun x w' => ∃ v, x = .returned v ∧ v = .tuple #[.int .i64 r.1, .bool r.2] ∧ Mem [] M w0 [] w') := by
  unfold script_number.f at H0
  refine enter (n := 27) Tryd.func53 rfl rfl (by kernel_rfl) fun a0 (hf0 : Fr 27 a0 [(0, .string (bs x0))]) => ?_
  refine wp_seq ?_
  refine reg [] [0] [(0, .string (bs x0))] [] hf0 (by kernel_rfl) trivial fun a21 hf22 => ?_
  refine thenN ?_
  refine wp_seq ?_
  refine wp_seq ?_
  rcases if_split H0 with ⟨c23, H0⟩ | ⟨c23, H0⟩
  · refine reg [.bool true] [0, 8] [(0, .string (bs x0)), (8, .bool true)] [.is (decide (9 < (x0.length : Int)) = true)] hf22 (by kernel_rfl) ⟨(decide_eq_true c23), trivial⟩ fun a24 hf25 => ?_
    refine thenN ?_
    refine condT hf25 (by kernel_rfl) ?_
    refine wp_seq ?_
    refine reg [] [2, 3] [(2, .int .i64 0), (3, .bool false)] [] hf25 (by kernel_rfl) trivial fun a26 hf27 => ?_
    refine thenN ?_
    refine wp_ret ?_
    refine thenR ?_
    have hm28 : Mem [] M w0 [] w0 := hm0.sel [] _ rfl (by kernel_rfl)
    obtain rfl := Option.some.inj H0
    refine ret [] [.int .i64 0, .bool false] [] hf27 (by kernel_rfl) trivial ?_
    exact ⟨_, rfl, rfl, hm28⟩
  refine reg [.bool false] [0, 8] [(0, .string (bs x0)), (8, .bool false)] [.is (decide (9 < (x0.length : Int)) = false)] hf22 (by kernel_rfl) ⟨(decide_eq_false c23), trivial⟩ fun a30 hf31 => ?_
  refine thenN ?_
  refine condF hf31 (by kernel_rfl) ?_
  refine wp_skip ?_
  refine thenN ?_
  refine wp_seq ?_
  obtain ⟨r32, hr32, H0⟩ := ob_split H0
  refine inReg ?_
  refine go 1 [] [0, 10] [(0, .string (bs x0)), (10, .string (bs x0))] [] hf31 (by kernel_rfl) trivial fun a33 hf34 => ?_
  refine listOf hf34 rfl (by kernel_rfl) (aCall (fid := 66) (args := [.string (bs x0)]) (d := 11) hf34 (by kernel_rfl) (by kernel_rfl) callable66 (strconv_Atoi.calls _ _ x0 (hm0.give [] [] rfl rfl) r32 hr32 (hG.at hm0)) ?_)
  rintro _ w36 a37 ⟨v35, rfl, hv35, hk39⟩ hf38
  have hm40 := hm0.still hk39.cum.none
  refine go 5 [] [0, 4, 5] [(0, .string (bs x0)), (4, .int .i64 r32.1), (5, v35)] [] hf38 (by kernel_rfl) trivial fun a41 hf42 => ?_
  refine endL rfl ?_
  refine thenN ?_
  refine wp_seq ?_
  rcases ifb_split H0 with ⟨c43, H0⟩ | ⟨c43, H0⟩
  rotate_left
  · refine inReg ?_
    refine go 2 [] [0, 4, 14, 15] [(0, .string (bs x0)), (4, .int .i64 r32.1), (14, .int .i64 r32.1), (15, v35)] [] hf42 (by kernel_rfl) trivial fun a86 hf87 => ?_
    refine listOf hf87 rfl (by kernel_rfl) (aErr (v := v35) (d := 16) (ok := r32.2) hf87 (by kernel_rfl) (by kernel_rfl) hv35 ?_)
    intro a88 hf89
    rw [c43] at hf89
    refine go 12 [] [2, 3] [(2, .int .i64 r32.1), (3, .bool false)] [] hf89 (by kernel_rfl) trivial fun a90 hf91 => ?_
    refine endL rfl ?_
    refine thenN ?_
    refine wp_ret ?_
    have hm92 : Mem [] M w0 [] w36 := hm40.sel [] _ rfl (by kernel_rfl)
    obtain rfl := Option.some.inj H0
    refine ret [] [.int .i64 r32.1, .bool false] [] hf91 (by kernel_rfl) trivial ?_
    exact ⟨_, rfl, rfl, hm92⟩
  rcases if_split H0 with ⟨c44, H0⟩ | ⟨c44, H0⟩
  rotate_left
  · refine inReg ?_
    refine go 2 [] [0, 4, 14, 15] [(0, .string (bs x0)), (4, .int .i64 r32.1), (14, .int .i64 r32.1), (15, v35)] [] hf42 (by kernel_rfl) trivial fun a78 hf79 => ?_
    refine listOf hf79 rfl (by kernel_rfl) (aErr (v := v35) (d := 16) (ok := r32.2) hf79 (by kernel_rfl) (by kernel_rfl) hv35 ?_)
    intro a80 hf81
    rw [c43] at hf81
    refine go 12 [.bool false] [2, 3] [(2, .int .i64 r32.1), (3, .bool false)] [.is (decide (0 ≤ r32.1) = false)] hf81 (by kernel_rfl) ⟨(decide_eq_false c44), trivial⟩ fun a82 hf83 => ?_
    refine endL rfl ?_
    refine thenN ?_
    refine wp_ret ?_
    have hm84 : Mem [] M w0 [] w36 := hm40.sel [] _ rfl (by kernel_rfl)
    obtain rfl := Option.some.inj H0
    refine ret [] [.int .i64 r32.1, .bool false] [] hf83 (by kernel_rfl) trivial ?_
    exact ⟨_, rfl, rfl, hm84⟩
  obtain ⟨r45, hr45, H0⟩ := ob_split H0
  rcases if_split H0 with ⟨c46, H0⟩ | ⟨c46, H0⟩
  · refine inReg ?_
    refine go 2 [] [0, 4, 14, 15] [(0, .string (bs x0)), (4, .int .i64 r32.1), (14, .int .i64 r32.1), (15, v35)] [] hf42 (by kernel_rfl) trivial fun a47 hf48 => ?_
    refine listOf hf48 rfl (by kernel_rfl) (aErr (v := v35) (d := 16) (ok := r32.2) hf48 (by kernel_rfl) (by kernel_rfl) hv35 ?_)
    intro a49 hf50
    rw [c43] at hf50
    refine go 6 [.bool true] [0, 14, 21, 22] [(0, .string (bs x0)), (14, .int .i64 r32.1), (21, .bool true), (22, .int .i64 r32.1)] [.is (decide (0 ≤ r32.1) = true)] hf50 (by kernel_rfl) ⟨(decide_eq_true c44), trivial⟩ fun a51 hf52 => ?_
    refine listOf hf52 rfl (by kernel_rfl) (aCall (fid := 48) (args := [.int .i64 r32.1]) (d := 23) hf52 (by kernel_rfl) (by kernel_rfl) callable48 (strconv_Itoa.calls _ _ r32.1 (hm40.give [] [] rfl rfl) r45 hr45 (hG.at hm40)) ?_)
    rintro _ w53 a54 ⟨rfl, hk56⟩ hf55
    have hm57 := hm40.still hk56.cum.none
    refine go 5 [.bool true] [2, 3] [(2, .int .i64 r32.1), (3, .bool true)] [.is ((decide (bs r45 = bs x0)) = true)] hf55 (by kernel_rfl) ⟨(seT c46), trivial⟩ fun a58 hf59 => ?_
    refine endL rfl ?_
    refine thenN ?_
    refine wp_ret ?_
    have hm60 : Mem [] M w0 [] w53 := hm57.sel [] _ rfl (by kernel_rfl)
    obtain rfl := Option.some.inj H0
    refine ret [] [.int .i64 r32.1, .bool true] [] hf59 (by kernel_rfl) trivial ?_
    exact ⟨_, rfl, rfl, hm60⟩
  refine inReg ?_
  refine go 2 [] [0, 4, 14, 15] [(0, .string (bs x0)), (4, .int .i64 r32.1), (14, .int .i64 r32.1), (15, v35)] [] hf42 (by kernel_rfl) trivial fun a62 hf63 => ?_
  refine listOf hf63 rfl (by kernel_rfl) (aErr (v := v35) (d := 16) (ok := r32.2) hf63 (by kernel_rfl) (by kernel_rfl) hv35 ?_)
  intro a65 hf66
  rw [c43] at hf66
  refine go 6 [.bool true] [0, 14, 21, 22] [(0, .string (bs x0)), (14, .int .i64 r32.1), (21, .bool true), (22, .int .i64 r32.1)] [.is (decide (0 ≤ r32.1) = true)] hf66 (by kernel_rfl) ⟨(decide_eq_true c44), trivial⟩ fun a67 hf68 => ?_
  refine listOf hf68 rfl (by kernel_rfl) (aCall (fid := 48) (args := [.int .i64 r32.1]) (d := 23) hf68 (by kernel_rfl) (by kernel_rfl) callable48 (strconv_Itoa.calls _ _ r32.1 (hm40.give [] [] rfl rfl) r45 hr45 (hG.at hm40)) ?_)
  rintro _ w69 a70 ⟨rfl, hk72⟩ hf71
  have hm73 := hm40.still hk72.cum.none
  refine go 5 [.bool false] [2, 3] [(2, .int .i64 r32.1), (3, .bool false)] [.is ((decide (bs r45 = bs x0)) = false)] hf71 (by kernel_rfl) ⟨(seF c46), trivial⟩ fun a74 hf75 => ?_
  refine endL rfl ?_
  refine thenN ?_
  refine wp_ret ?_
  have hm76 : Mem [] M w0 [] w69 := hm73.sel [] _ rfl (by kernel_rfl)
  obtain rfl := Option.some.inj H0
  refine ret [] [.int .i64 r32.1, .bool false] [] hf75 (by kernel_rfl) trivial ?_
  exact ⟨_, rfl, rfl, hm76⟩

/-! ### backstitch/real.Bits -/
noncomputable def real_Bits.f (x0 : Nat) : Option Int :=
  if (fne x0 x0) = true then (some 9221120237041090561)
  else (some (x0 : Int))
set_option maxRecDepth 100000 in
set_option maxHeartbeats 4000000 in
theorem real_Bits.calls (M : List (Option Nat)) (w0 : World) (x0 : Nat) (b0 : Nat) (h0 : FR b0 x0) (hm0 : Mem [] M w0 [] w0) (r : Int) (H0 : real_Bits.f x0 = some r) :
    Calls Tryd.prog 33 [.float .f64 b0].toArray w0 (fun x w' => ∃ v, x = .returned v ∧ v = .int .u64 r ∧ Mem [] M w0 [] w') := by
  unfold real_Bits.f at H0
  refine enter (n := 8) Tryd.func33 rfl rfl (by kernel_rfl) fun a0 (hf0 : Fr 8 a0 [(0, .float .f64 b0)]) => ?_
  refine wp_seq ?_
  refine reg [] [0] [(0, .float .f64 b0)] [] hf0 (by kernel_rfl) trivial fun a21 hf22 => ?_
  refine thenN ?_
  refine wp_seq ?_
  refine wp_seq ?_
  rcases ifb_split H0 with ⟨c23, H0⟩ | ⟨c23, H0⟩
  · refine reg [.bool true] [0, 5] [(0, .float .f64 b0), (5, .bool true)] [.is ((FloatKind.f64.format.order b0 b0 != some .eq) = true)] hf22 (by kernel_rfl) ⟨(ftNe h0 h0 c23), trivial⟩ fun a24 hf25 => ?_
    refine thenN ?_
    refine condT hf25 (by kernel_rfl) ?_
    refine wp_seq ?_
    refine reg [] [2] [(2, .int .u64 9221120237041090561)] [] hf25 (by kernel_rfl) trivial fun a26 hf27 => ?_
    refine thenN ?_
    refine wp_ret ?_
    refine thenR ?_
    have hm28 : Mem [] M w0 [] w0 := hm0.sel [] _ rfl (by kernel_rfl)
    obtain rfl := Option.some.inj H0
    refine ret [] [.int .u64 9221120237041090561] [] hf27 (by kernel_rfl) trivial ?_
    exact ⟨_, rfl, rfl, hm28⟩
  refine reg [.bool false] [0, 5] [(0, .float .f64 b0), (5, .bool false)] [.is ((FloatKind.f64.format.order b0 b0 != some .eq) = false)] hf22 (by kernel_rfl) ⟨(ftNe h0 h0 c23), trivial⟩ fun a30 hf31 => ?_
  refine thenN ?_
  refine condF hf31 (by kernel_rfl) ?_
  refine wp_skip ?_
  refine thenN ?_
  refine wp_seq ?_
  refine inReg ?_
  refine go 1 [] [6] [(6, .float .f64 b0)] [] hf31 (by kernel_rfl) trivial fun a32 hf33 => ?_
  refine listOf hf33 rfl (by kernel_rfl) (aExtern (fid := 45) (args := [.float .f64 b0]) (d := 7) (R := fun v w' => v = .int .u64 (x0 : Int) ∧ w0 = w') hf33 (by kernel_rfl) (by kernel_rfl) ⟨_, Tryd.func45, rfl, rfl, by kernel_rfl, rfl⟩ ⟨_, _, run_bits _, by rw [FR.bits h0 c23], rfl⟩ ?_)
  rintro _ _ a35 ⟨rfl, rfl⟩ hf36
  refine go 1 [] [2] [(2, .int .u64 (x0 : Int))] [] hf36 (by kernel_rfl) trivial fun a37 hf38 => ?_
  refine endL rfl ?_
  refine thenN ?_
  refine wp_ret ?_
  have hm39 : Mem [] M w0 [] w0 := hm0.sel [] _ rfl (by kernel_rfl)
  obtain rfl := Option.some.inj H0
  refine ret [] [.int .u64 (x0 : Int)] [] hf38 (by kernel_rfl) trivial ?_
  exact ⟨_, rfl, rfl, hm39⟩

/-! ### backstitch/script.Parse -/
noncomputable def script_Parse.l0 (x0 : (List UInt8)) (s30 : (Int × Int)) : Step (Int × Int) (Out2 (Int × Int) (Nat × Bool)) :=
  if s30.2 < (x0.length : Int) then (if 0 ≤ s30.2 ∧ s30.2 < (x0.length : Int) then (bindS (strings_IndexByte.f ([48, 49, 50, 51, 52, 53, 54, 55, 56, 57, 97, 98, 99, 100, 101, 102] : List UInt8) (chr x0 s30.2)) fun r43 =>
  if r43 < 0 then (.done (.ret (0, false)))
  else (.next ((bits .or .u64 (IntKind.wrap .u64 (s30.1 * 2 ^ 4)) (IntKind.wrap .u64 (r43))), (w64 (s30.2 + 1)))))
  else .bad)
  else (.done (.go (s30.1, s30.2)))
noncomputable def script_Parse.f (x0 : (List UInt8)) : Option (Nat × Bool) :=
  if (x0.length : Int) = 16 then ((loop (script_Parse.l0 x0) (0, 0)).bind fun r31 =>
  r31.on (fun yr31 =>
  if 0 ≤ yr31.1 ∧ yr31.1 < 18446744073709551616 then ((real_Bits.f (canon (yr31.1).toNat)).bind fun r82 =>
  if r82 = yr31.1 then (some ((canon (yr31.1).toNat), true))
  else (some (0, false)))
  else none) (fun y => some y))
  else (some (0, false))
set_option maxRecDepth 100000 in
set_option maxHeartbeats 4000000 in
theorem script_Parse.calls (M : List (Option Nat)) (w0 : World) (x0 : (List UInt8)) (hm0 : Mem [] M w0 [] w0) (r : (Nat × Bool)) (H0 : script_Parse.f x0 = some r) :
    Calls Tryd.prog 16 [.string (bs x0)].toArray w0 (fun x w' => ∃ v, x = .returned v ∧ ∃ br0, v = .tuple #[.float .f64 br0, .bool r.2] ∧ FR br0 r.1 ∧ Mem [] M w0 [] w') := by
  unfold script_Parse.f at H0
  refine enter (n := 35) Tryd.func16 rfl rfl (by kernel_rfl) fun a0 (hf0 : Fr 35 a0 [(0, .string (bs x0))]) => ?_
  refine wp_seq ?_
  refine reg [] [0] [(0, .string (bs x0))] [] hf0 (by kernel_rfl) trivial fun a21 hf22 => ?_
  refine thenN ?_
  refine wp_seq ?_
  refine wp_seq ?_
  rcases if_split H0 with ⟨c23, H0⟩ | ⟨c23, H0⟩
  rotate_left
  · refine reg [.bool true] [0, 10] [(0, .string (bs x0)), (10, .bool true)] [.is ((((x0.length : Int) : Int) != 16) = true)] hf22 (by kernel_rfl) ⟨(neT c23), trivial⟩ fun a110 hf111 => ?_
    refine thenN ?_
    refine condT hf111 (by kernel_rfl) ?_
    refine wp_seq ?_
    refine reg [] [2, 3] [(2, .float .f64 0), (3, .bool false)] [] hf111 (by kernel_rfl) trivial fun a112 hf113 => ?_
    refine thenN ?_
    refine wp_ret ?_
    refine thenR ?_
    have hm114 : Mem [] M w0 [] w0 := hm0.sel [] _ rfl (by kernel_rfl)
    obtain rfl := Option.some.inj H0
    refine ret [] [.float .f64 0, .bool false] [] hf113 (by kernel_rfl) trivial ?_
    exact ⟨_, rfl, 0, rfl, (FR.lit (by kernel_rfl) (by kernel_rfl)), hm114⟩
  refine reg [.bool false] [0, 10] [(0, .string (bs x0)), (10, .bool false)] [.is ((((x0.length : Int) : Int) != 16) = false)] hf22 (by kernel_rfl) ⟨(neF c23), trivial⟩ fun a24 hf25 => ?_
  refine thenN ?_
  refine condF hf25 (by kernel_rfl) ?_
  refine wp_skip ?_
  refine thenN ?_
  refine wp_seq ?_
  refine reg [] [0, 4] [(0, .string (bs x0)), (4, .int .u64 0)] [] hf25 (by kernel_rfl) trivial fun a26 hf27 => ?_
  refine thenN ?_
  refine wp_seq ?_
  refine wp_seq ?_
  refine reg [] [0, 4, 12, 13] [(0, .string (bs x0)), (4, .int .u64 0), (12, .int .i64 (x0.length : Int)), (13, .int .i64 0)] [] hf27 (by kernel_rfl) trivial fun a28 hf29 => ?_
  refine thenN ?_
  obtain ⟨r31, hr31, H0⟩ := ob_split H0
  refine wpBlock (Mid := fun (a : Act) (w : World) => ∃ yr31 : (Int × Int), r31 = .go yr31 ∧ Fr 35 a [(0, .string (bs x0)), (4, .int .u64 yr31.1), (12, .int .i64 (x0.length : Int)), (13, .int .i64 yr31.2)] ∧ Mem [] M w0 [] w) ?_ ?_
  · refine wpLoop (script_Parse.l0 x0) r31 (fun (s30 : (Int × Int)) (a : Act) (w : World) => Fr 35 a [(0, .string (bs x0)), (4, .int .u64 s30.1), (12, .int .i64 (x0.length : Int)), (13, .int .i64 s30.2)] ∧ Mem [] M w0 [] w) (0, 0) hr31 ⟨hf29.sel (l := [0, 4, 12, 13]) (by kernel_rfl), hm0.sel [] _ rfl (by kernel_rfl)⟩ ?_
    rintro g32 s30 a33 w34 H1 ⟨hf35, hm36⟩
    unfold script_Parse.l0 at H1
    refine wp_seq ?_
    rcases ifS_split H1 with ⟨c37, H1⟩ | ⟨c37, H1⟩
    rotate_left
    · refine reg [.bool false] [0, 4, 12, 13, 14] [(0, .string (bs x0)), (4, .int .u64 s30.1), (12, .int .i64 (x0.length : Int)), (13, .int .i64 s30.2), (14, .bool false)] [.is (decide (s30.2 < (x0.length : Int)) = false)] hf35 (by kernel_rfl) ⟨(decide_eq_false c37), trivial⟩ fun a67 hf68 => ?_
      refine thenN ?_
      refine wp_seq ?_
      refine condF hf68 (by kernel_rfl) ?_
      refine wp_exit ?_
      refine thenE ?_
      refine thenE ?_
      obtain rfl := Option.some.inj H1
      exact .inl ⟨rfl, (s30.1, s30.2), rfl, hf68.sel (l := [0, 4, 12, 13]) (by kernel_rfl), hm36.sel [] _ rfl (by kernel_rfl)⟩
    refine reg [.bool true] [0, 4, 12, 13, 14] [(0, .string (bs x0)), (4, .int .u64 s30.1), (12, .int .i64 (x0.length : Int)), (13, .int .i64 s30.2), (14, .bool true)] [.is (decide (s30.2 < (x0.length : Int)) = true)] hf35 (by kernel_rfl) ⟨(decide_eq_true c37), trivial⟩ fun a38 hf39 => ?_
    refine thenN ?_
    refine wp_seq ?_
    refine condT hf39 (by kernel_rfl) ?_
    refine wp_skip ?_
    refine thenN ?_
    refine wp_seq ?_
    refine wp_block ?_
    refine wp_seq ?_
    refine reg [] [0, 4, 5, 12, 13] [(0, .string (bs x0)), (4, .int .u64 s30.1), (5, .int .i64 s30.2), (12, .int .i64 (x0.length : Int)), (13, .int .i64 s30.2)] [] hf39 (by kernel_rfl) trivial fun a40 hf41 => ?_
    refine thenN ?_
    refine wp_seq ?_
    obtain ⟨g42, H1⟩ := ifS_guard H1
    obtain ⟨r43, hr43, H1⟩ := obS_split H1
    refine inReg ?_
    refine go 3 [.int .u8 (chr x0 s30.2)] [0, 4, 12, 13, 18] [(0, .string (bs x0)), (4, .int .u64 s30.1), (12, .int .i64 (x0.length : Int)), (13, .int .i64 s30.2), (18, .int .u8 (chr x0 s30.2))] [.is (0 ≤ s30.2 ∧ s30.2 < (x0.length : Int)), .is ((((bs x0)[(s30.2).toNat]?).getD 0).toNat = (chr x0 s30.2))] hf41 (by kernel_rfl) ⟨g42, (chr_eq x0 s30.2), trivial⟩ fun a44 hf45 => ?_
    refine listOf hf45 rfl (by kernel_rfl) (aCall (fid := 34) (args := [.string (bs ([48, 49, 50, 51, 52, 53, 54, 55, 56, 57, 97, 98, 99, 100, 101, 102] : List UInt8)), .int .u8 (chr x0 s30.2)]) (d := 19) hf45 (by kernel_rfl) (by kernel_rfl) callable34 (strings_IndexByte.calls _ _ ([48, 49, 50, 51, 52, 53, 54, 55, 56, 57, 97, 98, 99, 100, 101, 102] : List UInt8) (chr x0 s30.2) (hm36.give [] [] rfl rfl) r43 hr43) ?_)
    rintro _ w46 a47 ⟨rfl, hk49⟩ hf48
    have hm50 := hm36.still hk49.cum.none
    refine go 1 [] [0, 4, 6, 12, 13] [(0, .string (bs x0)), (4, .int .u64 s30.1), (6, .int .i64 r43), (12, .int .i64 (x0.length : Int)), (13, .int .i64 s30.2)] [] hf48 (by kernel_rfl) trivial fun a51 hf52 => ?_
    refine endL rfl ?_
    refine thenN ?_
    refine wp_seq ?_
    refine wp_seq ?_
    rcases ifS_split H1 with ⟨c53, H1⟩ | ⟨c53, H1⟩
    rotate_left
    · refine reg [.bool false] [0, 4, 6, 12, 13, 21] [(0, .string (bs x0)), (4, .int .u64 s30.1), (6, .int .i64 r43), (12, .int .i64 (x0.length : Int)), (13, .int .i64 s30.2), (21, .bool false)] [.is (decide (r43 < 0) = false)] hf52 (by kernel_rfl) ⟨(decide_eq_false c53), trivial⟩ fun a60 hf61 => ?_
      refine thenN ?_
      refine condF hf61 (by kernel_rfl) ?_
      refine wp_skip ?_
      refine thenN ?_
      refine reg [] [0, 4, 12, 13] [(0, .string (bs x0)), (4, .int .u64 (bits .or .u64 (IntKind.wrap .u64 (s30.1 * 2 ^ 4)) (IntKind.wrap .u64 (r43)))), (12, .int .i64 (x0.length : Int)), (13, .int .i64 s30.2)] [] hf61 (by kernel_rfl) trivial fun a62 hf63 => ?_
      refine blkN ?_
      refine thenN ?_
      refine reg [] [0, 4, 12, 13] [(0, .string (bs x0)), (4, .int .u64 (bits .or .u64 (IntKind.wrap .u64 (s30.1 * 2 ^ 4)) (IntKind.wrap .u64 (r43)))), (12, .int .i64 (x0.length : Int)), (13, .int .i64 (w64 (s30.2 + 1)))] [] hf63 (by kernel_rfl) trivial fun a65 hf66 => ?_
      exact ⟨((bits .or .u64 (IntKind.wrap .u64 (s30.1 * 2 ^ 4)) (IntKind.wrap .u64 (r43))), (w64 (s30.2 + 1))), H1, hf66.sel (l := [0, 4, 12, 13]) (by kernel_rfl), hm50.sel [] _ rfl (by kernel_rfl)⟩
    refine reg [.bool true] [0, 4, 6, 12, 13, 21] [(0, .string (bs x0)), (4, .int .u64 s30.1), (6, .int .i64 r43), (12, .int .i64 (x0.length : Int)), (13, .int .i64 s30.2), (21, .bool true)] [.is (decide (r43 < 0) = true)] hf52 (by kernel_rfl) ⟨(decide_eq_true c53), trivial⟩ fun a54 hf55 => ?_
    refine thenN ?_
    refine condT hf55 (by kernel_rfl) ?_
    refine wp_seq ?_
    refine reg [] [2, 3] [(2, .float .f64 0), (3, .bool false)] [] hf55 (by kernel_rfl) trivial fun a56 hf57 => ?_
    refine thenN ?_
    refine wp_ret ?_
    refine thenR ?_
    refine blkR ?_
    refine thenR ?_
    refine thenR ?_
    refine .inr ⟨rfl, ?_⟩
    refine thenR ?_
    have hm58 : Mem [] M w0 [] w46 := hm50.sel [] _ rfl (by kernel_rfl)
    obtain rfl := Option.some.inj H1
    obtain rfl := Option.some.inj H0
    refine ret [] [.float .f64 0, .bool false] [] hf57 (by kernel_rfl) trivial ?_
    exact ⟨_, rfl, 0, rfl, (FR.lit (by kernel_rfl) (by kernel_rfl)), hm58⟩
  rintro a69 w70 ⟨yr31, rfl, hf71, hm72⟩
  refine thenN ?_
  refine wp_seq ?_
  obtain ⟨g73, H0⟩ := if_guard H0
  refine inReg ?_
  refine go 1 [] [4, 28] [(4, .int .u64 yr31.1), (28, .int .u64 yr31.1)] [] hf71 (by kernel_rfl) trivial fun a74 hf75 => ?_
  refine listOf hf75 rfl (by kernel_rfl) (aExtern (fid := 17) (args := [.int .u64 yr31.1]) (d := 29) (R := fun v w' => v = .float .f64 ((yr31.1).toNat) ∧ w70 = w') hf75 (by kernel_rfl) (by kernel_rfl) ⟨_, Tryd.func17, rfl, rfl, by kernel_rfl, rfl⟩ ⟨_, _, (by have h := run_frombits (P := Tryd.prog) (w := w70) (yr31.1).toNat; rwa [Int.toNat_of_nonneg g73.1] at h), rfl, rfl⟩ ?_)
  rintro _ _ a77 ⟨rfl, rfl⟩ hf78
  have h79 : FR ((yr31.1).toNat) (canon (yr31.1).toNat) := (FR.canon (by omega))
  refine go 1 [] [4, 7] [(4, .int .u64 yr31.1), (7, .float .f64 ((yr31.1).toNat))] [] hf78 (by kernel_rfl) trivial fun a80 hf81 => ?_
  refine endL rfl ?_
  refine thenN ?_
  refine wp_seq ?_
  refine wp_seq ?_
  obtain ⟨r82, hr82, H0⟩ := ob_split H0
  rcases if_split H0 with ⟨c83, H0⟩ | ⟨c83, H0⟩
  rotate_left
  · refine inReg ?_
    refine go 1 [] [4, 7, 30] [(4, .int .u64 yr31.1), (7, .float .f64 ((yr31.1).toNat)), (30, .float .f64 ((yr31.1).toNat))] [] hf81 (by kernel_rfl) trivial fun a97 hf98 => ?_
    refine listOf hf98 rfl (by kernel_rfl) (aCall (fid := 33) (args := [.float .f64 ((yr31.1).toNat)]) (d := 31) hf98 (by kernel_rfl) (by kernel_rfl) callable33 (real_Bits.calls _ _ (canon (yr31.1).toNat) ((yr31.1).toNat) h79 (hm72.give [] [] rfl rfl) r82 hr82) ?_)
    rintro _ w99 a100 ⟨rfl, hk102⟩ hf101
    have hm103 := hm72.still hk102.cum.none
    refine go 2 [.bool true] [7, 33] [(7, .float .f64 ((yr31.1).toNat)), (33, .bool true)] [.is (((r82 : Int) != yr31.1) = true)] hf101 (by kernel_rfl) ⟨(neT c83), trivial⟩ fun a104 hf105 => ?_
    refine endL rfl ?_
    refine thenN ?_
    refine condT hf105 (by kernel_rfl) ?_
    refine wp_seq ?_
    refine reg [] [2, 3] [(2, .float .f64 0), (3, .bool false)] [] hf105 (by kernel_rfl) trivial fun a106 hf107 => ?_
    refine thenN ?_
    refine wp_ret ?_
    refine thenR ?_
    have hm108 : Mem [] M w0 [] w99 := hm103.sel [] _ rfl (by kernel_rfl)
    obtain rfl := Option.some.inj H0
    refine ret [] [.float .f64 0, .bool false] [] hf107 (by kernel_rfl) trivial ?_
    exact ⟨_, rfl, 0, rfl, (FR.lit (by kernel_rfl) (by kernel_rfl)), hm108⟩
  refine inReg ?_
  refine go 1 [] [4, 7, 30] [(4, .int .u64 yr31.1), (7, .float .f64 ((yr31.1).toNat)), (30, .float .f64 ((yr31.1).toNat))] [] hf81 (by kernel_rfl) trivial fun a84 hf85 => ?_
  refine listOf hf85 rfl (by kernel_rfl) (aCall (fid := 33) (args := [.float .f64 ((yr31.1).toNat)]) (d := 31) hf85 (by kernel_rfl) (by kernel_rfl) callable33 (real_Bits.calls _ _ (canon (yr31.1).toNat) ((yr31.1).toNat) h79 (hm72.give [] [] rfl rfl) r82 hr82) ?_)
  rintro _ w86 a87 ⟨rfl, hk89⟩ hf88
  have hm90 := hm72.still hk89.cum.none
  refine go 2 [.bool false] [7, 33] [(7, .float .f64 ((yr31.1).toNat)), (33, .bool false)] [.is (((r82 : Int) != yr31.1) = false)] hf88 (by kernel_rfl) ⟨(neF c83), trivial⟩ fun a91 hf92 => ?_
  refine endL rfl ?_
  refine thenN ?_
  refine condF hf92 (by kernel_rfl) ?_
  refine wp_skip ?_
  refine thenN ?_
  refine wp_seq ?_
  refine reg [] [2, 3] [(2, .float .f64 ((yr31.1).toNat)), (3, .bool true)] [] hf92 (by kernel_rfl) trivial fun a93 hf94 => ?_
  refine thenN ?_
  refine wp_ret ?_
  have hm95 : Mem [] M w0 [] w86 := hm90.sel [] _ rfl (by kernel_rfl)
  obtain rfl := Option.some.inj H0
  refine ret [] [.float .f64 ((yr31.1).toNat), .bool true] [] hf94 (by kernel_rfl) trivial ?_
  exact ⟨_, rfl, (yr31.1).toNat, rfl, h79, hm95⟩

/-! ### backstitch/script.hook -/
noncomputable def script_hook.f (x0 : (List UInt8)) : Option (Hook × Bool) :=
  (strings_Cut.f x0 ([44] : List UInt8)).bind fun r30 =>
  (script_number.f r30.1).bind fun r40 =>
  (script_Parse.f r30.2.1).bind fun r50 =>
  if r40.2 = true then (some ((⟨r40.1, r50.1⟩ : Hook), r50.2))
  else (some ((⟨r40.1, r50.1⟩ : Hook), false))
set_option maxRecDepth 100000 in
set_option maxHeartbeats 4000000 in
theorem script_hook.calls (M : List (Option Nat)) (w0 : World) (x0 : (List UInt8)) (hm0 : Mem [] M w0 [] w0) (r : (Hook × Bool)) (H0 : script_hook.f x0 = some r) (hG : Glob [] w0) :
    Calls Tryd.prog 54 [.string (bs x0)].toArray w0 (fun x w' => ∃ v, x = .returned v ∧ ∃ br0_1, v = .tuple #[.agg #[.int .i64 r.1.Do, .float .f64 br0_1], .bool r.2] ∧ FR br0_1 r.1.X ∧ Mem [] M w0 [] w') := by
  unfold script_hook.f at H0
  refine enter (n := 34) Tryd.func54 rfl rfl (by kernel_rfl) fun a0 (hf0 : Fr 34 a0 [(0, .string (bs x0))]) => ?_
  refine wp_seq ?_
  refine inReg ?_
  refine listOf hf0 rfl (by kernel_rfl) (aNew (cs := [.int .i64 0, .float .f64 0]) (T := 51) (d := 2) hf0 (by kernel_rfl) (by kernel_rfl) ?_)
  intro b21 w22 a23 hbb21 hx25 hg26 hf24
  have hm27 := hm0.box hbb21 hx25 hg26
  refine go 1 [] [0, 2] [(0, .string (bs x0)), (2, .pointer (some ⟨b21, 0, none⟩))] [] hf24 (by kernel_rfl) trivial fun a28 hf29 => ?_
  refine endL rfl ?_
  refine thenN ?_
  refine wp_seq ?_
  obtain ⟨r30, hr30, H0⟩ := ob_split H0
  refine inReg ?_
  refine go 1 [] [2, 12] [(2, .pointer (some ⟨b21, 0, none⟩)), (12, .string (bs x0))] [] hf29 (by kernel_rfl) trivial fun a31 hf32 => ?_
  refine listOf hf32 rfl (by kernel_rfl) (aCall (fid := 29) (args := [.string (bs x0), .string (bs ([44] : List UInt8))]) (d := 13) hf32 (by kernel_rfl) (by kernel_rfl) callable29 (strings_Cut.calls _ _ x0 ([44] : List UInt8) (hm27.give [] [] rfl rfl) r30 hr30 (hG.at hm27)) ?_)
  rintro _ w33 a34 ⟨rfl, hk36⟩ hf35
  have hm37 := hm27.still hk36.cum.none
  refine go 7 [] [2, 4, 5] [(2, .pointer (some ⟨b21, 0, none⟩)), (4, .string (bs r30.1)), (5, .string (bs r30.2.1))] [] hf35 (by kernel_rfl) trivial fun a38 hf39 => ?_
  refine endL rfl ?_
  refine thenN ?_
  refine wp_seq ?_
  obtain ⟨r40, hr40, H0⟩ := ob_split H0
  refine inReg ?_
  refine go 1 [] [2, 5, 18] [(2, .pointer (some ⟨b21, 0, none⟩)), (5, .string (bs r30.2.1)), (18, .string (bs r30.1))] [] hf39 (by kernel_rfl) trivial fun a41 hf42 => ?_
  refine listOf hf42 rfl (by kernel_rfl) (aCall (fid := 53) (args := [.string (bs r30.1)]) (d := 19) hf42 (by kernel_rfl) (by kernel_rfl) callable53 (script_number.calls _ _ r30.1 (hm37.give [] [] rfl rfl) r40 hr40 (hG.at hm37)) ?_)
  rintro _ w43 a44 ⟨rfl, hk46⟩ hf45
  have hm47 := hm37.still hk46.cum.none
  refine go 5 [] [2, 5, 7, 8] [(2, .pointer (some ⟨b21, 0, none⟩)), (5, .string (bs r30.2.1)), (7, .int .i64 r40.1), (8, .bool r40.2)] [] hf45 (by kernel_rfl) trivial fun a48 hf49 => ?_
  refine endL rfl ?_
  refine thenN ?_
  refine wp_seq ?_
  obtain ⟨r50, hr50, H0⟩ := ob_split H0
  refine inReg ?_
  refine go 1 [] [2, 7, 8, 23] [(2, .pointer (some ⟨b21, 0, none⟩)), (7, .int .i64 r40.1), (8, .bool r40.2), (23, .string (bs r30.2.1))] [] hf49 (by kernel_rfl) trivial fun a51 hf52 => ?_
  refine listOf hf52 rfl (by kernel_rfl) (aCall (fid := 16) (args := [.string (bs r30.2.1)]) (d := 24) hf52 (by kernel_rfl) (by kernel_rfl) callable16 (script_Parse.calls _ _ r30.2.1 (hm47.give [] [] rfl rfl) r50 hr50) ?_)
  rintro _ w54 a55 ⟨b53, rfl, hb53, hk57⟩ hf56
  have hm58 := hm47.still hk57.cum.none
  refine go 5 [] [2, 7, 8, 9, 10] [(2, .pointer (some ⟨b21, 0, none⟩)), (7, .int .i64 r40.1), (8, .bool r40.2), (9, .float .f64 b53), (10, .bool r50.2)] [] hf56 (by kernel_rfl) trivial fun a59 hf60 => ?_
  refine endL rfl ?_
  refine thenN ?_
  refine wp_seq ?_
  rcases ifb_split H0 with ⟨c61, H0⟩ | ⟨c61, H0⟩
  · rw [c61] at hf60
    refine inReg ?_
    refine go 7 [] [2, 29, 33] [(2, .pointer (some ⟨b21, 0, none⟩)), (29, .agg #[.int .i64 r40.1, .float .f64 b53]), (33, .bool r50.2)] [] hf60 (by kernel_rfl) trivial fun a62 hf63 => ?_
    refine listOf hf63 rfl (by kernel_rfl) (aStoreB (b := b21) (j := 0) (T := 51) (cs := [.int .i64 0, .float .f64 0]) (us := [.int .i64 r40.1, .float .f64 b53]) (cs' := [.int .i64 r40.1, .float .f64 b53]) hf63 (by kernel_rfl) (hm58.bxAt 0 rfl) (by kernel_rfl) (by kernel_rfl) (by kernel_rfl) ?_)
    intro w65 hx66 hg67
    have hm68 := hm58.setBox 0 _ rfl rfl hx66 hg67
    refine go 1 [] [2, 3] [(2, .pointer (some ⟨b21, 0, none⟩)), (3, .bool r50.2)] [] hf63 (by kernel_rfl) trivial fun a69 hf70 => ?_
    refine endL rfl ?_
    refine thenN ?_
    refine wp_ret ?_
    have hm71 : Mem [] M w0 [] w65 := hm68.sel [] _ rfl (by kernel_rfl)
    obtain rfl := Option.some.inj H0
    refine ret [.agg #[.int .i64 r40.1, .float .f64 b53]] [.agg #[.int .i64 r40.1, .float .f64 b53], .bool r50.2] [.cell ⟨b21, 0, none⟩ (.int .i64 r40.1), .cell ⟨b21, 1, none⟩ (.float .f64 b53)] hf70 (by kernel_rfl) ⟨(hm68.cell 0 rfl rfl), (hm68.cell 0 rfl rfl), trivial⟩ ?_
    exact ⟨_, rfl, b53, rfl, hb53, hm71⟩
  rw [c61] at hf60
  refine inReg ?_
  refine go 7 [] [2, 29, 33] [(2, .pointer (some ⟨b21, 0, none⟩)), (29, .agg #[.int .i64 r40.1, .float .f64 b53]), (33, .bool false)] [] hf60 (by kernel_rfl) trivial fun a73 hf74 => ?_
  refine listOf hf74 rfl (by kernel_rfl) (aStoreB (b := b21) (j := 0) (T := 51) (cs := [.int .i64 0, .float .f64 0]) (us := [.int .i64 r40.1, .float .f64 b53]) (cs' := [.int .i64 r40.1, .float .f64 b53]) hf74 (by kernel_rfl) (hm58.bxAt 0 rfl) (by kernel_rfl) (by kernel_rfl) (by kernel_rfl) ?_)
  intro w75 hx76 hg77
  have hm78 := hm58.setBox 0 _ rfl rfl hx76 hg77
  refine go 1 [] [2, 3] [(2, .pointer (some ⟨b21, 0, none⟩)), (3, .bool false)] [] hf74 (by kernel_rfl) trivial fun a79 hf80 => ?_
  refine endL rfl ?_
  refine thenN ?_
  refine wp_ret ?_
  have hm81 : Mem [] M w0 [] w75 := hm78.sel [] _ rfl (by kernel_rfl)
  obtain rfl := Option.some.inj H0
  refine ret [.agg #[.int .i64 r40.1, .float .f64 b53]] [.agg #[.int .i64 r40.1, .float .f64 b53], .bool false] [.cell ⟨b21, 0, none⟩ (.int .i64 r40.1), .cell ⟨b21, 1, none⟩ (.float .f64 b53)] hf80 (by kernel_rfl) ⟨(hm78.cell 0 rfl rfl), (hm78.cell 0 rfl rfl), trivial⟩ ?_
  exact ⟨_, rfl, b53, rfl, hb53, hm81⟩
end Go.Proofs.YtkdhahdfkonilaaDoor
