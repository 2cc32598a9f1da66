/- Printed by gen.py. -/
import Derived.Test.YtkcgiolledmbnacK
namespace Go.Proofs.Ytkcgiolledmbnac
open Go Go.RowKit
set_option linter.unusedSimpArgs false
set_option linter.unusedVariables false
set_option linter.unnecessarySimpa false
/-! ### slices.Equal[[]int,int] -/
noncomputable def slices_Equal_int.l0 (x0 : (List Int)) (x1 : (List Int)) (s28 : Int) : Step Int (Out2 Int Bool) :=
  if s28 < (x0.length : Int) then (if 0 ≤ s28 ∧ s28 < (x0.length : Int) then (if 0 ≤ s28 ∧ s28 < (x1.length : Int) then (if (rd x0 s28) = (rd x1 s28) then (.next (w64 (s28 + 1)))
  else (.done (.ret false)))
  else .bad)
  else .bad)
  else (.done (.go s28))
noncomputable def slices_Equal_int.f (x0 : (List Int)) (x1 : (List Int)) : Option Bool :=
  if (x0.length : Int) = (x1.length : Int) then ((loop (slices_Equal_int.l0 x0 x1) 0).bind fun r29 =>
  r29.on (fun yr29 =>
  some true) (fun y => some y))
  else (some false)
set_option maxRecDepth 100000 in
set_option maxHeartbeats 4000000 in
theorem slices_Equal_int.calls (M : List (Option Nat)) (w0 : World) (x0 : (List Int)) (A0 : Option Addr) (n0 c0 : Nat) (e0 : n0 = x0.length) (x1 : (List Int)) (A1 : Option Addr) (n1 c1 : Nat) (e1 : n1 = x1.length) (hm0 : Mem [] M w0 [.sl (Kd.int .i64) A0 c0 x0, .sl (Kd.int .i64) A1 c1 x1] w0) (r : Bool) (H0 : slices_Equal_int.f x0 x1 = some r) :
    Calls Try.prog 66 [.slice A0 n0 c0, .slice A1 n1 c1].toArray w0 (fun x w' => ∃ v, x = .returned v ∧ v = .bool r ∧ Mem [] M w0 [] w') := by
  subst e0
  subst e1
  unfold slices_Equal_int.f at H0
  refine enter (n := 26) Try.func66 rfl rfl (by kernel_rfl) fun a0 (hf0 : Fr 26 a0 [(0, .slice A0 x0.length c0), (1, .slice A1 x1.length c1)]) => ?_
  refine wp_seq ?_
  refine reg [] [0, 1] [(0, .slice A0 x0.length c0), (1, .slice A1 x1.length c1)] [] hf0 (by kernel_rfl) trivial fun a21 hf22 => ?_
  refine thenN ?_
  refine wp_seq ?_
  refine wp_seq ?_
  rcases if_split H0 with ⟨c23, H0⟩ | ⟨c23, H0⟩
  rotate_left
  · refine reg [.bool true] [0, 1, 10] [(0, .slice A0 x0.length c0), (1, .slice A1 x1.length c1), (10, .bool true)] [.is ((((x0.length : Int) : Int) != (x1.length : Int)) = true)] hf22 (by kernel_rfl) ⟨(neT c23), trivial⟩ fun a76 hf77 => ?_
    refine thenN ?_
    refine condT hf77 (by kernel_rfl) ?_
    refine wp_seq ?_
    refine reg [] [4] [(4, .bool false)] [] hf77 (by kernel_rfl) trivial fun a78 hf79 => ?_
    have hm80 := hm0.sel [] _ rfl (by kernel_rfl)
    refine thenN ?_
    refine wp_ret ?_
    refine thenR ?_
    have hm81 : Mem [] M w0 [] w0 := hm80.sel [] _ rfl (by kernel_rfl)
    obtain rfl := Option.some.inj H0
    refine ret [] [.bool false] [] hf79 (by kernel_rfl) trivial ?_
    exact ⟨_, rfl, rfl, hm81⟩
  refine reg [.bool false] [0, 1, 10] [(0, .slice A0 x0.length c0), (1, .slice A1 x1.length c1), (10, .bool false)] [.is ((((x0.length : Int) : Int) != (x1.length : Int)) = false)] hf22 (by kernel_rfl) ⟨(neF c23), trivial⟩ fun a24 hf25 => ?_
  refine thenN ?_
  refine condF hf25 (by kernel_rfl) ?_
  refine wp_skip ?_
  refine thenN ?_
  refine wp_seq ?_
  refine wp_seq ?_
  refine reg [] [0, 1, 12, 13] [(0, .slice A0 x0.length c0), (1, .slice A1 x1.length c1), (12, .int .i64 (x0.length : Int)), (13, .int .i64 0)] [] hf25 (by kernel_rfl) trivial fun a26 hf27 => ?_
  refine thenN ?_
  obtain ⟨r29, hr29, H0⟩ := ob_split H0
  refine wpBlock (Mid := fun (a : Act) (w : World) => ∃ yr29 : Int, r29 = .go yr29 ∧ Fr 26 a [(0, .slice A0 x0.length c0), (1, .slice A1 x1.length c1), (12, .int .i64 (x0.length : Int)), (13, .int .i64 yr29)] ∧ Mem [] M w0 [.sl (Kd.int .i64) A0 c0 x0, .sl (Kd.int .i64) A1 c1 x1] w) ?_ ?_
  · refine wpLoop (slices_Equal_int.l0 x0 x1) r29 (fun (s28 : Int) (a : Act) (w : World) => Fr 26 a [(0, .slice A0 x0.length c0), (1, .slice A1 x1.length c1), (12, .int .i64 (x0.length : Int)), (13, .int .i64 s28)] ∧ Mem [] M w0 [.sl (Kd.int .i64) A0 c0 x0, .sl (Kd.int .i64) A1 c1 x1] w) 0 hr29 ⟨hf27.sel (l := [0, 1, 12, 13]) (by kernel_rfl), hm0.sel [0, 1] _ rfl (by kernel_rfl)⟩ ?_
    rintro g30 s28 a31 w32 H1 ⟨hf33, hm34⟩
    unfold slices_Equal_int.l0 at H1
    refine wp_seq ?_
    rcases ifS_split H1 with ⟨c35, H1⟩ | ⟨c35, H1⟩
    rotate_left
    · refine reg [.bool false] [0, 1, 12, 13, 14] [(0, .slice A0 x0.length c0), (1, .slice A1 x1.length c1), (12, .int .i64 (x0.length : Int)), (13, .int .i64 s28), (14, .bool false)] [.is (decide (s28 < (x0.length : Int)) = false)] hf33 (by kernel_rfl) ⟨(decide_eq_false c35), trivial⟩ fun a65 hf66 => ?_
      refine thenN ?_
      refine wp_seq ?_
      refine condF hf66 (by kernel_rfl) ?_
      refine wp_exit ?_
      refine thenE ?_
      refine thenE ?_
      obtain rfl := Option.some.inj H1
      exact .inl ⟨rfl, s28, rfl, hf66.sel (l := [0, 1, 12, 13]) (by kernel_rfl), hm34.sel [0, 1] _ rfl (by kernel_rfl)⟩
    refine reg [.bool true] [0, 1, 12, 13, 14] [(0, .slice A0 x0.length c0), (1, .slice A1 x1.length c1), (12, .int .i64 (x0.length : Int)), (13, .int .i64 s28), (14, .bool true)] [.is (decide (s28 < (x0.length : Int)) = true)] hf33 (by kernel_rfl) ⟨(decide_eq_true c35), trivial⟩ fun a36 hf37 => ?_
    refine thenN ?_
    refine wp_seq ?_
    refine condT hf37 (by kernel_rfl) ?_
    refine wp_skip ?_
    refine thenN ?_
    refine wp_seq ?_
    refine wp_block ?_
    refine wp_seq ?_
    refine reg [] [0, 1, 5, 12, 13] [(0, .slice A0 x0.length c0), (1, .slice A1 x1.length c1), (5, .int .i64 s28), (12, .int .i64 (x0.length : Int)), (13, .int .i64 s28)] [] hf37 (by kernel_rfl) trivial fun a38 hf39 => ?_
    refine thenN ?_
    refine wp_seq ?_
    obtain ⟨g40, H1⟩ := ifS_guard H1
    obtain ⟨g41, H1⟩ := ifS_guard H1
    rcases ifS_split H1 with ⟨c42, H1⟩ | ⟨c42, H1⟩
    · have q43 := (hm34.slAt 0 rfl).int s28 g40.1 g40.2
      have q44 := (hm34.slAt 1 rfl).int s28 g41.1 g41.2
      refine regQ [.int .i64 (rd x0 s28), .int .i64 (rd x1 s28), .bool false] [0, 1, 12, 13, 24] [(0, .slice A0 x0.length c0), (1, .slice A1 x1.length c1), (12, .int .i64 (x0.length : Int)), (13, .int .i64 s28), (24, .bool false)] [.is (Option.isSome A0 = true), .is (0 ≤ s28 ∧ s28 < (x0.length : Int)), .cell ((ad A0).add ((s28).toNat * 1)) (.int .i64 (rd x0 s28)), .is (Option.isSome A1 = true), .is (0 ≤ s28 ∧ s28 < (x1.length : Int)), .cell ((ad A1).add ((s28).toNat * 1)) (.int .i64 (rd x1 s28)), .is ((((rd x0 s28) : Int) != (rd x1 s28)) = false)] (by kernel_rfl) (by kernel_rfl) hf39 (by kernel_rfl) ⟨q43.1, g40, q43.2, q44.1, g41, q44.2, (neF c42), trivial⟩ fun a45 w47 hf46 hg48 => ?_
      have hm49 := hm34.still hg48
      refine thenN ?_
      refine condF hf46 (by kernel_rfl) ?_
      refine wp_skip ?_
      refine blkN ?_
      refine thenN ?_
      refine reg [] [0, 1, 12, 13] [(0, .slice A0 x0.length c0), (1, .slice A1 x1.length c1), (12, .int .i64 (x0.length : Int)), (13, .int .i64 (w64 (s28 + 1)))] [] hf46 (by kernel_rfl) trivial fun a50 hf51 => ?_
      exact ⟨(w64 (s28 + 1)), H1, hf51.sel (l := [0, 1, 12, 13]) (by kernel_rfl), hm49.sel [0, 1] _ rfl (by kernel_rfl)⟩
    have q52 := (hm34.slAt 0 rfl).int s28 g40.1 g40.2
    have q53 := (hm34.slAt 1 rfl).int s28 g41.1 g41.2
    refine regQ [.int .i64 (rd x0 s28), .int .i64 (rd x1 s28), .bool true] [0, 1, 12, 13, 24] [(0, .slice A0 x0.length c0), (1, .slice A1 x1.length c1), (12, .int .i64 (x0.length : Int)), (13, .int .i64 s28), (24, .bool true)] [.is (Option.isSome A0 = true), .is (0 ≤ s28 ∧ s28 < (x0.length : Int)), .cell ((ad A0).add ((s28).toNat * 1)) (.int .i64 (rd x0 s28)), .is (Option.isSome A1 = true), .is (0 ≤ s28 ∧ s28 < (x1.length : Int)), .cell ((ad A1).add ((s28).toNat * 1)) (.int .i64 (rd x1 s28)), .is ((((rd x0 s28) : Int) != (rd x1 s28)) = true)] (by kernel_rfl) (by kernel_rfl) hf39 (by kernel_rfl) ⟨q52.1, g40, q52.2, q53.1, g41, q53.2, (neT c42), trivial⟩ fun a54 w56 hf55 hg57 => ?_
    have hm58 := hm34.still hg57
    refine thenN ?_
    refine condT hf55 (by kernel_rfl) ?_
    refine wp_seq ?_
    refine reg [] [4] [(4, .bool false)] [] hf55 (by kernel_rfl) trivial fun a59 hf60 => ?_
    have hm61 := hm58.sel [] _ rfl (by kernel_rfl)
    refine thenN ?_
    refine wp_ret ?_
    refine blkR ?_
    refine thenR ?_
    refine thenR ?_
    refine .inr ⟨rfl, ?_⟩
    refine thenR ?_
    have hm62 : Mem [] M w0 [] w56 := hm61.sel [] _ rfl (by kernel_rfl)
    obtain rfl := Option.some.inj H1
    obtain rfl := Option.some.inj H0
    refine ret [] [.bool false] [] hf60 (by kernel_rfl) trivial ?_
    exact ⟨_, rfl, rfl, hm62⟩
  rintro a67 w68 ⟨yr29, rfl, hf69, hm70⟩
  refine thenN ?_
  refine wp_seq ?_
  refine reg [] [4] [(4, .bool true)] [] hf69 (by kernel_rfl) trivial fun a71 hf72 => ?_
  have hm73 := hm70.sel [] _ rfl (by kernel_rfl)
  refine thenN ?_
  refine wp_ret ?_
  have hm74 : Mem [] M w0 [] w68 := hm73.sel [] _ rfl (by kernel_rfl)
  obtain rfl := Option.some.inj H0
  refine ret [] [.bool true] [] hf72 (by kernel_rfl) trivial ?_
  exact ⟨_, rfl, rfl, hm74⟩

/-! ### backstitch/shape.Same -/
noncomputable def shape_Same.f (x0 : (List Int)) (x1 : (List Int)) : Option Bool :=
  (slices_Equal_int.f x0 x1).bind fun r23 =>
  some r23
set_option maxRecDepth 100000 in
set_option maxHeartbeats 4000000 in
theorem shape_Same.calls (M : List (Option Nat)) (w0 : World) (x0 : (List Int)) (A0 : Option Addr) (n0 c0 : Nat) (e0 : n0 = x0.length) (x1 : (List Int)) (A1 : Option Addr) (n1 c1 : Nat) (e1 : n1 = x1.length) (hm0 : Mem [] M w0 [.sl (Kd.int .i64) A0 c0 x0, .sl (Kd.int .i64) A1 c1 x1] w0) (r : Bool) (H0 : shape_Same.f x0 x1 = some r) :
    Calls Try.prog 48 [.slice A0 n0 c0, .slice A1 n1 c1].toArray w0 (fun x w' => ∃ v, x = .returned v ∧ v = .bool r ∧ Mem [] M w0 [] w') := by
  subst e0
  subst e1
  unfold shape_Same.f at H0
  refine enter (n := 8) Try.func48 rfl rfl (by kernel_rfl) fun a0 (hf0 : Fr 8 a0 [(0, .slice A0 x0.length c0), (1, .slice A1 x1.length c1)]) => ?_
  refine wp_seq ?_
  refine reg [] [0, 1] [(0, .slice A0 x0.length c0), (1, .slice A1 x1.length c1)] [] hf0 (by kernel_rfl) trivial fun a21 hf22 => ?_
  refine thenN ?_
  refine wp_seq ?_
  obtain ⟨r23, hr23, H0⟩ := ob_split H0
  refine inReg ?_
  refine go 2 [] [5, 6] [(5, .slice A0 x0.length c0), (6, .slice A1 x1.length c1)] [] hf22 (by kernel_rfl) trivial fun a24 hf25 => ?_
  refine listOf hf25 rfl (by kernel_rfl) (aCall (fid := 66) (args := [.slice A0 x0.length c0, .slice A1 x1.length c1]) (d := 7) hf25 (by kernel_rfl) (by kernel_rfl) callable66 (slices_Equal_int.calls _ _ x0 A0 x0.length c0 rfl x1 A1 x1.length c1 rfl (hm0.give [0, 1] [.sl (Kd.int .i64) A0 c0 x0, .sl (Kd.int .i64) A1 c1 x1] rfl rfl) r23 hr23) ?_)
  rintro _ w26 a27 ⟨rfl, hk29⟩ hf28
  have hm30 := hm0.still hk29.cum.none
  refine go 1 [] [4] [(4, .bool r23)] [] hf28 (by kernel_rfl) trivial fun a31 hf32 => ?_
  refine endL rfl ?_
  have hm33 := hm30.sel [] _ rfl (by kernel_rfl)
  refine thenN ?_
  refine wp_ret ?_
  have hm34 : Mem [] M w0 [] w26 := hm33.sel [] _ rfl (by kernel_rfl)
  obtain rfl := Option.some.inj H0
  refine ret [] [.bool r23] [] hf32 (by kernel_rfl) trivial ?_
  exact ⟨_, rfl, rfl, hm34⟩

/-! ### backstitch/real.Bits -/
noncomputable def real_Bits.f (x0 : Nat) : Option Int :=
  if (fne x0 x0) = true then (some 9221120237041090561)
  else (some (x0 : Int))
set_option maxRecDepth 100000 in
set_option maxHeartbeats 4000000 in
theorem real_Bits.calls (M : List (Option Nat)) (w0 : World) (x0 : Nat) (b0 : Nat) (h0 : FR b0 x0) (hm0 : Mem [] M w0 [] w0) (r : Int) (H0 : real_Bits.f x0 = some r) :
    Calls Try.prog 67 [.float .f64 b0].toArray w0 (fun x w' => ∃ v, x = .returned v ∧ v = .int .u64 r ∧ Mem [] M w0 [] w') := by
  unfold real_Bits.f at H0
  refine enter (n := 8) Try.func67 rfl rfl (by kernel_rfl) fun a0 (hf0 : Fr 8 a0 [(0, .float .f64 b0)]) => ?_
  refine wp_seq ?_
  refine reg [] [0] [(0, .float .f64 b0)] [] hf0 (by kernel_rfl) trivial fun a21 hf22 => ?_
  refine thenN ?_
  refine wp_seq ?_
  refine wp_seq ?_
  rcases ifb_split H0 with ⟨c23, H0⟩ | ⟨c23, H0⟩
  · refine reg [.bool true] [0, 5] [(0, .float .f64 b0), (5, .bool true)] [.is ((FloatKind.f64.format.order b0 b0 != some .eq) = true)] hf22 (by kernel_rfl) ⟨(ftNe h0 h0 c23), trivial⟩ fun a24 hf25 => ?_
    refine thenN ?_
    refine condT hf25 (by kernel_rfl) ?_
    refine wp_seq ?_
    refine reg [] [2] [(2, .int .u64 9221120237041090561)] [] hf25 (by kernel_rfl) trivial fun a26 hf27 => ?_
    refine thenN ?_
    refine wp_ret ?_
    refine thenR ?_
    have hm28 : Mem [] M w0 [] w0 := hm0.sel [] _ rfl (by kernel_rfl)
    obtain rfl := Option.some.inj H0
    refine ret [] [.int .u64 9221120237041090561] [] hf27 (by kernel_rfl) trivial ?_
    exact ⟨_, rfl, rfl, hm28⟩
  refine reg [.bool false] [0, 5] [(0, .float .f64 b0), (5, .bool false)] [.is ((FloatKind.f64.format.order b0 b0 != some .eq) = false)] hf22 (by kernel_rfl) ⟨(ftNe h0 h0 c23), trivial⟩ fun a30 hf31 => ?_
  refine thenN ?_
  refine condF hf31 (by kernel_rfl) ?_
  refine wp_skip ?_
  refine thenN ?_
  refine wp_seq ?_
  refine inReg ?_
  refine go 1 [] [6] [(6, .float .f64 b0)] [] hf31 (by kernel_rfl) trivial fun a32 hf33 => ?_
  refine listOf hf33 rfl (by kernel_rfl) (aExtern (fid := 52) (args := [.float .f64 b0]) (d := 7) (R := fun v w' => v = .int .u64 (x0 : Int) ∧ w0 = w') hf33 (by kernel_rfl) (by kernel_rfl) ⟨_, Try.func52, rfl, rfl, by kernel_rfl, rfl⟩ ⟨_, _, run_bits _, by rw [FR.bits h0 c23], rfl⟩ ?_)
  rintro _ _ a35 ⟨rfl, rfl⟩ hf36
  refine go 1 [] [2] [(2, .int .u64 (x0 : Int))] [] hf36 (by kernel_rfl) trivial fun a37 hf38 => ?_
  refine endL rfl ?_
  refine thenN ?_
  refine wp_ret ?_
  have hm39 : Mem [] M w0 [] w0 := hm0.sel [] _ rfl (by kernel_rfl)
  obtain rfl := Option.some.inj H0
  refine ret [] [.int .u64 (x0 : Int)] [] hf38 (by kernel_rfl) trivial ?_
  exact ⟨_, rfl, rfl, hm39⟩

/-! ### backstitch/real.Same -/
noncomputable def real_Same.f (x0 : Nat) (x1 : Nat) : Option Bool :=
  (real_Bits.f x0).bind fun r23 =>
  (real_Bits.f x1).bind fun r24 =>
  if r23 = r24 then (some true)
  else (some false)
set_option maxRecDepth 100000 in
set_option maxHeartbeats 4000000 in
theorem real_Same.calls (M : List (Option Nat)) (w0 : World) (x0 : Nat) (b0 : Nat) (h0 : FR b0 x0) (x1 : Nat) (b1 : Nat) (h1 : FR b1 x1) (hm0 : Mem [] M w0 [] w0) (r : Bool) (H0 : real_Same.f x0 x1 = some r) :
    Calls Try.prog 50 [.float .f64 b0, .float .f64 b1].toArray w0 (fun x w' => ∃ v, x = .returned v ∧ v = .bool r ∧ Mem [] M w0 [] w') := by
  unfold real_Same.f at H0
  refine enter (n := 10) Try.func50 rfl rfl (by kernel_rfl) fun a0 (hf0 : Fr 10 a0 [(0, .float .f64 b0), (1, .float .f64 b1)]) => ?_
  refine wp_seq ?_
  refine reg [] [0, 1] [(0, .float .f64 b0), (1, .float .f64 b1)] [] hf0 (by kernel_rfl) trivial fun a21 hf22 => ?_
  refine thenN ?_
  refine wp_seq ?_
  obtain ⟨r23, hr23, H0⟩ := ob_split H0
  obtain ⟨r24, hr24, H0⟩ := ob_split H0
  rcases if_split H0 with ⟨c25, H0⟩ | ⟨c25, H0⟩
  · refine inReg ?_
    refine go 1 [] [1, 5] [(1, .float .f64 b1), (5, .float .f64 b0)] [] hf22 (by kernel_rfl) trivial fun a26 hf27 => ?_
    refine listOf hf27 rfl (by kernel_rfl) (aCall (fid := 67) (args := [.float .f64 b0]) (d := 6) hf27 (by kernel_rfl) (by kernel_rfl) callable67 (real_Bits.calls _ _ x0 b0 h0 (hm0.give [] [] rfl rfl) r23 hr23) ?_)
    rintro _ w28 a29 ⟨rfl, hk31⟩ hf30
    have hm32 := hm0.still hk31.cum.none
    refine go 1 [] [6, 7] [(6, .int .u64 r23), (7, .float .f64 b1)] [] hf30 (by kernel_rfl) trivial fun a33 hf34 => ?_
    refine listOf hf34 rfl (by kernel_rfl) (aCall (fid := 67) (args := [.float .f64 b1]) (d := 8) hf34 (by kernel_rfl) (by kernel_rfl) callable67 (real_Bits.calls _ _ x1 b1 h1 (hm32.give [] [] rfl rfl) r24 hr24) ?_)
    rintro _ w35 a36 ⟨rfl, hk38⟩ hf37
    have hm39 := hm32.still hk38.cum.none
    refine go 2 [.bool true] [4] [(4, .bool true)] [.is (((r23 : Int) == r24) = true)] hf37 (by kernel_rfl) ⟨(eqT c25), trivial⟩ fun a40 hf41 => ?_
    refine endL rfl ?_
    refine thenN ?_
    refine wp_ret ?_
    have hm42 : Mem [] M w0 [] w35 := hm39.sel [] _ rfl (by kernel_rfl)
    obtain rfl := Option.some.inj H0
    refine ret [] [.bool true] [] hf41 (by kernel_rfl) trivial ?_
    exact ⟨_, rfl, rfl, hm42⟩
  refine inReg ?_
  refine go 1 [] [1, 5] [(1, .float .f64 b1), (5, .float .f64 b0)] [] hf22 (by kernel_rfl) trivial fun a44 hf45 => ?_
  refine listOf hf45 rfl (by kernel_rfl) (aCall (fid := 67) (args := [.float .f64 b0]) (d := 6) hf45 (by kernel_rfl) (by kernel_rfl) callable67 (real_Bits.calls _ _ x0 b0 h0 (hm0.give [] [] rfl rfl) r23 hr23) ?_)
  rintro _ w46 a47 ⟨rfl, hk49⟩ hf48
  have hm50 := hm0.still hk49.cum.none
  refine go 1 [] [6, 7] [(6, .int .u64 r23), (7, .float .f64 b1)] [] hf48 (by kernel_rfl) trivial fun a51 hf52 => ?_
  refine listOf hf52 rfl (by kernel_rfl) (aCall (fid := 67) (args := [.float .f64 b1]) (d := 8) hf52 (by kernel_rfl) (by kernel_rfl) callable67 (real_Bits.calls _ _ x1 b1 h1 (hm50.give [] [] rfl rfl) r24 hr24) ?_)
  rintro _ w53 a54 ⟨rfl, hk56⟩ hf55
  have hm57 := hm50.still hk56.cum.none
  refine go 2 [.bool false] [4] [(4, .bool false)] [.is (((r23 : Int) == r24) = false)] hf55 (by kernel_rfl) ⟨(eqF c25), trivial⟩ fun a58 hf59 => ?_
  refine endL rfl ?_
  refine thenN ?_
  refine wp_ret ?_
  have hm60 : Mem [] M w0 [] w53 := hm57.sel [] _ rfl (by kernel_rfl)
  obtain rfl := Option.some.inj H0
  refine ret [] [.bool false] [] hf59 (by kernel_rfl) trivial ?_
  exact ⟨_, rfl, rfl, hm60⟩

/-! ### slices.EqualFunc[[]float64,[]float64,float64,float64] -/
noncomputable def slices_EqualFunc_float64_real_Same.l0 (x0 : (List Nat)) (x1 : (List Nat)) (s28 : Int) : Step Int (Out2 Int Bool) :=
  if s28 < (x0.length : Int) then (if 0 ≤ s28 ∧ s28 < (x0.length : Int) then (if 0 ≤ s28 ∧ s28 < (x1.length : Int) then (bindS (real_Same.f (rd x0 s28) (rd x1 s28)) fun r48 =>
  if r48 = true then (.next (w64 (s28 + 1)))
  else (.done (.ret false)))
  else .bad)
  else .bad)
  else (.done (.go s28))
noncomputable def slices_EqualFunc_float64_real_Same.f (x0 : (List Nat)) (x1 : (List Nat)) : Option Bool :=
  if (x0.length : Int) = (x1.length : Int) then ((loop (slices_EqualFunc_float64_real_Same.l0 x0 x1) 0).bind fun r29 =>
  r29.on (fun yr29 =>
  some true) (fun y => some y))
  else (some false)
set_option maxRecDepth 100000 in
set_option maxHeartbeats 4000000 in
theorem slices_EqualFunc_float64_real_Same.calls (M : List (Option Nat)) (w0 : World) (x0 : (List Nat)) (A0 : Option Addr) (n0 c0 : Nat) (e0 : n0 = x0.length) (x1 : (List Nat)) (A1 : Option Addr) (n1 c1 : Nat) (e1 : n1 = x1.length) (hm0 : Mem [] M w0 [.sl Kd.float A0 c0 x0, .sl Kd.float A1 c1 x1] w0) (r : Bool) (H0 : slices_EqualFunc_float64_real_Same.f x0 x1 = some r) :
    Calls Try.prog 49 [.slice A0 n0 c0, .slice A1 n1 c1, .func (.func 50) #[] #[]].toArray w0 (fun x w' => ∃ v, x = .returned v ∧ v = .bool r ∧ Mem [] M w0 [] w') := by
  subst e0
  subst e1
  unfold slices_EqualFunc_float64_real_Same.f at H0
  refine enter (n := 32) Try.func49 rfl rfl (by kernel_rfl) fun a0 (hf0 : Fr 32 a0 [(0, .slice A0 x0.length c0), (1, .slice A1 x1.length c1), (2, .func (.func 50) #[] #[])]) => ?_
  refine wp_seq ?_
  refine reg [] [0, 1, 2] [(0, .slice A0 x0.length c0), (1, .slice A1 x1.length c1), (2, .func (.func 50) #[] #[])] [] hf0 (by kernel_rfl) trivial fun a21 hf22 => ?_
  refine thenN ?_
  refine wp_seq ?_
  refine wp_seq ?_
  rcases if_split H0 with ⟨c23, H0⟩ | ⟨c23, H0⟩
  rotate_left
  · refine reg [.bool true] [0, 1, 2, 14] [(0, .slice A0 x0.length c0), (1, .slice A1 x1.length c1), (2, .func (.func 50) #[] #[]), (14, .bool true)] [.is ((((x0.length : Int) : Int) != (x1.length : Int)) = true)] hf22 (by kernel_rfl) ⟨(neT c23), trivial⟩ fun a87 hf88 => ?_
    refine thenN ?_
    refine condT hf88 (by kernel_rfl) ?_
    refine wp_seq ?_
    refine reg [] [6] [(6, .bool false)] [] hf88 (by kernel_rfl) trivial fun a89 hf90 => ?_
    have hm91 := hm0.sel [] _ rfl (by kernel_rfl)
    refine thenN ?_
    refine wp_ret ?_
    refine thenR ?_
    have hm92 : Mem [] M w0 [] w0 := hm91.sel [] _ rfl (by kernel_rfl)
    obtain rfl := Option.some.inj H0
    refine ret [] [.bool false] [] hf90 (by kernel_rfl) trivial ?_
    exact ⟨_, rfl, rfl, hm92⟩
  refine reg [.bool false] [0, 1, 2, 14] [(0, .slice A0 x0.length c0), (1, .slice A1 x1.length c1), (2, .func (.func 50) #[] #[]), (14, .bool false)] [.is ((((x0.length : Int) : Int) != (x1.length : Int)) = false)] hf22 (by kernel_rfl) ⟨(neF c23), trivial⟩ fun a24 hf25 => ?_
  refine thenN ?_
  refine condF hf25 (by kernel_rfl) ?_
  refine wp_skip ?_
  refine thenN ?_
  refine wp_seq ?_
  refine wp_seq ?_
  refine reg [] [1, 2, 15, 16, 17] [(1, .slice A1 x1.length c1), (2, .func (.func 50) #[] #[]), (15, .slice A0 x0.length c0), (16, .int .i64 (x0.length : Int)), (17, .int .i64 0)] [] hf25 (by kernel_rfl) trivial fun a26 hf27 => ?_
  refine thenN ?_
  obtain ⟨r29, hr29, H0⟩ := ob_split H0
  refine wpBlock (Mid := fun (a : Act) (w : World) => ∃ yr29 : Int, r29 = .go yr29 ∧ Fr 32 a [(1, .slice A1 x1.length c1), (2, .func (.func 50) #[] #[]), (15, .slice A0 x0.length c0), (16, .int .i64 (x0.length : Int)), (17, .int .i64 yr29)] ∧ Mem [] M w0 [.sl Kd.float A0 c0 x0, .sl Kd.float A1 c1 x1] w) ?_ ?_
  · refine wpLoop (slices_EqualFunc_float64_real_Same.l0 x0 x1) r29 (fun (s28 : Int) (a : Act) (w : World) => Fr 32 a [(1, .slice A1 x1.length c1), (2, .func (.func 50) #[] #[]), (15, .slice A0 x0.length c0), (16, .int .i64 (x0.length : Int)), (17, .int .i64 s28)] ∧ Mem [] M w0 [.sl Kd.float A0 c0 x0, .sl Kd.float A1 c1 x1] w) 0 hr29 ⟨hf27.sel (l := [1, 2, 15, 16, 17]) (by kernel_rfl), hm0.sel [0, 1] _ rfl (by kernel_rfl)⟩ ?_
    rintro g30 s28 a31 w32 H1 ⟨hf33, hm34⟩
    unfold slices_EqualFunc_float64_real_Same.l0 at H1
    refine wp_seq ?_
    rcases ifS_split H1 with ⟨c35, H1⟩ | ⟨c35, H1⟩
    rotate_left
    · refine reg [.bool false] [1, 2, 15, 16, 17, 18] [(1, .slice A1 x1.length c1), (2, .func (.func 50) #[] #[]), (15, .slice A0 x0.length c0), (16, .int .i64 (x0.length : Int)), (17, .int .i64 s28), (18, .bool false)] [.is (decide (s28 < (x0.length : Int)) = false)] hf33 (by kernel_rfl) ⟨(decide_eq_false c35), trivial⟩ fun a76 hf77 => ?_
      refine thenN ?_
      refine wp_seq ?_
      refine condF hf77 (by kernel_rfl) ?_
      refine wp_exit ?_
      refine thenE ?_
      refine thenE ?_
      obtain rfl := Option.some.inj H1
      exact .inl ⟨rfl, s28, rfl, hf77.sel (l := [1, 2, 15, 16, 17]) (by kernel_rfl), hm34.sel [0, 1] _ rfl (by kernel_rfl)⟩
    refine reg [.bool true] [1, 2, 15, 16, 17, 18] [(1, .slice A1 x1.length c1), (2, .func (.func 50) #[] #[]), (15, .slice A0 x0.length c0), (16, .int .i64 (x0.length : Int)), (17, .int .i64 s28), (18, .bool true)] [.is (decide (s28 < (x0.length : Int)) = true)] hf33 (by kernel_rfl) ⟨(decide_eq_true c35), trivial⟩ fun a36 hf37 => ?_
    refine thenN ?_
    refine wp_seq ?_
    refine condT hf37 (by kernel_rfl) ?_
    refine wp_skip ?_
    refine thenN ?_
    refine wp_seq ?_
    refine wp_block ?_
    refine wp_seq ?_
    obtain ⟨g38, H1⟩ := ifS_guard H1
    have q39 := (hm34.slAt 0 rfl).float s28 g38.1 g38.2
    obtain ⟨b40, hb40, kb40⟩ := q39.2
    refine reg [.float .f64 b40] [1, 2, 7, 8, 15, 16, 17] [(1, .slice A1 x1.length c1), (2, .func (.func 50) #[] #[]), (7, .int .i64 s28), (8, .float .f64 b40), (15, .slice A0 x0.length c0), (16, .int .i64 (x0.length : Int)), (17, .int .i64 s28)] [.is (Option.isSome A0 = true), .is (0 ≤ s28 ∧ s28 < (x0.length : Int)), .cell ((ad A0).add ((s28).toNat * 1)) (.float .f64 b40)] hf37 (by kernel_rfl) ⟨q39.1, g38, kb40, trivial⟩ fun a41 hf42 => ?_
    refine thenN ?_
    refine wp_seq ?_
    obtain ⟨g43, H1⟩ := ifS_guard H1
    have q44 := (hm34.slAt 1 rfl).float s28 g43.1 g43.2
    obtain ⟨b45, hb45, kb45⟩ := q44.2
    refine reg [.float .f64 b45] [1, 2, 8, 9, 15, 16, 17] [(1, .slice A1 x1.length c1), (2, .func (.func 50) #[] #[]), (8, .float .f64 b40), (9, .float .f64 b45), (15, .slice A0 x0.length c0), (16, .int .i64 (x0.length : Int)), (17, .int .i64 s28)] [.is (Option.isSome A1 = true), .is (0 ≤ s28 ∧ s28 < (x1.length : Int)), .cell ((ad A1).add ((s28).toNat * 1)) (.float .f64 b45)] hf42 (by kernel_rfl) ⟨q44.1, g43, kb45, trivial⟩ fun a46 hf47 => ?_
    refine thenN ?_
    refine wp_seq ?_
    obtain ⟨r48, hr48, H1⟩ := obS_split H1
    rcases ifbS_split H1 with ⟨c49, H1⟩ | ⟨c49, H1⟩
    · refine inReg ?_
      refine go 3 [] [1, 2, 15, 16, 17, 26, 27, 28] [(1, .slice A1 x1.length c1), (2, .func (.func 50) #[] #[]), (15, .slice A0 x0.length c0), (16, .int .i64 (x0.length : Int)), (17, .int .i64 s28), (26, .func (.func 50) #[] #[]), (27, .float .f64 b40), (28, .float .f64 b45)] [] hf47 (by kernel_rfl) trivial fun a50 hf51 => ?_
      refine listOf hf51 rfl (by kernel_rfl) (aCall (fid := 50) (args := [.float .f64 b40, .float .f64 b45]) (d := 29) hf51 (by kernel_rfl) (by kernel_rfl) callable50 (real_Same.calls _ _ (rd x0 s28) b40 hb40 (rd x1 s28) b45 hb45 (hm34.give [] [] rfl rfl) r48 hr48) ?_)
      rintro _ w52 a53 ⟨rfl, hk55⟩ hf54
      have hm56 := hm34.still hk55.cum.none
      rw [c49] at hf54
      refine go 1 [] [1, 2, 15, 16, 17, 30] [(1, .slice A1 x1.length c1), (2, .func (.func 50) #[] #[]), (15, .slice A0 x0.length c0), (16, .int .i64 (x0.length : Int)), (17, .int .i64 s28), (30, .bool false)] [] hf54 (by kernel_rfl) trivial fun a57 hf58 => ?_
      refine endL rfl ?_
      refine thenN ?_
      refine condF hf58 (by kernel_rfl) ?_
      refine wp_skip ?_
      refine blkN ?_
      refine thenN ?_
      refine reg [] [1, 2, 15, 16, 17] [(1, .slice A1 x1.length c1), (2, .func (.func 50) #[] #[]), (15, .slice A0 x0.length c0), (16, .int .i64 (x0.length : Int)), (17, .int .i64 (w64 (s28 + 1)))] [] hf58 (by kernel_rfl) trivial fun a59 hf60 => ?_
      exact ⟨(w64 (s28 + 1)), H1, hf60.sel (l := [1, 2, 15, 16, 17]) (by kernel_rfl), hm56.sel [0, 1] _ rfl (by kernel_rfl)⟩
    refine inReg ?_
    refine go 3 [] [1, 2, 15, 16, 17, 26, 27, 28] [(1, .slice A1 x1.length c1), (2, .func (.func 50) #[] #[]), (15, .slice A0 x0.length c0), (16, .int .i64 (x0.length : Int)), (17, .int .i64 s28), (26, .func (.func 50) #[] #[]), (27, .float .f64 b40), (28, .float .f64 b45)] [] hf47 (by kernel_rfl) trivial fun a61 hf62 => ?_
    refine listOf hf62 rfl (by kernel_rfl) (aCall (fid := 50) (args := [.float .f64 b40, .float .f64 b45]) (d := 29) hf62 (by kernel_rfl) (by kernel_rfl) callable50 (real_Same.calls _ _ (rd x0 s28) b40 hb40 (rd x1 s28) b45 hb45 (hm34.give [] [] rfl rfl) r48 hr48) ?_)
    rintro _ w63 a65 ⟨rfl, hk67⟩ hf66
    have hm68 := hm34.still hk67.cum.none
    rw [c49] at hf66
    refine go 1 [] [1, 2, 15, 16, 17, 30] [(1, .slice A1 x1.length c1), (2, .func (.func 50) #[] #[]), (15, .slice A0 x0.length c0), (16, .int .i64 (x0.length : Int)), (17, .int .i64 s28), (30, .bool true)] [] hf66 (by kernel_rfl) trivial fun a69 hf70 => ?_
    refine endL rfl ?_
    refine thenN ?_
    refine condT hf70 (by kernel_rfl) ?_
    refine wp_seq ?_
    refine reg [] [6] [(6, .bool false)] [] hf70 (by kernel_rfl) trivial fun a71 hf72 => ?_
    have hm73 := hm68.sel [] _ rfl (by kernel_rfl)
    refine thenN ?_
    refine wp_ret ?_
    refine blkR ?_
    refine thenR ?_
    refine thenR ?_
    refine .inr ⟨rfl, ?_⟩
    refine thenR ?_
    have hm74 : Mem [] M w0 [] w63 := hm73.sel [] _ rfl (by kernel_rfl)
    obtain rfl := Option.some.inj H1
    obtain rfl := Option.some.inj H0
    refine ret [] [.bool false] [] hf72 (by kernel_rfl) trivial ?_
    exact ⟨_, rfl, rfl, hm74⟩
  rintro a78 w79 ⟨yr29, rfl, hf80, hm81⟩
  refine thenN ?_
  refine wp_seq ?_
  refine reg [] [6] [(6, .bool true)] [] hf80 (by kernel_rfl) trivial fun a82 hf83 => ?_
  have hm84 := hm81.sel [] _ rfl (by kernel_rfl)
  refine thenN ?_
  refine wp_ret ?_
  have hm85 : Mem [] M w0 [] w79 := hm84.sel [] _ rfl (by kernel_rfl)
  obtain rfl := Option.some.inj H0
  refine ret [] [.bool true] [] hf83 (by kernel_rfl) trivial ?_
  exact ⟨_, rfl, rfl, hm85⟩

/-! ### backstitch/tensor.Same -/
noncomputable def tensor_Same.f (x0 : Tensor) (x1 : Tensor) : Option Bool :=
  (shape_Same.f x0.Shape x1.Shape).bind fun r37 =>
  if r37 = true then ((slices_EqualFunc_float64_real_Same.f x0.Data x1.Data).bind fun r39 =>
  some r39)
  else (some false)
set_option maxRecDepth 100000 in
set_option maxHeartbeats 4000000 in
theorem tensor_Same.calls (M : List (Option Nat)) (w0 : World) (x0 : Tensor) (A0_0 : Option Addr) (n0_0 c0_0 : Nat) (e0_0 : n0_0 = x0.Shape.length) (A0_1 : Option Addr) (n0_1 c0_1 : Nat) (e0_1 : n0_1 = x0.Data.length) (x1 : Tensor) (A1_0 : Option Addr) (n1_0 c1_0 : Nat) (e1_0 : n1_0 = x1.Shape.length) (A1_1 : Option Addr) (n1_1 c1_1 : Nat) (e1_1 : n1_1 = x1.Data.length) (hm0 : Mem [] M w0 [.sl (Kd.int .i64) A0_0 c0_0 x0.Shape, .sl Kd.float A0_1 c0_1 x0.Data, .sl (Kd.int .i64) A1_0 c1_0 x1.Shape, .sl Kd.float A1_1 c1_1 x1.Data] w0) (r : Bool) (H0 : tensor_Same.f x0 x1 = some r) :
    Calls Try.prog 27 [.agg #[.slice A0_0 n0_0 c0_0, .slice A0_1 n0_1 c0_1], .agg #[.slice A1_0 n1_0 c1_0, .slice A1_1 n1_1 c1_1]].toArray w0 (fun x w' => ∃ v, x = .returned v ∧ v = .bool r ∧ Mem [] M w0 [] w') := by
  subst e0_0
  subst e0_1
  subst e1_0
  subst e1_1
  unfold tensor_Same.f at H0
  refine enter (n := 17) Try.func27 rfl rfl (by kernel_rfl) fun a0 (hf0 : Fr 17 a0 [(0, .agg #[.slice A0_0 x0.Shape.length c0_0, .slice A0_1 x0.Data.length c0_1]), (1, .agg #[.slice A1_0 x1.Shape.length c1_0, .slice A1_1 x1.Data.length c1_1])]) => ?_
  refine wp_seq ?_
  refine inReg ?_
  refine listOf hf0 rfl (by kernel_rfl) (aNew (cs := [.slice A0_0 x0.Shape.length c0_0, .slice A0_1 x0.Data.length c0_1]) (T := 25) (d := 2) hf0 (by kernel_rfl) (by kernel_rfl) ?_)
  intro b21 w22 a23 hbb21 hx25 hg26 hf24
  have hm27 := hm0.box hbb21 hx25 hg26
  refine listOf hf24 rfl (by kernel_rfl) (aNew (cs := [.slice A1_0 x1.Shape.length c1_0, .slice A1_1 x1.Data.length c1_1]) (T := 25) (d := 3) hf24 (by kernel_rfl) (by kernel_rfl) ?_)
  intro b28 w29 a30 hbb28 hx32 hg33 hf31
  have hm34 := hm27.box hbb28 hx32 hg33
  refine go 1 [] [2, 3] [(2, .pointer (some ⟨b21, 0, none⟩)), (3, .pointer (some ⟨b28, 0, none⟩))] [] hf31 (by kernel_rfl) trivial fun a35 hf36 => ?_
  refine endL rfl ?_
  refine thenN ?_
  refine wp_seq ?_
  obtain ⟨r37, hr37, H0⟩ := ob_split H0
  rcases ifb_split H0 with ⟨c38, H0⟩ | ⟨c38, H0⟩
  rotate_left
  · refine inReg ?_
    refine go 4 [.slice A0_0 x0.Shape.length c0_0, .slice A1_0 x1.Shape.length c1_0] [2, 3, 6, 8] [(2, .pointer (some ⟨b21, 0, none⟩)), (3, .pointer (some ⟨b28, 0, none⟩)), (6, .slice A0_0 x0.Shape.length c0_0), (8, .slice A1_0 x1.Shape.length c1_0)] [.cell ⟨b21, 0, none⟩ (.slice A0_0 x0.Shape.length c0_0), .cell ⟨b28, 0, none⟩ (.slice A1_0 x1.Shape.length c1_0)] hf36 (by kernel_rfl) ⟨(hm34.cell 1 rfl rfl), (hm34.cell 0 rfl rfl), trivial⟩ fun a59 hf60 => ?_
    refine listOf hf60 rfl (by kernel_rfl) (aCall (fid := 48) (args := [.slice A0_0 x0.Shape.length c0_0, .slice A1_0 x1.Shape.length c1_0]) (d := 9) hf60 (by kernel_rfl) (by kernel_rfl) callable48 (shape_Same.calls _ _ x0.Shape A0_0 x0.Shape.length c0_0 rfl x1.Shape A1_0 x1.Shape.length c1_0 rfl (hm34.give [2, 4] [.sl (Kd.int .i64) A0_0 c0_0 x0.Shape, .sl (Kd.int .i64) A1_0 c1_0 x1.Shape] rfl rfl) r37 hr37) ?_)
    rintro _ w61 a62 ⟨rfl, hk65⟩ hf63
    have hm66 := hm34.still hk65.cum.none
    rw [c38] at hf63
    refine go 8 [] [4] [(4, .bool false)] [] hf63 (by kernel_rfl) trivial fun a67 hf68 => ?_
    refine endL rfl ?_
    have hm69 := hm66.sel [] _ rfl (by kernel_rfl)
    refine thenN ?_
    refine wp_ret ?_
    have hm70 : Mem [] M w0 [] w61 := hm69.sel [] _ rfl (by kernel_rfl)
    obtain rfl := Option.some.inj H0
    refine ret [] [.bool false] [] hf68 (by kernel_rfl) trivial ?_
    exact ⟨_, rfl, rfl, hm70⟩
  obtain ⟨r39, hr39, H0⟩ := ob_split H0
  refine inReg ?_
  refine go 4 [.slice A0_0 x0.Shape.length c0_0, .slice A1_0 x1.Shape.length c1_0] [2, 3, 6, 8] [(2, .pointer (some ⟨b21, 0, none⟩)), (3, .pointer (some ⟨b28, 0, none⟩)), (6, .slice A0_0 x0.Shape.length c0_0), (8, .slice A1_0 x1.Shape.length c1_0)] [.cell ⟨b21, 0, none⟩ (.slice A0_0 x0.Shape.length c0_0), .cell ⟨b28, 0, none⟩ (.slice A1_0 x1.Shape.length c1_0)] hf36 (by kernel_rfl) ⟨(hm34.cell 1 rfl rfl), (hm34.cell 0 rfl rfl), trivial⟩ fun a40 hf41 => ?_
  refine listOf hf41 rfl (by kernel_rfl) (aCall (fid := 48) (args := [.slice A0_0 x0.Shape.length c0_0, .slice A1_0 x1.Shape.length c1_0]) (d := 9) hf41 (by kernel_rfl) (by kernel_rfl) callable48 (shape_Same.calls _ _ x0.Shape A0_0 x0.Shape.length c0_0 rfl x1.Shape A1_0 x1.Shape.length c1_0 rfl (hm34.give [2, 4] [.sl (Kd.int .i64) A0_0 c0_0 x0.Shape, .sl (Kd.int .i64) A1_0 c1_0 x1.Shape] rfl rfl) r37 hr37) ?_)
  rintro _ w42 a43 ⟨rfl, hk45⟩ hf44
  have hm46 := hm34.still hk45.cum.none
  rw [c38] at hf44
  refine go 5 [.slice A0_1 x0.Data.length c0_1, .slice A1_1 x1.Data.length c1_1] [10, 12, 14] [(10, .bool true), (12, .slice A0_1 x0.Data.length c0_1), (14, .slice A1_1 x1.Data.length c1_1)] [.cell ⟨b21, 1, none⟩ (.slice A0_1 x0.Data.length c0_1), .cell ⟨b28, 1, none⟩ (.slice A1_1 x1.Data.length c1_1)] hf44 (by kernel_rfl) ⟨(hm46.cell 1 rfl rfl), (hm46.cell 0 rfl rfl), trivial⟩ fun a47 hf48 => ?_
  refine listOf hf48 rfl (by kernel_rfl) (aCall (fid := 49) (args := [.slice A0_1 x0.Data.length c0_1, .slice A1_1 x1.Data.length c1_1, .func (.func 50) #[] #[]]) (d := 15) hf48 (by kernel_rfl) (by kernel_rfl) callable49 (slices_EqualFunc_float64_real_Same.calls _ _ x0.Data A0_1 x0.Data.length c0_1 rfl x1.Data A1_1 x1.Data.length c1_1 rfl (hm46.give [3, 5] [.sl Kd.float A0_1 c0_1 x0.Data, .sl Kd.float A1_1 c1_1 x1.Data] rfl rfl) r39 hr39) ?_)
  rintro _ w49 a50 ⟨rfl, hk52⟩ hf51
  have hm53 := hm46.still hk52.cum.none
  refine go 2 [] [4] [(4, .bool r39)] [] hf51 (by kernel_rfl) trivial fun a54 hf55 => ?_
  refine endL rfl ?_
  have hm56 := hm53.sel [] _ rfl (by kernel_rfl)
  refine thenN ?_
  refine wp_ret ?_
  have hm57 : Mem [] M w0 [] w49 := hm56.sel [] _ rfl (by kernel_rfl)
  obtain rfl := Option.some.inj H0
  refine ret [] [.bool r39] [] hf55 (by kernel_rfl) trivial ?_
  exact ⟨_, rfl, rfl, hm57⟩
end Go.Proofs.Ytkcgiolledmbnac
