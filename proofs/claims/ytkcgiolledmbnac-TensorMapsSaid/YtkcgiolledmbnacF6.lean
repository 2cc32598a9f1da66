/- Printed by gen.py. -/
import Derived.Test.YtkcgiolledmbnacK
namespace Go.Proofs.Ytkcgiolledmbnac
open Go Go.RowKit
set_option linter.unusedSimpArgs false
set_option linter.unusedVariables false
set_option linter.unnecessarySimpa false
/-! ### backstitch/backstitchref1.SameInts -/
noncomputable def ref1_SameInts.l0 (x0 : (List Int)) (x1 : (List Int)) (s28 : Int) : Step Int (Out2 Int Bool) :=
  if s28 < (x0.length : Int) then (if 0 ≤ s28 ∧ s28 < (x0.length : Int) then (if 0 ≤ s28 ∧ s28 < (x1.length : Int) then (if (rd x0 s28) = (rd x1 s28) then (.next (w64 (s28 + 1)))
  else (.done (.ret false)))
  else .bad)
  else .bad)
  else (.done (.go s28))
noncomputable def ref1_SameInts.f (x0 : (List Int)) (x1 : (List Int)) : Option Bool :=
  if (x0.length : Int) = (x1.length : Int) then ((loop (ref1_SameInts.l0 x0 x1) 0).bind fun r29 =>
  r29.on (fun yr29 =>
  some true) (fun y => some y))
  else (some false)
set_option maxRecDepth 100000 in
set_option maxHeartbeats 4000000 in
theorem ref1_SameInts.calls (M : List (Option Nat)) (w0 : World) (x0 : (List Int)) (A0 : Option Addr) (n0 c0 : Nat) (e0 : n0 = x0.length) (x1 : (List Int)) (A1 : Option Addr) (n1 c1 : Nat) (e1 : n1 = x1.length) (hm0 : Mem [] M w0 [.sl (Kd.int .i64) A0 c0 x0, .sl (Kd.int .i64) A1 c1 x1] w0) (r : Bool) (H0 : ref1_SameInts.f x0 x1 = some r) :
    Calls Try.prog 12 [.slice A0 n0 c0, .slice A1 n1 c1].toArray w0 (fun x w' => ∃ v, x = .returned v ∧ v = .bool r ∧ Mem [] M w0 [] w') := by
  subst e0
  subst e1
  unfold ref1_SameInts.f at H0
  refine enter (n := 26) Try.func12 rfl rfl (by kernel_rfl) fun a0 (hf0 : Fr 26 a0 [(0, .slice A0 x0.length c0), (1, .slice A1 x1.length c1)]) => ?_
  refine wp_seq ?_
  refine reg [] [0, 1] [(0, .slice A0 x0.length c0), (1, .slice A1 x1.length c1)] [] hf0 (by kernel_rfl) trivial fun a21 hf22 => ?_
  refine thenN ?_
  refine wp_seq ?_
  refine wp_seq ?_
  rcases if_split H0 with ⟨c23, H0⟩ | ⟨c23, H0⟩
  rotate_left
  · refine reg [.bool true] [0, 1, 10] [(0, .slice A0 x0.length c0), (1, .slice A1 x1.length c1), (10, .bool true)] [.is ((((x0.length : Int) : Int) != (x1.length : Int)) = true)] hf22 (by kernel_rfl) ⟨(neT c23), trivial⟩ fun a74 hf75 => ?_
    refine thenN ?_
    refine condT hf75 (by kernel_rfl) ?_
    refine wp_seq ?_
    refine reg [] [4] [(4, .bool false)] [] hf75 (by kernel_rfl) trivial fun a76 hf77 => ?_
    have hm78 := hm0.sel [] _ rfl (by kernel_rfl)
    refine thenN ?_
    refine wp_ret ?_
    refine thenR ?_
    have hm79 : Mem [] M w0 [] w0 := hm78.sel [] _ rfl (by kernel_rfl)
    obtain rfl := Option.some.inj H0
    refine ret [] [.bool false] [] hf77 (by kernel_rfl) trivial ?_
    exact ⟨_, rfl, rfl, hm79⟩
  refine reg [.bool false] [0, 1, 10] [(0, .slice A0 x0.length c0), (1, .slice A1 x1.length c1), (10, .bool false)] [.is ((((x0.length : Int) : Int) != (x1.length : Int)) = false)] hf22 (by kernel_rfl) ⟨(neF c23), trivial⟩ fun a24 hf25 => ?_
  refine thenN ?_
  refine condF hf25 (by kernel_rfl) ?_
  refine wp_skip ?_
  refine thenN ?_
  refine wp_seq ?_
  refine wp_seq ?_
  refine reg [] [0, 1, 5] [(0, .slice A0 x0.length c0), (1, .slice A1 x1.length c1), (5, .int .i64 0)] [] hf25 (by kernel_rfl) trivial fun a26 hf27 => ?_
  refine thenN ?_
  obtain ⟨r29, hr29, H0⟩ := ob_split H0
  refine wpBlock (Mid := fun (a : Act) (w : World) => ∃ yr29 : Int, r29 = .go yr29 ∧ Fr 26 a [(0, .slice A0 x0.length c0), (1, .slice A1 x1.length c1), (5, .int .i64 yr29)] ∧ Mem [] M w0 [.sl (Kd.int .i64) A0 c0 x0, .sl (Kd.int .i64) A1 c1 x1] w) ?_ ?_
  · refine wpLoop (ref1_SameInts.l0 x0 x1) r29 (fun (s28 : Int) (a : Act) (w : World) => Fr 26 a [(0, .slice A0 x0.length c0), (1, .slice A1 x1.length c1), (5, .int .i64 s28)] ∧ Mem [] M w0 [.sl (Kd.int .i64) A0 c0 x0, .sl (Kd.int .i64) A1 c1 x1] w) 0 hr29 ⟨hf27.sel (l := [0, 1, 5]) (by kernel_rfl), hm0.sel [0, 1] _ rfl (by kernel_rfl)⟩ ?_
    rintro g30 s28 a31 w32 H1 ⟨hf33, hm34⟩
    unfold ref1_SameInts.l0 at H1
    refine wp_seq ?_
    refine wp_seq ?_
    rcases ifS_split H1 with ⟨c35, H1⟩ | ⟨c35, H1⟩
    rotate_left
    · refine reg [.bool false] [0, 1, 5, 14] [(0, .slice A0 x0.length c0), (1, .slice A1 x1.length c1), (5, .int .i64 s28), (14, .bool false)] [.is (decide (s28 < (x0.length : Int)) = false)] hf33 (by kernel_rfl) ⟨(decide_eq_false c35), trivial⟩ fun a62 hf63 => ?_
      refine thenN ?_
      refine condF hf63 (by kernel_rfl) ?_
      refine wp_exit ?_
      refine thenE ?_
      refine thenE ?_
      obtain rfl := Option.some.inj H1
      exact .inl ⟨rfl, s28, rfl, hf63.sel (l := [0, 1, 5]) (by kernel_rfl), hm34.sel [0, 1] _ rfl (by kernel_rfl)⟩
    refine reg [.bool true] [0, 1, 5, 14] [(0, .slice A0 x0.length c0), (1, .slice A1 x1.length c1), (5, .int .i64 s28), (14, .bool true)] [.is (decide (s28 < (x0.length : Int)) = true)] hf33 (by kernel_rfl) ⟨(decide_eq_true c35), trivial⟩ fun a36 hf37 => ?_
    refine thenN ?_
    refine condT hf37 (by kernel_rfl) ?_
    refine wp_skip ?_
    refine thenN ?_
    refine wp_seq ?_
    refine wp_block ?_
    refine wp_seq ?_
    obtain ⟨g38, H1⟩ := ifS_guard H1
    obtain ⟨g39, H1⟩ := ifS_guard H1
    rcases ifS_split H1 with ⟨c40, H1⟩ | ⟨c40, H1⟩
    · have q41 := (hm34.slAt 0 rfl).int s28 g38.1 g38.2
      have q42 := (hm34.slAt 1 rfl).int s28 g39.1 g39.2
      refine regQ [.int .i64 (rd x0 s28), .int .i64 (rd x1 s28), .bool false] [0, 1, 5, 25] [(0, .slice A0 x0.length c0), (1, .slice A1 x1.length c1), (5, .int .i64 s28), (25, .bool false)] [.is (Option.isSome A0 = true), .is (0 ≤ s28 ∧ s28 < (x0.length : Int)), .cell ((ad A0).add ((s28).toNat * 1)) (.int .i64 (rd x0 s28)), .is (Option.isSome A1 = true), .is (0 ≤ s28 ∧ s28 < (x1.length : Int)), .cell ((ad A1).add ((s28).toNat * 1)) (.int .i64 (rd x1 s28)), .is ((((rd x0 s28) : Int) != (rd x1 s28)) = false)] (by kernel_rfl) (by kernel_rfl) hf37 (by kernel_rfl) ⟨q41.1, g38, q41.2, q42.1, g39, q42.2, (neF c40), trivial⟩ fun a43 w45 hf44 hg46 => ?_
      have hm47 := hm34.still hg46
      refine thenN ?_
      refine condF hf44 (by kernel_rfl) ?_
      refine wp_skip ?_
      refine blkN ?_
      refine thenN ?_
      refine reg [] [0, 1, 5] [(0, .slice A0 x0.length c0), (1, .slice A1 x1.length c1), (5, .int .i64 (w64 (s28 + 1)))] [] hf44 (by kernel_rfl) trivial fun a48 hf49 => ?_
      exact ⟨(w64 (s28 + 1)), H1, hf49.sel (l := [0, 1, 5]) (by kernel_rfl), hm47.sel [0, 1] _ rfl (by kernel_rfl)⟩
    have q50 := (hm34.slAt 0 rfl).int s28 g38.1 g38.2
    have q51 := (hm34.slAt 1 rfl).int s28 g39.1 g39.2
    refine regQ [.int .i64 (rd x0 s28), .int .i64 (rd x1 s28), .bool true] [0, 1, 5, 25] [(0, .slice A0 x0.length c0), (1, .slice A1 x1.length c1), (5, .int .i64 s28), (25, .bool true)] [.is (Option.isSome A0 = true), .is (0 ≤ s28 ∧ s28 < (x0.length : Int)), .cell ((ad A0).add ((s28).toNat * 1)) (.int .i64 (rd x0 s28)), .is (Option.isSome A1 = true), .is (0 ≤ s28 ∧ s28 < (x1.length : Int)), .cell ((ad A1).add ((s28).toNat * 1)) (.int .i64 (rd x1 s28)), .is ((((rd x0 s28) : Int) != (rd x1 s28)) = true)] (by kernel_rfl) (by kernel_rfl) hf37 (by kernel_rfl) ⟨q50.1, g38, q50.2, q51.1, g39, q51.2, (neT c40), trivial⟩ fun a52 w54 hf53 hg55 => ?_
    have hm56 := hm34.still hg55
    refine thenN ?_
    refine condT hf53 (by kernel_rfl) ?_
    refine wp_seq ?_
    refine reg [] [4] [(4, .bool false)] [] hf53 (by kernel_rfl) trivial fun a57 hf58 => ?_
    have hm59 := hm56.sel [] _ rfl (by kernel_rfl)
    refine thenN ?_
    refine wp_ret ?_
    refine blkR ?_
    refine thenR ?_
    refine thenR ?_
    refine .inr ⟨rfl, ?_⟩
    refine thenR ?_
    have hm60 : Mem [] M w0 [] w54 := hm59.sel [] _ rfl (by kernel_rfl)
    obtain rfl := Option.some.inj H1
    obtain rfl := Option.some.inj H0
    refine ret [] [.bool false] [] hf58 (by kernel_rfl) trivial ?_
    exact ⟨_, rfl, rfl, hm60⟩
  rintro a65 w66 ⟨yr29, rfl, hf67, hm68⟩
  refine thenN ?_
  refine wp_seq ?_
  refine reg [] [4] [(4, .bool true)] [] hf67 (by kernel_rfl) trivial fun a69 hf70 => ?_
  have hm71 := hm68.sel [] _ rfl (by kernel_rfl)
  refine thenN ?_
  refine wp_ret ?_
  have hm72 : Mem [] M w0 [] w66 := hm71.sel [] _ rfl (by kernel_rfl)
  obtain rfl := Option.some.inj H0
  refine ret [] [.bool true] [] hf70 (by kernel_rfl) trivial ?_
  exact ⟨_, rfl, rfl, hm72⟩

/-! ### backstitch/backstitchref1.Bits -/
noncomputable def ref1_Bits.f (x0 : Nat) : Option Int :=
  if (fne x0 x0) = true then (some 9221120237041090561)
  else (some (x0 : Int))
set_option maxRecDepth 100000 in
set_option maxHeartbeats 4000000 in
theorem ref1_Bits.calls (M : List (Option Nat)) (w0 : World) (x0 : Nat) (b0 : Nat) (h0 : FR b0 x0) (hm0 : Mem [] M w0 [] w0) (r : Int) (H0 : ref1_Bits.f x0 = some r) :
    Calls Try.prog 30 [.float .f64 b0].toArray w0 (fun x w' => ∃ v, x = .returned v ∧ v = .int .u64 r ∧ Mem [] M w0 [] w') := by
  unfold ref1_Bits.f at H0
  refine enter (n := 8) Try.func30 rfl rfl (by kernel_rfl) fun a0 (hf0 : Fr 8 a0 [(0, .float .f64 b0)]) => ?_
  refine wp_seq ?_
  refine reg [] [0] [(0, .float .f64 b0)] [] hf0 (by kernel_rfl) trivial fun a21 hf22 => ?_
  refine thenN ?_
  refine wp_seq ?_
  refine wp_seq ?_
  rcases ifb_split H0 with ⟨c23, H0⟩ | ⟨c23, H0⟩
  · refine reg [.bool true] [0, 5] [(0, .float .f64 b0), (5, .bool true)] [.is ((FloatKind.f64.format.order b0 b0 != some .eq) = true)] hf22 (by kernel_rfl) ⟨(ftNe h0 h0 c23), trivial⟩ fun a24 hf25 => ?_
    refine thenN ?_
    refine condT hf25 (by kernel_rfl) ?_
    refine wp_seq ?_
    refine reg [] [2] [(2, .int .u64 9221120237041090561)] [] hf25 (by kernel_rfl) trivial fun a26 hf27 => ?_
    refine thenN ?_
    refine wp_ret ?_
    refine thenR ?_
    have hm28 : Mem [] M w0 [] w0 := hm0.sel [] _ rfl (by kernel_rfl)
    obtain rfl := Option.some.inj H0
    refine ret [] [.int .u64 9221120237041090561] [] hf27 (by kernel_rfl) trivial ?_
    exact ⟨_, rfl, rfl, hm28⟩
  refine reg [.bool false] [0, 5] [(0, .float .f64 b0), (5, .bool false)] [.is ((FloatKind.f64.format.order b0 b0 != some .eq) = false)] hf22 (by kernel_rfl) ⟨(ftNe h0 h0 c23), trivial⟩ fun a30 hf31 => ?_
  refine thenN ?_
  refine condF hf31 (by kernel_rfl) ?_
  refine wp_skip ?_
  refine thenN ?_
  refine wp_seq ?_
  refine inReg ?_
  refine go 1 [] [6] [(6, .float .f64 b0)] [] hf31 (by kernel_rfl) trivial fun a32 hf33 => ?_
  refine listOf hf33 rfl (by kernel_rfl) (aExtern (fid := 52) (args := [.float .f64 b0]) (d := 7) (R := fun v w' => v = .int .u64 (x0 : Int) ∧ w0 = w') hf33 (by kernel_rfl) (by kernel_rfl) ⟨_, Try.func52, rfl, rfl, by kernel_rfl, rfl⟩ ⟨_, _, run_bits _, by rw [FR.bits h0 c23], rfl⟩ ?_)
  rintro _ _ a35 ⟨rfl, rfl⟩ hf36
  refine go 1 [] [2] [(2, .int .u64 (x0 : Int))] [] hf36 (by kernel_rfl) trivial fun a37 hf38 => ?_
  refine endL rfl ?_
  refine thenN ?_
  refine wp_ret ?_
  have hm39 : Mem [] M w0 [] w0 := hm0.sel [] _ rfl (by kernel_rfl)
  obtain rfl := Option.some.inj H0
  refine ret [] [.int .u64 (x0 : Int)] [] hf38 (by kernel_rfl) trivial ?_
  exact ⟨_, rfl, rfl, hm39⟩

/-! ### backstitch/backstitchref1.Same -/
noncomputable def ref1_Same.f (x0 : Nat) (x1 : Nat) : Option Bool :=
  (ref1_Bits.f x0).bind fun r23 =>
  (ref1_Bits.f x1).bind fun r24 =>
  if r23 = r24 then (some true)
  else (some false)
set_option maxRecDepth 100000 in
set_option maxHeartbeats 4000000 in
theorem ref1_Same.calls (M : List (Option Nat)) (w0 : World) (x0 : Nat) (b0 : Nat) (h0 : FR b0 x0) (x1 : Nat) (b1 : Nat) (h1 : FR b1 x1) (hm0 : Mem [] M w0 [] w0) (r : Bool) (H0 : ref1_Same.f x0 x1 = some r) :
    Calls Try.prog 13 [.float .f64 b0, .float .f64 b1].toArray w0 (fun x w' => ∃ v, x = .returned v ∧ v = .bool r ∧ Mem [] M w0 [] w') := by
  unfold ref1_Same.f at H0
  refine enter (n := 10) Try.func13 rfl rfl (by kernel_rfl) fun a0 (hf0 : Fr 10 a0 [(0, .float .f64 b0), (1, .float .f64 b1)]) => ?_
  refine wp_seq ?_
  refine reg [] [0, 1] [(0, .float .f64 b0), (1, .float .f64 b1)] [] hf0 (by kernel_rfl) trivial fun a21 hf22 => ?_
  refine thenN ?_
  refine wp_seq ?_
  obtain ⟨r23, hr23, H0⟩ := ob_split H0
  obtain ⟨r24, hr24, H0⟩ := ob_split H0
  rcases if_split H0 with ⟨c25, H0⟩ | ⟨c25, H0⟩
  · refine inReg ?_
    refine go 1 [] [1, 5] [(1, .float .f64 b1), (5, .float .f64 b0)] [] hf22 (by kernel_rfl) trivial fun a26 hf27 => ?_
    refine listOf hf27 rfl (by kernel_rfl) (aCall (fid := 30) (args := [.float .f64 b0]) (d := 6) hf27 (by kernel_rfl) (by kernel_rfl) callable30 (ref1_Bits.calls _ _ x0 b0 h0 (hm0.give [] [] rfl rfl) r23 hr23) ?_)
    rintro _ w28 a29 ⟨rfl, hk31⟩ hf30
    have hm32 := hm0.still hk31.cum.none
    refine go 1 [] [6, 7] [(6, .int .u64 r23), (7, .float .f64 b1)] [] hf30 (by kernel_rfl) trivial fun a33 hf34 => ?_
    refine listOf hf34 rfl (by kernel_rfl) (aCall (fid := 30) (args := [.float .f64 b1]) (d := 8) hf34 (by kernel_rfl) (by kernel_rfl) callable30 (ref1_Bits.calls _ _ x1 b1 h1 (hm32.give [] [] rfl rfl) r24 hr24) ?_)
    rintro _ w35 a36 ⟨rfl, hk38⟩ hf37
    have hm39 := hm32.still hk38.cum.none
    refine go 2 [.bool true] [4] [(4, .bool true)] [.is (((r23 : Int) == r24) = true)] hf37 (by kernel_rfl) ⟨(eqT c25), trivial⟩ fun a40 hf41 => ?_
    refine endL rfl ?_
    refine thenN ?_
    refine wp_ret ?_
    have hm42 : Mem [] M w0 [] w35 := hm39.sel [] _ rfl (by kernel_rfl)
    obtain rfl := Option.some.inj H0
    refine ret [] [.bool true] [] hf41 (by kernel_rfl) trivial ?_
    exact ⟨_, rfl, rfl, hm42⟩
  refine inReg ?_
  refine go 1 [] [1, 5] [(1, .float .f64 b1), (5, .float .f64 b0)] [] hf22 (by kernel_rfl) trivial fun a44 hf45 => ?_
  refine listOf hf45 rfl (by kernel_rfl) (aCall (fid := 30) (args := [.float .f64 b0]) (d := 6) hf45 (by kernel_rfl) (by kernel_rfl) callable30 (ref1_Bits.calls _ _ x0 b0 h0 (hm0.give [] [] rfl rfl) r23 hr23) ?_)
  rintro _ w46 a47 ⟨rfl, hk49⟩ hf48
  have hm50 := hm0.still hk49.cum.none
  refine go 1 [] [6, 7] [(6, .int .u64 r23), (7, .float .f64 b1)] [] hf48 (by kernel_rfl) trivial fun a51 hf52 => ?_
  refine listOf hf52 rfl (by kernel_rfl) (aCall (fid := 30) (args := [.float .f64 b1]) (d := 8) hf52 (by kernel_rfl) (by kernel_rfl) callable30 (ref1_Bits.calls _ _ x1 b1 h1 (hm50.give [] [] rfl rfl) r24 hr24) ?_)
  rintro _ w53 a54 ⟨rfl, hk56⟩ hf55
  have hm57 := hm50.still hk56.cum.none
  refine go 2 [.bool false] [4] [(4, .bool false)] [.is (((r23 : Int) == r24) = false)] hf55 (by kernel_rfl) ⟨(eqF c25), trivial⟩ fun a58 hf59 => ?_
  refine endL rfl ?_
  refine thenN ?_
  refine wp_ret ?_
  have hm60 : Mem [] M w0 [] w53 := hm57.sel [] _ rfl (by kernel_rfl)
  obtain rfl := Option.some.inj H0
  refine ret [] [.bool false] [] hf59 (by kernel_rfl) trivial ?_
  exact ⟨_, rfl, rfl, hm60⟩

/-! ### backstitch/kernel.two -/
set_option maxRecDepth 100000 in
set_option maxHeartbeats 4000000 in
theorem kernel_two.calls0 (M : List (Option Nat)) (w0 : World) (x0 : Int) (hm0 : Mem [] M w0 [] w0) (k0 : x0 = 4) :
    Calls Try.prog 53 [.int .i64 x0].toArray w0 (fun x w' => ∃ v, x = .returned v ∧ v = .func (.func 68) #[] #[] ∧ Mem [] M w0 [] w') := by
  refine enter (n := 12) Try.func53 rfl rfl (by kernel_rfl) fun a0 (hf0 : Fr 12 a0 [(0, .int .i64 x0)]) => ?_
  refine wp_seq ?_
  refine reg [] [0] [(0, .int .i64 x0)] [] hf0 (by kernel_rfl) trivial fun a21 hf22 => ?_
  refine thenN ?_
  refine wp_seq ?_
  refine wp_seq ?_
  refine reg [] [3] [(3, .int .i64 x0)] [] hf22 (by kernel_rfl) trivial fun a23 hf24 => ?_
  refine thenN ?_
  refine wp_block ?_
  refine wp_seq ?_
  refine reg [.bool true] [3, 4] [(3, .int .i64 x0), (4, .bool true)] [.is (((x0 : Int) == 4) = true)] hf24 (by kernel_rfl) ⟨(eqT k0), trivial⟩ fun a25 hf26 => ?_
  refine thenN ?_
  refine condT hf26 (by kernel_rfl) ?_
  refine wp_seq ?_
  refine reg [] [2] [(2, .func (.func 68) #[] #[])] [] hf26 (by kernel_rfl) trivial fun a27 hf28 => ?_
  refine thenN ?_
  refine wp_ret ?_
  refine blkR ?_
  refine thenR ?_
  have hm29 : Mem [] M w0 [] w0 := hm0.sel [] _ rfl (by kernel_rfl)
  refine ret [] [.func (.func 68) #[] #[]] [] hf28 (by kernel_rfl) trivial ?_
  exact ⟨_, rfl, rfl, hm29⟩
set_option maxRecDepth 100000 in
set_option maxHeartbeats 4000000 in
theorem kernel_two.calls1 (M : List (Option Nat)) (w0 : World) (x0 : Int) (hm0 : Mem [] M w0 [] w0) (k0 : ¬ (x0 = 4)) (k1 : x0 = 5) :
    Calls Try.prog 53 [.int .i64 x0].toArray w0 (fun x w' => ∃ v, x = .returned v ∧ v = .func (.func 69) #[] #[] ∧ Mem [] M w0 [] w') := by
  refine enter (n := 12) Try.func53 rfl rfl (by kernel_rfl) fun a0 (hf0 : Fr 12 a0 [(0, .int .i64 x0)]) => ?_
  refine wp_seq ?_
  refine reg [] [0] [(0, .int .i64 x0)] [] hf0 (by kernel_rfl) trivial fun a21 hf22 => ?_
  refine thenN ?_
  refine wp_seq ?_
  refine wp_seq ?_
  refine reg [] [3] [(3, .int .i64 x0)] [] hf22 (by kernel_rfl) trivial fun a23 hf24 => ?_
  refine thenN ?_
  refine wp_block ?_
  refine wp_seq ?_
  refine reg [.bool false] [3, 4] [(3, .int .i64 x0), (4, .bool false)] [.is (((x0 : Int) == 4) = false)] hf24 (by kernel_rfl) ⟨(eqF k0), trivial⟩ fun a25 hf26 => ?_
  refine thenN ?_
  refine condF hf26 (by kernel_rfl) ?_
  refine wp_seq ?_
  refine reg [.bool true] [3, 6] [(3, .int .i64 x0), (6, .bool true)] [.is (((x0 : Int) == 5) = true)] hf26 (by kernel_rfl) ⟨(eqT k1), trivial⟩ fun a27 hf28 => ?_
  refine thenN ?_
  refine condT hf28 (by kernel_rfl) ?_
  refine wp_seq ?_
  refine reg [] [2] [(2, .func (.func 69) #[] #[])] [] hf28 (by kernel_rfl) trivial fun a29 hf30 => ?_
  refine thenN ?_
  refine wp_ret ?_
  refine blkR ?_
  refine thenR ?_
  have hm31 : Mem [] M w0 [] w0 := hm0.sel [] _ rfl (by kernel_rfl)
  refine ret [] [.func (.func 69) #[] #[]] [] hf30 (by kernel_rfl) trivial ?_
  exact ⟨_, rfl, rfl, hm31⟩
set_option maxRecDepth 100000 in
set_option maxHeartbeats 4000000 in
theorem kernel_two.calls2 (M : List (Option Nat)) (w0 : World) (x0 : Int) (hm0 : Mem [] M w0 [] w0) (k0 : ¬ (x0 = 4)) (k1 : ¬ (x0 = 5)) (k2 : x0 = 6) :
    Calls Try.prog 53 [.int .i64 x0].toArray w0 (fun x w' => ∃ v, x = .returned v ∧ v = .func (.func 70) #[] #[] ∧ Mem [] M w0 [] w') := by
  refine enter (n := 12) Try.func53 rfl rfl (by kernel_rfl) fun a0 (hf0 : Fr 12 a0 [(0, .int .i64 x0)]) => ?_
  refine wp_seq ?_
  refine reg [] [0] [(0, .int .i64 x0)] [] hf0 (by kernel_rfl) trivial fun a21 hf22 => ?_
  refine thenN ?_
  refine wp_seq ?_
  refine wp_seq ?_
  refine reg [] [3] [(3, .int .i64 x0)] [] hf22 (by kernel_rfl) trivial fun a23 hf24 => ?_
  refine thenN ?_
  refine wp_block ?_
  refine wp_seq ?_
  refine reg [.bool false] [3, 4] [(3, .int .i64 x0), (4, .bool false)] [.is (((x0 : Int) == 4) = false)] hf24 (by kernel_rfl) ⟨(eqF k0), trivial⟩ fun a25 hf26 => ?_
  refine thenN ?_
  refine condF hf26 (by kernel_rfl) ?_
  refine wp_seq ?_
  refine reg [.bool false] [3, 6] [(3, .int .i64 x0), (6, .bool false)] [.is (((x0 : Int) == 5) = false)] hf26 (by kernel_rfl) ⟨(eqF k1), trivial⟩ fun a27 hf28 => ?_
  refine thenN ?_
  refine condF hf28 (by kernel_rfl) ?_
  refine wp_seq ?_
  refine reg [.bool true] [3, 8] [(3, .int .i64 x0), (8, .bool true)] [.is (((x0 : Int) == 6) = true)] hf28 (by kernel_rfl) ⟨(eqT k2), trivial⟩ fun a29 hf30 => ?_
  refine thenN ?_
  refine condT hf30 (by kernel_rfl) ?_
  refine wp_seq ?_
  refine reg [] [2] [(2, .func (.func 70) #[] #[])] [] hf30 (by kernel_rfl) trivial fun a31 hf32 => ?_
  refine thenN ?_
  refine wp_ret ?_
  refine blkR ?_
  refine thenR ?_
  have hm33 : Mem [] M w0 [] w0 := hm0.sel [] _ rfl (by kernel_rfl)
  refine ret [] [.func (.func 70) #[] #[]] [] hf32 (by kernel_rfl) trivial ?_
  exact ⟨_, rfl, rfl, hm33⟩
set_option maxRecDepth 100000 in
set_option maxHeartbeats 4000000 in
theorem kernel_two.calls3 (M : List (Option Nat)) (w0 : World) (x0 : Int) (hm0 : Mem [] M w0 [] w0) (k0 : ¬ (x0 = 4)) (k1 : ¬ (x0 = 5)) (k2 : ¬ (x0 = 6)) (k3 : x0 = 7) :
    Calls Try.prog 53 [.int .i64 x0].toArray w0 (fun x w' => ∃ v, x = .returned v ∧ v = .func (.func 71) #[] #[] ∧ Mem [] M w0 [] w') := by
  refine enter (n := 12) Try.func53 rfl rfl (by kernel_rfl) fun a0 (hf0 : Fr 12 a0 [(0, .int .i64 x0)]) => ?_
  refine wp_seq ?_
  refine reg [] [0] [(0, .int .i64 x0)] [] hf0 (by kernel_rfl) trivial fun a21 hf22 => ?_
  refine thenN ?_
  refine wp_seq ?_
  refine wp_seq ?_
  refine reg [] [3] [(3, .int .i64 x0)] [] hf22 (by kernel_rfl) trivial fun a23 hf24 => ?_
  refine thenN ?_
  refine wp_block ?_
  refine wp_seq ?_
  refine reg [.bool false] [3, 4] [(3, .int .i64 x0), (4, .bool false)] [.is (((x0 : Int) == 4) = false)] hf24 (by kernel_rfl) ⟨(eqF k0), trivial⟩ fun a25 hf26 => ?_
  refine thenN ?_
  refine condF hf26 (by kernel_rfl) ?_
  refine wp_seq ?_
  refine reg [.bool false] [3, 6] [(3, .int .i64 x0), (6, .bool false)] [.is (((x0 : Int) == 5) = false)] hf26 (by kernel_rfl) ⟨(eqF k1), trivial⟩ fun a27 hf28 => ?_
  refine thenN ?_
  refine condF hf28 (by kernel_rfl) ?_
  refine wp_seq ?_
  refine reg [.bool false] [3, 8] [(3, .int .i64 x0), (8, .bool false)] [.is (((x0 : Int) == 6) = false)] hf28 (by kernel_rfl) ⟨(eqF k2), trivial⟩ fun a29 hf30 => ?_
  refine thenN ?_
  refine condF hf30 (by kernel_rfl) ?_
  refine wp_seq ?_
  refine reg [.bool true] [10] [(10, .bool true)] [.is (((x0 : Int) == 7) = true)] hf30 (by kernel_rfl) ⟨(eqT k3), trivial⟩ fun a31 hf32 => ?_
  refine thenN ?_
  refine condT hf32 (by kernel_rfl) ?_
  refine wp_seq ?_
  refine reg [] [2] [(2, .func (.func 71) #[] #[])] [] hf32 (by kernel_rfl) trivial fun a33 hf34 => ?_
  refine thenN ?_
  refine wp_ret ?_
  refine blkR ?_
  refine thenR ?_
  have hm35 : Mem [] M w0 [] w0 := hm0.sel [] _ rfl (by kernel_rfl)
  refine ret [] [.func (.func 71) #[] #[]] [] hf34 (by kernel_rfl) trivial ?_
  exact ⟨_, rfl, rfl, hm35⟩
set_option maxRecDepth 100000 in
set_option maxHeartbeats 4000000 in
theorem kernel_two.calls4 (M : List (Option Nat)) (w0 : World) (x0 : Int) (hm0 : Mem [] M w0 [] w0) (k0 : ¬ (x0 = 4)) (k1 : ¬ (x0 = 5)) (k2 : ¬ (x0 = 6)) (k3 : ¬ (x0 = 7)) :
    Calls Try.prog 53 [.int .i64 x0].toArray w0 (fun x w' => ∃ v, x = .returned v ∧ v = .nilFunc ∧ Mem [] M w0 [] w') := by
  refine enter (n := 12) Try.func53 rfl rfl (by kernel_rfl) fun a0 (hf0 : Fr 12 a0 [(0, .int .i64 x0)]) => ?_
  refine wp_seq ?_
  refine reg [] [0] [(0, .int .i64 x0)] [] hf0 (by kernel_rfl) trivial fun a21 hf22 => ?_
  refine thenN ?_
  refine wp_seq ?_
  refine wp_seq ?_
  refine reg [] [3] [(3, .int .i64 x0)] [] hf22 (by kernel_rfl) trivial fun a23 hf24 => ?_
  refine thenN ?_
  refine wp_block ?_
  refine wp_seq ?_
  refine reg [.bool false] [3, 4] [(3, .int .i64 x0), (4, .bool false)] [.is (((x0 : Int) == 4) = false)] hf24 (by kernel_rfl) ⟨(eqF k0), trivial⟩ fun a25 hf26 => ?_
  refine thenN ?_
  refine condF hf26 (by kernel_rfl) ?_
  refine wp_seq ?_
  refine reg [.bool false] [3, 6] [(3, .int .i64 x0), (6, .bool false)] [.is (((x0 : Int) == 5) = false)] hf26 (by kernel_rfl) ⟨(eqF k1), trivial⟩ fun a27 hf28 => ?_
  refine thenN ?_
  refine condF hf28 (by kernel_rfl) ?_
  refine wp_seq ?_
  refine reg [.bool false] [3, 8] [(3, .int .i64 x0), (8, .bool false)] [.is (((x0 : Int) == 6) = false)] hf28 (by kernel_rfl) ⟨(eqF k2), trivial⟩ fun a29 hf30 => ?_
  refine thenN ?_
  refine condF hf30 (by kernel_rfl) ?_
  refine wp_seq ?_
  refine reg [.bool false] [10] [(10, .bool false)] [.is (((x0 : Int) == 7) = false)] hf30 (by kernel_rfl) ⟨(eqF k3), trivial⟩ fun a31 hf32 => ?_
  refine thenN ?_
  refine condF hf32 (by kernel_rfl) ?_
  refine wp_skip ?_
  refine blkN ?_
  refine thenN ?_
  refine wp_seq ?_
  refine reg [] [2] [(2, .nilFunc)] [] hf32 (by kernel_rfl) trivial fun a33 hf34 => ?_
  refine thenN ?_
  refine wp_ret ?_
  have hm35 : Mem [] M w0 [] w0 := hm0.sel [] _ rfl (by kernel_rfl)
  refine ret [] [.nilFunc] [] hf34 (by kernel_rfl) trivial ?_
  exact ⟨_, rfl, rfl, hm35⟩

/-! ### backstitch/shape.number -/
noncomputable def shape_number.f (x0 : (List Int)) (x1 : Int) : Option Int :=
  if (x0.length : Int) ≤ x1 then (some 1)
  else (if 0 ≤ (w64 ((w64 ((x0.length : Int) - 1)) - x1)) ∧ (w64 ((w64 ((x0.length : Int) - 1)) - x1)) < (x0.length : Int) then (some (rd x0 (w64 ((w64 ((x0.length : Int) - 1)) - x1))))
  else none)
set_option maxRecDepth 100000 in
set_option maxHeartbeats 4000000 in
theorem shape_number.calls (M : List (Option Nat)) (w0 : World) (x0 : (List Int)) (A0 : Option Addr) (n0 c0 : Nat) (e0 : n0 = x0.length) (x1 : Int) (hm0 : Mem [] M w0 [.sl (Kd.int .i64) A0 c0 x0] w0) (r : Int) (H0 : shape_number.f x0 x1 = some r) :
    Calls Try.prog 72 [.slice A0 n0 c0, .int .i64 x1].toArray w0 (fun x w' => ∃ v, x = .returned v ∧ v = .int .i64 r ∧ Mem [] M w0 [] w') := by
  subst e0
  unfold shape_number.f at H0
  refine enter (n := 17) Try.func72 rfl rfl (by kernel_rfl) fun a0 (hf0 : Fr 17 a0 [(0, .slice A0 x0.length c0), (1, .int .i64 x1)]) => ?_
  refine wp_seq ?_
  refine reg [] [0, 1] [(0, .slice A0 x0.length c0), (1, .int .i64 x1)] [] hf0 (by kernel_rfl) trivial fun a21 hf22 => ?_
  refine thenN ?_
  refine wp_seq ?_
  refine wp_seq ?_
  rcases if_split H0 with ⟨c23, H0⟩ | ⟨c23, H0⟩
  · refine reg [.bool true] [0, 1, 8] [(0, .slice A0 x0.length c0), (1, .int .i64 x1), (8, .bool true)] [.is (decide ((x0.length : Int) ≤ x1) = true)] hf22 (by kernel_rfl) ⟨(decide_eq_true c23), trivial⟩ fun a24 hf25 => ?_
    refine thenN ?_
    refine condT hf25 (by kernel_rfl) ?_
    refine wp_seq ?_
    refine reg [] [4] [(4, .int .i64 1)] [] hf25 (by kernel_rfl) trivial fun a26 hf27 => ?_
    have hm28 := hm0.sel [] _ rfl (by kernel_rfl)
    refine thenN ?_
    refine wp_ret ?_
    refine thenR ?_
    have hm29 : Mem [] M w0 [] w0 := hm28.sel [] _ rfl (by kernel_rfl)
    obtain rfl := Option.some.inj H0
    refine ret [] [.int .i64 1] [] hf27 (by kernel_rfl) trivial ?_
    exact ⟨_, rfl, rfl, hm29⟩
  refine reg [.bool false] [0, 1, 8] [(0, .slice A0 x0.length c0), (1, .int .i64 x1), (8, .bool false)] [.is (decide ((x0.length : Int) ≤ x1) = false)] hf22 (by kernel_rfl) ⟨(decide_eq_false c23), trivial⟩ fun a31 hf32 => ?_
  refine thenN ?_
  refine condF hf32 (by kernel_rfl) ?_
  refine wp_skip ?_
  refine thenN ?_
  refine wp_seq ?_
  obtain ⟨g33, H0⟩ := if_guard H0
  have q34 := (hm0.slAt 0 rfl).int (w64 ((w64 ((x0.length : Int) - 1)) - x1)) g33.1 g33.2
  refine reg [.int .i64 (rd x0 (w64 ((w64 ((x0.length : Int) - 1)) - x1)))] [4] [(4, .int .i64 (rd x0 (w64 ((w64 ((x0.length : Int) - 1)) - x1))))] [.is (Option.isSome A0 = true), .is (0 ≤ (w64 ((w64 ((x0.length : Int) - 1)) - x1)) ∧ (w64 ((w64 ((x0.length : Int) - 1)) - x1)) < (x0.length : Int)), .cell ((ad A0).add (((w64 ((w64 ((x0.length : Int) - 1)) - x1))).toNat * 1)) (.int .i64 (rd x0 (w64 ((w64 ((x0.length : Int) - 1)) - x1))))] hf32 (by kernel_rfl) ⟨q34.1, g33, q34.2, trivial⟩ fun a35 hf36 => ?_
  have hm37 := hm0.sel [] _ rfl (by kernel_rfl)
  refine thenN ?_
  refine wp_ret ?_
  have hm38 : Mem [] M w0 [] w0 := hm37.sel [] _ rfl (by kernel_rfl)
  obtain rfl := Option.some.inj H0
  refine ret [] [.int .i64 (rd x0 (w64 ((w64 ((x0.length : Int) - 1)) - x1)))] [] hf36 (by kernel_rfl) trivial ?_
  exact ⟨_, rfl, rfl, hm38⟩
end Go.Proofs.Ytkcgiolledmbnac
