/- Printed by gen.py. -/
import Derived.Test.YteaoijahdinciaaF0
namespace Go.Proofs.Yteaoijahdinciaa
open Go Go.RowKit
set_option linter.unusedSimpArgs false
set_option linter.unusedVariables false
set_option linter.unnecessarySimpa false
/-! ### slices.Equal[[]int,int] -/
noncomputable def slices_Equal_int.l0 (x0 : (List Int)) (x1 : (List Int)) (s28 : Int) : Step Int (Out2 Int Bool) :=
  if s28 < (x0.length : Int) then (if 0 ≤ s28 ∧ s28 < (x0.length : Int) then (if 0 ≤ s28 ∧ s28 < (x1.length : Int) then (if (rd x0 s28) = (rd x1 s28) then (.next (w64 (s28 + 1)))
  else (.done (.ret false)))
  else .bad)
  else .bad)
  else (.done (.go s28))
noncomputable def slices_Equal_int.f (x0 : (List Int)) (x1 : (List Int)) : Option Bool :=
  if (x0.length : Int) = (x1.length : Int) then ((loop (slices_Equal_int.l0 x0 x1) 0).bind fun r29 =>
  r29.on (fun yr29 =>
  some true) (fun y => some y))
  else (some false)
set_option maxRecDepth 100000 in
set_option maxHeartbeats 4000000 in
theorem slices_Equal_int.calls (M : List (Option Nat)) (w0 : World) (x0 : (List Int)) (A0 : Option Addr) (n0 c0 : Nat) (e0 : n0 = x0.length) (x1 : (List Int)) (A1 : Option Addr) (n1 c1 : Nat) (e1 : n1 = x1.length) (hm0 : Mem [] M w0 [.sl (Kd.int .i64) A0 c0 x0, .sl (Kd.int .i64) A1 c1 x1] w0) (r : Bool) (H0 : slices_Equal_int.f x0 x1 = some r) :
    Calls Try.prog 48 [.slice A0 n0 c0, .slice A1 n1 c1].toArray w0 (fun x w' => ∃ v, x = .returned v ∧ v = .bool r ∧ Mem [] M w0 [] w') := by
  subst e0
  subst e1
  unfold slices_Equal_int.f at H0
  refine enter (n := 26) Try.func48 rfl rfl (by kernel_rfl) fun a0 (hf0 : Fr 26 a0 [(0, .slice A0 x0.length c0), (1, .slice A1 x1.length c1)]) => ?_
  refine wp_seq ?_
  refine reg [] [0, 1] [(0, .slice A0 x0.length c0), (1, .slice A1 x1.length c1)] [] hf0 (by kernel_rfl) trivial fun a21 hf22 => ?_
  refine thenN ?_
  refine wp_seq ?_
  refine wp_seq ?_
  rcases if_split H0 with ⟨c23, H0⟩ | ⟨c23, H0⟩
  rotate_left
  · refine reg [.bool true] [0, 1, 10] [(0, .slice A0 x0.length c0), (1, .slice A1 x1.length c1), (10, .bool true)] [.is ((((x0.length : Int) : Int) != (x1.length : Int)) = true)] hf22 (by kernel_rfl) ⟨(neT c23), trivial⟩ fun a76 hf77 => ?_
    refine thenN ?_
    refine condT hf77 (by kernel_rfl) ?_
    refine wp_seq ?_
    refine reg [] [4] [(4, .bool false)] [] hf77 (by kernel_rfl) trivial fun a78 hf79 => ?_
    have hm80 := hm0.sel [] _ rfl (by kernel_rfl)
    refine thenN ?_
    refine wp_ret ?_
    refine thenR ?_
    have hm81 : Mem [] M w0 [] w0 := hm80.sel [] _ rfl (by kernel_rfl)
    obtain rfl := Option.some.inj H0
    refine ret [] [.bool false] [] hf79 (by kernel_rfl) trivial ?_
    exact ⟨_, rfl, rfl, hm81⟩
  refine reg [.bool false] [0, 1, 10] [(0, .slice A0 x0.length c0), (1, .slice A1 x1.length c1), (10, .bool false)] [.is ((((x0.length : Int) : Int) != (x1.length : Int)) = false)] hf22 (by kernel_rfl) ⟨(neF c23), trivial⟩ fun a24 hf25 => ?_
  refine thenN ?_
  refine condF hf25 (by kernel_rfl) ?_
  refine wp_skip ?_
  refine thenN ?_
  refine wp_seq ?_
  refine wp_seq ?_
  refine reg [] [0, 1, 12, 13] [(0, .slice A0 x0.length c0), (1, .slice A1 x1.length c1), (12, .int .i64 (x0.length : Int)), (13, .int .i64 0)] [] hf25 (by kernel_rfl) trivial fun a26 hf27 => ?_
  refine thenN ?_
  obtain ⟨r29, hr29, H0⟩ := ob_split H0
  refine wpBlock (Mid := fun (a : Act) (w : World) => ∃ yr29 : Int, r29 = .go yr29 ∧ Fr 26 a [(0, .slice A0 x0.length c0), (1, .slice A1 x1.length c1), (12, .int .i64 (x0.length : Int)), (13, .int .i64 yr29)] ∧ Mem [] M w0 [.sl (Kd.int .i64) A0 c0 x0, .sl (Kd.int .i64) A1 c1 x1] w) ?_ ?_
  · refine wpLoop (slices_Equal_int.l0 x0 x1) r29 (fun (s28 : Int) (a : Act) (w : World) => Fr 26 a [(0, .slice A0 x0.length c0), (1, .slice A1 x1.length c1), (12, .int .i64 (x0.length : Int)), (13, .int .i64 s28)] ∧ Mem [] M w0 [.sl (Kd.int .i64) A0 c0 x0, .sl (Kd.int .i64) A1 c1 x1] w) 0 hr29 ⟨hf27.sel (l := [0, 1, 12, 13]) (by kernel_rfl), hm0.sel [0, 1] _ rfl (by kernel_rfl)⟩ ?_
    rintro g30 s28 a31 w32 H1 ⟨hf33, hm34⟩
    unfold slices_Equal_int.l0 at H1
    refine wp_seq ?_
    rcases ifS_split H1 with ⟨c35, H1⟩ | ⟨c35, H1⟩
    rotate_left
    · refine reg [.bool false] [0, 1, 12, 13, 14] [(0, .slice A0 x0.length c0), (1, .slice A1 x1.length c1), (12, .int .i64 (x0.length : Int)), (13, .int .i64 s28), (14, .bool false)] [.is (decide (s28 < (x0.length : Int)) = false)] hf33 (by kernel_rfl) ⟨(decide_eq_false c35), trivial⟩ fun a65 hf66 => ?_
      refine thenN ?_
      refine wp_seq ?_
      refine condF hf66 (by kernel_rfl) ?_
      refine wp_exit ?_
      refine thenE ?_
      refine thenE ?_
      obtain rfl := Option.some.inj H1
      exact .inl ⟨rfl, s28, rfl, hf66.sel (l := [0, 1, 12, 13]) (by kernel_rfl), hm34.sel [0, 1] _ rfl (by kernel_rfl)⟩
    refine reg [.bool true] [0, 1, 12, 13, 14] [(0, .slice A0 x0.length c0), (1, .slice A1 x1.length c1), (12, .int .i64 (x0.length : Int)), (13, .int .i64 s28), (14, .bool true)] [.is (decide (s28 < (x0.length : Int)) = true)] hf33 (by kernel_rfl) ⟨(decide_eq_true c35), trivial⟩ fun a36 hf37 => ?_
    refine thenN ?_
    refine wp_seq ?_
    refine condT hf37 (by kernel_rfl) ?_
    refine wp_skip ?_
    refine thenN ?_
    refine wp_seq ?_
    refine wp_block ?_
    refine wp_seq ?_
    refine reg [] [0, 1, 5, 12, 13] [(0, .slice A0 x0.length c0), (1, .slice A1 x1.length c1), (5, .int .i64 s28), (12, .int .i64 (x0.length : Int)), (13, .int .i64 s28)] [] hf37 (by kernel_rfl) trivial fun a38 hf39 => ?_
    refine thenN ?_
    refine wp_seq ?_
    obtain ⟨g40, H1⟩ := ifS_guard H1
    obtain ⟨g41, H1⟩ := ifS_guard H1
    rcases ifS_split H1 with ⟨c42, H1⟩ | ⟨c42, H1⟩
    · have q43 := (hm34.slAt 0 rfl).int s28 g40.1 g40.2
      have q44 := (hm34.slAt 1 rfl).int s28 g41.1 g41.2
      refine regQ [.int .i64 (rd x0 s28), .int .i64 (rd x1 s28), .bool false] [0, 1, 12, 13, 24] [(0, .slice A0 x0.length c0), (1, .slice A1 x1.length c1), (12, .int .i64 (x0.length : Int)), (13, .int .i64 s28), (24, .bool false)] [.is (Option.isSome A0 = true), .is (0 ≤ s28 ∧ s28 < (x0.length : Int)), .cell ((ad A0).add ((s28).toNat * 1)) (.int .i64 (rd x0 s28)), .is (Option.isSome A1 = true), .is (0 ≤ s28 ∧ s28 < (x1.length : Int)), .cell ((ad A1).add ((s28).toNat * 1)) (.int .i64 (rd x1 s28)), .is ((((rd x0 s28) : Int) != (rd x1 s28)) = false)] (by kernel_rfl) (by kernel_rfl) hf39 (by kernel_rfl) ⟨q43.1, g40, q43.2, q44.1, g41, q44.2, (neF c42), trivial⟩ fun a45 w47 hf46 hg48 => ?_
      have hm49 := hm34.still hg48
      refine thenN ?_
      refine condF hf46 (by kernel_rfl) ?_
      refine wp_skip ?_
      refine blkN ?_
      refine thenN ?_
      refine reg [] [0, 1, 12, 13] [(0, .slice A0 x0.length c0), (1, .slice A1 x1.length c1), (12, .int .i64 (x0.length : Int)), (13, .int .i64 (w64 (s28 + 1)))] [] hf46 (by kernel_rfl) trivial fun a50 hf51 => ?_
      exact ⟨(w64 (s28 + 1)), H1, hf51.sel (l := [0, 1, 12, 13]) (by kernel_rfl), hm49.sel [0, 1] _ rfl (by kernel_rfl)⟩
    have q52 := (hm34.slAt 0 rfl).int s28 g40.1 g40.2
    have q53 := (hm34.slAt 1 rfl).int s28 g41.1 g41.2
    refine regQ [.int .i64 (rd x0 s28), .int .i64 (rd x1 s28), .bool true] [0, 1, 12, 13, 24] [(0, .slice A0 x0.length c0), (1, .slice A1 x1.length c1), (12, .int .i64 (x0.length : Int)), (13, .int .i64 s28), (24, .bool true)] [.is (Option.isSome A0 = true), .is (0 ≤ s28 ∧ s28 < (x0.length : Int)), .cell ((ad A0).add ((s28).toNat * 1)) (.int .i64 (rd x0 s28)), .is (Option.isSome A1 = true), .is (0 ≤ s28 ∧ s28 < (x1.length : Int)), .cell ((ad A1).add ((s28).toNat * 1)) (.int .i64 (rd x1 s28)), .is ((((rd x0 s28) : Int) != (rd x1 s28)) = true)] (by kernel_rfl) (by kernel_rfl) hf39 (by kernel_rfl) ⟨q52.1, g40, q52.2, q53.1, g41, q53.2, (neT c42), trivial⟩ fun a54 w56 hf55 hg57 => ?_
    have hm58 := hm34.still hg57
    refine thenN ?_
    refine condT hf55 (by kernel_rfl) ?_
    refine wp_seq ?_
    refine reg [] [4] [(4, .bool false)] [] hf55 (by kernel_rfl) trivial fun a59 hf60 => ?_
    have hm61 := hm58.sel [] _ rfl (by kernel_rfl)
    refine thenN ?_
    refine wp_ret ?_
    refine blkR ?_
    refine thenR ?_
    refine thenR ?_
    refine .inr ⟨rfl, ?_⟩
    refine thenR ?_
    have hm62 : Mem [] M w0 [] w56 := hm61.sel [] _ rfl (by kernel_rfl)
    obtain rfl := Option.some.inj H1
    obtain rfl := Option.some.inj H0
    refine ret [] [.bool false] [] hf60 (by kernel_rfl) trivial ?_
    exact ⟨_, rfl, rfl, hm62⟩
  rintro a67 w68 ⟨yr29, rfl, hf69, hm70⟩
  refine thenN ?_
  refine wp_seq ?_
  refine reg [] [4] [(4, .bool true)] [] hf69 (by kernel_rfl) trivial fun a71 hf72 => ?_
  have hm73 := hm70.sel [] _ rfl (by kernel_rfl)
  refine thenN ?_
  refine wp_ret ?_
  have hm74 : Mem [] M w0 [] w68 := hm73.sel [] _ rfl (by kernel_rfl)
  obtain rfl := Option.some.inj H0
  refine ret [] [.bool true] [] hf72 (by kernel_rfl) trivial ?_
  exact ⟨_, rfl, rfl, hm74⟩

/-! ### backstitch/shape.Same -/
noncomputable def shape_Same.f (x0 : (List Int)) (x1 : (List Int)) : Option Bool :=
  (slices_Equal_int.f x0 x1).bind fun r23 =>
  some r23
set_option maxRecDepth 100000 in
set_option maxHeartbeats 4000000 in
theorem shape_Same.calls (M : List (Option Nat)) (w0 : World) (x0 : (List Int)) (A0 : Option Addr) (n0 c0 : Nat) (e0 : n0 = x0.length) (x1 : (List Int)) (A1 : Option Addr) (n1 c1 : Nat) (e1 : n1 = x1.length) (hm0 : Mem [] M w0 [.sl (Kd.int .i64) A0 c0 x0, .sl (Kd.int .i64) A1 c1 x1] w0) (r : Bool) (H0 : shape_Same.f x0 x1 = some r) :
    Calls Try.prog 35 [.slice A0 n0 c0, .slice A1 n1 c1].toArray w0 (fun x w' => ∃ v, x = .returned v ∧ v = .bool r ∧ Mem [] M w0 [] w') := by
  subst e0
  subst e1
  unfold shape_Same.f at H0
  refine enter (n := 8) Try.func35 rfl rfl (by kernel_rfl) fun a0 (hf0 : Fr 8 a0 [(0, .slice A0 x0.length c0), (1, .slice A1 x1.length c1)]) => ?_
  refine wp_seq ?_
  refine reg [] [0, 1] [(0, .slice A0 x0.length c0), (1, .slice A1 x1.length c1)] [] hf0 (by kernel_rfl) trivial fun a21 hf22 => ?_
  refine thenN ?_
  refine wp_seq ?_
  obtain ⟨r23, hr23, H0⟩ := ob_split H0
  refine inReg ?_
  refine go 2 [] [5, 6] [(5, .slice A0 x0.length c0), (6, .slice A1 x1.length c1)] [] hf22 (by kernel_rfl) trivial fun a24 hf25 => ?_
  refine listOf hf25 rfl (by kernel_rfl) (aCall (fid := 48) (args := [.slice A0 x0.length c0, .slice A1 x1.length c1]) (d := 7) hf25 (by kernel_rfl) (by kernel_rfl) callable48 (slices_Equal_int.calls _ _ x0 A0 x0.length c0 rfl x1 A1 x1.length c1 rfl (hm0.give [0, 1] [.sl (Kd.int .i64) A0 c0 x0, .sl (Kd.int .i64) A1 c1 x1] rfl rfl) r23 hr23) ?_)
  rintro _ w26 a27 ⟨rfl, hk29⟩ hf28
  have hm30 := hm0.still hk29.cum.none
  refine go 1 [] [4] [(4, .bool r23)] [] hf28 (by kernel_rfl) trivial fun a31 hf32 => ?_
  refine endL rfl ?_
  have hm33 := hm30.sel [] _ rfl (by kernel_rfl)
  refine thenN ?_
  refine wp_ret ?_
  have hm34 : Mem [] M w0 [] w26 := hm33.sel [] _ rfl (by kernel_rfl)
  obtain rfl := Option.some.inj H0
  refine ret [] [.bool r23] [] hf32 (by kernel_rfl) trivial ?_
  exact ⟨_, rfl, rfl, hm34⟩

/-! ### backstitch/kernel.two -/
set_option maxRecDepth 100000 in
set_option maxHeartbeats 4000000 in
theorem kernel_two.calls0 (M : List (Option Nat)) (w0 : World) (x0 : Int) (hm0 : Mem [] M w0 [] w0) (k0 : x0 = 4) :
    Calls Try.prog 49 [.int .i64 x0].toArray w0 (fun x w' => ∃ v, x = .returned v ∧ v = .func (.func 61) #[] #[] ∧ Mem [] M w0 [] w') := by
  refine enter (n := 12) Try.func49 rfl rfl (by kernel_rfl) fun a0 (hf0 : Fr 12 a0 [(0, .int .i64 x0)]) => ?_
  refine wp_seq ?_
  refine reg [] [0] [(0, .int .i64 x0)] [] hf0 (by kernel_rfl) trivial fun a21 hf22 => ?_
  refine thenN ?_
  refine wp_seq ?_
  refine wp_seq ?_
  refine reg [] [3] [(3, .int .i64 x0)] [] hf22 (by kernel_rfl) trivial fun a23 hf24 => ?_
  refine thenN ?_
  refine wp_block ?_
  refine wp_seq ?_
  refine reg [.bool true] [3, 4] [(3, .int .i64 x0), (4, .bool true)] [.is (((x0 : Int) == 4) = true)] hf24 (by kernel_rfl) ⟨(eqT k0), trivial⟩ fun a25 hf26 => ?_
  refine thenN ?_
  refine condT hf26 (by kernel_rfl) ?_
  refine wp_seq ?_
  refine reg [] [2] [(2, .func (.func 61) #[] #[])] [] hf26 (by kernel_rfl) trivial fun a27 hf28 => ?_
  refine thenN ?_
  refine wp_ret ?_
  refine blkR ?_
  refine thenR ?_
  have hm29 : Mem [] M w0 [] w0 := hm0.sel [] _ rfl (by kernel_rfl)
  refine ret [] [.func (.func 61) #[] #[]] [] hf28 (by kernel_rfl) trivial ?_
  exact ⟨_, rfl, rfl, hm29⟩
set_option maxRecDepth 100000 in
set_option maxHeartbeats 4000000 in
theorem kernel_two.calls1 (M : List (Option Nat)) (w0 : World) (x0 : Int) (hm0 : Mem [] M w0 [] w0) (k0 : ¬ (x0 = 4)) (k1 : x0 = 5) :
    Calls Try.prog 49 [.int .i64 x0].toArray w0 (fun x w' => ∃ v, x = .returned v ∧ v = .func (.func 62) #[] #[] ∧ Mem [] M w0 [] w') := by
  refine enter (n := 12) Try.func49 rfl rfl (by kernel_rfl) fun a0 (hf0 : Fr 12 a0 [(0, .int .i64 x0)]) => ?_
  refine wp_seq ?_
  refine reg [] [0] [(0, .int .i64 x0)] [] hf0 (by kernel_rfl) trivial fun a21 hf22 => ?_
  refine thenN ?_
  refine wp_seq ?_
  refine wp_seq ?_
  refine reg [] [3] [(3, .int .i64 x0)] [] hf22 (by kernel_rfl) trivial fun a23 hf24 => ?_
  refine thenN ?_
  refine wp_block ?_
  refine wp_seq ?_
  refine reg [.bool false] [3, 4] [(3, .int .i64 x0), (4, .bool false)] [.is (((x0 : Int) == 4) = false)] hf24 (by kernel_rfl) ⟨(eqF k0), trivial⟩ fun a25 hf26 => ?_
  refine thenN ?_
  refine condF hf26 (by kernel_rfl) ?_
  refine wp_seq ?_
  refine reg [.bool true] [3, 6] [(3, .int .i64 x0), (6, .bool true)] [.is (((x0 : Int) == 5) = true)] hf26 (by kernel_rfl) ⟨(eqT k1), trivial⟩ fun a27 hf28 => ?_
  refine thenN ?_
  refine condT hf28 (by kernel_rfl) ?_
  refine wp_seq ?_
  refine reg [] [2] [(2, .func (.func 62) #[] #[])] [] hf28 (by kernel_rfl) trivial fun a29 hf30 => ?_
  refine thenN ?_
  refine wp_ret ?_
  refine blkR ?_
  refine thenR ?_
  have hm31 : Mem [] M w0 [] w0 := hm0.sel [] _ rfl (by kernel_rfl)
  refine ret [] [.func (.func 62) #[] #[]] [] hf30 (by kernel_rfl) trivial ?_
  exact ⟨_, rfl, rfl, hm31⟩
set_option maxRecDepth 100000 in
set_option maxHeartbeats 4000000 in
theorem kernel_two.calls2 (M : List (Option Nat)) (w0 : World) (x0 : Int) (hm0 : Mem [] M w0 [] w0) (k0 : ¬ (x0 = 4)) (k1 : ¬ (x0 = 5)) (k2 : x0 = 6) :
    Calls Try.prog 49 [.int .i64 x0].toArray w0 (fun x w' => ∃ v, x = .returned v ∧ v = .func (.func 63) #[] #[] ∧ Mem [] M w0 [] w') := by
  refine enter (n := 12) Try.func49 rfl rfl (by kernel_rfl) fun a0 (hf0 : Fr 12 a0 [(0, .int .i64 x0)]) => ?_
  refine wp_seq ?_
  refine reg [] [0] [(0, .int .i64 x0)] [] hf0 (by kernel_rfl) trivial fun a21 hf22 => ?_
  refine thenN ?_
  refine wp_seq ?_
  refine wp_seq ?_
  refine reg [] [3] [(3, .int .i64 x0)] [] hf22 (by kernel_rfl) trivial fun a23 hf24 => ?_
  refine thenN ?_
  refine wp_block ?_
  refine wp_seq ?_
  refine reg [.bool false] [3, 4] [(3, .int .i64 x0), (4, .bool false)] [.is (((x0 : Int) == 4) = false)] hf24 (by kernel_rfl) ⟨(eqF k0), trivial⟩ fun a25 hf26 => ?_
  refine thenN ?_
  refine condF hf26 (by kernel_rfl) ?_
  refine wp_seq ?_
  refine reg [.bool false] [3, 6] [(3, .int .i64 x0), (6, .bool false)] [.is (((x0 : Int) == 5) = false)] hf26 (by kernel_rfl) ⟨(eqF k1), trivial⟩ fun a27 hf28 => ?_
  refine thenN ?_
  refine condF hf28 (by kernel_rfl) ?_
  refine wp_seq ?_
  refine reg [.bool true] [3, 8] [(3, .int .i64 x0), (8, .bool true)] [.is (((x0 : Int) == 6) = true)] hf28 (by kernel_rfl) ⟨(eqT k2), trivial⟩ fun a29 hf30 => ?_
  refine thenN ?_
  refine condT hf30 (by kernel_rfl) ?_
  refine wp_seq ?_
  refine reg [] [2] [(2, .func (.func 63) #[] #[])] [] hf30 (by kernel_rfl) trivial fun a31 hf32 => ?_
  refine thenN ?_
  refine wp_ret ?_
  refine blkR ?_
  refine thenR ?_
  have hm33 : Mem [] M w0 [] w0 := hm0.sel [] _ rfl (by kernel_rfl)
  refine ret [] [.func (.func 63) #[] #[]] [] hf32 (by kernel_rfl) trivial ?_
  exact ⟨_, rfl, rfl, hm33⟩
set_option maxRecDepth 100000 in
set_option maxHeartbeats 4000000 in
theorem kernel_two.calls3 (M : List (Option Nat)) (w0 : World) (x0 : Int) (hm0 : Mem [] M w0 [] w0) (k0 : ¬ (x0 = 4)) (k1 : ¬ (x0 = 5)) (k2 : ¬ (x0 = 6)) (k3 : x0 = 7) :
    Calls Try.prog 49 [.int .i64 x0].toArray w0 (fun x w' => ∃ v, x = .returned v ∧ v = .func (.func 64) #[] #[] ∧ Mem [] M w0 [] w') := by
  refine enter (n := 12) Try.func49 rfl rfl (by kernel_rfl) fun a0 (hf0 : Fr 12 a0 [(0, .int .i64 x0)]) => ?_
  refine wp_seq ?_
  refine reg [] [0] [(0, .int .i64 x0)] [] hf0 (by kernel_rfl) trivial fun a21 hf22 => ?_
  refine thenN ?_
  refine wp_seq ?_
  refine wp_seq ?_
  refine reg [] [3] [(3, .int .i64 x0)] [] hf22 (by kernel_rfl) trivial fun a23 hf24 => ?_
  refine thenN ?_
  refine wp_block ?_
  refine wp_seq ?_
  refine reg [.bool false] [3, 4] [(3, .int .i64 x0), (4, .bool false)] [.is (((x0 : Int) == 4) = false)] hf24 (by kernel_rfl) ⟨(eqF k0), trivial⟩ fun a25 hf26 => ?_
  refine thenN ?_
  refine condF hf26 (by kernel_rfl) ?_
  refine wp_seq ?_
  refine reg [.bool false] [3, 6] [(3, .int .i64 x0), (6, .bool false)] [.is (((x0 : Int) == 5) = false)] hf26 (by kernel_rfl) ⟨(eqF k1), trivial⟩ fun a27 hf28 => ?_
  refine thenN ?_
  refine condF hf28 (by kernel_rfl) ?_
  refine wp_seq ?_
  refine reg [.bool false] [3, 8] [(3, .int .i64 x0), (8, .bool false)] [.is (((x0 : Int) == 6) = false)] hf28 (by kernel_rfl) ⟨(eqF k2), trivial⟩ fun a29 hf30 => ?_
  refine thenN ?_
  refine condF hf30 (by kernel_rfl) ?_
  refine wp_seq ?_
  refine reg [.bool true] [10] [(10, .bool true)] [.is (((x0 : Int) == 7) = true)] hf30 (by kernel_rfl) ⟨(eqT k3), trivial⟩ fun a31 hf32 => ?_
  refine thenN ?_
  refine condT hf32 (by kernel_rfl) ?_
  refine wp_seq ?_
  refine reg [] [2] [(2, .func (.func 64) #[] #[])] [] hf32 (by kernel_rfl) trivial fun a33 hf34 => ?_
  refine thenN ?_
  refine wp_ret ?_
  refine blkR ?_
  refine thenR ?_
  have hm35 : Mem [] M w0 [] w0 := hm0.sel [] _ rfl (by kernel_rfl)
  refine ret [] [.func (.func 64) #[] #[]] [] hf34 (by kernel_rfl) trivial ?_
  exact ⟨_, rfl, rfl, hm35⟩
set_option maxRecDepth 100000 in
set_option maxHeartbeats 4000000 in
theorem kernel_two.calls4 (M : List (Option Nat)) (w0 : World) (x0 : Int) (hm0 : Mem [] M w0 [] w0) (k0 : ¬ (x0 = 4)) (k1 : ¬ (x0 = 5)) (k2 : ¬ (x0 = 6)) (k3 : ¬ (x0 = 7)) :
    Calls Try.prog 49 [.int .i64 x0].toArray w0 (fun x w' => ∃ v, x = .returned v ∧ v = .nilFunc ∧ Mem [] M w0 [] w') := by
  refine enter (n := 12) Try.func49 rfl rfl (by kernel_rfl) fun a0 (hf0 : Fr 12 a0 [(0, .int .i64 x0)]) => ?_
  refine wp_seq ?_
  refine reg [] [0] [(0, .int .i64 x0)] [] hf0 (by kernel_rfl) trivial fun a21 hf22 => ?_
  refine thenN ?_
  refine wp_seq ?_
  refine wp_seq ?_
  refine reg [] [3] [(3, .int .i64 x0)] [] hf22 (by kernel_rfl) trivial fun a23 hf24 => ?_
  refine thenN ?_
  refine wp_block ?_
  refine wp_seq ?_
  refine reg [.bool false] [3, 4] [(3, .int .i64 x0), (4, .bool false)] [.is (((x0 : Int) == 4) = false)] hf24 (by kernel_rfl) ⟨(eqF k0), trivial⟩ fun a25 hf26 => ?_
  refine thenN ?_
  refine condF hf26 (by kernel_rfl) ?_
  refine wp_seq ?_
  refine reg [.bool false] [3, 6] [(3, .int .i64 x0), (6, .bool false)] [.is (((x0 : Int) == 5) = false)] hf26 (by kernel_rfl) ⟨(eqF k1), trivial⟩ fun a27 hf28 => ?_
  refine thenN ?_
  refine condF hf28 (by kernel_rfl) ?_
  refine wp_seq ?_
  refine reg [.bool false] [3, 8] [(3, .int .i64 x0), (8, .bool false)] [.is (((x0 : Int) == 6) = false)] hf28 (by kernel_rfl) ⟨(eqF k2), trivial⟩ fun a29 hf30 => ?_
  refine thenN ?_
  refine condF hf30 (by kernel_rfl) ?_
  refine wp_seq ?_
  refine reg [.bool false] [10] [(10, .bool false)] [.is (((x0 : Int) == 7) = false)] hf30 (by kernel_rfl) ⟨(eqF k3), trivial⟩ fun a31 hf32 => ?_
  refine thenN ?_
  refine condF hf32 (by kernel_rfl) ?_
  refine wp_skip ?_
  refine blkN ?_
  refine thenN ?_
  refine wp_seq ?_
  refine reg [] [2] [(2, .nilFunc)] [] hf32 (by kernel_rfl) trivial fun a33 hf34 => ?_
  refine thenN ?_
  refine wp_ret ?_
  have hm35 : Mem [] M w0 [] w0 := hm0.sel [] _ rfl (by kernel_rfl)
  refine ret [] [.nilFunc] [] hf34 (by kernel_rfl) trivial ?_
  exact ⟨_, rfl, rfl, hm35⟩

/-! ### backstitch/shape.May -/
noncomputable def shape_May.f (x0 : (List Int)) : Option Bool :=
  (shape_Size.f x0).bind fun r23 =>
  if r23.2 = 0 then (some true)
  else (some false)
set_option maxRecDepth 100000 in
set_option maxHeartbeats 4000000 in
theorem shape_May.calls (M : List (Option Nat)) (w0 : World) (x0 : (List Int)) (A0 : Option Addr) (n0 c0 : Nat) (e0 : n0 = x0.length) (hm0 : Mem [] M w0 [.sl (Kd.int .i64) A0 c0 x0] w0) (r : Bool) (H0 : shape_May.f x0 = some r) :
    Calls Try.prog 65 [.slice A0 n0 c0].toArray w0 (fun x w' => ∃ v, x = .returned v ∧ v = .bool r ∧ Mem [] M w0 [] w') := by
  subst e0
  unfold shape_May.f at H0
  refine enter (n := 12) Try.func65 rfl rfl (by kernel_rfl) fun a0 (hf0 : Fr 12 a0 [(0, .slice A0 x0.length c0)]) => ?_
  refine wp_seq ?_
  refine reg [] [0] [(0, .slice A0 x0.length c0)] [] hf0 (by kernel_rfl) trivial fun a21 hf22 => ?_
  refine thenN ?_
  refine wp_seq ?_
  obtain ⟨r23, hr23, H0⟩ := ob_split H0
  refine inReg ?_
  refine go 1 [] [6] [(6, .slice A0 x0.length c0)] [] hf22 (by kernel_rfl) trivial fun a24 hf25 => ?_
  refine listOf hf25 rfl (by kernel_rfl) (aCall (fid := 45) (args := [.slice A0 x0.length c0]) (d := 7) hf25 (by kernel_rfl) (by kernel_rfl) callable45 (shape_Size.calls _ _ x0 A0 x0.length c0 rfl (hm0.give [0] [.sl (Kd.int .i64) A0 c0 x0] rfl rfl) r23 hr23) ?_)
  rintro _ w26 a27 ⟨rfl, hk29⟩ hf28
  have hm30 := hm0.still hk29.cum.none
  refine go 5 [] [4] [(4, .int .i64 r23.2)] [] hf28 (by kernel_rfl) trivial fun a31 hf32 => ?_
  refine endL rfl ?_
  have hm33 := hm30.sel [] _ rfl (by kernel_rfl)
  refine thenN ?_
  refine wp_seq ?_
  rcases if_split H0 with ⟨c34, H0⟩ | ⟨c34, H0⟩
  · refine reg [.bool true] [2] [(2, .bool true)] [.is (((r23.2 : Int) == 0) = true)] hf32 (by kernel_rfl) ⟨(eqT c34), trivial⟩ fun a35 hf36 => ?_
    refine thenN ?_
    refine wp_ret ?_
    have hm37 : Mem [] M w0 [] w26 := hm33.sel [] _ rfl (by kernel_rfl)
    obtain rfl := Option.some.inj H0
    refine ret [] [.bool true] [] hf36 (by kernel_rfl) trivial ?_
    exact ⟨_, rfl, rfl, hm37⟩
  refine reg [.bool false] [2] [(2, .bool false)] [.is (((r23.2 : Int) == 0) = false)] hf32 (by kernel_rfl) ⟨(eqF c34), trivial⟩ fun a39 hf40 => ?_
  refine thenN ?_
  refine wp_ret ?_
  have hm41 : Mem [] M w0 [] w26 := hm33.sel [] _ rfl (by kernel_rfl)
  obtain rfl := Option.some.inj H0
  refine ret [] [.bool false] [] hf40 (by kernel_rfl) trivial ?_
  exact ⟨_, rfl, rfl, hm41⟩

/-! ### backstitch/shape.number -/
noncomputable def shape_number.f (x0 : (List Int)) (x1 : Int) : Option Int :=
  if (x0.length : Int) ≤ x1 then (some 1)
  else (if 0 ≤ (w64 ((w64 ((x0.length : Int) - 1)) - x1)) ∧ (w64 ((w64 ((x0.length : Int) - 1)) - x1)) < (x0.length : Int) then (some (rd x0 (w64 ((w64 ((x0.length : Int) - 1)) - x1))))
  else none)
set_option maxRecDepth 100000 in
set_option maxHeartbeats 4000000 in
theorem shape_number.calls (M : List (Option Nat)) (w0 : World) (x0 : (List Int)) (A0 : Option Addr) (n0 c0 : Nat) (e0 : n0 = x0.length) (x1 : Int) (hm0 : Mem [] M w0 [.sl (Kd.int .i64) A0 c0 x0] w0) (r : Int) (H0 : shape_number.f x0 x1 = some r) :
    Calls Try.prog 66 [.slice A0 n0 c0, .int .i64 x1].toArray w0 (fun x w' => ∃ v, x = .returned v ∧ v = .int .i64 r ∧ Mem [] M w0 [] w') := by
  subst e0
  unfold shape_number.f at H0
  refine enter (n := 17) Try.func66 rfl rfl (by kernel_rfl) fun a0 (hf0 : Fr 17 a0 [(0, .slice A0 x0.length c0), (1, .int .i64 x1)]) => ?_
  refine wp_seq ?_
  refine reg [] [0, 1] [(0, .slice A0 x0.length c0), (1, .int .i64 x1)] [] hf0 (by kernel_rfl) trivial fun a21 hf22 => ?_
  refine thenN ?_
  refine wp_seq ?_
  refine wp_seq ?_
  rcases if_split H0 with ⟨c23, H0⟩ | ⟨c23, H0⟩
  · refine reg [.bool true] [0, 1, 8] [(0, .slice A0 x0.length c0), (1, .int .i64 x1), (8, .bool true)] [.is (decide ((x0.length : Int) ≤ x1) = true)] hf22 (by kernel_rfl) ⟨(decide_eq_true c23), trivial⟩ fun a24 hf25 => ?_
    refine thenN ?_
    refine condT hf25 (by kernel_rfl) ?_
    refine wp_seq ?_
    refine reg [] [4] [(4, .int .i64 1)] [] hf25 (by kernel_rfl) trivial fun a26 hf27 => ?_
    have hm28 := hm0.sel [] _ rfl (by kernel_rfl)
    refine thenN ?_
    refine wp_ret ?_
    refine thenR ?_
    have hm29 : Mem [] M w0 [] w0 := hm28.sel [] _ rfl (by kernel_rfl)
    obtain rfl := Option.some.inj H0
    refine ret [] [.int .i64 1] [] hf27 (by kernel_rfl) trivial ?_
    exact ⟨_, rfl, rfl, hm29⟩
  refine reg [.bool false] [0, 1, 8] [(0, .slice A0 x0.length c0), (1, .int .i64 x1), (8, .bool false)] [.is (decide ((x0.length : Int) ≤ x1) = false)] hf22 (by kernel_rfl) ⟨(decide_eq_false c23), trivial⟩ fun a31 hf32 => ?_
  refine thenN ?_
  refine condF hf32 (by kernel_rfl) ?_
  refine wp_skip ?_
  refine thenN ?_
  refine wp_seq ?_
  obtain ⟨g33, H0⟩ := if_guard H0
  have q34 := (hm0.slAt 0 rfl).int (w64 ((w64 ((x0.length : Int) - 1)) - x1)) g33.1 g33.2
  refine reg [.int .i64 (rd x0 (w64 ((w64 ((x0.length : Int) - 1)) - x1)))] [4] [(4, .int .i64 (rd x0 (w64 ((w64 ((x0.length : Int) - 1)) - x1))))] [.is (Option.isSome A0 = true), .is (0 ≤ (w64 ((w64 ((x0.length : Int) - 1)) - x1)) ∧ (w64 ((w64 ((x0.length : Int) - 1)) - x1)) < (x0.length : Int)), .cell ((ad A0).add (((w64 ((w64 ((x0.length : Int) - 1)) - x1))).toNat * 1)) (.int .i64 (rd x0 (w64 ((w64 ((x0.length : Int) - 1)) - x1))))] hf32 (by kernel_rfl) ⟨q34.1, g33, q34.2, trivial⟩ fun a35 hf36 => ?_
  have hm37 := hm0.sel [] _ rfl (by kernel_rfl)
  refine thenN ?_
  refine wp_ret ?_
  have hm38 : Mem [] M w0 [] w0 := hm37.sel [] _ rfl (by kernel_rfl)
  obtain rfl := Option.some.inj H0
  refine ret [] [.int .i64 (rd x0 (w64 ((w64 ((x0.length : Int) - 1)) - x1)))] [] hf36 (by kernel_rfl) trivial ?_
  exact ⟨_, rfl, rfl, hm38⟩
end Go.Proofs.Yteaoijahdinciaa
