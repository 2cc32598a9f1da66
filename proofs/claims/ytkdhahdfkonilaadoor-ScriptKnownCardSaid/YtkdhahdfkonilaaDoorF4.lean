/- Printed by gen.py. -/
import Derived.Test.YtkdhahdfkonilaaDoorK
namespace Go.Proofs.YtkdhahdfkonilaaDoor
open Go Go.RowKit
set_option linter.unusedSimpArgs false
set_option linter.unusedVariables false
set_option linter.unnecessarySimpa false
/-! ### slices.Equal[[]string,string] -/
noncomputable def slices_Equal_string.l0 (x0 : (List (List UInt8))) (x1 : (List (List UInt8))) (s28 : Int) : Step Int (Out2 Int Bool) :=
  if s28 < (x0.length : Int) then (if 0 ≤ s28 ∧ s28 < (x0.length : Int) then (if 0 ≤ s28 ∧ s28 < (x1.length : Int) then (if (rd x0 s28) = (rd x1 s28) then (.next (w64 (s28 + 1)))
  else (.done (.ret false)))
  else .bad)
  else .bad)
  else (.done (.go s28))
noncomputable def slices_Equal_string.f (x0 : (List (List UInt8))) (x1 : (List (List UInt8))) : Option Bool :=
  if (x0.length : Int) = (x1.length : Int) then ((loop (slices_Equal_string.l0 x0 x1) 0).bind fun r29 =>
  r29.on (fun yr29 =>
  some true) (fun y => some y))
  else (some false)
set_option maxRecDepth 100000 in
set_option maxHeartbeats 4000000 in
theorem slices_Equal_string.calls (M : List (Option Nat)) (w0 : World) (x0 : (List (List UInt8))) (A0 : Option Addr) (n0 c0 : Nat) (e0 : n0 = x0.length) (x1 : (List (List UInt8))) (A1 : Option Addr) (n1 c1 : Nat) (e1 : n1 = x1.length) (hm0 : Mem [] M w0 [.sl Kd.str A0 c0 x0, .sl Kd.str A1 c1 x1] w0) (r : Bool) (H0 : slices_Equal_string.f x0 x1 = some r) :
    Calls Tryd.prog 44 [.slice A0 n0 c0, .slice A1 n1 c1].toArray w0 (fun x w' => ∃ v, x = .returned v ∧ v = .bool r ∧ Mem [] M w0 [] w') := by
  subst e0
  subst e1
  unfold slices_Equal_string.f at H0
  refine enter (n := 26) Tryd.func44 rfl rfl (by kernel_rfl) fun a0 (hf0 : Fr 26 a0 [(0, .slice A0 x0.length c0), (1, .slice A1 x1.length c1)]) => ?_
  refine wp_seq ?_
  refine reg [] [0, 1] [(0, .slice A0 x0.length c0), (1, .slice A1 x1.length c1)] [] hf0 (by kernel_rfl) trivial fun a21 hf22 => ?_
  refine thenN ?_
  refine wp_seq ?_
  refine wp_seq ?_
  rcases if_split H0 with ⟨c23, H0⟩ | ⟨c23, H0⟩
  rotate_left
  · refine reg [.bool true] [0, 1, 10] [(0, .slice A0 x0.length c0), (1, .slice A1 x1.length c1), (10, .bool true)] [.is ((((x0.length : Int) : Int) != (x1.length : Int)) = true)] hf22 (by kernel_rfl) ⟨(neT c23), trivial⟩ fun a76 hf77 => ?_
    refine thenN ?_
    refine condT hf77 (by kernel_rfl) ?_
    refine wp_seq ?_
    refine reg [] [4] [(4, .bool false)] [] hf77 (by kernel_rfl) trivial fun a78 hf79 => ?_
    have hm80 := hm0.sel [] _ rfl (by kernel_rfl)
    refine thenN ?_
    refine wp_ret ?_
    refine thenR ?_
    have hm81 : Mem [] M w0 [] w0 := hm80.sel [] _ rfl (by kernel_rfl)
    obtain rfl := Option.some.inj H0
    refine ret [] [.bool false] [] hf79 (by kernel_rfl) trivial ?_
    exact ⟨_, rfl, rfl, hm81⟩
  refine reg [.bool false] [0, 1, 10] [(0, .slice A0 x0.length c0), (1, .slice A1 x1.length c1), (10, .bool false)] [.is ((((x0.length : Int) : Int) != (x1.length : Int)) = false)] hf22 (by kernel_rfl) ⟨(neF c23), trivial⟩ fun a24 hf25 => ?_
  refine thenN ?_
  refine condF hf25 (by kernel_rfl) ?_
  refine wp_skip ?_
  refine thenN ?_
  refine wp_seq ?_
  refine wp_seq ?_
  refine reg [] [0, 1, 12, 13] [(0, .slice A0 x0.length c0), (1, .slice A1 x1.length c1), (12, .int .i64 (x0.length : Int)), (13, .int .i64 0)] [] hf25 (by kernel_rfl) trivial fun a26 hf27 => ?_
  refine thenN ?_
  obtain ⟨r29, hr29, H0⟩ := ob_split H0
  refine wpBlock (Mid := fun (a : Act) (w : World) => ∃ yr29 : Int, r29 = .go yr29 ∧ Fr 26 a [(0, .slice A0 x0.length c0), (1, .slice A1 x1.length c1), (12, .int .i64 (x0.length : Int)), (13, .int .i64 yr29)] ∧ Mem [] M w0 [.sl Kd.str A0 c0 x0, .sl Kd.str A1 c1 x1] w) ?_ ?_
  · refine wpLoop (slices_Equal_string.l0 x0 x1) r29 (fun (s28 : Int) (a : Act) (w : World) => Fr 26 a [(0, .slice A0 x0.length c0), (1, .slice A1 x1.length c1), (12, .int .i64 (x0.length : Int)), (13, .int .i64 s28)] ∧ Mem [] M w0 [.sl Kd.str A0 c0 x0, .sl Kd.str A1 c1 x1] w) 0 hr29 ⟨hf27.sel (l := [0, 1, 12, 13]) (by kernel_rfl), hm0.sel [0, 1] _ rfl (by kernel_rfl)⟩ ?_
    rintro g30 s28 a31 w32 H1 ⟨hf33, hm34⟩
    unfold slices_Equal_string.l0 at H1
    refine wp_seq ?_
    rcases ifS_split H1 with ⟨c35, H1⟩ | ⟨c35, H1⟩
    rotate_left
    · refine reg [.bool false] [0, 1, 12, 13, 14] [(0, .slice A0 x0.length c0), (1, .slice A1 x1.length c1), (12, .int .i64 (x0.length : Int)), (13, .int .i64 s28), (14, .bool false)] [.is (decide (s28 < (x0.length : Int)) = false)] hf33 (by kernel_rfl) ⟨(decide_eq_false c35), trivial⟩ fun a65 hf66 => ?_
      refine thenN ?_
      refine wp_seq ?_
      refine condF hf66 (by kernel_rfl) ?_
      refine wp_exit ?_
      refine thenE ?_
      refine thenE ?_
      obtain rfl := Option.some.inj H1
      exact .inl ⟨rfl, s28, rfl, hf66.sel (l := [0, 1, 12, 13]) (by kernel_rfl), hm34.sel [0, 1] _ rfl (by kernel_rfl)⟩
    refine reg [.bool true] [0, 1, 12, 13, 14] [(0, .slice A0 x0.length c0), (1, .slice A1 x1.length c1), (12, .int .i64 (x0.length : Int)), (13, .int .i64 s28), (14, .bool true)] [.is (decide (s28 < (x0.length : Int)) = true)] hf33 (by kernel_rfl) ⟨(decide_eq_true c35), trivial⟩ fun a36 hf37 => ?_
    refine thenN ?_
    refine wp_seq ?_
    refine condT hf37 (by kernel_rfl) ?_
    refine wp_skip ?_
    refine thenN ?_
    refine wp_seq ?_
    refine wp_block ?_
    refine wp_seq ?_
    refine reg [] [0, 1, 5, 12, 13] [(0, .slice A0 x0.length c0), (1, .slice A1 x1.length c1), (5, .int .i64 s28), (12, .int .i64 (x0.length : Int)), (13, .int .i64 s28)] [] hf37 (by kernel_rfl) trivial fun a38 hf39 => ?_
    refine thenN ?_
    refine wp_seq ?_
    obtain ⟨g40, H1⟩ := ifS_guard H1
    obtain ⟨g41, H1⟩ := ifS_guard H1
    rcases ifS_split H1 with ⟨c42, H1⟩ | ⟨c42, H1⟩
    · have q43 := (hm34.slAt 0 rfl).str s28 g40.1 g40.2
      have q44 := (hm34.slAt 1 rfl).str s28 g41.1 g41.2
      refine regQ [.string (bs (rd x0 s28)), .string (bs (rd x1 s28)), .bool false] [0, 1, 12, 13, 24] [(0, .slice A0 x0.length c0), (1, .slice A1 x1.length c1), (12, .int .i64 (x0.length : Int)), (13, .int .i64 s28), (24, .bool false)] [.is (Option.isSome A0 = true), .is (0 ≤ s28 ∧ s28 < (x0.length : Int)), .cell ((ad A0).add ((s28).toNat * 1)) (.string (bs (rd x0 s28))), .is (Option.isSome A1 = true), .is (0 ≤ s28 ∧ s28 < (x1.length : Int)), .cell ((ad A1).add ((s28).toNat * 1)) (.string (bs (rd x1 s28))), .is ((!decide (bs (rd x0 s28) = bs (rd x1 s28))) = false)] (by kernel_rfl) (by kernel_rfl) hf39 (by kernel_rfl) ⟨q43.1, g40, q43.2, q44.1, g41, q44.2, (snF c42), trivial⟩ fun a45 w47 hf46 hg48 => ?_
      have hm49 := hm34.still hg48
      refine thenN ?_
      refine condF hf46 (by kernel_rfl) ?_
      refine wp_skip ?_
      refine blkN ?_
      refine thenN ?_
      refine reg [] [0, 1, 12, 13] [(0, .slice A0 x0.length c0), (1, .slice A1 x1.length c1), (12, .int .i64 (x0.length : Int)), (13, .int .i64 (w64 (s28 + 1)))] [] hf46 (by kernel_rfl) trivial fun a50 hf51 => ?_
      exact ⟨(w64 (s28 + 1)), H1, hf51.sel (l := [0, 1, 12, 13]) (by kernel_rfl), hm49.sel [0, 1] _ rfl (by kernel_rfl)⟩
    have q52 := (hm34.slAt 0 rfl).str s28 g40.1 g40.2
    have q53 := (hm34.slAt 1 rfl).str s28 g41.1 g41.2
    refine regQ [.string (bs (rd x0 s28)), .string (bs (rd x1 s28)), .bool true] [0, 1, 12, 13, 24] [(0, .slice A0 x0.length c0), (1, .slice A1 x1.length c1), (12, .int .i64 (x0.length : Int)), (13, .int .i64 s28), (24, .bool true)] [.is (Option.isSome A0 = true), .is (0 ≤ s28 ∧ s28 < (x0.length : Int)), .cell ((ad A0).add ((s28).toNat * 1)) (.string (bs (rd x0 s28))), .is (Option.isSome A1 = true), .is (0 ≤ s28 ∧ s28 < (x1.length : Int)), .cell ((ad A1).add ((s28).toNat * 1)) (.string (bs (rd x1 s28))), .is ((!decide (bs (rd x0 s28) = bs (rd x1 s28))) = true)] (by kernel_rfl) (by kernel_rfl) hf39 (by kernel_rfl) ⟨q52.1, g40, q52.2, q53.1, g41, q53.2, (snT c42), trivial⟩ fun a54 w56 hf55 hg57 => ?_
    have hm58 := hm34.still hg57
    refine thenN ?_
    refine condT hf55 (by kernel_rfl) ?_
    refine wp_seq ?_
    refine reg [] [4] [(4, .bool false)] [] hf55 (by kernel_rfl) trivial fun a59 hf60 => ?_
    have hm61 := hm58.sel [] _ rfl (by kernel_rfl)
    refine thenN ?_
    refine wp_ret ?_
    refine blkR ?_
    refine thenR ?_
    refine thenR ?_
    refine .inr ⟨rfl, ?_⟩
    refine thenR ?_
    have hm62 : Mem [] M w0 [] w56 := hm61.sel [] _ rfl (by kernel_rfl)
    obtain rfl := Option.some.inj H1
    obtain rfl := Option.some.inj H0
    refine ret [] [.bool false] [] hf60 (by kernel_rfl) trivial ?_
    exact ⟨_, rfl, rfl, hm62⟩
  rintro a67 w68 ⟨yr29, rfl, hf69, hm70⟩
  refine thenN ?_
  refine wp_seq ?_
  refine reg [] [4] [(4, .bool true)] [] hf69 (by kernel_rfl) trivial fun a71 hf72 => ?_
  have hm73 := hm70.sel [] _ rfl (by kernel_rfl)
  refine thenN ?_
  refine wp_ret ?_
  have hm74 : Mem [] M w0 [] w68 := hm73.sel [] _ rfl (by kernel_rfl)
  obtain rfl := Option.some.inj H0
  refine ret [] [.bool true] [] hf72 (by kernel_rfl) trivial ?_
  exact ⟨_, rfl, rfl, hm74⟩
end Go.Proofs.YtkdhahdfkonilaaDoor
