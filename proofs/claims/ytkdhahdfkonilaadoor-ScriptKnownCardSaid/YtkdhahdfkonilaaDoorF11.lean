/- Printed by gen.py. -/
import Derived.Test.YtkdhahdfkonilaaDoorF8
namespace Go.Proofs.YtkdhahdfkonilaaDoor
open Go Go.RowKit
set_option linter.unusedSimpArgs false
set_option linter.unusedVariables false
set_option linter.unnecessarySimpa false
/-! ### backstitch/backstitchref1.SameInts -/
noncomputable def ref1_SameInts.l0 (x0 : (List Int)) (x1 : (List Int)) (s28 : Int) : Step Int (Out2 Int Bool) :=
  if s28 < (x0.length : Int) then (if 0 ≤ s28 ∧ s28 < (x0.length : Int) then (if 0 ≤ s28 ∧ s28 < (x1.length : Int) then (if (rd x0 s28) = (rd x1 s28) then (.next (w64 (s28 + 1)))
  else (.done (.ret false)))
  else .bad)
  else .bad)
  else (.done (.go s28))
noncomputable def ref1_SameInts.f (x0 : (List Int)) (x1 : (List Int)) : Option Bool :=
  if (x0.length : Int) = (x1.length : Int) then ((loop (ref1_SameInts.l0 x0 x1) 0).bind fun r29 =>
  r29.on (fun yr29 =>
  some true) (fun y => some y))
  else (some false)
set_option maxRecDepth 100000 in
set_option maxHeartbeats 4000000 in
theorem ref1_SameInts.calls (M : List (Option Nat)) (w0 : World) (x0 : (List Int)) (A0 : Option Addr) (n0 c0 : Nat) (e0 : n0 = x0.length) (x1 : (List Int)) (A1 : Option Addr) (n1 c1 : Nat) (e1 : n1 = x1.length) (hm0 : Mem [] M w0 [.sl (Kd.int .i64) A0 c0 x0, .sl (Kd.int .i64) A1 c1 x1] w0) (r : Bool) (H0 : ref1_SameInts.f x0 x1 = some r) :
    Calls Tryd.prog 31 [.slice A0 n0 c0, .slice A1 n1 c1].toArray w0 (fun x w' => ∃ v, x = .returned v ∧ v = .bool r ∧ Mem [] M w0 [] w') := by
  subst e0
  subst e1
  unfold ref1_SameInts.f at H0
  refine enter (n := 26) Tryd.func31 rfl rfl (by kernel_rfl) fun a0 (hf0 : Fr 26 a0 [(0, .slice A0 x0.length c0), (1, .slice A1 x1.length c1)]) => ?_
  refine wp_seq ?_
  refine reg [] [0, 1] [(0, .slice A0 x0.length c0), (1, .slice A1 x1.length c1)] [] hf0 (by kernel_rfl) trivial fun a21 hf22 => ?_
  refine thenN ?_
  refine wp_seq ?_
  refine wp_seq ?_
  rcases if_split H0 with ⟨c23, H0⟩ | ⟨c23, H0⟩
  rotate_left
  · refine reg [.bool true] [0, 1, 10] [(0, .slice A0 x0.length c0), (1, .slice A1 x1.length c1), (10, .bool true)] [.is ((((x0.length : Int) : Int) != (x1.length : Int)) = true)] hf22 (by kernel_rfl) ⟨(neT c23), trivial⟩ fun a74 hf75 => ?_
    refine thenN ?_
    refine condT hf75 (by kernel_rfl) ?_
    refine wp_seq ?_
    refine reg [] [4] [(4, .bool false)] [] hf75 (by kernel_rfl) trivial fun a76 hf77 => ?_
    have hm78 := hm0.sel [] _ rfl (by kernel_rfl)
    refine thenN ?_
    refine wp_ret ?_
    refine thenR ?_
    have hm79 : Mem [] M w0 [] w0 := hm78.sel [] _ rfl (by kernel_rfl)
    obtain rfl := Option.some.inj H0
    refine ret [] [.bool false] [] hf77 (by kernel_rfl) trivial ?_
    exact ⟨_, rfl, rfl, hm79⟩
  refine reg [.bool false] [0, 1, 10] [(0, .slice A0 x0.length c0), (1, .slice A1 x1.length c1), (10, .bool false)] [.is ((((x0.length : Int) : Int) != (x1.length : Int)) = false)] hf22 (by kernel_rfl) ⟨(neF c23), trivial⟩ fun a24 hf25 => ?_
  refine thenN ?_
  refine condF hf25 (by kernel_rfl) ?_
  refine wp_skip ?_
  refine thenN ?_
  refine wp_seq ?_
  refine wp_seq ?_
  refine reg [] [0, 1, 5] [(0, .slice A0 x0.length c0), (1, .slice A1 x1.length c1), (5, .int .i64 0)] [] hf25 (by kernel_rfl) trivial fun a26 hf27 => ?_
  refine thenN ?_
  obtain ⟨r29, hr29, H0⟩ := ob_split H0
  refine wpBlock (Mid := fun (a : Act) (w : World) => ∃ yr29 : Int, r29 = .go yr29 ∧ Fr 26 a [(0, .slice A0 x0.length c0), (1, .slice A1 x1.length c1), (5, .int .i64 yr29)] ∧ Mem [] M w0 [.sl (Kd.int .i64) A0 c0 x0, .sl (Kd.int .i64) A1 c1 x1] w) ?_ ?_
  · refine wpLoop (ref1_SameInts.l0 x0 x1) r29 (fun (s28 : Int) (a : Act) (w : World) => Fr 26 a [(0, .slice A0 x0.length c0), (1, .slice A1 x1.length c1), (5, .int .i64 s28)] ∧ Mem [] M w0 [.sl (Kd.int .i64) A0 c0 x0, .sl (Kd.int .i64) A1 c1 x1] w) 0 hr29 ⟨hf27.sel (l := [0, 1, 5]) (by kernel_rfl), hm0.sel [0, 1] _ rfl (by kernel_rfl)⟩ ?_
    rintro g30 s28 a31 w32 H1 ⟨hf33, hm34⟩
    unfold ref1_SameInts.l0 at H1
    refine wp_seq ?_
    refine wp_seq ?_
    rcases ifS_split H1 with ⟨c35, H1⟩ | ⟨c35, H1⟩
    rotate_left
    · refine reg [.bool false] [0, 1, 5, 14] [(0, .slice A0 x0.length c0), (1, .slice A1 x1.length c1), (5, .int .i64 s28), (14, .bool false)] [.is (decide (s28 < (x0.length : Int)) = false)] hf33 (by kernel_rfl) ⟨(decide_eq_false c35), trivial⟩ fun a62 hf63 => ?_
      refine thenN ?_
      refine condF hf63 (by kernel_rfl) ?_
      refine wp_exit ?_
      refine thenE ?_
      refine thenE ?_
      obtain rfl := Option.some.inj H1
      exact .inl ⟨rfl, s28, rfl, hf63.sel (l := [0, 1, 5]) (by kernel_rfl), hm34.sel [0, 1] _ rfl (by kernel_rfl)⟩
    refine reg [.bool true] [0, 1, 5, 14] [(0, .slice A0 x0.length c0), (1, .slice A1 x1.length c1), (5, .int .i64 s28), (14, .bool true)] [.is (decide (s28 < (x0.length : Int)) = true)] hf33 (by kernel_rfl) ⟨(decide_eq_true c35), trivial⟩ fun a36 hf37 => ?_
    refine thenN ?_
    refine condT hf37 (by kernel_rfl) ?_
    refine wp_skip ?_
    refine thenN ?_
    refine wp_seq ?_
    refine wp_block ?_
    refine wp_seq ?_
    obtain ⟨g38, H1⟩ := ifS_guard H1
    obtain ⟨g39, H1⟩ := ifS_guard H1
    rcases ifS_split H1 with ⟨c40, H1⟩ | ⟨c40, H1⟩
    · have q41 := (hm34.slAt 0 rfl).int s28 g38.1 g38.2
      have q42 := (hm34.slAt 1 rfl).int s28 g39.1 g39.2
      refine regQ [.int .i64 (rd x0 s28), .int .i64 (rd x1 s28), .bool false] [0, 1, 5, 25] [(0, .slice A0 x0.length c0), (1, .slice A1 x1.length c1), (5, .int .i64 s28), (25, .bool false)] [.is (Option.isSome A0 = true), .is (0 ≤ s28 ∧ s28 < (x0.length : Int)), .cell ((ad A0).add ((s28).toNat * 1)) (.int .i64 (rd x0 s28)), .is (Option.isSome A1 = true), .is (0 ≤ s28 ∧ s28 < (x1.length : Int)), .cell ((ad A1).add ((s28).toNat * 1)) (.int .i64 (rd x1 s28)), .is ((((rd x0 s28) : Int) != (rd x1 s28)) = false)] (by kernel_rfl) (by kernel_rfl) hf37 (by kernel_rfl) ⟨q41.1, g38, q41.2, q42.1, g39, q42.2, (neF c40), trivial⟩ fun a43 w45 hf44 hg46 => ?_
      have hm47 := hm34.still hg46
      refine thenN ?_
      refine condF hf44 (by kernel_rfl) ?_
      refine wp_skip ?_
      refine blkN ?_
      refine thenN ?_
      refine reg [] [0, 1, 5] [(0, .slice A0 x0.length c0), (1, .slice A1 x1.length c1), (5, .int .i64 (w64 (s28 + 1)))] [] hf44 (by kernel_rfl) trivial fun a48 hf49 => ?_
      exact ⟨(w64 (s28 + 1)), H1, hf49.sel (l := [0, 1, 5]) (by kernel_rfl), hm47.sel [0, 1] _ rfl (by kernel_rfl)⟩
    have q50 := (hm34.slAt 0 rfl).int s28 g38.1 g38.2
    have q51 := (hm34.slAt 1 rfl).int s28 g39.1 g39.2
    refine regQ [.int .i64 (rd x0 s28), .int .i64 (rd x1 s28), .bool true] [0, 1, 5, 25] [(0, .slice A0 x0.length c0), (1, .slice A1 x1.length c1), (5, .int .i64 s28), (25, .bool true)] [.is (Option.isSome A0 = true), .is (0 ≤ s28 ∧ s28 < (x0.length : Int)), .cell ((ad A0).add ((s28).toNat * 1)) (.int .i64 (rd x0 s28)), .is (Option.isSome A1 = true), .is (0 ≤ s28 ∧ s28 < (x1.length : Int)), .cell ((ad A1).add ((s28).toNat * 1)) (.int .i64 (rd x1 s28)), .is ((((rd x0 s28) : Int) != (rd x1 s28)) = true)] (by kernel_rfl) (by kernel_rfl) hf37 (by kernel_rfl) ⟨q50.1, g38, q50.2, q51.1, g39, q51.2, (neT c40), trivial⟩ fun a52 w54 hf53 hg55 => ?_
    have hm56 := hm34.still hg55
    refine thenN ?_
    refine condT hf53 (by kernel_rfl) ?_
    refine wp_seq ?_
    refine reg [] [4] [(4, .bool false)] [] hf53 (by kernel_rfl) trivial fun a57 hf58 => ?_
    have hm59 := hm56.sel [] _ rfl (by kernel_rfl)
    refine thenN ?_
    refine wp_ret ?_
    refine blkR ?_
    refine thenR ?_
    refine thenR ?_
    refine .inr ⟨rfl, ?_⟩
    refine thenR ?_
    have hm60 : Mem [] M w0 [] w54 := hm59.sel [] _ rfl (by kernel_rfl)
    obtain rfl := Option.some.inj H1
    obtain rfl := Option.some.inj H0
    refine ret [] [.bool false] [] hf58 (by kernel_rfl) trivial ?_
    exact ⟨_, rfl, rfl, hm60⟩
  rintro a65 w66 ⟨yr29, rfl, hf67, hm68⟩
  refine thenN ?_
  refine wp_seq ?_
  refine reg [] [4] [(4, .bool true)] [] hf67 (by kernel_rfl) trivial fun a69 hf70 => ?_
  have hm71 := hm68.sel [] _ rfl (by kernel_rfl)
  refine thenN ?_
  refine wp_ret ?_
  have hm72 : Mem [] M w0 [] w66 := hm71.sel [] _ rfl (by kernel_rfl)
  obtain rfl := Option.some.inj H0
  refine ret [] [.bool true] [] hf70 (by kernel_rfl) trivial ?_
  exact ⟨_, rfl, rfl, hm72⟩

/-! ### backstitch/backstitchref1.SameTensor -/
noncomputable def ref1_SameTensor.l0 (x0 : Tensor) (x1 : Tensor) (s51 : Int) : Step Int (Out2 Int Bool) :=
  if s51 < (x0.Data.length : Int) then (if 0 ≤ s51 ∧ s51 < (x0.Data.length : Int) then (if 0 ≤ s51 ∧ s51 < (x1.Data.length : Int) then (bindS (ref1_Same.f (rd x0.Data s51) (rd x1.Data s51)) fun r63 =>
  if r63 = true then (.next (w64 (s51 + 1)))
  else (.done (.ret false)))
  else .bad)
  else .bad)
  else (.done (.go s51))
noncomputable def ref1_SameTensor.f (x0 : Tensor) (x1 : Tensor) : Option Bool :=
  (ref1_SameInts.f x0.Shape x1.Shape).bind fun r37 =>
  if r37 = true then (if (x0.Data.length : Int) = (x1.Data.length : Int) then ((loop (ref1_SameTensor.l0 x0 x1) 0).bind fun r52 =>
  r52.on (fun yr52 =>
  some true) (fun y => some y))
  else (some false))
  else (some false)
set_option maxRecDepth 100000 in
set_option maxHeartbeats 4000000 in
theorem ref1_SameTensor.calls (M : List (Option Nat)) (w0 : World) (x0 : Tensor) (A0_0 : Option Addr) (n0_0 c0_0 : Nat) (e0_0 : n0_0 = x0.Shape.length) (A0_1 : Option Addr) (n0_1 c0_1 : Nat) (e0_1 : n0_1 = x0.Data.length) (x1 : Tensor) (A1_0 : Option Addr) (n1_0 c1_0 : Nat) (e1_0 : n1_0 = x1.Shape.length) (A1_1 : Option Addr) (n1_1 c1_1 : Nat) (e1_1 : n1_1 = x1.Data.length) (hm0 : Mem [] M w0 [.sl (Kd.int .i64) A0_0 c0_0 x0.Shape, .sl Kd.float A0_1 c0_1 x0.Data, .sl (Kd.int .i64) A1_0 c1_0 x1.Shape, .sl Kd.float A1_1 c1_1 x1.Data] w0) (r : Bool) (H0 : ref1_SameTensor.f x0 x1 = some r) :
    Calls Tryd.prog 32 [.agg #[.slice A0_0 n0_0 c0_0, .slice A0_1 n0_1 c0_1], .agg #[.slice A1_0 n1_0 c1_0, .slice A1_1 n1_1 c1_1]].toArray w0 (fun x w' => ∃ v, x = .returned v ∧ v = .bool r ∧ Mem [] M w0 [] w') := by
  subst e0_0
  subst e0_1
  subst e1_0
  subst e1_1
  unfold ref1_SameTensor.f at H0
  refine enter (n := 40) Tryd.func32 rfl rfl (by kernel_rfl) fun a0 (hf0 : Fr 40 a0 [(0, .agg #[.slice A0_0 x0.Shape.length c0_0, .slice A0_1 x0.Data.length c0_1]), (1, .agg #[.slice A1_0 x1.Shape.length c1_0, .slice A1_1 x1.Data.length c1_1])]) => ?_
  refine wp_seq ?_
  refine inReg ?_
  refine listOf hf0 rfl (by kernel_rfl) (aNew (cs := [.slice A0_0 x0.Shape.length c0_0, .slice A0_1 x0.Data.length c0_1]) (T := 46) (d := 2) hf0 (by kernel_rfl) (by kernel_rfl) ?_)
  intro b21 w22 a23 hbb21 hx25 hg26 hf24
  have hm27 := hm0.box hbb21 hx25 hg26
  refine listOf hf24 rfl (by kernel_rfl) (aNew (cs := [.slice A1_0 x1.Shape.length c1_0, .slice A1_1 x1.Data.length c1_1]) (T := 46) (d := 3) hf24 (by kernel_rfl) (by kernel_rfl) ?_)
  intro b28 w29 a30 hbb28 hx32 hg33 hf31
  have hm34 := hm27.box hbb28 hx32 hg33
  refine go 1 [] [2, 3] [(2, .pointer (some ⟨b21, 0, none⟩)), (3, .pointer (some ⟨b28, 0, none⟩))] [] hf31 (by kernel_rfl) trivial fun a35 hf36 => ?_
  refine endL rfl ?_
  refine thenN ?_
  refine wp_seq ?_
  refine wp_seq ?_
  obtain ⟨r37, hr37, H0⟩ := ob_split H0
  rcases ifb_split H0 with ⟨c38, H0⟩ | ⟨c38, H0⟩
  rotate_left
  · refine inReg ?_
    refine go 4 [.slice A0_0 x0.Shape.length c0_0, .slice A1_0 x1.Shape.length c1_0] [2, 3, 7, 9] [(2, .pointer (some ⟨b21, 0, none⟩)), (3, .pointer (some ⟨b28, 0, none⟩)), (7, .slice A0_0 x0.Shape.length c0_0), (9, .slice A1_0 x1.Shape.length c1_0)] [.cell ⟨b21, 0, none⟩ (.slice A0_0 x0.Shape.length c0_0), .cell ⟨b28, 0, none⟩ (.slice A1_0 x1.Shape.length c1_0)] hf36 (by kernel_rfl) ⟨(hm34.cell 1 rfl rfl), (hm34.cell 0 rfl rfl), trivial⟩ fun a182 hf183 => ?_
    refine listOf hf183 rfl (by kernel_rfl) (aCall (fid := 31) (args := [.slice A0_0 x0.Shape.length c0_0, .slice A1_0 x1.Shape.length c1_0]) (d := 10) hf183 (by kernel_rfl) (by kernel_rfl) callable31 (ref1_SameInts.calls _ _ x0.Shape A0_0 x0.Shape.length c0_0 rfl x1.Shape A1_0 x1.Shape.length c1_0 rfl (hm34.give [2, 4] [.sl (Kd.int .i64) A0_0 c0_0 x0.Shape, .sl (Kd.int .i64) A1_0 c1_0 x1.Shape] rfl rfl) r37 hr37) ?_)
    rintro _ w184 a185 ⟨rfl, hk187⟩ hf186
    have hm188 := hm34.still hk187.cum.none
    rw [c38] at hf186
    refine go 10 [] [2, 3, 20] [(2, .pointer (some ⟨b21, 0, none⟩)), (3, .pointer (some ⟨b28, 0, none⟩)), (20, .bool true)] [] hf186 (by kernel_rfl) trivial fun a189 hf190 => ?_
    refine endL rfl ?_
    refine thenN ?_
    refine condT hf190 (by kernel_rfl) ?_
    refine wp_seq ?_
    refine reg [] [4] [(4, .bool false)] [] hf190 (by kernel_rfl) trivial fun a191 hf192 => ?_
    have hm193 := hm188.sel [] _ rfl (by kernel_rfl)
    refine thenN ?_
    refine wp_ret ?_
    refine thenR ?_
    have hm194 : Mem [] M w0 [] w184 := hm193.sel [] _ rfl (by kernel_rfl)
    obtain rfl := Option.some.inj H0
    refine ret [] [.bool false] [] hf192 (by kernel_rfl) trivial ?_
    exact ⟨_, rfl, rfl, hm194⟩
  rcases if_split H0 with ⟨c39, H0⟩ | ⟨c39, H0⟩
  rotate_left
  · refine inReg ?_
    refine go 4 [.slice A0_0 x0.Shape.length c0_0, .slice A1_0 x1.Shape.length c1_0] [2, 3, 7, 9] [(2, .pointer (some ⟨b21, 0, none⟩)), (3, .pointer (some ⟨b28, 0, none⟩)), (7, .slice A0_0 x0.Shape.length c0_0), (9, .slice A1_0 x1.Shape.length c1_0)] [.cell ⟨b21, 0, none⟩ (.slice A0_0 x0.Shape.length c0_0), .cell ⟨b28, 0, none⟩ (.slice A1_0 x1.Shape.length c1_0)] hf36 (by kernel_rfl) ⟨(hm34.cell 1 rfl rfl), (hm34.cell 0 rfl rfl), trivial⟩ fun a168 hf169 => ?_
    refine listOf hf169 rfl (by kernel_rfl) (aCall (fid := 31) (args := [.slice A0_0 x0.Shape.length c0_0, .slice A1_0 x1.Shape.length c1_0]) (d := 10) hf169 (by kernel_rfl) (by kernel_rfl) callable31 (ref1_SameInts.calls _ _ x0.Shape A0_0 x0.Shape.length c0_0 rfl x1.Shape A1_0 x1.Shape.length c1_0 rfl (hm34.give [2, 4] [.sl (Kd.int .i64) A0_0 c0_0 x0.Shape, .sl (Kd.int .i64) A1_0 c1_0 x1.Shape] rfl rfl) r37 hr37) ?_)
    rintro _ w170 a171 ⟨rfl, hk173⟩ hf172
    have hm174 := hm34.still hk173.cum.none
    rw [c38] at hf172
    refine go 10 [.slice A0_1 x0.Data.length c0_1, .slice A1_1 x1.Data.length c1_1, .bool true] [2, 3, 20] [(2, .pointer (some ⟨b21, 0, none⟩)), (3, .pointer (some ⟨b28, 0, none⟩)), (20, .bool true)] [.cell ⟨b21, 1, none⟩ (.slice A0_1 x0.Data.length c0_1), .cell ⟨b28, 1, none⟩ (.slice A1_1 x1.Data.length c1_1), .is ((((x0.Data.length : Int) : Int) != (x1.Data.length : Int)) = true)] hf172 (by kernel_rfl) ⟨(hm174.cell 1 rfl rfl), (hm174.cell 0 rfl rfl), (neT c39), trivial⟩ fun a175 hf176 => ?_
    refine endL rfl ?_
    refine thenN ?_
    refine condT hf176 (by kernel_rfl) ?_
    refine wp_seq ?_
    refine reg [] [4] [(4, .bool false)] [] hf176 (by kernel_rfl) trivial fun a177 hf178 => ?_
    have hm179 := hm174.sel [] _ rfl (by kernel_rfl)
    refine thenN ?_
    refine wp_ret ?_
    refine thenR ?_
    have hm180 : Mem [] M w0 [] w170 := hm179.sel [] _ rfl (by kernel_rfl)
    obtain rfl := Option.some.inj H0
    refine ret [] [.bool false] [] hf178 (by kernel_rfl) trivial ?_
    exact ⟨_, rfl, rfl, hm180⟩
  refine inReg ?_
  refine go 4 [.slice A0_0 x0.Shape.length c0_0, .slice A1_0 x1.Shape.length c1_0] [2, 3, 7, 9] [(2, .pointer (some ⟨b21, 0, none⟩)), (3, .pointer (some ⟨b28, 0, none⟩)), (7, .slice A0_0 x0.Shape.length c0_0), (9, .slice A1_0 x1.Shape.length c1_0)] [.cell ⟨b21, 0, none⟩ (.slice A0_0 x0.Shape.length c0_0), .cell ⟨b28, 0, none⟩ (.slice A1_0 x1.Shape.length c1_0)] hf36 (by kernel_rfl) ⟨(hm34.cell 1 rfl rfl), (hm34.cell 0 rfl rfl), trivial⟩ fun a40 hf41 => ?_
  refine listOf hf41 rfl (by kernel_rfl) (aCall (fid := 31) (args := [.slice A0_0 x0.Shape.length c0_0, .slice A1_0 x1.Shape.length c1_0]) (d := 10) hf41 (by kernel_rfl) (by kernel_rfl) callable31 (ref1_SameInts.calls _ _ x0.Shape A0_0 x0.Shape.length c0_0 rfl x1.Shape A1_0 x1.Shape.length c1_0 rfl (hm34.give [2, 4] [.sl (Kd.int .i64) A0_0 c0_0 x0.Shape, .sl (Kd.int .i64) A1_0 c1_0 x1.Shape] rfl rfl) r37 hr37) ?_)
  rintro _ w42 a43 ⟨rfl, hk45⟩ hf44
  have hm46 := hm34.still hk45.cum.none
  rw [c38] at hf44
  refine go 10 [.slice A0_1 x0.Data.length c0_1, .slice A1_1 x1.Data.length c1_1, .bool false] [2, 3, 20] [(2, .pointer (some ⟨b21, 0, none⟩)), (3, .pointer (some ⟨b28, 0, none⟩)), (20, .bool false)] [.cell ⟨b21, 1, none⟩ (.slice A0_1 x0.Data.length c0_1), .cell ⟨b28, 1, none⟩ (.slice A1_1 x1.Data.length c1_1), .is ((((x0.Data.length : Int) : Int) != (x1.Data.length : Int)) = false)] hf44 (by kernel_rfl) ⟨(hm46.cell 1 rfl rfl), (hm46.cell 0 rfl rfl), (neF c39), trivial⟩ fun a47 hf48 => ?_
  refine endL rfl ?_
  refine thenN ?_
  refine condF hf48 (by kernel_rfl) ?_
  refine wp_skip ?_
  refine thenN ?_
  refine wp_seq ?_
  refine wp_seq ?_
  refine reg [] [2, 3, 5] [(2, .pointer (some ⟨b21, 0, none⟩)), (3, .pointer (some ⟨b28, 0, none⟩)), (5, .int .i64 0)] [] hf48 (by kernel_rfl) trivial fun a49 hf50 => ?_
  refine thenN ?_
  obtain ⟨r52, hr52, H0⟩ := ob_split H0
  refine wpBlock (Mid := fun (a : Act) (w : World) => ∃ yr52 : Int, r52 = .go yr52 ∧ Fr 40 a [(2, .pointer (some ⟨b21, 0, none⟩)), (3, .pointer (some ⟨b28, 0, none⟩)), (5, .int .i64 yr52)] ∧ Mem [] M w0 [.bx b28 [.slice A1_0 x1.Shape.length c1_0, .slice A1_1 x1.Data.length c1_1] 46, .bx b21 [.slice A0_0 x0.Shape.length c0_0, .slice A0_1 x0.Data.length c0_1] 46, .sl (Kd.int .i64) A0_0 c0_0 x0.Shape, .sl Kd.float A0_1 c0_1 x0.Data, .sl (Kd.int .i64) A1_0 c1_0 x1.Shape, .sl Kd.float A1_1 c1_1 x1.Data] w) ?_ ?_
  · refine wpLoop (ref1_SameTensor.l0 x0 x1) r52 (fun (s51 : Int) (a : Act) (w : World) => Fr 40 a [(2, .pointer (some ⟨b21, 0, none⟩)), (3, .pointer (some ⟨b28, 0, none⟩)), (5, .int .i64 s51)] ∧ Mem [] M w0 [.bx b28 [.slice A1_0 x1.Shape.length c1_0, .slice A1_1 x1.Data.length c1_1] 46, .bx b21 [.slice A0_0 x0.Shape.length c0_0, .slice A0_1 x0.Data.length c0_1] 46, .sl (Kd.int .i64) A0_0 c0_0 x0.Shape, .sl Kd.float A0_1 c0_1 x0.Data, .sl (Kd.int .i64) A1_0 c1_0 x1.Shape, .sl Kd.float A1_1 c1_1 x1.Data] w) 0 hr52 ⟨hf50.sel (l := [2, 3, 5]) (by kernel_rfl), hm46.sel [0, 1, 2, 3, 4, 5] _ rfl (by kernel_rfl)⟩ ?_
    rintro g53 s51 a54 w55 H1 ⟨hf56, hm57⟩
    unfold ref1_SameTensor.l0 at H1
    refine wp_seq ?_
    refine wp_seq ?_
    rcases ifS_split H1 with ⟨c58, H1⟩ | ⟨c58, H1⟩
    rotate_left
    · refine reg [.slice A0_1 x0.Data.length c0_1, .bool false] [2, 3, 5, 25] [(2, .pointer (some ⟨b21, 0, none⟩)), (3, .pointer (some ⟨b28, 0, none⟩)), (5, .int .i64 s51), (25, .bool false)] [.cell ⟨b21, 1, none⟩ (.slice A0_1 x0.Data.length c0_1), .is (decide (s51 < (x0.Data.length : Int)) = false)] hf56 (by kernel_rfl) ⟨(hm57.cell 1 rfl rfl), (decide_eq_false c58), trivial⟩ fun a157 hf158 => ?_
      refine thenN ?_
      refine condF hf158 (by kernel_rfl) ?_
      refine wp_exit ?_
      refine thenE ?_
      refine thenE ?_
      obtain rfl := Option.some.inj H1
      exact .inl ⟨rfl, s51, rfl, hf158.sel (l := [2, 3, 5]) (by kernel_rfl), hm57.sel [0, 1, 2, 3, 4, 5] _ rfl (by kernel_rfl)⟩
    refine reg [.slice A0_1 x0.Data.length c0_1, .bool true] [2, 3, 5, 25] [(2, .pointer (some ⟨b21, 0, none⟩)), (3, .pointer (some ⟨b28, 0, none⟩)), (5, .int .i64 s51), (25, .bool true)] [.cell ⟨b21, 1, none⟩ (.slice A0_1 x0.Data.length c0_1), .is (decide (s51 < (x0.Data.length : Int)) = true)] hf56 (by kernel_rfl) ⟨(hm57.cell 1 rfl rfl), (decide_eq_true c58), trivial⟩ fun a59 hf60 => ?_
    refine thenN ?_
    refine condT hf60 (by kernel_rfl) ?_
    refine wp_skip ?_
    refine thenN ?_
    refine wp_seq ?_
    refine wp_block ?_
    refine wp_seq ?_
    obtain ⟨g61, H1⟩ := ifS_guard H1
    obtain ⟨g62, H1⟩ := ifS_guard H1
    obtain ⟨r63, hr63, H1⟩ := obS_split H1
    rcases ifbS_split H1 with ⟨c65, H1⟩ | ⟨c65, H1⟩
    · refine midReg (fun (a : Act) (w : World) => Fr 40 a [(2, .pointer (some ⟨b21, 0, none⟩)), (3, .pointer (some ⟨b28, 0, none⟩)), (5, .int .i64 s51), (39, .bool false)] ∧ Mem [] M w0 [.bx b28 [.slice A1_0 x1.Shape.length c1_0, .slice A1_1 x1.Data.length c1_1] 46, .bx b21 [.slice A0_0 x0.Shape.length c0_0, .slice A0_1 x0.Data.length c0_1] 46, .sl (Kd.int .i64) A0_0 c0_0 x0.Shape, .sl Kd.float A0_1 c0_1 x0.Data, .sl (Kd.int .i64) A1_0 c1_0 x1.Shape, .sl Kd.float A1_1 c1_1 x1.Data] w) ?_ ?_
      · refine anyG (K := []) [] (by kernel_rfl) fun w75 hg76 => ?_
        have hm77 := hm57.still hg76
        have q91 := (hm77.slAt 3 rfl).float s51 g61.1 g61.2
        obtain ⟨b92, hb92, kb92⟩ := q91.2
        have q93 := (hm77.slAt 5 rfl).float s51 g62.1 g62.2
        obtain ⟨b94, hb94, kb94⟩ := q93.2
        refine quiet0 [0, 1, 2, 3, 4, 5, 6, 7, 8, 9] [.slice A0_1 x0.Data.length c0_1, .float .f64 b92, .slice A1_1 x1.Data.length c1_1, .float .f64 b94] [2, 3, 5, 32, 37] #[true, true, true, true, true, true, true, true, true, true, false, false] [(2, .pointer (some ⟨b21, 0, none⟩)), (3, .pointer (some ⟨b28, 0, none⟩)), (5, .int .i64 s51), (32, .float .f64 b92), (37, .float .f64 b94)] [.cell ⟨b21, 1, none⟩ (.slice A0_1 x0.Data.length c0_1), .is (Option.isSome A0_1 = true), .is (0 ≤ s51 ∧ s51 < (x0.Data.length : Int)), .cell ((ad A0_1).add ((s51).toNat * 1)) (.float .f64 b92), .cell ⟨b28, 1, none⟩ (.slice A1_1 x1.Data.length c1_1), .is (Option.isSome A1_1 = true), .is (0 ≤ s51 ∧ s51 < (x1.Data.length : Int)), .cell ((ad A1_1).add ((s51).toNat * 1)) (.float .f64 b94)] 2 rfl (by kernel_rfl) (fun _ _ _ _ _ h => nomatch h.1) hf60 (by kernel_rfl) ⟨(hm77.cell 1 rfl rfl), q91.1, g61, kb92, (hm77.cell 0 rfl rfl), q93.1, g62, kb94, trivial⟩ fun a95 hf96 => ?_
        refine all1 10 (by kernel_rfl) ?_
        refine opOf hf96 rfl (by kernel_rfl) (aCall (fid := 20) (args := [.float .f64 b92, .float .f64 b94]) (d := 38) hf96 (by kernel_rfl) (by kernel_rfl) callable20 (ref1_Same.calls _ _ (rd x0.Data s51) b92 hb92 (rd x1.Data s51) b94 hb94 (hm77.give [] [] rfl rfl) r63 hr63) ?_)
        rintro _ w97 a98 ⟨rfl, hk100⟩ hf99
        refine ⟨.inr (Gr.still hk100.cum.none), ?_⟩
        have hm101 := hm77.still hk100.cum.none
        rw [c65] at hf99
        refine quiet0 [11] [] [2, 3, 5, 39] #[true, true, true, true, true, true, true, true, true, true, true, true] [(2, .pointer (some ⟨b21, 0, none⟩)), (3, .pointer (some ⟨b28, 0, none⟩)), (5, .int .i64 s51), (39, .bool false)] [] 0 rfl (by kernel_rfl) (fun _ _ _ _ _ h => nomatch h.1) hf99 (by kernel_rfl) trivial fun a102 hf103 => ?_
        refine allDone (by kernel_rfl) ⟨rfl, hf103.sel (l := [2, 3, 5, 39]) (by kernel_rfl), hm101.sel [0, 1, 2, 3, 4, 5] _ rfl (by kernel_rfl)⟩
      rintro a104 w105 ⟨hf106, hm107⟩
      refine thenN ?_
      refine condF hf106 (by kernel_rfl) ?_
      refine wp_skip ?_
      refine blkN ?_
      refine thenN ?_
      refine reg [] [2, 3, 5] [(2, .pointer (some ⟨b21, 0, none⟩)), (3, .pointer (some ⟨b28, 0, none⟩)), (5, .int .i64 (w64 (s51 + 1)))] [] hf106 (by kernel_rfl) trivial fun a108 hf109 => ?_
      exact ⟨(w64 (s51 + 1)), H1, hf109.sel (l := [2, 3, 5]) (by kernel_rfl), hm107.sel [0, 1, 2, 3, 4, 5] _ rfl (by kernel_rfl)⟩
    refine midReg (fun (a : Act) (w : World) => Fr 40 a [(2, .pointer (some ⟨b21, 0, none⟩)), (3, .pointer (some ⟨b28, 0, none⟩)), (5, .int .i64 s51), (39, .bool true)] ∧ Mem [] M w0 [.bx b28 [.slice A1_0 x1.Shape.length c1_0, .slice A1_1 x1.Data.length c1_1] 46, .bx b21 [.slice A0_0 x0.Shape.length c0_0, .slice A0_1 x0.Data.length c0_1] 46, .sl (Kd.int .i64) A0_0 c0_0 x0.Shape, .sl Kd.float A0_1 c0_1 x0.Data, .sl (Kd.int .i64) A1_0 c1_0 x1.Shape, .sl Kd.float A1_1 c1_1 x1.Data] w) ?_ ?_
    · refine anyG (K := []) [] (by kernel_rfl) fun w119 hg120 => ?_
      have hm121 := hm57.still hg120
      have q135 := (hm121.slAt 3 rfl).float s51 g61.1 g61.2
      obtain ⟨b136, hb136, kb136⟩ := q135.2
      have q137 := (hm121.slAt 5 rfl).float s51 g62.1 g62.2
      obtain ⟨b138, hb138, kb138⟩ := q137.2
      refine quiet0 [0, 1, 2, 3, 4, 5, 6, 7, 8, 9] [.slice A0_1 x0.Data.length c0_1, .float .f64 b136, .slice A1_1 x1.Data.length c1_1, .float .f64 b138] [2, 3, 5, 32, 37] #[true, true, true, true, true, true, true, true, true, true, false, false] [(2, .pointer (some ⟨b21, 0, none⟩)), (3, .pointer (some ⟨b28, 0, none⟩)), (5, .int .i64 s51), (32, .float .f64 b136), (37, .float .f64 b138)] [.cell ⟨b21, 1, none⟩ (.slice A0_1 x0.Data.length c0_1), .is (Option.isSome A0_1 = true), .is (0 ≤ s51 ∧ s51 < (x0.Data.length : Int)), .cell ((ad A0_1).add ((s51).toNat * 1)) (.float .f64 b136), .cell ⟨b28, 1, none⟩ (.slice A1_1 x1.Data.length c1_1), .is (Option.isSome A1_1 = true), .is (0 ≤ s51 ∧ s51 < (x1.Data.length : Int)), .cell ((ad A1_1).add ((s51).toNat * 1)) (.float .f64 b138)] 2 rfl (by kernel_rfl) (fun _ _ _ _ _ h => nomatch h.1) hf60 (by kernel_rfl) ⟨(hm121.cell 1 rfl rfl), q135.1, g61, kb136, (hm121.cell 0 rfl rfl), q137.1, g62, kb138, trivial⟩ fun a139 hf140 => ?_
      refine all1 10 (by kernel_rfl) ?_
      refine opOf hf140 rfl (by kernel_rfl) (aCall (fid := 20) (args := [.float .f64 b136, .float .f64 b138]) (d := 38) hf140 (by kernel_rfl) (by kernel_rfl) callable20 (ref1_Same.calls _ _ (rd x0.Data s51) b136 hb136 (rd x1.Data s51) b138 hb138 (hm121.give [] [] rfl rfl) r63 hr63) ?_)
      rintro _ w141 a142 ⟨rfl, hk144⟩ hf143
      refine ⟨.inr (Gr.still hk144.cum.none), ?_⟩
      have hm145 := hm121.still hk144.cum.none
      rw [c65] at hf143
      refine quiet0 [11] [] [2, 3, 5, 39] #[true, true, true, true, true, true, true, true, true, true, true, true] [(2, .pointer (some ⟨b21, 0, none⟩)), (3, .pointer (some ⟨b28, 0, none⟩)), (5, .int .i64 s51), (39, .bool true)] [] 0 rfl (by kernel_rfl) (fun _ _ _ _ _ h => nomatch h.1) hf143 (by kernel_rfl) trivial fun a146 hf147 => ?_
      refine allDone (by kernel_rfl) ⟨rfl, hf147.sel (l := [2, 3, 5, 39]) (by kernel_rfl), hm145.sel [0, 1, 2, 3, 4, 5] _ rfl (by kernel_rfl)⟩
    rintro a148 w149 ⟨hf150, hm151⟩
    refine thenN ?_
    refine condT hf150 (by kernel_rfl) ?_
    refine wp_seq ?_
    refine reg [] [4] [(4, .bool false)] [] hf150 (by kernel_rfl) trivial fun a152 hf153 => ?_
    have hm154 := hm151.sel [] _ rfl (by kernel_rfl)
    refine thenN ?_
    refine wp_ret ?_
    refine blkR ?_
    refine thenR ?_
    refine thenR ?_
    refine .inr ⟨rfl, ?_⟩
    refine thenR ?_
    have hm155 : Mem [] M w0 [] w149 := hm154.sel [] _ rfl (by kernel_rfl)
    obtain rfl := Option.some.inj H1
    obtain rfl := Option.some.inj H0
    refine ret [] [.bool false] [] hf153 (by kernel_rfl) trivial ?_
    exact ⟨_, rfl, rfl, hm155⟩
  rintro a159 w160 ⟨yr52, rfl, hf161, hm162⟩
  refine thenN ?_
  refine wp_seq ?_
  refine reg [] [4] [(4, .bool true)] [] hf161 (by kernel_rfl) trivial fun a163 hf164 => ?_
  have hm165 := hm162.sel [] _ rfl (by kernel_rfl)
  refine thenN ?_
  refine wp_ret ?_
  have hm166 : Mem [] M w0 [] w160 := hm165.sel [] _ rfl (by kernel_rfl)
  obtain rfl := Option.some.inj H0
  refine ret [] [.bool true] [] hf164 (by kernel_rfl) trivial ?_
  exact ⟨_, rfl, rfl, hm166⟩
end Go.Proofs.YtkdhahdfkonilaaDoor
