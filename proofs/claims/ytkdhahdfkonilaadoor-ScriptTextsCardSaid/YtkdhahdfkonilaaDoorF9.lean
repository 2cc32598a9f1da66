/- Printed by gen.py. -/
import Derived.Test.YtkdhahdfkonilaaDoorK
namespace Go.Proofs.YtkdhahdfkonilaaDoor
open Go Go.RowKit
set_option linter.unusedSimpArgs false
set_option linter.unusedVariables false
set_option linter.unnecessarySimpa false
/-! ### backstitch/backstitchref19.decimal -/
noncomputable def ref19_decimal.l0  (s37 : (Int × (List UInt8))) : Step (Int × (List UInt8)) (Int × (List UInt8)) :=
  if 9 < s37.1 then (if (bytesOf ([(IntKind.wrap .u8 (48 + (IntKind.wrap .u8 ((Int.tmod (w64 (Int.tdiv s37.1 10)) 10)))))] : List Int)).length + s37.2.length ≤ 9223372036854775807 then (.next ((w64 (Int.tdiv s37.1 10)), ((bytesOf ([(IntKind.wrap .u8 (48 + (IntKind.wrap .u8 ((Int.tmod (w64 (Int.tdiv s37.1 10)) 10)))))] : List Int)) ++ s37.2)))
  else .bad)
  else (.done (s37.1, s37.2))
noncomputable def ref19_decimal.f (x0 : Int) : Option (List UInt8) :=
  (loop (ref19_decimal.l0) (x0, (bytesOf ([(IntKind.wrap .u8 (48 + (IntKind.wrap .u8 ((Int.tmod x0 10)))))] : List Int)))).bind fun r38 =>
  some r38.2
set_option maxRecDepth 100000 in
set_option maxHeartbeats 4000000 in
theorem ref19_decimal.calls (M : List (Option Nat)) (w0 : World) (x0 : Int) (hm0 : Mem [] M w0 [] w0) (r : (List UInt8)) (H0 : ref19_decimal.f x0 = some r) :
    Calls Tryd.prog 28 [.int .i64 x0].toArray w0 (fun x w' => ∃ v, x = .returned v ∧ v = .string (bs r) ∧ Mem [] M w0 [] w') := by
  unfold ref19_decimal.f at H0
  refine enter (n := 23) Tryd.func28 rfl rfl (by kernel_rfl) fun a0 (hf0 : Fr 23 a0 [(0, .int .i64 x0)]) => ?_
  refine wp_seq ?_
  refine reg [] [0] [(0, .int .i64 x0)] [] hf0 (by kernel_rfl) trivial fun a21 hf22 => ?_
  refine thenN ?_
  refine wp_seq ?_
  refine inReg ?_
  refine go 4 [] [0, 7] [(0, .int .i64 x0), (7, .int .u8 (IntKind.wrap .u8 (48 + (IntKind.wrap .u8 ((Int.tmod x0 10))))))] [.is ((10 : Int) ≠ 0)] hf22 (by kernel_rfl) ⟨(okIs (by decide)), trivial⟩ fun a23 hf24 => ?_
  refine listOf hf24 rfl (by kernel_rfl) (aLit (cs := [.int .u8 (IntKind.wrap .u8 (48 + (IntKind.wrap .u8 ((Int.tmod x0 10)))))]) (E := 5) (len := 1) (d := 8) hf24 (by kernel_rfl) (by kernel_rfl) ?_)
  intro b25 w26 a27 hbb25 hx29 hg30 hf28
  have hm0s := hm0.still hg30
  have hm31 := Mem.lit (kd := (Kd.int .u8)) (xs := ([(IntKind.wrap .u8 (48 + (IntKind.wrap .u8 ((Int.tmod x0 10)))))] : List Int)) hm0 hbb25 hx29 hg30 (Els.one (kd := (Kd.int .u8)) (us := [.int .u8 (IntKind.wrap .u8 (48 + (IntKind.wrap .u8 ((Int.tmod x0 10)))))]) (x := (IntKind.wrap .u8 (48 + (IntKind.wrap .u8 ((Int.tmod x0 10)))))) rfl)
  refine listOf hf28 rfl (by kernel_rfl) (aStr (A := (some ⟨b25, 0, none⟩)) (k := 1) (c := 1) (xs := ([(IntKind.wrap .u8 (48 + (IntKind.wrap .u8 ((Int.tmod x0 10)))))] : List Int)) (d := 9) hf28 (by kernel_rfl) (by kernel_rfl) rfl (hm31.slAt 0 rfl) ?_)
  intro a32 hf33
  refine go 1 [] [0, 3] [(0, .int .i64 x0), (3, .string (bs (bytesOf ([(IntKind.wrap .u8 (48 + (IntKind.wrap .u8 ((Int.tmod x0 10)))))] : List Int))))] [] hf33 (by kernel_rfl) trivial fun a34 hf35 => ?_
  refine endL rfl ?_
  have hm36 := hm31.sel [] _ rfl (by kernel_rfl)
  refine thenN ?_
  refine wp_seq ?_
  obtain ⟨r38, hr38, H0⟩ := ob_split H0
  refine wpBlock (Mid := fun (a : Act) (w : World) => Fr 23 a [(0, .int .i64 r38.1), (3, .string (bs r38.2))] ∧ Mem [] M w0 [] w) ?_ ?_
  · refine wpLoop (ref19_decimal.l0) r38 (fun (s37 : (Int × (List UInt8))) (a : Act) (w : World) => Fr 23 a [(0, .int .i64 s37.1), (3, .string (bs s37.2))] ∧ Mem [] M w0 [] w) (x0, (bytesOf ([(IntKind.wrap .u8 (48 + (IntKind.wrap .u8 ((Int.tmod x0 10)))))] : List Int))) hr38 ⟨hf35.sel (l := [0, 3]) (by kernel_rfl), hm36.sel [] _ rfl (by kernel_rfl)⟩ ?_
    rintro g39 s37 a40 w41 H1 ⟨hf42, hm43⟩
    unfold ref19_decimal.l0 at H1
    refine wp_seq ?_
    refine wp_seq ?_
    rcases ifS_split H1 with ⟨c44, H1⟩ | ⟨c44, H1⟩
    rotate_left
    · refine reg [.bool false] [0, 3, 11] [(0, .int .i64 s37.1), (3, .string (bs s37.2)), (11, .bool false)] [.is (decide (9 < s37.1) = false)] hf42 (by kernel_rfl) ⟨(decide_eq_false c44), trivial⟩ fun a65 hf66 => ?_
      refine thenN ?_
      refine condF hf66 (by kernel_rfl) ?_
      refine wp_exit ?_
      refine thenE ?_
      refine thenE ?_
      obtain rfl := Option.some.inj H1
      exact .inl ⟨rfl, hf66.sel (l := [0, 3]) (by kernel_rfl), hm43.sel [] _ rfl (by kernel_rfl)⟩
    refine reg [.bool true] [0, 3, 11] [(0, .int .i64 s37.1), (3, .string (bs s37.2)), (11, .bool true)] [.is (decide (9 < s37.1) = true)] hf42 (by kernel_rfl) ⟨(decide_eq_true c44), trivial⟩ fun a45 hf46 => ?_
    refine thenN ?_
    refine condT hf46 (by kernel_rfl) ?_
    refine wp_skip ?_
    refine thenN ?_
    refine wp_block ?_
    refine wp_seq ?_
    refine reg [] [0, 3] [(0, .int .i64 (w64 (Int.tdiv s37.1 10))), (3, .string (bs s37.2))] [.is ((10 : Int) ≠ 0)] hf46 (by kernel_rfl) ⟨(okIs (by decide)), trivial⟩ fun a47 hf48 => ?_
    refine thenN ?_
    obtain ⟨g49, H1⟩ := ifS_guard H1
    refine inReg ?_
    refine go 4 [] [0, 3, 17] [(0, .int .i64 (w64 (Int.tdiv s37.1 10))), (3, .string (bs s37.2)), (17, .int .u8 (IntKind.wrap .u8 (48 + (IntKind.wrap .u8 ((Int.tmod (w64 (Int.tdiv s37.1 10)) 10))))))] [.is ((10 : Int) ≠ 0)] hf48 (by kernel_rfl) ⟨(okIs (by decide)), trivial⟩ fun a50 hf51 => ?_
    refine listOf hf51 rfl (by kernel_rfl) (aLit (cs := [.int .u8 (IntKind.wrap .u8 (48 + (IntKind.wrap .u8 ((Int.tmod (w64 (Int.tdiv s37.1 10)) 10)))))]) (E := 5) (len := 1) (d := 18) hf51 (by kernel_rfl) (by kernel_rfl) ?_)
    intro b52 w53 a54 hbb52 hx56 hg57 hf55
    have hm43s := hm43.still hg57
    have hm58 := Mem.lit (kd := (Kd.int .u8)) (xs := ([(IntKind.wrap .u8 (48 + (IntKind.wrap .u8 ((Int.tmod (w64 (Int.tdiv s37.1 10)) 10)))))] : List Int)) hm43 hbb52 hx56 hg57 (Els.one (kd := (Kd.int .u8)) (us := [.int .u8 (IntKind.wrap .u8 (48 + (IntKind.wrap .u8 ((Int.tmod (w64 (Int.tdiv s37.1 10)) 10)))))]) (x := (IntKind.wrap .u8 (48 + (IntKind.wrap .u8 ((Int.tmod (w64 (Int.tdiv s37.1 10)) 10)))))) rfl)
    refine listOf hf55 rfl (by kernel_rfl) (aStr (A := (some ⟨b52, 0, none⟩)) (k := 1) (c := 1) (xs := ([(IntKind.wrap .u8 (48 + (IntKind.wrap .u8 ((Int.tmod (w64 (Int.tdiv s37.1 10)) 10)))))] : List Int)) (d := 19) hf55 (by kernel_rfl) (by kernel_rfl) rfl (hm58.slAt 0 rfl) ?_)
    intro a59 hf60
    refine go 3 [.string (bs ((bytesOf ([(IntKind.wrap .u8 (48 + (IntKind.wrap .u8 ((Int.tmod (w64 (Int.tdiv s37.1 10)) 10)))))] : List Int)) ++ s37.2))] [0, 3] [(0, .int .i64 (w64 (Int.tdiv s37.1 10))), (3, .string (bs ((bytesOf ([(IntKind.wrap .u8 (48 + (IntKind.wrap .u8 ((Int.tmod (w64 (Int.tdiv s37.1 10)) 10)))))] : List Int)) ++ s37.2)))] [.is (bs ((bytesOf ([(IntKind.wrap .u8 (48 + (IntKind.wrap .u8 ((Int.tmod (w64 (Int.tdiv s37.1 10)) 10)))))] : List Int)) ++ s37.2) = bs (bytesOf ([(IntKind.wrap .u8 (48 + (IntKind.wrap .u8 ((Int.tmod (w64 (Int.tdiv s37.1 10)) 10)))))] : List Int)) ++ bs s37.2 ∧ (bs (bytesOf ([(IntKind.wrap .u8 (48 + (IntKind.wrap .u8 ((Int.tmod (w64 (Int.tdiv s37.1 10)) 10)))))] : List Int))).size + (bs s37.2).size ≤ 9223372036854775807)] hf60 (by kernel_rfl) ⟨(catOk g49), trivial⟩ fun a61 hf62 => ?_
    refine endL rfl ?_
    have hm63 := hm58.sel [] _ rfl (by kernel_rfl)
    refine blkN ?_
    exact ⟨((w64 (Int.tdiv s37.1 10)), ((bytesOf ([(IntKind.wrap .u8 (48 + (IntKind.wrap .u8 ((Int.tmod (w64 (Int.tdiv s37.1 10)) 10)))))] : List Int)) ++ s37.2)), H1, hf62.sel (l := [0, 3]) (by kernel_rfl), hm63.sel [] _ rfl (by kernel_rfl)⟩
  rintro a67 w68 ⟨hf69, hm70⟩
  refine thenN ?_
  refine wp_seq ?_
  refine reg [] [2] [(2, .string (bs r38.2))] [] hf69 (by kernel_rfl) trivial fun a71 hf72 => ?_
  refine thenN ?_
  refine wp_ret ?_
  have hm73 : Mem [] M w0 [] w68 := hm70.sel [] _ rfl (by kernel_rfl)
  obtain rfl := Option.some.inj H0
  refine ret [] [.string (bs r38.2)] [] hf72 (by kernel_rfl) trivial ?_
  exact ⟨_, rfl, rfl, hm73⟩

/-! ### backstitch/backstitchref19.words -/
noncomputable def ref19_words.l0 (x1 : (List Int)) (x0 : (List UInt8)) (s27 : ((List UInt8) × Int)) : Step ((List UInt8) × Int) (Out2 ((List UInt8) × Int) ((List UInt8) × Bool)) :=
  if s27.2 < (x1.length : Int) then (if 0 ≤ s27.2 ∧ s27.2 < (x1.length : Int) then (if (rd x1 s27.2) < 0 then (.done (.ret (([] : List UInt8), false)))
  else (if 999999999 < (rd x1 s27.2) then (.done (.ret (([] : List UInt8), false)))
  else (if s27.1.length + ([32] : List UInt8).length ≤ 9223372036854775807 then (if (s27.1 ++ ([32] : List UInt8)).length + x0.length ≤ 9223372036854775807 then (if ((s27.1 ++ ([32] : List UInt8)) ++ x0).length + ([58] : List UInt8).length ≤ 9223372036854775807 then (bindS (ref19_decimal.f (rd x1 s27.2)) fun r65 =>
  if (((s27.1 ++ ([32] : List UInt8)) ++ x0) ++ ([58] : List UInt8)).length + r65.length ≤ 9223372036854775807 then (.next (((((s27.1 ++ ([32] : List UInt8)) ++ x0) ++ ([58] : List UInt8)) ++ r65), (w64 (s27.2 + 1))))
  else .bad)
  else .bad)
  else .bad)
  else .bad)))
  else .bad)
  else (.done (.go (s27.1, s27.2)))
noncomputable def ref19_words.f (x0 : (List UInt8)) (x1 : (List Int)) : Option ((List UInt8) × Bool) :=
  (loop (ref19_words.l0 x1 x0) (([] : List UInt8), 0)).bind fun r28 =>
  r28.on (fun yr28 =>
  some (yr28.1, true)) (fun y => some y)
set_option maxRecDepth 100000 in
set_option maxHeartbeats 4000000 in
theorem ref19_words.calls (M : List (Option Nat)) (w0 : World) (x0 : (List UInt8)) (x1 : (List Int)) (A1 : Option Addr) (n1 c1 : Nat) (e1 : n1 = x1.length) (hm0 : Mem [] M w0 [.sl (Kd.int .i64) A1 c1 x1] w0) (r : ((List UInt8) × Bool)) (H0 : ref19_words.f x0 x1 = some r) :
    Calls Tryd.prog 26 [.string (bs x0), .slice A1 n1 c1].toArray w0 (fun x w' => ∃ v, x = .returned v ∧ v = .tuple #[.string (bs r.1), .bool r.2] ∧ Mem [] M w0 [] w') := by
  subst e1
  unfold ref19_words.f at H0
  refine enter (n := 38) Tryd.func26 rfl rfl (by kernel_rfl) fun a0 (hf0 : Fr 38 a0 [(0, .string (bs x0)), (1, .slice A1 x1.length c1)]) => ?_
  refine wp_seq ?_
  refine reg [] [0, 1] [(0, .string (bs x0)), (1, .slice A1 x1.length c1)] [] hf0 (by kernel_rfl) trivial fun a21 hf22 => ?_
  refine thenN ?_
  refine wp_seq ?_
  refine reg [] [0, 1, 6] [(0, .string (bs x0)), (1, .slice A1 x1.length c1), (6, .string (bs ([] : List UInt8)))] [] hf22 (by kernel_rfl) trivial fun a23 hf24 => ?_
  refine thenN ?_
  refine wp_seq ?_
  refine wp_seq ?_
  refine reg [] [0, 1, 6, 7] [(0, .string (bs x0)), (1, .slice A1 x1.length c1), (6, .string (bs ([] : List UInt8))), (7, .int .i64 0)] [] hf24 (by kernel_rfl) trivial fun a25 hf26 => ?_
  refine thenN ?_
  obtain ⟨r28, hr28, H0⟩ := ob_split H0
  refine wpBlock (Mid := fun (a : Act) (w : World) => ∃ yr28 : ((List UInt8) × Int), r28 = .go yr28 ∧ Fr 38 a [(0, .string (bs x0)), (1, .slice A1 x1.length c1), (6, .string (bs yr28.1)), (7, .int .i64 yr28.2)] ∧ Mem [] M w0 [.sl (Kd.int .i64) A1 c1 x1] w) ?_ ?_
  · refine wpLoop (ref19_words.l0 x1 x0) r28 (fun (s27 : ((List UInt8) × Int)) (a : Act) (w : World) => Fr 38 a [(0, .string (bs x0)), (1, .slice A1 x1.length c1), (6, .string (bs s27.1)), (7, .int .i64 s27.2)] ∧ Mem [] M w0 [.sl (Kd.int .i64) A1 c1 x1] w) (([] : List UInt8), 0) hr28 ⟨hf26.sel (l := [0, 1, 6, 7]) (by kernel_rfl), hm0.sel [0] _ rfl (by kernel_rfl)⟩ ?_
    rintro g29 s27 a30 w31 H1 ⟨hf32, hm33⟩
    unfold ref19_words.l0 at H1
    refine wp_seq ?_
    refine wp_seq ?_
    rcases ifS_split H1 with ⟨c34, H1⟩ | ⟨c34, H1⟩
    rotate_left
    · refine reg [.bool false] [0, 1, 6, 7, 11] [(0, .string (bs x0)), (1, .slice A1 x1.length c1), (6, .string (bs s27.1)), (7, .int .i64 s27.2), (11, .bool false)] [.is (decide (s27.2 < (x1.length : Int)) = false)] hf32 (by kernel_rfl) ⟨(decide_eq_false c34), trivial⟩ fun a79 hf80 => ?_
      refine thenN ?_
      refine condF hf80 (by kernel_rfl) ?_
      refine wp_exit ?_
      refine thenE ?_
      refine thenE ?_
      obtain rfl := Option.some.inj H1
      exact .inl ⟨rfl, (s27.1, s27.2), rfl, hf80.sel (l := [0, 1, 6, 7]) (by kernel_rfl), hm33.sel [0] _ rfl (by kernel_rfl)⟩
    refine reg [.bool true] [0, 1, 6, 7, 11] [(0, .string (bs x0)), (1, .slice A1 x1.length c1), (6, .string (bs s27.1)), (7, .int .i64 s27.2), (11, .bool true)] [.is (decide (s27.2 < (x1.length : Int)) = true)] hf32 (by kernel_rfl) ⟨(decide_eq_true c34), trivial⟩ fun a35 hf36 => ?_
    refine thenN ?_
    refine condT hf36 (by kernel_rfl) ?_
    refine wp_skip ?_
    refine thenN ?_
    refine wp_seq ?_
    refine wp_block ?_
    refine wp_seq ?_
    refine wp_seq ?_
    obtain ⟨g37, H1⟩ := ifS_guard H1
    rcases ifS_split H1 with ⟨c38, H1⟩ | ⟨c38, H1⟩
    · have q39 := (hm33.slAt 0 rfl).int s27.2 g37.1 g37.2
      refine reg [.int .i64 (rd x1 s27.2), .bool true] [0, 1, 6, 7, 25] [(0, .string (bs x0)), (1, .slice A1 x1.length c1), (6, .string (bs s27.1)), (7, .int .i64 s27.2), (25, .bool true)] [.is (Option.isSome A1 = true), .is (0 ≤ s27.2 ∧ s27.2 < (x1.length : Int)), .cell ((ad A1).add ((s27.2).toNat * 1)) (.int .i64 (rd x1 s27.2)), .is (decide ((rd x1 s27.2) < 0) = true)] hf36 (by kernel_rfl) ⟨q39.1, g37, q39.2, (decide_eq_true c38), trivial⟩ fun a40 hf41 => ?_
      refine thenN ?_
      refine condT hf41 (by kernel_rfl) ?_
      refine wp_seq ?_
      refine reg [] [4, 5] [(4, .string (bs ([] : List UInt8))), (5, .bool false)] [] hf41 (by kernel_rfl) trivial fun a42 hf43 => ?_
      have hm44 := hm33.sel [] _ rfl (by kernel_rfl)
      refine thenN ?_
      refine wp_ret ?_
      refine thenR ?_
      refine blkR ?_
      refine thenR ?_
      refine thenR ?_
      refine .inr ⟨rfl, ?_⟩
      refine thenR ?_
      have hm45 : Mem [] M w0 [] w31 := hm44.sel [] _ rfl (by kernel_rfl)
      obtain rfl := Option.some.inj H1
      obtain rfl := Option.some.inj H0
      refine ret [] [.string (bs ([] : List UInt8)), .bool false] [] hf43 (by kernel_rfl) trivial ?_
      exact ⟨_, rfl, rfl, hm45⟩
    rcases ifS_split H1 with ⟨c47, H1⟩ | ⟨c47, H1⟩
    · have q48 := (hm33.slAt 0 rfl).int s27.2 g37.1 g37.2
      have q49 := (hm33.slAt 0 rfl).int s27.2 g37.1 g37.2
      refine reg [.int .i64 (rd x1 s27.2), .bool false, .int .i64 (rd x1 s27.2), .bool true] [0, 1, 6, 7, 25] [(0, .string (bs x0)), (1, .slice A1 x1.length c1), (6, .string (bs s27.1)), (7, .int .i64 s27.2), (25, .bool true)] [.is (Option.isSome A1 = true), .is (0 ≤ s27.2 ∧ s27.2 < (x1.length : Int)), .cell ((ad A1).add ((s27.2).toNat * 1)) (.int .i64 (rd x1 s27.2)), .is (decide ((rd x1 s27.2) < 0) = false), .is (Option.isSome A1 = true), .is (0 ≤ s27.2 ∧ s27.2 < (x1.length : Int)), .cell ((ad A1).add ((s27.2).toNat * 1)) (.int .i64 (rd x1 s27.2)), .is (decide (999999999 < (rd x1 s27.2)) = true)] hf36 (by kernel_rfl) ⟨q48.1, g37, q48.2, (decide_eq_false c38), q49.1, g37, q49.2, (decide_eq_true c47), trivial⟩ fun a50 hf51 => ?_
      refine thenN ?_
      refine condT hf51 (by kernel_rfl) ?_
      refine wp_seq ?_
      refine reg [] [4, 5] [(4, .string (bs ([] : List UInt8))), (5, .bool false)] [] hf51 (by kernel_rfl) trivial fun a52 hf53 => ?_
      have hm54 := hm33.sel [] _ rfl (by kernel_rfl)
      refine thenN ?_
      refine wp_ret ?_
      refine thenR ?_
      refine blkR ?_
      refine thenR ?_
      refine thenR ?_
      refine .inr ⟨rfl, ?_⟩
      refine thenR ?_
      have hm55 : Mem [] M w0 [] w31 := hm54.sel [] _ rfl (by kernel_rfl)
      obtain rfl := Option.some.inj H1
      obtain rfl := Option.some.inj H0
      refine ret [] [.string (bs ([] : List UInt8)), .bool false] [] hf53 (by kernel_rfl) trivial ?_
      exact ⟨_, rfl, rfl, hm55⟩
    have q57 := (hm33.slAt 0 rfl).int s27.2 g37.1 g37.2
    have q58 := (hm33.slAt 0 rfl).int s27.2 g37.1 g37.2
    refine reg [.int .i64 (rd x1 s27.2), .bool false, .int .i64 (rd x1 s27.2), .bool false] [0, 1, 6, 7, 25] [(0, .string (bs x0)), (1, .slice A1 x1.length c1), (6, .string (bs s27.1)), (7, .int .i64 s27.2), (25, .bool false)] [.is (Option.isSome A1 = true), .is (0 ≤ s27.2 ∧ s27.2 < (x1.length : Int)), .cell ((ad A1).add ((s27.2).toNat * 1)) (.int .i64 (rd x1 s27.2)), .is (decide ((rd x1 s27.2) < 0) = false), .is (Option.isSome A1 = true), .is (0 ≤ s27.2 ∧ s27.2 < (x1.length : Int)), .cell ((ad A1).add ((s27.2).toNat * 1)) (.int .i64 (rd x1 s27.2)), .is (decide (999999999 < (rd x1 s27.2)) = false)] hf36 (by kernel_rfl) ⟨q57.1, g37, q57.2, (decide_eq_false c38), q58.1, g37, q58.2, (decide_eq_false c47), trivial⟩ fun a59 hf60 => ?_
    refine thenN ?_
    refine condF hf60 (by kernel_rfl) ?_
    refine wp_skip ?_
    refine thenN ?_
    obtain ⟨g61, H1⟩ := ifS_guard H1
    obtain ⟨g62, H1⟩ := ifS_guard H1
    obtain ⟨g63, H1⟩ := ifS_guard H1
    obtain ⟨r65, hr65, H1⟩ := obS_split H1
    obtain ⟨g66, H1⟩ := ifS_guard H1
    have q67 := (hm33.slAt 0 rfl).int s27.2 g37.1 g37.2
    refine inReg ?_
    refine go 9 [.string (bs (s27.1 ++ ([32] : List UInt8))), .string (bs ((s27.1 ++ ([32] : List UInt8)) ++ x0)), .string (bs (((s27.1 ++ ([32] : List UInt8)) ++ x0) ++ ([58] : List UInt8))), .int .i64 (rd x1 s27.2)] [0, 1, 6, 7, 30, 34] [(0, .string (bs x0)), (1, .slice A1 x1.length c1), (6, .string (bs s27.1)), (7, .int .i64 s27.2), (30, .string (bs (((s27.1 ++ ([32] : List UInt8)) ++ x0) ++ ([58] : List UInt8)))), (34, .int .i64 (rd x1 s27.2))] [.is (bs (s27.1 ++ ([32] : List UInt8)) = bs s27.1 ++ bs ([32] : List UInt8) ∧ (bs s27.1).size + (bs ([32] : List UInt8)).size ≤ 9223372036854775807), .is (bs ((s27.1 ++ ([32] : List UInt8)) ++ x0) = bs (s27.1 ++ ([32] : List UInt8)) ++ bs x0 ∧ (bs (s27.1 ++ ([32] : List UInt8))).size + (bs x0).size ≤ 9223372036854775807), .is (bs (((s27.1 ++ ([32] : List UInt8)) ++ x0) ++ ([58] : List UInt8)) = bs ((s27.1 ++ ([32] : List UInt8)) ++ x0) ++ bs ([58] : List UInt8) ∧ (bs ((s27.1 ++ ([32] : List UInt8)) ++ x0)).size + (bs ([58] : List UInt8)).size ≤ 9223372036854775807), .is (Option.isSome A1 = true), .is (0 ≤ s27.2 ∧ s27.2 < (x1.length : Int)), .cell ((ad A1).add ((s27.2).toNat * 1)) (.int .i64 (rd x1 s27.2))] hf60 (by kernel_rfl) ⟨(catOk g61), (catOk g62), (catOk g63), q67.1, g37, q67.2, trivial⟩ fun a68 hf69 => ?_
    refine listOf hf69 rfl (by kernel_rfl) (aCall (fid := 28) (args := [.int .i64 (rd x1 s27.2)]) (d := 35) hf69 (by kernel_rfl) (by kernel_rfl) callable28 (ref19_decimal.calls _ _ (rd x1 s27.2) (hm33.give [] [] rfl rfl) r65 hr65) ?_)
    rintro _ w70 a71 ⟨rfl, hk73⟩ hf72
    have hm74 := hm33.still hk73.cum.none
    refine go 2 [.string (bs ((((s27.1 ++ ([32] : List UInt8)) ++ x0) ++ ([58] : List UInt8)) ++ r65))] [0, 1, 6, 7] [(0, .string (bs x0)), (1, .slice A1 x1.length c1), (6, .string (bs ((((s27.1 ++ ([32] : List UInt8)) ++ x0) ++ ([58] : List UInt8)) ++ r65))), (7, .int .i64 s27.2)] [.is (bs ((((s27.1 ++ ([32] : List UInt8)) ++ x0) ++ ([58] : List UInt8)) ++ r65) = bs (((s27.1 ++ ([32] : List UInt8)) ++ x0) ++ ([58] : List UInt8)) ++ bs r65 ∧ (bs (((s27.1 ++ ([32] : List UInt8)) ++ x0) ++ ([58] : List UInt8))).size + (bs r65).size ≤ 9223372036854775807)] hf72 (by kernel_rfl) ⟨(catOk g66), trivial⟩ fun a75 hf76 => ?_
    refine endL rfl ?_
    refine blkN ?_
    refine thenN ?_
    refine reg [] [0, 1, 6, 7] [(0, .string (bs x0)), (1, .slice A1 x1.length c1), (6, .string (bs ((((s27.1 ++ ([32] : List UInt8)) ++ x0) ++ ([58] : List UInt8)) ++ r65))), (7, .int .i64 (w64 (s27.2 + 1)))] [] hf76 (by kernel_rfl) trivial fun a77 hf78 => ?_
    exact ⟨(((((s27.1 ++ ([32] : List UInt8)) ++ x0) ++ ([58] : List UInt8)) ++ r65), (w64 (s27.2 + 1))), H1, hf78.sel (l := [0, 1, 6, 7]) (by kernel_rfl), hm74.sel [0] _ rfl (by kernel_rfl)⟩
  rintro a81 w82 ⟨yr28, rfl, hf83, hm84⟩
  refine thenN ?_
  refine wp_seq ?_
  refine reg [] [4, 5] [(4, .string (bs yr28.1)), (5, .bool true)] [] hf83 (by kernel_rfl) trivial fun a85 hf86 => ?_
  have hm87 := hm84.sel [] _ rfl (by kernel_rfl)
  refine thenN ?_
  refine wp_ret ?_
  have hm88 : Mem [] M w0 [] w82 := hm87.sel [] _ rfl (by kernel_rfl)
  obtain rfl := Option.some.inj H0
  refine ret [] [.string (bs yr28.1), .bool true] [] hf86 (by kernel_rfl) trivial ?_
  exact ⟨_, rfl, rfl, hm88⟩

/-! ### backstitch/backstitchref6.Name -/
noncomputable def ref6_Name.f (x0 : Int) : Option (List UInt8) :=
  if x0 < 0 then (some ([] : List UInt8))
  else (if (17 : Int) ≤ x0 then (some ([] : List UInt8))
  else (if 0 ≤ x0 ∧ x0 < (17 : Int) then (some (rd ([([] : List UInt8), ([108, 101, 97, 102] : List UInt8), ([99, 111, 110, 115, 116] : List UInt8), ([112, 97, 114, 97, 109] : List UInt8), ([97, 100, 100] : List UInt8), ([115, 117, 98] : List UInt8), ([109, 117, 108] : List UInt8), ([100, 105, 118] : List UInt8), ([110, 101, 103] : List UInt8), ([101, 120, 112] : List UInt8), ([108, 111, 103] : List UInt8), ([114, 101, 108, 117] : List UInt8), ([109, 97, 116, 109, 117, 108] : List UInt8), ([115, 117, 109] : List UInt8), ([98, 114, 111, 97, 100, 99, 97, 115, 116] : List UInt8), ([114, 101, 115, 104, 97, 112, 101] : List UInt8), ([99, 97, 108, 108] : List UInt8)] : List (List UInt8)) x0))
  else none))
set_option maxRecDepth 100000 in
set_option maxHeartbeats 4000000 in
theorem ref6_Name.calls (M : List (Option Nat)) (w0 : World) (x0 : Int) (hm0 : Mem [] M w0 [] w0) (r : (List UInt8)) (H0 : ref6_Name.f x0 = some r) :
    Calls Tryd.prog 27 [.int .i64 x0].toArray w0 (fun x w' => ∃ v, x = .returned v ∧ v = .string (bs r) ∧ Mem [] M w0 [] w') := by
  unfold ref6_Name.f at H0
  refine enter (n := 17) Tryd.func27 rfl rfl (by kernel_rfl) fun a0 (hf0 : Fr 17 a0 [(0, .int .i64 x0)]) => ?_
  refine wp_seq ?_
  refine reg [] [0] [(0, .int .i64 x0)] [] hf0 (by kernel_rfl) trivial fun a21 hf22 => ?_
  refine thenN ?_
  refine wp_seq ?_
  refine inReg ?_
  refine listOf hf22 rfl (by kernel_rfl) (aLit (cs := [.string (bs ([] : List UInt8)), .string (bs ([108, 101, 97, 102] : List UInt8)), .string (bs ([99, 111, 110, 115, 116] : List UInt8)), .string (bs ([112, 97, 114, 97, 109] : List UInt8)), .string (bs ([97, 100, 100] : List UInt8)), .string (bs ([115, 117, 98] : List UInt8)), .string (bs ([109, 117, 108] : List UInt8)), .string (bs ([100, 105, 118] : List UInt8)), .string (bs ([110, 101, 103] : List UInt8)), .string (bs ([101, 120, 112] : List UInt8)), .string (bs ([108, 111, 103] : List UInt8)), .string (bs ([114, 101, 108, 117] : List UInt8)), .string (bs ([109, 97, 116, 109, 117, 108] : List UInt8)), .string (bs ([115, 117, 109] : List UInt8)), .string (bs ([98, 114, 111, 97, 100, 99, 97, 115, 116] : List UInt8)), .string (bs ([114, 101, 115, 104, 97, 112, 101] : List UInt8)), .string (bs ([99, 97, 108, 108] : List UInt8))]) (E := 9) (len := 17) (d := 4) hf22 (by kernel_rfl) (by kernel_rfl) ?_)
  intro b23 w24 a25 hbb23 hx27 hg28 hf26
  have hm0s := hm0.still hg28
  have hm29 := Mem.lit (kd := Kd.str) (xs := ([([] : List UInt8), ([108, 101, 97, 102] : List UInt8), ([99, 111, 110, 115, 116] : List UInt8), ([112, 97, 114, 97, 109] : List UInt8), ([97, 100, 100] : List UInt8), ([115, 117, 98] : List UInt8), ([109, 117, 108] : List UInt8), ([100, 105, 118] : List UInt8), ([110, 101, 103] : List UInt8), ([101, 120, 112] : List UInt8), ([108, 111, 103] : List UInt8), ([114, 101, 108, 117] : List UInt8), ([109, 97, 116, 109, 117, 108] : List UInt8), ([115, 117, 109] : List UInt8), ([98, 114, 111, 97, 100, 99, 97, 115, 116] : List UInt8), ([114, 101, 115, 104, 97, 112, 101] : List UInt8), ([99, 97, 108, 108] : List UInt8)] : List (List UInt8))) hm0 hbb23 hx27 hg28 (Els.append (Els.one (kd := Kd.str) (us := [.string (bs ([] : List UInt8))]) (x := ([] : List UInt8)) rfl) (Els.append (Els.one (kd := Kd.str) (us := [.string (bs ([108, 101, 97, 102] : List UInt8))]) (x := ([108, 101, 97, 102] : List UInt8)) rfl) (Els.append (Els.one (kd := Kd.str) (us := [.string (bs ([99, 111, 110, 115, 116] : List UInt8))]) (x := ([99, 111, 110, 115, 116] : List UInt8)) rfl) (Els.append (Els.one (kd := Kd.str) (us := [.string (bs ([112, 97, 114, 97, 109] : List UInt8))]) (x := ([112, 97, 114, 97, 109] : List UInt8)) rfl) (Els.append (Els.one (kd := Kd.str) (us := [.string (bs ([97, 100, 100] : List UInt8))]) (x := ([97, 100, 100] : List UInt8)) rfl) (Els.append (Els.one (kd := Kd.str) (us := [.string (bs ([115, 117, 98] : List UInt8))]) (x := ([115, 117, 98] : List UInt8)) rfl) (Els.append (Els.one (kd := Kd.str) (us := [.string (bs ([109, 117, 108] : List UInt8))]) (x := ([109, 117, 108] : List UInt8)) rfl) (Els.append (Els.one (kd := Kd.str) (us := [.string (bs ([100, 105, 118] : List UInt8))]) (x := ([100, 105, 118] : List UInt8)) rfl) (Els.append (Els.one (kd := Kd.str) (us := [.string (bs ([110, 101, 103] : List UInt8))]) (x := ([110, 101, 103] : List UInt8)) rfl) (Els.append (Els.one (kd := Kd.str) (us := [.string (bs ([101, 120, 112] : List UInt8))]) (x := ([101, 120, 112] : List UInt8)) rfl) (Els.append (Els.one (kd := Kd.str) (us := [.string (bs ([108, 111, 103] : List UInt8))]) (x := ([108, 111, 103] : List UInt8)) rfl) (Els.append (Els.one (kd := Kd.str) (us := [.string (bs ([114, 101, 108, 117] : List UInt8))]) (x := ([114, 101, 108, 117] : List UInt8)) rfl) (Els.append (Els.one (kd := Kd.str) (us := [.string (bs ([109, 97, 116, 109, 117, 108] : List UInt8))]) (x := ([109, 97, 116, 109, 117, 108] : List UInt8)) rfl) (Els.append (Els.one (kd := Kd.str) (us := [.string (bs ([115, 117, 109] : List UInt8))]) (x := ([115, 117, 109] : List UInt8)) rfl) (Els.append (Els.one (kd := Kd.str) (us := [.string (bs ([98, 114, 111, 97, 100, 99, 97, 115, 116] : List UInt8))]) (x := ([98, 114, 111, 97, 100, 99, 97, 115, 116] : List UInt8)) rfl) (Els.append (Els.one (kd := Kd.str) (us := [.string (bs ([114, 101, 115, 104, 97, 112, 101] : List UInt8))]) (x := ([114, 101, 115, 104, 97, 112, 101] : List UInt8)) rfl) (Els.one (kd := Kd.str) (us := [.string (bs ([99, 97, 108, 108] : List UInt8))]) (x := ([99, 97, 108, 108] : List UInt8)) rfl)))))))))))))))))
  refine go 1 [] [0, 3] [(0, .int .i64 x0), (3, .slice (some ⟨b23, 0, none⟩) 17 17)] [] hf26 (by kernel_rfl) trivial fun a30 hf31 => ?_
  refine endL rfl ?_
  refine thenN ?_
  refine wp_seq ?_
  refine wp_seq ?_
  rcases if_split H0 with ⟨c32, H0⟩ | ⟨c32, H0⟩
  · refine reg [.bool true] [0, 3, 12] [(0, .int .i64 x0), (3, .slice (some ⟨b23, 0, none⟩) 17 17), (12, .bool true)] [.is (decide (x0 < 0) = true)] hf31 (by kernel_rfl) ⟨(decide_eq_true c32), trivial⟩ fun a33 hf34 => ?_
    refine thenN ?_
    refine condT hf34 (by kernel_rfl) ?_
    refine wp_seq ?_
    refine reg [] [2] [(2, .string (bs ([] : List UInt8)))] [] hf34 (by kernel_rfl) trivial fun a35 hf36 => ?_
    have hm37 := hm29.sel [] _ rfl (by kernel_rfl)
    refine thenN ?_
    refine wp_ret ?_
    refine thenR ?_
    have hm38 : Mem [] M w0 [] w24 := hm37.sel [] _ rfl (by kernel_rfl)
    obtain rfl := Option.some.inj H0
    refine ret [] [.string (bs ([] : List UInt8))] [] hf36 (by kernel_rfl) trivial ?_
    exact ⟨_, rfl, rfl, hm38⟩
  rcases if_split H0 with ⟨c40, H0⟩ | ⟨c40, H0⟩
  · refine reg [.bool false, .bool true] [0, 3, 12] [(0, .int .i64 x0), (3, .slice (some ⟨b23, 0, none⟩) 17 17), (12, .bool true)] [.is (decide (x0 < 0) = false), .is (decide ((17 : Int) ≤ x0) = true)] hf31 (by kernel_rfl) ⟨(decide_eq_false c32), (decide_eq_true c40), trivial⟩ fun a41 hf42 => ?_
    refine thenN ?_
    refine condT hf42 (by kernel_rfl) ?_
    refine wp_seq ?_
    refine reg [] [2] [(2, .string (bs ([] : List UInt8)))] [] hf42 (by kernel_rfl) trivial fun a43 hf44 => ?_
    have hm45 := hm29.sel [] _ rfl (by kernel_rfl)
    refine thenN ?_
    refine wp_ret ?_
    refine thenR ?_
    have hm46 : Mem [] M w0 [] w24 := hm45.sel [] _ rfl (by kernel_rfl)
    obtain rfl := Option.some.inj H0
    refine ret [] [.string (bs ([] : List UInt8))] [] hf44 (by kernel_rfl) trivial ?_
    exact ⟨_, rfl, rfl, hm46⟩
  refine reg [.bool false, .bool false] [0, 3, 12] [(0, .int .i64 x0), (3, .slice (some ⟨b23, 0, none⟩) 17 17), (12, .bool false)] [.is (decide (x0 < 0) = false), .is (decide ((17 : Int) ≤ x0) = false)] hf31 (by kernel_rfl) ⟨(decide_eq_false c32), (decide_eq_false c40), trivial⟩ fun a48 hf49 => ?_
  refine thenN ?_
  refine condF hf49 (by kernel_rfl) ?_
  refine wp_skip ?_
  refine thenN ?_
  refine wp_seq ?_
  obtain ⟨g50, H0⟩ := if_guard H0
  have q51 := (hm29.slAt 0 rfl).str x0 g50.1 g50.2
  refine reg [.string (bs (rd ([([] : List UInt8), ([108, 101, 97, 102] : List UInt8), ([99, 111, 110, 115, 116] : List UInt8), ([112, 97, 114, 97, 109] : List UInt8), ([97, 100, 100] : List UInt8), ([115, 117, 98] : List UInt8), ([109, 117, 108] : List UInt8), ([100, 105, 118] : List UInt8), ([110, 101, 103] : List UInt8), ([101, 120, 112] : List UInt8), ([108, 111, 103] : List UInt8), ([114, 101, 108, 117] : List UInt8), ([109, 97, 116, 109, 117, 108] : List UInt8), ([115, 117, 109] : List UInt8), ([98, 114, 111, 97, 100, 99, 97, 115, 116] : List UInt8), ([114, 101, 115, 104, 97, 112, 101] : List UInt8), ([99, 97, 108, 108] : List UInt8)] : List (List UInt8)) x0))] [2] [(2, .string (bs (rd ([([] : List UInt8), ([108, 101, 97, 102] : List UInt8), ([99, 111, 110, 115, 116] : List UInt8), ([112, 97, 114, 97, 109] : List UInt8), ([97, 100, 100] : List UInt8), ([115, 117, 98] : List UInt8), ([109, 117, 108] : List UInt8), ([100, 105, 118] : List UInt8), ([110, 101, 103] : List UInt8), ([101, 120, 112] : List UInt8), ([108, 111, 103] : List UInt8), ([114, 101, 108, 117] : List UInt8), ([109, 97, 116, 109, 117, 108] : List UInt8), ([115, 117, 109] : List UInt8), ([98, 114, 111, 97, 100, 99, 97, 115, 116] : List UInt8), ([114, 101, 115, 104, 97, 112, 101] : List UInt8), ([99, 97, 108, 108] : List UInt8)] : List (List UInt8)) x0)))] [.is (Option.isSome ((some ⟨b23, 0, none⟩) : Option Addr) = true), .is (0 ≤ x0 ∧ x0 < (17 : Int)), .cell ((ad ((some ⟨b23, 0, none⟩))).add ((x0).toNat * 1)) (.string (bs (rd ([([] : List UInt8), ([108, 101, 97, 102] : List UInt8), ([99, 111, 110, 115, 116] : List UInt8), ([112, 97, 114, 97, 109] : List UInt8), ([97, 100, 100] : List UInt8), ([115, 117, 98] : List UInt8), ([109, 117, 108] : List UInt8), ([100, 105, 118] : List UInt8), ([110, 101, 103] : List UInt8), ([101, 120, 112] : List UInt8), ([108, 111, 103] : List UInt8), ([114, 101, 108, 117] : List UInt8), ([109, 97, 116, 109, 117, 108] : List UInt8), ([115, 117, 109] : List UInt8), ([98, 114, 111, 97, 100, 99, 97, 115, 116] : List UInt8), ([114, 101, 115, 104, 97, 112, 101] : List UInt8), ([99, 97, 108, 108] : List UInt8)] : List (List UInt8)) x0)))] hf49 (by kernel_rfl) ⟨q51.1, g50, q51.2, trivial⟩ fun a52 hf53 => ?_
  have hm54 := hm29.sel [] _ rfl (by kernel_rfl)
  refine thenN ?_
  refine wp_ret ?_
  have hm55 : Mem [] M w0 [] w24 := hm54.sel [] _ rfl (by kernel_rfl)
  obtain rfl := Option.some.inj H0
  refine ret [] [.string (bs (rd ([([] : List UInt8), ([108, 101, 97, 102] : List UInt8), ([99, 111, 110, 115, 116] : List UInt8), ([112, 97, 114, 97, 109] : List UInt8), ([97, 100, 100] : List UInt8), ([115, 117, 98] : List UInt8), ([109, 117, 108] : List UInt8), ([100, 105, 118] : List UInt8), ([110, 101, 103] : List UInt8), ([101, 120, 112] : List UInt8), ([108, 111, 103] : List UInt8), ([114, 101, 108, 117] : List UInt8), ([109, 97, 116, 109, 117, 108] : List UInt8), ([115, 117, 109] : List UInt8), ([98, 114, 111, 97, 100, 99, 97, 115, 116] : List UInt8), ([114, 101, 115, 104, 97, 112, 101] : List UInt8), ([99, 97, 108, 108] : List UInt8)] : List (List UInt8)) x0))] [] hf53 (by kernel_rfl) trivial ?_
  exact ⟨_, rfl, rfl, hm55⟩
end Go.Proofs.YtkdhahdfkonilaaDoor
