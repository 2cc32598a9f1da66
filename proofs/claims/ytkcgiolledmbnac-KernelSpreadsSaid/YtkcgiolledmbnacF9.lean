/- Printed by gen.py. -/
import Derived.Test.YtkcgiolledmbnacF6
namespace Go.Proofs.Ytkcgiolledmbnac
open Go Go.RowKit
set_option linter.unusedSimpArgs false
set_option linter.unusedVariables false
set_option linter.unnecessarySimpa false
/-! ### backstitch/backstitchref1.Place -/
noncomputable def ref1_Place.l0 (x0 : (List Int)) (s71 : (Int × Int × (List Int))) : Step (Int × Int × (List Int)) (Int × Int × (List Int)) :=
  if 0 ≤ s71.2.1 then (if 0 ≤ s71.2.1 ∧ s71.2.1 < (x0.length : Int) then (if (rd x0 s71.2.1) ≠ 0 then (if 0 ≤ s71.2.1 ∧ s71.2.1 < (s71.2.2.length : Int) then (.next ((w64 (Int.tdiv s71.1 (rd x0 s71.2.1))), (w64 (s71.2.1 - 1)), (put s71.2.2 s71.2.1 (Int.tmod s71.1 (rd x0 s71.2.1)))))
  else .bad)
  else .bad)
  else .bad)
  else (.done (s71.1, s71.2.1, s71.2.2))
noncomputable def ref1_Place.f (x0 : (List Int)) (x1 : Int) : Option (List Int) :=
  (ref1_Size.f x0).bind fun r23 =>
  if r23.2 = 0 then (if x1 < 0 then (some ([] : (List Int)))
  else (if r23.1 ≤ x1 then (some ([] : (List Int)))
  else (if 0 ≤ (x0.length : Int) ∧ (x0.length : Int) ≤ 1099511627776 then ((loop (ref1_Place.l0 x0) (x1, (w64 ((x0.length : Int) - 1)), (List.replicate ((x0.length : Int)).toNat (0 : Int)))).bind fun r72 =>
  some r72.2.2)
  else none)))
  else (some ([] : (List Int)))
set_option maxRecDepth 100000 in
set_option maxHeartbeats 4000000 in
theorem ref1_Place.calls (M : List (Option Nat)) (w0 : World) (x0 : (List Int)) (A0 : Option Addr) (n0 c0 : Nat) (e0 : n0 = x0.length) (x1 : Int) (hm0 : Mem [] M w0 [.sl (Kd.int .i64) A0 c0 x0] w0) (r : (List Int)) (H0 : ref1_Place.f x0 x1 = some r) :
    Calls Try.prog 39 [.slice A0 n0 c0, .int .i64 x1].toArray w0 (fun x w' => ∃ v, x = .returned v ∧ ∃ Ar0 cr0, v = .slice Ar0 r.length cr0 ∧ Mem [] M w0 [.ow (Kd.int .i64) 3 Ar0 cr0 r] w') := by
  subst e0
  unfold ref1_Place.f at H0
  refine enter (n := 51) Try.func39 rfl rfl (by kernel_rfl) fun a0 (hf0 : Fr 51 a0 [(0, .slice A0 x0.length c0), (1, .int .i64 x1)]) => ?_
  refine wp_seq ?_
  refine reg [] [0, 1] [(0, .slice A0 x0.length c0), (1, .int .i64 x1)] [] hf0 (by kernel_rfl) trivial fun a21 hf22 => ?_
  refine thenN ?_
  refine wp_seq ?_
  obtain ⟨r23, hr23, H0⟩ := ob_split H0
  refine inReg ?_
  refine go 1 [] [0, 1, 10] [(0, .slice A0 x0.length c0), (1, .int .i64 x1), (10, .slice A0 x0.length c0)] [] hf22 (by kernel_rfl) trivial fun a24 hf25 => ?_
  refine listOf hf25 rfl (by kernel_rfl) (aCall (fid := 15) (args := [.slice A0 x0.length c0]) (d := 11) hf25 (by kernel_rfl) (by kernel_rfl) callable15 (ref1_Size.calls _ _ x0 A0 x0.length c0 rfl (hm0.give [0] [.sl (Kd.int .i64) A0 c0 x0] rfl rfl) r23 hr23) ?_)
  rintro _ w26 a27 ⟨rfl, hk29⟩ hf28
  have hm30 := hm0.still hk29.cum.none
  refine go 5 [] [0, 1, 5, 6] [(0, .slice A0 x0.length c0), (1, .int .i64 x1), (5, .int .i64 r23.1), (6, .int .i64 r23.2)] [] hf28 (by kernel_rfl) trivial fun a31 hf32 => ?_
  refine endL rfl ?_
  refine thenN ?_
  refine wp_seq ?_
  refine wp_seq ?_
  rcases if_split H0 with ⟨c33, H0⟩ | ⟨c33, H0⟩
  rotate_left
  · refine reg [.bool true] [0, 1, 24] [(0, .slice A0 x0.length c0), (1, .int .i64 x1), (24, .bool true)] [.is (((r23.2 : Int) != 0) = true)] hf32 (by kernel_rfl) ⟨(neT c33), trivial⟩ fun a110 hf111 => ?_
    refine thenN ?_
    refine condT hf111 (by kernel_rfl) ?_
    refine wp_seq ?_
    refine reg [] [4] [(4, .slice none 0 0)] [] hf111 (by kernel_rfl) trivial fun a112 hf113 => ?_
    have hm114 := hm30.sel [] _ rfl (by kernel_rfl)
    refine thenN ?_
    refine wp_ret ?_
    refine thenR ?_
    have hm115 := hm114.nilOw (Kd.int .i64) 3
    have hm116 : Mem [] M w0 [.ow (Kd.int .i64) 3 none 0 ([] : (List Int))] w26 := hm115.sel [0] _ rfl (by kernel_rfl)
    obtain rfl := Option.some.inj H0
    refine ret [] [.slice none 0 0] [] hf113 (by kernel_rfl) trivial ?_
    exact ⟨_, rfl, none, 0, rfl, hm116⟩
  rcases if_split H0 with ⟨c34, H0⟩ | ⟨c34, H0⟩
  · refine reg [.bool false, .bool true] [0, 1, 24] [(0, .slice A0 x0.length c0), (1, .int .i64 x1), (24, .bool true)] [.is (((r23.2 : Int) != 0) = false), .is (decide (x1 < 0) = true)] hf32 (by kernel_rfl) ⟨(neF c33), (decide_eq_true c34), trivial⟩ fun a35 hf36 => ?_
    refine thenN ?_
    refine condT hf36 (by kernel_rfl) ?_
    refine wp_seq ?_
    refine reg [] [4] [(4, .slice none 0 0)] [] hf36 (by kernel_rfl) trivial fun a37 hf38 => ?_
    have hm39 := hm30.sel [] _ rfl (by kernel_rfl)
    refine thenN ?_
    refine wp_ret ?_
    refine thenR ?_
    have hm40 := hm39.nilOw (Kd.int .i64) 3
    have hm41 : Mem [] M w0 [.ow (Kd.int .i64) 3 none 0 ([] : (List Int))] w26 := hm40.sel [0] _ rfl (by kernel_rfl)
    obtain rfl := Option.some.inj H0
    refine ret [] [.slice none 0 0] [] hf38 (by kernel_rfl) trivial ?_
    exact ⟨_, rfl, none, 0, rfl, hm41⟩
  rcases if_split H0 with ⟨c43, H0⟩ | ⟨c43, H0⟩
  · refine reg [.bool false, .bool false, .bool true] [0, 1, 24] [(0, .slice A0 x0.length c0), (1, .int .i64 x1), (24, .bool true)] [.is (((r23.2 : Int) != 0) = false), .is (decide (x1 < 0) = false), .is (decide (r23.1 ≤ x1) = true)] hf32 (by kernel_rfl) ⟨(neF c33), (decide_eq_false c34), (decide_eq_true c43), trivial⟩ fun a44 hf45 => ?_
    refine thenN ?_
    refine condT hf45 (by kernel_rfl) ?_
    refine wp_seq ?_
    refine reg [] [4] [(4, .slice none 0 0)] [] hf45 (by kernel_rfl) trivial fun a46 hf47 => ?_
    have hm48 := hm30.sel [] _ rfl (by kernel_rfl)
    refine thenN ?_
    refine wp_ret ?_
    refine thenR ?_
    have hm49 := hm48.nilOw (Kd.int .i64) 3
    have hm50 : Mem [] M w0 [.ow (Kd.int .i64) 3 none 0 ([] : (List Int))] w26 := hm49.sel [0] _ rfl (by kernel_rfl)
    obtain rfl := Option.some.inj H0
    refine ret [] [.slice none 0 0] [] hf47 (by kernel_rfl) trivial ?_
    exact ⟨_, rfl, none, 0, rfl, hm50⟩
  refine reg [.bool false, .bool false, .bool false] [0, 1, 24] [(0, .slice A0 x0.length c0), (1, .int .i64 x1), (24, .bool false)] [.is (((r23.2 : Int) != 0) = false), .is (decide (x1 < 0) = false), .is (decide (r23.1 ≤ x1) = false)] hf32 (by kernel_rfl) ⟨(neF c33), (decide_eq_false c34), (decide_eq_false c43), trivial⟩ fun a52 hf53 => ?_
  refine thenN ?_
  refine condF hf53 (by kernel_rfl) ?_
  refine wp_skip ?_
  refine thenN ?_
  refine wp_seq ?_
  obtain ⟨g54, H0⟩ := if_guard H0
  refine inReg ?_
  refine go 2 [] [0, 1, 26] [(0, .slice A0 x0.length c0), (1, .int .i64 x1), (26, .int .i64 (x0.length : Int))] [] hf53 (by kernel_rfl) trivial fun a55 hf56 => ?_
  refine listOf hf56 rfl (by kernel_rfl) (aMake (kd := (Kd.int .i64)) (x := 0) (E := 3) (L := (x0.length : Int)) (z := [.int .i64 0]) (sz := 1) (d := 27) hf56 (by kernel_rfl) (by kernel_rfl) rfl (fun _ _ => rfl) g54.1 g54.2 ?_)
  intro A57 c58 w59 a60 ho62 hb65 hg63 hf61
  have hm66 : Mem [] M w0 [.ow (Kd.int .i64) 3 A57 c58 (List.replicate ((x0.length : Int)).toNat (0 : Int)), .sl (Kd.int .i64) A0 c0 x0] w59 := hm30.own (ho62 _) hg63
  refine go 1 [] [0, 1, 7] [(0, .slice A0 x0.length c0), (1, .int .i64 x1), (7, .slice A57 ((List.replicate ((x0.length : Int)).toNat (0 : Int)).length) c58)] [] hf61 (by kernel_rfl) trivial fun a67 hf68 => ?_
  refine endL rfl ?_
  refine thenN ?_
  refine wp_seq ?_
  refine wp_seq ?_
  refine reg [] [0, 1, 7, 8] [(0, .slice A0 x0.length c0), (1, .int .i64 x1), (7, .slice A57 ((List.replicate ((x0.length : Int)).toNat (0 : Int)).length) c58), (8, .int .i64 (w64 ((x0.length : Int) - 1)))] [] hf68 (by kernel_rfl) trivial fun a69 hf70 => ?_
  refine thenN ?_
  obtain ⟨r72, hr72, H0⟩ := ob_split H0
  refine wpBlock (Mid := fun (a : Act) (w : World) => Fr 51 a [(0, .slice A0 x0.length c0), (1, .int .i64 r72.1), (7, .slice A57 r72.2.2.length c58), (8, .int .i64 r72.2.1)] ∧ Mem [] M w0 [.ow (Kd.int .i64) 3 A57 c58 r72.2.2, .sl (Kd.int .i64) A0 c0 x0] w) ?_ ?_
  · refine wpLoop (ref1_Place.l0 x0) r72 (fun (s71 : (Int × Int × (List Int))) (a : Act) (w : World) => Fr 51 a [(0, .slice A0 x0.length c0), (1, .int .i64 s71.1), (7, .slice A57 s71.2.2.length c58), (8, .int .i64 s71.2.1)] ∧ Mem [] M w0 [.ow (Kd.int .i64) 3 A57 c58 s71.2.2, .sl (Kd.int .i64) A0 c0 x0] w) (x1, (w64 ((x0.length : Int) - 1)), (List.replicate ((x0.length : Int)).toNat (0 : Int))) hr72 ⟨hf70.sel (l := [0, 1, 7, 8]) (by kernel_rfl), hm66.sel [0, 1] _ rfl (by kernel_rfl)⟩ ?_
    rintro g73 s71 a74 w75 H1 ⟨hf76, hm77⟩
    unfold ref1_Place.l0 at H1
    refine wp_seq ?_
    refine wp_seq ?_
    rcases ifS_split H1 with ⟨c78, H1⟩ | ⟨c78, H1⟩
    rotate_left
    · refine reg [.bool false] [0, 1, 7, 8, 32] [(0, .slice A0 x0.length c0), (1, .int .i64 s71.1), (7, .slice A57 s71.2.2.length c58), (8, .int .i64 s71.2.1), (32, .bool false)] [.is (decide (0 ≤ s71.2.1) = false)] hf76 (by kernel_rfl) ⟨(decide_eq_false c78), trivial⟩ fun a99 hf100 => ?_
      refine thenN ?_
      refine condF hf100 (by kernel_rfl) ?_
      refine wp_exit ?_
      refine thenE ?_
      refine thenE ?_
      obtain rfl := Option.some.inj H1
      exact .inl ⟨rfl, hf100.sel (l := [0, 1, 7, 8]) (by kernel_rfl), hm77.sel [0, 1] _ rfl (by kernel_rfl)⟩
    refine reg [.bool true] [0, 1, 7, 8, 32] [(0, .slice A0 x0.length c0), (1, .int .i64 s71.1), (7, .slice A57 s71.2.2.length c58), (8, .int .i64 s71.2.1), (32, .bool true)] [.is (decide (0 ≤ s71.2.1) = true)] hf76 (by kernel_rfl) ⟨(decide_eq_true c78), trivial⟩ fun a79 hf80 => ?_
    refine thenN ?_
    refine condT hf80 (by kernel_rfl) ?_
    refine wp_skip ?_
    refine thenN ?_
    refine wp_seq ?_
    refine wp_block ?_
    refine wp_seq ?_
    obtain ⟨g81, H1⟩ := ifS_guard H1
    obtain ⟨g82, H1⟩ := ifS_guard H1
    obtain ⟨g83, H1⟩ := ifS_guard H1
    have q84 := (hm77.slAt 1 rfl).int s71.2.1 g81.1 g81.2
    have q85 := (hm77.owAt 0 rfl).int s71.2.1 g83.1 g83.2
    refine inReg ?_
    refine go 9 [.int .i64 (rd x0 s71.2.1)] [0, 1, 7, 8, 42, 43] [(0, .slice A0 x0.length c0), (1, .int .i64 s71.1), (7, .slice A57 s71.2.2.length c58), (8, .int .i64 s71.2.1), (42, .int .i64 (Int.tmod s71.1 (rd x0 s71.2.1))), (43, .pointer (some ((ad A57).add ((s71.2.1).toNat * 1))))] [.is (Option.isSome A0 = true), .is (0 ≤ s71.2.1 ∧ s71.2.1 < (x0.length : Int)), .cell ((ad A0).add ((s71.2.1).toNat * 1)) (.int .i64 (rd x0 s71.2.1)), .is ((rd x0 s71.2.1) ≠ 0), .is (Option.isSome A57 = true), .is (0 ≤ s71.2.1 ∧ s71.2.1 < (s71.2.2.length : Int))] hf80 (by kernel_rfl) ⟨q84.1, g81, q84.2, g82, q85.1, g83, trivial⟩ fun a86 hf87 => ?_
    refine listOf hf87 rfl (by kernel_rfl) (aStoreO (kd := (Kd.int .i64)) (base := 0) (E := 3) (A := A57) (c := c58) (xs := s71.2.2) (i := s71.2.1) (x := (Int.tmod s71.1 (rd x0 s71.2.1))) (us := [.int .i64 (Int.tmod s71.1 (rd x0 s71.2.1))]) (sz := 1) hf87 (by kernel_rfl) rfl (by kernel_rfl) (hm77.at 0 rfl) rfl g83.1 g83.2 ?_)
    intro w88 hx89 hg90
    have hm91 := hm77.setOwn 0 _ rfl rfl hx89 hg90 (.inl rfl)
    refine endL rfl ?_
    refine thenN ?_
    have q92 := (hm91.slAt 1 rfl).int s71.2.1 g81.1 g81.2
    refine reg [.int .i64 (rd x0 s71.2.1)] [0, 1, 7, 8] [(0, .slice A0 x0.length c0), (1, .int .i64 (w64 (Int.tdiv s71.1 (rd x0 s71.2.1)))), (7, .slice A57 s71.2.2.length c58), (8, .int .i64 s71.2.1)] [.is (Option.isSome A0 = true), .is (0 ≤ s71.2.1 ∧ s71.2.1 < (x0.length : Int)), .cell ((ad A0).add ((s71.2.1).toNat * 1)) (.int .i64 (rd x0 s71.2.1)), .is ((rd x0 s71.2.1) ≠ 0)] hf87 (by kernel_rfl) ⟨q92.1, g81, q92.2, g82, trivial⟩ fun a93 hf94 => ?_
    refine blkN ?_
    refine thenN ?_
    refine reg [] [0, 1, 7, 8] [(0, .slice A0 x0.length c0), (1, .int .i64 (w64 (Int.tdiv s71.1 (rd x0 s71.2.1)))), (7, .slice A57 s71.2.2.length c58), (8, .int .i64 (w64 (s71.2.1 - 1)))] [] hf94 (by kernel_rfl) trivial fun a95 hf96 => ?_
    have hf97 : Fr 51 a95 [(0, .slice A0 x0.length c0), (1, .int .i64 (w64 (Int.tdiv s71.1 (rd x0 s71.2.1)))), (7, .slice A57 s71.2.2.length c58), (8, .int .i64 (w64 (s71.2.1 - 1)))] := hf96.sel (l := [0, 1, 7, 8]) (by kernel_rfl)
    have hm98 : Mem [] M w0 [.ow (Kd.int .i64) 3 A57 c58 (put s71.2.2 s71.2.1 (Int.tmod s71.1 (rd x0 s71.2.1))), .sl (Kd.int .i64) A0 c0 x0] w88 := hm91.sel [0, 1] _ rfl (by kernel_rfl)
    exact ⟨((w64 (Int.tdiv s71.1 (rd x0 s71.2.1))), (w64 (s71.2.1 - 1)), (put s71.2.2 s71.2.1 (Int.tmod s71.1 (rd x0 s71.2.1)))), H1, (by simpa only [put_length, List.length_nil] using hf97), (by simpa only [put_length, List.length_nil] using hm98)⟩
  rintro a101 w102 ⟨hf103, hm104⟩
  refine thenN ?_
  refine wp_seq ?_
  refine reg [] [4] [(4, .slice A57 r72.2.2.length c58)] [] hf103 (by kernel_rfl) trivial fun a105 hf106 => ?_
  have hm107 := hm104.sel [0] _ rfl (by kernel_rfl)
  refine thenN ?_
  refine wp_ret ?_
  have hm108 : Mem [] M w0 [.ow (Kd.int .i64) 3 A57 c58 r72.2.2] w102 := hm107.sel [0] _ rfl (by kernel_rfl)
  obtain rfl := Option.some.inj H0
  refine ret [] [.slice A57 r72.2.2.length c58] [] hf106 (by kernel_rfl) trivial ?_
  exact ⟨_, rfl, A57, c58, rfl, hm108⟩

/-! ### backstitch/backstitchref1.Index -/
noncomputable def ref1_Index.l0 (x0 : (List Int)) (x1 : (List Int)) (s39 : (Int × Int)) : Step (Int × Int) (Out2 (Int × Int) Int) :=
  if s39.2 < (x0.length : Int) then (if 0 ≤ s39.2 ∧ s39.2 < (x1.length : Int) then (if (rd x1 s39.2) < 0 then (.done (.ret (-1)))
  else (if 0 ≤ s39.2 ∧ s39.2 < (x0.length : Int) then (if (rd x0 s39.2) ≤ (rd x1 s39.2) then (.done (.ret (-1)))
  else (.next ((w64 ((w64 (s39.1 * (rd x0 s39.2))) + (rd x1 s39.2))), (w64 (s39.2 + 1)))))
  else .bad))
  else .bad)
  else (.done (.go (s39.1, s39.2)))
noncomputable def ref1_Index.f (x0 : (List Int)) (x1 : (List Int)) : Option Int :=
  (ref1_May.f x0).bind fun r23 =>
  if r23 = true then (if (x1.length : Int) = (x0.length : Int) then ((loop (ref1_Index.l0 x0 x1) (0, 0)).bind fun r40 =>
  r40.on (fun yr40 =>
  some yr40.1) (fun y => some y))
  else (some (-1)))
  else (some (-1))
set_option maxRecDepth 100000 in
set_option maxHeartbeats 4000000 in
theorem ref1_Index.calls (M : List (Option Nat)) (w0 : World) (x0 : (List Int)) (A0 : Option Addr) (n0 c0 : Nat) (e0 : n0 = x0.length) (x1 : (List Int)) (A1 : Option Addr) (n1 c1 : Nat) (e1 : n1 = x1.length) (hm0 : Mem [] M w0 [.sl (Kd.int .i64) A0 c0 x0, .sl (Kd.int .i64) A1 c1 x1] w0) (r : Int) (H0 : ref1_Index.f x0 x1 = some r) :
    Calls Try.prog 58 [.slice A0 n0 c0, .slice A1 n1 c1].toArray w0 (fun x w' => ∃ v, x = .returned v ∧ v = .int .i64 r ∧ Mem [] M w0 [] w') := by
  subst e0
  subst e1
  unfold ref1_Index.f at H0
  refine enter (n := 51) Try.func58 rfl rfl (by kernel_rfl) fun a0 (hf0 : Fr 51 a0 [(0, .slice A0 x0.length c0), (1, .slice A1 x1.length c1)]) => ?_
  refine wp_seq ?_
  refine reg [] [0, 1] [(0, .slice A0 x0.length c0), (1, .slice A1 x1.length c1)] [] hf0 (by kernel_rfl) trivial fun a21 hf22 => ?_
  refine thenN ?_
  refine wp_seq ?_
  refine wp_seq ?_
  obtain ⟨r23, hr23, H0⟩ := ob_split H0
  rcases ifb_split H0 with ⟨c24, H0⟩ | ⟨c24, H0⟩
  rotate_left
  · refine inReg ?_
    refine go 1 [] [0, 1, 7] [(0, .slice A0 x0.length c0), (1, .slice A1 x1.length c1), (7, .slice A0 x0.length c0)] [] hf22 (by kernel_rfl) trivial fun a120 hf121 => ?_
    refine listOf hf121 rfl (by kernel_rfl) (aCall (fid := 73) (args := [.slice A0 x0.length c0]) (d := 8) hf121 (by kernel_rfl) (by kernel_rfl) callable73 (ref1_May.calls _ _ x0 A0 x0.length c0 rfl (hm0.give [0] [.sl (Kd.int .i64) A0 c0 x0] rfl rfl) r23 hr23) ?_)
    rintro _ w122 a123 ⟨rfl, hk125⟩ hf124
    have hm126 := hm0.still hk125.cum.none
    rw [c24] at hf124
    refine go 8 [] [0, 1, 16] [(0, .slice A0 x0.length c0), (1, .slice A1 x1.length c1), (16, .bool true)] [] hf124 (by kernel_rfl) trivial fun a127 hf128 => ?_
    refine endL rfl ?_
    refine thenN ?_
    refine condT hf128 (by kernel_rfl) ?_
    refine wp_seq ?_
    refine reg [] [4] [(4, .int .i64 (-1))] [] hf128 (by kernel_rfl) trivial fun a129 hf130 => ?_
    have hm131 := hm126.sel [] _ rfl (by kernel_rfl)
    refine thenN ?_
    refine wp_ret ?_
    refine thenR ?_
    have hm132 : Mem [] M w0 [] w122 := hm131.sel [] _ rfl (by kernel_rfl)
    obtain rfl := Option.some.inj H0
    refine ret [] [.int .i64 (-1)] [] hf130 (by kernel_rfl) trivial ?_
    exact ⟨_, rfl, rfl, hm132⟩
  rcases if_split H0 with ⟨c25, H0⟩ | ⟨c25, H0⟩
  rotate_left
  · refine inReg ?_
    refine go 1 [] [0, 1, 7] [(0, .slice A0 x0.length c0), (1, .slice A1 x1.length c1), (7, .slice A0 x0.length c0)] [] hf22 (by kernel_rfl) trivial fun a106 hf107 => ?_
    refine listOf hf107 rfl (by kernel_rfl) (aCall (fid := 73) (args := [.slice A0 x0.length c0]) (d := 8) hf107 (by kernel_rfl) (by kernel_rfl) callable73 (ref1_May.calls _ _ x0 A0 x0.length c0 rfl (hm0.give [0] [.sl (Kd.int .i64) A0 c0 x0] rfl rfl) r23 hr23) ?_)
    rintro _ w108 a109 ⟨rfl, hk111⟩ hf110
    have hm112 := hm0.still hk111.cum.none
    rw [c24] at hf110
    refine go 8 [.bool true] [0, 1, 16] [(0, .slice A0 x0.length c0), (1, .slice A1 x1.length c1), (16, .bool true)] [.is ((((x1.length : Int) : Int) != (x0.length : Int)) = true)] hf110 (by kernel_rfl) ⟨(neT c25), trivial⟩ fun a113 hf114 => ?_
    refine endL rfl ?_
    refine thenN ?_
    refine condT hf114 (by kernel_rfl) ?_
    refine wp_seq ?_
    refine reg [] [4] [(4, .int .i64 (-1))] [] hf114 (by kernel_rfl) trivial fun a115 hf116 => ?_
    have hm117 := hm112.sel [] _ rfl (by kernel_rfl)
    refine thenN ?_
    refine wp_ret ?_
    refine thenR ?_
    have hm118 : Mem [] M w0 [] w108 := hm117.sel [] _ rfl (by kernel_rfl)
    obtain rfl := Option.some.inj H0
    refine ret [] [.int .i64 (-1)] [] hf116 (by kernel_rfl) trivial ?_
    exact ⟨_, rfl, rfl, hm118⟩
  refine inReg ?_
  refine go 1 [] [0, 1, 7] [(0, .slice A0 x0.length c0), (1, .slice A1 x1.length c1), (7, .slice A0 x0.length c0)] [] hf22 (by kernel_rfl) trivial fun a26 hf27 => ?_
  refine listOf hf27 rfl (by kernel_rfl) (aCall (fid := 73) (args := [.slice A0 x0.length c0]) (d := 8) hf27 (by kernel_rfl) (by kernel_rfl) callable73 (ref1_May.calls _ _ x0 A0 x0.length c0 rfl (hm0.give [0] [.sl (Kd.int .i64) A0 c0 x0] rfl rfl) r23 hr23) ?_)
  rintro _ w28 a29 ⟨rfl, hk31⟩ hf30
  have hm32 := hm0.still hk31.cum.none
  rw [c24] at hf30
  refine go 8 [.bool false] [0, 1, 16] [(0, .slice A0 x0.length c0), (1, .slice A1 x1.length c1), (16, .bool false)] [.is ((((x1.length : Int) : Int) != (x0.length : Int)) = false)] hf30 (by kernel_rfl) ⟨(neF c25), trivial⟩ fun a33 hf34 => ?_
  refine endL rfl ?_
  refine thenN ?_
  refine condF hf34 (by kernel_rfl) ?_
  refine wp_skip ?_
  refine thenN ?_
  refine wp_seq ?_
  refine reg [] [0, 1, 5] [(0, .slice A0 x0.length c0), (1, .slice A1 x1.length c1), (5, .int .i64 0)] [] hf34 (by kernel_rfl) trivial fun a35 hf36 => ?_
  refine thenN ?_
  refine wp_seq ?_
  refine wp_seq ?_
  refine reg [] [0, 1, 5, 6] [(0, .slice A0 x0.length c0), (1, .slice A1 x1.length c1), (5, .int .i64 0), (6, .int .i64 0)] [] hf36 (by kernel_rfl) trivial fun a37 hf38 => ?_
  refine thenN ?_
  obtain ⟨r40, hr40, H0⟩ := ob_split H0
  refine wpBlock (Mid := fun (a : Act) (w : World) => ∃ yr40 : (Int × Int), r40 = .go yr40 ∧ Fr 51 a [(0, .slice A0 x0.length c0), (1, .slice A1 x1.length c1), (5, .int .i64 yr40.1), (6, .int .i64 yr40.2)] ∧ Mem [] M w0 [.sl (Kd.int .i64) A0 c0 x0, .sl (Kd.int .i64) A1 c1 x1] w) ?_ ?_
  · refine wpLoop (ref1_Index.l0 x0 x1) r40 (fun (s39 : (Int × Int)) (a : Act) (w : World) => Fr 51 a [(0, .slice A0 x0.length c0), (1, .slice A1 x1.length c1), (5, .int .i64 s39.1), (6, .int .i64 s39.2)] ∧ Mem [] M w0 [.sl (Kd.int .i64) A0 c0 x0, .sl (Kd.int .i64) A1 c1 x1] w) (0, 0) hr40 ⟨hf38.sel (l := [0, 1, 5, 6]) (by kernel_rfl), hm32.sel [0, 1] _ rfl (by kernel_rfl)⟩ ?_
    rintro g41 s39 a42 w43 H1 ⟨hf44, hm45⟩
    unfold ref1_Index.l0 at H1
    refine wp_seq ?_
    refine wp_seq ?_
    rcases ifS_split H1 with ⟨c46, H1⟩ | ⟨c46, H1⟩
    rotate_left
    · refine reg [.bool false] [0, 1, 5, 6, 20] [(0, .slice A0 x0.length c0), (1, .slice A1 x1.length c1), (5, .int .i64 s39.1), (6, .int .i64 s39.2), (20, .bool false)] [.is (decide (s39.2 < (x0.length : Int)) = false)] hf44 (by kernel_rfl) ⟨(decide_eq_false c46), trivial⟩ fun a95 hf96 => ?_
      refine thenN ?_
      refine condF hf96 (by kernel_rfl) ?_
      refine wp_exit ?_
      refine thenE ?_
      refine thenE ?_
      obtain rfl := Option.some.inj H1
      exact .inl ⟨rfl, (s39.1, s39.2), rfl, hf96.sel (l := [0, 1, 5, 6]) (by kernel_rfl), hm45.sel [0, 1] _ rfl (by kernel_rfl)⟩
    refine reg [.bool true] [0, 1, 5, 6, 20] [(0, .slice A0 x0.length c0), (1, .slice A1 x1.length c1), (5, .int .i64 s39.1), (6, .int .i64 s39.2), (20, .bool true)] [.is (decide (s39.2 < (x0.length : Int)) = true)] hf44 (by kernel_rfl) ⟨(decide_eq_true c46), trivial⟩ fun a47 hf48 => ?_
    refine thenN ?_
    refine condT hf48 (by kernel_rfl) ?_
    refine wp_skip ?_
    refine thenN ?_
    refine wp_seq ?_
    refine wp_block ?_
    refine wp_seq ?_
    refine wp_seq ?_
    obtain ⟨g49, H1⟩ := ifS_guard H1
    rcases ifS_split H1 with ⟨c50, H1⟩ | ⟨c50, H1⟩
    · have q51 := (hm45.slAt 1 rfl).int s39.2 g49.1 g49.2
      refine regQ [.int .i64 (rd x1 s39.2), .bool true] [0, 1, 5, 6, 38] [(0, .slice A0 x0.length c0), (1, .slice A1 x1.length c1), (5, .int .i64 s39.1), (6, .int .i64 s39.2), (38, .bool true)] [.is (Option.isSome A1 = true), .is (0 ≤ s39.2 ∧ s39.2 < (x1.length : Int)), .cell ((ad A1).add ((s39.2).toNat * 1)) (.int .i64 (rd x1 s39.2)), .is (decide ((rd x1 s39.2) < 0) = true)] (by kernel_rfl) (by kernel_rfl) hf48 (by kernel_rfl) ⟨q51.1, g49, q51.2, (decide_eq_true c50), trivial⟩ fun a52 w54 hf53 hg55 => ?_
      have hm56 := hm45.still hg55
      refine thenN ?_
      refine condT hf53 (by kernel_rfl) ?_
      refine wp_seq ?_
      refine reg [] [4] [(4, .int .i64 (-1))] [] hf53 (by kernel_rfl) trivial fun a57 hf58 => ?_
      have hm59 := hm56.sel [] _ rfl (by kernel_rfl)
      refine thenN ?_
      refine wp_ret ?_
      refine thenR ?_
      refine blkR ?_
      refine thenR ?_
      refine thenR ?_
      refine .inr ⟨rfl, ?_⟩
      refine thenR ?_
      have hm60 : Mem [] M w0 [] w54 := hm59.sel [] _ rfl (by kernel_rfl)
      obtain rfl := Option.some.inj H1
      obtain rfl := Option.some.inj H0
      refine ret [] [.int .i64 (-1)] [] hf58 (by kernel_rfl) trivial ?_
      exact ⟨_, rfl, rfl, hm60⟩
    obtain ⟨g62, H1⟩ := ifS_guard H1
    rcases ifS_split H1 with ⟨c63, H1⟩ | ⟨c63, H1⟩
    rotate_left
    · have q78 := (hm45.slAt 1 rfl).int s39.2 g49.1 g49.2
      have q79 := (hm45.slAt 1 rfl).int s39.2 g49.1 g49.2
      have q80 := (hm45.slAt 0 rfl).int s39.2 g62.1 g62.2
      refine regQ [.int .i64 (rd x1 s39.2), .bool false, .int .i64 (rd x1 s39.2), .int .i64 (rd x0 s39.2), .bool false] [0, 1, 5, 6, 38] [(0, .slice A0 x0.length c0), (1, .slice A1 x1.length c1), (5, .int .i64 s39.1), (6, .int .i64 s39.2), (38, .bool false)] [.is (Option.isSome A1 = true), .is (0 ≤ s39.2 ∧ s39.2 < (x1.length : Int)), .cell ((ad A1).add ((s39.2).toNat * 1)) (.int .i64 (rd x1 s39.2)), .is (decide ((rd x1 s39.2) < 0) = false), .is (Option.isSome A1 = true), .is (0 ≤ s39.2 ∧ s39.2 < (x1.length : Int)), .cell ((ad A1).add ((s39.2).toNat * 1)) (.int .i64 (rd x1 s39.2)), .is (Option.isSome A0 = true), .is (0 ≤ s39.2 ∧ s39.2 < (x0.length : Int)), .cell ((ad A0).add ((s39.2).toNat * 1)) (.int .i64 (rd x0 s39.2)), .is (decide ((rd x0 s39.2) ≤ (rd x1 s39.2)) = false)] (by kernel_rfl) (by kernel_rfl) hf48 (by kernel_rfl) ⟨q78.1, g49, q78.2, (decide_eq_false c50), q79.1, g49, q79.2, q80.1, g62, q80.2, (decide_eq_false c63), trivial⟩ fun a81 w83 hf82 hg84 => ?_
      have hm85 := hm45.still hg84
      refine thenN ?_
      refine condF hf82 (by kernel_rfl) ?_
      refine wp_skip ?_
      refine thenN ?_
      have q86 := (hm85.slAt 0 rfl).int s39.2 g62.1 g62.2
      have q87 := (hm85.slAt 1 rfl).int s39.2 g49.1 g49.2
      refine regQ [.int .i64 (rd x0 s39.2), .int .i64 (rd x1 s39.2)] [0, 1, 5, 6] [(0, .slice A0 x0.length c0), (1, .slice A1 x1.length c1), (5, .int .i64 (w64 ((w64 (s39.1 * (rd x0 s39.2))) + (rd x1 s39.2)))), (6, .int .i64 s39.2)] [.is (Option.isSome A0 = true), .is (0 ≤ s39.2 ∧ s39.2 < (x0.length : Int)), .cell ((ad A0).add ((s39.2).toNat * 1)) (.int .i64 (rd x0 s39.2)), .is (Option.isSome A1 = true), .is (0 ≤ s39.2 ∧ s39.2 < (x1.length : Int)), .cell ((ad A1).add ((s39.2).toNat * 1)) (.int .i64 (rd x1 s39.2))] (by kernel_rfl) (by kernel_rfl) hf82 (by kernel_rfl) ⟨q86.1, g62, q86.2, q87.1, g49, q87.2, trivial⟩ fun a88 w90 hf89 hg91 => ?_
      have hm92 := hm85.still hg91
      refine blkN ?_
      refine thenN ?_
      refine reg [] [0, 1, 5, 6] [(0, .slice A0 x0.length c0), (1, .slice A1 x1.length c1), (5, .int .i64 (w64 ((w64 (s39.1 * (rd x0 s39.2))) + (rd x1 s39.2)))), (6, .int .i64 (w64 (s39.2 + 1)))] [] hf89 (by kernel_rfl) trivial fun a93 hf94 => ?_
      exact ⟨((w64 ((w64 (s39.1 * (rd x0 s39.2))) + (rd x1 s39.2))), (w64 (s39.2 + 1))), H1, hf94.sel (l := [0, 1, 5, 6]) (by kernel_rfl), hm92.sel [0, 1] _ rfl (by kernel_rfl)⟩
    have q65 := (hm45.slAt 1 rfl).int s39.2 g49.1 g49.2
    have q66 := (hm45.slAt 1 rfl).int s39.2 g49.1 g49.2
    have q67 := (hm45.slAt 0 rfl).int s39.2 g62.1 g62.2
    refine regQ [.int .i64 (rd x1 s39.2), .bool false, .int .i64 (rd x1 s39.2), .int .i64 (rd x0 s39.2), .bool true] [0, 1, 5, 6, 38] [(0, .slice A0 x0.length c0), (1, .slice A1 x1.length c1), (5, .int .i64 s39.1), (6, .int .i64 s39.2), (38, .bool true)] [.is (Option.isSome A1 = true), .is (0 ≤ s39.2 ∧ s39.2 < (x1.length : Int)), .cell ((ad A1).add ((s39.2).toNat * 1)) (.int .i64 (rd x1 s39.2)), .is (decide ((rd x1 s39.2) < 0) = false), .is (Option.isSome A1 = true), .is (0 ≤ s39.2 ∧ s39.2 < (x1.length : Int)), .cell ((ad A1).add ((s39.2).toNat * 1)) (.int .i64 (rd x1 s39.2)), .is (Option.isSome A0 = true), .is (0 ≤ s39.2 ∧ s39.2 < (x0.length : Int)), .cell ((ad A0).add ((s39.2).toNat * 1)) (.int .i64 (rd x0 s39.2)), .is (decide ((rd x0 s39.2) ≤ (rd x1 s39.2)) = true)] (by kernel_rfl) (by kernel_rfl) hf48 (by kernel_rfl) ⟨q65.1, g49, q65.2, (decide_eq_false c50), q66.1, g49, q66.2, q67.1, g62, q67.2, (decide_eq_true c63), trivial⟩ fun a68 w70 hf69 hg71 => ?_
    have hm72 := hm45.still hg71
    refine thenN ?_
    refine condT hf69 (by kernel_rfl) ?_
    refine wp_seq ?_
    refine reg [] [4] [(4, .int .i64 (-1))] [] hf69 (by kernel_rfl) trivial fun a73 hf74 => ?_
    have hm75 := hm72.sel [] _ rfl (by kernel_rfl)
    refine thenN ?_
    refine wp_ret ?_
    refine thenR ?_
    refine blkR ?_
    refine thenR ?_
    refine thenR ?_
    refine .inr ⟨rfl, ?_⟩
    refine thenR ?_
    have hm76 : Mem [] M w0 [] w70 := hm75.sel [] _ rfl (by kernel_rfl)
    obtain rfl := Option.some.inj H1
    obtain rfl := Option.some.inj H0
    refine ret [] [.int .i64 (-1)] [] hf74 (by kernel_rfl) trivial ?_
    exact ⟨_, rfl, rfl, hm76⟩
  rintro a97 w98 ⟨yr40, rfl, hf99, hm100⟩
  refine thenN ?_
  refine wp_seq ?_
  refine reg [] [4] [(4, .int .i64 yr40.1)] [] hf99 (by kernel_rfl) trivial fun a101 hf102 => ?_
  have hm103 := hm100.sel [] _ rfl (by kernel_rfl)
  refine thenN ?_
  refine wp_ret ?_
  have hm104 : Mem [] M w0 [] w98 := hm103.sel [] _ rfl (by kernel_rfl)
  obtain rfl := Option.some.inj H0
  refine ret [] [.int .i64 yr40.1] [] hf102 (by kernel_rfl) trivial ?_
  exact ⟨_, rfl, rfl, hm104⟩

/-! ### backstitch/backstitchref1.under -/
noncomputable def ref1_under.l0 (x0 : (List Int)) (x1 : (List Int)) (s39 : (Int × (List Int))) : Step (Int × (List Int)) (Int × (List Int)) :=
  if s39.1 ≤ (x0.length : Int) then (if 0 ≤ (w64 ((x0.length : Int) - s39.1)) ∧ (w64 ((x0.length : Int) - s39.1)) < (x0.length : Int) then (if 1 < (rd x0 (w64 ((x0.length : Int) - s39.1))) then (if 0 ≤ (w64 ((x1.length : Int) - s39.1)) ∧ (w64 ((x1.length : Int) - s39.1)) < (x1.length : Int) then (if 0 ≤ (w64 ((x0.length : Int) - s39.1)) ∧ (w64 ((x0.length : Int) - s39.1)) < (s39.2.length : Int) then (.next ((w64 (s39.1 + 1)), (put s39.2 (w64 ((x0.length : Int) - s39.1)) (rd x1 (w64 ((x1.length : Int) - s39.1))))))
  else .bad)
  else .bad)
  else (.next ((w64 (s39.1 + 1)), s39.2)))
  else .bad)
  else (.done (s39.1, s39.2))
noncomputable def ref1_under.f (x0 : (List Int)) (x1 : (List Int)) : Option Int :=
  if 0 ≤ (x0.length : Int) ∧ (x0.length : Int) ≤ 1099511627776 then ((loop (ref1_under.l0 x0 x1) (1, (List.replicate ((x0.length : Int)).toNat (0 : Int)))).bind fun r40 =>
  (ref1_Index.f x0 r40.2).bind fun r80 =>
  some r80)
  else none
set_option maxRecDepth 100000 in
set_option maxHeartbeats 4000000 in
theorem ref1_under.calls (M : List (Option Nat)) (w0 : World) (x0 : (List Int)) (A0 : Option Addr) (n0 c0 : Nat) (e0 : n0 = x0.length) (x1 : (List Int)) (A1 : Option Addr) (n1 c1 : Nat) (e1 : n1 = x1.length) (hm0 : Mem [] M w0 [.sl (Kd.int .i64) A0 c0 x0, .sl (Kd.int .i64) A1 c1 x1] w0) (r : Int) (H0 : ref1_under.f x0 x1 = some r) :
    Calls Try.prog 38 [.slice A0 n0 c0, .slice A1 n1 c1].toArray w0 (fun x w' => ∃ v, x = .returned v ∧ v = .int .i64 r ∧ Mem [] M w0 [] w') := by
  subst e0
  subst e1
  unfold ref1_under.f at H0
  refine enter (n := 40) Try.func38 rfl rfl (by kernel_rfl) fun a0 (hf0 : Fr 40 a0 [(0, .slice A0 x0.length c0), (1, .slice A1 x1.length c1)]) => ?_
  refine wp_seq ?_
  refine reg [] [0, 1] [(0, .slice A0 x0.length c0), (1, .slice A1 x1.length c1)] [] hf0 (by kernel_rfl) trivial fun a21 hf22 => ?_
  refine thenN ?_
  refine wp_seq ?_
  obtain ⟨g23, H0⟩ := if_guard H0
  refine inReg ?_
  refine go 2 [] [0, 1, 8] [(0, .slice A0 x0.length c0), (1, .slice A1 x1.length c1), (8, .int .i64 (x0.length : Int))] [] hf22 (by kernel_rfl) trivial fun a24 hf25 => ?_
  refine listOf hf25 rfl (by kernel_rfl) (aMake (kd := (Kd.int .i64)) (x := 0) (E := 3) (L := (x0.length : Int)) (z := [.int .i64 0]) (sz := 1) (d := 9) hf25 (by kernel_rfl) (by kernel_rfl) rfl (fun _ _ => rfl) g23.1 g23.2 ?_)
  intro A26 c27 w28 a29 ho31 hb33 hg32 hf30
  have hm34 : Mem [] M w0 [.ow (Kd.int .i64) 3 A26 c27 (List.replicate ((x0.length : Int)).toNat (0 : Int)), .sl (Kd.int .i64) A0 c0 x0, .sl (Kd.int .i64) A1 c1 x1] w28 := hm0.own (ho31 _) hg32
  refine go 1 [] [0, 1, 5] [(0, .slice A0 x0.length c0), (1, .slice A1 x1.length c1), (5, .slice A26 ((List.replicate ((x0.length : Int)).toNat (0 : Int)).length) c27)] [] hf30 (by kernel_rfl) trivial fun a35 hf36 => ?_
  refine endL rfl ?_
  refine thenN ?_
  refine wp_seq ?_
  refine wp_seq ?_
  refine reg [] [0, 1, 5, 6] [(0, .slice A0 x0.length c0), (1, .slice A1 x1.length c1), (5, .slice A26 ((List.replicate ((x0.length : Int)).toNat (0 : Int)).length) c27), (6, .int .i64 1)] [] hf36 (by kernel_rfl) trivial fun a37 hf38 => ?_
  refine thenN ?_
  obtain ⟨r40, hr40, H0⟩ := ob_split H0
  refine wpBlock (Mid := fun (a : Act) (w : World) => Fr 40 a [(0, .slice A0 x0.length c0), (1, .slice A1 x1.length c1), (5, .slice A26 r40.2.length c27), (6, .int .i64 r40.1)] ∧ Mem [] M w0 [.ow (Kd.int .i64) 3 A26 c27 r40.2, .sl (Kd.int .i64) A0 c0 x0, .sl (Kd.int .i64) A1 c1 x1] w) ?_ ?_
  · refine wpLoop (ref1_under.l0 x0 x1) r40 (fun (s39 : (Int × (List Int))) (a : Act) (w : World) => Fr 40 a [(0, .slice A0 x0.length c0), (1, .slice A1 x1.length c1), (5, .slice A26 s39.2.length c27), (6, .int .i64 s39.1)] ∧ Mem [] M w0 [.ow (Kd.int .i64) 3 A26 c27 s39.2, .sl (Kd.int .i64) A0 c0 x0, .sl (Kd.int .i64) A1 c1 x1] w) (1, (List.replicate ((x0.length : Int)).toNat (0 : Int))) hr40 ⟨hf38.sel (l := [0, 1, 5, 6]) (by kernel_rfl), hm34.sel [0, 1, 2] _ rfl (by kernel_rfl)⟩ ?_
    rintro g41 s39 a42 w43 H1 ⟨hf44, hm45⟩
    unfold ref1_under.l0 at H1
    refine wp_seq ?_
    refine wp_seq ?_
    rcases ifS_split H1 with ⟨c46, H1⟩ | ⟨c46, H1⟩
    rotate_left
    · refine reg [.bool false] [0, 1, 5, 6, 13] [(0, .slice A0 x0.length c0), (1, .slice A1 x1.length c1), (5, .slice A26 s39.2.length c27), (6, .int .i64 s39.1), (13, .bool false)] [.is (decide (s39.1 ≤ (x0.length : Int)) = false)] hf44 (by kernel_rfl) ⟨(decide_eq_false c46), trivial⟩ fun a74 hf75 => ?_
      refine thenN ?_
      refine condF hf75 (by kernel_rfl) ?_
      refine wp_exit ?_
      refine thenE ?_
      refine thenE ?_
      obtain rfl := Option.some.inj H1
      exact .inl ⟨rfl, hf75.sel (l := [0, 1, 5, 6]) (by kernel_rfl), hm45.sel [0, 1, 2] _ rfl (by kernel_rfl)⟩
    refine reg [.bool true] [0, 1, 5, 6, 13] [(0, .slice A0 x0.length c0), (1, .slice A1 x1.length c1), (5, .slice A26 s39.2.length c27), (6, .int .i64 s39.1), (13, .bool true)] [.is (decide (s39.1 ≤ (x0.length : Int)) = true)] hf44 (by kernel_rfl) ⟨(decide_eq_true c46), trivial⟩ fun a47 hf48 => ?_
    refine thenN ?_
    refine condT hf48 (by kernel_rfl) ?_
    refine wp_skip ?_
    refine thenN ?_
    refine wp_seq ?_
    refine wp_block ?_
    refine wp_seq ?_
    obtain ⟨g49, H1⟩ := ifS_guard H1
    rcases ifS_split H1 with ⟨c50, H1⟩ | ⟨c50, H1⟩
    rotate_left
    · have q69 := (hm45.slAt 1 rfl).int (w64 ((x0.length : Int) - s39.1)) g49.1 g49.2
      refine reg [.int .i64 (rd x0 (w64 ((x0.length : Int) - s39.1))), .bool false] [0, 1, 5, 6, 23] [(0, .slice A0 x0.length c0), (1, .slice A1 x1.length c1), (5, .slice A26 s39.2.length c27), (6, .int .i64 s39.1), (23, .bool false)] [.is (Option.isSome A0 = true), .is (0 ≤ (w64 ((x0.length : Int) - s39.1)) ∧ (w64 ((x0.length : Int) - s39.1)) < (x0.length : Int)), .cell ((ad A0).add (((w64 ((x0.length : Int) - s39.1))).toNat * 1)) (.int .i64 (rd x0 (w64 ((x0.length : Int) - s39.1)))), .is (decide (1 < (rd x0 (w64 ((x0.length : Int) - s39.1)))) = false)] hf48 (by kernel_rfl) ⟨q69.1, g49, q69.2, (decide_eq_false c50), trivial⟩ fun a70 hf71 => ?_
      refine thenN ?_
      refine condF hf71 (by kernel_rfl) ?_
      refine wp_skip ?_
      refine blkN ?_
      refine thenN ?_
      refine reg [] [0, 1, 5, 6] [(0, .slice A0 x0.length c0), (1, .slice A1 x1.length c1), (5, .slice A26 s39.2.length c27), (6, .int .i64 (w64 (s39.1 + 1)))] [] hf71 (by kernel_rfl) trivial fun a72 hf73 => ?_
      exact ⟨((w64 (s39.1 + 1)), s39.2), H1, hf73.sel (l := [0, 1, 5, 6]) (by kernel_rfl), hm45.sel [0, 1, 2] _ rfl (by kernel_rfl)⟩
    have q51 := (hm45.slAt 1 rfl).int (w64 ((x0.length : Int) - s39.1)) g49.1 g49.2
    refine reg [.int .i64 (rd x0 (w64 ((x0.length : Int) - s39.1))), .bool true] [0, 1, 5, 6, 23] [(0, .slice A0 x0.length c0), (1, .slice A1 x1.length c1), (5, .slice A26 s39.2.length c27), (6, .int .i64 s39.1), (23, .bool true)] [.is (Option.isSome A0 = true), .is (0 ≤ (w64 ((x0.length : Int) - s39.1)) ∧ (w64 ((x0.length : Int) - s39.1)) < (x0.length : Int)), .cell ((ad A0).add (((w64 ((x0.length : Int) - s39.1))).toNat * 1)) (.int .i64 (rd x0 (w64 ((x0.length : Int) - s39.1)))), .is (decide (1 < (rd x0 (w64 ((x0.length : Int) - s39.1)))) = true)] hf48 (by kernel_rfl) ⟨q51.1, g49, q51.2, (decide_eq_true c50), trivial⟩ fun a52 hf53 => ?_
    refine thenN ?_
    refine condT hf53 (by kernel_rfl) ?_
    obtain ⟨g54, H1⟩ := ifS_guard H1
    obtain ⟨g55, H1⟩ := ifS_guard H1
    have q56 := (hm45.slAt 2 rfl).int (w64 ((x1.length : Int) - s39.1)) g54.1 g54.2
    have q57 := (hm45.owAt 0 rfl).int (w64 ((x0.length : Int) - s39.1)) g55.1 g55.2
    refine inReg ?_
    refine go 13 [.int .i64 (rd x1 (w64 ((x1.length : Int) - s39.1)))] [0, 1, 5, 6, 35, 36] [(0, .slice A0 x0.length c0), (1, .slice A1 x1.length c1), (5, .slice A26 s39.2.length c27), (6, .int .i64 s39.1), (35, .int .i64 (rd x1 (w64 ((x1.length : Int) - s39.1)))), (36, .pointer (some ((ad A26).add (((w64 ((x0.length : Int) - s39.1))).toNat * 1))))] [.is (Option.isSome A1 = true), .is (0 ≤ (w64 ((x1.length : Int) - s39.1)) ∧ (w64 ((x1.length : Int) - s39.1)) < (x1.length : Int)), .cell ((ad A1).add (((w64 ((x1.length : Int) - s39.1))).toNat * 1)) (.int .i64 (rd x1 (w64 ((x1.length : Int) - s39.1)))), .is (Option.isSome A26 = true), .is (0 ≤ (w64 ((x0.length : Int) - s39.1)) ∧ (w64 ((x0.length : Int) - s39.1)) < (s39.2.length : Int))] hf53 (by kernel_rfl) ⟨q56.1, g54, q56.2, q57.1, g55, trivial⟩ fun a58 hf59 => ?_
    refine listOf hf59 rfl (by kernel_rfl) (aStoreO (kd := (Kd.int .i64)) (base := 0) (E := 3) (A := A26) (c := c27) (xs := s39.2) (i := (w64 ((x0.length : Int) - s39.1))) (x := (rd x1 (w64 ((x1.length : Int) - s39.1)))) (us := [.int .i64 (rd x1 (w64 ((x1.length : Int) - s39.1)))]) (sz := 1) hf59 (by kernel_rfl) rfl (by kernel_rfl) (hm45.at 0 rfl) rfl g55.1 g55.2 ?_)
    intro w60 hx61 hg62
    have hm63 := hm45.setOwn 0 _ rfl rfl hx61 hg62 (.inl rfl)
    refine endL rfl ?_
    refine blkN ?_
    refine thenN ?_
    refine reg [] [0, 1, 5, 6] [(0, .slice A0 x0.length c0), (1, .slice A1 x1.length c1), (5, .slice A26 s39.2.length c27), (6, .int .i64 (w64 (s39.1 + 1)))] [] hf59 (by kernel_rfl) trivial fun a65 hf66 => ?_
    have hf67 : Fr 40 a65 [(0, .slice A0 x0.length c0), (1, .slice A1 x1.length c1), (5, .slice A26 s39.2.length c27), (6, .int .i64 (w64 (s39.1 + 1)))] := hf66.sel (l := [0, 1, 5, 6]) (by kernel_rfl)
    have hm68 : Mem [] M w0 [.ow (Kd.int .i64) 3 A26 c27 (put s39.2 (w64 ((x0.length : Int) - s39.1)) (rd x1 (w64 ((x1.length : Int) - s39.1)))), .sl (Kd.int .i64) A0 c0 x0, .sl (Kd.int .i64) A1 c1 x1] w60 := hm63.sel [0, 1, 2] _ rfl (by kernel_rfl)
    exact ⟨((w64 (s39.1 + 1)), (put s39.2 (w64 ((x0.length : Int) - s39.1)) (rd x1 (w64 ((x1.length : Int) - s39.1))))), H1, (by simpa only [put_length, List.length_nil] using hf67), (by simpa only [put_length, List.length_nil] using hm68)⟩
  rintro a76 w77 ⟨hf78, hm79⟩
  refine thenN ?_
  refine wp_seq ?_
  obtain ⟨r80, hr80, H0⟩ := ob_split H0
  refine inReg ?_
  refine go 2 [] [37, 38] [(37, .slice A0 x0.length c0), (38, .slice A26 r40.2.length c27)] [] hf78 (by kernel_rfl) trivial fun a81 hf82 => ?_
  have hm83 : Mem [] M w0 [.sl (Kd.int .i64) A26 c27 r40.2, .sl (Kd.int .i64) A0 c0 x0, .sl (Kd.int .i64) A1 c1 x1] w77 := hm79.seal 0 _ rfl rfl
  refine listOf hf82 rfl (by kernel_rfl) (aCall (fid := 58) (args := [.slice A0 x0.length c0, .slice A26 r40.2.length c27]) (d := 39) hf82 (by kernel_rfl) (by kernel_rfl) callable58 (ref1_Index.calls _ _ x0 A0 x0.length c0 rfl r40.2 A26 r40.2.length c27 rfl (hm83.give [1, 0] [.sl (Kd.int .i64) A0 c0 x0, .sl (Kd.int .i64) A26 c27 r40.2] rfl rfl) r80 hr80) ?_)
  rintro _ w84 a85 ⟨rfl, hk87⟩ hf86
  have hm88 := hm79.still hk87.cum.none
  refine go 1 [] [4] [(4, .int .i64 r80)] [] hf86 (by kernel_rfl) trivial fun a89 hf90 => ?_
  refine endL rfl ?_
  have hm91 := hm88.sel [] _ rfl (by kernel_rfl)
  refine thenN ?_
  refine wp_ret ?_
  have hm92 : Mem [] M w0 [] w84 := hm91.sel [] _ rfl (by kernel_rfl)
  obtain rfl := Option.some.inj H0
  refine ret [] [.int .i64 r80] [] hf90 (by kernel_rfl) trivial ?_
  exact ⟨_, rfl, rfl, hm92⟩
end Go.Proofs.Ytkcgiolledmbnac
