/- Printed by gen.py. -/
import Derived.Test.YteaoijahdinciaaF16
import Derived.Test.YteaoijahdinciaaF9
namespace Go.Proofs.Yteaoijahdinciaa
open Go Go.RowKit
set_option linter.unusedSimpArgs false
set_option linter.unusedVariables false
set_option linter.unnecessarySimpa false
/-! ### backstitch/backstitchref1.Place -/
noncomputable def ref1_Place.l0 (x0 : (List Int)) (s71 : (Int × Int × (List Int))) : Step (Int × Int × (List Int)) (Int × Int × (List Int)) :=
  if 0 ≤ s71.2.1 then (if 0 ≤ s71.2.1 ∧ s71.2.1 < (x0.length : Int) then (if (rd x0 s71.2.1) ≠ 0 then (if 0 ≤ s71.2.1 ∧ s71.2.1 < (s71.2.2.length : Int) then (.next ((w64 (Int.tdiv s71.1 (rd x0 s71.2.1))), (w64 (s71.2.1 - 1)), (put s71.2.2 s71.2.1 (Int.tmod s71.1 (rd x0 s71.2.1)))))
  else .bad)
  else .bad)
  else .bad)
  else (.done (s71.1, s71.2.1, s71.2.2))
noncomputable def ref1_Place.f (x0 : (List Int)) (x1 : Int) : Option (List Int) :=
  (ref1_Size.f x0).bind fun r23 =>
  if r23.2 = 0 then (if x1 < 0 then (some ([] : (List Int)))
  else (if r23.1 ≤ x1 then (some ([] : (List Int)))
  else (if 0 ≤ (x0.length : Int) ∧ (x0.length : Int) ≤ 1099511627776 then ((loop (ref1_Place.l0 x0) (x1, (w64 ((x0.length : Int) - 1)), (List.replicate ((x0.length : Int)).toNat (0 : Int)))).bind fun r72 =>
  some r72.2.2)
  else none)))
  else (some ([] : (List Int)))
set_option maxRecDepth 100000 in
set_option maxHeartbeats 4000000 in
theorem ref1_Place.calls (M : List (Option Nat)) (w0 : World) (x0 : (List Int)) (A0 : Option Addr) (n0 c0 : Nat) (e0 : n0 = x0.length) (x1 : Int) (hm0 : Mem [] M w0 [.sl (Kd.int .i64) A0 c0 x0] w0) (r : (List Int)) (H0 : ref1_Place.f x0 x1 = some r) :
    Calls Try.prog 55 [.slice A0 n0 c0, .int .i64 x1].toArray w0 (fun x w' => ∃ v, x = .returned v ∧ ∃ Ar0 cr0, v = .slice Ar0 r.length cr0 ∧ Mem [] M w0 [.ow (Kd.int .i64) 3 Ar0 cr0 r] w') := by
  subst e0
  unfold ref1_Place.f at H0
  refine enter (n := 51) Try.func55 rfl rfl (by kernel_rfl) fun a0 (hf0 : Fr 51 a0 [(0, .slice A0 x0.length c0), (1, .int .i64 x1)]) => ?_
  refine wp_seq ?_
  refine rg [] [(0, .slice A0 x0.length c0), (1, vi x1)] hf0 ot fun a21 hf22 => ?_
  refine thenN ?_
  refine wp_seq ?_
  obtain ⟨r23, hr23, H0⟩ := ob_split H0
  refine inReg ?_
  refine gg 1 [] [(0, .slice A0 x0.length c0), (1, vi x1), (10, .slice A0 x0.length c0)] hf22 ot fun a24 hf25 => ?_
  refine lo hf25 rfl (cl 11 hf25 callable40 (ref1_Size.calls _ _ _ _ _ _ rfl (hm0.give [0] [.sl (Kd.int .i64) A0 c0 x0] rfl rfl) r23 hr23) ?_)
  rintro _ w26 a27 ⟨rfl, hk29⟩ hf28
  have hm30 := hm0.still hk29.cum.none
  refine gg 5 [] [(0, .slice A0 x0.length c0), (1, vi x1), (5, vi r23.1), (6, vi r23.2)] hf28 ot fun a31 hf32 => ?_
  refine endL rfl ?_
  refine thenN ?_
  refine wp_seq ?_
  refine wp_seq ?_
  rcases if_split H0 with ⟨c33, H0⟩ | ⟨c33, H0⟩
  rotate_left
  · refine rg [.bool true] [(0, .slice A0 x0.length c0), (1, vi x1), (24, .bool true)] hf32 (oi (neT c33) ot) fun a110 hf111 => ?_
    refine thenN ?_
    refine cT hf111 ?_
    refine wp_seq ?_
    refine rg [] [(4, .slice none 0 0)] hf111 ot fun a112 hf113 => ?_
    have hm114 := hm30.se [] _ rfl
    refine thenN ?_
    refine wp_ret ?_
    refine thenR ?_
    have hm115 := hm114.nilOw (Kd.int .i64) 3
    have hm116 : Mem [] M w0 [.ow (Kd.int .i64) 3 none 0 ([] : (List Int))] w26 := hm115.se [0] _ rfl
    obtain rfl := Option.some.inj H0
    refine rt [] [.slice none 0 0] hf113 ot ?_
    exact ⟨_, rfl, none, 0, rfl, hm116⟩
  rcases if_split H0 with ⟨c34, H0⟩ | ⟨c34, H0⟩
  · refine rg (ob := [.is (((r23.2 : Int) != 0) = false), .is (decide (x1 < 0) = true)]) [.bool false, .bool true] [(0, .slice A0 x0.length c0), (1, vi x1), (24, .bool true)] hf32 ⟨(neF c33), (decide_eq_true c34), trivial⟩ fun a35 hf36 => ?_
    refine thenN ?_
    refine cT hf36 ?_
    refine wp_seq ?_
    refine rg [] [(4, .slice none 0 0)] hf36 ot fun a37 hf38 => ?_
    have hm39 := hm30.se [] _ rfl
    refine thenN ?_
    refine wp_ret ?_
    refine thenR ?_
    have hm40 := hm39.nilOw (Kd.int .i64) 3
    have hm41 : Mem [] M w0 [.ow (Kd.int .i64) 3 none 0 ([] : (List Int))] w26 := hm40.se [0] _ rfl
    obtain rfl := Option.some.inj H0
    refine rt [] [.slice none 0 0] hf38 ot ?_
    exact ⟨_, rfl, none, 0, rfl, hm41⟩
  rcases if_split H0 with ⟨c43, H0⟩ | ⟨c43, H0⟩
  · refine rg (ob := [.is (((r23.2 : Int) != 0) = false), .is (decide (x1 < 0) = false), .is (decide (r23.1 ≤ x1) = true)]) [.bool false, .bool false, .bool true] [(0, .slice A0 x0.length c0), (1, vi x1), (24, .bool true)] hf32 ⟨(neF c33), (decide_eq_false c34), (decide_eq_true c43), trivial⟩ fun a44 hf45 => ?_
    refine thenN ?_
    refine cT hf45 ?_
    refine wp_seq ?_
    refine rg [] [(4, .slice none 0 0)] hf45 ot fun a46 hf47 => ?_
    have hm48 := hm30.se [] _ rfl
    refine thenN ?_
    refine wp_ret ?_
    refine thenR ?_
    have hm49 := hm48.nilOw (Kd.int .i64) 3
    have hm50 : Mem [] M w0 [.ow (Kd.int .i64) 3 none 0 ([] : (List Int))] w26 := hm49.se [0] _ rfl
    obtain rfl := Option.some.inj H0
    refine rt [] [.slice none 0 0] hf47 ot ?_
    exact ⟨_, rfl, none, 0, rfl, hm50⟩
  refine rg (ob := [.is (((r23.2 : Int) != 0) = false), .is (decide (x1 < 0) = false), .is (decide (r23.1 ≤ x1) = false)]) [.bool false, .bool false, .bool false] [(0, .slice A0 x0.length c0), (1, vi x1), (24, .bool false)] hf32 ⟨(neF c33), (decide_eq_false c34), (decide_eq_false c43), trivial⟩ fun a52 hf53 => ?_
  refine thenN ?_
  refine cF hf53 ?_
  refine wp_skip ?_
  refine thenN ?_
  refine wp_seq ?_
  obtain ⟨g54, H0⟩ := if_guard H0
  refine inReg ?_
  refine gg 2 [] [(0, .slice A0 x0.length c0), (1, vi x1), (26, vi (x0.length : Int))] hf53 ot fun a55 hf56 => ?_
  refine lo hf56 rfl (aMake (kd := (Kd.int .i64)) (x := 0) (E := 3) (L := (x0.length : Int)) (z := [.int .i64 0]) (sz := 1) (d := 27) hf56 (by kernel_rfl) (by kernel_rfl) rfl (fun _ _ => rfl) g54.1 g54.2 ?_)
  intro A57 c58 w59 a60 ho62 hb65 hg63 hf61
  have hm66 : Mem [] M w0 [.ow (Kd.int .i64) 3 A57 c58 (List.replicate ((x0.length : Int)).toNat (0 : Int)), .sl (Kd.int .i64) A0 c0 x0] w59 := hm30.own (ho62 _) hg63
  refine gg 1 [] [(0, .slice A0 x0.length c0), (1, vi x1), (7, .slice A57 ((List.replicate ((x0.length : Int)).toNat (0 : Int)).length) c58)] hf61 ot fun a67 hf68 => ?_
  refine endL rfl ?_
  refine thenN ?_
  refine wp_seq ?_
  refine wp_seq ?_
  refine rg [] [(0, .slice A0 x0.length c0), (1, vi x1), (7, .slice A57 ((List.replicate ((x0.length : Int)).toNat (0 : Int)).length) c58), (8, vi (w64 ((x0.length : Int) - 1)))] hf68 ot fun a69 hf70 => ?_
  refine thenN ?_
  obtain ⟨r72, hr72, H0⟩ := ob_split H0
  refine wpBlock (Mid := fun (a : Act) (w : World) => Fr 51 a [(0, .slice A0 x0.length c0), (1, .int .i64 r72.1), (7, .slice A57 r72.2.2.length c58), (8, .int .i64 r72.2.1)] ∧ Mem [] M w0 [.ow (Kd.int .i64) 3 A57 c58 r72.2.2, .sl (Kd.int .i64) A0 c0 x0] w) ?_ ?_
  · refine wpLoop (ref1_Place.l0 x0) r72 (fun (s71 : (Int × Int × (List Int))) (a : Act) (w : World) => Fr 51 a [(0, .slice A0 x0.length c0), (1, .int .i64 s71.1), (7, .slice A57 s71.2.2.length c58), (8, .int .i64 s71.2.1)] ∧ Mem [] M w0 [.ow (Kd.int .i64) 3 A57 c58 s71.2.2, .sl (Kd.int .i64) A0 c0 x0] w) (x1, (w64 ((x0.length : Int) - 1)), (List.replicate ((x0.length : Int)).toNat (0 : Int))) hr72 ⟨hf70.se [0, 1, 7, 8], hm66.se [0, 1] _ rfl⟩ ?_
    rintro g73 s71 a74 w75 H1 ⟨hf76, hm77⟩
    unfold ref1_Place.l0 at H1
    refine wp_seq ?_
    refine wp_seq ?_
    rcases ifS_split H1 with ⟨c78, H1⟩ | ⟨c78, H1⟩
    rotate_left
    · refine rg (ob := [.is (decide (0 ≤ s71.2.1) = false)]) [.bool false] [(0, .slice A0 x0.length c0), (1, vi s71.1), (7, .slice A57 s71.2.2.length c58), (8, vi s71.2.1), (32, .bool false)] hf76 ⟨(decide_eq_false c78), trivial⟩ fun a99 hf100 => ?_
      refine thenN ?_
      refine cF hf100 ?_
      refine wp_exit ?_
      refine thenE ?_
      refine thenE ?_
      obtain rfl := Option.some.inj H1
      exact .inl ⟨rfl, hf100.se [0, 1, 7, 8], hm77.se [0, 1] _ rfl⟩
    refine rg (ob := [.is (decide (0 ≤ s71.2.1) = true)]) [.bool true] [(0, .slice A0 x0.length c0), (1, vi s71.1), (7, .slice A57 s71.2.2.length c58), (8, vi s71.2.1), (32, .bool true)] hf76 ⟨(decide_eq_true c78), trivial⟩ fun a79 hf80 => ?_
    refine thenN ?_
    refine cT hf80 ?_
    refine wp_skip ?_
    refine thenN ?_
    refine wp_seq ?_
    refine wp_block ?_
    refine wp_seq ?_
    obtain ⟨g81, H1⟩ := ifS_guard H1
    obtain ⟨g82, H1⟩ := ifS_guard H1
    obtain ⟨g83, H1⟩ := ifS_guard H1
    have q84 := (hm77.slAt 1 rfl).int s71.2.1 g81.1 g81.2
    have q85 := (hm77.owAt 0 rfl).int s71.2.1 g83.1 g83.2
    refine inReg ?_
    refine gg 9 [.int .i64 (rd x0 s71.2.1)] [(0, .slice A0 x0.length c0), (1, vi s71.1), (7, .slice A57 s71.2.2.length c58), (8, vi s71.2.1), (42, vi (Int.tmod s71.1 (rd x0 s71.2.1))), (43, .pointer (some ((ad A57).add ((s71.2.1).toNat * 1))))] hf80 (oi q84.1 (oi g81 (oc q84.2 (oi g82 (oi q85.1 (oi g83 ot)))))) fun a86 hf87 => ?_
    refine lo hf87 rfl (so (i := s71.2.1) (x := (Int.tmod s71.1 (rd x0 s71.2.1))) (us := [.int .i64 (Int.tmod s71.1 (rd x0 s71.2.1))]) (sz := 1) hf87 (hm77.at 0 rfl) rfl g83.1 g83.2 ?_)
    intro w88 hx89 hg90
    have hm91 := hm77.setOwn 0 _ rfl rfl hx89 hg90 (.inl rfl)
    refine endL rfl ?_
    refine thenN ?_
    have q92 := (hm91.slAt 1 rfl).int s71.2.1 g81.1 g81.2
    refine rg [.int .i64 (rd x0 s71.2.1)] [(0, .slice A0 x0.length c0), (1, vi (w64 (Int.tdiv s71.1 (rd x0 s71.2.1)))), (7, .slice A57 s71.2.2.length c58), (8, vi s71.2.1)] hf87 (oi q92.1 (oi g81 (oc q92.2 (oi g82 ot)))) fun a93 hf94 => ?_
    refine blkN ?_
    refine thenN ?_
    refine rg [] [(0, .slice A0 x0.length c0), (1, vi (w64 (Int.tdiv s71.1 (rd x0 s71.2.1)))), (7, .slice A57 s71.2.2.length c58), (8, vi (w64 (s71.2.1 - 1)))] hf94 ot fun a95 hf96 => ?_
    have hf97 : Fr 51 a95 [(0, .slice A0 x0.length c0), (1, .int .i64 (w64 (Int.tdiv s71.1 (rd x0 s71.2.1)))), (7, .slice A57 s71.2.2.length c58), (8, .int .i64 (w64 (s71.2.1 - 1)))] := hf96.se [0, 1, 7, 8]
    have hm98 : Mem [] M w0 [.ow (Kd.int .i64) 3 A57 c58 (put s71.2.2 s71.2.1 (Int.tmod s71.1 (rd x0 s71.2.1))), .sl (Kd.int .i64) A0 c0 x0] w88 := hm91.se [0, 1] _ rfl
    exact ⟨((w64 (Int.tdiv s71.1 (rd x0 s71.2.1))), (w64 (s71.2.1 - 1)), (put s71.2.2 s71.2.1 (Int.tmod s71.1 (rd x0 s71.2.1)))), H1, (by simpa only [put_length, List.length_nil] using hf97), (by simpa only [put_length, List.length_nil] using hm98)⟩
  rintro a101 w102 ⟨hf103, hm104⟩
  refine thenN ?_
  refine wp_seq ?_
  refine rg [] [(4, .slice A57 r72.2.2.length c58)] hf103 ot fun a105 hf106 => ?_
  have hm107 := hm104.se [0] _ rfl
  refine thenN ?_
  refine wp_ret ?_
  have hm108 : Mem [] M w0 [.ow (Kd.int .i64) 3 A57 c58 r72.2.2] w102 := hm107.se [0] _ rfl
  obtain rfl := Option.some.inj H0
  refine rt [] [.slice A57 r72.2.2.length c58] hf106 ot ?_
  exact ⟨_, rfl, A57, c58, rfl, hm108⟩

/-! ### backstitch/backstitchref1.Index -/
noncomputable def ref1_Index.l0 (x0 : (List Int)) (x1 : (List Int)) (s39 : (Int × Int)) : Step (Int × Int) (Out2 (Int × Int) Int) :=
  if s39.2 < (x0.length : Int) then (if 0 ≤ s39.2 ∧ s39.2 < (x1.length : Int) then (if (rd x1 s39.2) < 0 then (.done (.ret (-1)))
  else (if 0 ≤ s39.2 ∧ s39.2 < (x0.length : Int) then (if (rd x0 s39.2) ≤ (rd x1 s39.2) then (.done (.ret (-1)))
  else (.next ((w64 ((w64 (s39.1 * (rd x0 s39.2))) + (rd x1 s39.2))), (w64 (s39.2 + 1)))))
  else .bad))
  else .bad)
  else (.done (.go (s39.1, s39.2)))
noncomputable def ref1_Index.f (x0 : (List Int)) (x1 : (List Int)) : Option Int :=
  (ref1_May.f x0).bind fun r23 =>
  if r23 = true then (if (x1.length : Int) = (x0.length : Int) then ((loop (ref1_Index.l0 x0 x1) (0, 0)).bind fun r40 =>
  r40.on (fun yr40 =>
  some yr40.1) (fun y => some y))
  else (some (-1)))
  else (some (-1))
set_option maxRecDepth 100000 in
set_option maxHeartbeats 4000000 in
theorem ref1_Index.calls (M : List (Option Nat)) (w0 : World) (x0 : (List Int)) (A0 : Option Addr) (n0 c0 : Nat) (e0 : n0 = x0.length) (x1 : (List Int)) (A1 : Option Addr) (n1 c1 : Nat) (e1 : n1 = x1.length) (hm0 : Mem [] M w0 [.sl (Kd.int .i64) A0 c0 x0, .sl (Kd.int .i64) A1 c1 x1] w0) (r : Int) (H0 : ref1_Index.f x0 x1 = some r) :
    Calls Try.prog 70 [.slice A0 n0 c0, .slice A1 n1 c1].toArray w0 (fun x w' => ∃ v, x = .returned v ∧ v = .int .i64 r ∧ Mem [] M w0 [] w') := by
  subst e0
  subst e1
  unfold ref1_Index.f at H0
  refine enter (n := 51) Try.func70 rfl rfl (by kernel_rfl) fun a0 (hf0 : Fr 51 a0 [(0, .slice A0 x0.length c0), (1, .slice A1 x1.length c1)]) => ?_
  refine wp_seq ?_
  refine rg [] [(0, .slice A0 x0.length c0), (1, .slice A1 x1.length c1)] hf0 ot fun a21 hf22 => ?_
  refine thenN ?_
  refine wp_seq ?_
  refine wp_seq ?_
  obtain ⟨r23, hr23, H0⟩ := ob_split H0
  rcases ifb_split H0 with ⟨c24, H0⟩ | ⟨c24, H0⟩
  rotate_left
  · refine inReg ?_
    refine gg 1 [] [(0, .slice A0 x0.length c0), (1, .slice A1 x1.length c1), (7, .slice A0 x0.length c0)] hf22 ot fun a120 hf121 => ?_
    refine lo hf121 rfl (cl 8 hf121 callable69 (ref1_May.calls _ _ _ _ _ _ rfl (hm0.give [0] [.sl (Kd.int .i64) A0 c0 x0] rfl rfl) r23 hr23) ?_)
    rintro _ w122 a123 ⟨rfl, hk125⟩ hf124
    have hm126 := hm0.still hk125.cum.none
    rw [c24] at hf124
    refine gg 8 [] [(0, .slice A0 x0.length c0), (1, .slice A1 x1.length c1), (16, .bool true)] hf124 ot fun a127 hf128 => ?_
    refine endL rfl ?_
    refine thenN ?_
    refine cT hf128 ?_
    refine wp_seq ?_
    refine rg [] [(4, vi (-1))] hf128 ot fun a129 hf130 => ?_
    have hm131 := hm126.se [] _ rfl
    refine thenN ?_
    refine wp_ret ?_
    refine thenR ?_
    have hm132 : Mem [] M w0 [] w122 := hm131.se [] _ rfl
    obtain rfl := Option.some.inj H0
    refine rt [] [.int .i64 (-1)] hf130 ot ?_
    exact ⟨_, rfl, rfl, hm132⟩
  rcases if_split H0 with ⟨c25, H0⟩ | ⟨c25, H0⟩
  rotate_left
  · refine inReg ?_
    refine gg 1 [] [(0, .slice A0 x0.length c0), (1, .slice A1 x1.length c1), (7, .slice A0 x0.length c0)] hf22 ot fun a106 hf107 => ?_
    refine lo hf107 rfl (cl 8 hf107 callable69 (ref1_May.calls _ _ _ _ _ _ rfl (hm0.give [0] [.sl (Kd.int .i64) A0 c0 x0] rfl rfl) r23 hr23) ?_)
    rintro _ w108 a109 ⟨rfl, hk111⟩ hf110
    have hm112 := hm0.still hk111.cum.none
    rw [c24] at hf110
    refine gg 8 [.bool true] [(0, .slice A0 x0.length c0), (1, .slice A1 x1.length c1), (16, .bool true)] hf110 (oi (neT c25) ot) fun a113 hf114 => ?_
    refine endL rfl ?_
    refine thenN ?_
    refine cT hf114 ?_
    refine wp_seq ?_
    refine rg [] [(4, vi (-1))] hf114 ot fun a115 hf116 => ?_
    have hm117 := hm112.se [] _ rfl
    refine thenN ?_
    refine wp_ret ?_
    refine thenR ?_
    have hm118 : Mem [] M w0 [] w108 := hm117.se [] _ rfl
    obtain rfl := Option.some.inj H0
    refine rt [] [.int .i64 (-1)] hf116 ot ?_
    exact ⟨_, rfl, rfl, hm118⟩
  refine inReg ?_
  refine gg 1 [] [(0, .slice A0 x0.length c0), (1, .slice A1 x1.length c1), (7, .slice A0 x0.length c0)] hf22 ot fun a26 hf27 => ?_
  refine lo hf27 rfl (cl 8 hf27 callable69 (ref1_May.calls _ _ _ _ _ _ rfl (hm0.give [0] [.sl (Kd.int .i64) A0 c0 x0] rfl rfl) r23 hr23) ?_)
  rintro _ w28 a29 ⟨rfl, hk31⟩ hf30
  have hm32 := hm0.still hk31.cum.none
  rw [c24] at hf30
  refine gg 8 [.bool false] [(0, .slice A0 x0.length c0), (1, .slice A1 x1.length c1), (16, .bool false)] hf30 (oi (neF c25) ot) fun a33 hf34 => ?_
  refine endL rfl ?_
  refine thenN ?_
  refine cF hf34 ?_
  refine wp_skip ?_
  refine thenN ?_
  refine wp_seq ?_
  refine rg [] [(0, .slice A0 x0.length c0), (1, .slice A1 x1.length c1), (5, vi 0)] hf34 ot fun a35 hf36 => ?_
  refine thenN ?_
  refine wp_seq ?_
  refine wp_seq ?_
  refine rg [] [(0, .slice A0 x0.length c0), (1, .slice A1 x1.length c1), (5, vi 0), (6, vi 0)] hf36 ot fun a37 hf38 => ?_
  refine thenN ?_
  obtain ⟨r40, hr40, H0⟩ := ob_split H0
  refine wpBlock (Mid := fun (a : Act) (w : World) => ∃ yr40 : (Int × Int), r40 = .go yr40 ∧ Fr 51 a [(0, .slice A0 x0.length c0), (1, .slice A1 x1.length c1), (5, .int .i64 yr40.1), (6, .int .i64 yr40.2)] ∧ Mem [] M w0 [.sl (Kd.int .i64) A0 c0 x0, .sl (Kd.int .i64) A1 c1 x1] w) ?_ ?_
  · refine wpLoop (ref1_Index.l0 x0 x1) r40 (fun (s39 : (Int × Int)) (a : Act) (w : World) => Fr 51 a [(0, .slice A0 x0.length c0), (1, .slice A1 x1.length c1), (5, .int .i64 s39.1), (6, .int .i64 s39.2)] ∧ Mem [] M w0 [.sl (Kd.int .i64) A0 c0 x0, .sl (Kd.int .i64) A1 c1 x1] w) (0, 0) hr40 ⟨hf38.se [0, 1, 5, 6], hm32.se [0, 1] _ rfl⟩ ?_
    rintro g41 s39 a42 w43 H1 ⟨hf44, hm45⟩
    unfold ref1_Index.l0 at H1
    refine wp_seq ?_
    refine wp_seq ?_
    rcases ifS_split H1 with ⟨c46, H1⟩ | ⟨c46, H1⟩
    rotate_left
    · refine rg (ob := [.is (decide (s39.2 < (x0.length : Int)) = false)]) [.bool false] [(0, .slice A0 x0.length c0), (1, .slice A1 x1.length c1), (5, vi s39.1), (6, vi s39.2), (20, .bool false)] hf44 ⟨(decide_eq_false c46), trivial⟩ fun a95 hf96 => ?_
      refine thenN ?_
      refine cF hf96 ?_
      refine wp_exit ?_
      refine thenE ?_
      refine thenE ?_
      obtain rfl := Option.some.inj H1
      exact .inl ⟨rfl, (s39.1, s39.2), rfl, hf96.se [0, 1, 5, 6], hm45.se [0, 1] _ rfl⟩
    refine rg (ob := [.is (decide (s39.2 < (x0.length : Int)) = true)]) [.bool true] [(0, .slice A0 x0.length c0), (1, .slice A1 x1.length c1), (5, vi s39.1), (6, vi s39.2), (20, .bool true)] hf44 ⟨(decide_eq_true c46), trivial⟩ fun a47 hf48 => ?_
    refine thenN ?_
    refine cT hf48 ?_
    refine wp_skip ?_
    refine thenN ?_
    refine wp_seq ?_
    refine wp_block ?_
    refine wp_seq ?_
    refine wp_seq ?_
    obtain ⟨g49, H1⟩ := ifS_guard H1
    rcases ifS_split H1 with ⟨c50, H1⟩ | ⟨c50, H1⟩
    · have q51 := (hm45.slAt 1 rfl).int s39.2 g49.1 g49.2
      refine rq (ob := [.is (Option.isSome A1 = true), .is (0 ≤ s39.2 ∧ s39.2 < (x1.length : Int)), .cell ((ad A1).add ((s39.2).toNat * 1)) (.int .i64 (rd x1 s39.2)), .is (decide ((rd x1 s39.2) < 0) = true)]) [.int .i64 (rd x1 s39.2), .bool true] [(0, .slice A0 x0.length c0), (1, .slice A1 x1.length c1), (5, vi s39.1), (6, vi s39.2), (38, .bool true)] hf48 ⟨q51.1, g49, q51.2, (decide_eq_true c50), trivial⟩ fun a52 w54 hf53 hg55 => ?_
      have hm56 := hm45.still hg55
      refine thenN ?_
      refine cT hf53 ?_
      refine wp_seq ?_
      refine rg [] [(4, vi (-1))] hf53 ot fun a57 hf58 => ?_
      have hm59 := hm56.se [] _ rfl
      refine thenN ?_
      refine wp_ret ?_
      refine thenR ?_
      refine blkR ?_
      refine thenR ?_
      refine thenR ?_
      refine .inr ⟨rfl, ?_⟩
      refine thenR ?_
      have hm60 : Mem [] M w0 [] w54 := hm59.se [] _ rfl
      obtain rfl := Option.some.inj H1
      obtain rfl := Option.some.inj H0
      refine rt [] [.int .i64 (-1)] hf58 ot ?_
      exact ⟨_, rfl, rfl, hm60⟩
    obtain ⟨g62, H1⟩ := ifS_guard H1
    rcases ifS_split H1 with ⟨c63, H1⟩ | ⟨c63, H1⟩
    rotate_left
    · have q78 := (hm45.slAt 1 rfl).int s39.2 g49.1 g49.2
      have q79 := (hm45.slAt 1 rfl).int s39.2 g49.1 g49.2
      have q80 := (hm45.slAt 0 rfl).int s39.2 g62.1 g62.2
      refine rq (ob := [.is (Option.isSome A1 = true), .is (0 ≤ s39.2 ∧ s39.2 < (x1.length : Int)), .cell ((ad A1).add ((s39.2).toNat * 1)) (.int .i64 (rd x1 s39.2)), .is (decide ((rd x1 s39.2) < 0) = false), .is (Option.isSome A1 = true), .is (0 ≤ s39.2 ∧ s39.2 < (x1.length : Int)), .cell ((ad A1).add ((s39.2).toNat * 1)) (.int .i64 (rd x1 s39.2)), .is (Option.isSome A0 = true), .is (0 ≤ s39.2 ∧ s39.2 < (x0.length : Int)), .cell ((ad A0).add ((s39.2).toNat * 1)) (.int .i64 (rd x0 s39.2)), .is (decide ((rd x0 s39.2) ≤ (rd x1 s39.2)) = false)]) [.int .i64 (rd x1 s39.2), .bool false, .int .i64 (rd x1 s39.2), .int .i64 (rd x0 s39.2), .bool false] [(0, .slice A0 x0.length c0), (1, .slice A1 x1.length c1), (5, vi s39.1), (6, vi s39.2), (38, .bool false)] hf48 ⟨q78.1, g49, q78.2, (decide_eq_false c50), q79.1, g49, q79.2, q80.1, g62, q80.2, (decide_eq_false c63), trivial⟩ fun a81 w83 hf82 hg84 => ?_
      have hm85 := hm45.still hg84
      refine thenN ?_
      refine cF hf82 ?_
      refine wp_skip ?_
      refine thenN ?_
      have q86 := (hm85.slAt 0 rfl).int s39.2 g62.1 g62.2
      have q87 := (hm85.slAt 1 rfl).int s39.2 g49.1 g49.2
      refine rq [.int .i64 (rd x0 s39.2), .int .i64 (rd x1 s39.2)] [(0, .slice A0 x0.length c0), (1, .slice A1 x1.length c1), (5, vi (w64 ((w64 (s39.1 * (rd x0 s39.2))) + (rd x1 s39.2)))), (6, vi s39.2)] hf82 (oi q86.1 (oi g62 (oc q86.2 (oi q87.1 (oi g49 (oc q87.2 ot)))))) fun a88 w90 hf89 hg91 => ?_
      have hm92 := hm85.still hg91
      refine blkN ?_
      refine thenN ?_
      refine rg [] [(0, .slice A0 x0.length c0), (1, .slice A1 x1.length c1), (5, vi (w64 ((w64 (s39.1 * (rd x0 s39.2))) + (rd x1 s39.2)))), (6, vi (w64 (s39.2 + 1)))] hf89 ot fun a93 hf94 => ?_
      exact ⟨((w64 ((w64 (s39.1 * (rd x0 s39.2))) + (rd x1 s39.2))), (w64 (s39.2 + 1))), H1, hf94.se [0, 1, 5, 6], hm92.se [0, 1] _ rfl⟩
    have q65 := (hm45.slAt 1 rfl).int s39.2 g49.1 g49.2
    have q66 := (hm45.slAt 1 rfl).int s39.2 g49.1 g49.2
    have q67 := (hm45.slAt 0 rfl).int s39.2 g62.1 g62.2
    refine rq (ob := [.is (Option.isSome A1 = true), .is (0 ≤ s39.2 ∧ s39.2 < (x1.length : Int)), .cell ((ad A1).add ((s39.2).toNat * 1)) (.int .i64 (rd x1 s39.2)), .is (decide ((rd x1 s39.2) < 0) = false), .is (Option.isSome A1 = true), .is (0 ≤ s39.2 ∧ s39.2 < (x1.length : Int)), .cell ((ad A1).add ((s39.2).toNat * 1)) (.int .i64 (rd x1 s39.2)), .is (Option.isSome A0 = true), .is (0 ≤ s39.2 ∧ s39.2 < (x0.length : Int)), .cell ((ad A0).add ((s39.2).toNat * 1)) (.int .i64 (rd x0 s39.2)), .is (decide ((rd x0 s39.2) ≤ (rd x1 s39.2)) = true)]) [.int .i64 (rd x1 s39.2), .bool false, .int .i64 (rd x1 s39.2), .int .i64 (rd x0 s39.2), .bool true] [(0, .slice A0 x0.length c0), (1, .slice A1 x1.length c1), (5, vi s39.1), (6, vi s39.2), (38, .bool true)] hf48 ⟨q65.1, g49, q65.2, (decide_eq_false c50), q66.1, g49, q66.2, q67.1, g62, q67.2, (decide_eq_true c63), trivial⟩ fun a68 w70 hf69 hg71 => ?_
    have hm72 := hm45.still hg71
    refine thenN ?_
    refine cT hf69 ?_
    refine wp_seq ?_
    refine rg [] [(4, vi (-1))] hf69 ot fun a73 hf74 => ?_
    have hm75 := hm72.se [] _ rfl
    refine thenN ?_
    refine wp_ret ?_
    refine thenR ?_
    refine blkR ?_
    refine thenR ?_
    refine thenR ?_
    refine .inr ⟨rfl, ?_⟩
    refine thenR ?_
    have hm76 : Mem [] M w0 [] w70 := hm75.se [] _ rfl
    obtain rfl := Option.some.inj H1
    obtain rfl := Option.some.inj H0
    refine rt [] [.int .i64 (-1)] hf74 ot ?_
    exact ⟨_, rfl, rfl, hm76⟩
  rintro a97 w98 ⟨yr40, rfl, hf99, hm100⟩
  refine thenN ?_
  refine wp_seq ?_
  refine rg [] [(4, vi yr40.1)] hf99 ot fun a101 hf102 => ?_
  have hm103 := hm100.se [] _ rfl
  refine thenN ?_
  refine wp_ret ?_
  have hm104 : Mem [] M w0 [] w98 := hm103.se [] _ rfl
  obtain rfl := Option.some.inj H0
  refine rt [] [.int .i64 yr40.1] hf102 ot ?_
  exact ⟨_, rfl, rfl, hm104⟩

/-! ### backstitch/backstitchref1.under -/
noncomputable def ref1_under.l0 (x0 : (List Int)) (x1 : (List Int)) (s39 : (Int × (List Int))) : Step (Int × (List Int)) (Int × (List Int)) :=
  if s39.1 ≤ (x0.length : Int) then (if 0 ≤ (w64 ((x0.length : Int) - s39.1)) ∧ (w64 ((x0.length : Int) - s39.1)) < (x0.length : Int) then (if 1 < (rd x0 (w64 ((x0.length : Int) - s39.1))) then (if 0 ≤ (w64 ((x1.length : Int) - s39.1)) ∧ (w64 ((x1.length : Int) - s39.1)) < (x1.length : Int) then (if 0 ≤ (w64 ((x0.length : Int) - s39.1)) ∧ (w64 ((x0.length : Int) - s39.1)) < (s39.2.length : Int) then (.next ((w64 (s39.1 + 1)), (put s39.2 (w64 ((x0.length : Int) - s39.1)) (rd x1 (w64 ((x1.length : Int) - s39.1))))))
  else .bad)
  else .bad)
  else (.next ((w64 (s39.1 + 1)), s39.2)))
  else .bad)
  else (.done (s39.1, s39.2))
noncomputable def ref1_under.f (x0 : (List Int)) (x1 : (List Int)) : Option Int :=
  if 0 ≤ (x0.length : Int) ∧ (x0.length : Int) ≤ 1099511627776 then ((loop (ref1_under.l0 x0 x1) (1, (List.replicate ((x0.length : Int)).toNat (0 : Int)))).bind fun r40 =>
  (ref1_Index.f x0 r40.2).bind fun r80 =>
  some r80)
  else none
set_option maxRecDepth 100000 in
set_option maxHeartbeats 4000000 in
theorem ref1_under.calls (M : List (Option Nat)) (w0 : World) (x0 : (List Int)) (A0 : Option Addr) (n0 c0 : Nat) (e0 : n0 = x0.length) (x1 : (List Int)) (A1 : Option Addr) (n1 c1 : Nat) (e1 : n1 = x1.length) (hm0 : Mem [] M w0 [.sl (Kd.int .i64) A0 c0 x0, .sl (Kd.int .i64) A1 c1 x1] w0) (r : Int) (H0 : ref1_under.f x0 x1 = some r) :
    Calls Try.prog 57 [.slice A0 n0 c0, .slice A1 n1 c1].toArray w0 (fun x w' => ∃ v, x = .returned v ∧ v = .int .i64 r ∧ Mem [] M w0 [] w') := by
  subst e0
  subst e1
  unfold ref1_under.f at H0
  refine enter (n := 40) Try.func57 rfl rfl (by kernel_rfl) fun a0 (hf0 : Fr 40 a0 [(0, .slice A0 x0.length c0), (1, .slice A1 x1.length c1)]) => ?_
  refine wp_seq ?_
  refine rg [] [(0, .slice A0 x0.length c0), (1, .slice A1 x1.length c1)] hf0 ot fun a21 hf22 => ?_
  refine thenN ?_
  refine wp_seq ?_
  obtain ⟨g23, H0⟩ := if_guard H0
  refine inReg ?_
  refine gg 2 [] [(0, .slice A0 x0.length c0), (1, .slice A1 x1.length c1), (8, vi (x0.length : Int))] hf22 ot fun a24 hf25 => ?_
  refine lo hf25 rfl (aMake (kd := (Kd.int .i64)) (x := 0) (E := 3) (L := (x0.length : Int)) (z := [.int .i64 0]) (sz := 1) (d := 9) hf25 (by kernel_rfl) (by kernel_rfl) rfl (fun _ _ => rfl) g23.1 g23.2 ?_)
  intro A26 c27 w28 a29 ho31 hb33 hg32 hf30
  have hm34 : Mem [] M w0 [.ow (Kd.int .i64) 3 A26 c27 (List.replicate ((x0.length : Int)).toNat (0 : Int)), .sl (Kd.int .i64) A0 c0 x0, .sl (Kd.int .i64) A1 c1 x1] w28 := hm0.own (ho31 _) hg32
  refine gg 1 [] [(0, .slice A0 x0.length c0), (1, .slice A1 x1.length c1), (5, .slice A26 ((List.replicate ((x0.length : Int)).toNat (0 : Int)).length) c27)] hf30 ot fun a35 hf36 => ?_
  refine endL rfl ?_
  refine thenN ?_
  refine wp_seq ?_
  refine wp_seq ?_
  refine rg [] [(0, .slice A0 x0.length c0), (1, .slice A1 x1.length c1), (5, .slice A26 ((List.replicate ((x0.length : Int)).toNat (0 : Int)).length) c27), (6, vi 1)] hf36 ot fun a37 hf38 => ?_
  refine thenN ?_
  obtain ⟨r40, hr40, H0⟩ := ob_split H0
  refine wpBlock (Mid := fun (a : Act) (w : World) => Fr 40 a [(0, .slice A0 x0.length c0), (1, .slice A1 x1.length c1), (5, .slice A26 r40.2.length c27), (6, .int .i64 r40.1)] ∧ Mem [] M w0 [.ow (Kd.int .i64) 3 A26 c27 r40.2, .sl (Kd.int .i64) A0 c0 x0, .sl (Kd.int .i64) A1 c1 x1] w) ?_ ?_
  · refine wpLoop (ref1_under.l0 x0 x1) r40 (fun (s39 : (Int × (List Int))) (a : Act) (w : World) => Fr 40 a [(0, .slice A0 x0.length c0), (1, .slice A1 x1.length c1), (5, .slice A26 s39.2.length c27), (6, .int .i64 s39.1)] ∧ Mem [] M w0 [.ow (Kd.int .i64) 3 A26 c27 s39.2, .sl (Kd.int .i64) A0 c0 x0, .sl (Kd.int .i64) A1 c1 x1] w) (1, (List.replicate ((x0.length : Int)).toNat (0 : Int))) hr40 ⟨hf38.se [0, 1, 5, 6], hm34.se [0, 1, 2] _ rfl⟩ ?_
    rintro g41 s39 a42 w43 H1 ⟨hf44, hm45⟩
    unfold ref1_under.l0 at H1
    refine wp_seq ?_
    refine wp_seq ?_
    rcases ifS_split H1 with ⟨c46, H1⟩ | ⟨c46, H1⟩
    rotate_left
    · refine rg (ob := [.is (decide (s39.1 ≤ (x0.length : Int)) = false)]) [.bool false] [(0, .slice A0 x0.length c0), (1, .slice A1 x1.length c1), (5, .slice A26 s39.2.length c27), (6, vi s39.1), (13, .bool false)] hf44 ⟨(decide_eq_false c46), trivial⟩ fun a74 hf75 => ?_
      refine thenN ?_
      refine cF hf75 ?_
      refine wp_exit ?_
      refine thenE ?_
      refine thenE ?_
      obtain rfl := Option.some.inj H1
      exact .inl ⟨rfl, hf75.se [0, 1, 5, 6], hm45.se [0, 1, 2] _ rfl⟩
    refine rg (ob := [.is (decide (s39.1 ≤ (x0.length : Int)) = true)]) [.bool true] [(0, .slice A0 x0.length c0), (1, .slice A1 x1.length c1), (5, .slice A26 s39.2.length c27), (6, vi s39.1), (13, .bool true)] hf44 ⟨(decide_eq_true c46), trivial⟩ fun a47 hf48 => ?_
    refine thenN ?_
    refine cT hf48 ?_
    refine wp_skip ?_
    refine thenN ?_
    refine wp_seq ?_
    refine wp_block ?_
    refine wp_seq ?_
    obtain ⟨g49, H1⟩ := ifS_guard H1
    rcases ifS_split H1 with ⟨c50, H1⟩ | ⟨c50, H1⟩
    rotate_left
    · have q69 := (hm45.slAt 1 rfl).int (w64 ((x0.length : Int) - s39.1)) g49.1 g49.2
      refine rg (ob := [.is (Option.isSome A0 = true), .is (0 ≤ (w64 ((x0.length : Int) - s39.1)) ∧ (w64 ((x0.length : Int) - s39.1)) < (x0.length : Int)), .cell ((ad A0).add (((w64 ((x0.length : Int) - s39.1))).toNat * 1)) (.int .i64 (rd x0 (w64 ((x0.length : Int) - s39.1)))), .is (decide (1 < (rd x0 (w64 ((x0.length : Int) - s39.1)))) = false)]) [.int .i64 (rd x0 (w64 ((x0.length : Int) - s39.1))), .bool false] [(0, .slice A0 x0.length c0), (1, .slice A1 x1.length c1), (5, .slice A26 s39.2.length c27), (6, vi s39.1), (23, .bool false)] hf48 ⟨q69.1, g49, q69.2, (decide_eq_false c50), trivial⟩ fun a70 hf71 => ?_
      refine thenN ?_
      refine cF hf71 ?_
      refine wp_skip ?_
      refine blkN ?_
      refine thenN ?_
      refine rg [] [(0, .slice A0 x0.length c0), (1, .slice A1 x1.length c1), (5, .slice A26 s39.2.length c27), (6, vi (w64 (s39.1 + 1)))] hf71 ot fun a72 hf73 => ?_
      exact ⟨((w64 (s39.1 + 1)), s39.2), H1, hf73.se [0, 1, 5, 6], hm45.se [0, 1, 2] _ rfl⟩
    have q51 := (hm45.slAt 1 rfl).int (w64 ((x0.length : Int) - s39.1)) g49.1 g49.2
    refine rg (ob := [.is (Option.isSome A0 = true), .is (0 ≤ (w64 ((x0.length : Int) - s39.1)) ∧ (w64 ((x0.length : Int) - s39.1)) < (x0.length : Int)), .cell ((ad A0).add (((w64 ((x0.length : Int) - s39.1))).toNat * 1)) (.int .i64 (rd x0 (w64 ((x0.length : Int) - s39.1)))), .is (decide (1 < (rd x0 (w64 ((x0.length : Int) - s39.1)))) = true)]) [.int .i64 (rd x0 (w64 ((x0.length : Int) - s39.1))), .bool true] [(0, .slice A0 x0.length c0), (1, .slice A1 x1.length c1), (5, .slice A26 s39.2.length c27), (6, vi s39.1), (23, .bool true)] hf48 ⟨q51.1, g49, q51.2, (decide_eq_true c50), trivial⟩ fun a52 hf53 => ?_
    refine thenN ?_
    refine cT hf53 ?_
    obtain ⟨g54, H1⟩ := ifS_guard H1
    obtain ⟨g55, H1⟩ := ifS_guard H1
    have q56 := (hm45.slAt 2 rfl).int (w64 ((x1.length : Int) - s39.1)) g54.1 g54.2
    have q57 := (hm45.owAt 0 rfl).int (w64 ((x0.length : Int) - s39.1)) g55.1 g55.2
    refine inReg ?_
    refine gg 13 [.int .i64 (rd x1 (w64 ((x1.length : Int) - s39.1)))] [(0, .slice A0 x0.length c0), (1, .slice A1 x1.length c1), (5, .slice A26 s39.2.length c27), (6, vi s39.1), (35, vi (rd x1 (w64 ((x1.length : Int) - s39.1)))), (36, .pointer (some ((ad A26).add (((w64 ((x0.length : Int) - s39.1))).toNat * 1))))] hf53 (oi q56.1 (oi g54 (oc q56.2 (oi q57.1 (oi g55 ot))))) fun a58 hf59 => ?_
    refine lo hf59 rfl (so (i := (w64 ((x0.length : Int) - s39.1))) (x := (rd x1 (w64 ((x1.length : Int) - s39.1)))) (us := [.int .i64 (rd x1 (w64 ((x1.length : Int) - s39.1)))]) (sz := 1) hf59 (hm45.at 0 rfl) rfl g55.1 g55.2 ?_)
    intro w60 hx61 hg62
    have hm63 := hm45.setOwn 0 _ rfl rfl hx61 hg62 (.inl rfl)
    refine endL rfl ?_
    refine blkN ?_
    refine thenN ?_
    refine rg [] [(0, .slice A0 x0.length c0), (1, .slice A1 x1.length c1), (5, .slice A26 s39.2.length c27), (6, vi (w64 (s39.1 + 1)))] hf59 ot fun a65 hf66 => ?_
    have hf67 : Fr 40 a65 [(0, .slice A0 x0.length c0), (1, .slice A1 x1.length c1), (5, .slice A26 s39.2.length c27), (6, .int .i64 (w64 (s39.1 + 1)))] := hf66.se [0, 1, 5, 6]
    have hm68 : Mem [] M w0 [.ow (Kd.int .i64) 3 A26 c27 (put s39.2 (w64 ((x0.length : Int) - s39.1)) (rd x1 (w64 ((x1.length : Int) - s39.1)))), .sl (Kd.int .i64) A0 c0 x0, .sl (Kd.int .i64) A1 c1 x1] w60 := hm63.se [0, 1, 2] _ rfl
    exact ⟨((w64 (s39.1 + 1)), (put s39.2 (w64 ((x0.length : Int) - s39.1)) (rd x1 (w64 ((x1.length : Int) - s39.1))))), H1, (by simpa only [put_length, List.length_nil] using hf67), (by simpa only [put_length, List.length_nil] using hm68)⟩
  rintro a76 w77 ⟨hf78, hm79⟩
  refine thenN ?_
  refine wp_seq ?_
  obtain ⟨r80, hr80, H0⟩ := ob_split H0
  refine inReg ?_
  refine gg 2 [] [(37, .slice A0 x0.length c0), (38, .slice A26 r40.2.length c27)] hf78 ot fun a81 hf82 => ?_
  have hm83 : Mem [] M w0 [.sl (Kd.int .i64) A26 c27 r40.2, .sl (Kd.int .i64) A0 c0 x0, .sl (Kd.int .i64) A1 c1 x1] w77 := hm79.seal 0 _ rfl rfl
  refine lo hf82 rfl (cl 39 hf82 callable70 (ref1_Index.calls _ _ _ _ _ _ rfl _ _ _ _ rfl (hm83.give [1, 0] [.sl (Kd.int .i64) A0 c0 x0, .sl (Kd.int .i64) A26 c27 r40.2] rfl rfl) r80 hr80) ?_)
  rintro _ w84 a85 ⟨rfl, hk87⟩ hf86
  have hm88 := hm79.still hk87.cum.none
  refine gg 1 [] [(4, vi r80)] hf86 ot fun a89 hf90 => ?_
  refine endL rfl ?_
  have hm91 := hm88.se [] _ rfl
  refine thenN ?_
  refine wp_ret ?_
  have hm92 : Mem [] M w0 [] w84 := hm91.se [] _ rfl
  obtain rfl := Option.some.inj H0
  refine rt [] [.int .i64 r80] hf90 ot ?_
  exact ⟨_, rfl, rfl, hm92⟩

/-! ### backstitch/backstitchref1.two -/
noncomputable def ref1_two.f (x0 : Int) (x1 : Nat) (x2 : Nat) : Option Nat :=
  if x0 = 4 then (some (fadd x1 x2))
  else (if x0 = 5 then (some (fsub x1 x2))
  else (if x0 = 6 then (some (fmul x1 x2))
  else (some (fdiv x1 x2))))
set_option maxRecDepth 100000 in
set_option maxHeartbeats 4000000 in
theorem ref1_two.calls (M : List (Option Nat)) (w0 : World) (x0 : Int) (x1 : Nat) (b1 : Nat) (h1 : FR b1 x1) (x2 : Nat) (b2 : Nat) (h2 : FR b2 x2) (hm0 : Mem [] M w0 [] w0) (r : Nat) (H0 : ref1_two.f x0 x1 x2 = some r) :
    Calls Try.prog 56 [.int .i64 x0, .float .f64 b1, .float .f64 b2].toArray w0 (fun x w' => ∃ v, x = .returned v ∧ ∃ br0, v = .float .f64 br0 ∧ FR br0 r ∧ Mem [] M w0 [] w') := by
  unfold ref1_two.f at H0
  refine enter (n := 26) Try.func56 rfl rfl (by kernel_rfl) fun a0 (hf0 : Fr 26 a0 [(0, .int .i64 x0), (1, .float .f64 b1), (2, .float .f64 b2)]) => ?_
  refine wp_seq ?_
  refine rg [] [(0, vi x0), (1, vf b1), (2, vf b2)] hf0 ot fun a21 hf22 => ?_
  refine thenN ?_
  refine wp_seq ?_
  refine wp_seq ?_
  refine rg [] [(1, vf b1), (2, vf b2), (7, vi x0)] hf22 ot fun a23 hf24 => ?_
  refine thenN ?_
  refine wp_block ?_
  refine wp_seq ?_
  rcases if_split H0 with ⟨c25, H0⟩ | ⟨c25, H0⟩
  · refine rg [.bool true] [(1, vf b1), (2, vf b2), (7, vi x0), (8, .bool true)] hf24 (oi (eqT c25) ot) fun a26 hf27 => ?_
    refine thenN ?_
    refine cT hf27 ?_
    refine wp_seq ?_
    refine inReg ?_
    refine gg 2 [] [(10, vf b1), (11, vf b2)] hf27 ot fun a28 hf29 => ?_
    refine lo hf29 rfl (ar (k := 0) (d := 12) hf29 h1 h2 ?_)
    intro b30 w31 a32 hb30 hg34 hf33
    replace hb30 : FR b30 (fadd x1 x2) := hb30
    have hm35 := hm0.still hg34
    refine gg 1 [] [(6, vf b30)] hf33 ot fun a36 hf37 => ?_
    refine endL rfl ?_
    refine thenN ?_
    refine wp_ret ?_
    refine blkR ?_
    refine thenR ?_
    have hm38 : Mem [] M w0 [] w31 := hm35.se [] _ rfl
    obtain rfl := Option.some.inj H0
    refine rt [] [.float .f64 b30] hf37 ot ?_
    exact ⟨_, rfl, b30, rfl, hb30, hm38⟩
  refine rg [.bool false] [(1, vf b1), (2, vf b2), (7, vi x0), (8, .bool false)] hf24 (oi (eqF c25) ot) fun a40 hf41 => ?_
  refine thenN ?_
  refine cF hf41 ?_
  refine wp_seq ?_
  rcases if_split H0 with ⟨c42, H0⟩ | ⟨c42, H0⟩
  · refine rg [.bool true] [(1, vf b1), (2, vf b2), (7, vi x0), (13, .bool true)] hf41 (oi (eqT c42) ot) fun a43 hf44 => ?_
    refine thenN ?_
    refine cT hf44 ?_
    refine wp_seq ?_
    refine inReg ?_
    refine gg 2 [] [(15, vf b1), (16, vf b2)] hf44 ot fun a45 hf46 => ?_
    refine lo hf46 rfl (ar (k := 1) (d := 17) hf46 h1 h2 ?_)
    intro b47 w48 a49 hb47 hg51 hf50
    replace hb47 : FR b47 (fsub x1 x2) := hb47
    have hm52 := hm0.still hg51
    refine gg 1 [] [(6, vf b47)] hf50 ot fun a53 hf54 => ?_
    refine endL rfl ?_
    refine thenN ?_
    refine wp_ret ?_
    refine blkR ?_
    refine thenR ?_
    have hm55 : Mem [] M w0 [] w48 := hm52.se [] _ rfl
    obtain rfl := Option.some.inj H0
    refine rt [] [.float .f64 b47] hf54 ot ?_
    exact ⟨_, rfl, b47, rfl, hb47, hm55⟩
  refine rg [.bool false] [(1, vf b1), (2, vf b2), (7, vi x0), (13, .bool false)] hf41 (oi (eqF c42) ot) fun a57 hf58 => ?_
  refine thenN ?_
  refine cF hf58 ?_
  refine wp_seq ?_
  rcases if_split H0 with ⟨c59, H0⟩ | ⟨c59, H0⟩
  · refine rg [.bool true] [(1, vf b1), (2, vf b2), (18, .bool true)] hf58 (oi (eqT c59) ot) fun a60 hf61 => ?_
    refine thenN ?_
    refine cT hf61 ?_
    refine wp_seq ?_
    refine inReg ?_
    refine gg 2 [] [(20, vf b1), (21, vf b2)] hf61 ot fun a62 hf63 => ?_
    refine lo hf63 rfl (ar (k := 2) (d := 22) hf63 h1 h2 ?_)
    intro b65 w66 a67 hb65 hg69 hf68
    replace hb65 : FR b65 (fmul x1 x2) := hb65
    have hm70 := hm0.still hg69
    refine gg 1 [] [(6, vf b65)] hf68 ot fun a71 hf72 => ?_
    refine endL rfl ?_
    refine thenN ?_
    refine wp_ret ?_
    refine blkR ?_
    refine thenR ?_
    have hm73 : Mem [] M w0 [] w66 := hm70.se [] _ rfl
    obtain rfl := Option.some.inj H0
    refine rt [] [.float .f64 b65] hf72 ot ?_
    exact ⟨_, rfl, b65, rfl, hb65, hm73⟩
  refine rg [.bool false] [(1, vf b1), (2, vf b2), (18, .bool false)] hf58 (oi (eqF c59) ot) fun a75 hf76 => ?_
  refine thenN ?_
  refine cF hf76 ?_
  refine wp_skip ?_
  refine blkN ?_
  refine thenN ?_
  refine wp_seq ?_
  refine inReg ?_
  refine gg 2 [] [(23, vf b1), (24, vf b2)] hf76 ot fun a77 hf78 => ?_
  refine lo hf78 rfl (ar (k := 3) (d := 25) hf78 h1 h2 ?_)
  intro b79 w80 a81 hb79 hg83 hf82
  replace hb79 : FR b79 (fdiv x1 x2) := hb79
  have hm84 := hm0.still hg83
  refine gg 1 [] [(6, vf b79)] hf82 ot fun a85 hf86 => ?_
  refine endL rfl ?_
  refine thenN ?_
  refine wp_ret ?_
  have hm87 : Mem [] M w0 [] w80 := hm84.se [] _ rfl
  obtain rfl := Option.some.inj H0
  refine rt [] [.float .f64 b79] hf86 ot ?_
  exact ⟨_, rfl, b79, rfl, hb79, hm87⟩
end Go.Proofs.Yteaoijahdinciaa
