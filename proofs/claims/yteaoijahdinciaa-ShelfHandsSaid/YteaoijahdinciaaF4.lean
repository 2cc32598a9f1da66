/- Printed by gen.py. -/
import Derived.Test.YteaoijahdinciaaF0
import Derived.Test.YteaoijahdinciaaF3
namespace Go.Proofs.Yteaoijahdinciaa
open Go Go.RowKit
set_option linter.unusedSimpArgs false
set_option linter.unusedVariables false
set_option linter.unnecessarySimpa false
/-! ### backstitch/shape.Spread -/
noncomputable def shape_Spread.l0 (x1 : (List Int)) (x0 : (List Int)) (s59 : (Int × (List Int))) : Step (Int × (List Int)) (Out2 (Int × (List Int)) ((List Int) × Int)) :=
  if s59.1 < (((List.replicate ((if (x1.length : Int) > (x0.length : Int) then (x1.length : Int) else (x0.length : Int))).toNat (0 : Int)).length : Nat) : Int) then (bindS (shape_number.f x0 s59.1) fun r72 =>
  bindS (shape_number.f x1 s59.1) fun r73 =>
  if r72 = r73 then (if 0 ≤ (w64 ((w64 ((s59.2.length : Int) - 1)) - s59.1)) ∧ (w64 ((w64 ((s59.2.length : Int) - 1)) - s59.1)) < (s59.2.length : Int) then (.next ((w64 (s59.1 + 1)), (put s59.2 (w64 ((w64 ((s59.2.length : Int) - 1)) - s59.1)) (if r73 > r72 then r73 else r72))))
  else .bad)
  else (if r72 = 1 then (if 0 ≤ (w64 ((w64 ((s59.2.length : Int) - 1)) - s59.1)) ∧ (w64 ((w64 ((s59.2.length : Int) - 1)) - s59.1)) < (s59.2.length : Int) then (.next ((w64 (s59.1 + 1)), (put s59.2 (w64 ((w64 ((s59.2.length : Int) - 1)) - s59.1)) (if r73 > r72 then r73 else r72))))
  else .bad)
  else (if r73 = 1 then (if 0 ≤ (w64 ((w64 ((s59.2.length : Int) - 1)) - s59.1)) ∧ (w64 ((w64 ((s59.2.length : Int) - 1)) - s59.1)) < (s59.2.length : Int) then (.next ((w64 (s59.1 + 1)), (put s59.2 (w64 ((w64 ((s59.2.length : Int) - 1)) - s59.1)) (if r73 > r72 then r73 else r72))))
  else .bad)
  else (.done (.ret (([] : (List Int)), 2))))))
  else (.done (.go (s59.1, s59.2)))
noncomputable def shape_Spread.f (x0 : (List Int)) (x1 : (List Int)) : Option ((List Int) × Int) :=
  (shape_May.f x0).bind fun r23 =>
  if r23 = true then ((shape_May.f x1).bind fun r25 =>
  if r25 = true then (if 0 ≤ (if (x1.length : Int) > (x0.length : Int) then (x1.length : Int) else (x0.length : Int)) ∧ (if (x1.length : Int) > (x0.length : Int) then (x1.length : Int) else (x0.length : Int)) ≤ 1099511627776 then ((loop (shape_Spread.l0 x1 x0) (0, (List.replicate ((if (x1.length : Int) > (x0.length : Int) then (x1.length : Int) else (x0.length : Int))).toNat (0 : Int)))).bind fun r60 =>
  r60.on (fun yr60 =>
  (shape_Size.f yr60.2).bind fun r149 =>
  if r149.2 = 0 then (some (yr60.2, 0))
  else (some (([] : (List Int)), r149.2))) (fun y => some y))
  else none)
  else (some (([] : (List Int)), 2)))
  else (some (([] : (List Int)), 2))
set_option maxRecDepth 100000 in
set_option maxHeartbeats 4000000 in
theorem shape_Spread.calls (M : List (Option Nat)) (w0 : World) (x0 : (List Int)) (A0 : Option Addr) (n0 c0 : Nat) (e0 : n0 = x0.length) (x1 : (List Int)) (A1 : Option Addr) (n1 c1 : Nat) (e1 : n1 = x1.length) (hm0 : Mem [] M w0 [.sl (Kd.int .i64) A0 c0 x0, .sl (Kd.int .i64) A1 c1 x1] w0) (r : ((List Int) × Int)) (H0 : shape_Spread.f x0 x1 = some r) :
    Calls Try.prog 50 [.slice A0 n0 c0, .slice A1 n1 c1].toArray w0 (fun x w' => ∃ v, x = .returned v ∧ ∃ Ar0 cr0, v = .tuple #[.slice Ar0 r.1.length cr0, .int .i64 r.2] ∧ Mem [] M w0 [.ow (Kd.int .i64) 3 Ar0 cr0 r.1] w') := by
  subst e0
  subst e1
  unfold shape_Spread.f at H0
  refine enter (n := 68) Try.func50 rfl rfl (by kernel_rfl) fun a0 (hf0 : Fr 68 a0 [(0, .slice A0 x0.length c0), (1, .slice A1 x1.length c1)]) => ?_
  refine wp_seq ?_
  refine rg [] [(0, .slice A0 x0.length c0), (1, .slice A1 x1.length c1)] hf0 ot fun a21 hf22 => ?_
  refine thenN ?_
  refine wp_seq ?_
  refine wp_seq ?_
  obtain ⟨r23, hr23, H0⟩ := ob_split H0
  rcases ifb_split H0 with ⟨c24, H0⟩ | ⟨c24, H0⟩
  rotate_left
  · refine inReg ?_
    refine gg 1 [] [(0, .slice A0 x0.length c0), (1, .slice A1 x1.length c1), (12, .slice A0 x0.length c0)] hf22 ot fun a198 hf199 => ?_
    refine lo hf199 rfl (cl 13 hf199 callable65 (shape_May.calls _ _ _ _ _ _ rfl (hm0.give [0] [.sl (Kd.int .i64) A0 c0 x0] rfl rfl) r23 hr23) ?_)
    rintro _ w200 a201 ⟨rfl, hk203⟩ hf202
    have hm204 := hm0.still hk203.cum.none
    rw [c24] at hf202
    refine gg 6 [] [(0, .slice A0 x0.length c0), (1, .slice A1 x1.length c1), (19, .bool true)] hf202 ot fun a205 hf206 => ?_
    refine endL rfl ?_
    refine thenN ?_
    refine cT hf206 ?_
    refine wp_seq ?_
    refine rg [] [(4, .slice none 0 0), (5, vi 2)] hf206 ot fun a207 hf208 => ?_
    have hm209 := hm204.se [] _ rfl
    refine thenN ?_
    refine wp_ret ?_
    refine thenR ?_
    have hm210 := hm209.nilOw (Kd.int .i64) 3
    have hm211 : Mem [] M w0 [.ow (Kd.int .i64) 3 none 0 ([] : (List Int))] w200 := hm210.se [0] _ rfl
    obtain rfl := Option.some.inj H0
    refine rt [] [.slice none 0 0, .int .i64 2] hf208 ot ?_
    exact ⟨_, rfl, none, 0, rfl, hm211⟩
  obtain ⟨r25, hr25, H0⟩ := ob_split H0
  rcases ifb_split H0 with ⟨c26, H0⟩ | ⟨c26, H0⟩
  rotate_left
  · refine inReg ?_
    refine gg 1 [] [(0, .slice A0 x0.length c0), (1, .slice A1 x1.length c1), (12, .slice A0 x0.length c0)] hf22 ot fun a176 hf177 => ?_
    refine lo hf177 rfl (cl 13 hf177 callable65 (shape_May.calls _ _ _ _ _ _ rfl (hm0.give [0] [.sl (Kd.int .i64) A0 c0 x0] rfl rfl) r23 hr23) ?_)
    rintro _ w178 a179 ⟨rfl, hk181⟩ hf180
    have hm182 := hm0.still hk181.cum.none
    rw [c24] at hf180
    refine gg 3 [] [(0, .slice A0 x0.length c0), (1, .slice A1 x1.length c1), (15, .bool false), (16, .slice A1 x1.length c1)] hf180 ot fun a183 hf184 => ?_
    refine lo hf184 rfl (cl 17 hf184 callable65 (shape_May.calls _ _ _ _ _ _ rfl (hm182.give [1] [.sl (Kd.int .i64) A1 c1 x1] rfl rfl) r25 hr25) ?_)
    rintro _ w185 a186 ⟨rfl, hk188⟩ hf187
    have hm189 := hm182.still hk188.cum.none
    rw [c26] at hf187
    refine gg 2 [] [(0, .slice A0 x0.length c0), (1, .slice A1 x1.length c1), (19, .bool true)] hf187 ot fun a190 hf191 => ?_
    refine endL rfl ?_
    refine thenN ?_
    refine cT hf191 ?_
    refine wp_seq ?_
    refine rg [] [(4, .slice none 0 0), (5, vi 2)] hf191 ot fun a192 hf193 => ?_
    have hm194 := hm189.se [] _ rfl
    refine thenN ?_
    refine wp_ret ?_
    refine thenR ?_
    have hm195 := hm194.nilOw (Kd.int .i64) 3
    have hm196 : Mem [] M w0 [.ow (Kd.int .i64) 3 none 0 ([] : (List Int))] w185 := hm195.se [0] _ rfl
    obtain rfl := Option.some.inj H0
    refine rt [] [.slice none 0 0, .int .i64 2] hf193 ot ?_
    exact ⟨_, rfl, none, 0, rfl, hm196⟩
  refine inReg ?_
  refine gg 1 [] [(0, .slice A0 x0.length c0), (1, .slice A1 x1.length c1), (12, .slice A0 x0.length c0)] hf22 ot fun a27 hf28 => ?_
  refine lo hf28 rfl (cl 13 hf28 callable65 (shape_May.calls _ _ _ _ _ _ rfl (hm0.give [0] [.sl (Kd.int .i64) A0 c0 x0] rfl rfl) r23 hr23) ?_)
  rintro _ w29 a30 ⟨rfl, hk32⟩ hf31
  have hm33 := hm0.still hk32.cum.none
  rw [c24] at hf31
  refine gg 3 [] [(0, .slice A0 x0.length c0), (1, .slice A1 x1.length c1), (15, .bool false), (16, .slice A1 x1.length c1)] hf31 ot fun a34 hf35 => ?_
  refine lo hf35 rfl (cl 17 hf35 callable65 (shape_May.calls _ _ _ _ _ _ rfl (hm33.give [1] [.sl (Kd.int .i64) A1 c1 x1] rfl rfl) r25 hr25) ?_)
  rintro _ w36 a37 ⟨rfl, hk39⟩ hf38
  have hm40 := hm33.still hk39.cum.none
  rw [c26] at hf38
  refine gg 2 [] [(0, .slice A0 x0.length c0), (1, .slice A1 x1.length c1), (19, .bool false)] hf38 ot fun a41 hf42 => ?_
  refine endL rfl ?_
  refine thenN ?_
  refine cF hf42 ?_
  refine wp_skip ?_
  refine thenN ?_
  refine wp_seq ?_
  obtain ⟨g43, H0⟩ := if_guard H0
  refine inReg ?_
  refine gg 5 [] [(0, .slice A0 x0.length c0), (1, .slice A1 x1.length c1), (24, vi (if (x1.length : Int) > (x0.length : Int) then (x1.length : Int) else (x0.length : Int)))] hf42 ot fun a44 hf45 => ?_
  refine lo hf45 rfl (aMake (kd := (Kd.int .i64)) (x := 0) (E := 3) (L := (if (x1.length : Int) > (x0.length : Int) then (x1.length : Int) else (x0.length : Int))) (z := [.int .i64 0]) (sz := 1) (d := 25) hf45 (by kernel_rfl) (by kernel_rfl) rfl (fun _ _ => rfl) g43.1 g43.2 ?_)
  intro A46 c47 w48 a49 ho51 hb53 hg52 hf50
  have hm54 : Mem [] M w0 [.ow (Kd.int .i64) 3 A46 c47 (List.replicate ((if (x1.length : Int) > (x0.length : Int) then (x1.length : Int) else (x0.length : Int))).toNat (0 : Int)), .sl (Kd.int .i64) A0 c0 x0, .sl (Kd.int .i64) A1 c1 x1] w48 := hm40.own (ho51 _) hg52
  refine gg 1 [] [(0, .slice A0 x0.length c0), (1, .slice A1 x1.length c1), (6, .slice A46 ((List.replicate ((if (x1.length : Int) > (x0.length : Int) then (x1.length : Int) else (x0.length : Int))).toNat (0 : Int)).length) c47)] hf50 ot fun a55 hf56 => ?_
  refine endL rfl ?_
  refine thenN ?_
  refine wp_seq ?_
  refine wp_seq ?_
  refine rg [] [(0, .slice A0 x0.length c0), (1, .slice A1 x1.length c1), (6, .slice A46 ((List.replicate ((if (x1.length : Int) > (x0.length : Int) then (x1.length : Int) else (x0.length : Int))).toNat (0 : Int)).length) c47), (27, vi (((List.replicate ((if (x1.length : Int) > (x0.length : Int) then (x1.length : Int) else (x0.length : Int))).toNat (0 : Int)).length : Nat) : Int)), (28, vi 0)] hf56 ot fun a57 hf58 => ?_
  refine thenN ?_
  obtain ⟨r60, hr60, H0⟩ := ob_split H0
  refine wpBlock (Mid := fun (a : Act) (w : World) => ∃ yr60 : (Int × (List Int)), r60 = .go yr60 ∧ Fr 68 a [(0, .slice A0 x0.length c0), (1, .slice A1 x1.length c1), (6, .slice A46 yr60.2.length c47), (27, .int .i64 (((List.replicate ((if (x1.length : Int) > (x0.length : Int) then (x1.length : Int) else (x0.length : Int))).toNat (0 : Int)).length : Nat) : Int)), (28, .int .i64 yr60.1)] ∧ Mem [] M w0 [.ow (Kd.int .i64) 3 A46 c47 yr60.2, .sl (Kd.int .i64) A0 c0 x0, .sl (Kd.int .i64) A1 c1 x1] w) ?_ ?_
  · refine wpLoop (shape_Spread.l0 x1 x0) r60 (fun (s59 : (Int × (List Int))) (a : Act) (w : World) => Fr 68 a [(0, .slice A0 x0.length c0), (1, .slice A1 x1.length c1), (6, .slice A46 s59.2.length c47), (27, .int .i64 (((List.replicate ((if (x1.length : Int) > (x0.length : Int) then (x1.length : Int) else (x0.length : Int))).toNat (0 : Int)).length : Nat) : Int)), (28, .int .i64 s59.1)] ∧ Mem [] M w0 [.ow (Kd.int .i64) 3 A46 c47 s59.2, .sl (Kd.int .i64) A0 c0 x0, .sl (Kd.int .i64) A1 c1 x1] w) (0, (List.replicate ((if (x1.length : Int) > (x0.length : Int) then (x1.length : Int) else (x0.length : Int))).toNat (0 : Int))) hr60 ⟨hf58.se [0, 1, 6, 27, 28], hm54.se [0, 1, 2] _ rfl⟩ ?_
    rintro g61 s59 a62 w63 H1 ⟨hf65, hm66⟩
    unfold shape_Spread.l0 at H1
    refine wp_seq ?_
    rcases ifS_split H1 with ⟨c67, H1⟩ | ⟨c67, H1⟩
    rotate_left
    · refine rg (ob := [.is (decide (s59.1 < (((List.replicate ((if (x1.length : Int) > (x0.length : Int) then (x1.length : Int) else (x0.length : Int))).toNat (0 : Int)).length : Nat) : Int)) = false)]) [.bool false] [(0, .slice A0 x0.length c0), (1, .slice A1 x1.length c1), (6, .slice A46 s59.2.length c47), (27, vi (((List.replicate ((if (x1.length : Int) > (x0.length : Int) then (x1.length : Int) else (x0.length : Int))).toNat (0 : Int)).length : Nat) : Int)), (28, vi s59.1), (29, .bool false)] hf65 ⟨(decide_eq_false c67), trivial⟩ fun a143 hf144 => ?_
      refine thenN ?_
      refine wp_seq ?_
      refine cF hf144 ?_
      refine wp_exit ?_
      refine thenE ?_
      refine thenE ?_
      obtain rfl := Option.some.inj H1
      exact .inl ⟨rfl, (s59.1, s59.2), rfl, hf144.se [0, 1, 6, 27, 28], hm66.se [0, 1, 2] _ rfl⟩
    refine rg (ob := [.is (decide (s59.1 < (((List.replicate ((if (x1.length : Int) > (x0.length : Int) then (x1.length : Int) else (x0.length : Int))).toNat (0 : Int)).length : Nat) : Int)) = true)]) [.bool true] [(0, .slice A0 x0.length c0), (1, .slice A1 x1.length c1), (6, .slice A46 s59.2.length c47), (27, vi (((List.replicate ((if (x1.length : Int) > (x0.length : Int) then (x1.length : Int) else (x0.length : Int))).toNat (0 : Int)).length : Nat) : Int)), (28, vi s59.1), (29, .bool true)] hf65 ⟨(decide_eq_true c67), trivial⟩ fun a68 hf69 => ?_
    refine thenN ?_
    refine wp_seq ?_
    refine cT hf69 ?_
    refine wp_skip ?_
    refine thenN ?_
    refine wp_seq ?_
    refine wp_block ?_
    refine wp_seq ?_
    refine rg [] [(0, .slice A0 x0.length c0), (1, .slice A1 x1.length c1), (6, .slice A46 s59.2.length c47), (7, vi s59.1), (27, vi (((List.replicate ((if (x1.length : Int) > (x0.length : Int) then (x1.length : Int) else (x0.length : Int))).toNat (0 : Int)).length : Nat) : Int)), (28, vi s59.1)] hf69 ot fun a70 hf71 => ?_
    refine thenN ?_
    refine wp_seq ?_
    obtain ⟨r72, hr72, H1⟩ := obS_split H1
    obtain ⟨r73, hr73, H1⟩ := obS_split H1
    refine inReg ?_
    refine gg 2 [] [(0, .slice A0 x0.length c0), (1, .slice A1 x1.length c1), (6, .slice A46 s59.2.length c47), (7, vi s59.1), (27, vi (((List.replicate ((if (x1.length : Int) > (x0.length : Int) then (x1.length : Int) else (x0.length : Int))).toNat (0 : Int)).length : Nat) : Int)), (28, vi s59.1), (31, .slice A0 x0.length c0), (32, vi s59.1)] hf71 ot fun a74 hf75 => ?_
    refine lo hf75 rfl (cl 33 hf75 callable66 (shape_number.calls _ _ _ _ _ _ rfl s59.1 (hm66.give [1] [.sl (Kd.int .i64) A0 c0 x0] rfl rfl) r72 hr72) ?_)
    rintro _ w76 a77 ⟨rfl, hk79⟩ hf78
    have hm80 := hm66.still hk79.cum.none
    refine gg 2 [] [(0, .slice A0 x0.length c0), (1, .slice A1 x1.length c1), (6, .slice A46 s59.2.length c47), (7, vi s59.1), (27, vi (((List.replicate ((if (x1.length : Int) > (x0.length : Int) then (x1.length : Int) else (x0.length : Int))).toNat (0 : Int)).length : Nat) : Int)), (28, vi s59.1), (33, vi r72), (34, .slice A1 x1.length c1), (35, vi s59.1)] hf78 ot fun a81 hf82 => ?_
    refine lo hf82 rfl (cl 36 hf82 callable66 (shape_number.calls _ _ _ _ _ _ rfl s59.1 (hm80.give [2] [.sl (Kd.int .i64) A1 c1 x1] rfl rfl) r73 hr73) ?_)
    rintro _ w83 a84 ⟨rfl, hk86⟩ hf85
    have hm87 := hm80.still hk86.cum.none
    refine gg 2 [] [(0, .slice A0 x0.length c0), (1, .slice A1 x1.length c1), (6, .slice A46 s59.2.length c47), (7, vi s59.1), (8, vi r72), (9, vi r73), (27, vi (((List.replicate ((if (x1.length : Int) > (x0.length : Int) then (x1.length : Int) else (x0.length : Int))).toNat (0 : Int)).length : Nat) : Int)), (28, vi s59.1)] hf85 ot fun a88 hf89 => ?_
    refine endL rfl ?_
    refine thenN ?_
    refine wp_seq ?_
    refine wp_seq ?_
    rcases ifS_split H1 with ⟨c90, H1⟩ | ⟨c90, H1⟩
    · refine rg [.bool false] [(0, .slice A0 x0.length c0), (1, .slice A1 x1.length c1), (6, .slice A46 s59.2.length c47), (7, vi s59.1), (8, vi r72), (9, vi r73), (27, vi (((List.replicate ((if (x1.length : Int) > (x0.length : Int) then (x1.length : Int) else (x0.length : Int))).toNat (0 : Int)).length : Nat) : Int)), (28, vi s59.1), (47, .bool false)] hf89 (oi (neF c90) ot) fun a91 hf92 => ?_
      refine thenN ?_
      refine cF hf92 ?_
      refine wp_skip ?_
      refine thenN ?_
      obtain ⟨g93, H1⟩ := ifS_guard H1
      have q94 := (hm87.owAt 0 rfl).int (w64 ((w64 ((s59.2.length : Int) - 1)) - s59.1)) g93.1 g93.2
      refine inReg ?_
      refine gg 10 [] [(0, .slice A0 x0.length c0), (1, .slice A1 x1.length c1), (6, .slice A46 s59.2.length c47), (27, vi (((List.replicate ((if (x1.length : Int) > (x0.length : Int) then (x1.length : Int) else (x0.length : Int))).toNat (0 : Int)).length : Nat) : Int)), (28, vi s59.1), (56, vi (if r73 > r72 then r73 else r72)), (57, .pointer (some ((ad A46).add (((w64 ((w64 ((s59.2.length : Int) - 1)) - s59.1))).toNat * 1))))] hf92 (oi q94.1 (oi g93 ot)) fun a95 hf96 => ?_
      refine lo hf96 rfl (so (i := (w64 ((w64 ((s59.2.length : Int) - 1)) - s59.1))) (x := (if r73 > r72 then r73 else r72)) (us := [.int .i64 (if r73 > r72 then r73 else r72)]) (sz := 1) hf96 (hm87.at 0 rfl) rfl g93.1 g93.2 ?_)
      intro w97 hx98 hg99
      have hm100 := hm87.setOwn 0 _ rfl rfl hx98 hg99 (.inl rfl)
      refine endL rfl ?_
      refine blkN ?_
      refine thenN ?_
      refine rg [] [(0, .slice A0 x0.length c0), (1, .slice A1 x1.length c1), (6, .slice A46 s59.2.length c47), (27, vi (((List.replicate ((if (x1.length : Int) > (x0.length : Int) then (x1.length : Int) else (x0.length : Int))).toNat (0 : Int)).length : Nat) : Int)), (28, vi (w64 (s59.1 + 1)))] hf96 ot fun a101 hf102 => ?_
      have hf103 : Fr 68 a101 [(0, .slice A0 x0.length c0), (1, .slice A1 x1.length c1), (6, .slice A46 s59.2.length c47), (27, .int .i64 (((List.replicate ((if (x1.length : Int) > (x0.length : Int) then (x1.length : Int) else (x0.length : Int))).toNat (0 : Int)).length : Nat) : Int)), (28, .int .i64 (w64 (s59.1 + 1)))] := hf102.se [0, 1, 6, 27, 28]
      have hm104 : Mem [] M w0 [.ow (Kd.int .i64) 3 A46 c47 (put s59.2 (w64 ((w64 ((s59.2.length : Int) - 1)) - s59.1)) (if r73 > r72 then r73 else r72)), .sl (Kd.int .i64) A0 c0 x0, .sl (Kd.int .i64) A1 c1 x1] w97 := hm100.se [0, 1, 2] _ rfl
      exact ⟨((w64 (s59.1 + 1)), (put s59.2 (w64 ((w64 ((s59.2.length : Int) - 1)) - s59.1)) (if r73 > r72 then r73 else r72))), H1, (by simpa only [put_length, List.length_nil] using hf103), (by simpa only [put_length, List.length_nil] using hm104)⟩
    rcases ifS_split H1 with ⟨c105, H1⟩ | ⟨c105, H1⟩
    · refine rg [.bool true, .bool false] [(0, .slice A0 x0.length c0), (1, .slice A1 x1.length c1), (6, .slice A46 s59.2.length c47), (7, vi s59.1), (8, vi r72), (9, vi r73), (27, vi (((List.replicate ((if (x1.length : Int) > (x0.length : Int) then (x1.length : Int) else (x0.length : Int))).toNat (0 : Int)).length : Nat) : Int)), (28, vi s59.1), (47, .bool false)] hf89 (oi (neT c90) (oi (neF c105) ot)) fun a106 hf107 => ?_
      refine thenN ?_
      refine cF hf107 ?_
      refine wp_skip ?_
      refine thenN ?_
      obtain ⟨g108, H1⟩ := ifS_guard H1
      have q109 := (hm87.owAt 0 rfl).int (w64 ((w64 ((s59.2.length : Int) - 1)) - s59.1)) g108.1 g108.2
      refine inReg ?_
      refine gg 10 [] [(0, .slice A0 x0.length c0), (1, .slice A1 x1.length c1), (6, .slice A46 s59.2.length c47), (27, vi (((List.replicate ((if (x1.length : Int) > (x0.length : Int) then (x1.length : Int) else (x0.length : Int))).toNat (0 : Int)).length : Nat) : Int)), (28, vi s59.1), (56, vi (if r73 > r72 then r73 else r72)), (57, .pointer (some ((ad A46).add (((w64 ((w64 ((s59.2.length : Int) - 1)) - s59.1))).toNat * 1))))] hf107 (oi q109.1 (oi g108 ot)) fun a110 hf111 => ?_
      refine lo hf111 rfl (so (i := (w64 ((w64 ((s59.2.length : Int) - 1)) - s59.1))) (x := (if r73 > r72 then r73 else r72)) (us := [.int .i64 (if r73 > r72 then r73 else r72)]) (sz := 1) hf111 (hm87.at 0 rfl) rfl g108.1 g108.2 ?_)
      intro w112 hx113 hg114
      have hm115 := hm87.setOwn 0 _ rfl rfl hx113 hg114 (.inl rfl)
      refine endL rfl ?_
      refine blkN ?_
      refine thenN ?_
      refine rg [] [(0, .slice A0 x0.length c0), (1, .slice A1 x1.length c1), (6, .slice A46 s59.2.length c47), (27, vi (((List.replicate ((if (x1.length : Int) > (x0.length : Int) then (x1.length : Int) else (x0.length : Int))).toNat (0 : Int)).length : Nat) : Int)), (28, vi (w64 (s59.1 + 1)))] hf111 ot fun a116 hf117 => ?_
      have hf118 : Fr 68 a116 [(0, .slice A0 x0.length c0), (1, .slice A1 x1.length c1), (6, .slice A46 s59.2.length c47), (27, .int .i64 (((List.replicate ((if (x1.length : Int) > (x0.length : Int) then (x1.length : Int) else (x0.length : Int))).toNat (0 : Int)).length : Nat) : Int)), (28, .int .i64 (w64 (s59.1 + 1)))] := hf117.se [0, 1, 6, 27, 28]
      have hm119 : Mem [] M w0 [.ow (Kd.int .i64) 3 A46 c47 (put s59.2 (w64 ((w64 ((s59.2.length : Int) - 1)) - s59.1)) (if r73 > r72 then r73 else r72)), .sl (Kd.int .i64) A0 c0 x0, .sl (Kd.int .i64) A1 c1 x1] w112 := hm115.se [0, 1, 2] _ rfl
      exact ⟨((w64 (s59.1 + 1)), (put s59.2 (w64 ((w64 ((s59.2.length : Int) - 1)) - s59.1)) (if r73 > r72 then r73 else r72))), H1, (by simpa only [put_length, List.length_nil] using hf118), (by simpa only [put_length, List.length_nil] using hm119)⟩
    rcases ifS_split H1 with ⟨c120, H1⟩ | ⟨c120, H1⟩
    · refine rg [.bool true, .bool true, .bool false] [(0, .slice A0 x0.length c0), (1, .slice A1 x1.length c1), (6, .slice A46 s59.2.length c47), (7, vi s59.1), (8, vi r72), (9, vi r73), (27, vi (((List.replicate ((if (x1.length : Int) > (x0.length : Int) then (x1.length : Int) else (x0.length : Int))).toNat (0 : Int)).length : Nat) : Int)), (28, vi s59.1), (47, .bool false)] hf89 (oi (neT c90) (oi (neT c105) (oi (neF c120) ot))) fun a121 hf122 => ?_
      refine thenN ?_
      refine cF hf122 ?_
      refine wp_skip ?_
      refine thenN ?_
      obtain ⟨g123, H1⟩ := ifS_guard H1
      have q124 := (hm87.owAt 0 rfl).int (w64 ((w64 ((s59.2.length : Int) - 1)) - s59.1)) g123.1 g123.2
      refine inReg ?_
      refine gg 10 [] [(0, .slice A0 x0.length c0), (1, .slice A1 x1.length c1), (6, .slice A46 s59.2.length c47), (27, vi (((List.replicate ((if (x1.length : Int) > (x0.length : Int) then (x1.length : Int) else (x0.length : Int))).toNat (0 : Int)).length : Nat) : Int)), (28, vi s59.1), (56, vi (if r73 > r72 then r73 else r72)), (57, .pointer (some ((ad A46).add (((w64 ((w64 ((s59.2.length : Int) - 1)) - s59.1))).toNat * 1))))] hf122 (oi q124.1 (oi g123 ot)) fun a125 hf126 => ?_
      refine lo hf126 rfl (so (i := (w64 ((w64 ((s59.2.length : Int) - 1)) - s59.1))) (x := (if r73 > r72 then r73 else r72)) (us := [.int .i64 (if r73 > r72 then r73 else r72)]) (sz := 1) hf126 (hm87.at 0 rfl) rfl g123.1 g123.2 ?_)
      intro w127 hx128 hg129
      have hm130 := hm87.setOwn 0 _ rfl rfl hx128 hg129 (.inl rfl)
      refine endL rfl ?_
      refine blkN ?_
      refine thenN ?_
      refine rg [] [(0, .slice A0 x0.length c0), (1, .slice A1 x1.length c1), (6, .slice A46 s59.2.length c47), (27, vi (((List.replicate ((if (x1.length : Int) > (x0.length : Int) then (x1.length : Int) else (x0.length : Int))).toNat (0 : Int)).length : Nat) : Int)), (28, vi (w64 (s59.1 + 1)))] hf126 ot fun a131 hf132 => ?_
      have hf133 : Fr 68 a131 [(0, .slice A0 x0.length c0), (1, .slice A1 x1.length c1), (6, .slice A46 s59.2.length c47), (27, .int .i64 (((List.replicate ((if (x1.length : Int) > (x0.length : Int) then (x1.length : Int) else (x0.length : Int))).toNat (0 : Int)).length : Nat) : Int)), (28, .int .i64 (w64 (s59.1 + 1)))] := hf132.se [0, 1, 6, 27, 28]
      have hm134 : Mem [] M w0 [.ow (Kd.int .i64) 3 A46 c47 (put s59.2 (w64 ((w64 ((s59.2.length : Int) - 1)) - s59.1)) (if r73 > r72 then r73 else r72)), .sl (Kd.int .i64) A0 c0 x0, .sl (Kd.int .i64) A1 c1 x1] w127 := hm130.se [0, 1, 2] _ rfl
      exact ⟨((w64 (s59.1 + 1)), (put s59.2 (w64 ((w64 ((s59.2.length : Int) - 1)) - s59.1)) (if r73 > r72 then r73 else r72))), H1, (by simpa only [put_length, List.length_nil] using hf133), (by simpa only [put_length, List.length_nil] using hm134)⟩
    refine rg [.bool true, .bool true, .bool true] [(0, .slice A0 x0.length c0), (1, .slice A1 x1.length c1), (6, .slice A46 s59.2.length c47), (7, vi s59.1), (8, vi r72), (9, vi r73), (27, vi (((List.replicate ((if (x1.length : Int) > (x0.length : Int) then (x1.length : Int) else (x0.length : Int))).toNat (0 : Int)).length : Nat) : Int)), (28, vi s59.1), (47, .bool true)] hf89 (oi (neT c90) (oi (neT c105) (oi (neT c120) ot))) fun a135 hf136 => ?_
    refine thenN ?_
    refine cT hf136 ?_
    refine wp_seq ?_
    refine rg [] [(4, .slice none 0 0), (5, vi 2)] hf136 ot fun a137 hf138 => ?_
    have hm139 := hm87.se [] _ rfl
    refine thenN ?_
    refine wp_ret ?_
    refine thenR ?_
    refine blkR ?_
    refine thenR ?_
    refine thenR ?_
    refine .inr ⟨rfl, ?_⟩
    refine thenR ?_
    have hm140 := hm139.nilOw (Kd.int .i64) 3
    have hm141 : Mem [] M w0 [.ow (Kd.int .i64) 3 none 0 ([] : (List Int))] w83 := hm140.se [0] _ rfl
    obtain rfl := Option.some.inj H1
    obtain rfl := Option.some.inj H0
    refine rt [] [.slice none 0 0, .int .i64 2] hf138 ot ?_
    exact ⟨_, rfl, none, 0, rfl, hm141⟩
  rintro a145 w146 ⟨yr60, rfl, hf147, hm148⟩
  refine thenN ?_
  refine wp_seq ?_
  refine wp_seq ?_
  obtain ⟨r149, hr149, H0⟩ := ob_split H0
  refine inReg ?_
  refine gg 1 [] [(6, .slice A46 yr60.2.length c47), (60, .slice A46 yr60.2.length c47)] hf147 ot fun a150 hf151 => ?_
  have hm152 : Mem [] M w0 [.sl (Kd.int .i64) A46 c47 yr60.2, .sl (Kd.int .i64) A0 c0 x0, .sl (Kd.int .i64) A1 c1 x1] w146 := hm148.seal 0 _ rfl rfl
  refine lo hf151 rfl (cl 61 hf151 callable45 (shape_Size.calls _ _ _ _ _ _ rfl (hm152.give [0] [.sl (Kd.int .i64) A46 c47 yr60.2] rfl rfl) r149 hr149) ?_)
  rintro _ w153 a154 ⟨rfl, hk156⟩ hf155
  have hm157 := hm148.still hk156.cum.none
  refine gg 5 [] [(6, .slice A46 yr60.2.length c47), (11, vi r149.2)] hf155 ot fun a158 hf159 => ?_
  refine endL rfl ?_
  have hm160 := hm157.se [0] _ rfl
  refine thenN ?_
  refine wp_seq ?_
  rcases if_split H0 with ⟨c161, H0⟩ | ⟨c161, H0⟩
  · refine rg [.bool false] [(6, .slice A46 yr60.2.length c47), (11, vi r149.2), (65, .bool false)] hf159 (oi (neF c161) ot) fun a162 hf163 => ?_
    refine thenN ?_
    refine cF hf163 ?_
    refine wp_skip ?_
    refine thenN ?_
    refine wp_seq ?_
    refine rg [] [(4, .slice A46 yr60.2.length c47), (5, vi 0)] hf163 ot fun a164 hf165 => ?_
    refine thenN ?_
    refine wp_ret ?_
    have hm166 : Mem [] M w0 [.ow (Kd.int .i64) 3 A46 c47 yr60.2] w153 := hm160.se [0] _ rfl
    obtain rfl := Option.some.inj H0
    refine rt [] [.slice A46 yr60.2.length c47, .int .i64 0] hf165 ot ?_
    exact ⟨_, rfl, A46, c47, rfl, hm166⟩
  refine rg [.bool true] [(6, .slice A46 yr60.2.length c47), (11, vi r149.2), (65, .bool true)] hf159 (oi (neT c161) ot) fun a168 hf169 => ?_
  refine thenN ?_
  refine cT hf169 ?_
  refine wp_seq ?_
  refine rg [] [(4, .slice none 0 0), (5, vi r149.2)] hf169 ot fun a170 hf171 => ?_
  have hm172 := hm160.se [] _ rfl
  refine thenN ?_
  refine wp_ret ?_
  refine thenR ?_
  have hm173 := hm172.nilOw (Kd.int .i64) 3
  have hm174 : Mem [] M w0 [.ow (Kd.int .i64) 3 none 0 ([] : (List Int))] w153 := hm173.se [0] _ rfl
  obtain rfl := Option.some.inj H0
  refine rt [] [.slice none 0 0, .int .i64 r149.2] hf171 ot ?_
  exact ⟨_, rfl, none, 0, rfl, hm174⟩

/-! ### backstitch/shape.Place -/
noncomputable def shape_Place.l0 (x0 : (List Int)) (s71 : (Int × Int × (List Int))) : Step (Int × Int × (List Int)) (Int × Int × (List Int)) :=
  if 0 ≤ s71.2.1 then (if 0 ≤ s71.2.1 ∧ s71.2.1 < (x0.length : Int) then (if (rd x0 s71.2.1) ≠ 0 then (if 0 ≤ s71.2.1 ∧ s71.2.1 < (s71.2.2.length : Int) then (.next ((w64 (Int.tdiv s71.1 (rd x0 s71.2.1))), (w64 (s71.2.1 - 1)), (put s71.2.2 s71.2.1 (Int.tmod s71.1 (rd x0 s71.2.1)))))
  else .bad)
  else .bad)
  else .bad)
  else (.done (s71.1, s71.2.1, s71.2.2))
noncomputable def shape_Place.f (x0 : (List Int)) (x1 : Int) : Option (List Int) :=
  (shape_Size.f x0).bind fun r23 =>
  if r23.2 = 0 then (if x1 < 0 then (some ([] : (List Int)))
  else (if r23.1 ≤ x1 then (some ([] : (List Int)))
  else (if 0 ≤ (x0.length : Int) ∧ (x0.length : Int) ≤ 1099511627776 then ((loop (shape_Place.l0 x0) (x1, (w64 ((x0.length : Int) - 1)), (List.replicate ((x0.length : Int)).toNat (0 : Int)))).bind fun r72 =>
  some r72.2.2)
  else none)))
  else (some ([] : (List Int)))
set_option maxRecDepth 100000 in
set_option maxHeartbeats 4000000 in
theorem shape_Place.calls (M : List (Option Nat)) (w0 : World) (x0 : (List Int)) (A0 : Option Addr) (n0 c0 : Nat) (e0 : n0 = x0.length) (x1 : Int) (hm0 : Mem [] M w0 [.sl (Kd.int .i64) A0 c0 x0] w0) (r : (List Int)) (H0 : shape_Place.f x0 x1 = some r) :
    Calls Try.prog 51 [.slice A0 n0 c0, .int .i64 x1].toArray w0 (fun x w' => ∃ v, x = .returned v ∧ ∃ Ar0 cr0, v = .slice Ar0 r.length cr0 ∧ Mem [] M w0 [.ow (Kd.int .i64) 3 Ar0 cr0 r] w') := by
  subst e0
  unfold shape_Place.f at H0
  refine enter (n := 51) Try.func51 rfl rfl (by kernel_rfl) fun a0 (hf0 : Fr 51 a0 [(0, .slice A0 x0.length c0), (1, .int .i64 x1)]) => ?_
  refine wp_seq ?_
  refine rg [] [(0, .slice A0 x0.length c0), (1, vi x1)] hf0 ot fun a21 hf22 => ?_
  refine thenN ?_
  refine wp_seq ?_
  obtain ⟨r23, hr23, H0⟩ := ob_split H0
  refine inReg ?_
  refine gg 1 [] [(0, .slice A0 x0.length c0), (1, vi x1), (10, .slice A0 x0.length c0)] hf22 ot fun a24 hf25 => ?_
  refine lo hf25 rfl (cl 11 hf25 callable45 (shape_Size.calls _ _ _ _ _ _ rfl (hm0.give [0] [.sl (Kd.int .i64) A0 c0 x0] rfl rfl) r23 hr23) ?_)
  rintro _ w26 a27 ⟨rfl, hk29⟩ hf28
  have hm30 := hm0.still hk29.cum.none
  refine gg 5 [] [(0, .slice A0 x0.length c0), (1, vi x1), (5, vi r23.1), (6, vi r23.2)] hf28 ot fun a31 hf32 => ?_
  refine endL rfl ?_
  refine thenN ?_
  refine wp_seq ?_
  refine wp_seq ?_
  rcases if_split H0 with ⟨c33, H0⟩ | ⟨c33, H0⟩
  rotate_left
  · refine rg [.bool true] [(0, .slice A0 x0.length c0), (1, vi x1), (24, .bool true)] hf32 (oi (neT c33) ot) fun a110 hf111 => ?_
    refine thenN ?_
    refine cT hf111 ?_
    refine wp_seq ?_
    refine rg [] [(4, .slice none 0 0)] hf111 ot fun a112 hf113 => ?_
    have hm114 := hm30.se [] _ rfl
    refine thenN ?_
    refine wp_ret ?_
    refine thenR ?_
    have hm115 := hm114.nilOw (Kd.int .i64) 3
    have hm116 : Mem [] M w0 [.ow (Kd.int .i64) 3 none 0 ([] : (List Int))] w26 := hm115.se [0] _ rfl
    obtain rfl := Option.some.inj H0
    refine rt [] [.slice none 0 0] hf113 ot ?_
    exact ⟨_, rfl, none, 0, rfl, hm116⟩
  rcases if_split H0 with ⟨c34, H0⟩ | ⟨c34, H0⟩
  · refine rg (ob := [.is (((r23.2 : Int) != 0) = false), .is (decide (x1 < 0) = true)]) [.bool false, .bool true] [(0, .slice A0 x0.length c0), (1, vi x1), (24, .bool true)] hf32 ⟨(neF c33), (decide_eq_true c34), trivial⟩ fun a35 hf36 => ?_
    refine thenN ?_
    refine cT hf36 ?_
    refine wp_seq ?_
    refine rg [] [(4, .slice none 0 0)] hf36 ot fun a37 hf38 => ?_
    have hm39 := hm30.se [] _ rfl
    refine thenN ?_
    refine wp_ret ?_
    refine thenR ?_
    have hm40 := hm39.nilOw (Kd.int .i64) 3
    have hm41 : Mem [] M w0 [.ow (Kd.int .i64) 3 none 0 ([] : (List Int))] w26 := hm40.se [0] _ rfl
    obtain rfl := Option.some.inj H0
    refine rt [] [.slice none 0 0] hf38 ot ?_
    exact ⟨_, rfl, none, 0, rfl, hm41⟩
  rcases if_split H0 with ⟨c43, H0⟩ | ⟨c43, H0⟩
  · refine rg (ob := [.is (((r23.2 : Int) != 0) = false), .is (decide (x1 < 0) = false), .is (decide (r23.1 ≤ x1) = true)]) [.bool false, .bool false, .bool true] [(0, .slice A0 x0.length c0), (1, vi x1), (24, .bool true)] hf32 ⟨(neF c33), (decide_eq_false c34), (decide_eq_true c43), trivial⟩ fun a44 hf45 => ?_
    refine thenN ?_
    refine cT hf45 ?_
    refine wp_seq ?_
    refine rg [] [(4, .slice none 0 0)] hf45 ot fun a46 hf47 => ?_
    have hm48 := hm30.se [] _ rfl
    refine thenN ?_
    refine wp_ret ?_
    refine thenR ?_
    have hm49 := hm48.nilOw (Kd.int .i64) 3
    have hm50 : Mem [] M w0 [.ow (Kd.int .i64) 3 none 0 ([] : (List Int))] w26 := hm49.se [0] _ rfl
    obtain rfl := Option.some.inj H0
    refine rt [] [.slice none 0 0] hf47 ot ?_
    exact ⟨_, rfl, none, 0, rfl, hm50⟩
  refine rg (ob := [.is (((r23.2 : Int) != 0) = false), .is (decide (x1 < 0) = false), .is (decide (r23.1 ≤ x1) = false)]) [.bool false, .bool false, .bool false] [(0, .slice A0 x0.length c0), (1, vi x1), (24, .bool false)] hf32 ⟨(neF c33), (decide_eq_false c34), (decide_eq_false c43), trivial⟩ fun a52 hf53 => ?_
  refine thenN ?_
  refine cF hf53 ?_
  refine wp_skip ?_
  refine thenN ?_
  refine wp_seq ?_
  obtain ⟨g54, H0⟩ := if_guard H0
  refine inReg ?_
  refine gg 2 [] [(0, .slice A0 x0.length c0), (1, vi x1), (26, vi (x0.length : Int))] hf53 ot fun a55 hf56 => ?_
  refine lo hf56 rfl (aMake (kd := (Kd.int .i64)) (x := 0) (E := 3) (L := (x0.length : Int)) (z := [.int .i64 0]) (sz := 1) (d := 27) hf56 (by kernel_rfl) (by kernel_rfl) rfl (fun _ _ => rfl) g54.1 g54.2 ?_)
  intro A57 c58 w59 a60 ho62 hb65 hg63 hf61
  have hm66 : Mem [] M w0 [.ow (Kd.int .i64) 3 A57 c58 (List.replicate ((x0.length : Int)).toNat (0 : Int)), .sl (Kd.int .i64) A0 c0 x0] w59 := hm30.own (ho62 _) hg63
  refine gg 1 [] [(0, .slice A0 x0.length c0), (1, vi x1), (7, .slice A57 ((List.replicate ((x0.length : Int)).toNat (0 : Int)).length) c58)] hf61 ot fun a67 hf68 => ?_
  refine endL rfl ?_
  refine thenN ?_
  refine wp_seq ?_
  refine wp_seq ?_
  refine rg [] [(0, .slice A0 x0.length c0), (1, vi x1), (7, .slice A57 ((List.replicate ((x0.length : Int)).toNat (0 : Int)).length) c58), (8, vi (w64 ((x0.length : Int) - 1)))] hf68 ot fun a69 hf70 => ?_
  refine thenN ?_
  obtain ⟨r72, hr72, H0⟩ := ob_split H0
  refine wpBlock (Mid := fun (a : Act) (w : World) => Fr 51 a [(0, .slice A0 x0.length c0), (1, .int .i64 r72.1), (7, .slice A57 r72.2.2.length c58), (8, .int .i64 r72.2.1)] ∧ Mem [] M w0 [.ow (Kd.int .i64) 3 A57 c58 r72.2.2, .sl (Kd.int .i64) A0 c0 x0] w) ?_ ?_
  · refine wpLoop (shape_Place.l0 x0) r72 (fun (s71 : (Int × Int × (List Int))) (a : Act) (w : World) => Fr 51 a [(0, .slice A0 x0.length c0), (1, .int .i64 s71.1), (7, .slice A57 s71.2.2.length c58), (8, .int .i64 s71.2.1)] ∧ Mem [] M w0 [.ow (Kd.int .i64) 3 A57 c58 s71.2.2, .sl (Kd.int .i64) A0 c0 x0] w) (x1, (w64 ((x0.length : Int) - 1)), (List.replicate ((x0.length : Int)).toNat (0 : Int))) hr72 ⟨hf70.se [0, 1, 7, 8], hm66.se [0, 1] _ rfl⟩ ?_
    rintro g73 s71 a74 w75 H1 ⟨hf76, hm77⟩
    unfold shape_Place.l0 at H1
    refine wp_seq ?_
    refine wp_seq ?_
    rcases ifS_split H1 with ⟨c78, H1⟩ | ⟨c78, H1⟩
    rotate_left
    · refine rg (ob := [.is (decide (0 ≤ s71.2.1) = false)]) [.bool false] [(0, .slice A0 x0.length c0), (1, vi s71.1), (7, .slice A57 s71.2.2.length c58), (8, vi s71.2.1), (32, .bool false)] hf76 ⟨(decide_eq_false c78), trivial⟩ fun a99 hf100 => ?_
      refine thenN ?_
      refine cF hf100 ?_
      refine wp_exit ?_
      refine thenE ?_
      refine thenE ?_
      obtain rfl := Option.some.inj H1
      exact .inl ⟨rfl, hf100.se [0, 1, 7, 8], hm77.se [0, 1] _ rfl⟩
    refine rg (ob := [.is (decide (0 ≤ s71.2.1) = true)]) [.bool true] [(0, .slice A0 x0.length c0), (1, vi s71.1), (7, .slice A57 s71.2.2.length c58), (8, vi s71.2.1), (32, .bool true)] hf76 ⟨(decide_eq_true c78), trivial⟩ fun a79 hf80 => ?_
    refine thenN ?_
    refine cT hf80 ?_
    refine wp_skip ?_
    refine thenN ?_
    refine wp_seq ?_
    refine wp_block ?_
    refine wp_seq ?_
    obtain ⟨g81, H1⟩ := ifS_guard H1
    obtain ⟨g82, H1⟩ := ifS_guard H1
    obtain ⟨g83, H1⟩ := ifS_guard H1
    have q84 := (hm77.slAt 1 rfl).int s71.2.1 g81.1 g81.2
    have q85 := (hm77.owAt 0 rfl).int s71.2.1 g83.1 g83.2
    refine inReg ?_
    refine gg 9 [.int .i64 (rd x0 s71.2.1)] [(0, .slice A0 x0.length c0), (1, vi s71.1), (7, .slice A57 s71.2.2.length c58), (8, vi s71.2.1), (42, vi (Int.tmod s71.1 (rd x0 s71.2.1))), (43, .pointer (some ((ad A57).add ((s71.2.1).toNat * 1))))] hf80 (oi q84.1 (oi g81 (oc q84.2 (oi g82 (oi q85.1 (oi g83 ot)))))) fun a86 hf87 => ?_
    refine lo hf87 rfl (so (i := s71.2.1) (x := (Int.tmod s71.1 (rd x0 s71.2.1))) (us := [.int .i64 (Int.tmod s71.1 (rd x0 s71.2.1))]) (sz := 1) hf87 (hm77.at 0 rfl) rfl g83.1 g83.2 ?_)
    intro w88 hx89 hg90
    have hm91 := hm77.setOwn 0 _ rfl rfl hx89 hg90 (.inl rfl)
    refine endL rfl ?_
    refine thenN ?_
    have q92 := (hm91.slAt 1 rfl).int s71.2.1 g81.1 g81.2
    refine rg [.int .i64 (rd x0 s71.2.1)] [(0, .slice A0 x0.length c0), (1, vi (w64 (Int.tdiv s71.1 (rd x0 s71.2.1)))), (7, .slice A57 s71.2.2.length c58), (8, vi s71.2.1)] hf87 (oi q92.1 (oi g81 (oc q92.2 (oi g82 ot)))) fun a93 hf94 => ?_
    refine blkN ?_
    refine thenN ?_
    refine rg [] [(0, .slice A0 x0.length c0), (1, vi (w64 (Int.tdiv s71.1 (rd x0 s71.2.1)))), (7, .slice A57 s71.2.2.length c58), (8, vi (w64 (s71.2.1 - 1)))] hf94 ot fun a95 hf96 => ?_
    have hf97 : Fr 51 a95 [(0, .slice A0 x0.length c0), (1, .int .i64 (w64 (Int.tdiv s71.1 (rd x0 s71.2.1)))), (7, .slice A57 s71.2.2.length c58), (8, .int .i64 (w64 (s71.2.1 - 1)))] := hf96.se [0, 1, 7, 8]
    have hm98 : Mem [] M w0 [.ow (Kd.int .i64) 3 A57 c58 (put s71.2.2 s71.2.1 (Int.tmod s71.1 (rd x0 s71.2.1))), .sl (Kd.int .i64) A0 c0 x0] w88 := hm91.se [0, 1] _ rfl
    exact ⟨((w64 (Int.tdiv s71.1 (rd x0 s71.2.1))), (w64 (s71.2.1 - 1)), (put s71.2.2 s71.2.1 (Int.tmod s71.1 (rd x0 s71.2.1)))), H1, (by simpa only [put_length, List.length_nil] using hf97), (by simpa only [put_length, List.length_nil] using hm98)⟩
  rintro a101 w102 ⟨hf103, hm104⟩
  refine thenN ?_
  refine wp_seq ?_
  refine rg [] [(4, .slice A57 r72.2.2.length c58)] hf103 ot fun a105 hf106 => ?_
  have hm107 := hm104.se [0] _ rfl
  refine thenN ?_
  refine wp_ret ?_
  have hm108 : Mem [] M w0 [.ow (Kd.int .i64) 3 A57 c58 r72.2.2] w102 := hm107.se [0] _ rfl
  obtain rfl := Option.some.inj H0
  refine rt [] [.slice A57 r72.2.2.length c58] hf106 ot ?_
  exact ⟨_, rfl, A57, c58, rfl, hm108⟩
end Go.Proofs.Yteaoijahdinciaa
