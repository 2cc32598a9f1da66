/- Printed by gen.py. -/
import Derived.Test.YteaoijahdinciaaF16
import Derived.Test.YteaoijahdinciaaF9
namespace Go.Proofs.Yteaoijahdinciaa
open Go Go.RowKit
set_option linter.unusedSimpArgs false
set_option linter.unusedVariables false
set_option linter.unnecessarySimpa false
/-! ### backstitch/backstitchref1.Spread -/
noncomputable def ref1_Spread.l0 (x1 : (List Int)) (x0 : (List Int)) (s61 : (Int × (List Int))) : Step (Int × (List Int)) (Out2 (Int × (List Int)) ((List Int) × Int)) :=
  if s61.1 ≤ (if (x1.length : Int) > (x0.length : Int) then (x1.length : Int) else (x0.length : Int)) then (if s61.1 ≤ (x0.length : Int) then (if 0 ≤ (w64 ((x0.length : Int) - s61.1)) ∧ (w64 ((x0.length : Int) - s61.1)) < (x0.length : Int) then (if s61.1 ≤ (x1.length : Int) then (if 0 ≤ (w64 ((x1.length : Int) - s61.1)) ∧ (w64 ((x1.length : Int) - s61.1)) < (x1.length : Int) then (if (rd x0 (w64 ((x0.length : Int) - s61.1))) = (rd x1 (w64 ((x1.length : Int) - s61.1))) then (if 0 ≤ (w64 ((if (x1.length : Int) > (x0.length : Int) then (x1.length : Int) else (x0.length : Int)) - s61.1)) ∧ (w64 ((if (x1.length : Int) > (x0.length : Int) then (x1.length : Int) else (x0.length : Int)) - s61.1)) < (s61.2.length : Int) then (.next ((w64 (s61.1 + 1)), (put s61.2 (w64 ((if (x1.length : Int) > (x0.length : Int) then (x1.length : Int) else (x0.length : Int)) - s61.1)) (if (rd x1 (w64 ((x1.length : Int) - s61.1))) > (rd x0 (w64 ((x0.length : Int) - s61.1))) then (rd x1 (w64 ((x1.length : Int) - s61.1))) else (rd x0 (w64 ((x0.length : Int) - s61.1)))))))
  else .bad)
  else (if (rd x0 (w64 ((x0.length : Int) - s61.1))) = 1 then (if 0 ≤ (w64 ((if (x1.length : Int) > (x0.length : Int) then (x1.length : Int) else (x0.length : Int)) - s61.1)) ∧ (w64 ((if (x1.length : Int) > (x0.length : Int) then (x1.length : Int) else (x0.length : Int)) - s61.1)) < (s61.2.length : Int) then (.next ((w64 (s61.1 + 1)), (put s61.2 (w64 ((if (x1.length : Int) > (x0.length : Int) then (x1.length : Int) else (x0.length : Int)) - s61.1)) (if (rd x1 (w64 ((x1.length : Int) - s61.1))) > (rd x0 (w64 ((x0.length : Int) - s61.1))) then (rd x1 (w64 ((x1.length : Int) - s61.1))) else (rd x0 (w64 ((x0.length : Int) - s61.1)))))))
  else .bad)
  else (if (rd x1 (w64 ((x1.length : Int) - s61.1))) = 1 then (if 0 ≤ (w64 ((if (x1.length : Int) > (x0.length : Int) then (x1.length : Int) else (x0.length : Int)) - s61.1)) ∧ (w64 ((if (x1.length : Int) > (x0.length : Int) then (x1.length : Int) else (x0.length : Int)) - s61.1)) < (s61.2.length : Int) then (.next ((w64 (s61.1 + 1)), (put s61.2 (w64 ((if (x1.length : Int) > (x0.length : Int) then (x1.length : Int) else (x0.length : Int)) - s61.1)) (if (rd x1 (w64 ((x1.length : Int) - s61.1))) > (rd x0 (w64 ((x0.length : Int) - s61.1))) then (rd x1 (w64 ((x1.length : Int) - s61.1))) else (rd x0 (w64 ((x0.length : Int) - s61.1)))))))
  else .bad)
  else (.done (.ret (([] : (List Int)), 2))))))
  else .bad)
  else (if (rd x0 (w64 ((x0.length : Int) - s61.1))) = 1 then (if 0 ≤ (w64 ((if (x1.length : Int) > (x0.length : Int) then (x1.length : Int) else (x0.length : Int)) - s61.1)) ∧ (w64 ((if (x1.length : Int) > (x0.length : Int) then (x1.length : Int) else (x0.length : Int)) - s61.1)) < (s61.2.length : Int) then (.next ((w64 (s61.1 + 1)), (put s61.2 (w64 ((if (x1.length : Int) > (x0.length : Int) then (x1.length : Int) else (x0.length : Int)) - s61.1)) (if 1 > (rd x0 (w64 ((x0.length : Int) - s61.1))) then 1 else (rd x0 (w64 ((x0.length : Int) - s61.1)))))))
  else .bad)
  else (if 0 ≤ (w64 ((if (x1.length : Int) > (x0.length : Int) then (x1.length : Int) else (x0.length : Int)) - s61.1)) ∧ (w64 ((if (x1.length : Int) > (x0.length : Int) then (x1.length : Int) else (x0.length : Int)) - s61.1)) < (s61.2.length : Int) then (.next ((w64 (s61.1 + 1)), (put s61.2 (w64 ((if (x1.length : Int) > (x0.length : Int) then (x1.length : Int) else (x0.length : Int)) - s61.1)) (if 1 > (rd x0 (w64 ((x0.length : Int) - s61.1))) then 1 else (rd x0 (w64 ((x0.length : Int) - s61.1)))))))
  else .bad)))
  else .bad)
  else (if s61.1 ≤ (x1.length : Int) then (if 0 ≤ (w64 ((x1.length : Int) - s61.1)) ∧ (w64 ((x1.length : Int) - s61.1)) < (x1.length : Int) then (if (1 : Int) = (rd x1 (w64 ((x1.length : Int) - s61.1))) then (if 0 ≤ (w64 ((if (x1.length : Int) > (x0.length : Int) then (x1.length : Int) else (x0.length : Int)) - s61.1)) ∧ (w64 ((if (x1.length : Int) > (x0.length : Int) then (x1.length : Int) else (x0.length : Int)) - s61.1)) < (s61.2.length : Int) then (.next ((w64 (s61.1 + 1)), (put s61.2 (w64 ((if (x1.length : Int) > (x0.length : Int) then (x1.length : Int) else (x0.length : Int)) - s61.1)) (if (rd x1 (w64 ((x1.length : Int) - s61.1))) > 1 then (rd x1 (w64 ((x1.length : Int) - s61.1))) else 1))))
  else .bad)
  else (if 0 ≤ (w64 ((if (x1.length : Int) > (x0.length : Int) then (x1.length : Int) else (x0.length : Int)) - s61.1)) ∧ (w64 ((if (x1.length : Int) > (x0.length : Int) then (x1.length : Int) else (x0.length : Int)) - s61.1)) < (s61.2.length : Int) then (.next ((w64 (s61.1 + 1)), (put s61.2 (w64 ((if (x1.length : Int) > (x0.length : Int) then (x1.length : Int) else (x0.length : Int)) - s61.1)) (if (rd x1 (w64 ((x1.length : Int) - s61.1))) > 1 then (rd x1 (w64 ((x1.length : Int) - s61.1))) else 1))))
  else .bad))
  else .bad)
  else (if 0 ≤ (w64 ((if (x1.length : Int) > (x0.length : Int) then (x1.length : Int) else (x0.length : Int)) - s61.1)) ∧ (w64 ((if (x1.length : Int) > (x0.length : Int) then (x1.length : Int) else (x0.length : Int)) - s61.1)) < (s61.2.length : Int) then (.next ((w64 (s61.1 + 1)), (put s61.2 (w64 ((if (x1.length : Int) > (x0.length : Int) then (x1.length : Int) else (x0.length : Int)) - s61.1)) (if 1 > 1 then 1 else 1))))
  else .bad)))
  else (.done (.go (s61.1, s61.2)))
noncomputable def ref1_Spread.f (x0 : (List Int)) (x1 : (List Int)) : Option ((List Int) × Int) :=
  (ref1_May.f x0).bind fun r23 =>
  if r23 = true then ((ref1_May.f x1).bind fun r25 =>
  if r25 = true then (if 0 ≤ (if (x1.length : Int) > (x0.length : Int) then (x1.length : Int) else (x0.length : Int)) ∧ (if (x1.length : Int) > (x0.length : Int) then (x1.length : Int) else (x0.length : Int)) ≤ 1099511627776 then ((loop (ref1_Spread.l0 x1 x0) (1, (List.replicate ((if (x1.length : Int) > (x0.length : Int) then (x1.length : Int) else (x0.length : Int))).toNat (0 : Int)))).bind fun r62 =>
  r62.on (fun yr62 =>
  (ref1_Size.f yr62.2).bind fun r232 =>
  if r232.2 = 0 then (some (yr62.2, 0))
  else (some (([] : (List Int)), r232.2))) (fun y => some y))
  else none)
  else (some (([] : (List Int)), 2)))
  else (some (([] : (List Int)), 2))
set_option maxRecDepth 100000 in
set_option maxHeartbeats 4000000 in
theorem ref1_Spread.calls (M : List (Option Nat)) (w0 : World) (x0 : (List Int)) (A0 : Option Addr) (n0 c0 : Nat) (e0 : n0 = x0.length) (x1 : (List Int)) (A1 : Option Addr) (n1 c1 : Nat) (e1 : n1 = x1.length) (hm0 : Mem [] M w0 [.sl (Kd.int .i64) A0 c0 x0, .sl (Kd.int .i64) A1 c1 x1] w0) (r : ((List Int) × Int)) (H0 : ref1_Spread.f x0 x1 = some r) :
    Calls Try.prog 54 [.slice A0 n0 c0, .slice A1 n1 c1].toArray w0 (fun x w' => ∃ v, x = .returned v ∧ ∃ Ar0 cr0, v = .tuple #[.slice Ar0 r.1.length cr0, .int .i64 r.2] ∧ Mem [] M w0 [.ow (Kd.int .i64) 3 Ar0 cr0 r.1] w') := by
  subst e0
  subst e1
  unfold ref1_Spread.f at H0
  refine enter (n := 83) Try.func54 rfl rfl (by kernel_rfl) fun a0 (hf0 : Fr 83 a0 [(0, .slice A0 x0.length c0), (1, .slice A1 x1.length c1)]) => ?_
  refine wp_seq ?_
  refine rg [] [(0, .slice A0 x0.length c0), (1, .slice A1 x1.length c1)] hf0 ot fun a21 hf22 => ?_
  refine thenN ?_
  refine wp_seq ?_
  refine wp_seq ?_
  obtain ⟨r23, hr23, H0⟩ := ob_split H0
  rcases ifb_split H0 with ⟨c24, H0⟩ | ⟨c24, H0⟩
  rotate_left
  · refine inReg ?_
    refine gg 1 [] [(0, .slice A0 x0.length c0), (1, .slice A1 x1.length c1), (13, .slice A0 x0.length c0)] hf22 ot fun a281 hf282 => ?_
    refine lo hf282 rfl (cl 14 hf282 callable69 (ref1_May.calls _ _ _ _ _ _ rfl (hm0.give [0] [.sl (Kd.int .i64) A0 c0 x0] rfl rfl) r23 hr23) ?_)
    rintro _ w283 a284 ⟨rfl, hk286⟩ hf285
    have hm287 := hm0.still hk286.cum.none
    rw [c24] at hf285
    refine gg 6 [] [(0, .slice A0 x0.length c0), (1, .slice A1 x1.length c1), (20, .bool true)] hf285 ot fun a288 hf289 => ?_
    refine endL rfl ?_
    refine thenN ?_
    refine cT hf289 ?_
    refine wp_seq ?_
    refine rg [] [(4, .slice none 0 0), (5, vi 2)] hf289 ot fun a290 hf291 => ?_
    have hm292 := hm287.se [] _ rfl
    refine thenN ?_
    refine wp_ret ?_
    refine thenR ?_
    have hm293 := hm292.nilOw (Kd.int .i64) 3
    have hm294 : Mem [] M w0 [.ow (Kd.int .i64) 3 none 0 ([] : (List Int))] w283 := hm293.se [0] _ rfl
    obtain rfl := Option.some.inj H0
    refine rt [] [.slice none 0 0, .int .i64 2] hf291 ot ?_
    exact ⟨_, rfl, none, 0, rfl, hm294⟩
  obtain ⟨r25, hr25, H0⟩ := ob_split H0
  rcases ifb_split H0 with ⟨c26, H0⟩ | ⟨c26, H0⟩
  rotate_left
  · refine inReg ?_
    refine gg 1 [] [(0, .slice A0 x0.length c0), (1, .slice A1 x1.length c1), (13, .slice A0 x0.length c0)] hf22 ot fun a259 hf260 => ?_
    refine lo hf260 rfl (cl 14 hf260 callable69 (ref1_May.calls _ _ _ _ _ _ rfl (hm0.give [0] [.sl (Kd.int .i64) A0 c0 x0] rfl rfl) r23 hr23) ?_)
    rintro _ w261 a262 ⟨rfl, hk264⟩ hf263
    have hm265 := hm0.still hk264.cum.none
    rw [c24] at hf263
    refine gg 3 [] [(0, .slice A0 x0.length c0), (1, .slice A1 x1.length c1), (16, .bool false), (17, .slice A1 x1.length c1)] hf263 ot fun a266 hf267 => ?_
    refine lo hf267 rfl (cl 18 hf267 callable69 (ref1_May.calls _ _ _ _ _ _ rfl (hm265.give [1] [.sl (Kd.int .i64) A1 c1 x1] rfl rfl) r25 hr25) ?_)
    rintro _ w268 a269 ⟨rfl, hk271⟩ hf270
    have hm272 := hm265.still hk271.cum.none
    rw [c26] at hf270
    refine gg 2 [] [(0, .slice A0 x0.length c0), (1, .slice A1 x1.length c1), (20, .bool true)] hf270 ot fun a273 hf274 => ?_
    refine endL rfl ?_
    refine thenN ?_
    refine cT hf274 ?_
    refine wp_seq ?_
    refine rg [] [(4, .slice none 0 0), (5, vi 2)] hf274 ot fun a275 hf276 => ?_
    have hm277 := hm272.se [] _ rfl
    refine thenN ?_
    refine wp_ret ?_
    refine thenR ?_
    have hm278 := hm277.nilOw (Kd.int .i64) 3
    have hm279 : Mem [] M w0 [.ow (Kd.int .i64) 3 none 0 ([] : (List Int))] w268 := hm278.se [0] _ rfl
    obtain rfl := Option.some.inj H0
    refine rt [] [.slice none 0 0, .int .i64 2] hf276 ot ?_
    exact ⟨_, rfl, none, 0, rfl, hm279⟩
  refine inReg ?_
  refine gg 1 [] [(0, .slice A0 x0.length c0), (1, .slice A1 x1.length c1), (13, .slice A0 x0.length c0)] hf22 ot fun a27 hf28 => ?_
  refine lo hf28 rfl (cl 14 hf28 callable69 (ref1_May.calls _ _ _ _ _ _ rfl (hm0.give [0] [.sl (Kd.int .i64) A0 c0 x0] rfl rfl) r23 hr23) ?_)
  rintro _ w29 a30 ⟨rfl, hk32⟩ hf31
  have hm33 := hm0.still hk32.cum.none
  rw [c24] at hf31
  refine gg 3 [] [(0, .slice A0 x0.length c0), (1, .slice A1 x1.length c1), (16, .bool false), (17, .slice A1 x1.length c1)] hf31 ot fun a34 hf35 => ?_
  refine lo hf35 rfl (cl 18 hf35 callable69 (ref1_May.calls _ _ _ _ _ _ rfl (hm33.give [1] [.sl (Kd.int .i64) A1 c1 x1] rfl rfl) r25 hr25) ?_)
  rintro _ w36 a37 ⟨rfl, hk39⟩ hf38
  have hm40 := hm33.still hk39.cum.none
  rw [c26] at hf38
  refine gg 2 [] [(0, .slice A0 x0.length c0), (1, .slice A1 x1.length c1), (20, .bool false)] hf38 ot fun a41 hf42 => ?_
  refine endL rfl ?_
  refine thenN ?_
  refine cF hf42 ?_
  refine wp_skip ?_
  refine thenN ?_
  refine wp_seq ?_
  refine rg [] [(0, .slice A0 x0.length c0), (1, .slice A1 x1.length c1), (6, vi (if (x1.length : Int) > (x0.length : Int) then (x1.length : Int) else (x0.length : Int)))] hf42 ot fun a43 hf44 => ?_
  refine thenN ?_
  refine wp_seq ?_
  obtain ⟨g45, H0⟩ := if_guard H0
  refine inReg ?_
  refine gg 1 [] [(0, .slice A0 x0.length c0), (1, .slice A1 x1.length c1), (6, vi (if (x1.length : Int) > (x0.length : Int) then (x1.length : Int) else (x0.length : Int))), (26, vi (if (x1.length : Int) > (x0.length : Int) then (x1.length : Int) else (x0.length : Int)))] hf44 ot fun a46 hf47 => ?_
  refine lo hf47 rfl (aMake (kd := (Kd.int .i64)) (x := 0) (E := 3) (L := (if (x1.length : Int) > (x0.length : Int) then (x1.length : Int) else (x0.length : Int))) (z := [.int .i64 0]) (sz := 1) (d := 27) hf47 (by kernel_rfl) (by kernel_rfl) rfl (fun _ _ => rfl) g45.1 g45.2 ?_)
  intro A48 c49 w50 a51 ho53 hb55 hg54 hf52
  have hm56 : Mem [] M w0 [.ow (Kd.int .i64) 3 A48 c49 (List.replicate ((if (x1.length : Int) > (x0.length : Int) then (x1.length : Int) else (x0.length : Int))).toNat (0 : Int)), .sl (Kd.int .i64) A0 c0 x0, .sl (Kd.int .i64) A1 c1 x1] w50 := hm40.own (ho53 _) hg54
  refine gg 1 [] [(0, .slice A0 x0.length c0), (1, .slice A1 x1.length c1), (6, vi (if (x1.length : Int) > (x0.length : Int) then (x1.length : Int) else (x0.length : Int))), (7, .slice A48 ((List.replicate ((if (x1.length : Int) > (x0.length : Int) then (x1.length : Int) else (x0.length : Int))).toNat (0 : Int)).length) c49)] hf52 ot fun a57 hf58 => ?_
  refine endL rfl ?_
  refine thenN ?_
  refine wp_seq ?_
  refine wp_seq ?_
  refine rg [] [(0, .slice A0 x0.length c0), (1, .slice A1 x1.length c1), (6, vi (if (x1.length : Int) > (x0.length : Int) then (x1.length : Int) else (x0.length : Int))), (7, .slice A48 ((List.replicate ((if (x1.length : Int) > (x0.length : Int) then (x1.length : Int) else (x0.length : Int))).toNat (0 : Int)).length) c49), (8, vi 1)] hf58 ot fun a59 hf60 => ?_
  refine thenN ?_
  obtain ⟨r62, hr62, H0⟩ := ob_split H0
  refine wpBlock (Mid := fun (a : Act) (w : World) => ∃ yr62 : (Int × (List Int)), r62 = .go yr62 ∧ Fr 83 a [(0, .slice A0 x0.length c0), (1, .slice A1 x1.length c1), (6, .int .i64 (if (x1.length : Int) > (x0.length : Int) then (x1.length : Int) else (x0.length : Int))), (7, .slice A48 yr62.2.length c49), (8, .int .i64 yr62.1)] ∧ Mem [] M w0 [.ow (Kd.int .i64) 3 A48 c49 yr62.2, .sl (Kd.int .i64) A0 c0 x0, .sl (Kd.int .i64) A1 c1 x1] w) ?_ ?_
  · refine wpLoop (ref1_Spread.l0 x1 x0) r62 (fun (s61 : (Int × (List Int))) (a : Act) (w : World) => Fr 83 a [(0, .slice A0 x0.length c0), (1, .slice A1 x1.length c1), (6, .int .i64 (if (x1.length : Int) > (x0.length : Int) then (x1.length : Int) else (x0.length : Int))), (7, .slice A48 s61.2.length c49), (8, .int .i64 s61.1)] ∧ Mem [] M w0 [.ow (Kd.int .i64) 3 A48 c49 s61.2, .sl (Kd.int .i64) A0 c0 x0, .sl (Kd.int .i64) A1 c1 x1] w) (1, (List.replicate ((if (x1.length : Int) > (x0.length : Int) then (x1.length : Int) else (x0.length : Int))).toNat (0 : Int))) hr62 ⟨hf60.se [0, 1, 6, 7, 8], hm56.se [0, 1, 2] _ rfl⟩ ?_
    rintro g63 s61 a65 w66 H1 ⟨hf67, hm68⟩
    unfold ref1_Spread.l0 at H1
    refine wp_seq ?_
    refine wp_seq ?_
    rcases ifS_split H1 with ⟨c69, H1⟩ | ⟨c69, H1⟩
    rotate_left
    · refine rg (ob := [.is (decide (s61.1 ≤ (if (x1.length : Int) > (x0.length : Int) then (x1.length : Int) else (x0.length : Int))) = false)]) [.bool false] [(0, .slice A0 x0.length c0), (1, .slice A1 x1.length c1), (6, vi (if (x1.length : Int) > (x0.length : Int) then (x1.length : Int) else (x0.length : Int))), (7, .slice A48 s61.2.length c49), (8, vi s61.1), (30, .bool false)] hf67 ⟨(decide_eq_false c69), trivial⟩ fun a226 hf227 => ?_
      refine thenN ?_
      refine cF hf227 ?_
      refine wp_exit ?_
      refine thenE ?_
      refine thenE ?_
      obtain rfl := Option.some.inj H1
      exact .inl ⟨rfl, (s61.1, s61.2), rfl, hf227.se [0, 1, 6, 7, 8], hm68.se [0, 1, 2] _ rfl⟩
    refine rg (ob := [.is (decide (s61.1 ≤ (if (x1.length : Int) > (x0.length : Int) then (x1.length : Int) else (x0.length : Int))) = true)]) [.bool true] [(0, .slice A0 x0.length c0), (1, .slice A1 x1.length c1), (6, vi (if (x1.length : Int) > (x0.length : Int) then (x1.length : Int) else (x0.length : Int))), (7, .slice A48 s61.2.length c49), (8, vi s61.1), (30, .bool true)] hf67 ⟨(decide_eq_true c69), trivial⟩ fun a70 hf71 => ?_
    refine thenN ?_
    refine cT hf71 ?_
    refine wp_skip ?_
    refine thenN ?_
    refine wp_seq ?_
    refine wp_block ?_
    refine wp_seq ?_
    refine rg [] [(0, .slice A0 x0.length c0), (1, .slice A1 x1.length c1), (6, vi (if (x1.length : Int) > (x0.length : Int) then (x1.length : Int) else (x0.length : Int))), (7, .slice A48 s61.2.length c49), (8, vi s61.1), (9, vi 1), (10, vi 1)] hf71 ot fun a72 hf73 => ?_
    refine thenN ?_
    refine wp_seq ?_
    refine wp_seq ?_
    rcases ifS_split H1 with ⟨c74, H1⟩ | ⟨c74, H1⟩
    rotate_left
    · refine rg (ob := [.is (decide (s61.1 ≤ (x0.length : Int)) = false)]) [.bool false] [(0, .slice A0 x0.length c0), (1, .slice A1 x1.length c1), (6, vi (if (x1.length : Int) > (x0.length : Int) then (x1.length : Int) else (x0.length : Int))), (7, .slice A48 s61.2.length c49), (8, vi s61.1), (9, vi 1), (10, vi 1), (36, .bool false)] hf73 ⟨(decide_eq_false c74), trivial⟩ fun a172 hf173 => ?_
      refine thenN ?_
      refine cF hf173 ?_
      refine wp_skip ?_
      refine thenN ?_
      refine wp_seq ?_
      refine wp_seq ?_
      rcases ifS_split H1 with ⟨c174, H1⟩ | ⟨c174, H1⟩
      rotate_left
      · refine rg (ob := [.is (decide (s61.1 ≤ (x1.length : Int)) = false)]) [.bool false] [(0, .slice A0 x0.length c0), (1, .slice A1 x1.length c1), (6, vi (if (x1.length : Int) > (x0.length : Int) then (x1.length : Int) else (x0.length : Int))), (7, .slice A48 s61.2.length c49), (8, vi s61.1), (9, vi 1), (10, vi 1), (47, .bool false)] hf173 ⟨(decide_eq_false c174), trivial⟩ fun a210 hf211 => ?_
        refine thenN ?_
        refine cF hf211 ?_
        refine wp_skip ?_
        refine thenN ?_
        refine wp_seq ?_
        refine wp_seq ?_
        refine rg (ob := [.is (((1 : Int) != 1) = false)]) [.bool false] [(0, .slice A0 x0.length c0), (1, .slice A1 x1.length c1), (6, vi (if (x1.length : Int) > (x0.length : Int) then (x1.length : Int) else (x0.length : Int))), (7, .slice A48 s61.2.length c49), (8, vi s61.1), (9, vi 1), (10, vi 1), (65, .bool false)] hf211 ⟨(okIs (by decide)), trivial⟩ fun a212 hf213 => ?_
        refine thenN ?_
        refine cF hf213 ?_
        refine wp_skip ?_
        refine thenN ?_
        obtain ⟨g214, H1⟩ := ifS_guard H1
        have q215 := (hm68.owAt 0 rfl).int (w64 ((if (x1.length : Int) > (x0.length : Int) then (x1.length : Int) else (x0.length : Int)) - s61.1)) g214.1 g214.2
        refine inReg ?_
        refine gg 8 [] [(0, .slice A0 x0.length c0), (1, .slice A1 x1.length c1), (6, vi (if (x1.length : Int) > (x0.length : Int) then (x1.length : Int) else (x0.length : Int))), (7, .slice A48 s61.2.length c49), (8, vi s61.1), (72, vi (if 1 > 1 then 1 else 1)), (73, .pointer (some ((ad A48).add (((w64 ((if (x1.length : Int) > (x0.length : Int) then (x1.length : Int) else (x0.length : Int)) - s61.1))).toNat * 1))))] hf213 (oi q215.1 (oi g214 ot)) fun a216 hf217 => ?_
        refine lo hf217 rfl (so (i := (w64 ((if (x1.length : Int) > (x0.length : Int) then (x1.length : Int) else (x0.length : Int)) - s61.1))) (x := (if 1 > 1 then 1 else 1)) (us := [.int .i64 (if 1 > 1 then 1 else 1)]) (sz := 1) hf217 (hm68.at 0 rfl) rfl g214.1 g214.2 ?_)
        intro w218 hx219 hg220
        have hm221 := hm68.setOwn 0 _ rfl rfl hx219 hg220 (.inl rfl)
        refine endL rfl ?_
        refine blkN ?_
        refine thenN ?_
        refine rg [] [(0, .slice A0 x0.length c0), (1, .slice A1 x1.length c1), (6, vi (if (x1.length : Int) > (x0.length : Int) then (x1.length : Int) else (x0.length : Int))), (7, .slice A48 s61.2.length c49), (8, vi (w64 (s61.1 + 1)))] hf217 ot fun a222 hf223 => ?_
        have hf224 : Fr 83 a222 [(0, .slice A0 x0.length c0), (1, .slice A1 x1.length c1), (6, .int .i64 (if (x1.length : Int) > (x0.length : Int) then (x1.length : Int) else (x0.length : Int))), (7, .slice A48 s61.2.length c49), (8, .int .i64 (w64 (s61.1 + 1)))] := hf223.se [0, 1, 6, 7, 8]
        have hm225 : Mem [] M w0 [.ow (Kd.int .i64) 3 A48 c49 (put s61.2 (w64 ((if (x1.length : Int) > (x0.length : Int) then (x1.length : Int) else (x0.length : Int)) - s61.1)) (if 1 > 1 then 1 else 1)), .sl (Kd.int .i64) A0 c0 x0, .sl (Kd.int .i64) A1 c1 x1] w218 := hm221.se [0, 1, 2] _ rfl
        exact ⟨((w64 (s61.1 + 1)), (put s61.2 (w64 ((if (x1.length : Int) > (x0.length : Int) then (x1.length : Int) else (x0.length : Int)) - s61.1)) (if 1 > 1 then 1 else 1))), H1, (by simpa only [put_length, List.length_nil] using hf224), (by simpa only [put_length, List.length_nil] using hm225)⟩
      refine rg (ob := [.is (decide (s61.1 ≤ (x1.length : Int)) = true)]) [.bool true] [(0, .slice A0 x0.length c0), (1, .slice A1 x1.length c1), (6, vi (if (x1.length : Int) > (x0.length : Int) then (x1.length : Int) else (x0.length : Int))), (7, .slice A48 s61.2.length c49), (8, vi s61.1), (9, vi 1), (10, vi 1), (47, .bool true)] hf173 ⟨(decide_eq_true c174), trivial⟩ fun a175 hf176 => ?_
      refine thenN ?_
      refine cT hf176 ?_
      obtain ⟨g177, H1⟩ := ifS_guard H1
      have q178 := (hm68.slAt 2 rfl).int (w64 ((x1.length : Int) - s61.1)) g177.1 g177.2
      refine rg [.int .i64 (rd x1 (w64 ((x1.length : Int) - s61.1)))] [(0, .slice A0 x0.length c0), (1, .slice A1 x1.length c1), (6, vi (if (x1.length : Int) > (x0.length : Int) then (x1.length : Int) else (x0.length : Int))), (7, .slice A48 s61.2.length c49), (8, vi s61.1), (9, vi 1), (10, vi (rd x1 (w64 ((x1.length : Int) - s61.1))))] hf176 (oi q178.1 (oi g177 (oc q178.2 ot))) fun a179 hf180 => ?_
      refine thenN ?_
      refine wp_seq ?_
      refine wp_seq ?_
      rcases ifS_split H1 with ⟨c181, H1⟩ | ⟨c181, H1⟩
      · refine rg [.bool false] [(0, .slice A0 x0.length c0), (1, .slice A1 x1.length c1), (6, vi (if (x1.length : Int) > (x0.length : Int) then (x1.length : Int) else (x0.length : Int))), (7, .slice A48 s61.2.length c49), (8, vi s61.1), (9, vi 1), (10, vi (rd x1 (w64 ((x1.length : Int) - s61.1)))), (65, .bool false)] hf180 (oi (neF c181) ot) fun a182 hf183 => ?_
        refine thenN ?_
        refine cF hf183 ?_
        refine wp_skip ?_
        refine thenN ?_
        obtain ⟨g184, H1⟩ := ifS_guard H1
        have q185 := (hm68.owAt 0 rfl).int (w64 ((if (x1.length : Int) > (x0.length : Int) then (x1.length : Int) else (x0.length : Int)) - s61.1)) g184.1 g184.2
        refine inReg ?_
        refine gg 8 [] [(0, .slice A0 x0.length c0), (1, .slice A1 x1.length c1), (6, vi (if (x1.length : Int) > (x0.length : Int) then (x1.length : Int) else (x0.length : Int))), (7, .slice A48 s61.2.length c49), (8, vi s61.1), (72, vi (if (rd x1 (w64 ((x1.length : Int) - s61.1))) > 1 then (rd x1 (w64 ((x1.length : Int) - s61.1))) else 1)), (73, .pointer (some ((ad A48).add (((w64 ((if (x1.length : Int) > (x0.length : Int) then (x1.length : Int) else (x0.length : Int)) - s61.1))).toNat * 1))))] hf183 (oi q185.1 (oi g184 ot)) fun a186 hf187 => ?_
        refine lo hf187 rfl (so (i := (w64 ((if (x1.length : Int) > (x0.length : Int) then (x1.length : Int) else (x0.length : Int)) - s61.1))) (x := (if (rd x1 (w64 ((x1.length : Int) - s61.1))) > 1 then (rd x1 (w64 ((x1.length : Int) - s61.1))) else 1)) (us := [.int .i64 (if (rd x1 (w64 ((x1.length : Int) - s61.1))) > 1 then (rd x1 (w64 ((x1.length : Int) - s61.1))) else 1)]) (sz := 1) hf187 (hm68.at 0 rfl) rfl g184.1 g184.2 ?_)
        intro w188 hx189 hg190
        have hm191 := hm68.setOwn 0 _ rfl rfl hx189 hg190 (.inl rfl)
        refine endL rfl ?_
        refine blkN ?_
        refine thenN ?_
        refine rg [] [(0, .slice A0 x0.length c0), (1, .slice A1 x1.length c1), (6, vi (if (x1.length : Int) > (x0.length : Int) then (x1.length : Int) else (x0.length : Int))), (7, .slice A48 s61.2.length c49), (8, vi (w64 (s61.1 + 1)))] hf187 ot fun a192 hf193 => ?_
        have hf194 : Fr 83 a192 [(0, .slice A0 x0.length c0), (1, .slice A1 x1.length c1), (6, .int .i64 (if (x1.length : Int) > (x0.length : Int) then (x1.length : Int) else (x0.length : Int))), (7, .slice A48 s61.2.length c49), (8, .int .i64 (w64 (s61.1 + 1)))] := hf193.se [0, 1, 6, 7, 8]
        have hm195 : Mem [] M w0 [.ow (Kd.int .i64) 3 A48 c49 (put s61.2 (w64 ((if (x1.length : Int) > (x0.length : Int) then (x1.length : Int) else (x0.length : Int)) - s61.1)) (if (rd x1 (w64 ((x1.length : Int) - s61.1))) > 1 then (rd x1 (w64 ((x1.length : Int) - s61.1))) else 1)), .sl (Kd.int .i64) A0 c0 x0, .sl (Kd.int .i64) A1 c1 x1] w188 := hm191.se [0, 1, 2] _ rfl
        exact ⟨((w64 (s61.1 + 1)), (put s61.2 (w64 ((if (x1.length : Int) > (x0.length : Int) then (x1.length : Int) else (x0.length : Int)) - s61.1)) (if (rd x1 (w64 ((x1.length : Int) - s61.1))) > 1 then (rd x1 (w64 ((x1.length : Int) - s61.1))) else 1))), H1, (by simpa only [put_length, List.length_nil] using hf194), (by simpa only [put_length, List.length_nil] using hm195)⟩
      refine rg (ob := [.is (((1 : Int) != (rd x1 (w64 ((x1.length : Int) - s61.1)))) = true), .is (((1 : Int) != 1) = false)]) [.bool true, .bool false] [(0, .slice A0 x0.length c0), (1, .slice A1 x1.length c1), (6, vi (if (x1.length : Int) > (x0.length : Int) then (x1.length : Int) else (x0.length : Int))), (7, .slice A48 s61.2.length c49), (8, vi s61.1), (9, vi 1), (10, vi (rd x1 (w64 ((x1.length : Int) - s61.1)))), (65, .bool false)] hf180 ⟨(neT c181), (okIs (by decide)), trivial⟩ fun a196 hf197 => ?_
      refine thenN ?_
      refine cF hf197 ?_
      refine wp_skip ?_
      refine thenN ?_
      obtain ⟨g198, H1⟩ := ifS_guard H1
      have q199 := (hm68.owAt 0 rfl).int (w64 ((if (x1.length : Int) > (x0.length : Int) then (x1.length : Int) else (x0.length : Int)) - s61.1)) g198.1 g198.2
      refine inReg ?_
      refine gg 8 [] [(0, .slice A0 x0.length c0), (1, .slice A1 x1.length c1), (6, vi (if (x1.length : Int) > (x0.length : Int) then (x1.length : Int) else (x0.length : Int))), (7, .slice A48 s61.2.length c49), (8, vi s61.1), (72, vi (if (rd x1 (w64 ((x1.length : Int) - s61.1))) > 1 then (rd x1 (w64 ((x1.length : Int) - s61.1))) else 1)), (73, .pointer (some ((ad A48).add (((w64 ((if (x1.length : Int) > (x0.length : Int) then (x1.length : Int) else (x0.length : Int)) - s61.1))).toNat * 1))))] hf197 (oi q199.1 (oi g198 ot)) fun a200 hf201 => ?_
      refine lo hf201 rfl (so (i := (w64 ((if (x1.length : Int) > (x0.length : Int) then (x1.length : Int) else (x0.length : Int)) - s61.1))) (x := (if (rd x1 (w64 ((x1.length : Int) - s61.1))) > 1 then (rd x1 (w64 ((x1.length : Int) - s61.1))) else 1)) (us := [.int .i64 (if (rd x1 (w64 ((x1.length : Int) - s61.1))) > 1 then (rd x1 (w64 ((x1.length : Int) - s61.1))) else 1)]) (sz := 1) hf201 (hm68.at 0 rfl) rfl g198.1 g198.2 ?_)
      intro w202 hx203 hg204
      have hm205 := hm68.setOwn 0 _ rfl rfl hx203 hg204 (.inl rfl)
      refine endL rfl ?_
      refine blkN ?_
      refine thenN ?_
      refine rg [] [(0, .slice A0 x0.length c0), (1, .slice A1 x1.length c1), (6, vi (if (x1.length : Int) > (x0.length : Int) then (x1.length : Int) else (x0.length : Int))), (7, .slice A48 s61.2.length c49), (8, vi (w64 (s61.1 + 1)))] hf201 ot fun a206 hf207 => ?_
      have hf208 : Fr 83 a206 [(0, .slice A0 x0.length c0), (1, .slice A1 x1.length c1), (6, .int .i64 (if (x1.length : Int) > (x0.length : Int) then (x1.length : Int) else (x0.length : Int))), (7, .slice A48 s61.2.length c49), (8, .int .i64 (w64 (s61.1 + 1)))] := hf207.se [0, 1, 6, 7, 8]
      have hm209 : Mem [] M w0 [.ow (Kd.int .i64) 3 A48 c49 (put s61.2 (w64 ((if (x1.length : Int) > (x0.length : Int) then (x1.length : Int) else (x0.length : Int)) - s61.1)) (if (rd x1 (w64 ((x1.length : Int) - s61.1))) > 1 then (rd x1 (w64 ((x1.length : Int) - s61.1))) else 1)), .sl (Kd.int .i64) A0 c0 x0, .sl (Kd.int .i64) A1 c1 x1] w202 := hm205.se [0, 1, 2] _ rfl
      exact ⟨((w64 (s61.1 + 1)), (put s61.2 (w64 ((if (x1.length : Int) > (x0.length : Int) then (x1.length : Int) else (x0.length : Int)) - s61.1)) (if (rd x1 (w64 ((x1.length : Int) - s61.1))) > 1 then (rd x1 (w64 ((x1.length : Int) - s61.1))) else 1))), H1, (by simpa only [put_length, List.length_nil] using hf208), (by simpa only [put_length, List.length_nil] using hm209)⟩
    refine rg (ob := [.is (decide (s61.1 ≤ (x0.length : Int)) = true)]) [.bool true] [(0, .slice A0 x0.length c0), (1, .slice A1 x1.length c1), (6, vi (if (x1.length : Int) > (x0.length : Int) then (x1.length : Int) else (x0.length : Int))), (7, .slice A48 s61.2.length c49), (8, vi s61.1), (9, vi 1), (10, vi 1), (36, .bool true)] hf73 ⟨(decide_eq_true c74), trivial⟩ fun a75 hf76 => ?_
    refine thenN ?_
    refine cT hf76 ?_
    obtain ⟨g77, H1⟩ := ifS_guard H1
    have q78 := (hm68.slAt 1 rfl).int (w64 ((x0.length : Int) - s61.1)) g77.1 g77.2
    refine rg [.int .i64 (rd x0 (w64 ((x0.length : Int) - s61.1)))] [(0, .slice A0 x0.length c0), (1, .slice A1 x1.length c1), (6, vi (if (x1.length : Int) > (x0.length : Int) then (x1.length : Int) else (x0.length : Int))), (7, .slice A48 s61.2.length c49), (8, vi s61.1), (9, vi (rd x0 (w64 ((x0.length : Int) - s61.1)))), (10, vi 1)] hf76 (oi q78.1 (oi g77 (oc q78.2 ot))) fun a79 hf80 => ?_
    refine thenN ?_
    refine wp_seq ?_
    refine wp_seq ?_
    rcases ifS_split H1 with ⟨c81, H1⟩ | ⟨c81, H1⟩
    rotate_left
    · refine rg (ob := [.is (decide (s61.1 ≤ (x1.length : Int)) = false)]) [.bool false] [(0, .slice A0 x0.length c0), (1, .slice A1 x1.length c1), (6, vi (if (x1.length : Int) > (x0.length : Int) then (x1.length : Int) else (x0.length : Int))), (7, .slice A48 s61.2.length c49), (8, vi s61.1), (9, vi (rd x0 (w64 ((x0.length : Int) - s61.1)))), (10, vi 1), (47, .bool false)] hf80 ⟨(decide_eq_false c81), trivial⟩ fun a141 hf142 => ?_
      refine thenN ?_
      refine cF hf142 ?_
      refine wp_skip ?_
      refine thenN ?_
      refine wp_seq ?_
      refine wp_seq ?_
      rcases ifS_split H1 with ⟨c143, H1⟩ | ⟨c143, H1⟩
      · refine rg [.bool false] [(0, .slice A0 x0.length c0), (1, .slice A1 x1.length c1), (6, vi (if (x1.length : Int) > (x0.length : Int) then (x1.length : Int) else (x0.length : Int))), (7, .slice A48 s61.2.length c49), (8, vi s61.1), (9, vi (rd x0 (w64 ((x0.length : Int) - s61.1)))), (10, vi 1), (65, .bool false)] hf142 (oi (neF c143) ot) fun a144 hf145 => ?_
        refine thenN ?_
        refine cF hf145 ?_
        refine wp_skip ?_
        refine thenN ?_
        obtain ⟨g146, H1⟩ := ifS_guard H1
        have q147 := (hm68.owAt 0 rfl).int (w64 ((if (x1.length : Int) > (x0.length : Int) then (x1.length : Int) else (x0.length : Int)) - s61.1)) g146.1 g146.2
        refine inReg ?_
        refine gg 8 [] [(0, .slice A0 x0.length c0), (1, .slice A1 x1.length c1), (6, vi (if (x1.length : Int) > (x0.length : Int) then (x1.length : Int) else (x0.length : Int))), (7, .slice A48 s61.2.length c49), (8, vi s61.1), (72, vi (if 1 > (rd x0 (w64 ((x0.length : Int) - s61.1))) then 1 else (rd x0 (w64 ((x0.length : Int) - s61.1))))), (73, .pointer (some ((ad A48).add (((w64 ((if (x1.length : Int) > (x0.length : Int) then (x1.length : Int) else (x0.length : Int)) - s61.1))).toNat * 1))))] hf145 (oi q147.1 (oi g146 ot)) fun a148 hf149 => ?_
        refine lo hf149 rfl (so (i := (w64 ((if (x1.length : Int) > (x0.length : Int) then (x1.length : Int) else (x0.length : Int)) - s61.1))) (x := (if 1 > (rd x0 (w64 ((x0.length : Int) - s61.1))) then 1 else (rd x0 (w64 ((x0.length : Int) - s61.1))))) (us := [.int .i64 (if 1 > (rd x0 (w64 ((x0.length : Int) - s61.1))) then 1 else (rd x0 (w64 ((x0.length : Int) - s61.1))))]) (sz := 1) hf149 (hm68.at 0 rfl) rfl g146.1 g146.2 ?_)
        intro w150 hx151 hg152
        have hm153 := hm68.setOwn 0 _ rfl rfl hx151 hg152 (.inl rfl)
        refine endL rfl ?_
        refine blkN ?_
        refine thenN ?_
        refine rg [] [(0, .slice A0 x0.length c0), (1, .slice A1 x1.length c1), (6, vi (if (x1.length : Int) > (x0.length : Int) then (x1.length : Int) else (x0.length : Int))), (7, .slice A48 s61.2.length c49), (8, vi (w64 (s61.1 + 1)))] hf149 ot fun a154 hf155 => ?_
        have hf156 : Fr 83 a154 [(0, .slice A0 x0.length c0), (1, .slice A1 x1.length c1), (6, .int .i64 (if (x1.length : Int) > (x0.length : Int) then (x1.length : Int) else (x0.length : Int))), (7, .slice A48 s61.2.length c49), (8, .int .i64 (w64 (s61.1 + 1)))] := hf155.se [0, 1, 6, 7, 8]
        have hm157 : Mem [] M w0 [.ow (Kd.int .i64) 3 A48 c49 (put s61.2 (w64 ((if (x1.length : Int) > (x0.length : Int) then (x1.length : Int) else (x0.length : Int)) - s61.1)) (if 1 > (rd x0 (w64 ((x0.length : Int) - s61.1))) then 1 else (rd x0 (w64 ((x0.length : Int) - s61.1))))), .sl (Kd.int .i64) A0 c0 x0, .sl (Kd.int .i64) A1 c1 x1] w150 := hm153.se [0, 1, 2] _ rfl
        exact ⟨((w64 (s61.1 + 1)), (put s61.2 (w64 ((if (x1.length : Int) > (x0.length : Int) then (x1.length : Int) else (x0.length : Int)) - s61.1)) (if 1 > (rd x0 (w64 ((x0.length : Int) - s61.1))) then 1 else (rd x0 (w64 ((x0.length : Int) - s61.1)))))), H1, (by simpa only [put_length, List.length_nil] using hf156), (by simpa only [put_length, List.length_nil] using hm157)⟩
      refine rg (ob := [.is ((((rd x0 (w64 ((x0.length : Int) - s61.1))) : Int) != 1) = true), .is ((((rd x0 (w64 ((x0.length : Int) - s61.1))) : Int) != 1) = true), .is (((1 : Int) != 1) = false)]) [.bool true, .bool true, .bool false] [(0, .slice A0 x0.length c0), (1, .slice A1 x1.length c1), (6, vi (if (x1.length : Int) > (x0.length : Int) then (x1.length : Int) else (x0.length : Int))), (7, .slice A48 s61.2.length c49), (8, vi s61.1), (9, vi (rd x0 (w64 ((x0.length : Int) - s61.1)))), (10, vi 1), (65, .bool false)] hf142 ⟨(neT c143), (neT c143), (okIs (by decide)), trivial⟩ fun a158 hf159 => ?_
      refine thenN ?_
      refine cF hf159 ?_
      refine wp_skip ?_
      refine thenN ?_
      obtain ⟨g160, H1⟩ := ifS_guard H1
      have q161 := (hm68.owAt 0 rfl).int (w64 ((if (x1.length : Int) > (x0.length : Int) then (x1.length : Int) else (x0.length : Int)) - s61.1)) g160.1 g160.2
      refine inReg ?_
      refine gg 8 [] [(0, .slice A0 x0.length c0), (1, .slice A1 x1.length c1), (6, vi (if (x1.length : Int) > (x0.length : Int) then (x1.length : Int) else (x0.length : Int))), (7, .slice A48 s61.2.length c49), (8, vi s61.1), (72, vi (if 1 > (rd x0 (w64 ((x0.length : Int) - s61.1))) then 1 else (rd x0 (w64 ((x0.length : Int) - s61.1))))), (73, .pointer (some ((ad A48).add (((w64 ((if (x1.length : Int) > (x0.length : Int) then (x1.length : Int) else (x0.length : Int)) - s61.1))).toNat * 1))))] hf159 (oi q161.1 (oi g160 ot)) fun a162 hf163 => ?_
      refine lo hf163 rfl (so (i := (w64 ((if (x1.length : Int) > (x0.length : Int) then (x1.length : Int) else (x0.length : Int)) - s61.1))) (x := (if 1 > (rd x0 (w64 ((x0.length : Int) - s61.1))) then 1 else (rd x0 (w64 ((x0.length : Int) - s61.1))))) (us := [.int .i64 (if 1 > (rd x0 (w64 ((x0.length : Int) - s61.1))) then 1 else (rd x0 (w64 ((x0.length : Int) - s61.1))))]) (sz := 1) hf163 (hm68.at 0 rfl) rfl g160.1 g160.2 ?_)
      intro w164 hx165 hg166
      have hm167 := hm68.setOwn 0 _ rfl rfl hx165 hg166 (.inl rfl)
      refine endL rfl ?_
      refine blkN ?_
      refine thenN ?_
      refine rg [] [(0, .slice A0 x0.length c0), (1, .slice A1 x1.length c1), (6, vi (if (x1.length : Int) > (x0.length : Int) then (x1.length : Int) else (x0.length : Int))), (7, .slice A48 s61.2.length c49), (8, vi (w64 (s61.1 + 1)))] hf163 ot fun a168 hf169 => ?_
      have hf170 : Fr 83 a168 [(0, .slice A0 x0.length c0), (1, .slice A1 x1.length c1), (6, .int .i64 (if (x1.length : Int) > (x0.length : Int) then (x1.length : Int) else (x0.length : Int))), (7, .slice A48 s61.2.length c49), (8, .int .i64 (w64 (s61.1 + 1)))] := hf169.se [0, 1, 6, 7, 8]
      have hm171 : Mem [] M w0 [.ow (Kd.int .i64) 3 A48 c49 (put s61.2 (w64 ((if (x1.length : Int) > (x0.length : Int) then (x1.length : Int) else (x0.length : Int)) - s61.1)) (if 1 > (rd x0 (w64 ((x0.length : Int) - s61.1))) then 1 else (rd x0 (w64 ((x0.length : Int) - s61.1))))), .sl (Kd.int .i64) A0 c0 x0, .sl (Kd.int .i64) A1 c1 x1] w164 := hm167.se [0, 1, 2] _ rfl
      exact ⟨((w64 (s61.1 + 1)), (put s61.2 (w64 ((if (x1.length : Int) > (x0.length : Int) then (x1.length : Int) else (x0.length : Int)) - s61.1)) (if 1 > (rd x0 (w64 ((x0.length : Int) - s61.1))) then 1 else (rd x0 (w64 ((x0.length : Int) - s61.1)))))), H1, (by simpa only [put_length, List.length_nil] using hf170), (by simpa only [put_length, List.length_nil] using hm171)⟩
    refine rg (ob := [.is (decide (s61.1 ≤ (x1.length : Int)) = true)]) [.bool true] [(0, .slice A0 x0.length c0), (1, .slice A1 x1.length c1), (6, vi (if (x1.length : Int) > (x0.length : Int) then (x1.length : Int) else (x0.length : Int))), (7, .slice A48 s61.2.length c49), (8, vi s61.1), (9, vi (rd x0 (w64 ((x0.length : Int) - s61.1)))), (10, vi 1), (47, .bool true)] hf80 ⟨(decide_eq_true c81), trivial⟩ fun a82 hf83 => ?_
    refine thenN ?_
    refine cT hf83 ?_
    obtain ⟨g84, H1⟩ := ifS_guard H1
    have q85 := (hm68.slAt 2 rfl).int (w64 ((x1.length : Int) - s61.1)) g84.1 g84.2
    refine rg [.int .i64 (rd x1 (w64 ((x1.length : Int) - s61.1)))] [(0, .slice A0 x0.length c0), (1, .slice A1 x1.length c1), (6, vi (if (x1.length : Int) > (x0.length : Int) then (x1.length : Int) else (x0.length : Int))), (7, .slice A48 s61.2.length c49), (8, vi s61.1), (9, vi (rd x0 (w64 ((x0.length : Int) - s61.1)))), (10, vi (rd x1 (w64 ((x1.length : Int) - s61.1))))] hf83 (oi q85.1 (oi g84 (oc q85.2 ot))) fun a86 hf87 => ?_
    refine thenN ?_
    refine wp_seq ?_
    refine wp_seq ?_
    rcases ifS_split H1 with ⟨c88, H1⟩ | ⟨c88, H1⟩
    · refine rg [.bool false] [(0, .slice A0 x0.length c0), (1, .slice A1 x1.length c1), (6, vi (if (x1.length : Int) > (x0.length : Int) then (x1.length : Int) else (x0.length : Int))), (7, .slice A48 s61.2.length c49), (8, vi s61.1), (9, vi (rd x0 (w64 ((x0.length : Int) - s61.1)))), (10, vi (rd x1 (w64 ((x1.length : Int) - s61.1)))), (65, .bool false)] hf87 (oi (neF c88) ot) fun a89 hf90 => ?_
      refine thenN ?_
      refine cF hf90 ?_
      refine wp_skip ?_
      refine thenN ?_
      obtain ⟨g91, H1⟩ := ifS_guard H1
      have q92 := (hm68.owAt 0 rfl).int (w64 ((if (x1.length : Int) > (x0.length : Int) then (x1.length : Int) else (x0.length : Int)) - s61.1)) g91.1 g91.2
      refine inReg ?_
      refine gg 8 [] [(0, .slice A0 x0.length c0), (1, .slice A1 x1.length c1), (6, vi (if (x1.length : Int) > (x0.length : Int) then (x1.length : Int) else (x0.length : Int))), (7, .slice A48 s61.2.length c49), (8, vi s61.1), (72, vi (if (rd x1 (w64 ((x1.length : Int) - s61.1))) > (rd x0 (w64 ((x0.length : Int) - s61.1))) then (rd x1 (w64 ((x1.length : Int) - s61.1))) else (rd x0 (w64 ((x0.length : Int) - s61.1))))), (73, .pointer (some ((ad A48).add (((w64 ((if (x1.length : Int) > (x0.length : Int) then (x1.length : Int) else (x0.length : Int)) - s61.1))).toNat * 1))))] hf90 (oi q92.1 (oi g91 ot)) fun a93 hf94 => ?_
      refine lo hf94 rfl (so (i := (w64 ((if (x1.length : Int) > (x0.length : Int) then (x1.length : Int) else (x0.length : Int)) - s61.1))) (x := (if (rd x1 (w64 ((x1.length : Int) - s61.1))) > (rd x0 (w64 ((x0.length : Int) - s61.1))) then (rd x1 (w64 ((x1.length : Int) - s61.1))) else (rd x0 (w64 ((x0.length : Int) - s61.1))))) (us := [.int .i64 (if (rd x1 (w64 ((x1.length : Int) - s61.1))) > (rd x0 (w64 ((x0.length : Int) - s61.1))) then (rd x1 (w64 ((x1.length : Int) - s61.1))) else (rd x0 (w64 ((x0.length : Int) - s61.1))))]) (sz := 1) hf94 (hm68.at 0 rfl) rfl g91.1 g91.2 ?_)
      intro w95 hx96 hg97
      have hm98 := hm68.setOwn 0 _ rfl rfl hx96 hg97 (.inl rfl)
      refine endL rfl ?_
      refine blkN ?_
      refine thenN ?_
      refine rg [] [(0, .slice A0 x0.length c0), (1, .slice A1 x1.length c1), (6, vi (if (x1.length : Int) > (x0.length : Int) then (x1.length : Int) else (x0.length : Int))), (7, .slice A48 s61.2.length c49), (8, vi (w64 (s61.1 + 1)))] hf94 ot fun a99 hf100 => ?_
      have hf101 : Fr 83 a99 [(0, .slice A0 x0.length c0), (1, .slice A1 x1.length c1), (6, .int .i64 (if (x1.length : Int) > (x0.length : Int) then (x1.length : Int) else (x0.length : Int))), (7, .slice A48 s61.2.length c49), (8, .int .i64 (w64 (s61.1 + 1)))] := hf100.se [0, 1, 6, 7, 8]
      have hm102 : Mem [] M w0 [.ow (Kd.int .i64) 3 A48 c49 (put s61.2 (w64 ((if (x1.length : Int) > (x0.length : Int) then (x1.length : Int) else (x0.length : Int)) - s61.1)) (if (rd x1 (w64 ((x1.length : Int) - s61.1))) > (rd x0 (w64 ((x0.length : Int) - s61.1))) then (rd x1 (w64 ((x1.length : Int) - s61.1))) else (rd x0 (w64 ((x0.length : Int) - s61.1))))), .sl (Kd.int .i64) A0 c0 x0, .sl (Kd.int .i64) A1 c1 x1] w95 := hm98.se [0, 1, 2] _ rfl
      exact ⟨((w64 (s61.1 + 1)), (put s61.2 (w64 ((if (x1.length : Int) > (x0.length : Int) then (x1.length : Int) else (x0.length : Int)) - s61.1)) (if (rd x1 (w64 ((x1.length : Int) - s61.1))) > (rd x0 (w64 ((x0.length : Int) - s61.1))) then (rd x1 (w64 ((x1.length : Int) - s61.1))) else (rd x0 (w64 ((x0.length : Int) - s61.1)))))), H1, (by simpa only [put_length, List.length_nil] using hf101), (by simpa only [put_length, List.length_nil] using hm102)⟩
    rcases ifS_split H1 with ⟨c103, H1⟩ | ⟨c103, H1⟩
    · refine rg [.bool true, .bool false] [(0, .slice A0 x0.length c0), (1, .slice A1 x1.length c1), (6, vi (if (x1.length : Int) > (x0.length : Int) then (x1.length : Int) else (x0.length : Int))), (7, .slice A48 s61.2.length c49), (8, vi s61.1), (9, vi (rd x0 (w64 ((x0.length : Int) - s61.1)))), (10, vi (rd x1 (w64 ((x1.length : Int) - s61.1)))), (65, .bool false)] hf87 (oi (neT c88) (oi (neF c103) ot)) fun a104 hf105 => ?_
      refine thenN ?_
      refine cF hf105 ?_
      refine wp_skip ?_
      refine thenN ?_
      obtain ⟨g106, H1⟩ := ifS_guard H1
      have q107 := (hm68.owAt 0 rfl).int (w64 ((if (x1.length : Int) > (x0.length : Int) then (x1.length : Int) else (x0.length : Int)) - s61.1)) g106.1 g106.2
      refine inReg ?_
      refine gg 8 [] [(0, .slice A0 x0.length c0), (1, .slice A1 x1.length c1), (6, vi (if (x1.length : Int) > (x0.length : Int) then (x1.length : Int) else (x0.length : Int))), (7, .slice A48 s61.2.length c49), (8, vi s61.1), (72, vi (if (rd x1 (w64 ((x1.length : Int) - s61.1))) > (rd x0 (w64 ((x0.length : Int) - s61.1))) then (rd x1 (w64 ((x1.length : Int) - s61.1))) else (rd x0 (w64 ((x0.length : Int) - s61.1))))), (73, .pointer (some ((ad A48).add (((w64 ((if (x1.length : Int) > (x0.length : Int) then (x1.length : Int) else (x0.length : Int)) - s61.1))).toNat * 1))))] hf105 (oi q107.1 (oi g106 ot)) fun a108 hf109 => ?_
      refine lo hf109 rfl (so (i := (w64 ((if (x1.length : Int) > (x0.length : Int) then (x1.length : Int) else (x0.length : Int)) - s61.1))) (x := (if (rd x1 (w64 ((x1.length : Int) - s61.1))) > (rd x0 (w64 ((x0.length : Int) - s61.1))) then (rd x1 (w64 ((x1.length : Int) - s61.1))) else (rd x0 (w64 ((x0.length : Int) - s61.1))))) (us := [.int .i64 (if (rd x1 (w64 ((x1.length : Int) - s61.1))) > (rd x0 (w64 ((x0.length : Int) - s61.1))) then (rd x1 (w64 ((x1.length : Int) - s61.1))) else (rd x0 (w64 ((x0.length : Int) - s61.1))))]) (sz := 1) hf109 (hm68.at 0 rfl) rfl g106.1 g106.2 ?_)
      intro w110 hx111 hg112
      have hm113 := hm68.setOwn 0 _ rfl rfl hx111 hg112 (.inl rfl)
      refine endL rfl ?_
      refine blkN ?_
      refine thenN ?_
      refine rg [] [(0, .slice A0 x0.length c0), (1, .slice A1 x1.length c1), (6, vi (if (x1.length : Int) > (x0.length : Int) then (x1.length : Int) else (x0.length : Int))), (7, .slice A48 s61.2.length c49), (8, vi (w64 (s61.1 + 1)))] hf109 ot fun a114 hf115 => ?_
      have hf116 : Fr 83 a114 [(0, .slice A0 x0.length c0), (1, .slice A1 x1.length c1), (6, .int .i64 (if (x1.length : Int) > (x0.length : Int) then (x1.length : Int) else (x0.length : Int))), (7, .slice A48 s61.2.length c49), (8, .int .i64 (w64 (s61.1 + 1)))] := hf115.se [0, 1, 6, 7, 8]
      have hm117 : Mem [] M w0 [.ow (Kd.int .i64) 3 A48 c49 (put s61.2 (w64 ((if (x1.length : Int) > (x0.length : Int) then (x1.length : Int) else (x0.length : Int)) - s61.1)) (if (rd x1 (w64 ((x1.length : Int) - s61.1))) > (rd x0 (w64 ((x0.length : Int) - s61.1))) then (rd x1 (w64 ((x1.length : Int) - s61.1))) else (rd x0 (w64 ((x0.length : Int) - s61.1))))), .sl (Kd.int .i64) A0 c0 x0, .sl (Kd.int .i64) A1 c1 x1] w110 := hm113.se [0, 1, 2] _ rfl
      exact ⟨((w64 (s61.1 + 1)), (put s61.2 (w64 ((if (x1.length : Int) > (x0.length : Int) then (x1.length : Int) else (x0.length : Int)) - s61.1)) (if (rd x1 (w64 ((x1.length : Int) - s61.1))) > (rd x0 (w64 ((x0.length : Int) - s61.1))) then (rd x1 (w64 ((x1.length : Int) - s61.1))) else (rd x0 (w64 ((x0.length : Int) - s61.1)))))), H1, (by simpa only [put_length, List.length_nil] using hf116), (by simpa only [put_length, List.length_nil] using hm117)⟩
    rcases ifS_split H1 with ⟨c118, H1⟩ | ⟨c118, H1⟩
    · refine rg [.bool true, .bool true, .bool false] [(0, .slice A0 x0.length c0), (1, .slice A1 x1.length c1), (6, vi (if (x1.length : Int) > (x0.length : Int) then (x1.length : Int) else (x0.length : Int))), (7, .slice A48 s61.2.length c49), (8, vi s61.1), (9, vi (rd x0 (w64 ((x0.length : Int) - s61.1)))), (10, vi (rd x1 (w64 ((x1.length : Int) - s61.1)))), (65, .bool false)] hf87 (oi (neT c88) (oi (neT c103) (oi (neF c118) ot))) fun a119 hf120 => ?_
      refine thenN ?_
      refine cF hf120 ?_
      refine wp_skip ?_
      refine thenN ?_
      obtain ⟨g121, H1⟩ := ifS_guard H1
      have q122 := (hm68.owAt 0 rfl).int (w64 ((if (x1.length : Int) > (x0.length : Int) then (x1.length : Int) else (x0.length : Int)) - s61.1)) g121.1 g121.2
      refine inReg ?_
      refine gg 8 [] [(0, .slice A0 x0.length c0), (1, .slice A1 x1.length c1), (6, vi (if (x1.length : Int) > (x0.length : Int) then (x1.length : Int) else (x0.length : Int))), (7, .slice A48 s61.2.length c49), (8, vi s61.1), (72, vi (if (rd x1 (w64 ((x1.length : Int) - s61.1))) > (rd x0 (w64 ((x0.length : Int) - s61.1))) then (rd x1 (w64 ((x1.length : Int) - s61.1))) else (rd x0 (w64 ((x0.length : Int) - s61.1))))), (73, .pointer (some ((ad A48).add (((w64 ((if (x1.length : Int) > (x0.length : Int) then (x1.length : Int) else (x0.length : Int)) - s61.1))).toNat * 1))))] hf120 (oi q122.1 (oi g121 ot)) fun a123 hf124 => ?_
      refine lo hf124 rfl (so (i := (w64 ((if (x1.length : Int) > (x0.length : Int) then (x1.length : Int) else (x0.length : Int)) - s61.1))) (x := (if (rd x1 (w64 ((x1.length : Int) - s61.1))) > (rd x0 (w64 ((x0.length : Int) - s61.1))) then (rd x1 (w64 ((x1.length : Int) - s61.1))) else (rd x0 (w64 ((x0.length : Int) - s61.1))))) (us := [.int .i64 (if (rd x1 (w64 ((x1.length : Int) - s61.1))) > (rd x0 (w64 ((x0.length : Int) - s61.1))) then (rd x1 (w64 ((x1.length : Int) - s61.1))) else (rd x0 (w64 ((x0.length : Int) - s61.1))))]) (sz := 1) hf124 (hm68.at 0 rfl) rfl g121.1 g121.2 ?_)
      intro w125 hx126 hg127
      have hm128 := hm68.setOwn 0 _ rfl rfl hx126 hg127 (.inl rfl)
      refine endL rfl ?_
      refine blkN ?_
      refine thenN ?_
      refine rg [] [(0, .slice A0 x0.length c0), (1, .slice A1 x1.length c1), (6, vi (if (x1.length : Int) > (x0.length : Int) then (x1.length : Int) else (x0.length : Int))), (7, .slice A48 s61.2.length c49), (8, vi (w64 (s61.1 + 1)))] hf124 ot fun a129 hf130 => ?_
      have hf131 : Fr 83 a129 [(0, .slice A0 x0.length c0), (1, .slice A1 x1.length c1), (6, .int .i64 (if (x1.length : Int) > (x0.length : Int) then (x1.length : Int) else (x0.length : Int))), (7, .slice A48 s61.2.length c49), (8, .int .i64 (w64 (s61.1 + 1)))] := hf130.se [0, 1, 6, 7, 8]
      have hm132 : Mem [] M w0 [.ow (Kd.int .i64) 3 A48 c49 (put s61.2 (w64 ((if (x1.length : Int) > (x0.length : Int) then (x1.length : Int) else (x0.length : Int)) - s61.1)) (if (rd x1 (w64 ((x1.length : Int) - s61.1))) > (rd x0 (w64 ((x0.length : Int) - s61.1))) then (rd x1 (w64 ((x1.length : Int) - s61.1))) else (rd x0 (w64 ((x0.length : Int) - s61.1))))), .sl (Kd.int .i64) A0 c0 x0, .sl (Kd.int .i64) A1 c1 x1] w125 := hm128.se [0, 1, 2] _ rfl
      exact ⟨((w64 (s61.1 + 1)), (put s61.2 (w64 ((if (x1.length : Int) > (x0.length : Int) then (x1.length : Int) else (x0.length : Int)) - s61.1)) (if (rd x1 (w64 ((x1.length : Int) - s61.1))) > (rd x0 (w64 ((x0.length : Int) - s61.1))) then (rd x1 (w64 ((x1.length : Int) - s61.1))) else (rd x0 (w64 ((x0.length : Int) - s61.1)))))), H1, (by simpa only [put_length, List.length_nil] using hf131), (by simpa only [put_length, List.length_nil] using hm132)⟩
    refine rg [.bool true, .bool true, .bool true] [(0, .slice A0 x0.length c0), (1, .slice A1 x1.length c1), (6, vi (if (x1.length : Int) > (x0.length : Int) then (x1.length : Int) else (x0.length : Int))), (7, .slice A48 s61.2.length c49), (8, vi s61.1), (9, vi (rd x0 (w64 ((x0.length : Int) - s61.1)))), (10, vi (rd x1 (w64 ((x1.length : Int) - s61.1)))), (65, .bool true)] hf87 (oi (neT c88) (oi (neT c103) (oi (neT c118) ot))) fun a133 hf134 => ?_
    refine thenN ?_
    refine cT hf134 ?_
    refine wp_seq ?_
    refine rg [] [(4, .slice none 0 0), (5, vi 2)] hf134 ot fun a135 hf136 => ?_
    have hm137 := hm68.se [] _ rfl
    refine thenN ?_
    refine wp_ret ?_
    refine thenR ?_
    refine blkR ?_
    refine thenR ?_
    refine thenR ?_
    refine .inr ⟨rfl, ?_⟩
    refine thenR ?_
    have hm138 := hm137.nilOw (Kd.int .i64) 3
    have hm139 : Mem [] M w0 [.ow (Kd.int .i64) 3 none 0 ([] : (List Int))] w66 := hm138.se [0] _ rfl
    obtain rfl := Option.some.inj H1
    obtain rfl := Option.some.inj H0
    refine rt [] [.slice none 0 0, .int .i64 2] hf136 ot ?_
    exact ⟨_, rfl, none, 0, rfl, hm139⟩
  rintro a228 w229 ⟨yr62, rfl, hf230, hm231⟩
  refine thenN ?_
  refine wp_seq ?_
  obtain ⟨r232, hr232, H0⟩ := ob_split H0
  refine inReg ?_
  refine gg 1 [] [(7, .slice A48 yr62.2.length c49), (75, .slice A48 yr62.2.length c49)] hf230 ot fun a233 hf234 => ?_
  have hm235 : Mem [] M w0 [.sl (Kd.int .i64) A48 c49 yr62.2, .sl (Kd.int .i64) A0 c0 x0, .sl (Kd.int .i64) A1 c1 x1] w229 := hm231.seal 0 _ rfl rfl
  refine lo hf234 rfl (cl 76 hf234 callable40 (ref1_Size.calls _ _ _ _ _ _ rfl (hm235.give [0] [.sl (Kd.int .i64) A48 c49 yr62.2] rfl rfl) r232 hr232) ?_)
  rintro _ w236 a237 ⟨rfl, hk239⟩ hf238
  have hm240 := hm231.still hk239.cum.none
  refine gg 5 [] [(7, .slice A48 yr62.2.length c49), (12, vi r232.2)] hf238 ot fun a241 hf242 => ?_
  refine endL rfl ?_
  have hm243 := hm240.se [0] _ rfl
  refine thenN ?_
  refine wp_seq ?_
  refine wp_seq ?_
  rcases if_split H0 with ⟨c244, H0⟩ | ⟨c244, H0⟩
  · refine rg [.bool false] [(7, .slice A48 yr62.2.length c49), (12, vi r232.2), (80, .bool false)] hf242 (oi (neF c244) ot) fun a245 hf246 => ?_
    refine thenN ?_
    refine cF hf246 ?_
    refine wp_skip ?_
    refine thenN ?_
    refine wp_seq ?_
    refine rg [] [(4, .slice A48 yr62.2.length c49), (5, vi 0)] hf246 ot fun a247 hf248 => ?_
    refine thenN ?_
    refine wp_ret ?_
    have hm249 : Mem [] M w0 [.ow (Kd.int .i64) 3 A48 c49 yr62.2] w236 := hm243.se [0] _ rfl
    obtain rfl := Option.some.inj H0
    refine rt [] [.slice A48 yr62.2.length c49, .int .i64 0] hf248 ot ?_
    exact ⟨_, rfl, A48, c49, rfl, hm249⟩
  refine rg [.bool true] [(7, .slice A48 yr62.2.length c49), (12, vi r232.2), (80, .bool true)] hf242 (oi (neT c244) ot) fun a251 hf252 => ?_
  refine thenN ?_
  refine cT hf252 ?_
  refine wp_seq ?_
  refine rg [] [(4, .slice none 0 0), (5, vi r232.2)] hf252 ot fun a253 hf254 => ?_
  have hm255 := hm243.se [] _ rfl
  refine thenN ?_
  refine wp_ret ?_
  refine thenR ?_
  have hm256 := hm255.nilOw (Kd.int .i64) 3
  have hm257 : Mem [] M w0 [.ow (Kd.int .i64) 3 none 0 ([] : (List Int))] w236 := hm256.se [0] _ rfl
  obtain rfl := Option.some.inj H0
  refine rt [] [.slice none 0 0, .int .i64 r232.2] hf254 ot ?_
  exact ⟨_, rfl, none, 0, rfl, hm257⟩
end Go.Proofs.Yteaoijahdinciaa
