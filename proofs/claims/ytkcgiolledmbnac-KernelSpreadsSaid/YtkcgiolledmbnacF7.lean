/- Printed by gen.py. -/
import Derived.Test.YtkcgiolledmbnacF6
namespace Go.Proofs.Ytkcgiolledmbnac
open Go Go.RowKit
set_option linter.unusedSimpArgs false
set_option linter.unusedVariables false
set_option linter.unnecessarySimpa false
/-! ### backstitch/backstitchref1.Spread -/
noncomputable def ref1_Spread.l0 (x1 : (List Int)) (x0 : (List Int)) (s61 : (Int × (List Int))) : Step (Int × (List Int)) (Out2 (Int × (List Int)) ((List Int) × Int)) :=
  if s61.1 ≤ (if (x1.length : Int) > (x0.length : Int) then (x1.length : Int) else (x0.length : Int)) then (if s61.1 ≤ (x0.length : Int) then (if 0 ≤ (w64 ((x0.length : Int) - s61.1)) ∧ (w64 ((x0.length : Int) - s61.1)) < (x0.length : Int) then (if s61.1 ≤ (x1.length : Int) then (if 0 ≤ (w64 ((x1.length : Int) - s61.1)) ∧ (w64 ((x1.length : Int) - s61.1)) < (x1.length : Int) then (if (rd x0 (w64 ((x0.length : Int) - s61.1))) = (rd x1 (w64 ((x1.length : Int) - s61.1))) then (if 0 ≤ (w64 ((if (x1.length : Int) > (x0.length : Int) then (x1.length : Int) else (x0.length : Int)) - s61.1)) ∧ (w64 ((if (x1.length : Int) > (x0.length : Int) then (x1.length : Int) else (x0.length : Int)) - s61.1)) < (s61.2.length : Int) then (.next ((w64 (s61.1 + 1)), (put s61.2 (w64 ((if (x1.length : Int) > (x0.length : Int) then (x1.length : Int) else (x0.length : Int)) - s61.1)) (if (rd x1 (w64 ((x1.length : Int) - s61.1))) > (rd x0 (w64 ((x0.length : Int) - s61.1))) then (rd x1 (w64 ((x1.length : Int) - s61.1))) else (rd x0 (w64 ((x0.length : Int) - s61.1)))))))
  else .bad)
  else (if (rd x0 (w64 ((x0.length : Int) - s61.1))) = 1 then (if 0 ≤ (w64 ((if (x1.length : Int) > (x0.length : Int) then (x1.length : Int) else (x0.length : Int)) - s61.1)) ∧ (w64 ((if (x1.length : Int) > (x0.length : Int) then (x1.length : Int) else (x0.length : Int)) - s61.1)) < (s61.2.length : Int) then (.next ((w64 (s61.1 + 1)), (put s61.2 (w64 ((if (x1.length : Int) > (x0.length : Int) then (x1.length : Int) else (x0.length : Int)) - s61.1)) (if (rd x1 (w64 ((x1.length : Int) - s61.1))) > (rd x0 (w64 ((x0.length : Int) - s61.1))) then (rd x1 (w64 ((x1.length : Int) - s61.1))) else (rd x0 (w64 ((x0.length : Int) - s61.1)))))))
  else .bad)
  else (if (rd x1 (w64 ((x1.length : Int) - s61.1))) = 1 then (if 0 ≤ (w64 ((if (x1.length : Int) > (x0.length : Int) then (x1.length : Int) else (x0.length : Int)) - s61.1)) ∧ (w64 ((if (x1.length : Int) > (x0.length : Int) then (x1.length : Int) else (x0.length : Int)) - s61.1)) < (s61.2.length : Int) then (.next ((w64 (s61.1 + 1)), (put s61.2 (w64 ((if (x1.length : Int) > (x0.length : Int) then (x1.length : Int) else (x0.length : Int)) - s61.1)) (if (rd x1 (w64 ((x1.length : Int) - s61.1))) > (rd x0 (w64 ((x0.length : Int) - s61.1))) then (rd x1 (w64 ((x1.length : Int) - s61.1))) else (rd x0 (w64 ((x0.length : Int) - s61.1)))))))
  else .bad)
  else (.done (.ret (([] : (List Int)), 2))))))
  else .bad)
  else (if (rd x0 (w64 ((x0.length : Int) - s61.1))) = 1 then (if 0 ≤ (w64 ((if (x1.length : Int) > (x0.length : Int) then (x1.length : Int) else (x0.length : Int)) - s61.1)) ∧ (w64 ((if (x1.length : Int) > (x0.length : Int) then (x1.length : Int) else (x0.length : Int)) - s61.1)) < (s61.2.length : Int) then (.next ((w64 (s61.1 + 1)), (put s61.2 (w64 ((if (x1.length : Int) > (x0.length : Int) then (x1.length : Int) else (x0.length : Int)) - s61.1)) (if 1 > (rd x0 (w64 ((x0.length : Int) - s61.1))) then 1 else (rd x0 (w64 ((x0.length : Int) - s61.1)))))))
  else .bad)
  else (if 0 ≤ (w64 ((if (x1.length : Int) > (x0.length : Int) then (x1.length : Int) else (x0.length : Int)) - s61.1)) ∧ (w64 ((if (x1.length : Int) > (x0.length : Int) then (x1.length : Int) else (x0.length : Int)) - s61.1)) < (s61.2.length : Int) then (.next ((w64 (s61.1 + 1)), (put s61.2 (w64 ((if (x1.length : Int) > (x0.length : Int) then (x1.length : Int) else (x0.length : Int)) - s61.1)) (if 1 > (rd x0 (w64 ((x0.length : Int) - s61.1))) then 1 else (rd x0 (w64 ((x0.length : Int) - s61.1)))))))
  else .bad)))
  else .bad)
  else (if s61.1 ≤ (x1.length : Int) then (if 0 ≤ (w64 ((x1.length : Int) - s61.1)) ∧ (w64 ((x1.length : Int) - s61.1)) < (x1.length : Int) then (if (1 : Int) = (rd x1 (w64 ((x1.length : Int) - s61.1))) then (if 0 ≤ (w64 ((if (x1.length : Int) > (x0.length : Int) then (x1.length : Int) else (x0.length : Int)) - s61.1)) ∧ (w64 ((if (x1.length : Int) > (x0.length : Int) then (x1.length : Int) else (x0.length : Int)) - s61.1)) < (s61.2.length : Int) then (.next ((w64 (s61.1 + 1)), (put s61.2 (w64 ((if (x1.length : Int) > (x0.length : Int) then (x1.length : Int) else (x0.length : Int)) - s61.1)) (if (rd x1 (w64 ((x1.length : Int) - s61.1))) > 1 then (rd x1 (w64 ((x1.length : Int) - s61.1))) else 1))))
  else .bad)
  else (if 0 ≤ (w64 ((if (x1.length : Int) > (x0.length : Int) then (x1.length : Int) else (x0.length : Int)) - s61.1)) ∧ (w64 ((if (x1.length : Int) > (x0.length : Int) then (x1.length : Int) else (x0.length : Int)) - s61.1)) < (s61.2.length : Int) then (.next ((w64 (s61.1 + 1)), (put s61.2 (w64 ((if (x1.length : Int) > (x0.length : Int) then (x1.length : Int) else (x0.length : Int)) - s61.1)) (if (rd x1 (w64 ((x1.length : Int) - s61.1))) > 1 then (rd x1 (w64 ((x1.length : Int) - s61.1))) else 1))))
  else .bad))
  else .bad)
  else (if 0 ≤ (w64 ((if (x1.length : Int) > (x0.length : Int) then (x1.length : Int) else (x0.length : Int)) - s61.1)) ∧ (w64 ((if (x1.length : Int) > (x0.length : Int) then (x1.length : Int) else (x0.length : Int)) - s61.1)) < (s61.2.length : Int) then (.next ((w64 (s61.1 + 1)), (put s61.2 (w64 ((if (x1.length : Int) > (x0.length : Int) then (x1.length : Int) else (x0.length : Int)) - s61.1)) (if 1 > 1 then 1 else 1))))
  else .bad)))
  else (.done (.go (s61.1, s61.2)))
noncomputable def ref1_Spread.f (x0 : (List Int)) (x1 : (List Int)) : Option ((List Int) × Int) :=
  (ref1_May.f x0).bind fun r23 =>
  if r23 = true then ((ref1_May.f x1).bind fun r25 =>
  if r25 = true then (if 0 ≤ (if (x1.length : Int) > (x0.length : Int) then (x1.length : Int) else (x0.length : Int)) ∧ (if (x1.length : Int) > (x0.length : Int) then (x1.length : Int) else (x0.length : Int)) ≤ 1099511627776 then ((loop (ref1_Spread.l0 x1 x0) (1, (List.replicate ((if (x1.length : Int) > (x0.length : Int) then (x1.length : Int) else (x0.length : Int))).toNat (0 : Int)))).bind fun r62 =>
  r62.on (fun yr62 =>
  (ref1_Size.f yr62.2).bind fun r232 =>
  if r232.2 = 0 then (some (yr62.2, 0))
  else (some (([] : (List Int)), r232.2))) (fun y => some y))
  else none)
  else (some (([] : (List Int)), 2)))
  else (some (([] : (List Int)), 2))
set_option maxRecDepth 100000 in
set_option maxHeartbeats 4000000 in
theorem ref1_Spread.calls (M : List (Option Nat)) (w0 : World) (x0 : (List Int)) (A0 : Option Addr) (n0 c0 : Nat) (e0 : n0 = x0.length) (x1 : (List Int)) (A1 : Option Addr) (n1 c1 : Nat) (e1 : n1 = x1.length) (hm0 : Mem [] M w0 [.sl (Kd.int .i64) A0 c0 x0, .sl (Kd.int .i64) A1 c1 x1] w0) (r : ((List Int) × Int)) (H0 : ref1_Spread.f x0 x1 = some r) :
    Calls Try.prog 57 [.slice A0 n0 c0, .slice A1 n1 c1].toArray w0 (fun x w' => ∃ v, x = .returned v ∧ ∃ Ar0 cr0, v = .tuple #[.slice Ar0 r.1.length cr0, .int .i64 r.2] ∧ Mem [] M w0 [.ow (Kd.int .i64) 3 Ar0 cr0 r.1] w') := by
  subst e0
  subst e1
  unfold ref1_Spread.f at H0
  refine enter (n := 83) Try.func57 rfl rfl (by kernel_rfl) fun a0 (hf0 : Fr 83 a0 [(0, .slice A0 x0.length c0), (1, .slice A1 x1.length c1)]) => ?_
  refine wp_seq ?_
  refine reg [] [0, 1] [(0, .slice A0 x0.length c0), (1, .slice A1 x1.length c1)] [] hf0 (by kernel_rfl) trivial fun a21 hf22 => ?_
  refine thenN ?_
  refine wp_seq ?_
  refine wp_seq ?_
  obtain ⟨r23, hr23, H0⟩ := ob_split H0
  rcases ifb_split H0 with ⟨c24, H0⟩ | ⟨c24, H0⟩
  rotate_left
  · refine inReg ?_
    refine go 1 [] [0, 1, 13] [(0, .slice A0 x0.length c0), (1, .slice A1 x1.length c1), (13, .slice A0 x0.length c0)] [] hf22 (by kernel_rfl) trivial fun a281 hf282 => ?_
    refine listOf hf282 rfl (by kernel_rfl) (aCall (fid := 73) (args := [.slice A0 x0.length c0]) (d := 14) hf282 (by kernel_rfl) (by kernel_rfl) callable73 (ref1_May.calls _ _ x0 A0 x0.length c0 rfl (hm0.give [0] [.sl (Kd.int .i64) A0 c0 x0] rfl rfl) r23 hr23) ?_)
    rintro _ w283 a284 ⟨rfl, hk286⟩ hf285
    have hm287 := hm0.still hk286.cum.none
    rw [c24] at hf285
    refine go 6 [] [0, 1, 20] [(0, .slice A0 x0.length c0), (1, .slice A1 x1.length c1), (20, .bool true)] [] hf285 (by kernel_rfl) trivial fun a288 hf289 => ?_
    refine endL rfl ?_
    refine thenN ?_
    refine condT hf289 (by kernel_rfl) ?_
    refine wp_seq ?_
    refine reg [] [4, 5] [(4, .slice none 0 0), (5, .int .i64 2)] [] hf289 (by kernel_rfl) trivial fun a290 hf291 => ?_
    have hm292 := hm287.sel [] _ rfl (by kernel_rfl)
    refine thenN ?_
    refine wp_ret ?_
    refine thenR ?_
    have hm293 := hm292.nilOw (Kd.int .i64) 3
    have hm294 : Mem [] M w0 [.ow (Kd.int .i64) 3 none 0 ([] : (List Int))] w283 := hm293.sel [0] _ rfl (by kernel_rfl)
    obtain rfl := Option.some.inj H0
    refine ret [] [.slice none 0 0, .int .i64 2] [] hf291 (by kernel_rfl) trivial ?_
    exact ⟨_, rfl, none, 0, rfl, hm294⟩
  obtain ⟨r25, hr25, H0⟩ := ob_split H0
  rcases ifb_split H0 with ⟨c26, H0⟩ | ⟨c26, H0⟩
  rotate_left
  · refine inReg ?_
    refine go 1 [] [0, 1, 13] [(0, .slice A0 x0.length c0), (1, .slice A1 x1.length c1), (13, .slice A0 x0.length c0)] [] hf22 (by kernel_rfl) trivial fun a259 hf260 => ?_
    refine listOf hf260 rfl (by kernel_rfl) (aCall (fid := 73) (args := [.slice A0 x0.length c0]) (d := 14) hf260 (by kernel_rfl) (by kernel_rfl) callable73 (ref1_May.calls _ _ x0 A0 x0.length c0 rfl (hm0.give [0] [.sl (Kd.int .i64) A0 c0 x0] rfl rfl) r23 hr23) ?_)
    rintro _ w261 a262 ⟨rfl, hk264⟩ hf263
    have hm265 := hm0.still hk264.cum.none
    rw [c24] at hf263
    refine go 3 [] [0, 1, 16, 17] [(0, .slice A0 x0.length c0), (1, .slice A1 x1.length c1), (16, .bool false), (17, .slice A1 x1.length c1)] [] hf263 (by kernel_rfl) trivial fun a266 hf267 => ?_
    refine listOf hf267 rfl (by kernel_rfl) (aCall (fid := 73) (args := [.slice A1 x1.length c1]) (d := 18) hf267 (by kernel_rfl) (by kernel_rfl) callable73 (ref1_May.calls _ _ x1 A1 x1.length c1 rfl (hm265.give [1] [.sl (Kd.int .i64) A1 c1 x1] rfl rfl) r25 hr25) ?_)
    rintro _ w268 a269 ⟨rfl, hk271⟩ hf270
    have hm272 := hm265.still hk271.cum.none
    rw [c26] at hf270
    refine go 2 [] [0, 1, 20] [(0, .slice A0 x0.length c0), (1, .slice A1 x1.length c1), (20, .bool true)] [] hf270 (by kernel_rfl) trivial fun a273 hf274 => ?_
    refine endL rfl ?_
    refine thenN ?_
    refine condT hf274 (by kernel_rfl) ?_
    refine wp_seq ?_
    refine reg [] [4, 5] [(4, .slice none 0 0), (5, .int .i64 2)] [] hf274 (by kernel_rfl) trivial fun a275 hf276 => ?_
    have hm277 := hm272.sel [] _ rfl (by kernel_rfl)
    refine thenN ?_
    refine wp_ret ?_
    refine thenR ?_
    have hm278 := hm277.nilOw (Kd.int .i64) 3
    have hm279 : Mem [] M w0 [.ow (Kd.int .i64) 3 none 0 ([] : (List Int))] w268 := hm278.sel [0] _ rfl (by kernel_rfl)
    obtain rfl := Option.some.inj H0
    refine ret [] [.slice none 0 0, .int .i64 2] [] hf276 (by kernel_rfl) trivial ?_
    exact ⟨_, rfl, none, 0, rfl, hm279⟩
  refine inReg ?_
  refine go 1 [] [0, 1, 13] [(0, .slice A0 x0.length c0), (1, .slice A1 x1.length c1), (13, .slice A0 x0.length c0)] [] hf22 (by kernel_rfl) trivial fun a27 hf28 => ?_
  refine listOf hf28 rfl (by kernel_rfl) (aCall (fid := 73) (args := [.slice A0 x0.length c0]) (d := 14) hf28 (by kernel_rfl) (by kernel_rfl) callable73 (ref1_May.calls _ _ x0 A0 x0.length c0 rfl (hm0.give [0] [.sl (Kd.int .i64) A0 c0 x0] rfl rfl) r23 hr23) ?_)
  rintro _ w29 a30 ⟨rfl, hk32⟩ hf31
  have hm33 := hm0.still hk32.cum.none
  rw [c24] at hf31
  refine go 3 [] [0, 1, 16, 17] [(0, .slice A0 x0.length c0), (1, .slice A1 x1.length c1), (16, .bool false), (17, .slice A1 x1.length c1)] [] hf31 (by kernel_rfl) trivial fun a34 hf35 => ?_
  refine listOf hf35 rfl (by kernel_rfl) (aCall (fid := 73) (args := [.slice A1 x1.length c1]) (d := 18) hf35 (by kernel_rfl) (by kernel_rfl) callable73 (ref1_May.calls _ _ x1 A1 x1.length c1 rfl (hm33.give [1] [.sl (Kd.int .i64) A1 c1 x1] rfl rfl) r25 hr25) ?_)
  rintro _ w36 a37 ⟨rfl, hk39⟩ hf38
  have hm40 := hm33.still hk39.cum.none
  rw [c26] at hf38
  refine go 2 [] [0, 1, 20] [(0, .slice A0 x0.length c0), (1, .slice A1 x1.length c1), (20, .bool false)] [] hf38 (by kernel_rfl) trivial fun a41 hf42 => ?_
  refine endL rfl ?_
  refine thenN ?_
  refine condF hf42 (by kernel_rfl) ?_
  refine wp_skip ?_
  refine thenN ?_
  refine wp_seq ?_
  refine reg [] [0, 1, 6] [(0, .slice A0 x0.length c0), (1, .slice A1 x1.length c1), (6, .int .i64 (if (x1.length : Int) > (x0.length : Int) then (x1.length : Int) else (x0.length : Int)))] [] hf42 (by kernel_rfl) trivial fun a43 hf44 => ?_
  refine thenN ?_
  refine wp_seq ?_
  obtain ⟨g45, H0⟩ := if_guard H0
  refine inReg ?_
  refine go 1 [] [0, 1, 6, 26] [(0, .slice A0 x0.length c0), (1, .slice A1 x1.length c1), (6, .int .i64 (if (x1.length : Int) > (x0.length : Int) then (x1.length : Int) else (x0.length : Int))), (26, .int .i64 (if (x1.length : Int) > (x0.length : Int) then (x1.length : Int) else (x0.length : Int)))] [] hf44 (by kernel_rfl) trivial fun a46 hf47 => ?_
  refine listOf hf47 rfl (by kernel_rfl) (aMake (kd := (Kd.int .i64)) (x := 0) (E := 3) (L := (if (x1.length : Int) > (x0.length : Int) then (x1.length : Int) else (x0.length : Int))) (z := [.int .i64 0]) (sz := 1) (d := 27) hf47 (by kernel_rfl) (by kernel_rfl) rfl (fun _ _ => rfl) g45.1 g45.2 ?_)
  intro A48 c49 w50 a51 ho53 hb55 hg54 hf52
  have hm56 : Mem [] M w0 [.ow (Kd.int .i64) 3 A48 c49 (List.replicate ((if (x1.length : Int) > (x0.length : Int) then (x1.length : Int) else (x0.length : Int))).toNat (0 : Int)), .sl (Kd.int .i64) A0 c0 x0, .sl (Kd.int .i64) A1 c1 x1] w50 := hm40.own (ho53 _) hg54
  refine go 1 [] [0, 1, 6, 7] [(0, .slice A0 x0.length c0), (1, .slice A1 x1.length c1), (6, .int .i64 (if (x1.length : Int) > (x0.length : Int) then (x1.length : Int) else (x0.length : Int))), (7, .slice A48 ((List.replicate ((if (x1.length : Int) > (x0.length : Int) then (x1.length : Int) else (x0.length : Int))).toNat (0 : Int)).length) c49)] [] hf52 (by kernel_rfl) trivial fun a57 hf58 => ?_
  refine endL rfl ?_
  refine thenN ?_
  refine wp_seq ?_
  refine wp_seq ?_
  refine reg [] [0, 1, 6, 7, 8] [(0, .slice A0 x0.length c0), (1, .slice A1 x1.length c1), (6, .int .i64 (if (x1.length : Int) > (x0.length : Int) then (x1.length : Int) else (x0.length : Int))), (7, .slice A48 ((List.replicate ((if (x1.length : Int) > (x0.length : Int) then (x1.length : Int) else (x0.length : Int))).toNat (0 : Int)).length) c49), (8, .int .i64 1)] [] hf58 (by kernel_rfl) trivial fun a59 hf60 => ?_
  refine thenN ?_
  obtain ⟨r62, hr62, H0⟩ := ob_split H0
  refine wpBlock (Mid := fun (a : Act) (w : World) => ∃ yr62 : (Int × (List Int)), r62 = .go yr62 ∧ Fr 83 a [(0, .slice A0 x0.length c0), (1, .slice A1 x1.length c1), (6, .int .i64 (if (x1.length : Int) > (x0.length : Int) then (x1.length : Int) else (x0.length : Int))), (7, .slice A48 yr62.2.length c49), (8, .int .i64 yr62.1)] ∧ Mem [] M w0 [.ow (Kd.int .i64) 3 A48 c49 yr62.2, .sl (Kd.int .i64) A0 c0 x0, .sl (Kd.int .i64) A1 c1 x1] w) ?_ ?_
  · refine wpLoop (ref1_Spread.l0 x1 x0) r62 (fun (s61 : (Int × (List Int))) (a : Act) (w : World) => Fr 83 a [(0, .slice A0 x0.length c0), (1, .slice A1 x1.length c1), (6, .int .i64 (if (x1.length : Int) > (x0.length : Int) then (x1.length : Int) else (x0.length : Int))), (7, .slice A48 s61.2.length c49), (8, .int .i64 s61.1)] ∧ Mem [] M w0 [.ow (Kd.int .i64) 3 A48 c49 s61.2, .sl (Kd.int .i64) A0 c0 x0, .sl (Kd.int .i64) A1 c1 x1] w) (1, (List.replicate ((if (x1.length : Int) > (x0.length : Int) then (x1.length : Int) else (x0.length : Int))).toNat (0 : Int))) hr62 ⟨hf60.sel (l := [0, 1, 6, 7, 8]) (by kernel_rfl), hm56.sel [0, 1, 2] _ rfl (by kernel_rfl)⟩ ?_
    rintro g63 s61 a65 w66 H1 ⟨hf67, hm68⟩
    unfold ref1_Spread.l0 at H1
    refine wp_seq ?_
    refine wp_seq ?_
    rcases ifS_split H1 with ⟨c69, H1⟩ | ⟨c69, H1⟩
    rotate_left
    · refine reg [.bool false] [0, 1, 6, 7, 8, 30] [(0, .slice A0 x0.length c0), (1, .slice A1 x1.length c1), (6, .int .i64 (if (x1.length : Int) > (x0.length : Int) then (x1.length : Int) else (x0.length : Int))), (7, .slice A48 s61.2.length c49), (8, .int .i64 s61.1), (30, .bool false)] [.is (decide (s61.1 ≤ (if (x1.length : Int) > (x0.length : Int) then (x1.length : Int) else (x0.length : Int))) = false)] hf67 (by kernel_rfl) ⟨(decide_eq_false c69), trivial⟩ fun a226 hf227 => ?_
      refine thenN ?_
      refine condF hf227 (by kernel_rfl) ?_
      refine wp_exit ?_
      refine thenE ?_
      refine thenE ?_
      obtain rfl := Option.some.inj H1
      exact .inl ⟨rfl, (s61.1, s61.2), rfl, hf227.sel (l := [0, 1, 6, 7, 8]) (by kernel_rfl), hm68.sel [0, 1, 2] _ rfl (by kernel_rfl)⟩
    refine reg [.bool true] [0, 1, 6, 7, 8, 30] [(0, .slice A0 x0.length c0), (1, .slice A1 x1.length c1), (6, .int .i64 (if (x1.length : Int) > (x0.length : Int) then (x1.length : Int) else (x0.length : Int))), (7, .slice A48 s61.2.length c49), (8, .int .i64 s61.1), (30, .bool true)] [.is (decide (s61.1 ≤ (if (x1.length : Int) > (x0.length : Int) then (x1.length : Int) else (x0.length : Int))) = true)] hf67 (by kernel_rfl) ⟨(decide_eq_true c69), trivial⟩ fun a70 hf71 => ?_
    refine thenN ?_
    refine condT hf71 (by kernel_rfl) ?_
    refine wp_skip ?_
    refine thenN ?_
    refine wp_seq ?_
    refine wp_block ?_
    refine wp_seq ?_
    refine reg [] [0, 1, 6, 7, 8, 9, 10] [(0, .slice A0 x0.length c0), (1, .slice A1 x1.length c1), (6, .int .i64 (if (x1.length : Int) > (x0.length : Int) then (x1.length : Int) else (x0.length : Int))), (7, .slice A48 s61.2.length c49), (8, .int .i64 s61.1), (9, .int .i64 1), (10, .int .i64 1)] [] hf71 (by kernel_rfl) trivial fun a72 hf73 => ?_
    refine thenN ?_
    refine wp_seq ?_
    refine wp_seq ?_
    rcases ifS_split H1 with ⟨c74, H1⟩ | ⟨c74, H1⟩
    rotate_left
    · refine reg [.bool false] [0, 1, 6, 7, 8, 9, 10, 36] [(0, .slice A0 x0.length c0), (1, .slice A1 x1.length c1), (6, .int .i64 (if (x1.length : Int) > (x0.length : Int) then (x1.length : Int) else (x0.length : Int))), (7, .slice A48 s61.2.length c49), (8, .int .i64 s61.1), (9, .int .i64 1), (10, .int .i64 1), (36, .bool false)] [.is (decide (s61.1 ≤ (x0.length : Int)) = false)] hf73 (by kernel_rfl) ⟨(decide_eq_false c74), trivial⟩ fun a172 hf173 => ?_
      refine thenN ?_
      refine condF hf173 (by kernel_rfl) ?_
      refine wp_skip ?_
      refine thenN ?_
      refine wp_seq ?_
      refine wp_seq ?_
      rcases ifS_split H1 with ⟨c174, H1⟩ | ⟨c174, H1⟩
      rotate_left
      · refine reg [.bool false] [0, 1, 6, 7, 8, 9, 10, 47] [(0, .slice A0 x0.length c0), (1, .slice A1 x1.length c1), (6, .int .i64 (if (x1.length : Int) > (x0.length : Int) then (x1.length : Int) else (x0.length : Int))), (7, .slice A48 s61.2.length c49), (8, .int .i64 s61.1), (9, .int .i64 1), (10, .int .i64 1), (47, .bool false)] [.is (decide (s61.1 ≤ (x1.length : Int)) = false)] hf173 (by kernel_rfl) ⟨(decide_eq_false c174), trivial⟩ fun a210 hf211 => ?_
        refine thenN ?_
        refine condF hf211 (by kernel_rfl) ?_
        refine wp_skip ?_
        refine thenN ?_
        refine wp_seq ?_
        refine wp_seq ?_
        refine reg [.bool false] [0, 1, 6, 7, 8, 9, 10, 65] [(0, .slice A0 x0.length c0), (1, .slice A1 x1.length c1), (6, .int .i64 (if (x1.length : Int) > (x0.length : Int) then (x1.length : Int) else (x0.length : Int))), (7, .slice A48 s61.2.length c49), (8, .int .i64 s61.1), (9, .int .i64 1), (10, .int .i64 1), (65, .bool false)] [.is (((1 : Int) != 1) = false)] hf211 (by kernel_rfl) ⟨(okIs (by decide)), trivial⟩ fun a212 hf213 => ?_
        refine thenN ?_
        refine condF hf213 (by kernel_rfl) ?_
        refine wp_skip ?_
        refine thenN ?_
        obtain ⟨g214, H1⟩ := ifS_guard H1
        have q215 := (hm68.owAt 0 rfl).int (w64 ((if (x1.length : Int) > (x0.length : Int) then (x1.length : Int) else (x0.length : Int)) - s61.1)) g214.1 g214.2
        refine inReg ?_
        refine go 8 [] [0, 1, 6, 7, 8, 72, 73] [(0, .slice A0 x0.length c0), (1, .slice A1 x1.length c1), (6, .int .i64 (if (x1.length : Int) > (x0.length : Int) then (x1.length : Int) else (x0.length : Int))), (7, .slice A48 s61.2.length c49), (8, .int .i64 s61.1), (72, .int .i64 (if 1 > 1 then 1 else 1)), (73, .pointer (some ((ad A48).add (((w64 ((if (x1.length : Int) > (x0.length : Int) then (x1.length : Int) else (x0.length : Int)) - s61.1))).toNat * 1))))] [.is (Option.isSome A48 = true), .is (0 ≤ (w64 ((if (x1.length : Int) > (x0.length : Int) then (x1.length : Int) else (x0.length : Int)) - s61.1)) ∧ (w64 ((if (x1.length : Int) > (x0.length : Int) then (x1.length : Int) else (x0.length : Int)) - s61.1)) < (s61.2.length : Int))] hf213 (by kernel_rfl) ⟨q215.1, g214, trivial⟩ fun a216 hf217 => ?_
        refine listOf hf217 rfl (by kernel_rfl) (aStoreO (kd := (Kd.int .i64)) (base := 0) (E := 3) (A := A48) (c := c49) (xs := s61.2) (i := (w64 ((if (x1.length : Int) > (x0.length : Int) then (x1.length : Int) else (x0.length : Int)) - s61.1))) (x := (if 1 > 1 then 1 else 1)) (us := [.int .i64 (if 1 > 1 then 1 else 1)]) (sz := 1) hf217 (by kernel_rfl) rfl (by kernel_rfl) (hm68.at 0 rfl) rfl g214.1 g214.2 ?_)
        intro w218 hx219 hg220
        have hm221 := hm68.setOwn 0 _ rfl rfl hx219 hg220 (.inl rfl)
        refine endL rfl ?_
        refine blkN ?_
        refine thenN ?_
        refine reg [] [0, 1, 6, 7, 8] [(0, .slice A0 x0.length c0), (1, .slice A1 x1.length c1), (6, .int .i64 (if (x1.length : Int) > (x0.length : Int) then (x1.length : Int) else (x0.length : Int))), (7, .slice A48 s61.2.length c49), (8, .int .i64 (w64 (s61.1 + 1)))] [] hf217 (by kernel_rfl) trivial fun a222 hf223 => ?_
        have hf224 : Fr 83 a222 [(0, .slice A0 x0.length c0), (1, .slice A1 x1.length c1), (6, .int .i64 (if (x1.length : Int) > (x0.length : Int) then (x1.length : Int) else (x0.length : Int))), (7, .slice A48 s61.2.length c49), (8, .int .i64 (w64 (s61.1 + 1)))] := hf223.sel (l := [0, 1, 6, 7, 8]) (by kernel_rfl)
        have hm225 : Mem [] M w0 [.ow (Kd.int .i64) 3 A48 c49 (put s61.2 (w64 ((if (x1.length : Int) > (x0.length : Int) then (x1.length : Int) else (x0.length : Int)) - s61.1)) (if 1 > 1 then 1 else 1)), .sl (Kd.int .i64) A0 c0 x0, .sl (Kd.int .i64) A1 c1 x1] w218 := hm221.sel [0, 1, 2] _ rfl (by kernel_rfl)
        exact ⟨((w64 (s61.1 + 1)), (put s61.2 (w64 ((if (x1.length : Int) > (x0.length : Int) then (x1.length : Int) else (x0.length : Int)) - s61.1)) (if 1 > 1 then 1 else 1))), H1, (by simpa only [put_length, List.length_nil] using hf224), (by simpa only [put_length, List.length_nil] using hm225)⟩
      refine reg [.bool true] [0, 1, 6, 7, 8, 9, 10, 47] [(0, .slice A0 x0.length c0), (1, .slice A1 x1.length c1), (6, .int .i64 (if (x1.length : Int) > (x0.length : Int) then (x1.length : Int) else (x0.length : Int))), (7, .slice A48 s61.2.length c49), (8, .int .i64 s61.1), (9, .int .i64 1), (10, .int .i64 1), (47, .bool true)] [.is (decide (s61.1 ≤ (x1.length : Int)) = true)] hf173 (by kernel_rfl) ⟨(decide_eq_true c174), trivial⟩ fun a175 hf176 => ?_
      refine thenN ?_
      refine condT hf176 (by kernel_rfl) ?_
      obtain ⟨g177, H1⟩ := ifS_guard H1
      have q178 := (hm68.slAt 2 rfl).int (w64 ((x1.length : Int) - s61.1)) g177.1 g177.2
      refine reg [.int .i64 (rd x1 (w64 ((x1.length : Int) - s61.1)))] [0, 1, 6, 7, 8, 9, 10] [(0, .slice A0 x0.length c0), (1, .slice A1 x1.length c1), (6, .int .i64 (if (x1.length : Int) > (x0.length : Int) then (x1.length : Int) else (x0.length : Int))), (7, .slice A48 s61.2.length c49), (8, .int .i64 s61.1), (9, .int .i64 1), (10, .int .i64 (rd x1 (w64 ((x1.length : Int) - s61.1))))] [.is (Option.isSome A1 = true), .is (0 ≤ (w64 ((x1.length : Int) - s61.1)) ∧ (w64 ((x1.length : Int) - s61.1)) < (x1.length : Int)), .cell ((ad A1).add (((w64 ((x1.length : Int) - s61.1))).toNat * 1)) (.int .i64 (rd x1 (w64 ((x1.length : Int) - s61.1))))] hf176 (by kernel_rfl) ⟨q178.1, g177, q178.2, trivial⟩ fun a179 hf180 => ?_
      refine thenN ?_
      refine wp_seq ?_
      refine wp_seq ?_
      rcases ifS_split H1 with ⟨c181, H1⟩ | ⟨c181, H1⟩
      · refine reg [.bool false] [0, 1, 6, 7, 8, 9, 10, 65] [(0, .slice A0 x0.length c0), (1, .slice A1 x1.length c1), (6, .int .i64 (if (x1.length : Int) > (x0.length : Int) then (x1.length : Int) else (x0.length : Int))), (7, .slice A48 s61.2.length c49), (8, .int .i64 s61.1), (9, .int .i64 1), (10, .int .i64 (rd x1 (w64 ((x1.length : Int) - s61.1)))), (65, .bool false)] [.is (((1 : Int) != (rd x1 (w64 ((x1.length : Int) - s61.1)))) = false)] hf180 (by kernel_rfl) ⟨(neF c181), trivial⟩ fun a182 hf183 => ?_
        refine thenN ?_
        refine condF hf183 (by kernel_rfl) ?_
        refine wp_skip ?_
        refine thenN ?_
        obtain ⟨g184, H1⟩ := ifS_guard H1
        have q185 := (hm68.owAt 0 rfl).int (w64 ((if (x1.length : Int) > (x0.length : Int) then (x1.length : Int) else (x0.length : Int)) - s61.1)) g184.1 g184.2
        refine inReg ?_
        refine go 8 [] [0, 1, 6, 7, 8, 72, 73] [(0, .slice A0 x0.length c0), (1, .slice A1 x1.length c1), (6, .int .i64 (if (x1.length : Int) > (x0.length : Int) then (x1.length : Int) else (x0.length : Int))), (7, .slice A48 s61.2.length c49), (8, .int .i64 s61.1), (72, .int .i64 (if (rd x1 (w64 ((x1.length : Int) - s61.1))) > 1 then (rd x1 (w64 ((x1.length : Int) - s61.1))) else 1)), (73, .pointer (some ((ad A48).add (((w64 ((if (x1.length : Int) > (x0.length : Int) then (x1.length : Int) else (x0.length : Int)) - s61.1))).toNat * 1))))] [.is (Option.isSome A48 = true), .is (0 ≤ (w64 ((if (x1.length : Int) > (x0.length : Int) then (x1.length : Int) else (x0.length : Int)) - s61.1)) ∧ (w64 ((if (x1.length : Int) > (x0.length : Int) then (x1.length : Int) else (x0.length : Int)) - s61.1)) < (s61.2.length : Int))] hf183 (by kernel_rfl) ⟨q185.1, g184, trivial⟩ fun a186 hf187 => ?_
        refine listOf hf187 rfl (by kernel_rfl) (aStoreO (kd := (Kd.int .i64)) (base := 0) (E := 3) (A := A48) (c := c49) (xs := s61.2) (i := (w64 ((if (x1.length : Int) > (x0.length : Int) then (x1.length : Int) else (x0.length : Int)) - s61.1))) (x := (if (rd x1 (w64 ((x1.length : Int) - s61.1))) > 1 then (rd x1 (w64 ((x1.length : Int) - s61.1))) else 1)) (us := [.int .i64 (if (rd x1 (w64 ((x1.length : Int) - s61.1))) > 1 then (rd x1 (w64 ((x1.length : Int) - s61.1))) else 1)]) (sz := 1) hf187 (by kernel_rfl) rfl (by kernel_rfl) (hm68.at 0 rfl) rfl g184.1 g184.2 ?_)
        intro w188 hx189 hg190
        have hm191 := hm68.setOwn 0 _ rfl rfl hx189 hg190 (.inl rfl)
        refine endL rfl ?_
        refine blkN ?_
        refine thenN ?_
        refine reg [] [0, 1, 6, 7, 8] [(0, .slice A0 x0.length c0), (1, .slice A1 x1.length c1), (6, .int .i64 (if (x1.length : Int) > (x0.length : Int) then (x1.length : Int) else (x0.length : Int))), (7, .slice A48 s61.2.length c49), (8, .int .i64 (w64 (s61.1 + 1)))] [] hf187 (by kernel_rfl) trivial fun a192 hf193 => ?_
        have hf194 : Fr 83 a192 [(0, .slice A0 x0.length c0), (1, .slice A1 x1.length c1), (6, .int .i64 (if (x1.length : Int) > (x0.length : Int) then (x1.length : Int) else (x0.length : Int))), (7, .slice A48 s61.2.length c49), (8, .int .i64 (w64 (s61.1 + 1)))] := hf193.sel (l := [0, 1, 6, 7, 8]) (by kernel_rfl)
        have hm195 : Mem [] M w0 [.ow (Kd.int .i64) 3 A48 c49 (put s61.2 (w64 ((if (x1.length : Int) > (x0.length : Int) then (x1.length : Int) else (x0.length : Int)) - s61.1)) (if (rd x1 (w64 ((x1.length : Int) - s61.1))) > 1 then (rd x1 (w64 ((x1.length : Int) - s61.1))) else 1)), .sl (Kd.int .i64) A0 c0 x0, .sl (Kd.int .i64) A1 c1 x1] w188 := hm191.sel [0, 1, 2] _ rfl (by kernel_rfl)
        exact ⟨((w64 (s61.1 + 1)), (put s61.2 (w64 ((if (x1.length : Int) > (x0.length : Int) then (x1.length : Int) else (x0.length : Int)) - s61.1)) (if (rd x1 (w64 ((x1.length : Int) - s61.1))) > 1 then (rd x1 (w64 ((x1.length : Int) - s61.1))) else 1))), H1, (by simpa only [put_length, List.length_nil] using hf194), (by simpa only [put_length, List.length_nil] using hm195)⟩
      refine reg [.bool true, .bool false] [0, 1, 6, 7, 8, 9, 10, 65] [(0, .slice A0 x0.length c0), (1, .slice A1 x1.length c1), (6, .int .i64 (if (x1.length : Int) > (x0.length : Int) then (x1.length : Int) else (x0.length : Int))), (7, .slice A48 s61.2.length c49), (8, .int .i64 s61.1), (9, .int .i64 1), (10, .int .i64 (rd x1 (w64 ((x1.length : Int) - s61.1)))), (65, .bool false)] [.is (((1 : Int) != (rd x1 (w64 ((x1.length : Int) - s61.1)))) = true), .is (((1 : Int) != 1) = false)] hf180 (by kernel_rfl) ⟨(neT c181), (okIs (by decide)), trivial⟩ fun a196 hf197 => ?_
      refine thenN ?_
      refine condF hf197 (by kernel_rfl) ?_
      refine wp_skip ?_
      refine thenN ?_
      obtain ⟨g198, H1⟩ := ifS_guard H1
      have q199 := (hm68.owAt 0 rfl).int (w64 ((if (x1.length : Int) > (x0.length : Int) then (x1.length : Int) else (x0.length : Int)) - s61.1)) g198.1 g198.2
      refine inReg ?_
      refine go 8 [] [0, 1, 6, 7, 8, 72, 73] [(0, .slice A0 x0.length c0), (1, .slice A1 x1.length c1), (6, .int .i64 (if (x1.length : Int) > (x0.length : Int) then (x1.length : Int) else (x0.length : Int))), (7, .slice A48 s61.2.length c49), (8, .int .i64 s61.1), (72, .int .i64 (if (rd x1 (w64 ((x1.length : Int) - s61.1))) > 1 then (rd x1 (w64 ((x1.length : Int) - s61.1))) else 1)), (73, .pointer (some ((ad A48).add (((w64 ((if (x1.length : Int) > (x0.length : Int) then (x1.length : Int) else (x0.length : Int)) - s61.1))).toNat * 1))))] [.is (Option.isSome A48 = true), .is (0 ≤ (w64 ((if (x1.length : Int) > (x0.length : Int) then (x1.length : Int) else (x0.length : Int)) - s61.1)) ∧ (w64 ((if (x1.length : Int) > (x0.length : Int) then (x1.length : Int) else (x0.length : Int)) - s61.1)) < (s61.2.length : Int))] hf197 (by kernel_rfl) ⟨q199.1, g198, trivial⟩ fun a200 hf201 => ?_
      refine listOf hf201 rfl (by kernel_rfl) (aStoreO (kd := (Kd.int .i64)) (base := 0) (E := 3) (A := A48) (c := c49) (xs := s61.2) (i := (w64 ((if (x1.length : Int) > (x0.length : Int) then (x1.length : Int) else (x0.length : Int)) - s61.1))) (x := (if (rd x1 (w64 ((x1.length : Int) - s61.1))) > 1 then (rd x1 (w64 ((x1.length : Int) - s61.1))) else 1)) (us := [.int .i64 (if (rd x1 (w64 ((x1.length : Int) - s61.1))) > 1 then (rd x1 (w64 ((x1.length : Int) - s61.1))) else 1)]) (sz := 1) hf201 (by kernel_rfl) rfl (by kernel_rfl) (hm68.at 0 rfl) rfl g198.1 g198.2 ?_)
      intro w202 hx203 hg204
      have hm205 := hm68.setOwn 0 _ rfl rfl hx203 hg204 (.inl rfl)
      refine endL rfl ?_
      refine blkN ?_
      refine thenN ?_
      refine reg [] [0, 1, 6, 7, 8] [(0, .slice A0 x0.length c0), (1, .slice A1 x1.length c1), (6, .int .i64 (if (x1.length : Int) > (x0.length : Int) then (x1.length : Int) else (x0.length : Int))), (7, .slice A48 s61.2.length c49), (8, .int .i64 (w64 (s61.1 + 1)))] [] hf201 (by kernel_rfl) trivial fun a206 hf207 => ?_
      have hf208 : Fr 83 a206 [(0, .slice A0 x0.length c0), (1, .slice A1 x1.length c1), (6, .int .i64 (if (x1.length : Int) > (x0.length : Int) then (x1.length : Int) else (x0.length : Int))), (7, .slice A48 s61.2.length c49), (8, .int .i64 (w64 (s61.1 + 1)))] := hf207.sel (l := [0, 1, 6, 7, 8]) (by kernel_rfl)
      have hm209 : Mem [] M w0 [.ow (Kd.int .i64) 3 A48 c49 (put s61.2 (w64 ((if (x1.length : Int) > (x0.length : Int) then (x1.length : Int) else (x0.length : Int)) - s61.1)) (if (rd x1 (w64 ((x1.length : Int) - s61.1))) > 1 then (rd x1 (w64 ((x1.length : Int) - s61.1))) else 1)), .sl (Kd.int .i64) A0 c0 x0, .sl (Kd.int .i64) A1 c1 x1] w202 := hm205.sel [0, 1, 2] _ rfl (by kernel_rfl)
      exact ⟨((w64 (s61.1 + 1)), (put s61.2 (w64 ((if (x1.length : Int) > (x0.length : Int) then (x1.length : Int) else (x0.length : Int)) - s61.1)) (if (rd x1 (w64 ((x1.length : Int) - s61.1))) > 1 then (rd x1 (w64 ((x1.length : Int) - s61.1))) else 1))), H1, (by simpa only [put_length, List.length_nil] using hf208), (by simpa only [put_length, List.length_nil] using hm209)⟩
    refine reg [.bool true] [0, 1, 6, 7, 8, 9, 10, 36] [(0, .slice A0 x0.length c0), (1, .slice A1 x1.length c1), (6, .int .i64 (if (x1.length : Int) > (x0.length : Int) then (x1.length : Int) else (x0.length : Int))), (7, .slice A48 s61.2.length c49), (8, .int .i64 s61.1), (9, .int .i64 1), (10, .int .i64 1), (36, .bool true)] [.is (decide (s61.1 ≤ (x0.length : Int)) = true)] hf73 (by kernel_rfl) ⟨(decide_eq_true c74), trivial⟩ fun a75 hf76 => ?_
    refine thenN ?_
    refine condT hf76 (by kernel_rfl) ?_
    obtain ⟨g77, H1⟩ := ifS_guard H1
    have q78 := (hm68.slAt 1 rfl).int (w64 ((x0.length : Int) - s61.1)) g77.1 g77.2
    refine reg [.int .i64 (rd x0 (w64 ((x0.length : Int) - s61.1)))] [0, 1, 6, 7, 8, 9, 10] [(0, .slice A0 x0.length c0), (1, .slice A1 x1.length c1), (6, .int .i64 (if (x1.length : Int) > (x0.length : Int) then (x1.length : Int) else (x0.length : Int))), (7, .slice A48 s61.2.length c49), (8, .int .i64 s61.1), (9, .int .i64 (rd x0 (w64 ((x0.length : Int) - s61.1)))), (10, .int .i64 1)] [.is (Option.isSome A0 = true), .is (0 ≤ (w64 ((x0.length : Int) - s61.1)) ∧ (w64 ((x0.length : Int) - s61.1)) < (x0.length : Int)), .cell ((ad A0).add (((w64 ((x0.length : Int) - s61.1))).toNat * 1)) (.int .i64 (rd x0 (w64 ((x0.length : Int) - s61.1))))] hf76 (by kernel_rfl) ⟨q78.1, g77, q78.2, trivial⟩ fun a79 hf80 => ?_
    refine thenN ?_
    refine wp_seq ?_
    refine wp_seq ?_
    rcases ifS_split H1 with ⟨c81, H1⟩ | ⟨c81, H1⟩
    rotate_left
    · refine reg [.bool false] [0, 1, 6, 7, 8, 9, 10, 47] [(0, .slice A0 x0.length c0), (1, .slice A1 x1.length c1), (6, .int .i64 (if (x1.length : Int) > (x0.length : Int) then (x1.length : Int) else (x0.length : Int))), (7, .slice A48 s61.2.length c49), (8, .int .i64 s61.1), (9, .int .i64 (rd x0 (w64 ((x0.length : Int) - s61.1)))), (10, .int .i64 1), (47, .bool false)] [.is (decide (s61.1 ≤ (x1.length : Int)) = false)] hf80 (by kernel_rfl) ⟨(decide_eq_false c81), trivial⟩ fun a141 hf142 => ?_
      refine thenN ?_
      refine condF hf142 (by kernel_rfl) ?_
      refine wp_skip ?_
      refine thenN ?_
      refine wp_seq ?_
      refine wp_seq ?_
      rcases ifS_split H1 with ⟨c143, H1⟩ | ⟨c143, H1⟩
      · refine reg [.bool false] [0, 1, 6, 7, 8, 9, 10, 65] [(0, .slice A0 x0.length c0), (1, .slice A1 x1.length c1), (6, .int .i64 (if (x1.length : Int) > (x0.length : Int) then (x1.length : Int) else (x0.length : Int))), (7, .slice A48 s61.2.length c49), (8, .int .i64 s61.1), (9, .int .i64 (rd x0 (w64 ((x0.length : Int) - s61.1)))), (10, .int .i64 1), (65, .bool false)] [.is ((((rd x0 (w64 ((x0.length : Int) - s61.1))) : Int) != 1) = false)] hf142 (by kernel_rfl) ⟨(neF c143), trivial⟩ fun a144 hf145 => ?_
        refine thenN ?_
        refine condF hf145 (by kernel_rfl) ?_
        refine wp_skip ?_
        refine thenN ?_
        obtain ⟨g146, H1⟩ := ifS_guard H1
        have q147 := (hm68.owAt 0 rfl).int (w64 ((if (x1.length : Int) > (x0.length : Int) then (x1.length : Int) else (x0.length : Int)) - s61.1)) g146.1 g146.2
        refine inReg ?_
        refine go 8 [] [0, 1, 6, 7, 8, 72, 73] [(0, .slice A0 x0.length c0), (1, .slice A1 x1.length c1), (6, .int .i64 (if (x1.length : Int) > (x0.length : Int) then (x1.length : Int) else (x0.length : Int))), (7, .slice A48 s61.2.length c49), (8, .int .i64 s61.1), (72, .int .i64 (if 1 > (rd x0 (w64 ((x0.length : Int) - s61.1))) then 1 else (rd x0 (w64 ((x0.length : Int) - s61.1))))), (73, .pointer (some ((ad A48).add (((w64 ((if (x1.length : Int) > (x0.length : Int) then (x1.length : Int) else (x0.length : Int)) - s61.1))).toNat * 1))))] [.is (Option.isSome A48 = true), .is (0 ≤ (w64 ((if (x1.length : Int) > (x0.length : Int) then (x1.length : Int) else (x0.length : Int)) - s61.1)) ∧ (w64 ((if (x1.length : Int) > (x0.length : Int) then (x1.length : Int) else (x0.length : Int)) - s61.1)) < (s61.2.length : Int))] hf145 (by kernel_rfl) ⟨q147.1, g146, trivial⟩ fun a148 hf149 => ?_
        refine listOf hf149 rfl (by kernel_rfl) (aStoreO (kd := (Kd.int .i64)) (base := 0) (E := 3) (A := A48) (c := c49) (xs := s61.2) (i := (w64 ((if (x1.length : Int) > (x0.length : Int) then (x1.length : Int) else (x0.length : Int)) - s61.1))) (x := (if 1 > (rd x0 (w64 ((x0.length : Int) - s61.1))) then 1 else (rd x0 (w64 ((x0.length : Int) - s61.1))))) (us := [.int .i64 (if 1 > (rd x0 (w64 ((x0.length : Int) - s61.1))) then 1 else (rd x0 (w64 ((x0.length : Int) - s61.1))))]) (sz := 1) hf149 (by kernel_rfl) rfl (by kernel_rfl) (hm68.at 0 rfl) rfl g146.1 g146.2 ?_)
        intro w150 hx151 hg152
        have hm153 := hm68.setOwn 0 _ rfl rfl hx151 hg152 (.inl rfl)
        refine endL rfl ?_
        refine blkN ?_
        refine thenN ?_
        refine reg [] [0, 1, 6, 7, 8] [(0, .slice A0 x0.length c0), (1, .slice A1 x1.length c1), (6, .int .i64 (if (x1.length : Int) > (x0.length : Int) then (x1.length : Int) else (x0.length : Int))), (7, .slice A48 s61.2.length c49), (8, .int .i64 (w64 (s61.1 + 1)))] [] hf149 (by kernel_rfl) trivial fun a154 hf155 => ?_
        have hf156 : Fr 83 a154 [(0, .slice A0 x0.length c0), (1, .slice A1 x1.length c1), (6, .int .i64 (if (x1.length : Int) > (x0.length : Int) then (x1.length : Int) else (x0.length : Int))), (7, .slice A48 s61.2.length c49), (8, .int .i64 (w64 (s61.1 + 1)))] := hf155.sel (l := [0, 1, 6, 7, 8]) (by kernel_rfl)
        have hm157 : Mem [] M w0 [.ow (Kd.int .i64) 3 A48 c49 (put s61.2 (w64 ((if (x1.length : Int) > (x0.length : Int) then (x1.length : Int) else (x0.length : Int)) - s61.1)) (if 1 > (rd x0 (w64 ((x0.length : Int) - s61.1))) then 1 else (rd x0 (w64 ((x0.length : Int) - s61.1))))), .sl (Kd.int .i64) A0 c0 x0, .sl (Kd.int .i64) A1 c1 x1] w150 := hm153.sel [0, 1, 2] _ rfl (by kernel_rfl)
        exact ⟨((w64 (s61.1 + 1)), (put s61.2 (w64 ((if (x1.length : Int) > (x0.length : Int) then (x1.length : Int) else (x0.length : Int)) - s61.1)) (if 1 > (rd x0 (w64 ((x0.length : Int) - s61.1))) then 1 else (rd x0 (w64 ((x0.length : Int) - s61.1)))))), H1, (by simpa only [put_length, List.length_nil] using hf156), (by simpa only [put_length, List.length_nil] using hm157)⟩
      refine reg [.bool true, .bool true, .bool false] [0, 1, 6, 7, 8, 9, 10, 65] [(0, .slice A0 x0.length c0), (1, .slice A1 x1.length c1), (6, .int .i64 (if (x1.length : Int) > (x0.length : Int) then (x1.length : Int) else (x0.length : Int))), (7, .slice A48 s61.2.length c49), (8, .int .i64 s61.1), (9, .int .i64 (rd x0 (w64 ((x0.length : Int) - s61.1)))), (10, .int .i64 1), (65, .bool false)] [.is ((((rd x0 (w64 ((x0.length : Int) - s61.1))) : Int) != 1) = true), .is ((((rd x0 (w64 ((x0.length : Int) - s61.1))) : Int) != 1) = true), .is (((1 : Int) != 1) = false)] hf142 (by kernel_rfl) ⟨(neT c143), (neT c143), (okIs (by decide)), trivial⟩ fun a158 hf159 => ?_
      refine thenN ?_
      refine condF hf159 (by kernel_rfl) ?_
      refine wp_skip ?_
      refine thenN ?_
      obtain ⟨g160, H1⟩ := ifS_guard H1
      have q161 := (hm68.owAt 0 rfl).int (w64 ((if (x1.length : Int) > (x0.length : Int) then (x1.length : Int) else (x0.length : Int)) - s61.1)) g160.1 g160.2
      refine inReg ?_
      refine go 8 [] [0, 1, 6, 7, 8, 72, 73] [(0, .slice A0 x0.length c0), (1, .slice A1 x1.length c1), (6, .int .i64 (if (x1.length : Int) > (x0.length : Int) then (x1.length : Int) else (x0.length : Int))), (7, .slice A48 s61.2.length c49), (8, .int .i64 s61.1), (72, .int .i64 (if 1 > (rd x0 (w64 ((x0.length : Int) - s61.1))) then 1 else (rd x0 (w64 ((x0.length : Int) - s61.1))))), (73, .pointer (some ((ad A48).add (((w64 ((if (x1.length : Int) > (x0.length : Int) then (x1.length : Int) else (x0.length : Int)) - s61.1))).toNat * 1))))] [.is (Option.isSome A48 = true), .is (0 ≤ (w64 ((if (x1.length : Int) > (x0.length : Int) then (x1.length : Int) else (x0.length : Int)) - s61.1)) ∧ (w64 ((if (x1.length : Int) > (x0.length : Int) then (x1.length : Int) else (x0.length : Int)) - s61.1)) < (s61.2.length : Int))] hf159 (by kernel_rfl) ⟨q161.1, g160, trivial⟩ fun a162 hf163 => ?_
      refine listOf hf163 rfl (by kernel_rfl) (aStoreO (kd := (Kd.int .i64)) (base := 0) (E := 3) (A := A48) (c := c49) (xs := s61.2) (i := (w64 ((if (x1.length : Int) > (x0.length : Int) then (x1.length : Int) else (x0.length : Int)) - s61.1))) (x := (if 1 > (rd x0 (w64 ((x0.length : Int) - s61.1))) then 1 else (rd x0 (w64 ((x0.length : Int) - s61.1))))) (us := [.int .i64 (if 1 > (rd x0 (w64 ((x0.length : Int) - s61.1))) then 1 else (rd x0 (w64 ((x0.length : Int) - s61.1))))]) (sz := 1) hf163 (by kernel_rfl) rfl (by kernel_rfl) (hm68.at 0 rfl) rfl g160.1 g160.2 ?_)
      intro w164 hx165 hg166
      have hm167 := hm68.setOwn 0 _ rfl rfl hx165 hg166 (.inl rfl)
      refine endL rfl ?_
      refine blkN ?_
      refine thenN ?_
      refine reg [] [0, 1, 6, 7, 8] [(0, .slice A0 x0.length c0), (1, .slice A1 x1.length c1), (6, .int .i64 (if (x1.length : Int) > (x0.length : Int) then (x1.length : Int) else (x0.length : Int))), (7, .slice A48 s61.2.length c49), (8, .int .i64 (w64 (s61.1 + 1)))] [] hf163 (by kernel_rfl) trivial fun a168 hf169 => ?_
      have hf170 : Fr 83 a168 [(0, .slice A0 x0.length c0), (1, .slice A1 x1.length c1), (6, .int .i64 (if (x1.length : Int) > (x0.length : Int) then (x1.length : Int) else (x0.length : Int))), (7, .slice A48 s61.2.length c49), (8, .int .i64 (w64 (s61.1 + 1)))] := hf169.sel (l := [0, 1, 6, 7, 8]) (by kernel_rfl)
      have hm171 : Mem [] M w0 [.ow (Kd.int .i64) 3 A48 c49 (put s61.2 (w64 ((if (x1.length : Int) > (x0.length : Int) then (x1.length : Int) else (x0.length : Int)) - s61.1)) (if 1 > (rd x0 (w64 ((x0.length : Int) - s61.1))) then 1 else (rd x0 (w64 ((x0.length : Int) - s61.1))))), .sl (Kd.int .i64) A0 c0 x0, .sl (Kd.int .i64) A1 c1 x1] w164 := hm167.sel [0, 1, 2] _ rfl (by kernel_rfl)
      exact ⟨((w64 (s61.1 + 1)), (put s61.2 (w64 ((if (x1.length : Int) > (x0.length : Int) then (x1.length : Int) else (x0.length : Int)) - s61.1)) (if 1 > (rd x0 (w64 ((x0.length : Int) - s61.1))) then 1 else (rd x0 (w64 ((x0.length : Int) - s61.1)))))), H1, (by simpa only [put_length, List.length_nil] using hf170), (by simpa only [put_length, List.length_nil] using hm171)⟩
    refine reg [.bool true] [0, 1, 6, 7, 8, 9, 10, 47] [(0, .slice A0 x0.length c0), (1, .slice A1 x1.length c1), (6, .int .i64 (if (x1.length : Int) > (x0.length : Int) then (x1.length : Int) else (x0.length : Int))), (7, .slice A48 s61.2.length c49), (8, .int .i64 s61.1), (9, .int .i64 (rd x0 (w64 ((x0.length : Int) - s61.1)))), (10, .int .i64 1), (47, .bool true)] [.is (decide (s61.1 ≤ (x1.length : Int)) = true)] hf80 (by kernel_rfl) ⟨(decide_eq_true c81), trivial⟩ fun a82 hf83 => ?_
    refine thenN ?_
    refine condT hf83 (by kernel_rfl) ?_
    obtain ⟨g84, H1⟩ := ifS_guard H1
    have q85 := (hm68.slAt 2 rfl).int (w64 ((x1.length : Int) - s61.1)) g84.1 g84.2
    refine reg [.int .i64 (rd x1 (w64 ((x1.length : Int) - s61.1)))] [0, 1, 6, 7, 8, 9, 10] [(0, .slice A0 x0.length c0), (1, .slice A1 x1.length c1), (6, .int .i64 (if (x1.length : Int) > (x0.length : Int) then (x1.length : Int) else (x0.length : Int))), (7, .slice A48 s61.2.length c49), (8, .int .i64 s61.1), (9, .int .i64 (rd x0 (w64 ((x0.length : Int) - s61.1)))), (10, .int .i64 (rd x1 (w64 ((x1.length : Int) - s61.1))))] [.is (Option.isSome A1 = true), .is (0 ≤ (w64 ((x1.length : Int) - s61.1)) ∧ (w64 ((x1.length : Int) - s61.1)) < (x1.length : Int)), .cell ((ad A1).add (((w64 ((x1.length : Int) - s61.1))).toNat * 1)) (.int .i64 (rd x1 (w64 ((x1.length : Int) - s61.1))))] hf83 (by kernel_rfl) ⟨q85.1, g84, q85.2, trivial⟩ fun a86 hf87 => ?_
    refine thenN ?_
    refine wp_seq ?_
    refine wp_seq ?_
    rcases ifS_split H1 with ⟨c88, H1⟩ | ⟨c88, H1⟩
    · refine reg [.bool false] [0, 1, 6, 7, 8, 9, 10, 65] [(0, .slice A0 x0.length c0), (1, .slice A1 x1.length c1), (6, .int .i64 (if (x1.length : Int) > (x0.length : Int) then (x1.length : Int) else (x0.length : Int))), (7, .slice A48 s61.2.length c49), (8, .int .i64 s61.1), (9, .int .i64 (rd x0 (w64 ((x0.length : Int) - s61.1)))), (10, .int .i64 (rd x1 (w64 ((x1.length : Int) - s61.1)))), (65, .bool false)] [.is ((((rd x0 (w64 ((x0.length : Int) - s61.1))) : Int) != (rd x1 (w64 ((x1.length : Int) - s61.1)))) = false)] hf87 (by kernel_rfl) ⟨(neF c88), trivial⟩ fun a89 hf90 => ?_
      refine thenN ?_
      refine condF hf90 (by kernel_rfl) ?_
      refine wp_skip ?_
      refine thenN ?_
      obtain ⟨g91, H1⟩ := ifS_guard H1
      have q92 := (hm68.owAt 0 rfl).int (w64 ((if (x1.length : Int) > (x0.length : Int) then (x1.length : Int) else (x0.length : Int)) - s61.1)) g91.1 g91.2
      refine inReg ?_
      refine go 8 [] [0, 1, 6, 7, 8, 72, 73] [(0, .slice A0 x0.length c0), (1, .slice A1 x1.length c1), (6, .int .i64 (if (x1.length : Int) > (x0.length : Int) then (x1.length : Int) else (x0.length : Int))), (7, .slice A48 s61.2.length c49), (8, .int .i64 s61.1), (72, .int .i64 (if (rd x1 (w64 ((x1.length : Int) - s61.1))) > (rd x0 (w64 ((x0.length : Int) - s61.1))) then (rd x1 (w64 ((x1.length : Int) - s61.1))) else (rd x0 (w64 ((x0.length : Int) - s61.1))))), (73, .pointer (some ((ad A48).add (((w64 ((if (x1.length : Int) > (x0.length : Int) then (x1.length : Int) else (x0.length : Int)) - s61.1))).toNat * 1))))] [.is (Option.isSome A48 = true), .is (0 ≤ (w64 ((if (x1.length : Int) > (x0.length : Int) then (x1.length : Int) else (x0.length : Int)) - s61.1)) ∧ (w64 ((if (x1.length : Int) > (x0.length : Int) then (x1.length : Int) else (x0.length : Int)) - s61.1)) < (s61.2.length : Int))] hf90 (by kernel_rfl) ⟨q92.1, g91, trivial⟩ fun a93 hf94 => ?_
      refine listOf hf94 rfl (by kernel_rfl) (aStoreO (kd := (Kd.int .i64)) (base := 0) (E := 3) (A := A48) (c := c49) (xs := s61.2) (i := (w64 ((if (x1.length : Int) > (x0.length : Int) then (x1.length : Int) else (x0.length : Int)) - s61.1))) (x := (if (rd x1 (w64 ((x1.length : Int) - s61.1))) > (rd x0 (w64 ((x0.length : Int) - s61.1))) then (rd x1 (w64 ((x1.length : Int) - s61.1))) else (rd x0 (w64 ((x0.length : Int) - s61.1))))) (us := [.int .i64 (if (rd x1 (w64 ((x1.length : Int) - s61.1))) > (rd x0 (w64 ((x0.length : Int) - s61.1))) then (rd x1 (w64 ((x1.length : Int) - s61.1))) else (rd x0 (w64 ((x0.length : Int) - s61.1))))]) (sz := 1) hf94 (by kernel_rfl) rfl (by kernel_rfl) (hm68.at 0 rfl) rfl g91.1 g91.2 ?_)
      intro w95 hx96 hg97
      have hm98 := hm68.setOwn 0 _ rfl rfl hx96 hg97 (.inl rfl)
      refine endL rfl ?_
      refine blkN ?_
      refine thenN ?_
      refine reg [] [0, 1, 6, 7, 8] [(0, .slice A0 x0.length c0), (1, .slice A1 x1.length c1), (6, .int .i64 (if (x1.length : Int) > (x0.length : Int) then (x1.length : Int) else (x0.length : Int))), (7, .slice A48 s61.2.length c49), (8, .int .i64 (w64 (s61.1 + 1)))] [] hf94 (by kernel_rfl) trivial fun a99 hf100 => ?_
      have hf101 : Fr 83 a99 [(0, .slice A0 x0.length c0), (1, .slice A1 x1.length c1), (6, .int .i64 (if (x1.length : Int) > (x0.length : Int) then (x1.length : Int) else (x0.length : Int))), (7, .slice A48 s61.2.length c49), (8, .int .i64 (w64 (s61.1 + 1)))] := hf100.sel (l := [0, 1, 6, 7, 8]) (by kernel_rfl)
      have hm102 : Mem [] M w0 [.ow (Kd.int .i64) 3 A48 c49 (put s61.2 (w64 ((if (x1.length : Int) > (x0.length : Int) then (x1.length : Int) else (x0.length : Int)) - s61.1)) (if (rd x1 (w64 ((x1.length : Int) - s61.1))) > (rd x0 (w64 ((x0.length : Int) - s61.1))) then (rd x1 (w64 ((x1.length : Int) - s61.1))) else (rd x0 (w64 ((x0.length : Int) - s61.1))))), .sl (Kd.int .i64) A0 c0 x0, .sl (Kd.int .i64) A1 c1 x1] w95 := hm98.sel [0, 1, 2] _ rfl (by kernel_rfl)
      exact ⟨((w64 (s61.1 + 1)), (put s61.2 (w64 ((if (x1.length : Int) > (x0.length : Int) then (x1.length : Int) else (x0.length : Int)) - s61.1)) (if (rd x1 (w64 ((x1.length : Int) - s61.1))) > (rd x0 (w64 ((x0.length : Int) - s61.1))) then (rd x1 (w64 ((x1.length : Int) - s61.1))) else (rd x0 (w64 ((x0.length : Int) - s61.1)))))), H1, (by simpa only [put_length, List.length_nil] using hf101), (by simpa only [put_length, List.length_nil] using hm102)⟩
    rcases ifS_split H1 with ⟨c103, H1⟩ | ⟨c103, H1⟩
    · refine reg [.bool true, .bool false] [0, 1, 6, 7, 8, 9, 10, 65] [(0, .slice A0 x0.length c0), (1, .slice A1 x1.length c1), (6, .int .i64 (if (x1.length : Int) > (x0.length : Int) then (x1.length : Int) else (x0.length : Int))), (7, .slice A48 s61.2.length c49), (8, .int .i64 s61.1), (9, .int .i64 (rd x0 (w64 ((x0.length : Int) - s61.1)))), (10, .int .i64 (rd x1 (w64 ((x1.length : Int) - s61.1)))), (65, .bool false)] [.is ((((rd x0 (w64 ((x0.length : Int) - s61.1))) : Int) != (rd x1 (w64 ((x1.length : Int) - s61.1)))) = true), .is ((((rd x0 (w64 ((x0.length : Int) - s61.1))) : Int) != 1) = false)] hf87 (by kernel_rfl) ⟨(neT c88), (neF c103), trivial⟩ fun a104 hf105 => ?_
      refine thenN ?_
      refine condF hf105 (by kernel_rfl) ?_
      refine wp_skip ?_
      refine thenN ?_
      obtain ⟨g106, H1⟩ := ifS_guard H1
      have q107 := (hm68.owAt 0 rfl).int (w64 ((if (x1.length : Int) > (x0.length : Int) then (x1.length : Int) else (x0.length : Int)) - s61.1)) g106.1 g106.2
      refine inReg ?_
      refine go 8 [] [0, 1, 6, 7, 8, 72, 73] [(0, .slice A0 x0.length c0), (1, .slice A1 x1.length c1), (6, .int .i64 (if (x1.length : Int) > (x0.length : Int) then (x1.length : Int) else (x0.length : Int))), (7, .slice A48 s61.2.length c49), (8, .int .i64 s61.1), (72, .int .i64 (if (rd x1 (w64 ((x1.length : Int) - s61.1))) > (rd x0 (w64 ((x0.length : Int) - s61.1))) then (rd x1 (w64 ((x1.length : Int) - s61.1))) else (rd x0 (w64 ((x0.length : Int) - s61.1))))), (73, .pointer (some ((ad A48).add (((w64 ((if (x1.length : Int) > (x0.length : Int) then (x1.length : Int) else (x0.length : Int)) - s61.1))).toNat * 1))))] [.is (Option.isSome A48 = true), .is (0 ≤ (w64 ((if (x1.length : Int) > (x0.length : Int) then (x1.length : Int) else (x0.length : Int)) - s61.1)) ∧ (w64 ((if (x1.length : Int) > (x0.length : Int) then (x1.length : Int) else (x0.length : Int)) - s61.1)) < (s61.2.length : Int))] hf105 (by kernel_rfl) ⟨q107.1, g106, trivial⟩ fun a108 hf109 => ?_
      refine listOf hf109 rfl (by kernel_rfl) (aStoreO (kd := (Kd.int .i64)) (base := 0) (E := 3) (A := A48) (c := c49) (xs := s61.2) (i := (w64 ((if (x1.length : Int) > (x0.length : Int) then (x1.length : Int) else (x0.length : Int)) - s61.1))) (x := (if (rd x1 (w64 ((x1.length : Int) - s61.1))) > (rd x0 (w64 ((x0.length : Int) - s61.1))) then (rd x1 (w64 ((x1.length : Int) - s61.1))) else (rd x0 (w64 ((x0.length : Int) - s61.1))))) (us := [.int .i64 (if (rd x1 (w64 ((x1.length : Int) - s61.1))) > (rd x0 (w64 ((x0.length : Int) - s61.1))) then (rd x1 (w64 ((x1.length : Int) - s61.1))) else (rd x0 (w64 ((x0.length : Int) - s61.1))))]) (sz := 1) hf109 (by kernel_rfl) rfl (by kernel_rfl) (hm68.at 0 rfl) rfl g106.1 g106.2 ?_)
      intro w110 hx111 hg112
      have hm113 := hm68.setOwn 0 _ rfl rfl hx111 hg112 (.inl rfl)
      refine endL rfl ?_
      refine blkN ?_
      refine thenN ?_
      refine reg [] [0, 1, 6, 7, 8] [(0, .slice A0 x0.length c0), (1, .slice A1 x1.length c1), (6, .int .i64 (if (x1.length : Int) > (x0.length : Int) then (x1.length : Int) else (x0.length : Int))), (7, .slice A48 s61.2.length c49), (8, .int .i64 (w64 (s61.1 + 1)))] [] hf109 (by kernel_rfl) trivial fun a114 hf115 => ?_
      have hf116 : Fr 83 a114 [(0, .slice A0 x0.length c0), (1, .slice A1 x1.length c1), (6, .int .i64 (if (x1.length : Int) > (x0.length : Int) then (x1.length : Int) else (x0.length : Int))), (7, .slice A48 s61.2.length c49), (8, .int .i64 (w64 (s61.1 + 1)))] := hf115.sel (l := [0, 1, 6, 7, 8]) (by kernel_rfl)
      have hm117 : Mem [] M w0 [.ow (Kd.int .i64) 3 A48 c49 (put s61.2 (w64 ((if (x1.length : Int) > (x0.length : Int) then (x1.length : Int) else (x0.length : Int)) - s61.1)) (if (rd x1 (w64 ((x1.length : Int) - s61.1))) > (rd x0 (w64 ((x0.length : Int) - s61.1))) then (rd x1 (w64 ((x1.length : Int) - s61.1))) else (rd x0 (w64 ((x0.length : Int) - s61.1))))), .sl (Kd.int .i64) A0 c0 x0, .sl (Kd.int .i64) A1 c1 x1] w110 := hm113.sel [0, 1, 2] _ rfl (by kernel_rfl)
      exact ⟨((w64 (s61.1 + 1)), (put s61.2 (w64 ((if (x1.length : Int) > (x0.length : Int) then (x1.length : Int) else (x0.length : Int)) - s61.1)) (if (rd x1 (w64 ((x1.length : Int) - s61.1))) > (rd x0 (w64 ((x0.length : Int) - s61.1))) then (rd x1 (w64 ((x1.length : Int) - s61.1))) else (rd x0 (w64 ((x0.length : Int) - s61.1)))))), H1, (by simpa only [put_length, List.length_nil] using hf116), (by simpa only [put_length, List.length_nil] using hm117)⟩
    rcases ifS_split H1 with ⟨c118, H1⟩ | ⟨c118, H1⟩
    · refine reg [.bool true, .bool true, .bool false] [0, 1, 6, 7, 8, 9, 10, 65] [(0, .slice A0 x0.length c0), (1, .slice A1 x1.length c1), (6, .int .i64 (if (x1.length : Int) > (x0.length : Int) then (x1.length : Int) else (x0.length : Int))), (7, .slice A48 s61.2.length c49), (8, .int .i64 s61.1), (9, .int .i64 (rd x0 (w64 ((x0.length : Int) - s61.1)))), (10, .int .i64 (rd x1 (w64 ((x1.length : Int) - s61.1)))), (65, .bool false)] [.is ((((rd x0 (w64 ((x0.length : Int) - s61.1))) : Int) != (rd x1 (w64 ((x1.length : Int) - s61.1)))) = true), .is ((((rd x0 (w64 ((x0.length : Int) - s61.1))) : Int) != 1) = true), .is ((((rd x1 (w64 ((x1.length : Int) - s61.1))) : Int) != 1) = false)] hf87 (by kernel_rfl) ⟨(neT c88), (neT c103), (neF c118), trivial⟩ fun a119 hf120 => ?_
      refine thenN ?_
      refine condF hf120 (by kernel_rfl) ?_
      refine wp_skip ?_
      refine thenN ?_
      obtain ⟨g121, H1⟩ := ifS_guard H1
      have q122 := (hm68.owAt 0 rfl).int (w64 ((if (x1.length : Int) > (x0.length : Int) then (x1.length : Int) else (x0.length : Int)) - s61.1)) g121.1 g121.2
      refine inReg ?_
      refine go 8 [] [0, 1, 6, 7, 8, 72, 73] [(0, .slice A0 x0.length c0), (1, .slice A1 x1.length c1), (6, .int .i64 (if (x1.length : Int) > (x0.length : Int) then (x1.length : Int) else (x0.length : Int))), (7, .slice A48 s61.2.length c49), (8, .int .i64 s61.1), (72, .int .i64 (if (rd x1 (w64 ((x1.length : Int) - s61.1))) > (rd x0 (w64 ((x0.length : Int) - s61.1))) then (rd x1 (w64 ((x1.length : Int) - s61.1))) else (rd x0 (w64 ((x0.length : Int) - s61.1))))), (73, .pointer (some ((ad A48).add (((w64 ((if (x1.length : Int) > (x0.length : Int) then (x1.length : Int) else (x0.length : Int)) - s61.1))).toNat * 1))))] [.is (Option.isSome A48 = true), .is (0 ≤ (w64 ((if (x1.length : Int) > (x0.length : Int) then (x1.length : Int) else (x0.length : Int)) - s61.1)) ∧ (w64 ((if (x1.length : Int) > (x0.length : Int) then (x1.length : Int) else (x0.length : Int)) - s61.1)) < (s61.2.length : Int))] hf120 (by kernel_rfl) ⟨q122.1, g121, trivial⟩ fun a123 hf124 => ?_
      refine listOf hf124 rfl (by kernel_rfl) (aStoreO (kd := (Kd.int .i64)) (base := 0) (E := 3) (A := A48) (c := c49) (xs := s61.2) (i := (w64 ((if (x1.length : Int) > (x0.length : Int) then (x1.length : Int) else (x0.length : Int)) - s61.1))) (x := (if (rd x1 (w64 ((x1.length : Int) - s61.1))) > (rd x0 (w64 ((x0.length : Int) - s61.1))) then (rd x1 (w64 ((x1.length : Int) - s61.1))) else (rd x0 (w64 ((x0.length : Int) - s61.1))))) (us := [.int .i64 (if (rd x1 (w64 ((x1.length : Int) - s61.1))) > (rd x0 (w64 ((x0.length : Int) - s61.1))) then (rd x1 (w64 ((x1.length : Int) - s61.1))) else (rd x0 (w64 ((x0.length : Int) - s61.1))))]) (sz := 1) hf124 (by kernel_rfl) rfl (by kernel_rfl) (hm68.at 0 rfl) rfl g121.1 g121.2 ?_)
      intro w125 hx126 hg127
      have hm128 := hm68.setOwn 0 _ rfl rfl hx126 hg127 (.inl rfl)
      refine endL rfl ?_
      refine blkN ?_
      refine thenN ?_
      refine reg [] [0, 1, 6, 7, 8] [(0, .slice A0 x0.length c0), (1, .slice A1 x1.length c1), (6, .int .i64 (if (x1.length : Int) > (x0.length : Int) then (x1.length : Int) else (x0.length : Int))), (7, .slice A48 s61.2.length c49), (8, .int .i64 (w64 (s61.1 + 1)))] [] hf124 (by kernel_rfl) trivial fun a129 hf130 => ?_
      have hf131 : Fr 83 a129 [(0, .slice A0 x0.length c0), (1, .slice A1 x1.length c1), (6, .int .i64 (if (x1.length : Int) > (x0.length : Int) then (x1.length : Int) else (x0.length : Int))), (7, .slice A48 s61.2.length c49), (8, .int .i64 (w64 (s61.1 + 1)))] := hf130.sel (l := [0, 1, 6, 7, 8]) (by kernel_rfl)
      have hm132 : Mem [] M w0 [.ow (Kd.int .i64) 3 A48 c49 (put s61.2 (w64 ((if (x1.length : Int) > (x0.length : Int) then (x1.length : Int) else (x0.length : Int)) - s61.1)) (if (rd x1 (w64 ((x1.length : Int) - s61.1))) > (rd x0 (w64 ((x0.length : Int) - s61.1))) then (rd x1 (w64 ((x1.length : Int) - s61.1))) else (rd x0 (w64 ((x0.length : Int) - s61.1))))), .sl (Kd.int .i64) A0 c0 x0, .sl (Kd.int .i64) A1 c1 x1] w125 := hm128.sel [0, 1, 2] _ rfl (by kernel_rfl)
      exact ⟨((w64 (s61.1 + 1)), (put s61.2 (w64 ((if (x1.length : Int) > (x0.length : Int) then (x1.length : Int) else (x0.length : Int)) - s61.1)) (if (rd x1 (w64 ((x1.length : Int) - s61.1))) > (rd x0 (w64 ((x0.length : Int) - s61.1))) then (rd x1 (w64 ((x1.length : Int) - s61.1))) else (rd x0 (w64 ((x0.length : Int) - s61.1)))))), H1, (by simpa only [put_length, List.length_nil] using hf131), (by simpa only [put_length, List.length_nil] using hm132)⟩
    refine reg [.bool true, .bool true, .bool true] [0, 1, 6, 7, 8, 9, 10, 65] [(0, .slice A0 x0.length c0), (1, .slice A1 x1.length c1), (6, .int .i64 (if (x1.length : Int) > (x0.length : Int) then (x1.length : Int) else (x0.length : Int))), (7, .slice A48 s61.2.length c49), (8, .int .i64 s61.1), (9, .int .i64 (rd x0 (w64 ((x0.length : Int) - s61.1)))), (10, .int .i64 (rd x1 (w64 ((x1.length : Int) - s61.1)))), (65, .bool true)] [.is ((((rd x0 (w64 ((x0.length : Int) - s61.1))) : Int) != (rd x1 (w64 ((x1.length : Int) - s61.1)))) = true), .is ((((rd x0 (w64 ((x0.length : Int) - s61.1))) : Int) != 1) = true), .is ((((rd x1 (w64 ((x1.length : Int) - s61.1))) : Int) != 1) = true)] hf87 (by kernel_rfl) ⟨(neT c88), (neT c103), (neT c118), trivial⟩ fun a133 hf134 => ?_
    refine thenN ?_
    refine condT hf134 (by kernel_rfl) ?_
    refine wp_seq ?_
    refine reg [] [4, 5] [(4, .slice none 0 0), (5, .int .i64 2)] [] hf134 (by kernel_rfl) trivial fun a135 hf136 => ?_
    have hm137 := hm68.sel [] _ rfl (by kernel_rfl)
    refine thenN ?_
    refine wp_ret ?_
    refine thenR ?_
    refine blkR ?_
    refine thenR ?_
    refine thenR ?_
    refine .inr ⟨rfl, ?_⟩
    refine thenR ?_
    have hm138 := hm137.nilOw (Kd.int .i64) 3
    have hm139 : Mem [] M w0 [.ow (Kd.int .i64) 3 none 0 ([] : (List Int))] w66 := hm138.sel [0] _ rfl (by kernel_rfl)
    obtain rfl := Option.some.inj H1
    obtain rfl := Option.some.inj H0
    refine ret [] [.slice none 0 0, .int .i64 2] [] hf136 (by kernel_rfl) trivial ?_
    exact ⟨_, rfl, none, 0, rfl, hm139⟩
  rintro a228 w229 ⟨yr62, rfl, hf230, hm231⟩
  refine thenN ?_
  refine wp_seq ?_
  obtain ⟨r232, hr232, H0⟩ := ob_split H0
  refine inReg ?_
  refine go 1 [] [7, 75] [(7, .slice A48 yr62.2.length c49), (75, .slice A48 yr62.2.length c49)] [] hf230 (by kernel_rfl) trivial fun a233 hf234 => ?_
  have hm235 : Mem [] M w0 [.sl (Kd.int .i64) A48 c49 yr62.2, .sl (Kd.int .i64) A0 c0 x0, .sl (Kd.int .i64) A1 c1 x1] w229 := hm231.seal 0 _ rfl rfl
  refine listOf hf234 rfl (by kernel_rfl) (aCall (fid := 15) (args := [.slice A48 yr62.2.length c49]) (d := 76) hf234 (by kernel_rfl) (by kernel_rfl) callable15 (ref1_Size.calls _ _ yr62.2 A48 yr62.2.length c49 rfl (hm235.give [0] [.sl (Kd.int .i64) A48 c49 yr62.2] rfl rfl) r232 hr232) ?_)
  rintro _ w236 a237 ⟨rfl, hk239⟩ hf238
  have hm240 := hm231.still hk239.cum.none
  refine go 5 [] [7, 12] [(7, .slice A48 yr62.2.length c49), (12, .int .i64 r232.2)] [] hf238 (by kernel_rfl) trivial fun a241 hf242 => ?_
  refine endL rfl ?_
  have hm243 := hm240.sel [0] _ rfl (by kernel_rfl)
  refine thenN ?_
  refine wp_seq ?_
  refine wp_seq ?_
  rcases if_split H0 with ⟨c244, H0⟩ | ⟨c244, H0⟩
  · refine reg [.bool false] [7, 12, 80] [(7, .slice A48 yr62.2.length c49), (12, .int .i64 r232.2), (80, .bool false)] [.is (((r232.2 : Int) != 0) = false)] hf242 (by kernel_rfl) ⟨(neF c244), trivial⟩ fun a245 hf246 => ?_
    refine thenN ?_
    refine condF hf246 (by kernel_rfl) ?_
    refine wp_skip ?_
    refine thenN ?_
    refine wp_seq ?_
    refine reg [] [4, 5] [(4, .slice A48 yr62.2.length c49), (5, .int .i64 0)] [] hf246 (by kernel_rfl) trivial fun a247 hf248 => ?_
    refine thenN ?_
    refine wp_ret ?_
    have hm249 : Mem [] M w0 [.ow (Kd.int .i64) 3 A48 c49 yr62.2] w236 := hm243.sel [0] _ rfl (by kernel_rfl)
    obtain rfl := Option.some.inj H0
    refine ret [] [.slice A48 yr62.2.length c49, .int .i64 0] [] hf248 (by kernel_rfl) trivial ?_
    exact ⟨_, rfl, A48, c49, rfl, hm249⟩
  refine reg [.bool true] [7, 12, 80] [(7, .slice A48 yr62.2.length c49), (12, .int .i64 r232.2), (80, .bool true)] [.is (((r232.2 : Int) != 0) = true)] hf242 (by kernel_rfl) ⟨(neT c244), trivial⟩ fun a251 hf252 => ?_
  refine thenN ?_
  refine condT hf252 (by kernel_rfl) ?_
  refine wp_seq ?_
  refine reg [] [4, 5] [(4, .slice none 0 0), (5, .int .i64 r232.2)] [] hf252 (by kernel_rfl) trivial fun a253 hf254 => ?_
  have hm255 := hm243.sel [] _ rfl (by kernel_rfl)
  refine thenN ?_
  refine wp_ret ?_
  refine thenR ?_
  have hm256 := hm255.nilOw (Kd.int .i64) 3
  have hm257 : Mem [] M w0 [.ow (Kd.int .i64) 3 none 0 ([] : (List Int))] w236 := hm256.sel [0] _ rfl (by kernel_rfl)
  obtain rfl := Option.some.inj H0
  refine ret [] [.slice none 0 0, .int .i64 r232.2] [] hf254 (by kernel_rfl) trivial ?_
  exact ⟨_, rfl, none, 0, rfl, hm257⟩
end Go.Proofs.Ytkcgiolledmbnac
