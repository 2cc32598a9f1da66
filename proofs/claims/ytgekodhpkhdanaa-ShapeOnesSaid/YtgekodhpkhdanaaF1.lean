/- Printed by gen.py. -/
import Derived.Test.YtgekodhpkhdanaaF0
namespace Go.Proofs.Ytgekodhpkhdanaa
open Go Go.RowKit
set_option linter.unusedSimpArgs false
set_option linter.unusedVariables false
set_option linter.unnecessarySimpa false
/-! ### backstitch/backstitchref1.Spread -/
noncomputable def ref1_Spread.l0 (x1 : (List Int)) (x0 : (List Int)) (s41 : (Int × (List Int))) : Step (Int × (List Int)) (Out2 (Int × (List Int)) ((List Int) × Int)) :=
  if s41.1 ≤ (if (x1.length : Int) > (x0.length : Int) then (x1.length : Int) else (x0.length : Int)) then (if s41.1 ≤ (x0.length : Int) then (if 0 ≤ (w64 ((x0.length : Int) - s41.1)) ∧ (w64 ((x0.length : Int) - s41.1)) < (x0.length : Int) then (if s41.1 ≤ (x1.length : Int) then (if 0 ≤ (w64 ((x1.length : Int) - s41.1)) ∧ (w64 ((x1.length : Int) - s41.1)) < (x1.length : Int) then (if (rd x0 (w64 ((x0.length : Int) - s41.1))) = (rd x1 (w64 ((x1.length : Int) - s41.1))) then (if 0 ≤ (w64 ((if (x1.length : Int) > (x0.length : Int) then (x1.length : Int) else (x0.length : Int)) - s41.1)) ∧ (w64 ((if (x1.length : Int) > (x0.length : Int) then (x1.length : Int) else (x0.length : Int)) - s41.1)) < (s41.2.length : Int) then (.next ((w64 (s41.1 + 1)), (put s41.2 (w64 ((if (x1.length : Int) > (x0.length : Int) then (x1.length : Int) else (x0.length : Int)) - s41.1)) (if (rd x1 (w64 ((x1.length : Int) - s41.1))) > (rd x0 (w64 ((x0.length : Int) - s41.1))) then (rd x1 (w64 ((x1.length : Int) - s41.1))) else (rd x0 (w64 ((x0.length : Int) - s41.1)))))))
  else .bad)
  else (if (rd x0 (w64 ((x0.length : Int) - s41.1))) = 1 then (if 0 ≤ (w64 ((if (x1.length : Int) > (x0.length : Int) then (x1.length : Int) else (x0.length : Int)) - s41.1)) ∧ (w64 ((if (x1.length : Int) > (x0.length : Int) then (x1.length : Int) else (x0.length : Int)) - s41.1)) < (s41.2.length : Int) then (.next ((w64 (s41.1 + 1)), (put s41.2 (w64 ((if (x1.length : Int) > (x0.length : Int) then (x1.length : Int) else (x0.length : Int)) - s41.1)) (if (rd x1 (w64 ((x1.length : Int) - s41.1))) > (rd x0 (w64 ((x0.length : Int) - s41.1))) then (rd x1 (w64 ((x1.length : Int) - s41.1))) else (rd x0 (w64 ((x0.length : Int) - s41.1)))))))
  else .bad)
  else (if (rd x1 (w64 ((x1.length : Int) - s41.1))) = 1 then (if 0 ≤ (w64 ((if (x1.length : Int) > (x0.length : Int) then (x1.length : Int) else (x0.length : Int)) - s41.1)) ∧ (w64 ((if (x1.length : Int) > (x0.length : Int) then (x1.length : Int) else (x0.length : Int)) - s41.1)) < (s41.2.length : Int) then (.next ((w64 (s41.1 + 1)), (put s41.2 (w64 ((if (x1.length : Int) > (x0.length : Int) then (x1.length : Int) else (x0.length : Int)) - s41.1)) (if (rd x1 (w64 ((x1.length : Int) - s41.1))) > (rd x0 (w64 ((x0.length : Int) - s41.1))) then (rd x1 (w64 ((x1.length : Int) - s41.1))) else (rd x0 (w64 ((x0.length : Int) - s41.1)))))))
  else .bad)
  else (.done (.ret (([] : (List Int)), 2))))))
  else .bad)
  else (if (rd x0 (w64 ((x0.length : Int) - s41.1))) = 1 then (if 0 ≤ (w64 ((if (x1.length : Int) > (x0.length : Int) then (x1.length : Int) else (x0.length : Int)) - s41.1)) ∧ (w64 ((if (x1.length : Int) > (x0.length : Int) then (x1.length : Int) else (x0.length : Int)) - s41.1)) < (s41.2.length : Int) then (.next ((w64 (s41.1 + 1)), (put s41.2 (w64 ((if (x1.length : Int) > (x0.length : Int) then (x1.length : Int) else (x0.length : Int)) - s41.1)) (if 1 > (rd x0 (w64 ((x0.length : Int) - s41.1))) then 1 else (rd x0 (w64 ((x0.length : Int) - s41.1)))))))
  else .bad)
  else (if 0 ≤ (w64 ((if (x1.length : Int) > (x0.length : Int) then (x1.length : Int) else (x0.length : Int)) - s41.1)) ∧ (w64 ((if (x1.length : Int) > (x0.length : Int) then (x1.length : Int) else (x0.length : Int)) - s41.1)) < (s41.2.length : Int) then (.next ((w64 (s41.1 + 1)), (put s41.2 (w64 ((if (x1.length : Int) > (x0.length : Int) then (x1.length : Int) else (x0.length : Int)) - s41.1)) (if 1 > (rd x0 (w64 ((x0.length : Int) - s41.1))) then 1 else (rd x0 (w64 ((x0.length : Int) - s41.1)))))))
  else .bad)))
  else .bad)
  else (if s41.1 ≤ (x1.length : Int) then (if 0 ≤ (w64 ((x1.length : Int) - s41.1)) ∧ (w64 ((x1.length : Int) - s41.1)) < (x1.length : Int) then (if (1 : Int) = (rd x1 (w64 ((x1.length : Int) - s41.1))) then (if 0 ≤ (w64 ((if (x1.length : Int) > (x0.length : Int) then (x1.length : Int) else (x0.length : Int)) - s41.1)) ∧ (w64 ((if (x1.length : Int) > (x0.length : Int) then (x1.length : Int) else (x0.length : Int)) - s41.1)) < (s41.2.length : Int) then (.next ((w64 (s41.1 + 1)), (put s41.2 (w64 ((if (x1.length : Int) > (x0.length : Int) then (x1.length : Int) else (x0.length : Int)) - s41.1)) (if (rd x1 (w64 ((x1.length : Int) - s41.1))) > 1 then (rd x1 (w64 ((x1.length : Int) - s41.1))) else 1))))
  else .bad)
  else (if 0 ≤ (w64 ((if (x1.length : Int) > (x0.length : Int) then (x1.length : Int) else (x0.length : Int)) - s41.1)) ∧ (w64 ((if (x1.length : Int) > (x0.length : Int) then (x1.length : Int) else (x0.length : Int)) - s41.1)) < (s41.2.length : Int) then (.next ((w64 (s41.1 + 1)), (put s41.2 (w64 ((if (x1.length : Int) > (x0.length : Int) then (x1.length : Int) else (x0.length : Int)) - s41.1)) (if (rd x1 (w64 ((x1.length : Int) - s41.1))) > 1 then (rd x1 (w64 ((x1.length : Int) - s41.1))) else 1))))
  else .bad))
  else .bad)
  else (if 0 ≤ (w64 ((if (x1.length : Int) > (x0.length : Int) then (x1.length : Int) else (x0.length : Int)) - s41.1)) ∧ (w64 ((if (x1.length : Int) > (x0.length : Int) then (x1.length : Int) else (x0.length : Int)) - s41.1)) < (s41.2.length : Int) then (.next ((w64 (s41.1 + 1)), (put s41.2 (w64 ((if (x1.length : Int) > (x0.length : Int) then (x1.length : Int) else (x0.length : Int)) - s41.1)) (if 1 > 1 then 1 else 1))))
  else .bad)))
  else (.done (.go (s41.1, s41.2)))
noncomputable def ref1_Spread.f (x0 : (List Int)) (x1 : (List Int)) : Option ((List Int) × Int) :=
  (ref1_May.f x0).bind fun r3 =>
  if r3 = true then ((ref1_May.f x1).bind fun r5 =>
  if r5 = true then (if 0 ≤ (if (x1.length : Int) > (x0.length : Int) then (x1.length : Int) else (x0.length : Int)) ∧ (if (x1.length : Int) > (x0.length : Int) then (x1.length : Int) else (x0.length : Int)) ≤ 1099511627776 then ((loop (ref1_Spread.l0 x1 x0) (1, (List.replicate ((if (x1.length : Int) > (x0.length : Int) then (x1.length : Int) else (x0.length : Int))).toNat (0 : Int)))).bind fun r42 =>
  r42.on (fun yr42 =>
  (ref1_Size.f yr42.2).bind fun r211 =>
  if r211.2 = 0 then (some (yr42.2, 0))
  else (some (([] : (List Int)), r211.2))) (fun y => some y))
  else none)
  else (some (([] : (List Int)), 2)))
  else (some (([] : (List Int)), 2))
set_option maxRecDepth 100000 in
set_option maxHeartbeats 4000000 in
theorem ref1_Spread.calls (M : List (Option Nat)) (w0 : World) (x0 : (List Int)) (A0 : Option Addr) (n0 c0 : Nat) (e0 : n0 = x0.length) (x1 : (List Int)) (A1 : Option Addr) (n1 c1 : Nat) (e1 : n1 = x1.length) (hm0 : Mem [] M w0 [.sl (Kd.int .i64) A0 c0 x0, .sl (Kd.int .i64) A1 c1 x1] w0) (r : ((List Int) × Int)) (H0 : ref1_Spread.f x0 x1 = some r) :
    Calls Try.prog 11 [.slice A0 n0 c0, .slice A1 n1 c1].toArray w0 (fun x w' => ∃ v, x = .returned v ∧ ∃ Ar0 cr0, v = .tuple #[.slice Ar0 r.1.length cr0, .int .i64 r.2] ∧ Mem [] M w0 [.ow (Kd.int .i64) 3 Ar0 cr0 r.1] w') := by
  subst e0
  subst e1
  unfold ref1_Spread.f at H0
  refine enter (n := 83) Try.func11 rfl rfl (by kernel_rfl) fun a0 (hf0 : Fr 83 a0 [(0, .slice A0 x0.length c0), (1, .slice A1 x1.length c1)]) => ?_
  refine wp_seq ?_
  refine reg [] [0, 1] [(0, .slice A0 x0.length c0), (1, .slice A1 x1.length c1)] [] hf0 (by kernel_rfl) trivial fun a1 hf2 => ?_
  refine thenN ?_
  refine wp_seq ?_
  refine wp_seq ?_
  obtain ⟨r3, hr3, H0⟩ := ob_split H0
  rcases ifb_split H0 with ⟨c4, H0⟩ | ⟨c4, H0⟩
  · obtain ⟨r5, hr5, H0⟩ := ob_split H0
    rcases ifb_split H0 with ⟨c6, H0⟩ | ⟨c6, H0⟩
    · refine inReg ?_
      refine go 1 [] [0, 1, 13] [(0, .slice A0 x0.length c0), (1, .slice A1 x1.length c1), (13, .slice A0 x0.length c0)] [] hf2 (by kernel_rfl) trivial fun a7 hf8 => ?_
      refine listOf hf8 rfl (by kernel_rfl) (aCall (fid := 20) (args := [.slice A0 x0.length c0]) (d := 14) hf8 (by kernel_rfl) (by kernel_rfl) callable20 (ref1_May.calls _ _ x0 A0 x0.length c0 rfl (hm0.give [0] [.sl (Kd.int .i64) A0 c0 x0] rfl rfl) r3 hr3) ?_)
      rintro _ w9 a10 ⟨rfl, hk12⟩ hf11
      have hm13 : Mem [] M w0 [.sl (Kd.int .i64) A0 c0 x0, .sl (Kd.int .i64) A1 c1 x1] w9 := hm0.still hk12.cum.none
      rw [c4] at hf11
      refine go 3 [] [0, 1, 16, 17] [(0, .slice A0 x0.length c0), (1, .slice A1 x1.length c1), (16, .bool false), (17, .slice A1 x1.length c1)] [] hf11 (by kernel_rfl) trivial fun a14 hf15 => ?_
      refine listOf hf15 rfl (by kernel_rfl) (aCall (fid := 20) (args := [.slice A1 x1.length c1]) (d := 18) hf15 (by kernel_rfl) (by kernel_rfl) callable20 (ref1_May.calls _ _ x1 A1 x1.length c1 rfl (hm13.give [1] [.sl (Kd.int .i64) A1 c1 x1] rfl rfl) r5 hr5) ?_)
      rintro _ w16 a17 ⟨rfl, hk19⟩ hf18
      have hm20 : Mem [] M w0 [.sl (Kd.int .i64) A0 c0 x0, .sl (Kd.int .i64) A1 c1 x1] w16 := hm13.still hk19.cum.none
      rw [c6] at hf18
      refine go 2 [] [0, 1, 20] [(0, .slice A0 x0.length c0), (1, .slice A1 x1.length c1), (20, .bool false)] [] hf18 (by kernel_rfl) trivial fun a21 hf22 => ?_
      refine endL rfl ?_
      refine thenN ?_
      refine condF hf22 (by kernel_rfl) ?_
      refine wp_skip ?_
      refine thenN ?_
      refine wp_seq ?_
      refine reg [] [0, 1, 6] [(0, .slice A0 x0.length c0), (1, .slice A1 x1.length c1), (6, .int .i64 (if (x1.length : Int) > (x0.length : Int) then (x1.length : Int) else (x0.length : Int)))] [] hf22 (by kernel_rfl) trivial fun a23 hf24 => ?_
      refine thenN ?_
      refine wp_seq ?_
      obtain ⟨g25, H0⟩ := if_guard H0
      refine inReg ?_
      refine go 1 [] [0, 1, 6, 26] [(0, .slice A0 x0.length c0), (1, .slice A1 x1.length c1), (6, .int .i64 (if (x1.length : Int) > (x0.length : Int) then (x1.length : Int) else (x0.length : Int))), (26, .int .i64 (if (x1.length : Int) > (x0.length : Int) then (x1.length : Int) else (x0.length : Int)))] [] hf24 (by kernel_rfl) trivial fun a26 hf27 => ?_
      refine listOf hf27 rfl (by kernel_rfl) (aMake (kd := (Kd.int .i64)) (x := 0) (E := 3) (L := (if (x1.length : Int) > (x0.length : Int) then (x1.length : Int) else (x0.length : Int))) (z := [.int .i64 0]) (sz := 1) (d := 27) hf27 (by kernel_rfl) (by kernel_rfl) rfl (fun _ _ => rfl) g25.1 g25.2 ?_)
      intro A28 c29 w30 a31 ho33 hb35 hg34 hf32
      have hm36 : Mem [] M w0 [.ow (Kd.int .i64) 3 A28 c29 (List.replicate ((if (x1.length : Int) > (x0.length : Int) then (x1.length : Int) else (x0.length : Int))).toNat (0 : Int)), .sl (Kd.int .i64) A0 c0 x0, .sl (Kd.int .i64) A1 c1 x1] w30 := hm20.own (ho33 _) hg34
      refine go 1 [] [0, 1, 6, 7] [(0, .slice A0 x0.length c0), (1, .slice A1 x1.length c1), (6, .int .i64 (if (x1.length : Int) > (x0.length : Int) then (x1.length : Int) else (x0.length : Int))), (7, .slice A28 ((List.replicate ((if (x1.length : Int) > (x0.length : Int) then (x1.length : Int) else (x0.length : Int))).toNat (0 : Int)).length) c29)] [] hf32 (by kernel_rfl) trivial fun a37 hf38 => ?_
      refine endL rfl ?_
      refine thenN ?_
      refine wp_seq ?_
      refine wp_seq ?_
      refine reg [] [0, 1, 6, 7, 8] [(0, .slice A0 x0.length c0), (1, .slice A1 x1.length c1), (6, .int .i64 (if (x1.length : Int) > (x0.length : Int) then (x1.length : Int) else (x0.length : Int))), (7, .slice A28 ((List.replicate ((if (x1.length : Int) > (x0.length : Int) then (x1.length : Int) else (x0.length : Int))).toNat (0 : Int)).length) c29), (8, .int .i64 1)] [] hf38 (by kernel_rfl) trivial fun a39 hf40 => ?_
      refine thenN ?_
      obtain ⟨r42, hr42, H0⟩ := ob_split H0
      refine wpBlock (Mid := fun (a : Act) (w : World) => ∃ yr42 : (Int × (List Int)), r42 = .go yr42 ∧ Fr 83 a [(0, .slice A0 x0.length c0), (1, .slice A1 x1.length c1), (6, .int .i64 (if (x1.length : Int) > (x0.length : Int) then (x1.length : Int) else (x0.length : Int))), (7, .slice A28 yr42.2.length c29), (8, .int .i64 yr42.1)] ∧ Mem [] M w0 [.ow (Kd.int .i64) 3 A28 c29 yr42.2, .sl (Kd.int .i64) A0 c0 x0, .sl (Kd.int .i64) A1 c1 x1] w) ?_ ?_
      · refine wpLoop (ref1_Spread.l0 x1 x0) r42 (fun (s41 : (Int × (List Int))) (a : Act) (w : World) => Fr 83 a [(0, .slice A0 x0.length c0), (1, .slice A1 x1.length c1), (6, .int .i64 (if (x1.length : Int) > (x0.length : Int) then (x1.length : Int) else (x0.length : Int))), (7, .slice A28 s41.2.length c29), (8, .int .i64 s41.1)] ∧ Mem [] M w0 [.ow (Kd.int .i64) 3 A28 c29 s41.2, .sl (Kd.int .i64) A0 c0 x0, .sl (Kd.int .i64) A1 c1 x1] w) (1, (List.replicate ((if (x1.length : Int) > (x0.length : Int) then (x1.length : Int) else (x0.length : Int))).toNat (0 : Int))) hr42 ⟨hf40.sel (l := [0, 1, 6, 7, 8]) (by kernel_rfl), hm36.sel [0, 1, 2] _ rfl (by kernel_rfl)⟩ ?_
        rintro g43 s41 a44 w45 H1 ⟨hf46, hm47⟩
        unfold ref1_Spread.l0 at H1
        refine wp_seq ?_
        refine wp_seq ?_
        rcases ifS_split H1 with ⟨c48, H1⟩ | ⟨c48, H1⟩
        · refine reg [.bool true] [0, 1, 6, 7, 8, 30] [(0, .slice A0 x0.length c0), (1, .slice A1 x1.length c1), (6, .int .i64 (if (x1.length : Int) > (x0.length : Int) then (x1.length : Int) else (x0.length : Int))), (7, .slice A28 s41.2.length c29), (8, .int .i64 s41.1), (30, .bool true)] [.is (decide (s41.1 ≤ (if (x1.length : Int) > (x0.length : Int) then (x1.length : Int) else (x0.length : Int))) = true)] hf46 (by kernel_rfl) ⟨(decide_eq_true c48), trivial⟩ fun a49 hf50 => ?_
          refine thenN ?_
          refine condT hf50 (by kernel_rfl) ?_
          refine wp_skip ?_
          refine thenN ?_
          refine wp_seq ?_
          refine wp_block ?_
          refine wp_seq ?_
          refine reg [] [0, 1, 6, 7, 8, 9, 10] [(0, .slice A0 x0.length c0), (1, .slice A1 x1.length c1), (6, .int .i64 (if (x1.length : Int) > (x0.length : Int) then (x1.length : Int) else (x0.length : Int))), (7, .slice A28 s41.2.length c29), (8, .int .i64 s41.1), (9, .int .i64 1), (10, .int .i64 1)] [] hf50 (by kernel_rfl) trivial fun a51 hf52 => ?_
          refine thenN ?_
          refine wp_seq ?_
          refine wp_seq ?_
          rcases ifS_split H1 with ⟨c53, H1⟩ | ⟨c53, H1⟩
          · refine reg [.bool true] [0, 1, 6, 7, 8, 9, 10, 36] [(0, .slice A0 x0.length c0), (1, .slice A1 x1.length c1), (6, .int .i64 (if (x1.length : Int) > (x0.length : Int) then (x1.length : Int) else (x0.length : Int))), (7, .slice A28 s41.2.length c29), (8, .int .i64 s41.1), (9, .int .i64 1), (10, .int .i64 1), (36, .bool true)] [.is (decide (s41.1 ≤ (x0.length : Int)) = true)] hf52 (by kernel_rfl) ⟨(decide_eq_true c53), trivial⟩ fun a54 hf55 => ?_
            refine thenN ?_
            refine condT hf55 (by kernel_rfl) ?_
            obtain ⟨g56, H1⟩ := ifS_guard H1
            have q57 := (hm47.slAt 1 rfl).int (w64 ((x0.length : Int) - s41.1)) g56.1 g56.2
            refine reg [.int .i64 (rd x0 (w64 ((x0.length : Int) - s41.1)))] [0, 1, 6, 7, 8, 9, 10] [(0, .slice A0 x0.length c0), (1, .slice A1 x1.length c1), (6, .int .i64 (if (x1.length : Int) > (x0.length : Int) then (x1.length : Int) else (x0.length : Int))), (7, .slice A28 s41.2.length c29), (8, .int .i64 s41.1), (9, .int .i64 (rd x0 (w64 ((x0.length : Int) - s41.1)))), (10, .int .i64 1)] [.is (Option.isSome A0 = true), .is (0 ≤ (w64 ((x0.length : Int) - s41.1)) ∧ (w64 ((x0.length : Int) - s41.1)) < (x0.length : Int)), .cell ((ad A0).add (((w64 ((x0.length : Int) - s41.1))).toNat * 1)) (.int .i64 (rd x0 (w64 ((x0.length : Int) - s41.1))))] hf55 (by kernel_rfl) ⟨q57.1, g56, q57.2, trivial⟩ fun a58 hf59 => ?_
            refine thenN ?_
            refine wp_seq ?_
            refine wp_seq ?_
            rcases ifS_split H1 with ⟨c60, H1⟩ | ⟨c60, H1⟩
            · refine reg [.bool true] [0, 1, 6, 7, 8, 9, 10, 47] [(0, .slice A0 x0.length c0), (1, .slice A1 x1.length c1), (6, .int .i64 (if (x1.length : Int) > (x0.length : Int) then (x1.length : Int) else (x0.length : Int))), (7, .slice A28 s41.2.length c29), (8, .int .i64 s41.1), (9, .int .i64 (rd x0 (w64 ((x0.length : Int) - s41.1)))), (10, .int .i64 1), (47, .bool true)] [.is (decide (s41.1 ≤ (x1.length : Int)) = true)] hf59 (by kernel_rfl) ⟨(decide_eq_true c60), trivial⟩ fun a61 hf62 => ?_
              refine thenN ?_
              refine condT hf62 (by kernel_rfl) ?_
              obtain ⟨g63, H1⟩ := ifS_guard H1
              have q64 := (hm47.slAt 2 rfl).int (w64 ((x1.length : Int) - s41.1)) g63.1 g63.2
              refine reg [.int .i64 (rd x1 (w64 ((x1.length : Int) - s41.1)))] [0, 1, 6, 7, 8, 9, 10] [(0, .slice A0 x0.length c0), (1, .slice A1 x1.length c1), (6, .int .i64 (if (x1.length : Int) > (x0.length : Int) then (x1.length : Int) else (x0.length : Int))), (7, .slice A28 s41.2.length c29), (8, .int .i64 s41.1), (9, .int .i64 (rd x0 (w64 ((x0.length : Int) - s41.1)))), (10, .int .i64 (rd x1 (w64 ((x1.length : Int) - s41.1))))] [.is (Option.isSome A1 = true), .is (0 ≤ (w64 ((x1.length : Int) - s41.1)) ∧ (w64 ((x1.length : Int) - s41.1)) < (x1.length : Int)), .cell ((ad A1).add (((w64 ((x1.length : Int) - s41.1))).toNat * 1)) (.int .i64 (rd x1 (w64 ((x1.length : Int) - s41.1))))] hf62 (by kernel_rfl) ⟨q64.1, g63, q64.2, trivial⟩ fun a65 hf66 => ?_
              refine thenN ?_
              refine wp_seq ?_
              refine wp_seq ?_
              rcases ifS_split H1 with ⟨c67, H1⟩ | ⟨c67, H1⟩
              · refine reg [.bool false] [0, 1, 6, 7, 8, 9, 10, 65] [(0, .slice A0 x0.length c0), (1, .slice A1 x1.length c1), (6, .int .i64 (if (x1.length : Int) > (x0.length : Int) then (x1.length : Int) else (x0.length : Int))), (7, .slice A28 s41.2.length c29), (8, .int .i64 s41.1), (9, .int .i64 (rd x0 (w64 ((x0.length : Int) - s41.1)))), (10, .int .i64 (rd x1 (w64 ((x1.length : Int) - s41.1)))), (65, .bool false)] [.is ((((rd x0 (w64 ((x0.length : Int) - s41.1))) : Int) != (rd x1 (w64 ((x1.length : Int) - s41.1)))) = false)] hf66 (by kernel_rfl) ⟨(neF c67), trivial⟩ fun a68 hf69 => ?_
                refine thenN ?_
                refine condF hf69 (by kernel_rfl) ?_
                refine wp_skip ?_
                refine thenN ?_
                obtain ⟨g70, H1⟩ := ifS_guard H1
                have q71 := (hm47.owAt 0 rfl).int (w64 ((if (x1.length : Int) > (x0.length : Int) then (x1.length : Int) else (x0.length : Int)) - s41.1)) g70.1 g70.2
                refine inReg ?_
                refine go 8 [] [0, 1, 6, 7, 8, 72, 73] [(0, .slice A0 x0.length c0), (1, .slice A1 x1.length c1), (6, .int .i64 (if (x1.length : Int) > (x0.length : Int) then (x1.length : Int) else (x0.length : Int))), (7, .slice A28 s41.2.length c29), (8, .int .i64 s41.1), (72, .int .i64 (if (rd x1 (w64 ((x1.length : Int) - s41.1))) > (rd x0 (w64 ((x0.length : Int) - s41.1))) then (rd x1 (w64 ((x1.length : Int) - s41.1))) else (rd x0 (w64 ((x0.length : Int) - s41.1))))), (73, .pointer (some ((ad A28).add (((w64 ((if (x1.length : Int) > (x0.length : Int) then (x1.length : Int) else (x0.length : Int)) - s41.1))).toNat * 1))))] [.is (Option.isSome A28 = true), .is (0 ≤ (w64 ((if (x1.length : Int) > (x0.length : Int) then (x1.length : Int) else (x0.length : Int)) - s41.1)) ∧ (w64 ((if (x1.length : Int) > (x0.length : Int) then (x1.length : Int) else (x0.length : Int)) - s41.1)) < (s41.2.length : Int))] hf69 (by kernel_rfl) ⟨q71.1, g70, trivial⟩ fun a72 hf73 => ?_
                refine listOf hf73 rfl (by kernel_rfl) (aStoreO (kd := (Kd.int .i64)) (base := 0) (E := 3) (A := A28) (c := c29) (xs := s41.2) (i := (w64 ((if (x1.length : Int) > (x0.length : Int) then (x1.length : Int) else (x0.length : Int)) - s41.1))) (x := (if (rd x1 (w64 ((x1.length : Int) - s41.1))) > (rd x0 (w64 ((x0.length : Int) - s41.1))) then (rd x1 (w64 ((x1.length : Int) - s41.1))) else (rd x0 (w64 ((x0.length : Int) - s41.1))))) (us := [.int .i64 (if (rd x1 (w64 ((x1.length : Int) - s41.1))) > (rd x0 (w64 ((x0.length : Int) - s41.1))) then (rd x1 (w64 ((x1.length : Int) - s41.1))) else (rd x0 (w64 ((x0.length : Int) - s41.1))))]) (sz := 1) hf73 (by kernel_rfl) rfl (by kernel_rfl) (hm47.at 0 rfl) rfl g70.1 g70.2 ?_)
                intro w74 hx75 hg76
                have hm77 : Mem [] M w0 [.ow (Kd.int .i64) 3 A28 c29 (put s41.2 (w64 ((if (x1.length : Int) > (x0.length : Int) then (x1.length : Int) else (x0.length : Int)) - s41.1)) (if (rd x1 (w64 ((x1.length : Int) - s41.1))) > (rd x0 (w64 ((x0.length : Int) - s41.1))) then (rd x1 (w64 ((x1.length : Int) - s41.1))) else (rd x0 (w64 ((x0.length : Int) - s41.1))))), .sl (Kd.int .i64) A0 c0 x0, .sl (Kd.int .i64) A1 c1 x1] w74 := hm47.setOwn 0 _ rfl rfl hx75 hg76 (.inl rfl)
                refine endL rfl ?_
                refine blkN ?_
                refine thenN ?_
                refine reg [] [0, 1, 6, 7, 8] [(0, .slice A0 x0.length c0), (1, .slice A1 x1.length c1), (6, .int .i64 (if (x1.length : Int) > (x0.length : Int) then (x1.length : Int) else (x0.length : Int))), (7, .slice A28 s41.2.length c29), (8, .int .i64 (w64 (s41.1 + 1)))] [] hf73 (by kernel_rfl) trivial fun a78 hf79 => ?_
                have hf80 : Fr 83 a78 [(0, .slice A0 x0.length c0), (1, .slice A1 x1.length c1), (6, .int .i64 (if (x1.length : Int) > (x0.length : Int) then (x1.length : Int) else (x0.length : Int))), (7, .slice A28 s41.2.length c29), (8, .int .i64 (w64 (s41.1 + 1)))] := hf79.sel (l := [0, 1, 6, 7, 8]) (by kernel_rfl)
                have hm81 : Mem [] M w0 [.ow (Kd.int .i64) 3 A28 c29 (put s41.2 (w64 ((if (x1.length : Int) > (x0.length : Int) then (x1.length : Int) else (x0.length : Int)) - s41.1)) (if (rd x1 (w64 ((x1.length : Int) - s41.1))) > (rd x0 (w64 ((x0.length : Int) - s41.1))) then (rd x1 (w64 ((x1.length : Int) - s41.1))) else (rd x0 (w64 ((x0.length : Int) - s41.1))))), .sl (Kd.int .i64) A0 c0 x0, .sl (Kd.int .i64) A1 c1 x1] w74 := hm77.sel [0, 1, 2] _ rfl (by kernel_rfl)
                exact ⟨((w64 (s41.1 + 1)), (put s41.2 (w64 ((if (x1.length : Int) > (x0.length : Int) then (x1.length : Int) else (x0.length : Int)) - s41.1)) (if (rd x1 (w64 ((x1.length : Int) - s41.1))) > (rd x0 (w64 ((x0.length : Int) - s41.1))) then (rd x1 (w64 ((x1.length : Int) - s41.1))) else (rd x0 (w64 ((x0.length : Int) - s41.1)))))), H1, (by simpa only [put_length] using hf80), (by simpa only [put_length] using hm81)⟩
              · rcases ifS_split H1 with ⟨c82, H1⟩ | ⟨c82, H1⟩
                · refine reg [.bool true, .bool false] [0, 1, 6, 7, 8, 9, 10, 65] [(0, .slice A0 x0.length c0), (1, .slice A1 x1.length c1), (6, .int .i64 (if (x1.length : Int) > (x0.length : Int) then (x1.length : Int) else (x0.length : Int))), (7, .slice A28 s41.2.length c29), (8, .int .i64 s41.1), (9, .int .i64 (rd x0 (w64 ((x0.length : Int) - s41.1)))), (10, .int .i64 (rd x1 (w64 ((x1.length : Int) - s41.1)))), (65, .bool false)] [.is ((((rd x0 (w64 ((x0.length : Int) - s41.1))) : Int) != (rd x1 (w64 ((x1.length : Int) - s41.1)))) = true), .is ((((rd x0 (w64 ((x0.length : Int) - s41.1))) : Int) != 1) = false)] hf66 (by kernel_rfl) ⟨(neT c67), (neF c82), trivial⟩ fun a83 hf84 => ?_
                  refine thenN ?_
                  refine condF hf84 (by kernel_rfl) ?_
                  refine wp_skip ?_
                  refine thenN ?_
                  obtain ⟨g85, H1⟩ := ifS_guard H1
                  have q86 := (hm47.owAt 0 rfl).int (w64 ((if (x1.length : Int) > (x0.length : Int) then (x1.length : Int) else (x0.length : Int)) - s41.1)) g85.1 g85.2
                  refine inReg ?_
                  refine go 8 [] [0, 1, 6, 7, 8, 72, 73] [(0, .slice A0 x0.length c0), (1, .slice A1 x1.length c1), (6, .int .i64 (if (x1.length : Int) > (x0.length : Int) then (x1.length : Int) else (x0.length : Int))), (7, .slice A28 s41.2.length c29), (8, .int .i64 s41.1), (72, .int .i64 (if (rd x1 (w64 ((x1.length : Int) - s41.1))) > (rd x0 (w64 ((x0.length : Int) - s41.1))) then (rd x1 (w64 ((x1.length : Int) - s41.1))) else (rd x0 (w64 ((x0.length : Int) - s41.1))))), (73, .pointer (some ((ad A28).add (((w64 ((if (x1.length : Int) > (x0.length : Int) then (x1.length : Int) else (x0.length : Int)) - s41.1))).toNat * 1))))] [.is (Option.isSome A28 = true), .is (0 ≤ (w64 ((if (x1.length : Int) > (x0.length : Int) then (x1.length : Int) else (x0.length : Int)) - s41.1)) ∧ (w64 ((if (x1.length : Int) > (x0.length : Int) then (x1.length : Int) else (x0.length : Int)) - s41.1)) < (s41.2.length : Int))] hf84 (by kernel_rfl) ⟨q86.1, g85, trivial⟩ fun a87 hf88 => ?_
                  refine listOf hf88 rfl (by kernel_rfl) (aStoreO (kd := (Kd.int .i64)) (base := 0) (E := 3) (A := A28) (c := c29) (xs := s41.2) (i := (w64 ((if (x1.length : Int) > (x0.length : Int) then (x1.length : Int) else (x0.length : Int)) - s41.1))) (x := (if (rd x1 (w64 ((x1.length : Int) - s41.1))) > (rd x0 (w64 ((x0.length : Int) - s41.1))) then (rd x1 (w64 ((x1.length : Int) - s41.1))) else (rd x0 (w64 ((x0.length : Int) - s41.1))))) (us := [.int .i64 (if (rd x1 (w64 ((x1.length : Int) - s41.1))) > (rd x0 (w64 ((x0.length : Int) - s41.1))) then (rd x1 (w64 ((x1.length : Int) - s41.1))) else (rd x0 (w64 ((x0.length : Int) - s41.1))))]) (sz := 1) hf88 (by kernel_rfl) rfl (by kernel_rfl) (hm47.at 0 rfl) rfl g85.1 g85.2 ?_)
                  intro w89 hx90 hg91
                  have hm92 : Mem [] M w0 [.ow (Kd.int .i64) 3 A28 c29 (put s41.2 (w64 ((if (x1.length : Int) > (x0.length : Int) then (x1.length : Int) else (x0.length : Int)) - s41.1)) (if (rd x1 (w64 ((x1.length : Int) - s41.1))) > (rd x0 (w64 ((x0.length : Int) - s41.1))) then (rd x1 (w64 ((x1.length : Int) - s41.1))) else (rd x0 (w64 ((x0.length : Int) - s41.1))))), .sl (Kd.int .i64) A0 c0 x0, .sl (Kd.int .i64) A1 c1 x1] w89 := hm47.setOwn 0 _ rfl rfl hx90 hg91 (.inl rfl)
                  refine endL rfl ?_
                  refine blkN ?_
                  refine thenN ?_
                  refine reg [] [0, 1, 6, 7, 8] [(0, .slice A0 x0.length c0), (1, .slice A1 x1.length c1), (6, .int .i64 (if (x1.length : Int) > (x0.length : Int) then (x1.length : Int) else (x0.length : Int))), (7, .slice A28 s41.2.length c29), (8, .int .i64 (w64 (s41.1 + 1)))] [] hf88 (by kernel_rfl) trivial fun a93 hf94 => ?_
                  have hf95 : Fr 83 a93 [(0, .slice A0 x0.length c0), (1, .slice A1 x1.length c1), (6, .int .i64 (if (x1.length : Int) > (x0.length : Int) then (x1.length : Int) else (x0.length : Int))), (7, .slice A28 s41.2.length c29), (8, .int .i64 (w64 (s41.1 + 1)))] := hf94.sel (l := [0, 1, 6, 7, 8]) (by kernel_rfl)
                  have hm96 : Mem [] M w0 [.ow (Kd.int .i64) 3 A28 c29 (put s41.2 (w64 ((if (x1.length : Int) > (x0.length : Int) then (x1.length : Int) else (x0.length : Int)) - s41.1)) (if (rd x1 (w64 ((x1.length : Int) - s41.1))) > (rd x0 (w64 ((x0.length : Int) - s41.1))) then (rd x1 (w64 ((x1.length : Int) - s41.1))) else (rd x0 (w64 ((x0.length : Int) - s41.1))))), .sl (Kd.int .i64) A0 c0 x0, .sl (Kd.int .i64) A1 c1 x1] w89 := hm92.sel [0, 1, 2] _ rfl (by kernel_rfl)
                  exact ⟨((w64 (s41.1 + 1)), (put s41.2 (w64 ((if (x1.length : Int) > (x0.length : Int) then (x1.length : Int) else (x0.length : Int)) - s41.1)) (if (rd x1 (w64 ((x1.length : Int) - s41.1))) > (rd x0 (w64 ((x0.length : Int) - s41.1))) then (rd x1 (w64 ((x1.length : Int) - s41.1))) else (rd x0 (w64 ((x0.length : Int) - s41.1)))))), H1, (by simpa only [put_length] using hf95), (by simpa only [put_length] using hm96)⟩
                · rcases ifS_split H1 with ⟨c97, H1⟩ | ⟨c97, H1⟩
                  · refine reg [.bool true, .bool true, .bool false] [0, 1, 6, 7, 8, 9, 10, 65] [(0, .slice A0 x0.length c0), (1, .slice A1 x1.length c1), (6, .int .i64 (if (x1.length : Int) > (x0.length : Int) then (x1.length : Int) else (x0.length : Int))), (7, .slice A28 s41.2.length c29), (8, .int .i64 s41.1), (9, .int .i64 (rd x0 (w64 ((x0.length : Int) - s41.1)))), (10, .int .i64 (rd x1 (w64 ((x1.length : Int) - s41.1)))), (65, .bool false)] [.is ((((rd x0 (w64 ((x0.length : Int) - s41.1))) : Int) != (rd x1 (w64 ((x1.length : Int) - s41.1)))) = true), .is ((((rd x0 (w64 ((x0.length : Int) - s41.1))) : Int) != 1) = true), .is ((((rd x1 (w64 ((x1.length : Int) - s41.1))) : Int) != 1) = false)] hf66 (by kernel_rfl) ⟨(neT c67), (neT c82), (neF c97), trivial⟩ fun a98 hf99 => ?_
                    refine thenN ?_
                    refine condF hf99 (by kernel_rfl) ?_
                    refine wp_skip ?_
                    refine thenN ?_
                    obtain ⟨g100, H1⟩ := ifS_guard H1
                    have q101 := (hm47.owAt 0 rfl).int (w64 ((if (x1.length : Int) > (x0.length : Int) then (x1.length : Int) else (x0.length : Int)) - s41.1)) g100.1 g100.2
                    refine inReg ?_
                    refine go 8 [] [0, 1, 6, 7, 8, 72, 73] [(0, .slice A0 x0.length c0), (1, .slice A1 x1.length c1), (6, .int .i64 (if (x1.length : Int) > (x0.length : Int) then (x1.length : Int) else (x0.length : Int))), (7, .slice A28 s41.2.length c29), (8, .int .i64 s41.1), (72, .int .i64 (if (rd x1 (w64 ((x1.length : Int) - s41.1))) > (rd x0 (w64 ((x0.length : Int) - s41.1))) then (rd x1 (w64 ((x1.length : Int) - s41.1))) else (rd x0 (w64 ((x0.length : Int) - s41.1))))), (73, .pointer (some ((ad A28).add (((w64 ((if (x1.length : Int) > (x0.length : Int) then (x1.length : Int) else (x0.length : Int)) - s41.1))).toNat * 1))))] [.is (Option.isSome A28 = true), .is (0 ≤ (w64 ((if (x1.length : Int) > (x0.length : Int) then (x1.length : Int) else (x0.length : Int)) - s41.1)) ∧ (w64 ((if (x1.length : Int) > (x0.length : Int) then (x1.length : Int) else (x0.length : Int)) - s41.1)) < (s41.2.length : Int))] hf99 (by kernel_rfl) ⟨q101.1, g100, trivial⟩ fun a102 hf103 => ?_
                    refine listOf hf103 rfl (by kernel_rfl) (aStoreO (kd := (Kd.int .i64)) (base := 0) (E := 3) (A := A28) (c := c29) (xs := s41.2) (i := (w64 ((if (x1.length : Int) > (x0.length : Int) then (x1.length : Int) else (x0.length : Int)) - s41.1))) (x := (if (rd x1 (w64 ((x1.length : Int) - s41.1))) > (rd x0 (w64 ((x0.length : Int) - s41.1))) then (rd x1 (w64 ((x1.length : Int) - s41.1))) else (rd x0 (w64 ((x0.length : Int) - s41.1))))) (us := [.int .i64 (if (rd x1 (w64 ((x1.length : Int) - s41.1))) > (rd x0 (w64 ((x0.length : Int) - s41.1))) then (rd x1 (w64 ((x1.length : Int) - s41.1))) else (rd x0 (w64 ((x0.length : Int) - s41.1))))]) (sz := 1) hf103 (by kernel_rfl) rfl (by kernel_rfl) (hm47.at 0 rfl) rfl g100.1 g100.2 ?_)
                    intro w104 hx105 hg106
                    have hm107 : Mem [] M w0 [.ow (Kd.int .i64) 3 A28 c29 (put s41.2 (w64 ((if (x1.length : Int) > (x0.length : Int) then (x1.length : Int) else (x0.length : Int)) - s41.1)) (if (rd x1 (w64 ((x1.length : Int) - s41.1))) > (rd x0 (w64 ((x0.length : Int) - s41.1))) then (rd x1 (w64 ((x1.length : Int) - s41.1))) else (rd x0 (w64 ((x0.length : Int) - s41.1))))), .sl (Kd.int .i64) A0 c0 x0, .sl (Kd.int .i64) A1 c1 x1] w104 := hm47.setOwn 0 _ rfl rfl hx105 hg106 (.inl rfl)
                    refine endL rfl ?_
                    refine blkN ?_
                    refine thenN ?_
                    refine reg [] [0, 1, 6, 7, 8] [(0, .slice A0 x0.length c0), (1, .slice A1 x1.length c1), (6, .int .i64 (if (x1.length : Int) > (x0.length : Int) then (x1.length : Int) else (x0.length : Int))), (7, .slice A28 s41.2.length c29), (8, .int .i64 (w64 (s41.1 + 1)))] [] hf103 (by kernel_rfl) trivial fun a108 hf109 => ?_
                    have hf110 : Fr 83 a108 [(0, .slice A0 x0.length c0), (1, .slice A1 x1.length c1), (6, .int .i64 (if (x1.length : Int) > (x0.length : Int) then (x1.length : Int) else (x0.length : Int))), (7, .slice A28 s41.2.length c29), (8, .int .i64 (w64 (s41.1 + 1)))] := hf109.sel (l := [0, 1, 6, 7, 8]) (by kernel_rfl)
                    have hm111 : Mem [] M w0 [.ow (Kd.int .i64) 3 A28 c29 (put s41.2 (w64 ((if (x1.length : Int) > (x0.length : Int) then (x1.length : Int) else (x0.length : Int)) - s41.1)) (if (rd x1 (w64 ((x1.length : Int) - s41.1))) > (rd x0 (w64 ((x0.length : Int) - s41.1))) then (rd x1 (w64 ((x1.length : Int) - s41.1))) else (rd x0 (w64 ((x0.length : Int) - s41.1))))), .sl (Kd.int .i64) A0 c0 x0, .sl (Kd.int .i64) A1 c1 x1] w104 := hm107.sel [0, 1, 2] _ rfl (by kernel_rfl)
                    exact ⟨((w64 (s41.1 + 1)), (put s41.2 (w64 ((if (x1.length : Int) > (x0.length : Int) then (x1.length : Int) else (x0.length : Int)) - s41.1)) (if (rd x1 (w64 ((x1.length : Int) - s41.1))) > (rd x0 (w64 ((x0.length : Int) - s41.1))) then (rd x1 (w64 ((x1.length : Int) - s41.1))) else (rd x0 (w64 ((x0.length : Int) - s41.1)))))), H1, (by simpa only [put_length] using hf110), (by simpa only [put_length] using hm111)⟩
                  · refine reg [.bool true, .bool true, .bool true] [0, 1, 6, 7, 8, 9, 10, 65] [(0, .slice A0 x0.length c0), (1, .slice A1 x1.length c1), (6, .int .i64 (if (x1.length : Int) > (x0.length : Int) then (x1.length : Int) else (x0.length : Int))), (7, .slice A28 s41.2.length c29), (8, .int .i64 s41.1), (9, .int .i64 (rd x0 (w64 ((x0.length : Int) - s41.1)))), (10, .int .i64 (rd x1 (w64 ((x1.length : Int) - s41.1)))), (65, .bool true)] [.is ((((rd x0 (w64 ((x0.length : Int) - s41.1))) : Int) != (rd x1 (w64 ((x1.length : Int) - s41.1)))) = true), .is ((((rd x0 (w64 ((x0.length : Int) - s41.1))) : Int) != 1) = true), .is ((((rd x1 (w64 ((x1.length : Int) - s41.1))) : Int) != 1) = true)] hf66 (by kernel_rfl) ⟨(neT c67), (neT c82), (neT c97), trivial⟩ fun a112 hf113 => ?_
                    refine thenN ?_
                    refine condT hf113 (by kernel_rfl) ?_
                    refine wp_seq ?_
                    refine reg [] [4, 5] [(4, .slice none 0 0), (5, .int .i64 2)] [] hf113 (by kernel_rfl) trivial fun a114 hf115 => ?_
                    have hm116 : Mem [] M w0 [] w45 := hm47.sel [] _ rfl (by kernel_rfl)
                    refine thenN ?_
                    refine wp_ret ?_
                    refine thenR ?_
                    refine blkR ?_
                    refine thenR ?_
                    refine thenR ?_
                    refine .inr ⟨rfl, ?_⟩
                    refine thenR ?_
                    have hm117 : Mem [] M w0 [.ow (Kd.int .i64) 3 none 0 ([] : (List Int))] w45 := hm116.nilOw (Kd.int .i64) 3
                    have hm118 : Mem [] M w0 [.ow (Kd.int .i64) 3 none 0 ([] : (List Int))] w45 := hm117.sel [0] _ rfl (by kernel_rfl)
                    obtain rfl := Option.some.inj H1
                    obtain rfl := Option.some.inj H0
                    refine ret [] [.slice none 0 0, .int .i64 2] [] hf115 (by kernel_rfl) trivial ?_
                    exact ⟨_, rfl, none, 0, rfl, hm118⟩
            · refine reg [.bool false] [0, 1, 6, 7, 8, 9, 10, 47] [(0, .slice A0 x0.length c0), (1, .slice A1 x1.length c1), (6, .int .i64 (if (x1.length : Int) > (x0.length : Int) then (x1.length : Int) else (x0.length : Int))), (7, .slice A28 s41.2.length c29), (8, .int .i64 s41.1), (9, .int .i64 (rd x0 (w64 ((x0.length : Int) - s41.1)))), (10, .int .i64 1), (47, .bool false)] [.is (decide (s41.1 ≤ (x1.length : Int)) = false)] hf59 (by kernel_rfl) ⟨(decide_eq_false c60), trivial⟩ fun a120 hf121 => ?_
              refine thenN ?_
              refine condF hf121 (by kernel_rfl) ?_
              refine wp_skip ?_
              refine thenN ?_
              refine wp_seq ?_
              refine wp_seq ?_
              rcases ifS_split H1 with ⟨c122, H1⟩ | ⟨c122, H1⟩
              · refine reg [.bool false] [0, 1, 6, 7, 8, 9, 10, 65] [(0, .slice A0 x0.length c0), (1, .slice A1 x1.length c1), (6, .int .i64 (if (x1.length : Int) > (x0.length : Int) then (x1.length : Int) else (x0.length : Int))), (7, .slice A28 s41.2.length c29), (8, .int .i64 s41.1), (9, .int .i64 (rd x0 (w64 ((x0.length : Int) - s41.1)))), (10, .int .i64 1), (65, .bool false)] [.is ((((rd x0 (w64 ((x0.length : Int) - s41.1))) : Int) != 1) = false)] hf121 (by kernel_rfl) ⟨(neF c122), trivial⟩ fun a123 hf124 => ?_
                refine thenN ?_
                refine condF hf124 (by kernel_rfl) ?_
                refine wp_skip ?_
                refine thenN ?_
                obtain ⟨g125, H1⟩ := ifS_guard H1
                have q126 := (hm47.owAt 0 rfl).int (w64 ((if (x1.length : Int) > (x0.length : Int) then (x1.length : Int) else (x0.length : Int)) - s41.1)) g125.1 g125.2
                refine inReg ?_
                refine go 8 [] [0, 1, 6, 7, 8, 72, 73] [(0, .slice A0 x0.length c0), (1, .slice A1 x1.length c1), (6, .int .i64 (if (x1.length : Int) > (x0.length : Int) then (x1.length : Int) else (x0.length : Int))), (7, .slice A28 s41.2.length c29), (8, .int .i64 s41.1), (72, .int .i64 (if 1 > (rd x0 (w64 ((x0.length : Int) - s41.1))) then 1 else (rd x0 (w64 ((x0.length : Int) - s41.1))))), (73, .pointer (some ((ad A28).add (((w64 ((if (x1.length : Int) > (x0.length : Int) then (x1.length : Int) else (x0.length : Int)) - s41.1))).toNat * 1))))] [.is (Option.isSome A28 = true), .is (0 ≤ (w64 ((if (x1.length : Int) > (x0.length : Int) then (x1.length : Int) else (x0.length : Int)) - s41.1)) ∧ (w64 ((if (x1.length : Int) > (x0.length : Int) then (x1.length : Int) else (x0.length : Int)) - s41.1)) < (s41.2.length : Int))] hf124 (by kernel_rfl) ⟨q126.1, g125, trivial⟩ fun a127 hf128 => ?_
                refine listOf hf128 rfl (by kernel_rfl) (aStoreO (kd := (Kd.int .i64)) (base := 0) (E := 3) (A := A28) (c := c29) (xs := s41.2) (i := (w64 ((if (x1.length : Int) > (x0.length : Int) then (x1.length : Int) else (x0.length : Int)) - s41.1))) (x := (if 1 > (rd x0 (w64 ((x0.length : Int) - s41.1))) then 1 else (rd x0 (w64 ((x0.length : Int) - s41.1))))) (us := [.int .i64 (if 1 > (rd x0 (w64 ((x0.length : Int) - s41.1))) then 1 else (rd x0 (w64 ((x0.length : Int) - s41.1))))]) (sz := 1) hf128 (by kernel_rfl) rfl (by kernel_rfl) (hm47.at 0 rfl) rfl g125.1 g125.2 ?_)
                intro w129 hx130 hg131
                have hm132 : Mem [] M w0 [.ow (Kd.int .i64) 3 A28 c29 (put s41.2 (w64 ((if (x1.length : Int) > (x0.length : Int) then (x1.length : Int) else (x0.length : Int)) - s41.1)) (if 1 > (rd x0 (w64 ((x0.length : Int) - s41.1))) then 1 else (rd x0 (w64 ((x0.length : Int) - s41.1))))), .sl (Kd.int .i64) A0 c0 x0, .sl (Kd.int .i64) A1 c1 x1] w129 := hm47.setOwn 0 _ rfl rfl hx130 hg131 (.inl rfl)
                refine endL rfl ?_
                refine blkN ?_
                refine thenN ?_
                refine reg [] [0, 1, 6, 7, 8] [(0, .slice A0 x0.length c0), (1, .slice A1 x1.length c1), (6, .int .i64 (if (x1.length : Int) > (x0.length : Int) then (x1.length : Int) else (x0.length : Int))), (7, .slice A28 s41.2.length c29), (8, .int .i64 (w64 (s41.1 + 1)))] [] hf128 (by kernel_rfl) trivial fun a133 hf134 => ?_
                have hf135 : Fr 83 a133 [(0, .slice A0 x0.length c0), (1, .slice A1 x1.length c1), (6, .int .i64 (if (x1.length : Int) > (x0.length : Int) then (x1.length : Int) else (x0.length : Int))), (7, .slice A28 s41.2.length c29), (8, .int .i64 (w64 (s41.1 + 1)))] := hf134.sel (l := [0, 1, 6, 7, 8]) (by kernel_rfl)
                have hm136 : Mem [] M w0 [.ow (Kd.int .i64) 3 A28 c29 (put s41.2 (w64 ((if (x1.length : Int) > (x0.length : Int) then (x1.length : Int) else (x0.length : Int)) - s41.1)) (if 1 > (rd x0 (w64 ((x0.length : Int) - s41.1))) then 1 else (rd x0 (w64 ((x0.length : Int) - s41.1))))), .sl (Kd.int .i64) A0 c0 x0, .sl (Kd.int .i64) A1 c1 x1] w129 := hm132.sel [0, 1, 2] _ rfl (by kernel_rfl)
                exact ⟨((w64 (s41.1 + 1)), (put s41.2 (w64 ((if (x1.length : Int) > (x0.length : Int) then (x1.length : Int) else (x0.length : Int)) - s41.1)) (if 1 > (rd x0 (w64 ((x0.length : Int) - s41.1))) then 1 else (rd x0 (w64 ((x0.length : Int) - s41.1)))))), H1, (by simpa only [put_length] using hf135), (by simpa only [put_length] using hm136)⟩
              · refine reg [.bool true, .bool true, .bool false] [0, 1, 6, 7, 8, 9, 10, 65] [(0, .slice A0 x0.length c0), (1, .slice A1 x1.length c1), (6, .int .i64 (if (x1.length : Int) > (x0.length : Int) then (x1.length : Int) else (x0.length : Int))), (7, .slice A28 s41.2.length c29), (8, .int .i64 s41.1), (9, .int .i64 (rd x0 (w64 ((x0.length : Int) - s41.1)))), (10, .int .i64 1), (65, .bool false)] [.is ((((rd x0 (w64 ((x0.length : Int) - s41.1))) : Int) != 1) = true), .is ((((rd x0 (w64 ((x0.length : Int) - s41.1))) : Int) != 1) = true), .is (((1 : Int) != 1) = false)] hf121 (by kernel_rfl) ⟨(neT c122), (neT c122), (okIs (by decide)), trivial⟩ fun a137 hf138 => ?_
                refine thenN ?_
                refine condF hf138 (by kernel_rfl) ?_
                refine wp_skip ?_
                refine thenN ?_
                obtain ⟨g139, H1⟩ := ifS_guard H1
                have q140 := (hm47.owAt 0 rfl).int (w64 ((if (x1.length : Int) > (x0.length : Int) then (x1.length : Int) else (x0.length : Int)) - s41.1)) g139.1 g139.2
                refine inReg ?_
                refine go 8 [] [0, 1, 6, 7, 8, 72, 73] [(0, .slice A0 x0.length c0), (1, .slice A1 x1.length c1), (6, .int .i64 (if (x1.length : Int) > (x0.length : Int) then (x1.length : Int) else (x0.length : Int))), (7, .slice A28 s41.2.length c29), (8, .int .i64 s41.1), (72, .int .i64 (if 1 > (rd x0 (w64 ((x0.length : Int) - s41.1))) then 1 else (rd x0 (w64 ((x0.length : Int) - s41.1))))), (73, .pointer (some ((ad A28).add (((w64 ((if (x1.length : Int) > (x0.length : Int) then (x1.length : Int) else (x0.length : Int)) - s41.1))).toNat * 1))))] [.is (Option.isSome A28 = true), .is (0 ≤ (w64 ((if (x1.length : Int) > (x0.length : Int) then (x1.length : Int) else (x0.length : Int)) - s41.1)) ∧ (w64 ((if (x1.length : Int) > (x0.length : Int) then (x1.length : Int) else (x0.length : Int)) - s41.1)) < (s41.2.length : Int))] hf138 (by kernel_rfl) ⟨q140.1, g139, trivial⟩ fun a141 hf142 => ?_
                refine listOf hf142 rfl (by kernel_rfl) (aStoreO (kd := (Kd.int .i64)) (base := 0) (E := 3) (A := A28) (c := c29) (xs := s41.2) (i := (w64 ((if (x1.length : Int) > (x0.length : Int) then (x1.length : Int) else (x0.length : Int)) - s41.1))) (x := (if 1 > (rd x0 (w64 ((x0.length : Int) - s41.1))) then 1 else (rd x0 (w64 ((x0.length : Int) - s41.1))))) (us := [.int .i64 (if 1 > (rd x0 (w64 ((x0.length : Int) - s41.1))) then 1 else (rd x0 (w64 ((x0.length : Int) - s41.1))))]) (sz := 1) hf142 (by kernel_rfl) rfl (by kernel_rfl) (hm47.at 0 rfl) rfl g139.1 g139.2 ?_)
                intro w143 hx144 hg145
                have hm146 : Mem [] M w0 [.ow (Kd.int .i64) 3 A28 c29 (put s41.2 (w64 ((if (x1.length : Int) > (x0.length : Int) then (x1.length : Int) else (x0.length : Int)) - s41.1)) (if 1 > (rd x0 (w64 ((x0.length : Int) - s41.1))) then 1 else (rd x0 (w64 ((x0.length : Int) - s41.1))))), .sl (Kd.int .i64) A0 c0 x0, .sl (Kd.int .i64) A1 c1 x1] w143 := hm47.setOwn 0 _ rfl rfl hx144 hg145 (.inl rfl)
                refine endL rfl ?_
                refine blkN ?_
                refine thenN ?_
                refine reg [] [0, 1, 6, 7, 8] [(0, .slice A0 x0.length c0), (1, .slice A1 x1.length c1), (6, .int .i64 (if (x1.length : Int) > (x0.length : Int) then (x1.length : Int) else (x0.length : Int))), (7, .slice A28 s41.2.length c29), (8, .int .i64 (w64 (s41.1 + 1)))] [] hf142 (by kernel_rfl) trivial fun a147 hf148 => ?_
                have hf149 : Fr 83 a147 [(0, .slice A0 x0.length c0), (1, .slice A1 x1.length c1), (6, .int .i64 (if (x1.length : Int) > (x0.length : Int) then (x1.length : Int) else (x0.length : Int))), (7, .slice A28 s41.2.length c29), (8, .int .i64 (w64 (s41.1 + 1)))] := hf148.sel (l := [0, 1, 6, 7, 8]) (by kernel_rfl)
                have hm150 : Mem [] M w0 [.ow (Kd.int .i64) 3 A28 c29 (put s41.2 (w64 ((if (x1.length : Int) > (x0.length : Int) then (x1.length : Int) else (x0.length : Int)) - s41.1)) (if 1 > (rd x0 (w64 ((x0.length : Int) - s41.1))) then 1 else (rd x0 (w64 ((x0.length : Int) - s41.1))))), .sl (Kd.int .i64) A0 c0 x0, .sl (Kd.int .i64) A1 c1 x1] w143 := hm146.sel [0, 1, 2] _ rfl (by kernel_rfl)
                exact ⟨((w64 (s41.1 + 1)), (put s41.2 (w64 ((if (x1.length : Int) > (x0.length : Int) then (x1.length : Int) else (x0.length : Int)) - s41.1)) (if 1 > (rd x0 (w64 ((x0.length : Int) - s41.1))) then 1 else (rd x0 (w64 ((x0.length : Int) - s41.1)))))), H1, (by simpa only [put_length] using hf149), (by simpa only [put_length] using hm150)⟩
          · refine reg [.bool false] [0, 1, 6, 7, 8, 9, 10, 36] [(0, .slice A0 x0.length c0), (1, .slice A1 x1.length c1), (6, .int .i64 (if (x1.length : Int) > (x0.length : Int) then (x1.length : Int) else (x0.length : Int))), (7, .slice A28 s41.2.length c29), (8, .int .i64 s41.1), (9, .int .i64 1), (10, .int .i64 1), (36, .bool false)] [.is (decide (s41.1 ≤ (x0.length : Int)) = false)] hf52 (by kernel_rfl) ⟨(decide_eq_false c53), trivial⟩ fun a151 hf152 => ?_
            refine thenN ?_
            refine condF hf152 (by kernel_rfl) ?_
            refine wp_skip ?_
            refine thenN ?_
            refine wp_seq ?_
            refine wp_seq ?_
            rcases ifS_split H1 with ⟨c153, H1⟩ | ⟨c153, H1⟩
            · refine reg [.bool true] [0, 1, 6, 7, 8, 9, 10, 47] [(0, .slice A0 x0.length c0), (1, .slice A1 x1.length c1), (6, .int .i64 (if (x1.length : Int) > (x0.length : Int) then (x1.length : Int) else (x0.length : Int))), (7, .slice A28 s41.2.length c29), (8, .int .i64 s41.1), (9, .int .i64 1), (10, .int .i64 1), (47, .bool true)] [.is (decide (s41.1 ≤ (x1.length : Int)) = true)] hf152 (by kernel_rfl) ⟨(decide_eq_true c153), trivial⟩ fun a154 hf155 => ?_
              refine thenN ?_
              refine condT hf155 (by kernel_rfl) ?_
              obtain ⟨g156, H1⟩ := ifS_guard H1
              have q157 := (hm47.slAt 2 rfl).int (w64 ((x1.length : Int) - s41.1)) g156.1 g156.2
              refine reg [.int .i64 (rd x1 (w64 ((x1.length : Int) - s41.1)))] [0, 1, 6, 7, 8, 9, 10] [(0, .slice A0 x0.length c0), (1, .slice A1 x1.length c1), (6, .int .i64 (if (x1.length : Int) > (x0.length : Int) then (x1.length : Int) else (x0.length : Int))), (7, .slice A28 s41.2.length c29), (8, .int .i64 s41.1), (9, .int .i64 1), (10, .int .i64 (rd x1 (w64 ((x1.length : Int) - s41.1))))] [.is (Option.isSome A1 = true), .is (0 ≤ (w64 ((x1.length : Int) - s41.1)) ∧ (w64 ((x1.length : Int) - s41.1)) < (x1.length : Int)), .cell ((ad A1).add (((w64 ((x1.length : Int) - s41.1))).toNat * 1)) (.int .i64 (rd x1 (w64 ((x1.length : Int) - s41.1))))] hf155 (by kernel_rfl) ⟨q157.1, g156, q157.2, trivial⟩ fun a158 hf159 => ?_
              refine thenN ?_
              refine wp_seq ?_
              refine wp_seq ?_
              rcases ifS_split H1 with ⟨c160, H1⟩ | ⟨c160, H1⟩
              · refine reg [.bool false] [0, 1, 6, 7, 8, 9, 10, 65] [(0, .slice A0 x0.length c0), (1, .slice A1 x1.length c1), (6, .int .i64 (if (x1.length : Int) > (x0.length : Int) then (x1.length : Int) else (x0.length : Int))), (7, .slice A28 s41.2.length c29), (8, .int .i64 s41.1), (9, .int .i64 1), (10, .int .i64 (rd x1 (w64 ((x1.length : Int) - s41.1)))), (65, .bool false)] [.is (((1 : Int) != (rd x1 (w64 ((x1.length : Int) - s41.1)))) = false)] hf159 (by kernel_rfl) ⟨(neF c160), trivial⟩ fun a161 hf162 => ?_
                refine thenN ?_
                refine condF hf162 (by kernel_rfl) ?_
                refine wp_skip ?_
                refine thenN ?_
                obtain ⟨g163, H1⟩ := ifS_guard H1
                have q164 := (hm47.owAt 0 rfl).int (w64 ((if (x1.length : Int) > (x0.length : Int) then (x1.length : Int) else (x0.length : Int)) - s41.1)) g163.1 g163.2
                refine inReg ?_
                refine go 8 [] [0, 1, 6, 7, 8, 72, 73] [(0, .slice A0 x0.length c0), (1, .slice A1 x1.length c1), (6, .int .i64 (if (x1.length : Int) > (x0.length : Int) then (x1.length : Int) else (x0.length : Int))), (7, .slice A28 s41.2.length c29), (8, .int .i64 s41.1), (72, .int .i64 (if (rd x1 (w64 ((x1.length : Int) - s41.1))) > 1 then (rd x1 (w64 ((x1.length : Int) - s41.1))) else 1)), (73, .pointer (some ((ad A28).add (((w64 ((if (x1.length : Int) > (x0.length : Int) then (x1.length : Int) else (x0.length : Int)) - s41.1))).toNat * 1))))] [.is (Option.isSome A28 = true), .is (0 ≤ (w64 ((if (x1.length : Int) > (x0.length : Int) then (x1.length : Int) else (x0.length : Int)) - s41.1)) ∧ (w64 ((if (x1.length : Int) > (x0.length : Int) then (x1.length : Int) else (x0.length : Int)) - s41.1)) < (s41.2.length : Int))] hf162 (by kernel_rfl) ⟨q164.1, g163, trivial⟩ fun a165 hf166 => ?_
                refine listOf hf166 rfl (by kernel_rfl) (aStoreO (kd := (Kd.int .i64)) (base := 0) (E := 3) (A := A28) (c := c29) (xs := s41.2) (i := (w64 ((if (x1.length : Int) > (x0.length : Int) then (x1.length : Int) else (x0.length : Int)) - s41.1))) (x := (if (rd x1 (w64 ((x1.length : Int) - s41.1))) > 1 then (rd x1 (w64 ((x1.length : Int) - s41.1))) else 1)) (us := [.int .i64 (if (rd x1 (w64 ((x1.length : Int) - s41.1))) > 1 then (rd x1 (w64 ((x1.length : Int) - s41.1))) else 1)]) (sz := 1) hf166 (by kernel_rfl) rfl (by kernel_rfl) (hm47.at 0 rfl) rfl g163.1 g163.2 ?_)
                intro w167 hx168 hg169
                have hm170 : Mem [] M w0 [.ow (Kd.int .i64) 3 A28 c29 (put s41.2 (w64 ((if (x1.length : Int) > (x0.length : Int) then (x1.length : Int) else (x0.length : Int)) - s41.1)) (if (rd x1 (w64 ((x1.length : Int) - s41.1))) > 1 then (rd x1 (w64 ((x1.length : Int) - s41.1))) else 1)), .sl (Kd.int .i64) A0 c0 x0, .sl (Kd.int .i64) A1 c1 x1] w167 := hm47.setOwn 0 _ rfl rfl hx168 hg169 (.inl rfl)
                refine endL rfl ?_
                refine blkN ?_
                refine thenN ?_
                refine reg [] [0, 1, 6, 7, 8] [(0, .slice A0 x0.length c0), (1, .slice A1 x1.length c1), (6, .int .i64 (if (x1.length : Int) > (x0.length : Int) then (x1.length : Int) else (x0.length : Int))), (7, .slice A28 s41.2.length c29), (8, .int .i64 (w64 (s41.1 + 1)))] [] hf166 (by kernel_rfl) trivial fun a171 hf172 => ?_
                have hf173 : Fr 83 a171 [(0, .slice A0 x0.length c0), (1, .slice A1 x1.length c1), (6, .int .i64 (if (x1.length : Int) > (x0.length : Int) then (x1.length : Int) else (x0.length : Int))), (7, .slice A28 s41.2.length c29), (8, .int .i64 (w64 (s41.1 + 1)))] := hf172.sel (l := [0, 1, 6, 7, 8]) (by kernel_rfl)
                have hm174 : Mem [] M w0 [.ow (Kd.int .i64) 3 A28 c29 (put s41.2 (w64 ((if (x1.length : Int) > (x0.length : Int) then (x1.length : Int) else (x0.length : Int)) - s41.1)) (if (rd x1 (w64 ((x1.length : Int) - s41.1))) > 1 then (rd x1 (w64 ((x1.length : Int) - s41.1))) else 1)), .sl (Kd.int .i64) A0 c0 x0, .sl (Kd.int .i64) A1 c1 x1] w167 := hm170.sel [0, 1, 2] _ rfl (by kernel_rfl)
                exact ⟨((w64 (s41.1 + 1)), (put s41.2 (w64 ((if (x1.length : Int) > (x0.length : Int) then (x1.length : Int) else (x0.length : Int)) - s41.1)) (if (rd x1 (w64 ((x1.length : Int) - s41.1))) > 1 then (rd x1 (w64 ((x1.length : Int) - s41.1))) else 1))), H1, (by simpa only [put_length] using hf173), (by simpa only [put_length] using hm174)⟩
              · refine reg [.bool true, .bool false] [0, 1, 6, 7, 8, 9, 10, 65] [(0, .slice A0 x0.length c0), (1, .slice A1 x1.length c1), (6, .int .i64 (if (x1.length : Int) > (x0.length : Int) then (x1.length : Int) else (x0.length : Int))), (7, .slice A28 s41.2.length c29), (8, .int .i64 s41.1), (9, .int .i64 1), (10, .int .i64 (rd x1 (w64 ((x1.length : Int) - s41.1)))), (65, .bool false)] [.is (((1 : Int) != (rd x1 (w64 ((x1.length : Int) - s41.1)))) = true), .is (((1 : Int) != 1) = false)] hf159 (by kernel_rfl) ⟨(neT c160), (okIs (by decide)), trivial⟩ fun a175 hf176 => ?_
                refine thenN ?_
                refine condF hf176 (by kernel_rfl) ?_
                refine wp_skip ?_
                refine thenN ?_
                obtain ⟨g177, H1⟩ := ifS_guard H1
                have q178 := (hm47.owAt 0 rfl).int (w64 ((if (x1.length : Int) > (x0.length : Int) then (x1.length : Int) else (x0.length : Int)) - s41.1)) g177.1 g177.2
                refine inReg ?_
                refine go 8 [] [0, 1, 6, 7, 8, 72, 73] [(0, .slice A0 x0.length c0), (1, .slice A1 x1.length c1), (6, .int .i64 (if (x1.length : Int) > (x0.length : Int) then (x1.length : Int) else (x0.length : Int))), (7, .slice A28 s41.2.length c29), (8, .int .i64 s41.1), (72, .int .i64 (if (rd x1 (w64 ((x1.length : Int) - s41.1))) > 1 then (rd x1 (w64 ((x1.length : Int) - s41.1))) else 1)), (73, .pointer (some ((ad A28).add (((w64 ((if (x1.length : Int) > (x0.length : Int) then (x1.length : Int) else (x0.length : Int)) - s41.1))).toNat * 1))))] [.is (Option.isSome A28 = true), .is (0 ≤ (w64 ((if (x1.length : Int) > (x0.length : Int) then (x1.length : Int) else (x0.length : Int)) - s41.1)) ∧ (w64 ((if (x1.length : Int) > (x0.length : Int) then (x1.length : Int) else (x0.length : Int)) - s41.1)) < (s41.2.length : Int))] hf176 (by kernel_rfl) ⟨q178.1, g177, trivial⟩ fun a179 hf180 => ?_
                refine listOf hf180 rfl (by kernel_rfl) (aStoreO (kd := (Kd.int .i64)) (base := 0) (E := 3) (A := A28) (c := c29) (xs := s41.2) (i := (w64 ((if (x1.length : Int) > (x0.length : Int) then (x1.length : Int) else (x0.length : Int)) - s41.1))) (x := (if (rd x1 (w64 ((x1.length : Int) - s41.1))) > 1 then (rd x1 (w64 ((x1.length : Int) - s41.1))) else 1)) (us := [.int .i64 (if (rd x1 (w64 ((x1.length : Int) - s41.1))) > 1 then (rd x1 (w64 ((x1.length : Int) - s41.1))) else 1)]) (sz := 1) hf180 (by kernel_rfl) rfl (by kernel_rfl) (hm47.at 0 rfl) rfl g177.1 g177.2 ?_)
                intro w181 hx182 hg183
                have hm184 : Mem [] M w0 [.ow (Kd.int .i64) 3 A28 c29 (put s41.2 (w64 ((if (x1.length : Int) > (x0.length : Int) then (x1.length : Int) else (x0.length : Int)) - s41.1)) (if (rd x1 (w64 ((x1.length : Int) - s41.1))) > 1 then (rd x1 (w64 ((x1.length : Int) - s41.1))) else 1)), .sl (Kd.int .i64) A0 c0 x0, .sl (Kd.int .i64) A1 c1 x1] w181 := hm47.setOwn 0 _ rfl rfl hx182 hg183 (.inl rfl)
                refine endL rfl ?_
                refine blkN ?_
                refine thenN ?_
                refine reg [] [0, 1, 6, 7, 8] [(0, .slice A0 x0.length c0), (1, .slice A1 x1.length c1), (6, .int .i64 (if (x1.length : Int) > (x0.length : Int) then (x1.length : Int) else (x0.length : Int))), (7, .slice A28 s41.2.length c29), (8, .int .i64 (w64 (s41.1 + 1)))] [] hf180 (by kernel_rfl) trivial fun a185 hf186 => ?_
                have hf187 : Fr 83 a185 [(0, .slice A0 x0.length c0), (1, .slice A1 x1.length c1), (6, .int .i64 (if (x1.length : Int) > (x0.length : Int) then (x1.length : Int) else (x0.length : Int))), (7, .slice A28 s41.2.length c29), (8, .int .i64 (w64 (s41.1 + 1)))] := hf186.sel (l := [0, 1, 6, 7, 8]) (by kernel_rfl)
                have hm188 : Mem [] M w0 [.ow (Kd.int .i64) 3 A28 c29 (put s41.2 (w64 ((if (x1.length : Int) > (x0.length : Int) then (x1.length : Int) else (x0.length : Int)) - s41.1)) (if (rd x1 (w64 ((x1.length : Int) - s41.1))) > 1 then (rd x1 (w64 ((x1.length : Int) - s41.1))) else 1)), .sl (Kd.int .i64) A0 c0 x0, .sl (Kd.int .i64) A1 c1 x1] w181 := hm184.sel [0, 1, 2] _ rfl (by kernel_rfl)
                exact ⟨((w64 (s41.1 + 1)), (put s41.2 (w64 ((if (x1.length : Int) > (x0.length : Int) then (x1.length : Int) else (x0.length : Int)) - s41.1)) (if (rd x1 (w64 ((x1.length : Int) - s41.1))) > 1 then (rd x1 (w64 ((x1.length : Int) - s41.1))) else 1))), H1, (by simpa only [put_length] using hf187), (by simpa only [put_length] using hm188)⟩
            · refine reg [.bool false] [0, 1, 6, 7, 8, 9, 10, 47] [(0, .slice A0 x0.length c0), (1, .slice A1 x1.length c1), (6, .int .i64 (if (x1.length : Int) > (x0.length : Int) then (x1.length : Int) else (x0.length : Int))), (7, .slice A28 s41.2.length c29), (8, .int .i64 s41.1), (9, .int .i64 1), (10, .int .i64 1), (47, .bool false)] [.is (decide (s41.1 ≤ (x1.length : Int)) = false)] hf152 (by kernel_rfl) ⟨(decide_eq_false c153), trivial⟩ fun a189 hf190 => ?_
              refine thenN ?_
              refine condF hf190 (by kernel_rfl) ?_
              refine wp_skip ?_
              refine thenN ?_
              refine wp_seq ?_
              refine wp_seq ?_
              refine reg [.bool false] [0, 1, 6, 7, 8, 9, 10, 65] [(0, .slice A0 x0.length c0), (1, .slice A1 x1.length c1), (6, .int .i64 (if (x1.length : Int) > (x0.length : Int) then (x1.length : Int) else (x0.length : Int))), (7, .slice A28 s41.2.length c29), (8, .int .i64 s41.1), (9, .int .i64 1), (10, .int .i64 1), (65, .bool false)] [.is (((1 : Int) != 1) = false)] hf190 (by kernel_rfl) ⟨(okIs (by decide)), trivial⟩ fun a191 hf192 => ?_
              refine thenN ?_
              refine condF hf192 (by kernel_rfl) ?_
              refine wp_skip ?_
              refine thenN ?_
              obtain ⟨g193, H1⟩ := ifS_guard H1
              have q194 := (hm47.owAt 0 rfl).int (w64 ((if (x1.length : Int) > (x0.length : Int) then (x1.length : Int) else (x0.length : Int)) - s41.1)) g193.1 g193.2
              refine inReg ?_
              refine go 8 [] [0, 1, 6, 7, 8, 72, 73] [(0, .slice A0 x0.length c0), (1, .slice A1 x1.length c1), (6, .int .i64 (if (x1.length : Int) > (x0.length : Int) then (x1.length : Int) else (x0.length : Int))), (7, .slice A28 s41.2.length c29), (8, .int .i64 s41.1), (72, .int .i64 (if 1 > 1 then 1 else 1)), (73, .pointer (some ((ad A28).add (((w64 ((if (x1.length : Int) > (x0.length : Int) then (x1.length : Int) else (x0.length : Int)) - s41.1))).toNat * 1))))] [.is (Option.isSome A28 = true), .is (0 ≤ (w64 ((if (x1.length : Int) > (x0.length : Int) then (x1.length : Int) else (x0.length : Int)) - s41.1)) ∧ (w64 ((if (x1.length : Int) > (x0.length : Int) then (x1.length : Int) else (x0.length : Int)) - s41.1)) < (s41.2.length : Int))] hf192 (by kernel_rfl) ⟨q194.1, g193, trivial⟩ fun a195 hf196 => ?_
              refine listOf hf196 rfl (by kernel_rfl) (aStoreO (kd := (Kd.int .i64)) (base := 0) (E := 3) (A := A28) (c := c29) (xs := s41.2) (i := (w64 ((if (x1.length : Int) > (x0.length : Int) then (x1.length : Int) else (x0.length : Int)) - s41.1))) (x := (if 1 > 1 then 1 else 1)) (us := [.int .i64 (if 1 > 1 then 1 else 1)]) (sz := 1) hf196 (by kernel_rfl) rfl (by kernel_rfl) (hm47.at 0 rfl) rfl g193.1 g193.2 ?_)
              intro w197 hx198 hg199
              have hm200 : Mem [] M w0 [.ow (Kd.int .i64) 3 A28 c29 (put s41.2 (w64 ((if (x1.length : Int) > (x0.length : Int) then (x1.length : Int) else (x0.length : Int)) - s41.1)) (if 1 > 1 then 1 else 1)), .sl (Kd.int .i64) A0 c0 x0, .sl (Kd.int .i64) A1 c1 x1] w197 := hm47.setOwn 0 _ rfl rfl hx198 hg199 (.inl rfl)
              refine endL rfl ?_
              refine blkN ?_
              refine thenN ?_
              refine reg [] [0, 1, 6, 7, 8] [(0, .slice A0 x0.length c0), (1, .slice A1 x1.length c1), (6, .int .i64 (if (x1.length : Int) > (x0.length : Int) then (x1.length : Int) else (x0.length : Int))), (7, .slice A28 s41.2.length c29), (8, .int .i64 (w64 (s41.1 + 1)))] [] hf196 (by kernel_rfl) trivial fun a201 hf202 => ?_
              have hf203 : Fr 83 a201 [(0, .slice A0 x0.length c0), (1, .slice A1 x1.length c1), (6, .int .i64 (if (x1.length : Int) > (x0.length : Int) then (x1.length : Int) else (x0.length : Int))), (7, .slice A28 s41.2.length c29), (8, .int .i64 (w64 (s41.1 + 1)))] := hf202.sel (l := [0, 1, 6, 7, 8]) (by kernel_rfl)
              have hm204 : Mem [] M w0 [.ow (Kd.int .i64) 3 A28 c29 (put s41.2 (w64 ((if (x1.length : Int) > (x0.length : Int) then (x1.length : Int) else (x0.length : Int)) - s41.1)) (if 1 > 1 then 1 else 1)), .sl (Kd.int .i64) A0 c0 x0, .sl (Kd.int .i64) A1 c1 x1] w197 := hm200.sel [0, 1, 2] _ rfl (by kernel_rfl)
              exact ⟨((w64 (s41.1 + 1)), (put s41.2 (w64 ((if (x1.length : Int) > (x0.length : Int) then (x1.length : Int) else (x0.length : Int)) - s41.1)) (if 1 > 1 then 1 else 1))), H1, (by simpa only [put_length] using hf203), (by simpa only [put_length] using hm204)⟩
        · refine reg [.bool false] [0, 1, 6, 7, 8, 30] [(0, .slice A0 x0.length c0), (1, .slice A1 x1.length c1), (6, .int .i64 (if (x1.length : Int) > (x0.length : Int) then (x1.length : Int) else (x0.length : Int))), (7, .slice A28 s41.2.length c29), (8, .int .i64 s41.1), (30, .bool false)] [.is (decide (s41.1 ≤ (if (x1.length : Int) > (x0.length : Int) then (x1.length : Int) else (x0.length : Int))) = false)] hf46 (by kernel_rfl) ⟨(decide_eq_false c48), trivial⟩ fun a205 hf206 => ?_
          refine thenN ?_
          refine condF hf206 (by kernel_rfl) ?_
          refine wp_exit ?_
          refine thenE ?_
          refine thenE ?_
          obtain rfl := Option.some.inj H1
          exact .inl ⟨rfl, (s41.1, s41.2), rfl, hf206.sel (l := [0, 1, 6, 7, 8]) (by kernel_rfl), hm47.sel [0, 1, 2] _ rfl (by kernel_rfl)⟩
      rintro a207 w208 ⟨yr42, rfl, hf209, hm210⟩
      refine thenN ?_
      refine wp_seq ?_
      obtain ⟨r211, hr211, H0⟩ := ob_split H0
      refine inReg ?_
      refine go 1 [] [7, 75] [(7, .slice A28 yr42.2.length c29), (75, .slice A28 yr42.2.length c29)] [] hf209 (by kernel_rfl) trivial fun a212 hf213 => ?_
      have hm214 : Mem [] M w0 [.sl (Kd.int .i64) A28 c29 yr42.2, .sl (Kd.int .i64) A0 c0 x0, .sl (Kd.int .i64) A1 c1 x1] w208 := hm210.seal 0 _ rfl rfl
      refine listOf hf213 rfl (by kernel_rfl) (aCall (fid := 18) (args := [.slice A28 yr42.2.length c29]) (d := 76) hf213 (by kernel_rfl) (by kernel_rfl) callable18 (ref1_Size.calls _ _ yr42.2 A28 yr42.2.length c29 rfl (hm214.give [0] [.sl (Kd.int .i64) A28 c29 yr42.2] rfl rfl) r211 hr211) ?_)
      rintro _ w215 a216 ⟨rfl, hk218⟩ hf217
      have hm219 : Mem [] M w0 [.ow (Kd.int .i64) 3 A28 c29 yr42.2, .sl (Kd.int .i64) A0 c0 x0, .sl (Kd.int .i64) A1 c1 x1] w215 := hm210.still hk218.cum.none
      refine go 5 [] [7, 12] [(7, .slice A28 yr42.2.length c29), (12, .int .i64 r211.2)] [] hf217 (by kernel_rfl) trivial fun a220 hf221 => ?_
      refine endL rfl ?_
      have hm222 : Mem [] M w0 [.ow (Kd.int .i64) 3 A28 c29 yr42.2] w215 := hm219.sel [0] _ rfl (by kernel_rfl)
      refine thenN ?_
      refine wp_seq ?_
      refine wp_seq ?_
      rcases if_split H0 with ⟨c223, H0⟩ | ⟨c223, H0⟩
      · refine reg [.bool false] [7, 12, 80] [(7, .slice A28 yr42.2.length c29), (12, .int .i64 r211.2), (80, .bool false)] [.is (((r211.2 : Int) != 0) = false)] hf221 (by kernel_rfl) ⟨(neF c223), trivial⟩ fun a224 hf225 => ?_
        refine thenN ?_
        refine condF hf225 (by kernel_rfl) ?_
        refine wp_skip ?_
        refine thenN ?_
        refine wp_seq ?_
        refine reg [] [4, 5] [(4, .slice A28 yr42.2.length c29), (5, .int .i64 0)] [] hf225 (by kernel_rfl) trivial fun a226 hf227 => ?_
        refine thenN ?_
        refine wp_ret ?_
        have hm228 : Mem [] M w0 [.ow (Kd.int .i64) 3 A28 c29 yr42.2] w215 := hm222.sel [0] _ rfl (by kernel_rfl)
        obtain rfl := Option.some.inj H0
        refine ret [] [.slice A28 yr42.2.length c29, .int .i64 0] [] hf227 (by kernel_rfl) trivial ?_
        exact ⟨_, rfl, A28, c29, rfl, hm228⟩
      · refine reg [.bool true] [7, 12, 80] [(7, .slice A28 yr42.2.length c29), (12, .int .i64 r211.2), (80, .bool true)] [.is (((r211.2 : Int) != 0) = true)] hf221 (by kernel_rfl) ⟨(neT c223), trivial⟩ fun a230 hf231 => ?_
        refine thenN ?_
        refine condT hf231 (by kernel_rfl) ?_
        refine wp_seq ?_
        refine reg [] [4, 5] [(4, .slice none 0 0), (5, .int .i64 r211.2)] [] hf231 (by kernel_rfl) trivial fun a232 hf233 => ?_
        have hm234 : Mem [] M w0 [] w215 := hm222.sel [] _ rfl (by kernel_rfl)
        refine thenN ?_
        refine wp_ret ?_
        refine thenR ?_
        have hm235 : Mem [] M w0 [.ow (Kd.int .i64) 3 none 0 ([] : (List Int))] w215 := hm234.nilOw (Kd.int .i64) 3
        have hm236 : Mem [] M w0 [.ow (Kd.int .i64) 3 none 0 ([] : (List Int))] w215 := hm235.sel [0] _ rfl (by kernel_rfl)
        obtain rfl := Option.some.inj H0
        refine ret [] [.slice none 0 0, .int .i64 r211.2] [] hf233 (by kernel_rfl) trivial ?_
        exact ⟨_, rfl, none, 0, rfl, hm236⟩
    · refine inReg ?_
      refine go 1 [] [0, 1, 13] [(0, .slice A0 x0.length c0), (1, .slice A1 x1.length c1), (13, .slice A0 x0.length c0)] [] hf2 (by kernel_rfl) trivial fun a238 hf239 => ?_
      refine listOf hf239 rfl (by kernel_rfl) (aCall (fid := 20) (args := [.slice A0 x0.length c0]) (d := 14) hf239 (by kernel_rfl) (by kernel_rfl) callable20 (ref1_May.calls _ _ x0 A0 x0.length c0 rfl (hm0.give [0] [.sl (Kd.int .i64) A0 c0 x0] rfl rfl) r3 hr3) ?_)
      rintro _ w240 a241 ⟨rfl, hk243⟩ hf242
      have hm244 : Mem [] M w0 [.sl (Kd.int .i64) A0 c0 x0, .sl (Kd.int .i64) A1 c1 x1] w240 := hm0.still hk243.cum.none
      rw [c4] at hf242
      refine go 3 [] [0, 1, 16, 17] [(0, .slice A0 x0.length c0), (1, .slice A1 x1.length c1), (16, .bool false), (17, .slice A1 x1.length c1)] [] hf242 (by kernel_rfl) trivial fun a245 hf246 => ?_
      refine listOf hf246 rfl (by kernel_rfl) (aCall (fid := 20) (args := [.slice A1 x1.length c1]) (d := 18) hf246 (by kernel_rfl) (by kernel_rfl) callable20 (ref1_May.calls _ _ x1 A1 x1.length c1 rfl (hm244.give [1] [.sl (Kd.int .i64) A1 c1 x1] rfl rfl) r5 hr5) ?_)
      rintro _ w247 a248 ⟨rfl, hk250⟩ hf249
      have hm251 : Mem [] M w0 [.sl (Kd.int .i64) A0 c0 x0, .sl (Kd.int .i64) A1 c1 x1] w247 := hm244.still hk250.cum.none
      rw [c6] at hf249
      refine go 2 [] [0, 1, 20] [(0, .slice A0 x0.length c0), (1, .slice A1 x1.length c1), (20, .bool true)] [] hf249 (by kernel_rfl) trivial fun a252 hf253 => ?_
      refine endL rfl ?_
      refine thenN ?_
      refine condT hf253 (by kernel_rfl) ?_
      refine wp_seq ?_
      refine reg [] [4, 5] [(4, .slice none 0 0), (5, .int .i64 2)] [] hf253 (by kernel_rfl) trivial fun a254 hf255 => ?_
      have hm256 : Mem [] M w0 [] w247 := hm251.sel [] _ rfl (by kernel_rfl)
      refine thenN ?_
      refine wp_ret ?_
      refine thenR ?_
      have hm257 : Mem [] M w0 [.ow (Kd.int .i64) 3 none 0 ([] : (List Int))] w247 := hm256.nilOw (Kd.int .i64) 3
      have hm258 : Mem [] M w0 [.ow (Kd.int .i64) 3 none 0 ([] : (List Int))] w247 := hm257.sel [0] _ rfl (by kernel_rfl)
      obtain rfl := Option.some.inj H0
      refine ret [] [.slice none 0 0, .int .i64 2] [] hf255 (by kernel_rfl) trivial ?_
      exact ⟨_, rfl, none, 0, rfl, hm258⟩
  · refine inReg ?_
    refine go 1 [] [0, 1, 13] [(0, .slice A0 x0.length c0), (1, .slice A1 x1.length c1), (13, .slice A0 x0.length c0)] [] hf2 (by kernel_rfl) trivial fun a260 hf261 => ?_
    refine listOf hf261 rfl (by kernel_rfl) (aCall (fid := 20) (args := [.slice A0 x0.length c0]) (d := 14) hf261 (by kernel_rfl) (by kernel_rfl) callable20 (ref1_May.calls _ _ x0 A0 x0.length c0 rfl (hm0.give [0] [.sl (Kd.int .i64) A0 c0 x0] rfl rfl) r3 hr3) ?_)
    rintro _ w262 a263 ⟨rfl, hk265⟩ hf264
    have hm266 : Mem [] M w0 [.sl (Kd.int .i64) A0 c0 x0, .sl (Kd.int .i64) A1 c1 x1] w262 := hm0.still hk265.cum.none
    rw [c4] at hf264
    refine go 6 [] [0, 1, 20] [(0, .slice A0 x0.length c0), (1, .slice A1 x1.length c1), (20, .bool true)] [] hf264 (by kernel_rfl) trivial fun a267 hf268 => ?_
    refine endL rfl ?_
    refine thenN ?_
    refine condT hf268 (by kernel_rfl) ?_
    refine wp_seq ?_
    refine reg [] [4, 5] [(4, .slice none 0 0), (5, .int .i64 2)] [] hf268 (by kernel_rfl) trivial fun a269 hf270 => ?_
    have hm271 : Mem [] M w0 [] w262 := hm266.sel [] _ rfl (by kernel_rfl)
    refine thenN ?_
    refine wp_ret ?_
    refine thenR ?_
    have hm272 : Mem [] M w0 [.ow (Kd.int .i64) 3 none 0 ([] : (List Int))] w262 := hm271.nilOw (Kd.int .i64) 3
    have hm273 : Mem [] M w0 [.ow (Kd.int .i64) 3 none 0 ([] : (List Int))] w262 := hm272.sel [0] _ rfl (by kernel_rfl)
    obtain rfl := Option.some.inj H0
    refine ret [] [.slice none 0 0, .int .i64 2] [] hf270 (by kernel_rfl) trivial ?_
    exact ⟨_, rfl, none, 0, rfl, hm273⟩

/-! ### backstitch/shape.Into -/
noncomputable def shape_Into.f (x0 : (List Int)) (x1 : (List Int)) : Option Bool :=
  (shape_Spread.f x0 x1).bind fun r3 =>
  if r3.2 = 0 then ((shape_Same.f r3.1 x1).bind fun r18 =>
  some r18)
  else (some false)
set_option maxRecDepth 100000 in
set_option maxHeartbeats 4000000 in
theorem shape_Into.calls (M : List (Option Nat)) (w0 : World) (x0 : (List Int)) (A0 : Option Addr) (n0 c0 : Nat) (e0 : n0 = x0.length) (x1 : (List Int)) (A1 : Option Addr) (n1 c1 : Nat) (e1 : n1 = x1.length) (hm0 : Mem [] M w0 [.sl (Kd.int .i64) A0 c0 x0, .sl (Kd.int .i64) A1 c1 x1] w0) (r : Bool) (H0 : shape_Into.f x0 x1 = some r) :
    Calls Try.prog 13 [.slice A0 n0 c0, .slice A1 n1 c1].toArray w0 (fun x w' => ∃ v, x = .returned v ∧ v = .bool r ∧ Mem [] M w0 [] w') := by
  subst e0
  subst e1
  unfold shape_Into.f at H0
  refine enter (n := 20) Try.func13 rfl rfl (by kernel_rfl) fun a0 (hf0 : Fr 20 a0 [(0, .slice A0 x0.length c0), (1, .slice A1 x1.length c1)]) => ?_
  refine wp_seq ?_
  refine reg [] [0, 1] [(0, .slice A0 x0.length c0), (1, .slice A1 x1.length c1)] [] hf0 (by kernel_rfl) trivial fun a1 hf2 => ?_
  refine thenN ?_
  refine wp_seq ?_
  obtain ⟨r3, hr3, H0⟩ := ob_split H0
  refine inReg ?_
  refine go 2 [] [1, 8, 9] [(1, .slice A1 x1.length c1), (8, .slice A0 x0.length c0), (9, .slice A1 x1.length c1)] [] hf2 (by kernel_rfl) trivial fun a4 hf5 => ?_
  refine listOf hf5 rfl (by kernel_rfl) (aCall (fid := 10) (args := [.slice A0 x0.length c0, .slice A1 x1.length c1]) (d := 10) hf5 (by kernel_rfl) (by kernel_rfl) callable10 (shape_Spread.calls _ _ x0 A0 x0.length c0 rfl x1 A1 x1.length c1 rfl (hm0.give [0, 1] [.sl (Kd.int .i64) A0 c0 x0, .sl (Kd.int .i64) A1 c1 x1] rfl rfl) r3 hr3) ?_)
  rintro _ w8 a9 ⟨A6, c7, rfl, hk11⟩ hf10
  have hm12 : Mem [] M w0 [.ow (Kd.int .i64) 3 A6 c7 r3.1, .sl (Kd.int .i64) A0 c0 x0, .sl (Kd.int .i64) A1 c1 x1] w8 := hm0.back hk11
  have hm13 : Mem [] M w0 [.sl (Kd.int .i64) A6 c7 r3.1, .sl (Kd.int .i64) A0 c0 x0, .sl (Kd.int .i64) A1 c1 x1] w8 := hm12.seal 0 _ rfl rfl
  refine go 5 [] [1, 5, 6] [(1, .slice A1 x1.length c1), (5, .slice A6 r3.1.length c7), (6, .int .i64 r3.2)] [] hf10 (by kernel_rfl) trivial fun a14 hf15 => ?_
  refine endL rfl ?_
  have hm16 : Mem [] M w0 [.sl (Kd.int .i64) A6 c7 r3.1, .sl (Kd.int .i64) A1 c1 x1] w8 := hm13.sel [0, 2] _ rfl (by kernel_rfl)
  refine thenN ?_
  refine wp_seq ?_
  rcases if_split H0 with ⟨c17, H0⟩ | ⟨c17, H0⟩
  · obtain ⟨r18, hr18, H0⟩ := ob_split H0
    refine inReg ?_
    refine go 5 [.bool true] [15, 16, 17] [(15, .bool true), (16, .slice A6 r3.1.length c7), (17, .slice A1 x1.length c1)] [.is (((r3.2 : Int) == 0) = true)] hf15 (by kernel_rfl) ⟨(eqT c17), trivial⟩ fun a19 hf20 => ?_
    refine listOf hf20 rfl (by kernel_rfl) (aCall (fid := 16) (args := [.slice A6 r3.1.length c7, .slice A1 x1.length c1]) (d := 18) hf20 (by kernel_rfl) (by kernel_rfl) callable16 (shape_Same.calls _ _ r3.1 A6 r3.1.length c7 rfl x1 A1 x1.length c1 rfl (hm16.give [0, 1] [.sl (Kd.int .i64) A6 c7 r3.1, .sl (Kd.int .i64) A1 c1 x1] rfl rfl) r18 hr18) ?_)
    rintro _ w21 a22 ⟨rfl, hk24⟩ hf23
    have hm25 : Mem [] M w0 [.sl (Kd.int .i64) A6 c7 r3.1, .sl (Kd.int .i64) A1 c1 x1] w21 := hm16.still hk24.cum.none
    refine go 2 [] [4] [(4, .bool r18)] [] hf23 (by kernel_rfl) trivial fun a26 hf27 => ?_
    refine endL rfl ?_
    have hm28 : Mem [] M w0 [] w21 := hm25.sel [] _ rfl (by kernel_rfl)
    refine thenN ?_
    refine wp_ret ?_
    have hm29 : Mem [] M w0 [] w21 := hm28.sel [] _ rfl (by kernel_rfl)
    obtain rfl := Option.some.inj H0
    refine ret [] [.bool r18] [] hf27 (by kernel_rfl) trivial ?_
    exact ⟨_, rfl, rfl, hm29⟩
  · refine reg [.bool false] [4] [(4, .bool false)] [.is (((r3.2 : Int) == 0) = false)] hf15 (by kernel_rfl) ⟨(eqF c17), trivial⟩ fun a31 hf32 => ?_
    have hm33 : Mem [] M w0 [] w8 := hm16.sel [] _ rfl (by kernel_rfl)
    refine thenN ?_
    refine wp_ret ?_
    have hm34 : Mem [] M w0 [] w8 := hm33.sel [] _ rfl (by kernel_rfl)
    obtain rfl := Option.some.inj H0
    refine ret [] [.bool false] [] hf32 (by kernel_rfl) trivial ?_
    exact ⟨_, rfl, rfl, hm34⟩

/-! ### backstitch/backstitchref1.Into -/
noncomputable def ref1_Into.f (x0 : (List Int)) (x1 : (List Int)) : Option Bool :=
  (ref1_Spread.f x0 x1).bind fun r3 =>
  if r3.2 = 0 then ((ref1_SameInts.f r3.1 x1).bind fun r18 =>
  some r18)
  else (some false)
set_option maxRecDepth 100000 in
set_option maxHeartbeats 4000000 in
theorem ref1_Into.calls (M : List (Option Nat)) (w0 : World) (x0 : (List Int)) (A0 : Option Addr) (n0 c0 : Nat) (e0 : n0 = x0.length) (x1 : (List Int)) (A1 : Option Addr) (n1 c1 : Nat) (e1 : n1 = x1.length) (hm0 : Mem [] M w0 [.sl (Kd.int .i64) A0 c0 x0, .sl (Kd.int .i64) A1 c1 x1] w0) (r : Bool) (H0 : ref1_Into.f x0 x1 = some r) :
    Calls Try.prog 14 [.slice A0 n0 c0, .slice A1 n1 c1].toArray w0 (fun x w' => ∃ v, x = .returned v ∧ v = .bool r ∧ Mem [] M w0 [] w') := by
  subst e0
  subst e1
  unfold ref1_Into.f at H0
  refine enter (n := 20) Try.func14 rfl rfl (by kernel_rfl) fun a0 (hf0 : Fr 20 a0 [(0, .slice A0 x0.length c0), (1, .slice A1 x1.length c1)]) => ?_
  refine wp_seq ?_
  refine reg [] [0, 1] [(0, .slice A0 x0.length c0), (1, .slice A1 x1.length c1)] [] hf0 (by kernel_rfl) trivial fun a1 hf2 => ?_
  refine thenN ?_
  refine wp_seq ?_
  obtain ⟨r3, hr3, H0⟩ := ob_split H0
  refine inReg ?_
  refine go 2 [] [1, 8, 9] [(1, .slice A1 x1.length c1), (8, .slice A0 x0.length c0), (9, .slice A1 x1.length c1)] [] hf2 (by kernel_rfl) trivial fun a4 hf5 => ?_
  refine listOf hf5 rfl (by kernel_rfl) (aCall (fid := 11) (args := [.slice A0 x0.length c0, .slice A1 x1.length c1]) (d := 10) hf5 (by kernel_rfl) (by kernel_rfl) callable11 (ref1_Spread.calls _ _ x0 A0 x0.length c0 rfl x1 A1 x1.length c1 rfl (hm0.give [0, 1] [.sl (Kd.int .i64) A0 c0 x0, .sl (Kd.int .i64) A1 c1 x1] rfl rfl) r3 hr3) ?_)
  rintro _ w8 a9 ⟨A6, c7, rfl, hk11⟩ hf10
  have hm12 : Mem [] M w0 [.ow (Kd.int .i64) 3 A6 c7 r3.1, .sl (Kd.int .i64) A0 c0 x0, .sl (Kd.int .i64) A1 c1 x1] w8 := hm0.back hk11
  have hm13 : Mem [] M w0 [.sl (Kd.int .i64) A6 c7 r3.1, .sl (Kd.int .i64) A0 c0 x0, .sl (Kd.int .i64) A1 c1 x1] w8 := hm12.seal 0 _ rfl rfl
  refine go 5 [] [1, 5, 6] [(1, .slice A1 x1.length c1), (5, .slice A6 r3.1.length c7), (6, .int .i64 r3.2)] [] hf10 (by kernel_rfl) trivial fun a14 hf15 => ?_
  refine endL rfl ?_
  have hm16 : Mem [] M w0 [.sl (Kd.int .i64) A6 c7 r3.1, .sl (Kd.int .i64) A1 c1 x1] w8 := hm13.sel [0, 2] _ rfl (by kernel_rfl)
  refine thenN ?_
  refine wp_seq ?_
  rcases if_split H0 with ⟨c17, H0⟩ | ⟨c17, H0⟩
  · obtain ⟨r18, hr18, H0⟩ := ob_split H0
    refine inReg ?_
    refine go 5 [.bool true] [15, 16, 17] [(15, .bool true), (16, .slice A6 r3.1.length c7), (17, .slice A1 x1.length c1)] [.is (((r3.2 : Int) == 0) = true)] hf15 (by kernel_rfl) ⟨(eqT c17), trivial⟩ fun a19 hf20 => ?_
    refine listOf hf20 rfl (by kernel_rfl) (aCall (fid := 12) (args := [.slice A6 r3.1.length c7, .slice A1 x1.length c1]) (d := 18) hf20 (by kernel_rfl) (by kernel_rfl) callable12 (ref1_SameInts.calls _ _ r3.1 A6 r3.1.length c7 rfl x1 A1 x1.length c1 rfl (hm16.give [0, 1] [.sl (Kd.int .i64) A6 c7 r3.1, .sl (Kd.int .i64) A1 c1 x1] rfl rfl) r18 hr18) ?_)
    rintro _ w21 a22 ⟨rfl, hk24⟩ hf23
    have hm25 : Mem [] M w0 [.sl (Kd.int .i64) A6 c7 r3.1, .sl (Kd.int .i64) A1 c1 x1] w21 := hm16.still hk24.cum.none
    refine go 2 [] [4] [(4, .bool r18)] [] hf23 (by kernel_rfl) trivial fun a26 hf27 => ?_
    refine endL rfl ?_
    have hm28 : Mem [] M w0 [] w21 := hm25.sel [] _ rfl (by kernel_rfl)
    refine thenN ?_
    refine wp_ret ?_
    have hm29 : Mem [] M w0 [] w21 := hm28.sel [] _ rfl (by kernel_rfl)
    obtain rfl := Option.some.inj H0
    refine ret [] [.bool r18] [] hf27 (by kernel_rfl) trivial ?_
    exact ⟨_, rfl, rfl, hm29⟩
  · refine reg [.bool false] [4] [(4, .bool false)] [.is (((r3.2 : Int) == 0) = false)] hf15 (by kernel_rfl) ⟨(eqF c17), trivial⟩ fun a31 hf32 => ?_
    have hm33 : Mem [] M w0 [] w8 := hm16.sel [] _ rfl (by kernel_rfl)
    refine thenN ?_
    refine wp_ret ?_
    have hm34 : Mem [] M w0 [] w8 := hm33.sel [] _ rfl (by kernel_rfl)
    obtain rfl := Option.some.inj H0
    refine ret [] [.bool false] [] hf32 (by kernel_rfl) trivial ?_
    exact ⟨_, rfl, rfl, hm34⟩

/-! ### backstitch/backstitchref1.Strides -/
noncomputable def ref1_Strides.l0 (x0 : (List Int)) (s32 : (Int × Int × (List Int))) : Step (Int × Int × (List Int)) (Int × Int × (List Int)) :=
  if 0 ≤ s32.2.1 then (if 0 ≤ s32.2.1 ∧ s32.2.1 < (s32.2.2.length : Int) then (if 0 ≤ s32.2.1 ∧ s32.2.1 < (x0.length : Int) then (.next ((w64 (s32.1 * (rd x0 s32.2.1))), (w64 (s32.2.1 - 1)), (put s32.2.2 s32.2.1 s32.1)))
  else .bad)
  else .bad)
  else (.done (s32.1, s32.2.1, s32.2.2))
noncomputable def ref1_Strides.f (x0 : (List Int)) : Option (List Int) :=
  (ref1_May.f x0).bind fun r3 =>
  if r3 = true then (if 0 ≤ (x0.length : Int) ∧ (x0.length : Int) ≤ 1099511627776 then ((loop (ref1_Strides.l0 x0) (1, (w64 ((x0.length : Int) - 1)), (List.replicate ((x0.length : Int)).toNat (0 : Int)))).bind fun r33 =>
  some r33.2.2)
  else none)
  else (some ([] : (List Int)))
set_option maxRecDepth 100000 in
set_option maxHeartbeats 4000000 in
theorem ref1_Strides.calls (M : List (Option Nat)) (w0 : World) (x0 : (List Int)) (A0 : Option Addr) (n0 c0 : Nat) (e0 : n0 = x0.length) (hm0 : Mem [] M w0 [.sl (Kd.int .i64) A0 c0 x0] w0) (r : (List Int)) (H0 : ref1_Strides.f x0 = some r) :
    Calls Try.prog 22 [.slice A0 n0 c0].toArray w0 (fun x w' => ∃ v, x = .returned v ∧ ∃ Ar0 cr0, v = .slice Ar0 r.length cr0 ∧ Mem [] M w0 [.ow (Kd.int .i64) 3 Ar0 cr0 r] w') := by
  subst e0
  unfold ref1_Strides.f at H0
  refine enter (n := 30) Try.func22 rfl rfl (by kernel_rfl) fun a0 (hf0 : Fr 30 a0 [(0, .slice A0 x0.length c0)]) => ?_
  refine wp_seq ?_
  refine reg [] [0] [(0, .slice A0 x0.length c0)] [] hf0 (by kernel_rfl) trivial fun a1 hf2 => ?_
  refine thenN ?_
  refine wp_seq ?_
  refine wp_seq ?_
  obtain ⟨r3, hr3, H0⟩ := ob_split H0
  rcases ifb_split H0 with ⟨c4, H0⟩ | ⟨c4, H0⟩
  · refine inReg ?_
    refine go 1 [] [0, 6] [(0, .slice A0 x0.length c0), (6, .slice A0 x0.length c0)] [] hf2 (by kernel_rfl) trivial fun a5 hf6 => ?_
    refine listOf hf6 rfl (by kernel_rfl) (aCall (fid := 20) (args := [.slice A0 x0.length c0]) (d := 7) hf6 (by kernel_rfl) (by kernel_rfl) callable20 (ref1_May.calls _ _ x0 A0 x0.length c0 rfl (hm0.give [0] [.sl (Kd.int .i64) A0 c0 x0] rfl rfl) r3 hr3) ?_)
    rintro _ w7 a8 ⟨rfl, hk10⟩ hf9
    have hm11 : Mem [] M w0 [.sl (Kd.int .i64) A0 c0 x0] w7 := hm0.still hk10.cum.none
    rw [c4] at hf9
    refine go 1 [] [0, 8] [(0, .slice A0 x0.length c0), (8, .bool false)] [] hf9 (by kernel_rfl) trivial fun a12 hf13 => ?_
    refine endL rfl ?_
    refine thenN ?_
    refine condF hf13 (by kernel_rfl) ?_
    refine wp_skip ?_
    refine thenN ?_
    refine wp_seq ?_
    obtain ⟨g14, H0⟩ := if_guard H0
    refine inReg ?_
    refine go 2 [] [0, 10] [(0, .slice A0 x0.length c0), (10, .int .i64 (x0.length : Int))] [] hf13 (by kernel_rfl) trivial fun a15 hf16 => ?_
    refine listOf hf16 rfl (by kernel_rfl) (aMake (kd := (Kd.int .i64)) (x := 0) (E := 3) (L := (x0.length : Int)) (z := [.int .i64 0]) (sz := 1) (d := 11) hf16 (by kernel_rfl) (by kernel_rfl) rfl (fun _ _ => rfl) g14.1 g14.2 ?_)
    intro A17 c18 w19 a20 ho22 hb24 hg23 hf21
    have hm25 : Mem [] M w0 [.ow (Kd.int .i64) 3 A17 c18 (List.replicate ((x0.length : Int)).toNat (0 : Int)), .sl (Kd.int .i64) A0 c0 x0] w19 := hm11.own (ho22 _) hg23
    refine go 1 [] [0, 3] [(0, .slice A0 x0.length c0), (3, .slice A17 ((List.replicate ((x0.length : Int)).toNat (0 : Int)).length) c18)] [] hf21 (by kernel_rfl) trivial fun a26 hf27 => ?_
    refine endL rfl ?_
    refine thenN ?_
    refine wp_seq ?_
    refine reg [] [0, 3, 4] [(0, .slice A0 x0.length c0), (3, .slice A17 ((List.replicate ((x0.length : Int)).toNat (0 : Int)).length) c18), (4, .int .i64 1)] [] hf27 (by kernel_rfl) trivial fun a28 hf29 => ?_
    refine thenN ?_
    refine wp_seq ?_
    refine wp_seq ?_
    refine reg [] [0, 3, 4, 5] [(0, .slice A0 x0.length c0), (3, .slice A17 ((List.replicate ((x0.length : Int)).toNat (0 : Int)).length) c18), (4, .int .i64 1), (5, .int .i64 (w64 ((x0.length : Int) - 1)))] [] hf29 (by kernel_rfl) trivial fun a30 hf31 => ?_
    refine thenN ?_
    obtain ⟨r33, hr33, H0⟩ := ob_split H0
    refine wpBlock (Mid := fun (a : Act) (w : World) => Fr 30 a [(0, .slice A0 x0.length c0), (3, .slice A17 r33.2.2.length c18), (4, .int .i64 r33.1), (5, .int .i64 r33.2.1)] ∧ Mem [] M w0 [.ow (Kd.int .i64) 3 A17 c18 r33.2.2, .sl (Kd.int .i64) A0 c0 x0] w) ?_ ?_
    · refine wpLoop (ref1_Strides.l0 x0) r33 (fun (s32 : (Int × Int × (List Int))) (a : Act) (w : World) => Fr 30 a [(0, .slice A0 x0.length c0), (3, .slice A17 s32.2.2.length c18), (4, .int .i64 s32.1), (5, .int .i64 s32.2.1)] ∧ Mem [] M w0 [.ow (Kd.int .i64) 3 A17 c18 s32.2.2, .sl (Kd.int .i64) A0 c0 x0] w) (1, (w64 ((x0.length : Int) - 1)), (List.replicate ((x0.length : Int)).toNat (0 : Int))) hr33 ⟨hf31.sel (l := [0, 3, 4, 5]) (by kernel_rfl), hm25.sel [0, 1] _ rfl (by kernel_rfl)⟩ ?_
      rintro g34 s32 a35 w36 H1 ⟨hf37, hm38⟩
      unfold ref1_Strides.l0 at H1
      refine wp_seq ?_
      refine wp_seq ?_
      rcases ifS_split H1 with ⟨c39, H1⟩ | ⟨c39, H1⟩
      · refine reg [.bool true] [0, 3, 4, 5, 16] [(0, .slice A0 x0.length c0), (3, .slice A17 s32.2.2.length c18), (4, .int .i64 s32.1), (5, .int .i64 s32.2.1), (16, .bool true)] [.is (decide (0 ≤ s32.2.1) = true)] hf37 (by kernel_rfl) ⟨(decide_eq_true c39), trivial⟩ fun a40 hf41 => ?_
        refine thenN ?_
        refine condT hf41 (by kernel_rfl) ?_
        refine wp_skip ?_
        refine thenN ?_
        refine wp_seq ?_
        refine wp_block ?_
        refine wp_seq ?_
        obtain ⟨g42, H1⟩ := ifS_guard H1
        have q43 := (hm38.owAt 0 rfl).int s32.2.1 g42.1 g42.2
        refine inReg ?_
        refine go 4 [] [0, 3, 4, 5, 21, 22] [(0, .slice A0 x0.length c0), (3, .slice A17 s32.2.2.length c18), (4, .int .i64 s32.1), (5, .int .i64 s32.2.1), (21, .int .i64 s32.1), (22, .pointer (some ((ad A17).add ((s32.2.1).toNat * 1))))] [.is (Option.isSome A17 = true), .is (0 ≤ s32.2.1 ∧ s32.2.1 < (s32.2.2.length : Int))] hf41 (by kernel_rfl) ⟨q43.1, g42, trivial⟩ fun a44 hf45 => ?_
        refine listOf hf45 rfl (by kernel_rfl) (aStoreO (kd := (Kd.int .i64)) (base := 0) (E := 3) (A := A17) (c := c18) (xs := s32.2.2) (i := s32.2.1) (x := s32.1) (us := [.int .i64 s32.1]) (sz := 1) hf45 (by kernel_rfl) rfl (by kernel_rfl) (hm38.at 0 rfl) rfl g42.1 g42.2 ?_)
        intro w46 hx47 hg48
        have hm49 : Mem [] M w0 [.ow (Kd.int .i64) 3 A17 c18 (put s32.2.2 s32.2.1 s32.1), .sl (Kd.int .i64) A0 c0 x0] w46 := hm38.setOwn 0 _ rfl rfl hx47 hg48 (.inl rfl)
        refine endL rfl ?_
        refine thenN ?_
        obtain ⟨g50, H1⟩ := ifS_guard H1
        have q51 := (hm49.slAt 1 rfl).int s32.2.1 g50.1 g50.2
        refine reg [.int .i64 (rd x0 s32.2.1)] [0, 3, 4, 5] [(0, .slice A0 x0.length c0), (3, .slice A17 s32.2.2.length c18), (4, .int .i64 (w64 (s32.1 * (rd x0 s32.2.1)))), (5, .int .i64 s32.2.1)] [.is (Option.isSome A0 = true), .is (0 ≤ s32.2.1 ∧ s32.2.1 < (x0.length : Int)), .cell ((ad A0).add ((s32.2.1).toNat * 1)) (.int .i64 (rd x0 s32.2.1))] hf45 (by kernel_rfl) ⟨q51.1, g50, q51.2, trivial⟩ fun a52 hf53 => ?_
        refine blkN ?_
        refine thenN ?_
        refine reg [] [0, 3, 4, 5] [(0, .slice A0 x0.length c0), (3, .slice A17 s32.2.2.length c18), (4, .int .i64 (w64 (s32.1 * (rd x0 s32.2.1)))), (5, .int .i64 (w64 (s32.2.1 - 1)))] [] hf53 (by kernel_rfl) trivial fun a54 hf55 => ?_
        have hf56 : Fr 30 a54 [(0, .slice A0 x0.length c0), (3, .slice A17 s32.2.2.length c18), (4, .int .i64 (w64 (s32.1 * (rd x0 s32.2.1)))), (5, .int .i64 (w64 (s32.2.1 - 1)))] := hf55.sel (l := [0, 3, 4, 5]) (by kernel_rfl)
        have hm57 : Mem [] M w0 [.ow (Kd.int .i64) 3 A17 c18 (put s32.2.2 s32.2.1 s32.1), .sl (Kd.int .i64) A0 c0 x0] w46 := hm49.sel [0, 1] _ rfl (by kernel_rfl)
        exact ⟨((w64 (s32.1 * (rd x0 s32.2.1))), (w64 (s32.2.1 - 1)), (put s32.2.2 s32.2.1 s32.1)), H1, (by simpa only [put_length] using hf56), (by simpa only [put_length] using hm57)⟩
      · refine reg [.bool false] [0, 3, 4, 5, 16] [(0, .slice A0 x0.length c0), (3, .slice A17 s32.2.2.length c18), (4, .int .i64 s32.1), (5, .int .i64 s32.2.1), (16, .bool false)] [.is (decide (0 ≤ s32.2.1) = false)] hf37 (by kernel_rfl) ⟨(decide_eq_false c39), trivial⟩ fun a58 hf59 => ?_
        refine thenN ?_
        refine condF hf59 (by kernel_rfl) ?_
        refine wp_exit ?_
        refine thenE ?_
        refine thenE ?_
        obtain rfl := Option.some.inj H1
        exact .inl ⟨rfl, hf59.sel (l := [0, 3, 4, 5]) (by kernel_rfl), hm38.sel [0, 1] _ rfl (by kernel_rfl)⟩
    rintro a60 w61 ⟨hf62, hm63⟩
    refine thenN ?_
    refine wp_seq ?_
    refine reg [] [2] [(2, .slice A17 r33.2.2.length c18)] [] hf62 (by kernel_rfl) trivial fun a64 hf65 => ?_
    have hm66 : Mem [] M w0 [.ow (Kd.int .i64) 3 A17 c18 r33.2.2] w61 := hm63.sel [0] _ rfl (by kernel_rfl)
    refine thenN ?_
    refine wp_ret ?_
    have hm67 : Mem [] M w0 [.ow (Kd.int .i64) 3 A17 c18 r33.2.2] w61 := hm66.sel [0] _ rfl (by kernel_rfl)
    obtain rfl := Option.some.inj H0
    refine ret [] [.slice A17 r33.2.2.length c18] [] hf65 (by kernel_rfl) trivial ?_
    exact ⟨_, rfl, A17, c18, rfl, hm67⟩
  · refine inReg ?_
    refine go 1 [] [0, 6] [(0, .slice A0 x0.length c0), (6, .slice A0 x0.length c0)] [] hf2 (by kernel_rfl) trivial fun a69 hf70 => ?_
    refine listOf hf70 rfl (by kernel_rfl) (aCall (fid := 20) (args := [.slice A0 x0.length c0]) (d := 7) hf70 (by kernel_rfl) (by kernel_rfl) callable20 (ref1_May.calls _ _ x0 A0 x0.length c0 rfl (hm0.give [0] [.sl (Kd.int .i64) A0 c0 x0] rfl rfl) r3 hr3) ?_)
    rintro _ w71 a72 ⟨rfl, hk74⟩ hf73
    have hm75 : Mem [] M w0 [.sl (Kd.int .i64) A0 c0 x0] w71 := hm0.still hk74.cum.none
    rw [c4] at hf73
    refine go 1 [] [0, 8] [(0, .slice A0 x0.length c0), (8, .bool true)] [] hf73 (by kernel_rfl) trivial fun a76 hf77 => ?_
    refine endL rfl ?_
    refine thenN ?_
    refine condT hf77 (by kernel_rfl) ?_
    refine wp_seq ?_
    refine reg [] [2] [(2, .slice none 0 0)] [] hf77 (by kernel_rfl) trivial fun a78 hf79 => ?_
    have hm80 : Mem [] M w0 [] w71 := hm75.sel [] _ rfl (by kernel_rfl)
    refine thenN ?_
    refine wp_ret ?_
    refine thenR ?_
    have hm81 : Mem [] M w0 [.ow (Kd.int .i64) 3 none 0 ([] : (List Int))] w71 := hm80.nilOw (Kd.int .i64) 3
    have hm82 : Mem [] M w0 [.ow (Kd.int .i64) 3 none 0 ([] : (List Int))] w71 := hm81.sel [0] _ rfl (by kernel_rfl)
    obtain rfl := Option.some.inj H0
    refine ret [] [.slice none 0 0] [] hf79 (by kernel_rfl) trivial ?_
    exact ⟨_, rfl, none, 0, rfl, hm82⟩

/-! ### backstitch/backstitchref1.Index -/
noncomputable def ref1_Index.l0 (x0 : (List Int)) (x1 : (List Int)) (s19 : (Int × Int)) : Step (Int × Int) (Out2 (Int × Int) Int) :=
  if s19.2 < (x0.length : Int) then (if 0 ≤ s19.2 ∧ s19.2 < (x1.length : Int) then (if (rd x1 s19.2) < 0 then (.done (.ret (-1)))
  else (if 0 ≤ s19.2 ∧ s19.2 < (x0.length : Int) then (if (rd x0 s19.2) ≤ (rd x1 s19.2) then (.done (.ret (-1)))
  else (.next ((w64 ((w64 (s19.1 * (rd x0 s19.2))) + (rd x1 s19.2))), (w64 (s19.2 + 1)))))
  else .bad))
  else .bad)
  else (.done (.go (s19.1, s19.2)))
noncomputable def ref1_Index.f (x0 : (List Int)) (x1 : (List Int)) : Option Int :=
  (ref1_May.f x0).bind fun r3 =>
  if r3 = true then (if (x1.length : Int) = (x0.length : Int) then ((loop (ref1_Index.l0 x0 x1) (0, 0)).bind fun r20 =>
  r20.on (fun yr20 =>
  some yr20.1) (fun y => some y))
  else (some (-1)))
  else (some (-1))
set_option maxRecDepth 100000 in
set_option maxHeartbeats 4000000 in
theorem ref1_Index.calls (M : List (Option Nat)) (w0 : World) (x0 : (List Int)) (A0 : Option Addr) (n0 c0 : Nat) (e0 : n0 = x0.length) (x1 : (List Int)) (A1 : Option Addr) (n1 c1 : Nat) (e1 : n1 = x1.length) (hm0 : Mem [] M w0 [.sl (Kd.int .i64) A0 c0 x0, .sl (Kd.int .i64) A1 c1 x1] w0) (r : Int) (H0 : ref1_Index.f x0 x1 = some r) :
    Calls Try.prog 23 [.slice A0 n0 c0, .slice A1 n1 c1].toArray w0 (fun x w' => ∃ v, x = .returned v ∧ v = .int .i64 r ∧ Mem [] M w0 [] w') := by
  subst e0
  subst e1
  unfold ref1_Index.f at H0
  refine enter (n := 51) Try.func23 rfl rfl (by kernel_rfl) fun a0 (hf0 : Fr 51 a0 [(0, .slice A0 x0.length c0), (1, .slice A1 x1.length c1)]) => ?_
  refine wp_seq ?_
  refine reg [] [0, 1] [(0, .slice A0 x0.length c0), (1, .slice A1 x1.length c1)] [] hf0 (by kernel_rfl) trivial fun a1 hf2 => ?_
  refine thenN ?_
  refine wp_seq ?_
  refine wp_seq ?_
  obtain ⟨r3, hr3, H0⟩ := ob_split H0
  rcases ifb_split H0 with ⟨c4, H0⟩ | ⟨c4, H0⟩
  · rcases if_split H0 with ⟨c5, H0⟩ | ⟨c5, H0⟩
    · refine inReg ?_
      refine go 1 [] [0, 1, 7] [(0, .slice A0 x0.length c0), (1, .slice A1 x1.length c1), (7, .slice A0 x0.length c0)] [] hf2 (by kernel_rfl) trivial fun a6 hf7 => ?_
      refine listOf hf7 rfl (by kernel_rfl) (aCall (fid := 20) (args := [.slice A0 x0.length c0]) (d := 8) hf7 (by kernel_rfl) (by kernel_rfl) callable20 (ref1_May.calls _ _ x0 A0 x0.length c0 rfl (hm0.give [0] [.sl (Kd.int .i64) A0 c0 x0] rfl rfl) r3 hr3) ?_)
      rintro _ w8 a9 ⟨rfl, hk11⟩ hf10
      have hm12 : Mem [] M w0 [.sl (Kd.int .i64) A0 c0 x0, .sl (Kd.int .i64) A1 c1 x1] w8 := hm0.still hk11.cum.none
      rw [c4] at hf10
      refine go 8 [.bool false] [0, 1, 16] [(0, .slice A0 x0.length c0), (1, .slice A1 x1.length c1), (16, .bool false)] [.is ((((x1.length : Int) : Int) != (x0.length : Int)) = false)] hf10 (by kernel_rfl) ⟨(neF c5), trivial⟩ fun a13 hf14 => ?_
      refine endL rfl ?_
      refine thenN ?_
      refine condF hf14 (by kernel_rfl) ?_
      refine wp_skip ?_
      refine thenN ?_
      refine wp_seq ?_
      refine reg [] [0, 1, 5] [(0, .slice A0 x0.length c0), (1, .slice A1 x1.length c1), (5, .int .i64 0)] [] hf14 (by kernel_rfl) trivial fun a15 hf16 => ?_
      refine thenN ?_
      refine wp_seq ?_
      refine wp_seq ?_
      refine reg [] [0, 1, 5, 6] [(0, .slice A0 x0.length c0), (1, .slice A1 x1.length c1), (5, .int .i64 0), (6, .int .i64 0)] [] hf16 (by kernel_rfl) trivial fun a17 hf18 => ?_
      refine thenN ?_
      obtain ⟨r20, hr20, H0⟩ := ob_split H0
      refine wpBlock (Mid := fun (a : Act) (w : World) => ∃ yr20 : (Int × Int), r20 = .go yr20 ∧ Fr 51 a [(0, .slice A0 x0.length c0), (1, .slice A1 x1.length c1), (5, .int .i64 yr20.1), (6, .int .i64 yr20.2)] ∧ Mem [] M w0 [.sl (Kd.int .i64) A0 c0 x0, .sl (Kd.int .i64) A1 c1 x1] w) ?_ ?_
      · refine wpLoop (ref1_Index.l0 x0 x1) r20 (fun (s19 : (Int × Int)) (a : Act) (w : World) => Fr 51 a [(0, .slice A0 x0.length c0), (1, .slice A1 x1.length c1), (5, .int .i64 s19.1), (6, .int .i64 s19.2)] ∧ Mem [] M w0 [.sl (Kd.int .i64) A0 c0 x0, .sl (Kd.int .i64) A1 c1 x1] w) (0, 0) hr20 ⟨hf18.sel (l := [0, 1, 5, 6]) (by kernel_rfl), hm12.sel [0, 1] _ rfl (by kernel_rfl)⟩ ?_
        rintro g21 s19 a22 w23 H1 ⟨hf24, hm25⟩
        unfold ref1_Index.l0 at H1
        refine wp_seq ?_
        refine wp_seq ?_
        rcases ifS_split H1 with ⟨c26, H1⟩ | ⟨c26, H1⟩
        · refine reg [.bool true] [0, 1, 5, 6, 20] [(0, .slice A0 x0.length c0), (1, .slice A1 x1.length c1), (5, .int .i64 s19.1), (6, .int .i64 s19.2), (20, .bool true)] [.is (decide (s19.2 < (x0.length : Int)) = true)] hf24 (by kernel_rfl) ⟨(decide_eq_true c26), trivial⟩ fun a27 hf28 => ?_
          refine thenN ?_
          refine condT hf28 (by kernel_rfl) ?_
          refine wp_skip ?_
          refine thenN ?_
          refine wp_seq ?_
          refine wp_block ?_
          refine wp_seq ?_
          refine wp_seq ?_
          obtain ⟨g29, H1⟩ := ifS_guard H1
          rcases ifS_split H1 with ⟨c30, H1⟩ | ⟨c30, H1⟩
          · have q31 := (hm25.slAt 1 rfl).int s19.2 g29.1 g29.2
            refine regQ [.int .i64 (rd x1 s19.2), .bool true] [0, 1, 5, 6, 38] [(0, .slice A0 x0.length c0), (1, .slice A1 x1.length c1), (5, .int .i64 s19.1), (6, .int .i64 s19.2), (38, .bool true)] [.is (Option.isSome A1 = true), .is (0 ≤ s19.2 ∧ s19.2 < (x1.length : Int)), .cell ((ad A1).add ((s19.2).toNat * 1)) (.int .i64 (rd x1 s19.2)), .is (decide ((rd x1 s19.2) < 0) = true)] (by kernel_rfl) (by kernel_rfl) hf28 (by kernel_rfl) ⟨q31.1, g29, q31.2, (decide_eq_true c30), trivial⟩ fun a32 w34 hf33 hg35 => ?_
            have hm36 : Mem [] M w0 [.sl (Kd.int .i64) A0 c0 x0, .sl (Kd.int .i64) A1 c1 x1] w34 := hm25.still hg35
            refine thenN ?_
            refine condT hf33 (by kernel_rfl) ?_
            refine wp_seq ?_
            refine reg [] [4] [(4, .int .i64 (-1))] [] hf33 (by kernel_rfl) trivial fun a37 hf38 => ?_
            have hm39 : Mem [] M w0 [] w34 := hm36.sel [] _ rfl (by kernel_rfl)
            refine thenN ?_
            refine wp_ret ?_
            refine thenR ?_
            refine blkR ?_
            refine thenR ?_
            refine thenR ?_
            refine .inr ⟨rfl, ?_⟩
            refine thenR ?_
            have hm40 : Mem [] M w0 [] w34 := hm39.sel [] _ rfl (by kernel_rfl)
            obtain rfl := Option.some.inj H1
            obtain rfl := Option.some.inj H0
            refine ret [] [.int .i64 (-1)] [] hf38 (by kernel_rfl) trivial ?_
            exact ⟨_, rfl, rfl, hm40⟩
          · obtain ⟨g42, H1⟩ := ifS_guard H1
            rcases ifS_split H1 with ⟨c43, H1⟩ | ⟨c43, H1⟩
            · have q44 := (hm25.slAt 1 rfl).int s19.2 g29.1 g29.2
              have q45 := (hm25.slAt 1 rfl).int s19.2 g29.1 g29.2
              have q46 := (hm25.slAt 0 rfl).int s19.2 g42.1 g42.2
              refine regQ [.int .i64 (rd x1 s19.2), .bool false, .int .i64 (rd x1 s19.2), .int .i64 (rd x0 s19.2), .bool true] [0, 1, 5, 6, 38] [(0, .slice A0 x0.length c0), (1, .slice A1 x1.length c1), (5, .int .i64 s19.1), (6, .int .i64 s19.2), (38, .bool true)] [.is (Option.isSome A1 = true), .is (0 ≤ s19.2 ∧ s19.2 < (x1.length : Int)), .cell ((ad A1).add ((s19.2).toNat * 1)) (.int .i64 (rd x1 s19.2)), .is (decide ((rd x1 s19.2) < 0) = false), .is (Option.isSome A1 = true), .is (0 ≤ s19.2 ∧ s19.2 < (x1.length : Int)), .cell ((ad A1).add ((s19.2).toNat * 1)) (.int .i64 (rd x1 s19.2)), .is (Option.isSome A0 = true), .is (0 ≤ s19.2 ∧ s19.2 < (x0.length : Int)), .cell ((ad A0).add ((s19.2).toNat * 1)) (.int .i64 (rd x0 s19.2)), .is (decide ((rd x0 s19.2) ≤ (rd x1 s19.2)) = true)] (by kernel_rfl) (by kernel_rfl) hf28 (by kernel_rfl) ⟨q44.1, g29, q44.2, (decide_eq_false c30), q45.1, g29, q45.2, q46.1, g42, q46.2, (decide_eq_true c43), trivial⟩ fun a47 w49 hf48 hg50 => ?_
              have hm51 : Mem [] M w0 [.sl (Kd.int .i64) A0 c0 x0, .sl (Kd.int .i64) A1 c1 x1] w49 := hm25.still hg50
              refine thenN ?_
              refine condT hf48 (by kernel_rfl) ?_
              refine wp_seq ?_
              refine reg [] [4] [(4, .int .i64 (-1))] [] hf48 (by kernel_rfl) trivial fun a52 hf53 => ?_
              have hm54 : Mem [] M w0 [] w49 := hm51.sel [] _ rfl (by kernel_rfl)
              refine thenN ?_
              refine wp_ret ?_
              refine thenR ?_
              refine blkR ?_
              refine thenR ?_
              refine thenR ?_
              refine .inr ⟨rfl, ?_⟩
              refine thenR ?_
              have hm55 : Mem [] M w0 [] w49 := hm54.sel [] _ rfl (by kernel_rfl)
              obtain rfl := Option.some.inj H1
              obtain rfl := Option.some.inj H0
              refine ret [] [.int .i64 (-1)] [] hf53 (by kernel_rfl) trivial ?_
              exact ⟨_, rfl, rfl, hm55⟩
            · have q57 := (hm25.slAt 1 rfl).int s19.2 g29.1 g29.2
              have q58 := (hm25.slAt 1 rfl).int s19.2 g29.1 g29.2
              have q59 := (hm25.slAt 0 rfl).int s19.2 g42.1 g42.2
              refine regQ [.int .i64 (rd x1 s19.2), .bool false, .int .i64 (rd x1 s19.2), .int .i64 (rd x0 s19.2), .bool false] [0, 1, 5, 6, 38] [(0, .slice A0 x0.length c0), (1, .slice A1 x1.length c1), (5, .int .i64 s19.1), (6, .int .i64 s19.2), (38, .bool false)] [.is (Option.isSome A1 = true), .is (0 ≤ s19.2 ∧ s19.2 < (x1.length : Int)), .cell ((ad A1).add ((s19.2).toNat * 1)) (.int .i64 (rd x1 s19.2)), .is (decide ((rd x1 s19.2) < 0) = false), .is (Option.isSome A1 = true), .is (0 ≤ s19.2 ∧ s19.2 < (x1.length : Int)), .cell ((ad A1).add ((s19.2).toNat * 1)) (.int .i64 (rd x1 s19.2)), .is (Option.isSome A0 = true), .is (0 ≤ s19.2 ∧ s19.2 < (x0.length : Int)), .cell ((ad A0).add ((s19.2).toNat * 1)) (.int .i64 (rd x0 s19.2)), .is (decide ((rd x0 s19.2) ≤ (rd x1 s19.2)) = false)] (by kernel_rfl) (by kernel_rfl) hf28 (by kernel_rfl) ⟨q57.1, g29, q57.2, (decide_eq_false c30), q58.1, g29, q58.2, q59.1, g42, q59.2, (decide_eq_false c43), trivial⟩ fun a60 w62 hf61 hg63 => ?_
              have hm64 : Mem [] M w0 [.sl (Kd.int .i64) A0 c0 x0, .sl (Kd.int .i64) A1 c1 x1] w62 := hm25.still hg63
              refine thenN ?_
              refine condF hf61 (by kernel_rfl) ?_
              refine wp_skip ?_
              refine thenN ?_
              have q65 := (hm64.slAt 0 rfl).int s19.2 g42.1 g42.2
              have q66 := (hm64.slAt 1 rfl).int s19.2 g29.1 g29.2
              refine regQ [.int .i64 (rd x0 s19.2), .int .i64 (rd x1 s19.2)] [0, 1, 5, 6] [(0, .slice A0 x0.length c0), (1, .slice A1 x1.length c1), (5, .int .i64 (w64 ((w64 (s19.1 * (rd x0 s19.2))) + (rd x1 s19.2)))), (6, .int .i64 s19.2)] [.is (Option.isSome A0 = true), .is (0 ≤ s19.2 ∧ s19.2 < (x0.length : Int)), .cell ((ad A0).add ((s19.2).toNat * 1)) (.int .i64 (rd x0 s19.2)), .is (Option.isSome A1 = true), .is (0 ≤ s19.2 ∧ s19.2 < (x1.length : Int)), .cell ((ad A1).add ((s19.2).toNat * 1)) (.int .i64 (rd x1 s19.2))] (by kernel_rfl) (by kernel_rfl) hf61 (by kernel_rfl) ⟨q65.1, g42, q65.2, q66.1, g29, q66.2, trivial⟩ fun a67 w69 hf68 hg70 => ?_
              have hm71 : Mem [] M w0 [.sl (Kd.int .i64) A0 c0 x0, .sl (Kd.int .i64) A1 c1 x1] w69 := hm64.still hg70
              refine blkN ?_
              refine thenN ?_
              refine reg [] [0, 1, 5, 6] [(0, .slice A0 x0.length c0), (1, .slice A1 x1.length c1), (5, .int .i64 (w64 ((w64 (s19.1 * (rd x0 s19.2))) + (rd x1 s19.2)))), (6, .int .i64 (w64 (s19.2 + 1)))] [] hf68 (by kernel_rfl) trivial fun a72 hf73 => ?_
              exact ⟨((w64 ((w64 (s19.1 * (rd x0 s19.2))) + (rd x1 s19.2))), (w64 (s19.2 + 1))), H1, hf73.sel (l := [0, 1, 5, 6]) (by kernel_rfl), hm71.sel [0, 1] _ rfl (by kernel_rfl)⟩
        · refine reg [.bool false] [0, 1, 5, 6, 20] [(0, .slice A0 x0.length c0), (1, .slice A1 x1.length c1), (5, .int .i64 s19.1), (6, .int .i64 s19.2), (20, .bool false)] [.is (decide (s19.2 < (x0.length : Int)) = false)] hf24 (by kernel_rfl) ⟨(decide_eq_false c26), trivial⟩ fun a74 hf75 => ?_
          refine thenN ?_
          refine condF hf75 (by kernel_rfl) ?_
          refine wp_exit ?_
          refine thenE ?_
          refine thenE ?_
          obtain rfl := Option.some.inj H1
          exact .inl ⟨rfl, (s19.1, s19.2), rfl, hf75.sel (l := [0, 1, 5, 6]) (by kernel_rfl), hm25.sel [0, 1] _ rfl (by kernel_rfl)⟩
      rintro a76 w77 ⟨yr20, rfl, hf78, hm79⟩
      refine thenN ?_
      refine wp_seq ?_
      refine reg [] [4] [(4, .int .i64 yr20.1)] [] hf78 (by kernel_rfl) trivial fun a80 hf81 => ?_
      have hm82 : Mem [] M w0 [] w77 := hm79.sel [] _ rfl (by kernel_rfl)
      refine thenN ?_
      refine wp_ret ?_
      have hm83 : Mem [] M w0 [] w77 := hm82.sel [] _ rfl (by kernel_rfl)
      obtain rfl := Option.some.inj H0
      refine ret [] [.int .i64 yr20.1] [] hf81 (by kernel_rfl) trivial ?_
      exact ⟨_, rfl, rfl, hm83⟩
    · refine inReg ?_
      refine go 1 [] [0, 1, 7] [(0, .slice A0 x0.length c0), (1, .slice A1 x1.length c1), (7, .slice A0 x0.length c0)] [] hf2 (by kernel_rfl) trivial fun a85 hf86 => ?_
      refine listOf hf86 rfl (by kernel_rfl) (aCall (fid := 20) (args := [.slice A0 x0.length c0]) (d := 8) hf86 (by kernel_rfl) (by kernel_rfl) callable20 (ref1_May.calls _ _ x0 A0 x0.length c0 rfl (hm0.give [0] [.sl (Kd.int .i64) A0 c0 x0] rfl rfl) r3 hr3) ?_)
      rintro _ w87 a88 ⟨rfl, hk90⟩ hf89
      have hm91 : Mem [] M w0 [.sl (Kd.int .i64) A0 c0 x0, .sl (Kd.int .i64) A1 c1 x1] w87 := hm0.still hk90.cum.none
      rw [c4] at hf89
      refine go 8 [.bool true] [0, 1, 16] [(0, .slice A0 x0.length c0), (1, .slice A1 x1.length c1), (16, .bool true)] [.is ((((x1.length : Int) : Int) != (x0.length : Int)) = true)] hf89 (by kernel_rfl) ⟨(neT c5), trivial⟩ fun a92 hf93 => ?_
      refine endL rfl ?_
      refine thenN ?_
      refine condT hf93 (by kernel_rfl) ?_
      refine wp_seq ?_
      refine reg [] [4] [(4, .int .i64 (-1))] [] hf93 (by kernel_rfl) trivial fun a94 hf95 => ?_
      have hm96 : Mem [] M w0 [] w87 := hm91.sel [] _ rfl (by kernel_rfl)
      refine thenN ?_
      refine wp_ret ?_
      refine thenR ?_
      have hm97 : Mem [] M w0 [] w87 := hm96.sel [] _ rfl (by kernel_rfl)
      obtain rfl := Option.some.inj H0
      refine ret [] [.int .i64 (-1)] [] hf95 (by kernel_rfl) trivial ?_
      exact ⟨_, rfl, rfl, hm97⟩
  · refine inReg ?_
    refine go 1 [] [0, 1, 7] [(0, .slice A0 x0.length c0), (1, .slice A1 x1.length c1), (7, .slice A0 x0.length c0)] [] hf2 (by kernel_rfl) trivial fun a99 hf100 => ?_
    refine listOf hf100 rfl (by kernel_rfl) (aCall (fid := 20) (args := [.slice A0 x0.length c0]) (d := 8) hf100 (by kernel_rfl) (by kernel_rfl) callable20 (ref1_May.calls _ _ x0 A0 x0.length c0 rfl (hm0.give [0] [.sl (Kd.int .i64) A0 c0 x0] rfl rfl) r3 hr3) ?_)
    rintro _ w101 a102 ⟨rfl, hk104⟩ hf103
    have hm105 : Mem [] M w0 [.sl (Kd.int .i64) A0 c0 x0, .sl (Kd.int .i64) A1 c1 x1] w101 := hm0.still hk104.cum.none
    rw [c4] at hf103
    refine go 8 [] [0, 1, 16] [(0, .slice A0 x0.length c0), (1, .slice A1 x1.length c1), (16, .bool true)] [] hf103 (by kernel_rfl) trivial fun a106 hf107 => ?_
    refine endL rfl ?_
    refine thenN ?_
    refine condT hf107 (by kernel_rfl) ?_
    refine wp_seq ?_
    refine reg [] [4] [(4, .int .i64 (-1))] [] hf107 (by kernel_rfl) trivial fun a108 hf109 => ?_
    have hm110 : Mem [] M w0 [] w101 := hm105.sel [] _ rfl (by kernel_rfl)
    refine thenN ?_
    refine wp_ret ?_
    refine thenR ?_
    have hm111 : Mem [] M w0 [] w101 := hm110.sel [] _ rfl (by kernel_rfl)
    obtain rfl := Option.some.inj H0
    refine ret [] [.int .i64 (-1)] [] hf109 (by kernel_rfl) trivial ?_
    exact ⟨_, rfl, rfl, hm111⟩

/-! ### backstitch/shape.Place -/
noncomputable def shape_Place.l0 (x0 : (List Int)) (s50 : (Int × Int × (List Int))) : Step (Int × Int × (List Int)) (Int × Int × (List Int)) :=
  if 0 ≤ s50.2.1 then (if 0 ≤ s50.2.1 ∧ s50.2.1 < (x0.length : Int) then (if (rd x0 s50.2.1) ≠ 0 then (if 0 ≤ s50.2.1 ∧ s50.2.1 < (s50.2.2.length : Int) then (.next ((w64 (Int.tdiv s50.1 (rd x0 s50.2.1))), (w64 (s50.2.1 - 1)), (put s50.2.2 s50.2.1 (Int.tmod s50.1 (rd x0 s50.2.1)))))
  else .bad)
  else .bad)
  else .bad)
  else (.done (s50.1, s50.2.1, s50.2.2))
noncomputable def shape_Place.f (x0 : (List Int)) (x1 : Int) : Option (List Int) :=
  (shape_Size.f x0).bind fun r3 =>
  if r3.2 = 0 then (if x1 < 0 then (some ([] : (List Int)))
  else (if r3.1 ≤ x1 then (some ([] : (List Int)))
  else (if 0 ≤ (x0.length : Int) ∧ (x0.length : Int) ≤ 1099511627776 then ((loop (shape_Place.l0 x0) (x1, (w64 ((x0.length : Int) - 1)), (List.replicate ((x0.length : Int)).toNat (0 : Int)))).bind fun r51 =>
  some r51.2.2)
  else none)))
  else (some ([] : (List Int)))
set_option maxRecDepth 100000 in
set_option maxHeartbeats 4000000 in
theorem shape_Place.calls (M : List (Option Nat)) (w0 : World) (x0 : (List Int)) (A0 : Option Addr) (n0 c0 : Nat) (e0 : n0 = x0.length) (x1 : Int) (hm0 : Mem [] M w0 [.sl (Kd.int .i64) A0 c0 x0] w0) (r : (List Int)) (H0 : shape_Place.f x0 x1 = some r) :
    Calls Try.prog 24 [.slice A0 n0 c0, .int .i64 x1].toArray w0 (fun x w' => ∃ v, x = .returned v ∧ ∃ Ar0 cr0, v = .slice Ar0 r.length cr0 ∧ Mem [] M w0 [.ow (Kd.int .i64) 3 Ar0 cr0 r] w') := by
  subst e0
  unfold shape_Place.f at H0
  refine enter (n := 51) Try.func24 rfl rfl (by kernel_rfl) fun a0 (hf0 : Fr 51 a0 [(0, .slice A0 x0.length c0), (1, .int .i64 x1)]) => ?_
  refine wp_seq ?_
  refine reg [] [0, 1] [(0, .slice A0 x0.length c0), (1, .int .i64 x1)] [] hf0 (by kernel_rfl) trivial fun a1 hf2 => ?_
  refine thenN ?_
  refine wp_seq ?_
  obtain ⟨r3, hr3, H0⟩ := ob_split H0
  refine inReg ?_
  refine go 1 [] [0, 1, 10] [(0, .slice A0 x0.length c0), (1, .int .i64 x1), (10, .slice A0 x0.length c0)] [] hf2 (by kernel_rfl) trivial fun a4 hf5 => ?_
  refine listOf hf5 rfl (by kernel_rfl) (aCall (fid := 15) (args := [.slice A0 x0.length c0]) (d := 11) hf5 (by kernel_rfl) (by kernel_rfl) callable15 (shape_Size.calls _ _ x0 A0 x0.length c0 rfl (hm0.give [0] [.sl (Kd.int .i64) A0 c0 x0] rfl rfl) r3 hr3) ?_)
  rintro _ w6 a7 ⟨rfl, hk9⟩ hf8
  have hm10 : Mem [] M w0 [.sl (Kd.int .i64) A0 c0 x0] w6 := hm0.still hk9.cum.none
  refine go 5 [] [0, 1, 5, 6] [(0, .slice A0 x0.length c0), (1, .int .i64 x1), (5, .int .i64 r3.1), (6, .int .i64 r3.2)] [] hf8 (by kernel_rfl) trivial fun a11 hf12 => ?_
  refine endL rfl ?_
  refine thenN ?_
  refine wp_seq ?_
  refine wp_seq ?_
  rcases if_split H0 with ⟨c13, H0⟩ | ⟨c13, H0⟩
  · rcases if_split H0 with ⟨c14, H0⟩ | ⟨c14, H0⟩
    · refine reg [.bool false, .bool true] [0, 1, 24] [(0, .slice A0 x0.length c0), (1, .int .i64 x1), (24, .bool true)] [.is (((r3.2 : Int) != 0) = false), .is (decide (x1 < 0) = true)] hf12 (by kernel_rfl) ⟨(neF c13), (decide_eq_true c14), trivial⟩ fun a15 hf16 => ?_
      refine thenN ?_
      refine condT hf16 (by kernel_rfl) ?_
      refine wp_seq ?_
      refine reg [] [4] [(4, .slice none 0 0)] [] hf16 (by kernel_rfl) trivial fun a17 hf18 => ?_
      have hm19 : Mem [] M w0 [] w6 := hm10.sel [] _ rfl (by kernel_rfl)
      refine thenN ?_
      refine wp_ret ?_
      refine thenR ?_
      have hm20 : Mem [] M w0 [.ow (Kd.int .i64) 3 none 0 ([] : (List Int))] w6 := hm19.nilOw (Kd.int .i64) 3
      have hm21 : Mem [] M w0 [.ow (Kd.int .i64) 3 none 0 ([] : (List Int))] w6 := hm20.sel [0] _ rfl (by kernel_rfl)
      obtain rfl := Option.some.inj H0
      refine ret [] [.slice none 0 0] [] hf18 (by kernel_rfl) trivial ?_
      exact ⟨_, rfl, none, 0, rfl, hm21⟩
    · rcases if_split H0 with ⟨c23, H0⟩ | ⟨c23, H0⟩
      · refine reg [.bool false, .bool false, .bool true] [0, 1, 24] [(0, .slice A0 x0.length c0), (1, .int .i64 x1), (24, .bool true)] [.is (((r3.2 : Int) != 0) = false), .is (decide (x1 < 0) = false), .is (decide (r3.1 ≤ x1) = true)] hf12 (by kernel_rfl) ⟨(neF c13), (decide_eq_false c14), (decide_eq_true c23), trivial⟩ fun a24 hf25 => ?_
        refine thenN ?_
        refine condT hf25 (by kernel_rfl) ?_
        refine wp_seq ?_
        refine reg [] [4] [(4, .slice none 0 0)] [] hf25 (by kernel_rfl) trivial fun a26 hf27 => ?_
        have hm28 : Mem [] M w0 [] w6 := hm10.sel [] _ rfl (by kernel_rfl)
        refine thenN ?_
        refine wp_ret ?_
        refine thenR ?_
        have hm29 : Mem [] M w0 [.ow (Kd.int .i64) 3 none 0 ([] : (List Int))] w6 := hm28.nilOw (Kd.int .i64) 3
        have hm30 : Mem [] M w0 [.ow (Kd.int .i64) 3 none 0 ([] : (List Int))] w6 := hm29.sel [0] _ rfl (by kernel_rfl)
        obtain rfl := Option.some.inj H0
        refine ret [] [.slice none 0 0] [] hf27 (by kernel_rfl) trivial ?_
        exact ⟨_, rfl, none, 0, rfl, hm30⟩
      · refine reg [.bool false, .bool false, .bool false] [0, 1, 24] [(0, .slice A0 x0.length c0), (1, .int .i64 x1), (24, .bool false)] [.is (((r3.2 : Int) != 0) = false), .is (decide (x1 < 0) = false), .is (decide (r3.1 ≤ x1) = false)] hf12 (by kernel_rfl) ⟨(neF c13), (decide_eq_false c14), (decide_eq_false c23), trivial⟩ fun a32 hf33 => ?_
        refine thenN ?_
        refine condF hf33 (by kernel_rfl) ?_
        refine wp_skip ?_
        refine thenN ?_
        refine wp_seq ?_
        obtain ⟨g34, H0⟩ := if_guard H0
        refine inReg ?_
        refine go 2 [] [0, 1, 26] [(0, .slice A0 x0.length c0), (1, .int .i64 x1), (26, .int .i64 (x0.length : Int))] [] hf33 (by kernel_rfl) trivial fun a35 hf36 => ?_
        refine listOf hf36 rfl (by kernel_rfl) (aMake (kd := (Kd.int .i64)) (x := 0) (E := 3) (L := (x0.length : Int)) (z := [.int .i64 0]) (sz := 1) (d := 27) hf36 (by kernel_rfl) (by kernel_rfl) rfl (fun _ _ => rfl) g34.1 g34.2 ?_)
        intro A37 c38 w39 a40 ho42 hb44 hg43 hf41
        have hm45 : Mem [] M w0 [.ow (Kd.int .i64) 3 A37 c38 (List.replicate ((x0.length : Int)).toNat (0 : Int)), .sl (Kd.int .i64) A0 c0 x0] w39 := hm10.own (ho42 _) hg43
        refine go 1 [] [0, 1, 7] [(0, .slice A0 x0.length c0), (1, .int .i64 x1), (7, .slice A37 ((List.replicate ((x0.length : Int)).toNat (0 : Int)).length) c38)] [] hf41 (by kernel_rfl) trivial fun a46 hf47 => ?_
        refine endL rfl ?_
        refine thenN ?_
        refine wp_seq ?_
        refine wp_seq ?_
        refine reg [] [0, 1, 7, 8] [(0, .slice A0 x0.length c0), (1, .int .i64 x1), (7, .slice A37 ((List.replicate ((x0.length : Int)).toNat (0 : Int)).length) c38), (8, .int .i64 (w64 ((x0.length : Int) - 1)))] [] hf47 (by kernel_rfl) trivial fun a48 hf49 => ?_
        refine thenN ?_
        obtain ⟨r51, hr51, H0⟩ := ob_split H0
        refine wpBlock (Mid := fun (a : Act) (w : World) => Fr 51 a [(0, .slice A0 x0.length c0), (1, .int .i64 r51.1), (7, .slice A37 r51.2.2.length c38), (8, .int .i64 r51.2.1)] ∧ Mem [] M w0 [.ow (Kd.int .i64) 3 A37 c38 r51.2.2, .sl (Kd.int .i64) A0 c0 x0] w) ?_ ?_
        · refine wpLoop (shape_Place.l0 x0) r51 (fun (s50 : (Int × Int × (List Int))) (a : Act) (w : World) => Fr 51 a [(0, .slice A0 x0.length c0), (1, .int .i64 s50.1), (7, .slice A37 s50.2.2.length c38), (8, .int .i64 s50.2.1)] ∧ Mem [] M w0 [.ow (Kd.int .i64) 3 A37 c38 s50.2.2, .sl (Kd.int .i64) A0 c0 x0] w) (x1, (w64 ((x0.length : Int) - 1)), (List.replicate ((x0.length : Int)).toNat (0 : Int))) hr51 ⟨hf49.sel (l := [0, 1, 7, 8]) (by kernel_rfl), hm45.sel [0, 1] _ rfl (by kernel_rfl)⟩ ?_
          rintro g52 s50 a53 w54 H1 ⟨hf55, hm56⟩
          unfold shape_Place.l0 at H1
          refine wp_seq ?_
          refine wp_seq ?_
          rcases ifS_split H1 with ⟨c57, H1⟩ | ⟨c57, H1⟩
          · refine reg [.bool true] [0, 1, 7, 8, 32] [(0, .slice A0 x0.length c0), (1, .int .i64 s50.1), (7, .slice A37 s50.2.2.length c38), (8, .int .i64 s50.2.1), (32, .bool true)] [.is (decide (0 ≤ s50.2.1) = true)] hf55 (by kernel_rfl) ⟨(decide_eq_true c57), trivial⟩ fun a58 hf59 => ?_
            refine thenN ?_
            refine condT hf59 (by kernel_rfl) ?_
            refine wp_skip ?_
            refine thenN ?_
            refine wp_seq ?_
            refine wp_block ?_
            refine wp_seq ?_
            obtain ⟨g60, H1⟩ := ifS_guard H1
            obtain ⟨g61, H1⟩ := ifS_guard H1
            obtain ⟨g62, H1⟩ := ifS_guard H1
            have q63 := (hm56.slAt 1 rfl).int s50.2.1 g60.1 g60.2
            have q64 := (hm56.owAt 0 rfl).int s50.2.1 g62.1 g62.2
            refine inReg ?_
            refine go 9 [.int .i64 (rd x0 s50.2.1)] [0, 1, 7, 8, 42, 43] [(0, .slice A0 x0.length c0), (1, .int .i64 s50.1), (7, .slice A37 s50.2.2.length c38), (8, .int .i64 s50.2.1), (42, .int .i64 (Int.tmod s50.1 (rd x0 s50.2.1))), (43, .pointer (some ((ad A37).add ((s50.2.1).toNat * 1))))] [.is (Option.isSome A0 = true), .is (0 ≤ s50.2.1 ∧ s50.2.1 < (x0.length : Int)), .cell ((ad A0).add ((s50.2.1).toNat * 1)) (.int .i64 (rd x0 s50.2.1)), .is ((rd x0 s50.2.1) ≠ 0), .is (Option.isSome A37 = true), .is (0 ≤ s50.2.1 ∧ s50.2.1 < (s50.2.2.length : Int))] hf59 (by kernel_rfl) ⟨q63.1, g60, q63.2, g61, q64.1, g62, trivial⟩ fun a65 hf66 => ?_
            refine listOf hf66 rfl (by kernel_rfl) (aStoreO (kd := (Kd.int .i64)) (base := 0) (E := 3) (A := A37) (c := c38) (xs := s50.2.2) (i := s50.2.1) (x := (Int.tmod s50.1 (rd x0 s50.2.1))) (us := [.int .i64 (Int.tmod s50.1 (rd x0 s50.2.1))]) (sz := 1) hf66 (by kernel_rfl) rfl (by kernel_rfl) (hm56.at 0 rfl) rfl g62.1 g62.2 ?_)
            intro w67 hx68 hg69
            have hm70 : Mem [] M w0 [.ow (Kd.int .i64) 3 A37 c38 (put s50.2.2 s50.2.1 (Int.tmod s50.1 (rd x0 s50.2.1))), .sl (Kd.int .i64) A0 c0 x0] w67 := hm56.setOwn 0 _ rfl rfl hx68 hg69 (.inl rfl)
            refine endL rfl ?_
            refine thenN ?_
            have q71 := (hm70.slAt 1 rfl).int s50.2.1 g60.1 g60.2
            refine reg [.int .i64 (rd x0 s50.2.1)] [0, 1, 7, 8] [(0, .slice A0 x0.length c0), (1, .int .i64 (w64 (Int.tdiv s50.1 (rd x0 s50.2.1)))), (7, .slice A37 s50.2.2.length c38), (8, .int .i64 s50.2.1)] [.is (Option.isSome A0 = true), .is (0 ≤ s50.2.1 ∧ s50.2.1 < (x0.length : Int)), .cell ((ad A0).add ((s50.2.1).toNat * 1)) (.int .i64 (rd x0 s50.2.1)), .is ((rd x0 s50.2.1) ≠ 0)] hf66 (by kernel_rfl) ⟨q71.1, g60, q71.2, g61, trivial⟩ fun a72 hf73 => ?_
            refine blkN ?_
            refine thenN ?_
            refine reg [] [0, 1, 7, 8] [(0, .slice A0 x0.length c0), (1, .int .i64 (w64 (Int.tdiv s50.1 (rd x0 s50.2.1)))), (7, .slice A37 s50.2.2.length c38), (8, .int .i64 (w64 (s50.2.1 - 1)))] [] hf73 (by kernel_rfl) trivial fun a74 hf75 => ?_
            have hf76 : Fr 51 a74 [(0, .slice A0 x0.length c0), (1, .int .i64 (w64 (Int.tdiv s50.1 (rd x0 s50.2.1)))), (7, .slice A37 s50.2.2.length c38), (8, .int .i64 (w64 (s50.2.1 - 1)))] := hf75.sel (l := [0, 1, 7, 8]) (by kernel_rfl)
            have hm77 : Mem [] M w0 [.ow (Kd.int .i64) 3 A37 c38 (put s50.2.2 s50.2.1 (Int.tmod s50.1 (rd x0 s50.2.1))), .sl (Kd.int .i64) A0 c0 x0] w67 := hm70.sel [0, 1] _ rfl (by kernel_rfl)
            exact ⟨((w64 (Int.tdiv s50.1 (rd x0 s50.2.1))), (w64 (s50.2.1 - 1)), (put s50.2.2 s50.2.1 (Int.tmod s50.1 (rd x0 s50.2.1)))), H1, (by simpa only [put_length] using hf76), (by simpa only [put_length] using hm77)⟩
          · refine reg [.bool false] [0, 1, 7, 8, 32] [(0, .slice A0 x0.length c0), (1, .int .i64 s50.1), (7, .slice A37 s50.2.2.length c38), (8, .int .i64 s50.2.1), (32, .bool false)] [.is (decide (0 ≤ s50.2.1) = false)] hf55 (by kernel_rfl) ⟨(decide_eq_false c57), trivial⟩ fun a78 hf79 => ?_
            refine thenN ?_
            refine condF hf79 (by kernel_rfl) ?_
            refine wp_exit ?_
            refine thenE ?_
            refine thenE ?_
            obtain rfl := Option.some.inj H1
            exact .inl ⟨rfl, hf79.sel (l := [0, 1, 7, 8]) (by kernel_rfl), hm56.sel [0, 1] _ rfl (by kernel_rfl)⟩
        rintro a80 w81 ⟨hf82, hm83⟩
        refine thenN ?_
        refine wp_seq ?_
        refine reg [] [4] [(4, .slice A37 r51.2.2.length c38)] [] hf82 (by kernel_rfl) trivial fun a84 hf85 => ?_
        have hm86 : Mem [] M w0 [.ow (Kd.int .i64) 3 A37 c38 r51.2.2] w81 := hm83.sel [0] _ rfl (by kernel_rfl)
        refine thenN ?_
        refine wp_ret ?_
        have hm87 : Mem [] M w0 [.ow (Kd.int .i64) 3 A37 c38 r51.2.2] w81 := hm86.sel [0] _ rfl (by kernel_rfl)
        obtain rfl := Option.some.inj H0
        refine ret [] [.slice A37 r51.2.2.length c38] [] hf85 (by kernel_rfl) trivial ?_
        exact ⟨_, rfl, A37, c38, rfl, hm87⟩
  · refine reg [.bool true] [0, 1, 24] [(0, .slice A0 x0.length c0), (1, .int .i64 x1), (24, .bool true)] [.is (((r3.2 : Int) != 0) = true)] hf12 (by kernel_rfl) ⟨(neT c13), trivial⟩ fun a89 hf90 => ?_
    refine thenN ?_
    refine condT hf90 (by kernel_rfl) ?_
    refine wp_seq ?_
    refine reg [] [4] [(4, .slice none 0 0)] [] hf90 (by kernel_rfl) trivial fun a91 hf92 => ?_
    have hm93 : Mem [] M w0 [] w6 := hm10.sel [] _ rfl (by kernel_rfl)
    refine thenN ?_
    refine wp_ret ?_
    refine thenR ?_
    have hm94 : Mem [] M w0 [.ow (Kd.int .i64) 3 none 0 ([] : (List Int))] w6 := hm93.nilOw (Kd.int .i64) 3
    have hm95 : Mem [] M w0 [.ow (Kd.int .i64) 3 none 0 ([] : (List Int))] w6 := hm94.sel [0] _ rfl (by kernel_rfl)
    obtain rfl := Option.some.inj H0
    refine ret [] [.slice none 0 0] [] hf92 (by kernel_rfl) trivial ?_
    exact ⟨_, rfl, none, 0, rfl, hm95⟩

/-! ### backstitch/backstitchref1.Place -/
noncomputable def ref1_Place.l0 (x0 : (List Int)) (s50 : (Int × Int × (List Int))) : Step (Int × Int × (List Int)) (Int × Int × (List Int)) :=
  if 0 ≤ s50.2.1 then (if 0 ≤ s50.2.1 ∧ s50.2.1 < (x0.length : Int) then (if (rd x0 s50.2.1) ≠ 0 then (if 0 ≤ s50.2.1 ∧ s50.2.1 < (s50.2.2.length : Int) then (.next ((w64 (Int.tdiv s50.1 (rd x0 s50.2.1))), (w64 (s50.2.1 - 1)), (put s50.2.2 s50.2.1 (Int.tmod s50.1 (rd x0 s50.2.1)))))
  else .bad)
  else .bad)
  else .bad)
  else (.done (s50.1, s50.2.1, s50.2.2))
noncomputable def ref1_Place.f (x0 : (List Int)) (x1 : Int) : Option (List Int) :=
  (ref1_Size.f x0).bind fun r3 =>
  if r3.2 = 0 then (if x1 < 0 then (some ([] : (List Int)))
  else (if r3.1 ≤ x1 then (some ([] : (List Int)))
  else (if 0 ≤ (x0.length : Int) ∧ (x0.length : Int) ≤ 1099511627776 then ((loop (ref1_Place.l0 x0) (x1, (w64 ((x0.length : Int) - 1)), (List.replicate ((x0.length : Int)).toNat (0 : Int)))).bind fun r51 =>
  some r51.2.2)
  else none)))
  else (some ([] : (List Int)))
set_option maxRecDepth 100000 in
set_option maxHeartbeats 4000000 in
theorem ref1_Place.calls (M : List (Option Nat)) (w0 : World) (x0 : (List Int)) (A0 : Option Addr) (n0 c0 : Nat) (e0 : n0 = x0.length) (x1 : Int) (hm0 : Mem [] M w0 [.sl (Kd.int .i64) A0 c0 x0] w0) (r : (List Int)) (H0 : ref1_Place.f x0 x1 = some r) :
    Calls Try.prog 25 [.slice A0 n0 c0, .int .i64 x1].toArray w0 (fun x w' => ∃ v, x = .returned v ∧ ∃ Ar0 cr0, v = .slice Ar0 r.length cr0 ∧ Mem [] M w0 [.ow (Kd.int .i64) 3 Ar0 cr0 r] w') := by
  subst e0
  unfold ref1_Place.f at H0
  refine enter (n := 51) Try.func25 rfl rfl (by kernel_rfl) fun a0 (hf0 : Fr 51 a0 [(0, .slice A0 x0.length c0), (1, .int .i64 x1)]) => ?_
  refine wp_seq ?_
  refine reg [] [0, 1] [(0, .slice A0 x0.length c0), (1, .int .i64 x1)] [] hf0 (by kernel_rfl) trivial fun a1 hf2 => ?_
  refine thenN ?_
  refine wp_seq ?_
  obtain ⟨r3, hr3, H0⟩ := ob_split H0
  refine inReg ?_
  refine go 1 [] [0, 1, 10] [(0, .slice A0 x0.length c0), (1, .int .i64 x1), (10, .slice A0 x0.length c0)] [] hf2 (by kernel_rfl) trivial fun a4 hf5 => ?_
  refine listOf hf5 rfl (by kernel_rfl) (aCall (fid := 18) (args := [.slice A0 x0.length c0]) (d := 11) hf5 (by kernel_rfl) (by kernel_rfl) callable18 (ref1_Size.calls _ _ x0 A0 x0.length c0 rfl (hm0.give [0] [.sl (Kd.int .i64) A0 c0 x0] rfl rfl) r3 hr3) ?_)
  rintro _ w6 a7 ⟨rfl, hk9⟩ hf8
  have hm10 : Mem [] M w0 [.sl (Kd.int .i64) A0 c0 x0] w6 := hm0.still hk9.cum.none
  refine go 5 [] [0, 1, 5, 6] [(0, .slice A0 x0.length c0), (1, .int .i64 x1), (5, .int .i64 r3.1), (6, .int .i64 r3.2)] [] hf8 (by kernel_rfl) trivial fun a11 hf12 => ?_
  refine endL rfl ?_
  refine thenN ?_
  refine wp_seq ?_
  refine wp_seq ?_
  rcases if_split H0 with ⟨c13, H0⟩ | ⟨c13, H0⟩
  · rcases if_split H0 with ⟨c14, H0⟩ | ⟨c14, H0⟩
    · refine reg [.bool false, .bool true] [0, 1, 24] [(0, .slice A0 x0.length c0), (1, .int .i64 x1), (24, .bool true)] [.is (((r3.2 : Int) != 0) = false), .is (decide (x1 < 0) = true)] hf12 (by kernel_rfl) ⟨(neF c13), (decide_eq_true c14), trivial⟩ fun a15 hf16 => ?_
      refine thenN ?_
      refine condT hf16 (by kernel_rfl) ?_
      refine wp_seq ?_
      refine reg [] [4] [(4, .slice none 0 0)] [] hf16 (by kernel_rfl) trivial fun a17 hf18 => ?_
      have hm19 : Mem [] M w0 [] w6 := hm10.sel [] _ rfl (by kernel_rfl)
      refine thenN ?_
      refine wp_ret ?_
      refine thenR ?_
      have hm20 : Mem [] M w0 [.ow (Kd.int .i64) 3 none 0 ([] : (List Int))] w6 := hm19.nilOw (Kd.int .i64) 3
      have hm21 : Mem [] M w0 [.ow (Kd.int .i64) 3 none 0 ([] : (List Int))] w6 := hm20.sel [0] _ rfl (by kernel_rfl)
      obtain rfl := Option.some.inj H0
      refine ret [] [.slice none 0 0] [] hf18 (by kernel_rfl) trivial ?_
      exact ⟨_, rfl, none, 0, rfl, hm21⟩
    · rcases if_split H0 with ⟨c23, H0⟩ | ⟨c23, H0⟩
      · refine reg [.bool false, .bool false, .bool true] [0, 1, 24] [(0, .slice A0 x0.length c0), (1, .int .i64 x1), (24, .bool true)] [.is (((r3.2 : Int) != 0) = false), .is (decide (x1 < 0) = false), .is (decide (r3.1 ≤ x1) = true)] hf12 (by kernel_rfl) ⟨(neF c13), (decide_eq_false c14), (decide_eq_true c23), trivial⟩ fun a24 hf25 => ?_
        refine thenN ?_
        refine condT hf25 (by kernel_rfl) ?_
        refine wp_seq ?_
        refine reg [] [4] [(4, .slice none 0 0)] [] hf25 (by kernel_rfl) trivial fun a26 hf27 => ?_
        have hm28 : Mem [] M w0 [] w6 := hm10.sel [] _ rfl (by kernel_rfl)
        refine thenN ?_
        refine wp_ret ?_
        refine thenR ?_
        have hm29 : Mem [] M w0 [.ow (Kd.int .i64) 3 none 0 ([] : (List Int))] w6 := hm28.nilOw (Kd.int .i64) 3
        have hm30 : Mem [] M w0 [.ow (Kd.int .i64) 3 none 0 ([] : (List Int))] w6 := hm29.sel [0] _ rfl (by kernel_rfl)
        obtain rfl := Option.some.inj H0
        refine ret [] [.slice none 0 0] [] hf27 (by kernel_rfl) trivial ?_
        exact ⟨_, rfl, none, 0, rfl, hm30⟩
      · refine reg [.bool false, .bool false, .bool false] [0, 1, 24] [(0, .slice A0 x0.length c0), (1, .int .i64 x1), (24, .bool false)] [.is (((r3.2 : Int) != 0) = false), .is (decide (x1 < 0) = false), .is (decide (r3.1 ≤ x1) = false)] hf12 (by kernel_rfl) ⟨(neF c13), (decide_eq_false c14), (decide_eq_false c23), trivial⟩ fun a32 hf33 => ?_
        refine thenN ?_
        refine condF hf33 (by kernel_rfl) ?_
        refine wp_skip ?_
        refine thenN ?_
        refine wp_seq ?_
        obtain ⟨g34, H0⟩ := if_guard H0
        refine inReg ?_
        refine go 2 [] [0, 1, 26] [(0, .slice A0 x0.length c0), (1, .int .i64 x1), (26, .int .i64 (x0.length : Int))] [] hf33 (by kernel_rfl) trivial fun a35 hf36 => ?_
        refine listOf hf36 rfl (by kernel_rfl) (aMake (kd := (Kd.int .i64)) (x := 0) (E := 3) (L := (x0.length : Int)) (z := [.int .i64 0]) (sz := 1) (d := 27) hf36 (by kernel_rfl) (by kernel_rfl) rfl (fun _ _ => rfl) g34.1 g34.2 ?_)
        intro A37 c38 w39 a40 ho42 hb44 hg43 hf41
        have hm45 : Mem [] M w0 [.ow (Kd.int .i64) 3 A37 c38 (List.replicate ((x0.length : Int)).toNat (0 : Int)), .sl (Kd.int .i64) A0 c0 x0] w39 := hm10.own (ho42 _) hg43
        refine go 1 [] [0, 1, 7] [(0, .slice A0 x0.length c0), (1, .int .i64 x1), (7, .slice A37 ((List.replicate ((x0.length : Int)).toNat (0 : Int)).length) c38)] [] hf41 (by kernel_rfl) trivial fun a46 hf47 => ?_
        refine endL rfl ?_
        refine thenN ?_
        refine wp_seq ?_
        refine wp_seq ?_
        refine reg [] [0, 1, 7, 8] [(0, .slice A0 x0.length c0), (1, .int .i64 x1), (7, .slice A37 ((List.replicate ((x0.length : Int)).toNat (0 : Int)).length) c38), (8, .int .i64 (w64 ((x0.length : Int) - 1)))] [] hf47 (by kernel_rfl) trivial fun a48 hf49 => ?_
        refine thenN ?_
        obtain ⟨r51, hr51, H0⟩ := ob_split H0
        refine wpBlock (Mid := fun (a : Act) (w : World) => Fr 51 a [(0, .slice A0 x0.length c0), (1, .int .i64 r51.1), (7, .slice A37 r51.2.2.length c38), (8, .int .i64 r51.2.1)] ∧ Mem [] M w0 [.ow (Kd.int .i64) 3 A37 c38 r51.2.2, .sl (Kd.int .i64) A0 c0 x0] w) ?_ ?_
        · refine wpLoop (ref1_Place.l0 x0) r51 (fun (s50 : (Int × Int × (List Int))) (a : Act) (w : World) => Fr 51 a [(0, .slice A0 x0.length c0), (1, .int .i64 s50.1), (7, .slice A37 s50.2.2.length c38), (8, .int .i64 s50.2.1)] ∧ Mem [] M w0 [.ow (Kd.int .i64) 3 A37 c38 s50.2.2, .sl (Kd.int .i64) A0 c0 x0] w) (x1, (w64 ((x0.length : Int) - 1)), (List.replicate ((x0.length : Int)).toNat (0 : Int))) hr51 ⟨hf49.sel (l := [0, 1, 7, 8]) (by kernel_rfl), hm45.sel [0, 1] _ rfl (by kernel_rfl)⟩ ?_
          rintro g52 s50 a53 w54 H1 ⟨hf55, hm56⟩
          unfold ref1_Place.l0 at H1
          refine wp_seq ?_
          refine wp_seq ?_
          rcases ifS_split H1 with ⟨c57, H1⟩ | ⟨c57, H1⟩
          · refine reg [.bool true] [0, 1, 7, 8, 32] [(0, .slice A0 x0.length c0), (1, .int .i64 s50.1), (7, .slice A37 s50.2.2.length c38), (8, .int .i64 s50.2.1), (32, .bool true)] [.is (decide (0 ≤ s50.2.1) = true)] hf55 (by kernel_rfl) ⟨(decide_eq_true c57), trivial⟩ fun a58 hf59 => ?_
            refine thenN ?_
            refine condT hf59 (by kernel_rfl) ?_
            refine wp_skip ?_
            refine thenN ?_
            refine wp_seq ?_
            refine wp_block ?_
            refine wp_seq ?_
            obtain ⟨g60, H1⟩ := ifS_guard H1
            obtain ⟨g61, H1⟩ := ifS_guard H1
            obtain ⟨g62, H1⟩ := ifS_guard H1
            have q63 := (hm56.slAt 1 rfl).int s50.2.1 g60.1 g60.2
            have q64 := (hm56.owAt 0 rfl).int s50.2.1 g62.1 g62.2
            refine inReg ?_
            refine go 9 [.int .i64 (rd x0 s50.2.1)] [0, 1, 7, 8, 42, 43] [(0, .slice A0 x0.length c0), (1, .int .i64 s50.1), (7, .slice A37 s50.2.2.length c38), (8, .int .i64 s50.2.1), (42, .int .i64 (Int.tmod s50.1 (rd x0 s50.2.1))), (43, .pointer (some ((ad A37).add ((s50.2.1).toNat * 1))))] [.is (Option.isSome A0 = true), .is (0 ≤ s50.2.1 ∧ s50.2.1 < (x0.length : Int)), .cell ((ad A0).add ((s50.2.1).toNat * 1)) (.int .i64 (rd x0 s50.2.1)), .is ((rd x0 s50.2.1) ≠ 0), .is (Option.isSome A37 = true), .is (0 ≤ s50.2.1 ∧ s50.2.1 < (s50.2.2.length : Int))] hf59 (by kernel_rfl) ⟨q63.1, g60, q63.2, g61, q64.1, g62, trivial⟩ fun a65 hf66 => ?_
            refine listOf hf66 rfl (by kernel_rfl) (aStoreO (kd := (Kd.int .i64)) (base := 0) (E := 3) (A := A37) (c := c38) (xs := s50.2.2) (i := s50.2.1) (x := (Int.tmod s50.1 (rd x0 s50.2.1))) (us := [.int .i64 (Int.tmod s50.1 (rd x0 s50.2.1))]) (sz := 1) hf66 (by kernel_rfl) rfl (by kernel_rfl) (hm56.at 0 rfl) rfl g62.1 g62.2 ?_)
            intro w67 hx68 hg69
            have hm70 : Mem [] M w0 [.ow (Kd.int .i64) 3 A37 c38 (put s50.2.2 s50.2.1 (Int.tmod s50.1 (rd x0 s50.2.1))), .sl (Kd.int .i64) A0 c0 x0] w67 := hm56.setOwn 0 _ rfl rfl hx68 hg69 (.inl rfl)
            refine endL rfl ?_
            refine thenN ?_
            have q71 := (hm70.slAt 1 rfl).int s50.2.1 g60.1 g60.2
            refine reg [.int .i64 (rd x0 s50.2.1)] [0, 1, 7, 8] [(0, .slice A0 x0.length c0), (1, .int .i64 (w64 (Int.tdiv s50.1 (rd x0 s50.2.1)))), (7, .slice A37 s50.2.2.length c38), (8, .int .i64 s50.2.1)] [.is (Option.isSome A0 = true), .is (0 ≤ s50.2.1 ∧ s50.2.1 < (x0.length : Int)), .cell ((ad A0).add ((s50.2.1).toNat * 1)) (.int .i64 (rd x0 s50.2.1)), .is ((rd x0 s50.2.1) ≠ 0)] hf66 (by kernel_rfl) ⟨q71.1, g60, q71.2, g61, trivial⟩ fun a72 hf73 => ?_
            refine blkN ?_
            refine thenN ?_
            refine reg [] [0, 1, 7, 8] [(0, .slice A0 x0.length c0), (1, .int .i64 (w64 (Int.tdiv s50.1 (rd x0 s50.2.1)))), (7, .slice A37 s50.2.2.length c38), (8, .int .i64 (w64 (s50.2.1 - 1)))] [] hf73 (by kernel_rfl) trivial fun a74 hf75 => ?_
            have hf76 : Fr 51 a74 [(0, .slice A0 x0.length c0), (1, .int .i64 (w64 (Int.tdiv s50.1 (rd x0 s50.2.1)))), (7, .slice A37 s50.2.2.length c38), (8, .int .i64 (w64 (s50.2.1 - 1)))] := hf75.sel (l := [0, 1, 7, 8]) (by kernel_rfl)
            have hm77 : Mem [] M w0 [.ow (Kd.int .i64) 3 A37 c38 (put s50.2.2 s50.2.1 (Int.tmod s50.1 (rd x0 s50.2.1))), .sl (Kd.int .i64) A0 c0 x0] w67 := hm70.sel [0, 1] _ rfl (by kernel_rfl)
            exact ⟨((w64 (Int.tdiv s50.1 (rd x0 s50.2.1))), (w64 (s50.2.1 - 1)), (put s50.2.2 s50.2.1 (Int.tmod s50.1 (rd x0 s50.2.1)))), H1, (by simpa only [put_length] using hf76), (by simpa only [put_length] using hm77)⟩
          · refine reg [.bool false] [0, 1, 7, 8, 32] [(0, .slice A0 x0.length c0), (1, .int .i64 s50.1), (7, .slice A37 s50.2.2.length c38), (8, .int .i64 s50.2.1), (32, .bool false)] [.is (decide (0 ≤ s50.2.1) = false)] hf55 (by kernel_rfl) ⟨(decide_eq_false c57), trivial⟩ fun a78 hf79 => ?_
            refine thenN ?_
            refine condF hf79 (by kernel_rfl) ?_
            refine wp_exit ?_
            refine thenE ?_
            refine thenE ?_
            obtain rfl := Option.some.inj H1
            exact .inl ⟨rfl, hf79.sel (l := [0, 1, 7, 8]) (by kernel_rfl), hm56.sel [0, 1] _ rfl (by kernel_rfl)⟩
        rintro a80 w81 ⟨hf82, hm83⟩
        refine thenN ?_
        refine wp_seq ?_
        refine reg [] [4] [(4, .slice A37 r51.2.2.length c38)] [] hf82 (by kernel_rfl) trivial fun a84 hf85 => ?_
        have hm86 : Mem [] M w0 [.ow (Kd.int .i64) 3 A37 c38 r51.2.2] w81 := hm83.sel [0] _ rfl (by kernel_rfl)
        refine thenN ?_
        refine wp_ret ?_
        have hm87 : Mem [] M w0 [.ow (Kd.int .i64) 3 A37 c38 r51.2.2] w81 := hm86.sel [0] _ rfl (by kernel_rfl)
        obtain rfl := Option.some.inj H0
        refine ret [] [.slice A37 r51.2.2.length c38] [] hf85 (by kernel_rfl) trivial ?_
        exact ⟨_, rfl, A37, c38, rfl, hm87⟩
  · refine reg [.bool true] [0, 1, 24] [(0, .slice A0 x0.length c0), (1, .int .i64 x1), (24, .bool true)] [.is (((r3.2 : Int) != 0) = true)] hf12 (by kernel_rfl) ⟨(neT c13), trivial⟩ fun a89 hf90 => ?_
    refine thenN ?_
    refine condT hf90 (by kernel_rfl) ?_
    refine wp_seq ?_
    refine reg [] [4] [(4, .slice none 0 0)] [] hf90 (by kernel_rfl) trivial fun a91 hf92 => ?_
    have hm93 : Mem [] M w0 [] w6 := hm10.sel [] _ rfl (by kernel_rfl)
    refine thenN ?_
    refine wp_ret ?_
    refine thenR ?_
    have hm94 : Mem [] M w0 [.ow (Kd.int .i64) 3 none 0 ([] : (List Int))] w6 := hm93.nilOw (Kd.int .i64) 3
    have hm95 : Mem [] M w0 [.ow (Kd.int .i64) 3 none 0 ([] : (List Int))] w6 := hm94.sel [0] _ rfl (by kernel_rfl)
    obtain rfl := Option.some.inj H0
    refine ret [] [.slice none 0 0] [] hf92 (by kernel_rfl) trivial ?_
    exact ⟨_, rfl, none, 0, rfl, hm95⟩
end Go.Proofs.Ytgekodhpkhdanaa
