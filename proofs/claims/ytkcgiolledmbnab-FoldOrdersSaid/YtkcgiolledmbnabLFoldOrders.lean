/- Printed by gen.py. -/
import Derived.Test.YtkcgiolledmbnabF1
import Derived.Test.YtkcgiolledmbnabF2
import Derived.Test.YtkcgiolledmbnabF5
import Derived.Test.YtkcgiolledmbnabF6
import Derived.Test.YtkcgiolledmbnabF8
import Derived.Test.YtkcgiolledmbnabF9
namespace Go.Proofs.Ytkcgiolledmbnab
open Go Go.RowKit
set_option linter.unusedSimpArgs false
set_option linter.unusedVariables false
set_option linter.unnecessarySimpa false
/-! ### backstitch/backstitchlaw8.FoldOrders -/
noncomputable def law8_FoldOrders.l0 (x0 : (List Tensor)) (s183 : (Int × (List Int))) : Step (Int × (List Int)) (Int × (List Int)) :=
  if s183.1 < (x0.length : Int) then (if s183.2.length + 1 ≤ 549755813888 then (.next ((w64 (s183.1 + 1)), (s183.2 ++ ([s183.1] : List Int))))
  else .bad)
  else (.done (s183.1, s183.2))
noncomputable def law8_FoldOrders.l1 (x1 : (List Int)) (y109 : Slots) (x0 : (List Tensor)) (s236 : ((List Int) × Int × Int × (List Tensor) × (List Bool))) : Step ((List Int) × Int × Int × (List Tensor) × (List Bool)) (Out2 ((List Int) × Int × Int × (List Tensor) × (List Bool)) Bool) :=
  if 0 < (s236.1.length : Int) then (if s236.2.1 < (x1.length : Int) then (if 0 ≤ s236.2.1 ∧ s236.2.1 < (x1.length : Int) then (if (s236.1.length : Int) ≠ 0 then (bindS (fold_Slots_Value.f (⟨y109.s, s236.2.2.2.1, s236.2.2.2.2, s236.2.2.1⟩ : Slots)) fun r262 =>
  if r262.2 = 1 then (bindS (fold_Slots_Left.f (⟨y109.s, s236.2.2.2.1, s236.2.2.2.2, s236.2.2.1⟩ : Slots)) fun r293 =>
  if r293 = (s236.1.length : Int) then (if 0 ≤ (Int.tmod (w64 ((rd x1 s236.2.1))) (s236.1.length : Int)) ∧ (Int.tmod (w64 ((rd x1 s236.2.1))) (s236.1.length : Int)) < (s236.1.length : Int) then (if 0 ≤ (rd s236.1 (Int.tmod (w64 ((rd x1 s236.2.1))) (s236.1.length : Int))) ∧ (rd s236.1 (Int.tmod (w64 ((rd x1 s236.2.1))) (s236.1.length : Int))) < (x0.length : Int) then (bindS (fold_Slots_Put.f (⟨y109.s, s236.2.2.2.1, s236.2.2.2.2, s236.2.2.1⟩ : Slots) (rd s236.1 (Int.tmod (w64 ((rd x1 s236.2.1))) (s236.1.length : Int))) (⟨((rd x0 (rd s236.1 (Int.tmod (w64 ((rd x1 s236.2.1))) (s236.1.length : Int)))).Shape), ((rd x0 (rd s236.1 (Int.tmod (w64 ((rd x1 s236.2.1))) (s236.1.length : Int)))).Data)⟩ : Tensor)) fun r297 =>
  if r297.2.2.2 = 0 then (bindS (fold_Slots_Put.f (⟨y109.s, r297.1, r297.2.1, r297.2.2.1⟩ : Slots) (rd s236.1 (Int.tmod (w64 ((rd x1 s236.2.1))) (s236.1.length : Int))) (⟨((rd x0 (rd s236.1 (Int.tmod (w64 ((rd x1 s236.2.1))) (s236.1.length : Int)))).Shape), ((rd x0 (rd s236.1 (Int.tmod (w64 ((rd x1 s236.2.1))) (s236.1.length : Int)))).Data)⟩ : Tensor)) fun r299 =>
  if r299.2.2.2 = 1 then (if 0 ≤ (Int.tmod (w64 ((rd x1 s236.2.1))) (s236.1.length : Int)) ∧ (Int.tmod (w64 ((rd x1 s236.2.1))) (s236.1.length : Int)) ≤ (s236.1.length : Int) then (if 0 + (((Int.tmod (w64 ((rd x1 s236.2.1))) (s236.1.length : Int))).toNat - 0) ≤ 549755813888 then (if 0 ≤ (w64 ((Int.tmod (w64 ((rd x1 s236.2.1))) (s236.1.length : Int)) + 1)) ∧ (w64 ((Int.tmod (w64 ((rd x1 s236.2.1))) (s236.1.length : Int)) + 1)) ≤ (s236.1.length : Int) then (if (([] : List Int) ++ ((List.take (((Int.tmod (w64 ((rd x1 s236.2.1))) (s236.1.length : Int))).toNat) s236.1).drop 0)).length + (s236.1.length - ((w64 ((Int.tmod (w64 ((rd x1 s236.2.1))) (s236.1.length : Int)) + 1))).toNat) ≤ 549755813888 then (.next (((([] : List Int) ++ ((List.take (((Int.tmod (w64 ((rd x1 s236.2.1))) (s236.1.length : Int))).toNat) s236.1).drop 0)) ++ ((List.take s236.1.length s236.1).drop (((w64 ((Int.tmod (w64 ((rd x1 s236.2.1))) (s236.1.length : Int)) + 1))).toNat))), (w64 (s236.2.1 + 1)), r299.2.2.1, r299.1, r299.2.1))
  else .bad)
  else .bad)
  else .bad)
  else .bad)
  else (.done (.ret false)))
  else (.done (.ret false)))
  else .bad)
  else .bad)
  else (.done (.ret false)))
  else (.done (.ret false)))
  else .bad)
  else .bad)
  else (bindS (fold_Slots_Value.f (⟨y109.s, s236.2.2.2.1, s236.2.2.2.2, s236.2.2.1⟩ : Slots)) fun r890 =>
  if r890.2 = 1 then (bindS (fold_Slots_Left.f (⟨y109.s, s236.2.2.2.1, s236.2.2.2.2, s236.2.2.1⟩ : Slots)) fun r921 =>
  if r921 = (s236.1.length : Int) then (if (0 : Int) ≤ 0 ∧ 0 < (s236.1.length : Int) then (if 0 ≤ (rd s236.1 0) ∧ (rd s236.1 0) < (x0.length : Int) then (bindS (fold_Slots_Put.f (⟨y109.s, s236.2.2.2.1, s236.2.2.2.2, s236.2.2.1⟩ : Slots) (rd s236.1 0) (⟨((rd x0 (rd s236.1 0)).Shape), ((rd x0 (rd s236.1 0)).Data)⟩ : Tensor)) fun r925 =>
  if r925.2.2.2 = 0 then (bindS (fold_Slots_Put.f (⟨y109.s, r925.1, r925.2.1, r925.2.2.1⟩ : Slots) (rd s236.1 0) (⟨((rd x0 (rd s236.1 0)).Shape), ((rd x0 (rd s236.1 0)).Data)⟩ : Tensor)) fun r927 =>
  if r927.2.2.2 = 1 then (if 0 ≤ (0 : Int) ∧ (0 : Int) ≤ (s236.1.length : Int) then (if 0 + (((0 : Int)).toNat - 0) ≤ 549755813888 then (if 0 ≤ (1 : Int) ∧ (1 : Int) ≤ (s236.1.length : Int) then (if (([] : List Int) ++ ((List.take (((0 : Int)).toNat) s236.1).drop 0)).length + (s236.1.length - ((1 : Int)).toNat) ≤ 549755813888 then (.next (((([] : List Int) ++ ((List.take (((0 : Int)).toNat) s236.1).drop 0)) ++ ((List.take s236.1.length s236.1).drop (((1 : Int)).toNat))), (w64 (s236.2.1 + 1)), r927.2.2.1, r927.1, r927.2.1))
  else .bad)
  else .bad)
  else .bad)
  else .bad)
  else (.done (.ret false)))
  else (.done (.ret false)))
  else .bad)
  else .bad)
  else (.done (.ret false)))
  else (.done (.ret false))))
  else (.done (.go (s236.1, s236.2.1, s236.2.2.1, s236.2.2.2.1, s236.2.2.2.2)))
noncomputable def law8_FoldOrders.f (x0 : (List Tensor)) (x1 : (List Int)) : Option Bool :=
  (law8_awake.f).bind fun r23 =>
  if r23 = true then ((law8_Few.f x0).bind fun r32 =>
  if r32 = true then (if (x0.length : Int) = 0 then (some true)
  else (if 100 < (x1.length : Int) then (some true)
  else ((ref6_Tree.f x0).bind fun r74 =>
  if r74.2 = 0 then (if (0 : Int) ≤ 0 ∧ 0 < (x0.length : Int) then ((fold_New.f ((rd x0 0).Shape) (x0.length : Int)).bind fun r107 =>
  onPtr r107.1 (fun y109 =>
  if r107.2 = 0 then ((loop (law8_FoldOrders.l0 x0) (0, ([] : (List Int)))).bind fun r186 =>
  (loop (law8_FoldOrders.l1 x1 y109 x0) (r186.2, 0, y109.left, y109.l, y109.filled)).bind fun r243 =>
  r243.on (fun yr243 =>
  (fold_Slots_Value.f (⟨y109.s, yr243.2.2.2.1, yr243.2.2.2.2, yr243.2.2.1⟩ : Slots)).bind fun r1522 =>
  if r1522.2 = 0 then ((fold_Slots_Left.f (⟨y109.s, yr243.2.2.2.1, yr243.2.2.2.2, yr243.2.2.1⟩ : Slots)).bind fun r1553 =>
  if r1553 = 0 then ((ref1_SameTensor.f r1522.1 r74.1).bind fun r1555 =>
  some r1555)
  else (some false))
  else (some false)) (fun y => some y))
  else (some false)) (if r107.2 = 0 then (some false)
  else (some false)))
  else none)
  else (some true))))
  else (some true))
  else (some false)
set_option maxRecDepth 100000 in
set_option maxHeartbeats 4000000 in
theorem law8_FoldOrders.calls (M : List (Option Nat)) (w0 : World) (x0 : (List Tensor)) (A0 : Option Addr) (n0 c0 : Nat) (e0 : n0 = x0.length) (x1 : (List Int)) (A1 : Option Addr) (n1 c1 : Nat) (e1 : n1 = x1.length) (hm0 : Mem [] M w0 [.sl kTensor A0 c0 x0, .sl (Kd.int .u8) A1 c1 x1] w0) (r : Bool) (H0 : law8_FoldOrders.f x0 x1 = some r) :
    Calls Try.prog 4 [.slice A0 n0 c0, .slice A1 n1 c1].toArray w0 (fun x w' => ∃ v, x = .returned v ∧ v = .bool r ∧ Mem [] M w0 [] w') := by
  subst e0
  subst e1
  unfold law8_FoldOrders.f at H0
  refine enter (n := 155) Try.func4 rfl rfl (by kernel_rfl) fun a0 (hf0 : Fr 155 a0 [(0, .slice A0 x0.length c0), (1, .slice A1 x1.length c1)]) => ?_
  refine wp_seq ?_
  refine reg [] [0, 1] [(0, .slice A0 x0.length c0), (1, .slice A1 x1.length c1)] [] hf0 (by kernel_rfl) trivial fun a21 hf22 => ?_
  refine thenN ?_
  refine wp_seq ?_
  refine wp_seq ?_
  obtain ⟨r23, hr23, H0⟩ := ob_split H0
  rcases ifb_split H0 with ⟨c24, H0⟩ | ⟨c24, H0⟩
  rotate_left
  · refine inReg ?_
    refine listOf hf22 rfl (by kernel_rfl) (aCall (fid := 15) (args := []) (d := 17) hf22 (by kernel_rfl) (by kernel_rfl) callable15 (law8_awake.calls _ _  (hm0.give [] [] rfl rfl) r23 hr23) ?_)
    rintro _ w1620 a1621 ⟨rfl, hk1623⟩ hf1622
    have hm1624 := hm0.still hk1623.cum.none
    rw [c24] at hf1622
    refine go 1 [] [0, 1, 18] [(0, .slice A0 x0.length c0), (1, .slice A1 x1.length c1), (18, .bool true)] [] hf1622 (by kernel_rfl) trivial fun a1625 hf1626 => ?_
    refine endL rfl ?_
    refine thenN ?_
    refine condT hf1626 (by kernel_rfl) ?_
    refine wp_seq ?_
    refine reg [] [4] [(4, .bool false)] [] hf1626 (by kernel_rfl) trivial fun a1627 hf1628 => ?_
    have hm1629 := hm1624.sel [] _ rfl (by kernel_rfl)
    refine thenN ?_
    refine wp_ret ?_
    refine thenR ?_
    have hm1630 : Mem [] M w0 [] w1620 := hm1629.sel [] _ rfl (by kernel_rfl)
    obtain rfl := Option.some.inj H0
    refine ret [] [.bool false] [] hf1628 (by kernel_rfl) trivial ?_
    exact ⟨_, rfl, rfl, hm1630⟩
  refine inReg ?_
  refine listOf hf22 rfl (by kernel_rfl) (aCall (fid := 15) (args := []) (d := 17) hf22 (by kernel_rfl) (by kernel_rfl) callable15 (law8_awake.calls _ _  (hm0.give [] [] rfl rfl) r23 hr23) ?_)
  rintro _ w25 a26 ⟨rfl, hk28⟩ hf27
  have hm29 := hm0.still hk28.cum.none
  rw [c24] at hf27
  refine go 1 [] [0, 1, 18] [(0, .slice A0 x0.length c0), (1, .slice A1 x1.length c1), (18, .bool false)] [] hf27 (by kernel_rfl) trivial fun a30 hf31 => ?_
  refine endL rfl ?_
  refine thenN ?_
  refine condF hf31 (by kernel_rfl) ?_
  refine wp_skip ?_
  refine thenN ?_
  refine wp_seq ?_
  refine wp_seq ?_
  obtain ⟨r32, hr32, H0⟩ := ob_split H0
  rcases ifb_split H0 with ⟨c33, H0⟩ | ⟨c33, H0⟩
  rotate_left
  · refine inReg ?_
    refine go 1 [] [0, 1, 19] [(0, .slice A0 x0.length c0), (1, .slice A1 x1.length c1), (19, .slice A0 x0.length c0)] [] hf31 (by kernel_rfl) trivial fun a1606 hf1607 => ?_
    refine listOf hf1607 rfl (by kernel_rfl) (aCall (fid := 16) (args := [.slice A0 x0.length c0]) (d := 20) hf1607 (by kernel_rfl) (by kernel_rfl) callable16 (law8_Few.calls _ _ x0 A0 x0.length c0 rfl (hm29.give [0] [.sl kTensor A0 c0 x0] rfl rfl) r32 hr32) ?_)
    rintro _ w1608 a1609 ⟨rfl, hk1611⟩ hf1610
    have hm1612 := hm29.still hk1611.cum.none
    rw [c33] at hf1610
    refine go 11 [] [0, 1, 31] [(0, .slice A0 x0.length c0), (1, .slice A1 x1.length c1), (31, .bool true)] [] hf1610 (by kernel_rfl) trivial fun a1613 hf1614 => ?_
    refine endL rfl ?_
    refine thenN ?_
    refine condT hf1614 (by kernel_rfl) ?_
    refine wp_seq ?_
    refine reg [] [4] [(4, .bool true)] [] hf1614 (by kernel_rfl) trivial fun a1615 hf1616 => ?_
    have hm1617 := hm1612.sel [] _ rfl (by kernel_rfl)
    refine thenN ?_
    refine wp_ret ?_
    refine thenR ?_
    have hm1618 : Mem [] M w0 [] w1608 := hm1617.sel [] _ rfl (by kernel_rfl)
    obtain rfl := Option.some.inj H0
    refine ret [] [.bool true] [] hf1616 (by kernel_rfl) trivial ?_
    exact ⟨_, rfl, rfl, hm1618⟩
  rcases if_split H0 with ⟨c34, H0⟩ | ⟨c34, H0⟩
  · refine inReg ?_
    refine go 1 [] [0, 1, 19] [(0, .slice A0 x0.length c0), (1, .slice A1 x1.length c1), (19, .slice A0 x0.length c0)] [] hf31 (by kernel_rfl) trivial fun a35 hf36 => ?_
    refine listOf hf36 rfl (by kernel_rfl) (aCall (fid := 16) (args := [.slice A0 x0.length c0]) (d := 20) hf36 (by kernel_rfl) (by kernel_rfl) callable16 (law8_Few.calls _ _ x0 A0 x0.length c0 rfl (hm29.give [0] [.sl kTensor A0 c0 x0] rfl rfl) r32 hr32) ?_)
    rintro _ w37 a38 ⟨rfl, hk40⟩ hf39
    have hm41 := hm29.still hk40.cum.none
    rw [c33] at hf39
    refine go 11 [.bool true] [0, 1, 31] [(0, .slice A0 x0.length c0), (1, .slice A1 x1.length c1), (31, .bool true)] [.is ((((x0.length : Int) : Int) == 0) = true)] hf39 (by kernel_rfl) ⟨(eqT c34), trivial⟩ fun a42 hf43 => ?_
    refine endL rfl ?_
    refine thenN ?_
    refine condT hf43 (by kernel_rfl) ?_
    refine wp_seq ?_
    refine reg [] [4] [(4, .bool true)] [] hf43 (by kernel_rfl) trivial fun a44 hf45 => ?_
    have hm46 := hm41.sel [] _ rfl (by kernel_rfl)
    refine thenN ?_
    refine wp_ret ?_
    refine thenR ?_
    have hm47 : Mem [] M w0 [] w37 := hm46.sel [] _ rfl (by kernel_rfl)
    obtain rfl := Option.some.inj H0
    refine ret [] [.bool true] [] hf45 (by kernel_rfl) trivial ?_
    exact ⟨_, rfl, rfl, hm47⟩
  rcases if_split H0 with ⟨c49, H0⟩ | ⟨c49, H0⟩
  · refine inReg ?_
    refine go 1 [] [0, 1, 19] [(0, .slice A0 x0.length c0), (1, .slice A1 x1.length c1), (19, .slice A0 x0.length c0)] [] hf31 (by kernel_rfl) trivial fun a50 hf51 => ?_
    refine listOf hf51 rfl (by kernel_rfl) (aCall (fid := 16) (args := [.slice A0 x0.length c0]) (d := 20) hf51 (by kernel_rfl) (by kernel_rfl) callable16 (law8_Few.calls _ _ x0 A0 x0.length c0 rfl (hm29.give [0] [.sl kTensor A0 c0 x0] rfl rfl) r32 hr32) ?_)
    rintro _ w52 a53 ⟨rfl, hk55⟩ hf54
    have hm56 := hm29.still hk55.cum.none
    rw [c33] at hf54
    refine go 11 [.bool false, .bool true] [0, 1, 31] [(0, .slice A0 x0.length c0), (1, .slice A1 x1.length c1), (31, .bool true)] [.is ((((x0.length : Int) : Int) == 0) = false), .is (decide (100 < (x1.length : Int)) = true)] hf54 (by kernel_rfl) ⟨(eqF c34), (decide_eq_true c49), trivial⟩ fun a57 hf58 => ?_
    refine endL rfl ?_
    refine thenN ?_
    refine condT hf58 (by kernel_rfl) ?_
    refine wp_seq ?_
    refine reg [] [4] [(4, .bool true)] [] hf58 (by kernel_rfl) trivial fun a59 hf60 => ?_
    have hm61 := hm56.sel [] _ rfl (by kernel_rfl)
    refine thenN ?_
    refine wp_ret ?_
    refine thenR ?_
    have hm62 : Mem [] M w0 [] w52 := hm61.sel [] _ rfl (by kernel_rfl)
    obtain rfl := Option.some.inj H0
    refine ret [] [.bool true] [] hf60 (by kernel_rfl) trivial ?_
    exact ⟨_, rfl, rfl, hm62⟩
  refine inReg ?_
  refine go 1 [] [0, 1, 19] [(0, .slice A0 x0.length c0), (1, .slice A1 x1.length c1), (19, .slice A0 x0.length c0)] [] hf31 (by kernel_rfl) trivial fun a65 hf66 => ?_
  refine listOf hf66 rfl (by kernel_rfl) (aCall (fid := 16) (args := [.slice A0 x0.length c0]) (d := 20) hf66 (by kernel_rfl) (by kernel_rfl) callable16 (law8_Few.calls _ _ x0 A0 x0.length c0 rfl (hm29.give [0] [.sl kTensor A0 c0 x0] rfl rfl) r32 hr32) ?_)
  rintro _ w67 a68 ⟨rfl, hk70⟩ hf69
  have hm71 := hm29.still hk70.cum.none
  rw [c33] at hf69
  refine go 11 [.bool false, .bool false] [0, 1, 31] [(0, .slice A0 x0.length c0), (1, .slice A1 x1.length c1), (31, .bool false)] [.is ((((x0.length : Int) : Int) == 0) = false), .is (decide (100 < (x1.length : Int)) = false)] hf69 (by kernel_rfl) ⟨(eqF c34), (decide_eq_false c49), trivial⟩ fun a72 hf73 => ?_
  refine endL rfl ?_
  refine thenN ?_
  refine condF hf73 (by kernel_rfl) ?_
  refine wp_skip ?_
  refine thenN ?_
  refine wp_seq ?_
  obtain ⟨r74, hr74, H0⟩ := ob_split H0
  refine inReg ?_
  refine go 1 [] [0, 1, 33] [(0, .slice A0 x0.length c0), (1, .slice A1 x1.length c1), (33, .slice A0 x0.length c0)] [] hf73 (by kernel_rfl) trivial fun a75 hf76 => ?_
  refine listOf hf76 rfl (by kernel_rfl) (aCall (fid := 18) (args := [.slice A0 x0.length c0]) (d := 34) hf76 (by kernel_rfl) (by kernel_rfl) callable18 (ref6_Tree.calls _ _ x0 A0 x0.length c0 rfl (hm71.give [0] [.sl kTensor A0 c0 x0] rfl rfl) r74 hr74) ?_)
  rintro _ w81 a82 ⟨A77, c78, A79, c80, rfl, hk84⟩ hf83
  have hm85 := hm71.back hk84
  have hm86 := hm85.seal 0 _ rfl rfl
  have hm87 := hm86.seal 1 _ rfl rfl
  refine go 3 [] [0, 1, 35, 36] [(0, .slice A0 x0.length c0), (1, .slice A1 x1.length c1), (35, .agg #[.slice A77 r74.1.Shape.length c78, .slice A79 r74.1.Data.length c80]), (36, .int .i64 r74.2)] [] hf83 (by kernel_rfl) trivial fun a88 hf89 => ?_
  refine listOf hf89 rfl (by kernel_rfl) (aNew (cs := [.slice none 0 0, .slice none 0 0]) (T := 28) (d := 5) hf89 (by kernel_rfl) (by kernel_rfl) ?_)
  intro b90 w91 a92 hbb90 hx94 hg95 hf93
  have hm96 := hm87.box hbb90 hx94 hg95
  refine listOf hf93 rfl (by kernel_rfl) (aStoreB (b := b90) (j := 0) (T := 28) (cs := [.slice none 0 0, .slice none 0 0]) (us := [.slice A77 r74.1.Shape.length c78, .slice A79 r74.1.Data.length c80]) (cs' := [.slice A77 r74.1.Shape.length c78, .slice A79 r74.1.Data.length c80]) hf93 (by kernel_rfl) (hm96.bxAt 0 rfl) (by kernel_rfl) (by kernel_rfl) (by kernel_rfl) ?_)
  intro w97 hx98 hg99
  have hm100 := hm96.setBox 0 _ rfl rfl hx98 hg99
  refine go 1 [] [0, 1, 5, 6] [(0, .slice A0 x0.length c0), (1, .slice A1 x1.length c1), (5, .pointer (some ⟨b90, 0, none⟩)), (6, .int .i64 r74.2)] [] hf93 (by kernel_rfl) trivial fun a101 hf102 => ?_
  refine endL rfl ?_
  refine thenN ?_
  refine wp_seq ?_
  refine wp_seq ?_
  rcases if_split H0 with ⟨c103, H0⟩ | ⟨c103, H0⟩
  rotate_left
  · refine reg [.bool true] [0, 1, 5, 38] [(0, .slice A0 x0.length c0), (1, .slice A1 x1.length c1), (5, .pointer (some ⟨b90, 0, none⟩)), (38, .bool true)] [.is (((r74.2 : Int) != 0) = true)] hf102 (by kernel_rfl) ⟨(neT c103), trivial⟩ fun a1599 hf1600 => ?_
    refine thenN ?_
    refine condT hf1600 (by kernel_rfl) ?_
    refine wp_seq ?_
    refine reg [] [4] [(4, .bool true)] [] hf1600 (by kernel_rfl) trivial fun a1601 hf1602 => ?_
    have hm1603 := hm100.sel [] _ rfl (by kernel_rfl)
    refine thenN ?_
    refine wp_ret ?_
    refine thenR ?_
    have hm1604 : Mem [] M w0 [] w97 := hm1603.sel [] _ rfl (by kernel_rfl)
    obtain rfl := Option.some.inj H0
    refine ret [] [.bool true] [] hf1602 (by kernel_rfl) trivial ?_
    exact ⟨_, rfl, rfl, hm1604⟩
  refine reg [.bool false] [0, 1, 5, 38] [(0, .slice A0 x0.length c0), (1, .slice A1 x1.length c1), (5, .pointer (some ⟨b90, 0, none⟩)), (38, .bool false)] [.is (((r74.2 : Int) != 0) = false)] hf102 (by kernel_rfl) ⟨(neF c103), trivial⟩ fun a104 hf105 => ?_
  refine thenN ?_
  refine condF hf105 (by kernel_rfl) ?_
  refine wp_skip ?_
  refine thenN ?_
  refine wp_seq ?_
  obtain ⟨g106, H0⟩ := if_guard H0
  obtain ⟨r107, hr107, H0⟩ := ob_split H0
  rcases ptr_split H0 with ⟨c108, H0⟩ | ⟨y109, c108, H0⟩
  · have q110 := (hm100.slAt 3 rfl).get 0 g106.1 g106.2
    obtain ⟨us111, hr112, hc113⟩ := q110.2
    obtain ⟨A114, c115, A116, c117, rfl, ⟨pA114, sA114⟩, ⟨pA116, sA116⟩⟩ := kTensor.open hr112
    have hm118 := hm100.elem pA114 sA114
    have hm119 := hm118.elem pA116 sA116
    refine inReg ?_
    refine go 6 [.slice A114 (((rd x0 0).Shape).length) c115] [0, 1, 5, 43, 45] [(0, .slice A0 x0.length c0), (1, .slice A1 x1.length c1), (5, .pointer (some ⟨b90, 0, none⟩)), (43, .slice A114 (((rd x0 0).Shape).length) c115), (45, .int .i64 (x0.length : Int))] [.is (Option.isSome A0 = true), .is ((0 : Int) ≤ 0 ∧ 0 < (x0.length : Int)), .cell ((ad A0).add ((0 : Int).toNat * 2)) (.slice A114 (((rd x0 0).Shape).length) c115)] hf105 (by kernel_rfl) ⟨q110.1, g106, (hc113 0 _ rfl), trivial⟩ fun a120 hf121 => ?_
    refine listOf hf121 rfl (by kernel_rfl) (aCall (fid := 20) (args := [.slice A114 (((rd x0 0).Shape).length) c115, .int .i64 (x0.length : Int)]) (d := 46) hf121 (by kernel_rfl) (by kernel_rfl) callable20 (fold_New.calls_n _ _ ((rd x0 0).Shape) A114 (((rd x0 0).Shape).length) c115 rfl (x0.length : Int) (hm119.give [1] [.sl (Kd.int .i64) A114 c115 ((rd x0 0).Shape)] rfl rfl) r107 c108 hr107) ?_)
    rintro _ w122 a123 ⟨rfl, hk125⟩ hf124
    have hm126 := hm119.still hk125.cum.none
    refine go 5 [] [0, 1, 5, 7, 8] [(0, .slice A0 x0.length c0), (1, .slice A1 x1.length c1), (5, .pointer (some ⟨b90, 0, none⟩)), (7, .pointer none), (8, .int .i64 r107.2)] [] hf124 (by kernel_rfl) trivial fun a127 hf128 => ?_
    refine endL rfl ?_
    have hm129 := hm126.sel [2, 3, 4, 5, 6] _ rfl (by kernel_rfl)
    refine thenN ?_
    refine wp_seq ?_
    refine wp_seq ?_
    rcases if_split H0 with ⟨c130, H0⟩ | ⟨c130, H0⟩
    · refine reg [.bool false] [0, 1, 5, 7, 54] [(0, .slice A0 x0.length c0), (1, .slice A1 x1.length c1), (5, .pointer (some ⟨b90, 0, none⟩)), (7, .pointer none), (54, .bool true)] [.is (((r107.2 : Int) != 0) = false)] hf128 (by kernel_rfl) ⟨(neF c130), trivial⟩ fun a131 hf132 => ?_
      refine thenN ?_
      refine condT hf132 (by kernel_rfl) ?_
      refine wp_seq ?_
      refine reg [] [4] [(4, .bool false)] [] hf132 (by kernel_rfl) trivial fun a133 hf134 => ?_
      have hm135 := hm129.sel [] _ rfl (by kernel_rfl)
      refine thenN ?_
      refine wp_ret ?_
      refine thenR ?_
      have hm136 : Mem [] M w0 [] w122 := hm135.sel [] _ rfl (by kernel_rfl)
      obtain rfl := Option.some.inj H0
      refine ret [] [.bool false] [] hf134 (by kernel_rfl) trivial ?_
      exact ⟨_, rfl, rfl, hm136⟩
    refine reg [.bool true] [0, 1, 5, 7, 54] [(0, .slice A0 x0.length c0), (1, .slice A1 x1.length c1), (5, .pointer (some ⟨b90, 0, none⟩)), (7, .pointer none), (54, .bool true)] [.is (((r107.2 : Int) != 0) = true)] hf128 (by kernel_rfl) ⟨(neT c130), trivial⟩ fun a138 hf139 => ?_
    refine thenN ?_
    refine condT hf139 (by kernel_rfl) ?_
    refine wp_seq ?_
    refine reg [] [4] [(4, .bool false)] [] hf139 (by kernel_rfl) trivial fun a140 hf141 => ?_
    have hm142 := hm129.sel [] _ rfl (by kernel_rfl)
    refine thenN ?_
    refine wp_ret ?_
    refine thenR ?_
    have hm143 : Mem [] M w0 [] w122 := hm142.sel [] _ rfl (by kernel_rfl)
    obtain rfl := Option.some.inj H0
    refine ret [] [.bool false] [] hf141 (by kernel_rfl) trivial ?_
    exact ⟨_, rfl, rfl, hm143⟩
  · have q145 := (hm100.slAt 3 rfl).get 0 g106.1 g106.2
    obtain ⟨us146, hr147, hc148⟩ := q145.2
    obtain ⟨A149, c150, A151, c152, rfl, ⟨pA149, sA149⟩, ⟨pA151, sA151⟩⟩ := kTensor.open hr147
    have hm153 := hm100.elem pA149 sA149
    have hm154 := hm153.elem pA151 sA151
    refine inReg ?_
    refine go 6 [.slice A149 (((rd x0 0).Shape).length) c150] [0, 1, 5, 43, 45] [(0, .slice A0 x0.length c0), (1, .slice A1 x1.length c1), (5, .pointer (some ⟨b90, 0, none⟩)), (43, .slice A149 (((rd x0 0).Shape).length) c150), (45, .int .i64 (x0.length : Int))] [.is (Option.isSome A0 = true), .is ((0 : Int) ≤ 0 ∧ 0 < (x0.length : Int)), .cell ((ad A0).add ((0 : Int).toNat * 2)) (.slice A149 (((rd x0 0).Shape).length) c150)] hf105 (by kernel_rfl) ⟨q145.1, g106, (hc148 0 _ rfl), trivial⟩ fun a155 hf156 => ?_
    refine listOf hf156 rfl (by kernel_rfl) (aCall (fid := 20) (args := [.slice A149 (((rd x0 0).Shape).length) c150, .int .i64 (x0.length : Int)]) (d := 46) hf156 (by kernel_rfl) (by kernel_rfl) callable20 (fold_New.calls_s _ _ ((rd x0 0).Shape) A149 (((rd x0 0).Shape).length) c150 rfl (x0.length : Int) (hm154.give [1] [.sl (Kd.int .i64) A149 c150 ((rd x0 0).Shape)] rfl rfl) r107 y109 c108 hr107) ?_)
    rintro _ w164 a165 ⟨b157, A158, c159, A160, c161, A162, c163, rfl, hk167⟩ hf166
    have hm168 := hm154.back hk167
    refine go 5 [] [0, 1, 5, 7, 8] [(0, .slice A0 x0.length c0), (1, .slice A1 x1.length c1), (5, .pointer (some ⟨b90, 0, none⟩)), (7, .pointer (some ⟨b157, 0, none⟩)), (8, .int .i64 r107.2)] [] hf166 (by kernel_rfl) trivial fun a169 hf170 => ?_
    refine endL rfl ?_
    have hm171 := hm168.sel [0, 1, 2, 3, 6, 7, 8, 9, 10] _ rfl (by kernel_rfl)
    refine thenN ?_
    refine wp_seq ?_
    refine wp_seq ?_
    rcases if_split H0 with ⟨c172, H0⟩ | ⟨c172, H0⟩
    rotate_left
    · refine reg [.bool true] [0, 1, 5, 7, 54] [(0, .slice A0 x0.length c0), (1, .slice A1 x1.length c1), (5, .pointer (some ⟨b90, 0, none⟩)), (7, .pointer (some ⟨b157, 0, none⟩)), (54, .bool true)] [.is (((r107.2 : Int) != 0) = true)] hf170 (by kernel_rfl) ⟨(neT c172), trivial⟩ fun a1592 hf1593 => ?_
      refine thenN ?_
      refine condT hf1593 (by kernel_rfl) ?_
      refine wp_seq ?_
      refine reg [] [4] [(4, .bool false)] [] hf1593 (by kernel_rfl) trivial fun a1594 hf1595 => ?_
      have hm1596 := hm171.sel [] _ rfl (by kernel_rfl)
      refine thenN ?_
      refine wp_ret ?_
      refine thenR ?_
      have hm1597 : Mem [] M w0 [] w164 := hm1596.sel [] _ rfl (by kernel_rfl)
      obtain rfl := Option.some.inj H0
      refine ret [] [.bool false] [] hf1595 (by kernel_rfl) trivial ?_
      exact ⟨_, rfl, rfl, hm1597⟩
    refine reg [.bool false] [0, 1, 5, 7, 54] [(0, .slice A0 x0.length c0), (1, .slice A1 x1.length c1), (5, .pointer (some ⟨b90, 0, none⟩)), (7, .pointer (some ⟨b157, 0, none⟩)), (54, .bool false)] [.is (((r107.2 : Int) != 0) = false)] hf170 (by kernel_rfl) ⟨(neF c172), trivial⟩ fun a173 hf174 => ?_
    refine thenN ?_
    refine condF hf174 (by kernel_rfl) ?_
    refine wp_skip ?_
    refine thenN ?_
    refine wp_seq ?_
    refine reg [] [0, 1, 5, 7, 9] [(0, .slice A0 x0.length c0), (1, .slice A1 x1.length c1), (5, .pointer (some ⟨b90, 0, none⟩)), (7, .pointer (some ⟨b157, 0, none⟩)), (9, .slice none 0 0)] [] hf174 (by kernel_rfl) trivial fun a175 hf176 => ?_
    refine thenN ?_
    refine wp_seq ?_
    refine wp_seq ?_
    refine reg [] [0, 1, 5, 7, 9, 10] [(0, .slice A0 x0.length c0), (1, .slice A1 x1.length c1), (5, .pointer (some ⟨b90, 0, none⟩)), (7, .pointer (some ⟨b157, 0, none⟩)), (9, .slice none 0 0), (10, .int .i64 0)] [] hf176 (by kernel_rfl) trivial fun a177 hf178 => ?_
    refine thenN ?_
    have hm180 := hm171.nilOw (Kd.int .i64) 3
    obtain ⟨r186, hr186, H0⟩ := ob_split H0
    refine wpBlock (Mid := fun (a : Act) (w : World) => ∃ (A184 : Option Addr) (c185 : Nat), Fr 155 a [(0, .slice A0 x0.length c0), (1, .slice A1 x1.length c1), (5, .pointer (some ⟨b90, 0, none⟩)), (7, .pointer (some ⟨b157, 0, none⟩)), (9, .slice A184 r186.2.length c185), (10, .int .i64 r186.1)] ∧ Mem [] M w0 [.ow (Kd.int .i64) 3 A184 c185 r186.2, .bx b157 [.slice A158 y109.s.length c159, .slice A160 y109.l.length c161, .slice A162 y109.filled.length c163, .int .i64 y109.left] 80, .sl (Kd.int .i64) A158 c159 y109.s, .ow kTensor 28 A160 c161 y109.l, .ow Kd.bool 4 A162 c163 y109.filled, .bx b90 [.slice A77 r74.1.Shape.length c78, .slice A79 r74.1.Data.length c80] 28, .sl (Kd.int .i64) A77 c78 r74.1.Shape, .sl Kd.float A79 c80 r74.1.Data, .sl kTensor A0 c0 x0, .sl (Kd.int .u8) A1 c1 x1] w) ?_ ?_
    · refine wpLoop (law8_FoldOrders.l0 x0) r186 (fun (s183 : (Int × (List Int))) (a : Act) (w : World) => ∃ (A184 : Option Addr) (c185 : Nat), Fr 155 a [(0, .slice A0 x0.length c0), (1, .slice A1 x1.length c1), (5, .pointer (some ⟨b90, 0, none⟩)), (7, .pointer (some ⟨b157, 0, none⟩)), (9, .slice A184 s183.2.length c185), (10, .int .i64 s183.1)] ∧ Mem [] M w0 [.ow (Kd.int .i64) 3 A184 c185 s183.2, .bx b157 [.slice A158 y109.s.length c159, .slice A160 y109.l.length c161, .slice A162 y109.filled.length c163, .int .i64 y109.left] 80, .sl (Kd.int .i64) A158 c159 y109.s, .ow kTensor 28 A160 c161 y109.l, .ow Kd.bool 4 A162 c163 y109.filled, .bx b90 [.slice A77 r74.1.Shape.length c78, .slice A79 r74.1.Data.length c80] 28, .sl (Kd.int .i64) A77 c78 r74.1.Shape, .sl Kd.float A79 c80 r74.1.Data, .sl kTensor A0 c0 x0, .sl (Kd.int .u8) A1 c1 x1] w) (0, ([] : (List Int))) hr186 ⟨none, 0, hf178.sel (l := [0, 1, 5, 7, 9, 10]) (by kernel_rfl), hm180.sel [0, 1, 2, 3, 4, 5, 6, 7, 8, 9] _ rfl (by kernel_rfl)⟩ ?_
      rintro g187 s183 a188 w189 H1 ⟨A184, c185, hf190, hm191⟩
      unfold law8_FoldOrders.l0 at H1
      refine wp_seq ?_
      refine wp_seq ?_
      rcases ifS_split H1 with ⟨c192, H1⟩ | ⟨c192, H1⟩
      rotate_left
      · refine reg [.bool false] [0, 1, 5, 7, 9, 10, 58] [(0, .slice A0 x0.length c0), (1, .slice A1 x1.length c1), (5, .pointer (some ⟨b90, 0, none⟩)), (7, .pointer (some ⟨b157, 0, none⟩)), (9, .slice A184 s183.2.length c185), (10, .int .i64 s183.1), (58, .bool false)] [.is (decide (s183.1 < (x0.length : Int)) = false)] hf190 (by kernel_rfl) ⟨(decide_eq_false c192), trivial⟩ fun a221 hf222 => ?_
        refine thenN ?_
        refine condF hf222 (by kernel_rfl) ?_
        refine wp_exit ?_
        refine thenE ?_
        refine thenE ?_
        obtain rfl := Option.some.inj H1
        exact .inl ⟨rfl, A184, c185, hf222.sel (l := [0, 1, 5, 7, 9, 10]) (by kernel_rfl), hm191.sel [0, 1, 2, 3, 4, 5, 6, 7, 8, 9] _ rfl (by kernel_rfl)⟩
      refine reg [.bool true] [0, 1, 5, 7, 9, 10, 58] [(0, .slice A0 x0.length c0), (1, .slice A1 x1.length c1), (5, .pointer (some ⟨b90, 0, none⟩)), (7, .pointer (some ⟨b157, 0, none⟩)), (9, .slice A184 s183.2.length c185), (10, .int .i64 s183.1), (58, .bool true)] [.is (decide (s183.1 < (x0.length : Int)) = true)] hf190 (by kernel_rfl) ⟨(decide_eq_true c192), trivial⟩ fun a193 hf194 => ?_
      refine thenN ?_
      refine condT hf194 (by kernel_rfl) ?_
      refine wp_skip ?_
      refine thenN ?_
      refine wp_seq ?_
      refine wp_block ?_
      obtain ⟨g195, H1⟩ := ifS_guard H1
      refine inReg ?_
      refine go 2 [] [0, 1, 5, 7, 9, 10, 61, 62] [(0, .slice A0 x0.length c0), (1, .slice A1 x1.length c1), (5, .pointer (some ⟨b90, 0, none⟩)), (7, .pointer (some ⟨b157, 0, none⟩)), (9, .slice A184 s183.2.length c185), (10, .int .i64 s183.1), (61, .slice A184 s183.2.length c185), (62, .int .i64 s183.1)] [] hf194 (by kernel_rfl) trivial fun a196 hf197 => ?_
      refine listOf hf197 rfl (by kernel_rfl) (aLit (cs := [.int .i64 s183.1]) (E := 3) (len := 1) (d := 63) hf197 (by kernel_rfl) (by kernel_rfl) ?_)
      intro b198 w199 a200 hbb198 hx202 hg203 hf201
      have hm191s := hm191.still hg203
      have hm204 := Mem.lit (kd := (Kd.int .i64)) (xs := ([s183.1] : List Int)) hm191 hbb198 hx202 hg203 (Els.one (kd := (Kd.int .i64)) (us := [.int .i64 s183.1]) (x := s183.1) rfl)
      have e213 : s183.2.length = s183.2.length := rfl
      have e214 : 1 = ([s183.1] : List Int).length := rfl
      refine listOf hf201 rfl (by kernel_rfl) (aApp (kd := (Kd.int .i64)) (base := 0) (E := 3) (A := A184) (B := (some ⟨b198, 0, none⟩)) (c := c185) (c2 := 1) (xs := s183.2) (ys := ([s183.1] : List Int)) (k := s183.2.length) (m := 1) (sz := 1) (d := 64) hf201 (by kernel_rfl) e213 e214 (by kernel_rfl) rfl (by kernel_rfl) (hm204.at 1 rfl) (hm204.at2 1 0 rfl rfl).2 (hm204.cpAt 0 rfl) (Nat.zero_le _) (by have := g195; omega) ?_)
      intro A205 c206 w207 a208 ho210 hg211 hr212 hf209
      have hm215 := hm204.setOwn 1 _ rfl rfl ho210 hg211 hr212
      refine go 1 [] [0, 1, 5, 7, 9, 10] [(0, .slice A0 x0.length c0), (1, .slice A1 x1.length c1), (5, .pointer (some ⟨b90, 0, none⟩)), (7, .pointer (some ⟨b157, 0, none⟩)), (9, .slice A205 ((s183.2 ++ ([s183.1] : List Int)).length) c206), (10, .int .i64 s183.1)] [] hf209 (by kernel_rfl) trivial fun a216 hf217 => ?_
      refine endL rfl ?_
      have hm218 := hm215.sel [1, 2, 3, 4, 5, 6, 7, 8, 9, 10] _ rfl (by kernel_rfl)
      refine blkN ?_
      refine thenN ?_
      refine reg [] [0, 1, 5, 7, 9, 10] [(0, .slice A0 x0.length c0), (1, .slice A1 x1.length c1), (5, .pointer (some ⟨b90, 0, none⟩)), (7, .pointer (some ⟨b157, 0, none⟩)), (9, .slice A205 ((s183.2 ++ ([s183.1] : List Int)).length) c206), (10, .int .i64 (w64 (s183.1 + 1)))] [] hf217 (by kernel_rfl) trivial fun a219 hf220 => ?_
      exact ⟨((w64 (s183.1 + 1)), (s183.2 ++ ([s183.1] : List Int))), H1, A205, c206, hf220.sel (l := [0, 1, 5, 7, 9, 10]) (by kernel_rfl), hm218.sel [0, 1, 2, 3, 4, 5, 6, 7, 8, 9] _ rfl (by kernel_rfl)⟩
    rintro a223 w224 ⟨A184, c185, hf225, hm226⟩
    refine thenN ?_
    refine wp_seq ?_
    refine wp_seq ?_
    refine reg [] [0, 1, 5, 7, 9, 11] [(0, .slice A0 x0.length c0), (1, .slice A1 x1.length c1), (5, .pointer (some ⟨b90, 0, none⟩)), (7, .pointer (some ⟨b157, 0, none⟩)), (9, .slice A184 r186.2.length c185), (11, .int .i64 0)] [] hf225 (by kernel_rfl) trivial fun a227 hf228 => ?_
    refine thenN ?_
    have hm229 := hm226.seal 0 _ rfl rfl
    obtain ⟨r243, hr243, H0⟩ := ob_split H0
    refine wpBlock (Mid := fun (a : Act) (w : World) => ∃ yr243 : ((List Int) × Int × Int × (List Tensor) × (List Bool)), r243 = .go yr243 ∧ ∃ (A237 : Option Addr) (c238 : Nat) (A239 : Option Addr) (c240 : Nat) (A241 : Option Addr) (c242 : Nat), Fr 155 a [(0, .slice A0 x0.length c0), (1, .slice A1 x1.length c1), (5, .pointer (some ⟨b90, 0, none⟩)), (7, .pointer (some ⟨b157, 0, none⟩)), (9, .slice A237 yr243.1.length c238), (11, .int .i64 yr243.2.1)] ∧ Mem [] M w0 [.sl (Kd.int .i64) A237 c238 yr243.1, .bx b157 [.slice A158 y109.s.length c159, .slice A239 yr243.2.2.2.1.length c240, .slice A241 yr243.2.2.2.2.length c242, .int .i64 yr243.2.2.1] 80, .sl (Kd.int .i64) A158 c159 y109.s, .ow kTensor 28 A239 c240 yr243.2.2.2.1, .ow Kd.bool 4 A241 c242 yr243.2.2.2.2, .bx b90 [.slice A77 r74.1.Shape.length c78, .slice A79 r74.1.Data.length c80] 28, .sl (Kd.int .i64) A77 c78 r74.1.Shape, .sl Kd.float A79 c80 r74.1.Data, .sl kTensor A0 c0 x0, .sl (Kd.int .u8) A1 c1 x1] w) ?_ ?_
    · refine wpLoop (law8_FoldOrders.l1 x1 y109 x0) r243 (fun (s236 : ((List Int) × Int × Int × (List Tensor) × (List Bool))) (a : Act) (w : World) => ∃ (A237 : Option Addr) (c238 : Nat) (A239 : Option Addr) (c240 : Nat) (A241 : Option Addr) (c242 : Nat), Fr 155 a [(0, .slice A0 x0.length c0), (1, .slice A1 x1.length c1), (5, .pointer (some ⟨b90, 0, none⟩)), (7, .pointer (some ⟨b157, 0, none⟩)), (9, .slice A237 s236.1.length c238), (11, .int .i64 s236.2.1)] ∧ Mem [] M w0 [.sl (Kd.int .i64) A237 c238 s236.1, .bx b157 [.slice A158 y109.s.length c159, .slice A239 s236.2.2.2.1.length c240, .slice A241 s236.2.2.2.2.length c242, .int .i64 s236.2.2.1] 80, .sl (Kd.int .i64) A158 c159 y109.s, .ow kTensor 28 A239 c240 s236.2.2.2.1, .ow Kd.bool 4 A241 c242 s236.2.2.2.2, .bx b90 [.slice A77 r74.1.Shape.length c78, .slice A79 r74.1.Data.length c80] 28, .sl (Kd.int .i64) A77 c78 r74.1.Shape, .sl Kd.float A79 c80 r74.1.Data, .sl kTensor A0 c0 x0, .sl (Kd.int .u8) A1 c1 x1] w) (r186.2, 0, y109.left, y109.l, y109.filled) hr243 ⟨A184, c185, A160, c161, A162, c163, hf228.sel (l := [0, 1, 5, 7, 9, 11]) (by kernel_rfl), hm229.sel [0, 1, 2, 3, 4, 5, 6, 7, 8, 9] _ rfl (by kernel_rfl)⟩ ?_
      rintro g244 s236 a245 w246 H1 ⟨A237, c238, A239, c240, A241, c242, hf247, hm248⟩
      unfold law8_FoldOrders.l1 at H1
      refine wp_seq ?_
      refine wp_seq ?_
      rcases ifS_split H1 with ⟨c249, H1⟩ | ⟨c249, H1⟩
      rotate_left
      · refine reg [.bool false] [0, 1, 5, 7, 9, 11, 67] [(0, .slice A0 x0.length c0), (1, .slice A1 x1.length c1), (5, .pointer (some ⟨b90, 0, none⟩)), (7, .pointer (some ⟨b157, 0, none⟩)), (9, .slice A237 s236.1.length c238), (11, .int .i64 s236.2.1), (67, .bool false)] [.is (decide (0 < (s236.1.length : Int)) = false)] hf247 (by kernel_rfl) ⟨(decide_eq_false c249), trivial⟩ fun a1516 hf1517 => ?_
        refine thenN ?_
        refine condF hf1517 (by kernel_rfl) ?_
        refine wp_exit ?_
        refine thenE ?_
        refine thenE ?_
        obtain rfl := Option.some.inj H1
        exact .inl ⟨rfl, (s236.1, s236.2.1, s236.2.2.1, s236.2.2.2.1, s236.2.2.2.2), rfl, A237, c238, A239, c240, A241, c242, hf1517.sel (l := [0, 1, 5, 7, 9, 11]) (by kernel_rfl), hm248.sel [0, 1, 2, 3, 4, 5, 6, 7, 8, 9] _ rfl (by kernel_rfl)⟩
      refine reg [.bool true] [0, 1, 5, 7, 9, 11, 67] [(0, .slice A0 x0.length c0), (1, .slice A1 x1.length c1), (5, .pointer (some ⟨b90, 0, none⟩)), (7, .pointer (some ⟨b157, 0, none⟩)), (9, .slice A237 s236.1.length c238), (11, .int .i64 s236.2.1), (67, .bool true)] [.is (decide (0 < (s236.1.length : Int)) = true)] hf247 (by kernel_rfl) ⟨(decide_eq_true c249), trivial⟩ fun a250 hf251 => ?_
      refine thenN ?_
      refine condT hf251 (by kernel_rfl) ?_
      refine wp_skip ?_
      refine thenN ?_
      refine wp_seq ?_
      refine wp_block ?_
      refine wp_seq ?_
      refine reg [] [0, 1, 5, 7, 9, 11, 12] [(0, .slice A0 x0.length c0), (1, .slice A1 x1.length c1), (5, .pointer (some ⟨b90, 0, none⟩)), (7, .pointer (some ⟨b157, 0, none⟩)), (9, .slice A237 s236.1.length c238), (11, .int .i64 s236.2.1), (12, .int .i64 0)] [] hf251 (by kernel_rfl) trivial fun a252 hf253 => ?_
      refine thenN ?_
      refine wp_seq ?_
      refine wp_seq ?_
      rcases ifS_split H1 with ⟨c254, H1⟩ | ⟨c254, H1⟩
      rotate_left
      · refine reg [.bool false] [0, 1, 5, 7, 9, 11, 12, 73] [(0, .slice A0 x0.length c0), (1, .slice A1 x1.length c1), (5, .pointer (some ⟨b90, 0, none⟩)), (7, .pointer (some ⟨b157, 0, none⟩)), (9, .slice A237 s236.1.length c238), (11, .int .i64 s236.2.1), (12, .int .i64 0), (73, .bool false)] [.is (decide (s236.2.1 < (x1.length : Int)) = false)] hf253 (by kernel_rfl) ⟨(decide_eq_false c254), trivial⟩ fun a888 hf889 => ?_
        refine thenN ?_
        refine condF hf889 (by kernel_rfl) ?_
        refine wp_skip ?_
        refine thenN ?_
        refine wp_seq ?_
        obtain ⟨r890, hr890, H1⟩ := obS_split H1
        refine inReg ?_
        refine go 1 [] [0, 1, 5, 7, 9, 11, 12, 83] [(0, .slice A0 x0.length c0), (1, .slice A1 x1.length c1), (5, .pointer (some ⟨b90, 0, none⟩)), (7, .pointer (some ⟨b157, 0, none⟩)), (9, .slice A237 s236.1.length c238), (11, .int .i64 s236.2.1), (12, .int .i64 0), (83, .pointer (some ⟨b157, 0, none⟩))] [] hf889 (by kernel_rfl) trivial fun a891 hf892 => ?_
        refine listOf hf892 rfl (by kernel_rfl) (aCall (fid := 21) (args := [.pointer (some ⟨b157, 0, none⟩)]) (d := 84) hf892 (by kernel_rfl) (by kernel_rfl) callable21 (fold_Slots_Value.calls _ _ _ (⟨y109.s, s236.2.2.2.1, s236.2.2.2.2, s236.2.2.1⟩ : Slots) b157 A158 y109.s.length c159 rfl A239 s236.2.2.2.1.length c240 rfl A241 s236.2.2.2.2.length c242 rfl (hm248.giveO [1, 3, 4] [0, 2, 5, 6, 7, 8, 9] [2] [.bx b157 [.slice A158 y109.s.length c159, .slice A239 s236.2.2.2.1.length c240, .slice A241 s236.2.2.2.2.length c242, .int .i64 s236.2.2.1] 80, .ow kTensor 28 A239 c240 s236.2.2.2.1, .ow Kd.bool 4 A241 c242 s236.2.2.2.2] _ [.sl (Kd.int .i64) A158 c159 y109.s] rfl rfl rfl (by kernel_rfl) rfl) r890 hr890) ?_)
        rintro _ w897 a898 ⟨A893, c894, A895, c896, rfl, hk900⟩ hf899
        have hm901 := hm248.backO [1, 3, 4] [0, 2, 5, 6, 7, 8, 9] _ _ rfl rfl (by kernel_rfl) hk900
        have hm902 := hm901.seal 3 _ rfl rfl
        have hm903 := hm902.seal 4 _ rfl rfl
        refine go 3 [] [0, 1, 5, 7, 9, 11, 12, 85, 86] [(0, .slice A0 x0.length c0), (1, .slice A1 x1.length c1), (5, .pointer (some ⟨b90, 0, none⟩)), (7, .pointer (some ⟨b157, 0, none⟩)), (9, .slice A237 s236.1.length c238), (11, .int .i64 s236.2.1), (12, .int .i64 0), (85, .agg #[.slice A893 r890.1.Shape.length c894, .slice A895 r890.1.Data.length c896]), (86, .int .i64 r890.2)] [] hf899 (by kernel_rfl) trivial fun a904 hf905 => ?_
        refine listOf hf905 rfl (by kernel_rfl) (aNew (cs := [.slice none 0 0, .slice none 0 0]) (T := 28) (d := 13) hf905 (by kernel_rfl) (by kernel_rfl) ?_)
        intro b906 w907 a908 hbb906 hx910 hg911 hf909
        have hm912 := hm903.box hbb906 hx910 hg911
        refine listOf hf909 rfl (by kernel_rfl) (aStoreB (b := b906) (j := 0) (T := 28) (cs := [.slice none 0 0, .slice none 0 0]) (us := [.slice A893 r890.1.Shape.length c894, .slice A895 r890.1.Data.length c896]) (cs' := [.slice A893 r890.1.Shape.length c894, .slice A895 r890.1.Data.length c896]) hf909 (by kernel_rfl) (hm912.bxAt 0 rfl) (by kernel_rfl) (by kernel_rfl) (by kernel_rfl) ?_)
        intro w913 hx914 hg915
        have hm916 := hm912.setBox 0 _ rfl rfl hx914 hg915
        refine go 1 [] [0, 1, 5, 7, 9, 11, 12, 14] [(0, .slice A0 x0.length c0), (1, .slice A1 x1.length c1), (5, .pointer (some ⟨b90, 0, none⟩)), (7, .pointer (some ⟨b157, 0, none⟩)), (9, .slice A237 s236.1.length c238), (11, .int .i64 s236.2.1), (12, .int .i64 0), (14, .int .i64 r890.2)] [] hf909 (by kernel_rfl) trivial fun a917 hf918 => ?_
        refine endL rfl ?_
        have hm919 := hm916.sel [1, 2, 3, 6, 7, 8, 9, 10, 11, 12] _ rfl (by kernel_rfl)
        refine thenN ?_
        refine wp_seq ?_
        refine wp_seq ?_
        rcases ifS_split H1 with ⟨c920, H1⟩ | ⟨c920, H1⟩
        rotate_left
        · refine regQ [.bool true] [0, 1, 5, 7, 9, 11, 12, 127] [(0, .slice A0 x0.length c0), (1, .slice A1 x1.length c1), (5, .pointer (some ⟨b90, 0, none⟩)), (7, .pointer (some ⟨b157, 0, none⟩)), (9, .slice A237 s236.1.length c238), (11, .int .i64 s236.2.1), (12, .int .i64 0), (127, .bool true)] [.is (((r890.2 : Int) != 1) = true)] (by kernel_rfl) (by kernel_rfl) hf918 (by kernel_rfl) ⟨(neT c920), trivial⟩ fun a1506 w1508 hf1507 hg1509 => ?_
          have hm1510 := hm919.still hg1509
          refine thenN ?_
          refine condT hf1507 (by kernel_rfl) ?_
          refine wp_seq ?_
          refine reg [] [4] [(4, .bool false)] [] hf1507 (by kernel_rfl) trivial fun a1511 hf1512 => ?_
          have hm1513 := hm1510.sel [] _ rfl (by kernel_rfl)
          refine thenN ?_
          refine wp_ret ?_
          refine thenR ?_
          refine blkR ?_
          refine thenR ?_
          refine thenR ?_
          refine .inr ⟨rfl, ?_⟩
          refine thenR ?_
          have hm1514 : Mem [] M w0 [] w1508 := hm1513.sel [] _ rfl (by kernel_rfl)
          obtain rfl := Option.some.inj H1
          obtain rfl := Option.some.inj H0
          refine ret [] [.bool false] [] hf1512 (by kernel_rfl) trivial ?_
          exact ⟨_, rfl, rfl, hm1514⟩
        obtain ⟨r921, hr921, H1⟩ := obS_split H1
        rcases ifS_split H1 with ⟨c922, H1⟩ | ⟨c922, H1⟩
        rotate_left
        · refine midReg (fun (a : Act) (w : World) => Fr 155 a [(0, .slice A0 x0.length c0), (1, .slice A1 x1.length c1), (5, .pointer (some ⟨b90, 0, none⟩)), (7, .pointer (some ⟨b157, 0, none⟩)), (9, .slice A237 s236.1.length c238), (11, .int .i64 s236.2.1), (12, .int .i64 0), (127, .bool true)] ∧ Mem [] M w0 [.bx b157 [.slice A158 y109.s.length c159, .slice A239 s236.2.2.2.1.length c240, .slice A241 s236.2.2.2.2.length c242, .int .i64 s236.2.2.1] 80, .ow kTensor 28 A239 c240 s236.2.2.2.1, .ow Kd.bool 4 A241 c242 s236.2.2.2.2, .sl (Kd.int .i64) A237 c238 s236.1, .sl (Kd.int .i64) A158 c159 y109.s, .bx b90 [.slice A77 r74.1.Shape.length c78, .slice A79 r74.1.Data.length c80] 28, .sl (Kd.int .i64) A77 c78 r74.1.Shape, .sl Kd.float A79 c80 r74.1.Data, .sl kTensor A0 c0 x0, .sl (Kd.int .u8) A1 c1 x1] w) ?_ ?_
          · refine anyG [4] (by kernel_rfl) fun w1477 hg1478 => ?_
            have hm1479 := hm919.still hg1478
            refine quiet0 [0, 1, 2, 3, 5, 6] [.bool false] [0, 1, 5, 7, 9, 11, 12, 89, 90, 93] #[true, true, true, true, false, true, true, false, false, false, false, false, false, false, false, false, false, false, false, false, false, false, false, false, false, false, false, false, false, false, false, false, false, false, false, false, false, false, false, false, false] [(0, .slice A0 x0.length c0), (1, .slice A1 x1.length c1), (5, .pointer (some ⟨b90, 0, none⟩)), (7, .pointer (some ⟨b157, 0, none⟩)), (9, .slice A237 s236.1.length c238), (11, .int .i64 s236.2.1), (12, .int .i64 0), (89, .bool false), (90, .pointer (some ⟨b157, 0, none⟩)), (93, .int .i64 (s236.1.length : Int))] [.is (((r890.2 : Int) != 1) = false)] 35 rfl (by kernel_rfl) (fun _ _ _ _ _ h => nomatch h.1) hf918 (by kernel_rfl) ⟨(neF c920), trivial⟩ fun a1488 hf1489 => ?_
            refine all1 4 (by kernel_rfl) ?_
            refine opOf hf1489 rfl (by kernel_rfl) (aCall (fid := 22) (args := [.pointer (some ⟨b157, 0, none⟩)]) (d := 91) hf1489 (by kernel_rfl) (by kernel_rfl) callable22 (fold_Slots_Left.calls _ _ _ (⟨y109.s, s236.2.2.2.1, s236.2.2.2.2, s236.2.2.1⟩ : Slots) b157 A158 y109.s.length c159 rfl A239 s236.2.2.2.1.length c240 rfl A241 s236.2.2.2.2.length c242 rfl (hm1479.giveO [0, 1, 2] [3, 4, 5, 6, 7, 8, 9] [4] [.bx b157 [.slice A158 y109.s.length c159, .slice A239 s236.2.2.2.1.length c240, .slice A241 s236.2.2.2.2.length c242, .int .i64 s236.2.2.1] 80, .ow kTensor 28 A239 c240 s236.2.2.2.1, .ow Kd.bool 4 A241 c242 s236.2.2.2.2] _ [.sl (Kd.int .i64) A158 c159 y109.s] rfl rfl rfl (by kernel_rfl) rfl) r921 hr921) ?_)
            rintro _ w1490 a1491 ⟨rfl, hk1493⟩ hf1492
            refine ⟨.inl (by decide), ?_⟩
            have hm1494 := hm1479.backO [0, 1, 2] [3, 4, 5, 6, 7, 8, 9] _ _ rfl rfl (by kernel_rfl) hk1493
            refine quiet0 [7, 8, 9, 10, 11, 12, 13, 14, 15, 16, 17, 18, 19, 20, 21, 22, 23, 24, 25, 26, 27, 28, 29, 30, 31, 32, 33, 34, 35, 36, 37, 38, 39, 40] [.bool true] [0, 1, 5, 7, 9, 11, 12, 127] #[true, true, true, true, true, true, true, true, true, true, true, true, true, true, true, true, true, true, true, true, true, true, true, true, true, true, true, true, true, true, true, true, true, true, true, true, true, true, true, true, true] [(0, .slice A0 x0.length c0), (1, .slice A1 x1.length c1), (5, .pointer (some ⟨b90, 0, none⟩)), (7, .pointer (some ⟨b157, 0, none⟩)), (9, .slice A237 s236.1.length c238), (11, .int .i64 s236.2.1), (12, .int .i64 0), (127, .bool true)] [.is (((r921 : Int) != (s236.1.length : Int)) = true)] 0 rfl (by kernel_rfl) (fun _ _ _ _ _ h => nomatch h.1) hf1492 (by kernel_rfl) ⟨(neT c922), trivial⟩ fun a1495 hf1496 => ?_
            refine allDone (by kernel_rfl) ⟨rfl, hf1496.sel (l := [0, 1, 5, 7, 9, 11, 12, 127]) (by kernel_rfl), hm1494.sel [0, 1, 2, 3, 4, 5, 6, 7, 8, 9] _ rfl (by kernel_rfl)⟩
          rintro a1497 w1498 ⟨hf1499, hm1500⟩
          refine thenN ?_
          refine condT hf1499 (by kernel_rfl) ?_
          refine wp_seq ?_
          refine reg [] [4] [(4, .bool false)] [] hf1499 (by kernel_rfl) trivial fun a1501 hf1502 => ?_
          have hm1503 := hm1500.sel [] _ rfl (by kernel_rfl)
          refine thenN ?_
          refine wp_ret ?_
          refine thenR ?_
          refine blkR ?_
          refine thenR ?_
          refine thenR ?_
          refine .inr ⟨rfl, ?_⟩
          refine thenR ?_
          have hm1504 : Mem [] M w0 [] w1498 := hm1503.sel [] _ rfl (by kernel_rfl)
          obtain rfl := Option.some.inj H1
          obtain rfl := Option.some.inj H0
          refine ret [] [.bool false] [] hf1502 (by kernel_rfl) trivial ?_
          exact ⟨_, rfl, rfl, hm1504⟩
        obtain ⟨g923, H1⟩ := ifS_guard H1
        obtain ⟨g924, H1⟩ := ifS_guard H1
        obtain ⟨r925, hr925, H1⟩ := obS_split H1
        rcases ifS_split H1 with ⟨c926, H1⟩ | ⟨c926, H1⟩
        rotate_left
        · refine midReg (fun (a : Act) (w : World) => ∃ (A1390 : Option Addr) (c1391 : Nat) (A1392 : Option Addr) (c1393 : Nat), Fr 155 a [(0, .slice A0 x0.length c0), (1, .slice A1 x1.length c1), (5, .pointer (some ⟨b90, 0, none⟩)), (7, .pointer (some ⟨b157, 0, none⟩)), (9, .slice A237 s236.1.length c238), (11, .int .i64 s236.2.1), (12, .int .i64 0), (127, .bool true)] ∧ Mem [] M w0 [.bx b157 [.slice A158 y109.s.length c159, .slice A1390 r925.1.length c1391, .slice A1392 r925.2.1.length c1393, .int .i64 r925.2.2.1] 80, .ow kTensor 28 A1390 c1391 r925.1, .ow Kd.bool 4 A1392 c1393 r925.2.1, .sl (Kd.int .i64) A237 c238 s236.1, .sl (Kd.int .i64) A158 c159 y109.s, .bx b90 [.slice A77 r74.1.Shape.length c78, .slice A79 r74.1.Data.length c80] 28, .sl (Kd.int .i64) A77 c78 r74.1.Shape, .sl Kd.float A79 c80 r74.1.Data, .sl kTensor A0 c0 x0, .sl (Kd.int .u8) A1 c1 x1] w) ?_ ?_
          · refine anyG [4, 22] (by kernel_rfl) fun w1399 hg1400 => ?_
            have hm1401 := hm919.still hg1400
            refine quiet0 [0, 1, 2, 3, 5, 6] [.bool false] [0, 1, 5, 7, 9, 11, 12, 89, 90, 93] #[true, true, true, true, false, true, true, false, false, false, false, false, false, false, false, false, false, false, false, false, false, false, false, false, false, false, false, false, false, false, false, false, false, false, false, false, false, false, false, false, false] [(0, .slice A0 x0.length c0), (1, .slice A1 x1.length c1), (5, .pointer (some ⟨b90, 0, none⟩)), (7, .pointer (some ⟨b157, 0, none⟩)), (9, .slice A237 s236.1.length c238), (11, .int .i64 s236.2.1), (12, .int .i64 0), (89, .bool false), (90, .pointer (some ⟨b157, 0, none⟩)), (93, .int .i64 (s236.1.length : Int))] [.is (((r890.2 : Int) != 1) = false)] 35 rfl (by kernel_rfl) (fun _ _ _ _ _ h => nomatch h.1) hf918 (by kernel_rfl) ⟨(neF c920), trivial⟩ fun a1432 hf1433 => ?_
            refine all1 4 (by kernel_rfl) ?_
            refine opOf hf1433 rfl (by kernel_rfl) (aCall (fid := 22) (args := [.pointer (some ⟨b157, 0, none⟩)]) (d := 91) hf1433 (by kernel_rfl) (by kernel_rfl) callable22 (fold_Slots_Left.calls _ _ _ (⟨y109.s, s236.2.2.2.1, s236.2.2.2.2, s236.2.2.1⟩ : Slots) b157 A158 y109.s.length c159 rfl A239 s236.2.2.2.1.length c240 rfl A241 s236.2.2.2.2.length c242 rfl (hm1401.giveO [0, 1, 2] [3, 4, 5, 6, 7, 8, 9] [4] [.bx b157 [.slice A158 y109.s.length c159, .slice A239 s236.2.2.2.1.length c240, .slice A241 s236.2.2.2.2.length c242, .int .i64 s236.2.2.1] 80, .ow kTensor 28 A239 c240 s236.2.2.2.1, .ow Kd.bool 4 A241 c242 s236.2.2.2.2] _ [.sl (Kd.int .i64) A158 c159 y109.s] rfl rfl rfl (by kernel_rfl) rfl) r921 hr921) ?_)
            rintro _ w1434 a1435 ⟨rfl, hk1437⟩ hf1436
            refine ⟨.inl (by decide), ?_⟩
            have hm1438 := hm1401.backO [0, 1, 2] [3, 4, 5, 6, 7, 8, 9] _ _ rfl rfl (by kernel_rfl) hk1437
            have q1439 := (hm1438.slAt 3 rfl).int 0 g923.1 g923.2
            have q1440 := (hm1438.slAt 3 rfl).int 0 g923.1 g923.2
            have q1441 := (hm1438.slAt 8 rfl).get (rd s236.1 0) g924.1 g924.2
            obtain ⟨us1442, hr1443, hc1444⟩ := q1441.2
            obtain ⟨A1445, c1446, A1447, c1448, rfl, ⟨pA1445, sA1445⟩, ⟨pA1447, sA1447⟩⟩ := kTensor.open hr1443
            have hm1449 := hm1438.elem pA1445 sA1445
            have hm1450 := hm1449.elem pA1447 sA1447
            refine quiet0 [7, 8, 9, 10, 11, 12, 13, 14, 15, 16, 17, 18, 19, 20, 21] [.bool false, .int .i64 (rd s236.1 0), .int .i64 (rd s236.1 0), .agg #[.slice A1445 (((rd x0 (rd s236.1 0)).Shape).length) c1446, .slice A1447 (((rd x0 (rd s236.1 0)).Data).length) c1448]] [0, 1, 5, 7, 9, 11, 12, 96, 97, 101, 108] #[true, true, true, true, true, true, true, true, true, true, true, true, true, true, true, true, true, true, true, true, true, true, false, false, false, false, false, false, false, false, false, false, false, false, false, false, false, false, false, false, false] [(0, .slice A0 x0.length c0), (1, .slice A1 x1.length c1), (5, .pointer (some ⟨b90, 0, none⟩)), (7, .pointer (some ⟨b157, 0, none⟩)), (9, .slice A237 s236.1.length c238), (11, .int .i64 s236.2.1), (12, .int .i64 0), (96, .bool false), (97, .pointer (some ⟨b157, 0, none⟩)), (101, .int .i64 (rd s236.1 0)), (108, .agg #[.slice A1445 (((rd x0 (rd s236.1 0)).Shape).length) c1446, .slice A1447 (((rd x0 (rd s236.1 0)).Data).length) c1448])] [.is (((r921 : Int) != (s236.1.length : Int)) = false), .is (Option.isSome A237 = true), .is ((0 : Int) ≤ 0 ∧ 0 < (s236.1.length : Int)), .cell ((ad A237).add ((0 : Int).toNat * 1)) (.int .i64 (rd s236.1 0)), .is (Option.isSome A237 = true), .is ((0 : Int) ≤ 0 ∧ 0 < (s236.1.length : Int)), .cell ((ad A237).add ((0 : Int).toNat * 1)) (.int .i64 (rd s236.1 0)), .is (Option.isSome A0 = true), .is (0 ≤ (rd s236.1 0) ∧ (rd s236.1 0) < (x0.length : Int)), .cell ((ad A0).add (((rd s236.1 0)).toNat * 2)) (.slice A1445 (((rd x0 (rd s236.1 0)).Shape).length) c1446), .cell (((ad A0).add (((rd s236.1 0)).toNat * 2)).add 1) (.slice A1447 (((rd x0 (rd s236.1 0)).Data).length) c1448)] 19 rfl (by kernel_rfl) (fun _ _ _ _ _ h => nomatch h.1) hf1436 (by kernel_rfl) ⟨(neF c922), q1439.1, g923, q1439.2, q1440.1, g923, q1440.2, q1441.1, g924, (hc1444 0 _ rfl), (hc1444 1 _ rfl), trivial⟩ fun a1451 hf1452 => ?_
            refine all1 22 (by kernel_rfl) ?_
            refine opOf hf1452 rfl (by kernel_rfl) (aCall (fid := 23) (args := [.pointer (some ⟨b157, 0, none⟩), .int .i64 (rd s236.1 0), .agg #[.slice A1445 (((rd x0 (rd s236.1 0)).Shape).length) c1446, .slice A1447 (((rd x0 (rd s236.1 0)).Data).length) c1448]]) (d := 109) hf1452 (by kernel_rfl) (by kernel_rfl) callable23 (fold_Slots_Put.calls _ _ _ (⟨y109.s, s236.2.2.2.1, s236.2.2.2.2, s236.2.2.1⟩ : Slots) b157 A158 y109.s.length c159 rfl A239 s236.2.2.2.1.length c240 rfl A241 s236.2.2.2.2.length c242 rfl (rd s236.1 0) (⟨((rd x0 (rd s236.1 0)).Shape), ((rd x0 (rd s236.1 0)).Data)⟩ : Tensor) A1445 (((rd x0 (rd s236.1 0)).Shape).length) c1446 rfl A1447 (((rd x0 (rd s236.1 0)).Data).length) c1448 rfl (hm1450.giveO [2, 3, 4] [0, 1, 5, 6, 7, 8, 9, 10, 11] [6, 1, 0] [.bx b157 [.slice A158 y109.s.length c159, .slice A239 s236.2.2.2.1.length c240, .slice A241 s236.2.2.2.2.length c242, .int .i64 s236.2.2.1] 80, .ow kTensor 28 A239 c240 s236.2.2.2.1, .ow Kd.bool 4 A241 c242 s236.2.2.2.2] _ [.sl (Kd.int .i64) A158 c159 y109.s, .sl (Kd.int .i64) A1445 c1446 ((rd x0 (rd s236.1 0)).Shape), .sl Kd.float A1447 c1448 ((rd x0 (rd s236.1 0)).Data)] rfl rfl rfl (by kernel_rfl) rfl) r925 hr925) ?_)
            rintro _ w1457 a1458 ⟨A1453, c1454, A1455, c1456, rfl, hk1460⟩ hf1459
            refine ⟨.inl (by decide), ?_⟩
            have hm1461 := hm1450.backO [2, 3, 4] [0, 1, 5, 6, 7, 8, 9, 10, 11] _ _ rfl rfl (by kernel_rfl) hk1460
            refine quiet0 [23, 24, 25, 26, 27, 28, 29, 30, 31, 32, 33, 34, 35, 36, 37, 38, 39, 40] [.bool true] [0, 1, 5, 7, 9, 11, 12, 127] #[true, true, true, true, true, true, true, true, true, true, true, true, true, true, true, true, true, true, true, true, true, true, true, true, true, true, true, true, true, true, true, true, true, true, true, true, true, true, true, true, true] [(0, .slice A0 x0.length c0), (1, .slice A1 x1.length c1), (5, .pointer (some ⟨b90, 0, none⟩)), (7, .pointer (some ⟨b157, 0, none⟩)), (9, .slice A237 s236.1.length c238), (11, .int .i64 s236.2.1), (12, .int .i64 0), (127, .bool true)] [.is (((r925.2.2.2 : Int) != 0) = true)] 0 rfl (by kernel_rfl) (fun _ _ _ _ _ h => nomatch h.1) hf1459 (by kernel_rfl) ⟨(neT c926), trivial⟩ fun a1462 hf1463 => ?_
            refine allDone (by kernel_rfl) ⟨rfl, A1453, c1454, A1455, c1456, hf1463.sel (l := [0, 1, 5, 7, 9, 11, 12, 127]) (by kernel_rfl), hm1461.sel [0, 1, 2, 5, 6, 7, 8, 9, 10, 11] _ rfl (by kernel_rfl)⟩
          rintro a1464 w1465 ⟨A1390, c1391, A1392, c1393, hf1466, hm1467⟩
          refine thenN ?_
          refine condT hf1466 (by kernel_rfl) ?_
          refine wp_seq ?_
          refine reg [] [4] [(4, .bool false)] [] hf1466 (by kernel_rfl) trivial fun a1468 hf1469 => ?_
          have hm1470 := hm1467.sel [] _ rfl (by kernel_rfl)
          refine thenN ?_
          refine wp_ret ?_
          refine thenR ?_
          refine blkR ?_
          refine thenR ?_
          refine thenR ?_
          refine .inr ⟨rfl, ?_⟩
          refine thenR ?_
          have hm1471 : Mem [] M w0 [] w1465 := hm1470.sel [] _ rfl (by kernel_rfl)
          obtain rfl := Option.some.inj H1
          obtain rfl := Option.some.inj H0
          refine ret [] [.bool false] [] hf1469 (by kernel_rfl) trivial ?_
          exact ⟨_, rfl, rfl, hm1471⟩
        obtain ⟨r927, hr927, H1⟩ := obS_split H1
        rcases ifS_split H1 with ⟨c928, H1⟩ | ⟨c928, H1⟩
        rotate_left
        · refine midReg (fun (a : Act) (w : World) => ∃ (A1246 : Option Addr) (c1247 : Nat) (A1248 : Option Addr) (c1249 : Nat), Fr 155 a [(0, .slice A0 x0.length c0), (1, .slice A1 x1.length c1), (5, .pointer (some ⟨b90, 0, none⟩)), (7, .pointer (some ⟨b157, 0, none⟩)), (9, .slice A237 s236.1.length c238), (11, .int .i64 s236.2.1), (12, .int .i64 0), (127, .bool true)] ∧ Mem [] M w0 [.bx b157 [.slice A158 y109.s.length c159, .slice A1246 r927.1.length c1247, .slice A1248 r927.2.1.length c1249, .int .i64 r927.2.2.1] 80, .ow kTensor 28 A1246 c1247 r927.1, .ow Kd.bool 4 A1248 c1249 r927.2.1, .sl (Kd.int .i64) A237 c238 s236.1, .sl (Kd.int .i64) A158 c159 y109.s, .bx b90 [.slice A77 r74.1.Shape.length c78, .slice A79 r74.1.Data.length c80] 28, .sl (Kd.int .i64) A77 c78 r74.1.Shape, .sl Kd.float A79 c80 r74.1.Data, .sl kTensor A0 c0 x0, .sl (Kd.int .u8) A1 c1 x1] w) ?_ ?_
          · refine anyG [4, 22, 38] (by kernel_rfl) fun w1255 hg1256 => ?_
            have hm1257 := hm919.still hg1256
            refine quiet0 [0, 1, 2, 3, 5, 6] [.bool false] [0, 1, 5, 7, 9, 11, 12, 89, 90, 93] #[true, true, true, true, false, true, true, false, false, false, false, false, false, false, false, false, false, false, false, false, false, false, false, false, false, false, false, false, false, false, false, false, false, false, false, false, false, false, false, false, false] [(0, .slice A0 x0.length c0), (1, .slice A1 x1.length c1), (5, .pointer (some ⟨b90, 0, none⟩)), (7, .pointer (some ⟨b157, 0, none⟩)), (9, .slice A237 s236.1.length c238), (11, .int .i64 s236.2.1), (12, .int .i64 0), (89, .bool false), (90, .pointer (some ⟨b157, 0, none⟩)), (93, .int .i64 (s236.1.length : Int))] [.is (((r890.2 : Int) != 1) = false)] 35 rfl (by kernel_rfl) (fun _ _ _ _ _ h => nomatch h.1) hf918 (by kernel_rfl) ⟨(neF c920), trivial⟩ fun a1310 hf1311 => ?_
            refine all1 4 (by kernel_rfl) ?_
            refine opOf hf1311 rfl (by kernel_rfl) (aCall (fid := 22) (args := [.pointer (some ⟨b157, 0, none⟩)]) (d := 91) hf1311 (by kernel_rfl) (by kernel_rfl) callable22 (fold_Slots_Left.calls _ _ _ (⟨y109.s, s236.2.2.2.1, s236.2.2.2.2, s236.2.2.1⟩ : Slots) b157 A158 y109.s.length c159 rfl A239 s236.2.2.2.1.length c240 rfl A241 s236.2.2.2.2.length c242 rfl (hm1257.giveO [0, 1, 2] [3, 4, 5, 6, 7, 8, 9] [4] [.bx b157 [.slice A158 y109.s.length c159, .slice A239 s236.2.2.2.1.length c240, .slice A241 s236.2.2.2.2.length c242, .int .i64 s236.2.2.1] 80, .ow kTensor 28 A239 c240 s236.2.2.2.1, .ow Kd.bool 4 A241 c242 s236.2.2.2.2] _ [.sl (Kd.int .i64) A158 c159 y109.s] rfl rfl rfl (by kernel_rfl) rfl) r921 hr921) ?_)
            rintro _ w1312 a1313 ⟨rfl, hk1315⟩ hf1314
            refine ⟨.inl (by decide), ?_⟩
            have hm1316 := hm1257.backO [0, 1, 2] [3, 4, 5, 6, 7, 8, 9] _ _ rfl rfl (by kernel_rfl) hk1315
            have q1317 := (hm1316.slAt 3 rfl).int 0 g923.1 g923.2
            have q1318 := (hm1316.slAt 3 rfl).int 0 g923.1 g923.2
            have q1319 := (hm1316.slAt 8 rfl).get (rd s236.1 0) g924.1 g924.2
            obtain ⟨us1320, hr1321, hc1322⟩ := q1319.2
            obtain ⟨A1323, c1324, A1325, c1326, rfl, ⟨pA1323, sA1323⟩, ⟨pA1325, sA1325⟩⟩ := kTensor.open hr1321
            have hm1327 := hm1316.elem pA1323 sA1323
            have hm1328 := hm1327.elem pA1325 sA1325
            refine quiet0 [7, 8, 9, 10, 11, 12, 13, 14, 15, 16, 17, 18, 19, 20, 21] [.bool false, .int .i64 (rd s236.1 0), .int .i64 (rd s236.1 0), .agg #[.slice A1323 (((rd x0 (rd s236.1 0)).Shape).length) c1324, .slice A1325 (((rd x0 (rd s236.1 0)).Data).length) c1326]] [0, 1, 5, 7, 9, 11, 12, 96, 97, 101, 108] #[true, true, true, true, true, true, true, true, true, true, true, true, true, true, true, true, true, true, true, true, true, true, false, false, false, false, false, false, false, false, false, false, false, false, false, false, false, false, false, false, false] [(0, .slice A0 x0.length c0), (1, .slice A1 x1.length c1), (5, .pointer (some ⟨b90, 0, none⟩)), (7, .pointer (some ⟨b157, 0, none⟩)), (9, .slice A237 s236.1.length c238), (11, .int .i64 s236.2.1), (12, .int .i64 0), (96, .bool false), (97, .pointer (some ⟨b157, 0, none⟩)), (101, .int .i64 (rd s236.1 0)), (108, .agg #[.slice A1323 (((rd x0 (rd s236.1 0)).Shape).length) c1324, .slice A1325 (((rd x0 (rd s236.1 0)).Data).length) c1326])] [.is (((r921 : Int) != (s236.1.length : Int)) = false), .is (Option.isSome A237 = true), .is ((0 : Int) ≤ 0 ∧ 0 < (s236.1.length : Int)), .cell ((ad A237).add ((0 : Int).toNat * 1)) (.int .i64 (rd s236.1 0)), .is (Option.isSome A237 = true), .is ((0 : Int) ≤ 0 ∧ 0 < (s236.1.length : Int)), .cell ((ad A237).add ((0 : Int).toNat * 1)) (.int .i64 (rd s236.1 0)), .is (Option.isSome A0 = true), .is (0 ≤ (rd s236.1 0) ∧ (rd s236.1 0) < (x0.length : Int)), .cell ((ad A0).add (((rd s236.1 0)).toNat * 2)) (.slice A1323 (((rd x0 (rd s236.1 0)).Shape).length) c1324), .cell (((ad A0).add (((rd s236.1 0)).toNat * 2)).add 1) (.slice A1325 (((rd x0 (rd s236.1 0)).Data).length) c1326)] 19 rfl (by kernel_rfl) (fun _ _ _ _ _ h => nomatch h.1) hf1314 (by kernel_rfl) ⟨(neF c922), q1317.1, g923, q1317.2, q1318.1, g923, q1318.2, q1319.1, g924, (hc1322 0 _ rfl), (hc1322 1 _ rfl), trivial⟩ fun a1329 hf1330 => ?_
            refine all1 22 (by kernel_rfl) ?_
            refine opOf hf1330 rfl (by kernel_rfl) (aCall (fid := 23) (args := [.pointer (some ⟨b157, 0, none⟩), .int .i64 (rd s236.1 0), .agg #[.slice A1323 (((rd x0 (rd s236.1 0)).Shape).length) c1324, .slice A1325 (((rd x0 (rd s236.1 0)).Data).length) c1326]]) (d := 109) hf1330 (by kernel_rfl) (by kernel_rfl) callable23 (fold_Slots_Put.calls _ _ _ (⟨y109.s, s236.2.2.2.1, s236.2.2.2.2, s236.2.2.1⟩ : Slots) b157 A158 y109.s.length c159 rfl A239 s236.2.2.2.1.length c240 rfl A241 s236.2.2.2.2.length c242 rfl (rd s236.1 0) (⟨((rd x0 (rd s236.1 0)).Shape), ((rd x0 (rd s236.1 0)).Data)⟩ : Tensor) A1323 (((rd x0 (rd s236.1 0)).Shape).length) c1324 rfl A1325 (((rd x0 (rd s236.1 0)).Data).length) c1326 rfl (hm1328.giveO [2, 3, 4] [0, 1, 5, 6, 7, 8, 9, 10, 11] [6, 1, 0] [.bx b157 [.slice A158 y109.s.length c159, .slice A239 s236.2.2.2.1.length c240, .slice A241 s236.2.2.2.2.length c242, .int .i64 s236.2.2.1] 80, .ow kTensor 28 A239 c240 s236.2.2.2.1, .ow Kd.bool 4 A241 c242 s236.2.2.2.2] _ [.sl (Kd.int .i64) A158 c159 y109.s, .sl (Kd.int .i64) A1323 c1324 ((rd x0 (rd s236.1 0)).Shape), .sl Kd.float A1325 c1326 ((rd x0 (rd s236.1 0)).Data)] rfl rfl rfl (by kernel_rfl) rfl) r925 hr925) ?_)
            rintro _ w1335 a1336 ⟨A1331, c1332, A1333, c1334, rfl, hk1338⟩ hf1337
            refine ⟨.inl (by decide), ?_⟩
            have hm1339 := hm1328.backO [2, 3, 4] [0, 1, 5, 6, 7, 8, 9, 10, 11] _ _ rfl rfl (by kernel_rfl) hk1338
            have q1340 := (hm1339.slAt 5 rfl).int 0 g923.1 g923.2
            have q1341 := (hm1339.slAt 5 rfl).int 0 g923.1 g923.2
            have q1342 := (hm1339.slAt 10 rfl).get (rd s236.1 0) g924.1 g924.2
            obtain ⟨us1343, hr1344, hc1345⟩ := q1342.2
            obtain ⟨A1346, c1347, A1348, c1349, rfl, ⟨pA1346, sA1346⟩, ⟨pA1348, sA1348⟩⟩ := kTensor.open hr1344
            have hm1350 := hm1339.elem pA1346 sA1346
            have hm1351 := hm1350.elem pA1348 sA1348
            refine quiet0 [23, 24, 25, 26, 27, 28, 29, 30, 31, 32, 33, 34, 35, 36, 37] [.bool false, .int .i64 (rd s236.1 0), .int .i64 (rd s236.1 0), .agg #[.slice A1346 (((rd x0 (rd s236.1 0)).Shape).length) c1347, .slice A1348 (((rd x0 (rd s236.1 0)).Data).length) c1349]] [0, 1, 5, 7, 9, 11, 12, 112, 113, 117, 124] #[true, true, true, true, true, true, true, true, true, true, true, true, true, true, true, true, true, true, true, true, true, true, true, true, true, true, true, true, true, true, true, true, true, true, true, true, true, true, false, false, false] [(0, .slice A0 x0.length c0), (1, .slice A1 x1.length c1), (5, .pointer (some ⟨b90, 0, none⟩)), (7, .pointer (some ⟨b157, 0, none⟩)), (9, .slice A237 s236.1.length c238), (11, .int .i64 s236.2.1), (12, .int .i64 0), (112, .bool false), (113, .pointer (some ⟨b157, 0, none⟩)), (117, .int .i64 (rd s236.1 0)), (124, .agg #[.slice A1346 (((rd x0 (rd s236.1 0)).Shape).length) c1347, .slice A1348 (((rd x0 (rd s236.1 0)).Data).length) c1349])] [.is (((r925.2.2.2 : Int) != 0) = false), .is (Option.isSome A237 = true), .is ((0 : Int) ≤ 0 ∧ 0 < (s236.1.length : Int)), .cell ((ad A237).add ((0 : Int).toNat * 1)) (.int .i64 (rd s236.1 0)), .is (Option.isSome A237 = true), .is ((0 : Int) ≤ 0 ∧ 0 < (s236.1.length : Int)), .cell ((ad A237).add ((0 : Int).toNat * 1)) (.int .i64 (rd s236.1 0)), .is (Option.isSome A0 = true), .is (0 ≤ (rd s236.1 0) ∧ (rd s236.1 0) < (x0.length : Int)), .cell ((ad A0).add (((rd s236.1 0)).toNat * 2)) (.slice A1346 (((rd x0 (rd s236.1 0)).Shape).length) c1347), .cell (((ad A0).add (((rd s236.1 0)).toNat * 2)).add 1) (.slice A1348 (((rd x0 (rd s236.1 0)).Data).length) c1349)] 3 rfl (by kernel_rfl) (fun _ _ _ _ _ h => nomatch h.1) hf1337 (by kernel_rfl) ⟨(neF c926), q1340.1, g923, q1340.2, q1341.1, g923, q1341.2, q1342.1, g924, (hc1345 0 _ rfl), (hc1345 1 _ rfl), trivial⟩ fun a1352 hf1353 => ?_
            refine all1 38 (by kernel_rfl) ?_
            refine opOf hf1353 rfl (by kernel_rfl) (aCall (fid := 23) (args := [.pointer (some ⟨b157, 0, none⟩), .int .i64 (rd s236.1 0), .agg #[.slice A1346 (((rd x0 (rd s236.1 0)).Shape).length) c1347, .slice A1348 (((rd x0 (rd s236.1 0)).Data).length) c1349]]) (d := 125) hf1353 (by kernel_rfl) (by kernel_rfl) callable23 (fold_Slots_Put.calls _ _ _ (⟨y109.s, r925.1, r925.2.1, r925.2.2.1⟩ : Slots) b157 A158 y109.s.length c159 rfl A1331 r925.1.length c1332 rfl A1333 r925.2.1.length c1334 rfl (rd s236.1 0) (⟨((rd x0 (rd s236.1 0)).Shape), ((rd x0 (rd s236.1 0)).Data)⟩ : Tensor) A1346 (((rd x0 (rd s236.1 0)).Shape).length) c1347 rfl A1348 (((rd x0 (rd s236.1 0)).Data).length) c1349 rfl (hm1351.giveO [2, 3, 4] [0, 1, 5, 6, 7, 8, 9, 10, 11, 12, 13] [8, 1, 0] [.bx b157 [.slice A158 y109.s.length c159, .slice A1331 r925.1.length c1332, .slice A1333 r925.2.1.length c1334, .int .i64 r925.2.2.1] 80, .ow kTensor 28 A1331 c1332 r925.1, .ow Kd.bool 4 A1333 c1334 r925.2.1] _ [.sl (Kd.int .i64) A158 c159 y109.s, .sl (Kd.int .i64) A1346 c1347 ((rd x0 (rd s236.1 0)).Shape), .sl Kd.float A1348 c1349 ((rd x0 (rd s236.1 0)).Data)] rfl rfl rfl (by kernel_rfl) rfl) r927 hr927) ?_)
            rintro _ w1358 a1359 ⟨A1354, c1355, A1356, c1357, rfl, hk1361⟩ hf1360
            refine ⟨.inl (by decide), ?_⟩
            have hm1362 := hm1351.backO [2, 3, 4] [0, 1, 5, 6, 7, 8, 9, 10, 11, 12, 13] _ _ rfl rfl (by kernel_rfl) hk1361
            refine quiet0 [39, 40] [.bool true] [0, 1, 5, 7, 9, 11, 12, 127] #[true, true, true, true, true, true, true, true, true, true, true, true, true, true, true, true, true, true, true, true, true, true, true, true, true, true, true, true, true, true, true, true, true, true, true, true, true, true, true, true, true] [(0, .slice A0 x0.length c0), (1, .slice A1 x1.length c1), (5, .pointer (some ⟨b90, 0, none⟩)), (7, .pointer (some ⟨b157, 0, none⟩)), (9, .slice A237 s236.1.length c238), (11, .int .i64 s236.2.1), (12, .int .i64 0), (127, .bool true)] [.is (((r927.2.2.2 : Int) != 1) = true)] 0 rfl (by kernel_rfl) (fun _ _ _ _ _ h => nomatch h.1) hf1360 (by kernel_rfl) ⟨(neT c928), trivial⟩ fun a1363 hf1364 => ?_
            refine allDone (by kernel_rfl) ⟨rfl, A1354, c1355, A1356, c1357, hf1364.sel (l := [0, 1, 5, 7, 9, 11, 12, 127]) (by kernel_rfl), hm1362.sel [0, 1, 2, 7, 8, 9, 10, 11, 12, 13] _ rfl (by kernel_rfl)⟩
          rintro a1365 w1366 ⟨A1246, c1247, A1248, c1249, hf1367, hm1368⟩
          refine thenN ?_
          refine condT hf1367 (by kernel_rfl) ?_
          refine wp_seq ?_
          refine reg [] [4] [(4, .bool false)] [] hf1367 (by kernel_rfl) trivial fun a1369 hf1370 => ?_
          have hm1371 := hm1368.sel [] _ rfl (by kernel_rfl)
          refine thenN ?_
          refine wp_ret ?_
          refine thenR ?_
          refine blkR ?_
          refine thenR ?_
          refine thenR ?_
          refine .inr ⟨rfl, ?_⟩
          refine thenR ?_
          have hm1372 : Mem [] M w0 [] w1366 := hm1371.sel [] _ rfl (by kernel_rfl)
          obtain rfl := Option.some.inj H1
          obtain rfl := Option.some.inj H0
          refine ret [] [.bool false] [] hf1370 (by kernel_rfl) trivial ?_
          exact ⟨_, rfl, rfl, hm1372⟩
        refine midReg (fun (a : Act) (w : World) => ∃ (A965 : Option Addr) (c966 : Nat) (A967 : Option Addr) (c968 : Nat), Fr 155 a [(0, .slice A0 x0.length c0), (1, .slice A1 x1.length c1), (5, .pointer (some ⟨b90, 0, none⟩)), (7, .pointer (some ⟨b157, 0, none⟩)), (9, .slice A237 s236.1.length c238), (11, .int .i64 s236.2.1), (12, .int .i64 0), (127, .bool false)] ∧ Mem [] M w0 [.bx b157 [.slice A158 y109.s.length c159, .slice A965 r927.1.length c966, .slice A967 r927.2.1.length c968, .int .i64 r927.2.2.1] 80, .ow kTensor 28 A965 c966 r927.1, .ow Kd.bool 4 A967 c968 r927.2.1, .sl (Kd.int .i64) A237 c238 s236.1, .sl (Kd.int .i64) A158 c159 y109.s, .bx b90 [.slice A77 r74.1.Shape.length c78, .slice A79 r74.1.Data.length c80] 28, .sl (Kd.int .i64) A77 c78 r74.1.Shape, .sl Kd.float A79 c80 r74.1.Data, .sl kTensor A0 c0 x0, .sl (Kd.int .u8) A1 c1 x1] w) ?_ ?_
        · refine anyG [4, 22, 38] (by kernel_rfl) fun w974 hg975 => ?_
          have hm976 := hm919.still hg975
          refine quiet0 [0, 1, 2, 3, 5, 6] [.bool false] [0, 1, 5, 7, 9, 11, 12, 89, 90, 93] #[true, true, true, true, false, true, true, false, false, false, false, false, false, false, false, false, false, false, false, false, false, false, false, false, false, false, false, false, false, false, false, false, false, false, false, false, false, false, false, false, false] [(0, .slice A0 x0.length c0), (1, .slice A1 x1.length c1), (5, .pointer (some ⟨b90, 0, none⟩)), (7, .pointer (some ⟨b157, 0, none⟩)), (9, .slice A237 s236.1.length c238), (11, .int .i64 s236.2.1), (12, .int .i64 0), (89, .bool false), (90, .pointer (some ⟨b157, 0, none⟩)), (93, .int .i64 (s236.1.length : Int))] [.is (((r890.2 : Int) != 1) = false)] 35 rfl (by kernel_rfl) (fun _ _ _ _ _ h => nomatch h.1) hf918 (by kernel_rfl) ⟨(neF c920), trivial⟩ fun a1029 hf1030 => ?_
          refine all1 4 (by kernel_rfl) ?_
          refine opOf hf1030 rfl (by kernel_rfl) (aCall (fid := 22) (args := [.pointer (some ⟨b157, 0, none⟩)]) (d := 91) hf1030 (by kernel_rfl) (by kernel_rfl) callable22 (fold_Slots_Left.calls _ _ _ (⟨y109.s, s236.2.2.2.1, s236.2.2.2.2, s236.2.2.1⟩ : Slots) b157 A158 y109.s.length c159 rfl A239 s236.2.2.2.1.length c240 rfl A241 s236.2.2.2.2.length c242 rfl (hm976.giveO [0, 1, 2] [3, 4, 5, 6, 7, 8, 9] [4] [.bx b157 [.slice A158 y109.s.length c159, .slice A239 s236.2.2.2.1.length c240, .slice A241 s236.2.2.2.2.length c242, .int .i64 s236.2.2.1] 80, .ow kTensor 28 A239 c240 s236.2.2.2.1, .ow Kd.bool 4 A241 c242 s236.2.2.2.2] _ [.sl (Kd.int .i64) A158 c159 y109.s] rfl rfl rfl (by kernel_rfl) rfl) r921 hr921) ?_)
          rintro _ w1031 a1032 ⟨rfl, hk1034⟩ hf1033
          refine ⟨.inl (by decide), ?_⟩
          have hm1035 := hm976.backO [0, 1, 2] [3, 4, 5, 6, 7, 8, 9] _ _ rfl rfl (by kernel_rfl) hk1034
          have q1036 := (hm1035.slAt 3 rfl).int 0 g923.1 g923.2
          have q1037 := (hm1035.slAt 3 rfl).int 0 g923.1 g923.2
          have q1038 := (hm1035.slAt 8 rfl).get (rd s236.1 0) g924.1 g924.2
          obtain ⟨us1039, hr1040, hc1041⟩ := q1038.2
          obtain ⟨A1042, c1043, A1044, c1045, rfl, ⟨pA1042, sA1042⟩, ⟨pA1044, sA1044⟩⟩ := kTensor.open hr1040
          have hm1046 := hm1035.elem pA1042 sA1042
          have hm1047 := hm1046.elem pA1044 sA1044
          refine quiet0 [7, 8, 9, 10, 11, 12, 13, 14, 15, 16, 17, 18, 19, 20, 21] [.bool false, .int .i64 (rd s236.1 0), .int .i64 (rd s236.1 0), .agg #[.slice A1042 (((rd x0 (rd s236.1 0)).Shape).length) c1043, .slice A1044 (((rd x0 (rd s236.1 0)).Data).length) c1045]] [0, 1, 5, 7, 9, 11, 12, 96, 97, 101, 108] #[true, true, true, true, true, true, true, true, true, true, true, true, true, true, true, true, true, true, true, true, true, true, false, false, false, false, false, false, false, false, false, false, false, false, false, false, false, false, false, false, false] [(0, .slice A0 x0.length c0), (1, .slice A1 x1.length c1), (5, .pointer (some ⟨b90, 0, none⟩)), (7, .pointer (some ⟨b157, 0, none⟩)), (9, .slice A237 s236.1.length c238), (11, .int .i64 s236.2.1), (12, .int .i64 0), (96, .bool false), (97, .pointer (some ⟨b157, 0, none⟩)), (101, .int .i64 (rd s236.1 0)), (108, .agg #[.slice A1042 (((rd x0 (rd s236.1 0)).Shape).length) c1043, .slice A1044 (((rd x0 (rd s236.1 0)).Data).length) c1045])] [.is (((r921 : Int) != (s236.1.length : Int)) = false), .is (Option.isSome A237 = true), .is ((0 : Int) ≤ 0 ∧ 0 < (s236.1.length : Int)), .cell ((ad A237).add ((0 : Int).toNat * 1)) (.int .i64 (rd s236.1 0)), .is (Option.isSome A237 = true), .is ((0 : Int) ≤ 0 ∧ 0 < (s236.1.length : Int)), .cell ((ad A237).add ((0 : Int).toNat * 1)) (.int .i64 (rd s236.1 0)), .is (Option.isSome A0 = true), .is (0 ≤ (rd s236.1 0) ∧ (rd s236.1 0) < (x0.length : Int)), .cell ((ad A0).add (((rd s236.1 0)).toNat * 2)) (.slice A1042 (((rd x0 (rd s236.1 0)).Shape).length) c1043), .cell (((ad A0).add (((rd s236.1 0)).toNat * 2)).add 1) (.slice A1044 (((rd x0 (rd s236.1 0)).Data).length) c1045)] 19 rfl (by kernel_rfl) (fun _ _ _ _ _ h => nomatch h.1) hf1033 (by kernel_rfl) ⟨(neF c922), q1036.1, g923, q1036.2, q1037.1, g923, q1037.2, q1038.1, g924, (hc1041 0 _ rfl), (hc1041 1 _ rfl), trivial⟩ fun a1048 hf1049 => ?_
          refine all1 22 (by kernel_rfl) ?_
          refine opOf hf1049 rfl (by kernel_rfl) (aCall (fid := 23) (args := [.pointer (some ⟨b157, 0, none⟩), .int .i64 (rd s236.1 0), .agg #[.slice A1042 (((rd x0 (rd s236.1 0)).Shape).length) c1043, .slice A1044 (((rd x0 (rd s236.1 0)).Data).length) c1045]]) (d := 109) hf1049 (by kernel_rfl) (by kernel_rfl) callable23 (fold_Slots_Put.calls _ _ _ (⟨y109.s, s236.2.2.2.1, s236.2.2.2.2, s236.2.2.1⟩ : Slots) b157 A158 y109.s.length c159 rfl A239 s236.2.2.2.1.length c240 rfl A241 s236.2.2.2.2.length c242 rfl (rd s236.1 0) (⟨((rd x0 (rd s236.1 0)).Shape), ((rd x0 (rd s236.1 0)).Data)⟩ : Tensor) A1042 (((rd x0 (rd s236.1 0)).Shape).length) c1043 rfl A1044 (((rd x0 (rd s236.1 0)).Data).length) c1045 rfl (hm1047.giveO [2, 3, 4] [0, 1, 5, 6, 7, 8, 9, 10, 11] [6, 1, 0] [.bx b157 [.slice A158 y109.s.length c159, .slice A239 s236.2.2.2.1.length c240, .slice A241 s236.2.2.2.2.length c242, .int .i64 s236.2.2.1] 80, .ow kTensor 28 A239 c240 s236.2.2.2.1, .ow Kd.bool 4 A241 c242 s236.2.2.2.2] _ [.sl (Kd.int .i64) A158 c159 y109.s, .sl (Kd.int .i64) A1042 c1043 ((rd x0 (rd s236.1 0)).Shape), .sl Kd.float A1044 c1045 ((rd x0 (rd s236.1 0)).Data)] rfl rfl rfl (by kernel_rfl) rfl) r925 hr925) ?_)
          rintro _ w1054 a1055 ⟨A1050, c1051, A1052, c1053, rfl, hk1057⟩ hf1056
          refine ⟨.inl (by decide), ?_⟩
          have hm1058 := hm1047.backO [2, 3, 4] [0, 1, 5, 6, 7, 8, 9, 10, 11] _ _ rfl rfl (by kernel_rfl) hk1057
          have q1059 := (hm1058.slAt 5 rfl).int 0 g923.1 g923.2
          have q1060 := (hm1058.slAt 5 rfl).int 0 g923.1 g923.2
          have q1061 := (hm1058.slAt 10 rfl).get (rd s236.1 0) g924.1 g924.2
          obtain ⟨us1062, hr1063, hc1064⟩ := q1061.2
          obtain ⟨A1065, c1066, A1067, c1068, rfl, ⟨pA1065, sA1065⟩, ⟨pA1067, sA1067⟩⟩ := kTensor.open hr1063
          have hm1069 := hm1058.elem pA1065 sA1065
          have hm1070 := hm1069.elem pA1067 sA1067
          refine quiet0 [23, 24, 25, 26, 27, 28, 29, 30, 31, 32, 33, 34, 35, 36, 37] [.bool false, .int .i64 (rd s236.1 0), .int .i64 (rd s236.1 0), .agg #[.slice A1065 (((rd x0 (rd s236.1 0)).Shape).length) c1066, .slice A1067 (((rd x0 (rd s236.1 0)).Data).length) c1068]] [0, 1, 5, 7, 9, 11, 12, 112, 113, 117, 124] #[true, true, true, true, true, true, true, true, true, true, true, true, true, true, true, true, true, true, true, true, true, true, true, true, true, true, true, true, true, true, true, true, true, true, true, true, true, true, false, false, false] [(0, .slice A0 x0.length c0), (1, .slice A1 x1.length c1), (5, .pointer (some ⟨b90, 0, none⟩)), (7, .pointer (some ⟨b157, 0, none⟩)), (9, .slice A237 s236.1.length c238), (11, .int .i64 s236.2.1), (12, .int .i64 0), (112, .bool false), (113, .pointer (some ⟨b157, 0, none⟩)), (117, .int .i64 (rd s236.1 0)), (124, .agg #[.slice A1065 (((rd x0 (rd s236.1 0)).Shape).length) c1066, .slice A1067 (((rd x0 (rd s236.1 0)).Data).length) c1068])] [.is (((r925.2.2.2 : Int) != 0) = false), .is (Option.isSome A237 = true), .is ((0 : Int) ≤ 0 ∧ 0 < (s236.1.length : Int)), .cell ((ad A237).add ((0 : Int).toNat * 1)) (.int .i64 (rd s236.1 0)), .is (Option.isSome A237 = true), .is ((0 : Int) ≤ 0 ∧ 0 < (s236.1.length : Int)), .cell ((ad A237).add ((0 : Int).toNat * 1)) (.int .i64 (rd s236.1 0)), .is (Option.isSome A0 = true), .is (0 ≤ (rd s236.1 0) ∧ (rd s236.1 0) < (x0.length : Int)), .cell ((ad A0).add (((rd s236.1 0)).toNat * 2)) (.slice A1065 (((rd x0 (rd s236.1 0)).Shape).length) c1066), .cell (((ad A0).add (((rd s236.1 0)).toNat * 2)).add 1) (.slice A1067 (((rd x0 (rd s236.1 0)).Data).length) c1068)] 3 rfl (by kernel_rfl) (fun _ _ _ _ _ h => nomatch h.1) hf1056 (by kernel_rfl) ⟨(neF c926), q1059.1, g923, q1059.2, q1060.1, g923, q1060.2, q1061.1, g924, (hc1064 0 _ rfl), (hc1064 1 _ rfl), trivial⟩ fun a1071 hf1072 => ?_
          refine all1 38 (by kernel_rfl) ?_
          refine opOf hf1072 rfl (by kernel_rfl) (aCall (fid := 23) (args := [.pointer (some ⟨b157, 0, none⟩), .int .i64 (rd s236.1 0), .agg #[.slice A1065 (((rd x0 (rd s236.1 0)).Shape).length) c1066, .slice A1067 (((rd x0 (rd s236.1 0)).Data).length) c1068]]) (d := 125) hf1072 (by kernel_rfl) (by kernel_rfl) callable23 (fold_Slots_Put.calls _ _ _ (⟨y109.s, r925.1, r925.2.1, r925.2.2.1⟩ : Slots) b157 A158 y109.s.length c159 rfl A1050 r925.1.length c1051 rfl A1052 r925.2.1.length c1053 rfl (rd s236.1 0) (⟨((rd x0 (rd s236.1 0)).Shape), ((rd x0 (rd s236.1 0)).Data)⟩ : Tensor) A1065 (((rd x0 (rd s236.1 0)).Shape).length) c1066 rfl A1067 (((rd x0 (rd s236.1 0)).Data).length) c1068 rfl (hm1070.giveO [2, 3, 4] [0, 1, 5, 6, 7, 8, 9, 10, 11, 12, 13] [8, 1, 0] [.bx b157 [.slice A158 y109.s.length c159, .slice A1050 r925.1.length c1051, .slice A1052 r925.2.1.length c1053, .int .i64 r925.2.2.1] 80, .ow kTensor 28 A1050 c1051 r925.1, .ow Kd.bool 4 A1052 c1053 r925.2.1] _ [.sl (Kd.int .i64) A158 c159 y109.s, .sl (Kd.int .i64) A1065 c1066 ((rd x0 (rd s236.1 0)).Shape), .sl Kd.float A1067 c1068 ((rd x0 (rd s236.1 0)).Data)] rfl rfl rfl (by kernel_rfl) rfl) r927 hr927) ?_)
          rintro _ w1077 a1078 ⟨A1073, c1074, A1075, c1076, rfl, hk1080⟩ hf1079
          refine ⟨.inl (by decide), ?_⟩
          have hm1081 := hm1070.backO [2, 3, 4] [0, 1, 5, 6, 7, 8, 9, 10, 11, 12, 13] _ _ rfl rfl (by kernel_rfl) hk1080
          refine quiet0 [39, 40] [.bool false] [0, 1, 5, 7, 9, 11, 12, 127] #[true, true, true, true, true, true, true, true, true, true, true, true, true, true, true, true, true, true, true, true, true, true, true, true, true, true, true, true, true, true, true, true, true, true, true, true, true, true, true, true, true] [(0, .slice A0 x0.length c0), (1, .slice A1 x1.length c1), (5, .pointer (some ⟨b90, 0, none⟩)), (7, .pointer (some ⟨b157, 0, none⟩)), (9, .slice A237 s236.1.length c238), (11, .int .i64 s236.2.1), (12, .int .i64 0), (127, .bool false)] [.is (((r927.2.2.2 : Int) != 1) = false)] 0 rfl (by kernel_rfl) (fun _ _ _ _ _ h => nomatch h.1) hf1079 (by kernel_rfl) ⟨(neF c928), trivial⟩ fun a1082 hf1083 => ?_
          refine allDone (by kernel_rfl) ⟨rfl, A1073, c1074, A1075, c1076, hf1083.sel (l := [0, 1, 5, 7, 9, 11, 12, 127]) (by kernel_rfl), hm1081.sel [0, 1, 2, 7, 8, 9, 10, 11, 12, 13] _ rfl (by kernel_rfl)⟩
        rintro a1084 w1085 ⟨A965, c966, A967, c968, hf1086, hm1087⟩
        refine thenN ?_
        refine condF hf1086 (by kernel_rfl) ?_
        refine wp_skip ?_
        refine thenN ?_
        obtain ⟨g1088, H1⟩ := ifS_guard H1
        obtain ⟨g1089, H1⟩ := ifS_guard H1
        obtain ⟨g1090, H1⟩ := ifS_guard H1
        obtain ⟨g1091, H1⟩ := ifS_guard H1
        refine midReg (fun (a : Act) (w : World) => ∃ (A1114 : Option Addr) (c1115 : Nat), Fr 155 a [(0, .slice A0 x0.length c0), (1, .slice A1 x1.length c1), (5, .pointer (some ⟨b90, 0, none⟩)), (7, .pointer (some ⟨b157, 0, none⟩)), (9, .slice A1114 (((([] : List Int) ++ ((List.take (((0 : Int)).toNat) s236.1).drop 0)) ++ ((List.take s236.1.length s236.1).drop (((1 : Int)).toNat))).length) c1115), (11, .int .i64 s236.2.1)] ∧ Mem [] M w0 [.ow (Kd.int .i64) 3 A1114 c1115 ((([] : List Int) ++ ((List.take (((0 : Int)).toNat) s236.1).drop 0)) ++ ((List.take s236.1.length s236.1).drop (((1 : Int)).toNat))), .bx b157 [.slice A158 y109.s.length c159, .slice A965 r927.1.length c966, .slice A967 r927.2.1.length c968, .int .i64 r927.2.2.1] 80, .ow kTensor 28 A965 c966 r927.1, .ow Kd.bool 4 A967 c968 r927.2.1, .sl (Kd.int .i64) A158 c159 y109.s, .bx b90 [.slice A77 r74.1.Shape.length c78, .slice A79 r74.1.Data.length c80] 28, .sl (Kd.int .i64) A77 c78 r74.1.Shape, .sl Kd.float A79 c80 r74.1.Data, .sl kTensor A0 c0 x0, .sl (Kd.int .u8) A1 c1 x1] w) ?_ ?_
        · refine anyG [4, 9] (by kernel_rfl) fun w1126 hg1127 => ?_
          have hm1128 := hm1087.still hg1127
          have e1166 : s236.1.length = s236.1.length := rfl
          have e1166l : 0 ≤ ((0 : Int)).toNat := by omega
          have e1166h : ((0 : Int)).toNat ≤ s236.1.length := by omega
          have hm1167 := hm1128.sub 3 rfl e1166l (e1166 ▸ e1166h)
          have e1168 : s236.1.length = s236.1.length := rfl
          have e1168l : ((1 : Int)).toNat ≤ s236.1.length := by omega
          have e1168h : s236.1.length ≤ s236.1.length := by omega
          have hm1169 := hm1167.sub 4 rfl e1168l (e1168 ▸ e1168h)
          refine quiet0 [1, 2, 3, 5, 6, 7, 8] [] [0, 1, 5, 7, 9, 11, 131, 136] #[false, true, true, true, false, true, true, true, true, false, false] [(0, .slice A0 x0.length c0), (1, .slice A1 x1.length c1), (5, .pointer (some ⟨b90, 0, none⟩)), (7, .pointer (some ⟨b157, 0, none⟩)), (9, .slice A237 s236.1.length c238), (11, .int .i64 s236.2.1), (131, .slice (sub A237 c238 0 1) (((0 : Int)).toNat - 0) (c238 - 0)), (136, .slice (sub A237 c238 (((1 : Int)).toNat) 1) (s236.1.length - ((1 : Int)).toNat) (c238 - ((1 : Int)).toNat))] [.is (0 ≤ (0 : Int) ∧ (0 : Int) ≤ (c238 : Int)), .is (0 ≤ (1 : Int) ∧ (1 : Int) ≤ (s236.1.length : Int))] 4 rfl (by kernel_rfl) (fun _ _ _ _ _ h => nomatch h.1) hf1086 (by kernel_rfl) ⟨(sub_cap rfl (hm1128.cpAt 3 rfl) g1088), g1090, trivial⟩ fun a1170 hf1171 => ?_
          refine all1 0 (by kernel_rfl) ?_
          refine opOf hf1171 rfl (by kernel_rfl) (aLit (cs := []) (E := 3) (len := 0) (d := 128) hf1171 (by kernel_rfl) (by kernel_rfl) ?_)
          intro b1172 w1173 a1174 hbb1172 hx1176 hg1177 hf1175
          refine ⟨.inr (Gr.still hg1177), ?_⟩
          have hm1178 : Mem [] M w0 [.ow (Kd.int .i64) 3 (some ⟨b1172, 0, none⟩) 0 ([] : List Int), .sl (Kd.int .i64) (sub A237 c238 (((1 : Int)).toNat) 1) (c238 - ((1 : Int)).toNat) ((List.take s236.1.length s236.1).drop (((1 : Int)).toNat)), .sl (Kd.int .i64) (sub A237 c238 0 1) (c238 - 0) ((List.take (((0 : Int)).toNat) s236.1).drop 0), .bx b157 [.slice A158 y109.s.length c159, .slice A965 r927.1.length c966, .slice A967 r927.2.1.length c968, .int .i64 r927.2.2.1] 80, .ow kTensor 28 A965 c966 r927.1, .ow Kd.bool 4 A967 c968 r927.2.1, .sl (Kd.int .i64) A237 c238 s236.1, .sl (Kd.int .i64) A158 c159 y109.s, .bx b90 [.slice A77 r74.1.Shape.length c78, .slice A79 r74.1.Data.length c80] 28, .sl (Kd.int .i64) A77 c78 r74.1.Shape, .sl Kd.float A79 c80 r74.1.Data, .sl kTensor A0 c0 x0, .sl (Kd.int .u8) A1 c1 x1] w1173 := Mem.litOwn (kd := (Kd.int .i64)) (xs := ([] : List Int)) hm1169 hbb1172 hx1176 hg1177 (Els.nil) (by simp [maxLen])
          refine all1 4 (by kernel_rfl) ?_
          have e1187 : 0 = ([] : List Int).length := rfl
          have e1188 : (((0 : Int)).toNat - 0) = ((List.take (((0 : Int)).toNat) s236.1).drop 0).length := (len_sub e1166 e1166l e1166h)
          refine opOf hf1175 rfl (by kernel_rfl) (aApp (kd := (Kd.int .i64)) (base := 0) (E := 3) (A := (some ⟨b1172, 0, none⟩)) (B := (sub A237 c238 0 1)) (c := 0) (c2 := (c238 - 0)) (xs := ([] : List Int)) (ys := ((List.take (((0 : Int)).toNat) s236.1).drop 0)) (k := 0) (m := (((0 : Int)).toNat - 0)) (sz := 1) (d := 132) hf1175 (by kernel_rfl) e1187 e1188 (by kernel_rfl) rfl (by kernel_rfl) (hm1178.at 0 rfl) (hm1178.at2 0 2 rfl rfl).2 (hm1178.cpAt 2 rfl) (Nat.zero_le _) (by have := g1089; omega) ?_)
          intro A1179 c1180 w1181 a1182 ho1184 hg1185 hr1186 hf1183
          refine ⟨.inl (by decide), ?_⟩
          have hm1189 := hm1178.setOwn 0 _ rfl rfl ho1184 hg1185 hr1186
          refine all1 9 (by kernel_rfl) ?_
          have e1198 : (([] : List Int) ++ ((List.take (((0 : Int)).toNat) s236.1).drop 0)).length = (([] : List Int) ++ ((List.take (((0 : Int)).toNat) s236.1).drop 0)).length := rfl
          have e1199 : (s236.1.length - ((1 : Int)).toNat) = ((List.take s236.1.length s236.1).drop (((1 : Int)).toNat)).length := (len_sub e1168 e1168l e1168h)
          refine opOf hf1183 rfl (by kernel_rfl) (aApp (kd := (Kd.int .i64)) (base := 0) (E := 3) (A := A1179) (B := (sub A237 c238 (((1 : Int)).toNat) 1)) (c := c1180) (c2 := (c238 - ((1 : Int)).toNat)) (xs := (([] : List Int) ++ ((List.take (((0 : Int)).toNat) s236.1).drop 0))) (ys := ((List.take s236.1.length s236.1).drop (((1 : Int)).toNat))) (k := ((([] : List Int) ++ ((List.take (((0 : Int)).toNat) s236.1).drop 0)).length)) (m := (s236.1.length - ((1 : Int)).toNat)) (sz := 1) (d := 137) hf1183 (by kernel_rfl) e1198 e1199 (by kernel_rfl) rfl (by kernel_rfl) (hm1189.at 0 rfl) (hm1189.at2 0 1 rfl rfl).2 (hm1189.cpAt 1 rfl) (Nat.zero_le _) (by have := g1091; omega) ?_)
          intro A1190 c1191 w1192 a1193 ho1195 hg1196 hr1197 hf1194
          refine ⟨.inl (by decide), ?_⟩
          have hm1200 := hm1189.setOwn 0 _ rfl rfl ho1195 hg1196 hr1197
          refine quiet0 [10] [] [0, 1, 5, 7, 9, 11] #[true, true, true, true, true, true, true, true, true, true, true] [(0, .slice A0 x0.length c0), (1, .slice A1 x1.length c1), (5, .pointer (some ⟨b90, 0, none⟩)), (7, .pointer (some ⟨b157, 0, none⟩)), (9, .slice A1190 (((([] : List Int) ++ ((List.take (((0 : Int)).toNat) s236.1).drop 0)) ++ ((List.take s236.1.length s236.1).drop (((1 : Int)).toNat))).length) c1191), (11, .int .i64 s236.2.1)] [] 0 rfl (by kernel_rfl) (fun _ _ _ _ _ h => nomatch h.1) hf1194 (by kernel_rfl) trivial fun a1201 hf1202 => ?_
          refine allDone (by kernel_rfl) ⟨rfl, A1190, c1191, hf1202.sel (l := [0, 1, 5, 7, 9, 11]) (by kernel_rfl), hm1200.sel [0, 3, 4, 5, 7, 8, 9, 10, 11, 12] _ rfl (by kernel_rfl)⟩
        rintro a1203 w1204 ⟨A1114, c1115, hf1205, hm1206⟩
        refine blkN ?_
        refine thenN ?_
        refine reg [] [0, 1, 5, 7, 9, 11] [(0, .slice A0 x0.length c0), (1, .slice A1 x1.length c1), (5, .pointer (some ⟨b90, 0, none⟩)), (7, .pointer (some ⟨b157, 0, none⟩)), (9, .slice A1114 (((([] : List Int) ++ ((List.take (((0 : Int)).toNat) s236.1).drop 0)) ++ ((List.take s236.1.length s236.1).drop (((1 : Int)).toNat))).length) c1115), (11, .int .i64 (w64 (s236.2.1 + 1)))] [] hf1205 (by kernel_rfl) trivial fun a1207 hf1208 => ?_
        have hm1209 := hm1206.seal 0 _ rfl rfl
        exact ⟨(((([] : List Int) ++ ((List.take (((0 : Int)).toNat) s236.1).drop 0)) ++ ((List.take s236.1.length s236.1).drop (((1 : Int)).toNat))), (w64 (s236.2.1 + 1)), r927.2.2.1, r927.1, r927.2.1), H1, A1114, c1115, A965, c966, A967, c968, hf1208.sel (l := [0, 1, 5, 7, 9, 11]) (by kernel_rfl), hm1209.sel [0, 1, 4, 2, 3, 5, 6, 7, 8, 9] _ rfl (by kernel_rfl)⟩
      refine reg [.bool true] [0, 1, 5, 7, 9, 11, 12, 73] [(0, .slice A0 x0.length c0), (1, .slice A1 x1.length c1), (5, .pointer (some ⟨b90, 0, none⟩)), (7, .pointer (some ⟨b157, 0, none⟩)), (9, .slice A237 s236.1.length c238), (11, .int .i64 s236.2.1), (12, .int .i64 0), (73, .bool true)] [.is (decide (s236.2.1 < (x1.length : Int)) = true)] hf253 (by kernel_rfl) ⟨(decide_eq_true c254), trivial⟩ fun a255 hf256 => ?_
      refine thenN ?_
      refine condT hf256 (by kernel_rfl) ?_
      obtain ⟨g257, H1⟩ := ifS_guard H1
      obtain ⟨g258, H1⟩ := ifS_guard H1
      have q259 := (hm248.slAt 9 rfl).int s236.2.1 g257.1 g257.2
      refine reg [.int .u8 (rd x1 s236.2.1)] [0, 1, 5, 7, 9, 11, 12] [(0, .slice A0 x0.length c0), (1, .slice A1 x1.length c1), (5, .pointer (some ⟨b90, 0, none⟩)), (7, .pointer (some ⟨b157, 0, none⟩)), (9, .slice A237 s236.1.length c238), (11, .int .i64 s236.2.1), (12, .int .i64 (Int.tmod (w64 ((rd x1 s236.2.1))) (s236.1.length : Int)))] [.is (Option.isSome A1 = true), .is (0 ≤ s236.2.1 ∧ s236.2.1 < (x1.length : Int)), .cell ((ad A1).add ((s236.2.1).toNat * 1)) (.int .u8 (rd x1 s236.2.1)), .is ((s236.1.length : Int) ≠ 0)] hf256 (by kernel_rfl) ⟨q259.1, g257, q259.2, g258, trivial⟩ fun a260 hf261 => ?_
      refine thenN ?_
      refine wp_seq ?_
      obtain ⟨r262, hr262, H1⟩ := obS_split H1
      refine inReg ?_
      refine go 1 [] [0, 1, 5, 7, 9, 11, 12, 83] [(0, .slice A0 x0.length c0), (1, .slice A1 x1.length c1), (5, .pointer (some ⟨b90, 0, none⟩)), (7, .pointer (some ⟨b157, 0, none⟩)), (9, .slice A237 s236.1.length c238), (11, .int .i64 s236.2.1), (12, .int .i64 (Int.tmod (w64 ((rd x1 s236.2.1))) (s236.1.length : Int))), (83, .pointer (some ⟨b157, 0, none⟩))] [] hf261 (by kernel_rfl) trivial fun a263 hf264 => ?_
      refine listOf hf264 rfl (by kernel_rfl) (aCall (fid := 21) (args := [.pointer (some ⟨b157, 0, none⟩)]) (d := 84) hf264 (by kernel_rfl) (by kernel_rfl) callable21 (fold_Slots_Value.calls _ _ _ (⟨y109.s, s236.2.2.2.1, s236.2.2.2.2, s236.2.2.1⟩ : Slots) b157 A158 y109.s.length c159 rfl A239 s236.2.2.2.1.length c240 rfl A241 s236.2.2.2.2.length c242 rfl (hm248.giveO [1, 3, 4] [0, 2, 5, 6, 7, 8, 9] [2] [.bx b157 [.slice A158 y109.s.length c159, .slice A239 s236.2.2.2.1.length c240, .slice A241 s236.2.2.2.2.length c242, .int .i64 s236.2.2.1] 80, .ow kTensor 28 A239 c240 s236.2.2.2.1, .ow Kd.bool 4 A241 c242 s236.2.2.2.2] _ [.sl (Kd.int .i64) A158 c159 y109.s] rfl rfl rfl (by kernel_rfl) rfl) r262 hr262) ?_)
      rintro _ w269 a270 ⟨A265, c266, A267, c268, rfl, hk272⟩ hf271
      have hm273 := hm248.backO [1, 3, 4] [0, 2, 5, 6, 7, 8, 9] _ _ rfl rfl (by kernel_rfl) hk272
      have hm274 := hm273.seal 3 _ rfl rfl
      have hm275 := hm274.seal 4 _ rfl rfl
      refine go 3 [] [0, 1, 5, 7, 9, 11, 12, 85, 86] [(0, .slice A0 x0.length c0), (1, .slice A1 x1.length c1), (5, .pointer (some ⟨b90, 0, none⟩)), (7, .pointer (some ⟨b157, 0, none⟩)), (9, .slice A237 s236.1.length c238), (11, .int .i64 s236.2.1), (12, .int .i64 (Int.tmod (w64 ((rd x1 s236.2.1))) (s236.1.length : Int))), (85, .agg #[.slice A265 r262.1.Shape.length c266, .slice A267 r262.1.Data.length c268]), (86, .int .i64 r262.2)] [] hf271 (by kernel_rfl) trivial fun a276 hf277 => ?_
      refine listOf hf277 rfl (by kernel_rfl) (aNew (cs := [.slice none 0 0, .slice none 0 0]) (T := 28) (d := 13) hf277 (by kernel_rfl) (by kernel_rfl) ?_)
      intro b278 w279 a280 hbb278 hx282 hg283 hf281
      have hm284 := hm275.box hbb278 hx282 hg283
      refine listOf hf281 rfl (by kernel_rfl) (aStoreB (b := b278) (j := 0) (T := 28) (cs := [.slice none 0 0, .slice none 0 0]) (us := [.slice A265 r262.1.Shape.length c266, .slice A267 r262.1.Data.length c268]) (cs' := [.slice A265 r262.1.Shape.length c266, .slice A267 r262.1.Data.length c268]) hf281 (by kernel_rfl) (hm284.bxAt 0 rfl) (by kernel_rfl) (by kernel_rfl) (by kernel_rfl) ?_)
      intro w285 hx286 hg287
      have hm288 := hm284.setBox 0 _ rfl rfl hx286 hg287
      refine go 1 [] [0, 1, 5, 7, 9, 11, 12, 14] [(0, .slice A0 x0.length c0), (1, .slice A1 x1.length c1), (5, .pointer (some ⟨b90, 0, none⟩)), (7, .pointer (some ⟨b157, 0, none⟩)), (9, .slice A237 s236.1.length c238), (11, .int .i64 s236.2.1), (12, .int .i64 (Int.tmod (w64 ((rd x1 s236.2.1))) (s236.1.length : Int))), (14, .int .i64 r262.2)] [] hf281 (by kernel_rfl) trivial fun a289 hf290 => ?_
      refine endL rfl ?_
      have hm291 := hm288.sel [1, 2, 3, 6, 7, 8, 9, 10, 11, 12] _ rfl (by kernel_rfl)
      refine thenN ?_
      refine wp_seq ?_
      refine wp_seq ?_
      rcases ifS_split H1 with ⟨c292, H1⟩ | ⟨c292, H1⟩
      rotate_left
      · refine regQ [.bool true] [0, 1, 5, 7, 9, 11, 12, 127] [(0, .slice A0 x0.length c0), (1, .slice A1 x1.length c1), (5, .pointer (some ⟨b90, 0, none⟩)), (7, .pointer (some ⟨b157, 0, none⟩)), (9, .slice A237 s236.1.length c238), (11, .int .i64 s236.2.1), (12, .int .i64 (Int.tmod (w64 ((rd x1 s236.2.1))) (s236.1.length : Int))), (127, .bool true)] [.is (((r262.2 : Int) != 1) = true)] (by kernel_rfl) (by kernel_rfl) hf290 (by kernel_rfl) ⟨(neT c292), trivial⟩ fun a878 w880 hf879 hg881 => ?_
        have hm882 := hm291.still hg881
        refine thenN ?_
        refine condT hf879 (by kernel_rfl) ?_
        refine wp_seq ?_
        refine reg [] [4] [(4, .bool false)] [] hf879 (by kernel_rfl) trivial fun a883 hf884 => ?_
        have hm885 := hm882.sel [] _ rfl (by kernel_rfl)
        refine thenN ?_
        refine wp_ret ?_
        refine thenR ?_
        refine blkR ?_
        refine thenR ?_
        refine thenR ?_
        refine .inr ⟨rfl, ?_⟩
        refine thenR ?_
        have hm886 : Mem [] M w0 [] w880 := hm885.sel [] _ rfl (by kernel_rfl)
        obtain rfl := Option.some.inj H1
        obtain rfl := Option.some.inj H0
        refine ret [] [.bool false] [] hf884 (by kernel_rfl) trivial ?_
        exact ⟨_, rfl, rfl, hm886⟩
      obtain ⟨r293, hr293, H1⟩ := obS_split H1
      rcases ifS_split H1 with ⟨c294, H1⟩ | ⟨c294, H1⟩
      rotate_left
      · refine midReg (fun (a : Act) (w : World) => Fr 155 a [(0, .slice A0 x0.length c0), (1, .slice A1 x1.length c1), (5, .pointer (some ⟨b90, 0, none⟩)), (7, .pointer (some ⟨b157, 0, none⟩)), (9, .slice A237 s236.1.length c238), (11, .int .i64 s236.2.1), (12, .int .i64 (Int.tmod (w64 ((rd x1 s236.2.1))) (s236.1.length : Int))), (127, .bool true)] ∧ Mem [] M w0 [.bx b157 [.slice A158 y109.s.length c159, .slice A239 s236.2.2.2.1.length c240, .slice A241 s236.2.2.2.2.length c242, .int .i64 s236.2.2.1] 80, .ow kTensor 28 A239 c240 s236.2.2.2.1, .ow Kd.bool 4 A241 c242 s236.2.2.2.2, .sl (Kd.int .i64) A237 c238 s236.1, .sl (Kd.int .i64) A158 c159 y109.s, .bx b90 [.slice A77 r74.1.Shape.length c78, .slice A79 r74.1.Data.length c80] 28, .sl (Kd.int .i64) A77 c78 r74.1.Shape, .sl Kd.float A79 c80 r74.1.Data, .sl kTensor A0 c0 x0, .sl (Kd.int .u8) A1 c1 x1] w) ?_ ?_
        · refine anyG [4] (by kernel_rfl) fun w849 hg850 => ?_
          have hm851 := hm291.still hg850
          refine quiet0 [0, 1, 2, 3, 5, 6] [.bool false] [0, 1, 5, 7, 9, 11, 12, 89, 90, 93] #[true, true, true, true, false, true, true, false, false, false, false, false, false, false, false, false, false, false, false, false, false, false, false, false, false, false, false, false, false, false, false, false, false, false, false, false, false, false, false, false, false] [(0, .slice A0 x0.length c0), (1, .slice A1 x1.length c1), (5, .pointer (some ⟨b90, 0, none⟩)), (7, .pointer (some ⟨b157, 0, none⟩)), (9, .slice A237 s236.1.length c238), (11, .int .i64 s236.2.1), (12, .int .i64 (Int.tmod (w64 ((rd x1 s236.2.1))) (s236.1.length : Int))), (89, .bool false), (90, .pointer (some ⟨b157, 0, none⟩)), (93, .int .i64 (s236.1.length : Int))] [.is (((r262.2 : Int) != 1) = false)] 35 rfl (by kernel_rfl) (fun _ _ _ _ _ h => nomatch h.1) hf290 (by kernel_rfl) ⟨(neF c292), trivial⟩ fun a860 hf861 => ?_
          refine all1 4 (by kernel_rfl) ?_
          refine opOf hf861 rfl (by kernel_rfl) (aCall (fid := 22) (args := [.pointer (some ⟨b157, 0, none⟩)]) (d := 91) hf861 (by kernel_rfl) (by kernel_rfl) callable22 (fold_Slots_Left.calls _ _ _ (⟨y109.s, s236.2.2.2.1, s236.2.2.2.2, s236.2.2.1⟩ : Slots) b157 A158 y109.s.length c159 rfl A239 s236.2.2.2.1.length c240 rfl A241 s236.2.2.2.2.length c242 rfl (hm851.giveO [0, 1, 2] [3, 4, 5, 6, 7, 8, 9] [4] [.bx b157 [.slice A158 y109.s.length c159, .slice A239 s236.2.2.2.1.length c240, .slice A241 s236.2.2.2.2.length c242, .int .i64 s236.2.2.1] 80, .ow kTensor 28 A239 c240 s236.2.2.2.1, .ow Kd.bool 4 A241 c242 s236.2.2.2.2] _ [.sl (Kd.int .i64) A158 c159 y109.s] rfl rfl rfl (by kernel_rfl) rfl) r293 hr293) ?_)
          rintro _ w862 a863 ⟨rfl, hk865⟩ hf864
          refine ⟨.inl (by decide), ?_⟩
          have hm866 := hm851.backO [0, 1, 2] [3, 4, 5, 6, 7, 8, 9] _ _ rfl rfl (by kernel_rfl) hk865
          refine quiet0 [7, 8, 9, 10, 11, 12, 13, 14, 15, 16, 17, 18, 19, 20, 21, 22, 23, 24, 25, 26, 27, 28, 29, 30, 31, 32, 33, 34, 35, 36, 37, 38, 39, 40] [.bool true] [0, 1, 5, 7, 9, 11, 12, 127] #[true, true, true, true, true, true, true, true, true, true, true, true, true, true, true, true, true, true, true, true, true, true, true, true, true, true, true, true, true, true, true, true, true, true, true, true, true, true, true, true, true] [(0, .slice A0 x0.length c0), (1, .slice A1 x1.length c1), (5, .pointer (some ⟨b90, 0, none⟩)), (7, .pointer (some ⟨b157, 0, none⟩)), (9, .slice A237 s236.1.length c238), (11, .int .i64 s236.2.1), (12, .int .i64 (Int.tmod (w64 ((rd x1 s236.2.1))) (s236.1.length : Int))), (127, .bool true)] [.is (((r293 : Int) != (s236.1.length : Int)) = true)] 0 rfl (by kernel_rfl) (fun _ _ _ _ _ h => nomatch h.1) hf864 (by kernel_rfl) ⟨(neT c294), trivial⟩ fun a867 hf868 => ?_
          refine allDone (by kernel_rfl) ⟨rfl, hf868.sel (l := [0, 1, 5, 7, 9, 11, 12, 127]) (by kernel_rfl), hm866.sel [0, 1, 2, 3, 4, 5, 6, 7, 8, 9] _ rfl (by kernel_rfl)⟩
        rintro a869 w870 ⟨hf871, hm872⟩
        refine thenN ?_
        refine condT hf871 (by kernel_rfl) ?_
        refine wp_seq ?_
        refine reg [] [4] [(4, .bool false)] [] hf871 (by kernel_rfl) trivial fun a873 hf874 => ?_
        have hm875 := hm872.sel [] _ rfl (by kernel_rfl)
        refine thenN ?_
        refine wp_ret ?_
        refine thenR ?_
        refine blkR ?_
        refine thenR ?_
        refine thenR ?_
        refine .inr ⟨rfl, ?_⟩
        refine thenR ?_
        have hm876 : Mem [] M w0 [] w870 := hm875.sel [] _ rfl (by kernel_rfl)
        obtain rfl := Option.some.inj H1
        obtain rfl := Option.some.inj H0
        refine ret [] [.bool false] [] hf874 (by kernel_rfl) trivial ?_
        exact ⟨_, rfl, rfl, hm876⟩
      obtain ⟨g295, H1⟩ := ifS_guard H1
      obtain ⟨g296, H1⟩ := ifS_guard H1
      obtain ⟨r297, hr297, H1⟩ := obS_split H1
      rcases ifS_split H1 with ⟨c298, H1⟩ | ⟨c298, H1⟩
      rotate_left
      · refine midReg (fun (a : Act) (w : World) => ∃ (A762 : Option Addr) (c763 : Nat) (A764 : Option Addr) (c765 : Nat), Fr 155 a [(0, .slice A0 x0.length c0), (1, .slice A1 x1.length c1), (5, .pointer (some ⟨b90, 0, none⟩)), (7, .pointer (some ⟨b157, 0, none⟩)), (9, .slice A237 s236.1.length c238), (11, .int .i64 s236.2.1), (12, .int .i64 (Int.tmod (w64 ((rd x1 s236.2.1))) (s236.1.length : Int))), (127, .bool true)] ∧ Mem [] M w0 [.bx b157 [.slice A158 y109.s.length c159, .slice A762 r297.1.length c763, .slice A764 r297.2.1.length c765, .int .i64 r297.2.2.1] 80, .ow kTensor 28 A762 c763 r297.1, .ow Kd.bool 4 A764 c765 r297.2.1, .sl (Kd.int .i64) A237 c238 s236.1, .sl (Kd.int .i64) A158 c159 y109.s, .bx b90 [.slice A77 r74.1.Shape.length c78, .slice A79 r74.1.Data.length c80] 28, .sl (Kd.int .i64) A77 c78 r74.1.Shape, .sl Kd.float A79 c80 r74.1.Data, .sl kTensor A0 c0 x0, .sl (Kd.int .u8) A1 c1 x1] w) ?_ ?_
        · refine anyG [4, 22] (by kernel_rfl) fun w771 hg772 => ?_
          have hm773 := hm291.still hg772
          refine quiet0 [0, 1, 2, 3, 5, 6] [.bool false] [0, 1, 5, 7, 9, 11, 12, 89, 90, 93] #[true, true, true, true, false, true, true, false, false, false, false, false, false, false, false, false, false, false, false, false, false, false, false, false, false, false, false, false, false, false, false, false, false, false, false, false, false, false, false, false, false] [(0, .slice A0 x0.length c0), (1, .slice A1 x1.length c1), (5, .pointer (some ⟨b90, 0, none⟩)), (7, .pointer (some ⟨b157, 0, none⟩)), (9, .slice A237 s236.1.length c238), (11, .int .i64 s236.2.1), (12, .int .i64 (Int.tmod (w64 ((rd x1 s236.2.1))) (s236.1.length : Int))), (89, .bool false), (90, .pointer (some ⟨b157, 0, none⟩)), (93, .int .i64 (s236.1.length : Int))] [.is (((r262.2 : Int) != 1) = false)] 35 rfl (by kernel_rfl) (fun _ _ _ _ _ h => nomatch h.1) hf290 (by kernel_rfl) ⟨(neF c292), trivial⟩ fun a804 hf805 => ?_
          refine all1 4 (by kernel_rfl) ?_
          refine opOf hf805 rfl (by kernel_rfl) (aCall (fid := 22) (args := [.pointer (some ⟨b157, 0, none⟩)]) (d := 91) hf805 (by kernel_rfl) (by kernel_rfl) callable22 (fold_Slots_Left.calls _ _ _ (⟨y109.s, s236.2.2.2.1, s236.2.2.2.2, s236.2.2.1⟩ : Slots) b157 A158 y109.s.length c159 rfl A239 s236.2.2.2.1.length c240 rfl A241 s236.2.2.2.2.length c242 rfl (hm773.giveO [0, 1, 2] [3, 4, 5, 6, 7, 8, 9] [4] [.bx b157 [.slice A158 y109.s.length c159, .slice A239 s236.2.2.2.1.length c240, .slice A241 s236.2.2.2.2.length c242, .int .i64 s236.2.2.1] 80, .ow kTensor 28 A239 c240 s236.2.2.2.1, .ow Kd.bool 4 A241 c242 s236.2.2.2.2] _ [.sl (Kd.int .i64) A158 c159 y109.s] rfl rfl rfl (by kernel_rfl) rfl) r293 hr293) ?_)
          rintro _ w806 a807 ⟨rfl, hk809⟩ hf808
          refine ⟨.inl (by decide), ?_⟩
          have hm810 := hm773.backO [0, 1, 2] [3, 4, 5, 6, 7, 8, 9] _ _ rfl rfl (by kernel_rfl) hk809
          have q811 := (hm810.slAt 3 rfl).int (Int.tmod (w64 ((rd x1 s236.2.1))) (s236.1.length : Int)) g295.1 g295.2
          have q812 := (hm810.slAt 3 rfl).int (Int.tmod (w64 ((rd x1 s236.2.1))) (s236.1.length : Int)) g295.1 g295.2
          have q813 := (hm810.slAt 8 rfl).get (rd s236.1 (Int.tmod (w64 ((rd x1 s236.2.1))) (s236.1.length : Int))) g296.1 g296.2
          obtain ⟨us814, hr815, hc816⟩ := q813.2
          obtain ⟨A817, c818, A819, c820, rfl, ⟨pA817, sA817⟩, ⟨pA819, sA819⟩⟩ := kTensor.open hr815
          have hm821 := hm810.elem pA817 sA817
          have hm822 := hm821.elem pA819 sA819
          refine quiet0 [7, 8, 9, 10, 11, 12, 13, 14, 15, 16, 17, 18, 19, 20, 21] [.bool false, .int .i64 (rd s236.1 (Int.tmod (w64 ((rd x1 s236.2.1))) (s236.1.length : Int))), .int .i64 (rd s236.1 (Int.tmod (w64 ((rd x1 s236.2.1))) (s236.1.length : Int))), .agg #[.slice A817 (((rd x0 (rd s236.1 (Int.tmod (w64 ((rd x1 s236.2.1))) (s236.1.length : Int)))).Shape).length) c818, .slice A819 (((rd x0 (rd s236.1 (Int.tmod (w64 ((rd x1 s236.2.1))) (s236.1.length : Int)))).Data).length) c820]] [0, 1, 5, 7, 9, 11, 12, 96, 97, 101, 108] #[true, true, true, true, true, true, true, true, true, true, true, true, true, true, true, true, true, true, true, true, true, true, false, false, false, false, false, false, false, false, false, false, false, false, false, false, false, false, false, false, false] [(0, .slice A0 x0.length c0), (1, .slice A1 x1.length c1), (5, .pointer (some ⟨b90, 0, none⟩)), (7, .pointer (some ⟨b157, 0, none⟩)), (9, .slice A237 s236.1.length c238), (11, .int .i64 s236.2.1), (12, .int .i64 (Int.tmod (w64 ((rd x1 s236.2.1))) (s236.1.length : Int))), (96, .bool false), (97, .pointer (some ⟨b157, 0, none⟩)), (101, .int .i64 (rd s236.1 (Int.tmod (w64 ((rd x1 s236.2.1))) (s236.1.length : Int)))), (108, .agg #[.slice A817 (((rd x0 (rd s236.1 (Int.tmod (w64 ((rd x1 s236.2.1))) (s236.1.length : Int)))).Shape).length) c818, .slice A819 (((rd x0 (rd s236.1 (Int.tmod (w64 ((rd x1 s236.2.1))) (s236.1.length : Int)))).Data).length) c820])] [.is (((r293 : Int) != (s236.1.length : Int)) = false), .is (Option.isSome A237 = true), .is (0 ≤ (Int.tmod (w64 ((rd x1 s236.2.1))) (s236.1.length : Int)) ∧ (Int.tmod (w64 ((rd x1 s236.2.1))) (s236.1.length : Int)) < (s236.1.length : Int)), .cell ((ad A237).add (((Int.tmod (w64 ((rd x1 s236.2.1))) (s236.1.length : Int))).toNat * 1)) (.int .i64 (rd s236.1 (Int.tmod (w64 ((rd x1 s236.2.1))) (s236.1.length : Int)))), .is (Option.isSome A237 = true), .is (0 ≤ (Int.tmod (w64 ((rd x1 s236.2.1))) (s236.1.length : Int)) ∧ (Int.tmod (w64 ((rd x1 s236.2.1))) (s236.1.length : Int)) < (s236.1.length : Int)), .cell ((ad A237).add (((Int.tmod (w64 ((rd x1 s236.2.1))) (s236.1.length : Int))).toNat * 1)) (.int .i64 (rd s236.1 (Int.tmod (w64 ((rd x1 s236.2.1))) (s236.1.length : Int)))), .is (Option.isSome A0 = true), .is (0 ≤ (rd s236.1 (Int.tmod (w64 ((rd x1 s236.2.1))) (s236.1.length : Int))) ∧ (rd s236.1 (Int.tmod (w64 ((rd x1 s236.2.1))) (s236.1.length : Int))) < (x0.length : Int)), .cell ((ad A0).add (((rd s236.1 (Int.tmod (w64 ((rd x1 s236.2.1))) (s236.1.length : Int)))).toNat * 2)) (.slice A817 (((rd x0 (rd s236.1 (Int.tmod (w64 ((rd x1 s236.2.1))) (s236.1.length : Int)))).Shape).length) c818), .cell (((ad A0).add (((rd s236.1 (Int.tmod (w64 ((rd x1 s236.2.1))) (s236.1.length : Int)))).toNat * 2)).add 1) (.slice A819 (((rd x0 (rd s236.1 (Int.tmod (w64 ((rd x1 s236.2.1))) (s236.1.length : Int)))).Data).length) c820)] 19 rfl (by kernel_rfl) (fun _ _ _ _ _ h => nomatch h.1) hf808 (by kernel_rfl) ⟨(neF c294), q811.1, g295, q811.2, q812.1, g295, q812.2, q813.1, g296, (hc816 0 _ rfl), (hc816 1 _ rfl), trivial⟩ fun a823 hf824 => ?_
          refine all1 22 (by kernel_rfl) ?_
          refine opOf hf824 rfl (by kernel_rfl) (aCall (fid := 23) (args := [.pointer (some ⟨b157, 0, none⟩), .int .i64 (rd s236.1 (Int.tmod (w64 ((rd x1 s236.2.1))) (s236.1.length : Int))), .agg #[.slice A817 (((rd x0 (rd s236.1 (Int.tmod (w64 ((rd x1 s236.2.1))) (s236.1.length : Int)))).Shape).length) c818, .slice A819 (((rd x0 (rd s236.1 (Int.tmod (w64 ((rd x1 s236.2.1))) (s236.1.length : Int)))).Data).length) c820]]) (d := 109) hf824 (by kernel_rfl) (by kernel_rfl) callable23 (fold_Slots_Put.calls _ _ _ (⟨y109.s, s236.2.2.2.1, s236.2.2.2.2, s236.2.2.1⟩ : Slots) b157 A158 y109.s.length c159 rfl A239 s236.2.2.2.1.length c240 rfl A241 s236.2.2.2.2.length c242 rfl (rd s236.1 (Int.tmod (w64 ((rd x1 s236.2.1))) (s236.1.length : Int))) (⟨((rd x0 (rd s236.1 (Int.tmod (w64 ((rd x1 s236.2.1))) (s236.1.length : Int)))).Shape), ((rd x0 (rd s236.1 (Int.tmod (w64 ((rd x1 s236.2.1))) (s236.1.length : Int)))).Data)⟩ : Tensor) A817 (((rd x0 (rd s236.1 (Int.tmod (w64 ((rd x1 s236.2.1))) (s236.1.length : Int)))).Shape).length) c818 rfl A819 (((rd x0 (rd s236.1 (Int.tmod (w64 ((rd x1 s236.2.1))) (s236.1.length : Int)))).Data).length) c820 rfl (hm822.giveO [2, 3, 4] [0, 1, 5, 6, 7, 8, 9, 10, 11] [6, 1, 0] [.bx b157 [.slice A158 y109.s.length c159, .slice A239 s236.2.2.2.1.length c240, .slice A241 s236.2.2.2.2.length c242, .int .i64 s236.2.2.1] 80, .ow kTensor 28 A239 c240 s236.2.2.2.1, .ow Kd.bool 4 A241 c242 s236.2.2.2.2] _ [.sl (Kd.int .i64) A158 c159 y109.s, .sl (Kd.int .i64) A817 c818 ((rd x0 (rd s236.1 (Int.tmod (w64 ((rd x1 s236.2.1))) (s236.1.length : Int)))).Shape), .sl Kd.float A819 c820 ((rd x0 (rd s236.1 (Int.tmod (w64 ((rd x1 s236.2.1))) (s236.1.length : Int)))).Data)] rfl rfl rfl (by kernel_rfl) rfl) r297 hr297) ?_)
          rintro _ w829 a830 ⟨A825, c826, A827, c828, rfl, hk832⟩ hf831
          refine ⟨.inl (by decide), ?_⟩
          have hm833 := hm822.backO [2, 3, 4] [0, 1, 5, 6, 7, 8, 9, 10, 11] _ _ rfl rfl (by kernel_rfl) hk832
          refine quiet0 [23, 24, 25, 26, 27, 28, 29, 30, 31, 32, 33, 34, 35, 36, 37, 38, 39, 40] [.bool true] [0, 1, 5, 7, 9, 11, 12, 127] #[true, true, true, true, true, true, true, true, true, true, true, true, true, true, true, true, true, true, true, true, true, true, true, true, true, true, true, true, true, true, true, true, true, true, true, true, true, true, true, true, true] [(0, .slice A0 x0.length c0), (1, .slice A1 x1.length c1), (5, .pointer (some ⟨b90, 0, none⟩)), (7, .pointer (some ⟨b157, 0, none⟩)), (9, .slice A237 s236.1.length c238), (11, .int .i64 s236.2.1), (12, .int .i64 (Int.tmod (w64 ((rd x1 s236.2.1))) (s236.1.length : Int))), (127, .bool true)] [.is (((r297.2.2.2 : Int) != 0) = true)] 0 rfl (by kernel_rfl) (fun _ _ _ _ _ h => nomatch h.1) hf831 (by kernel_rfl) ⟨(neT c298), trivial⟩ fun a834 hf835 => ?_
          refine allDone (by kernel_rfl) ⟨rfl, A825, c826, A827, c828, hf835.sel (l := [0, 1, 5, 7, 9, 11, 12, 127]) (by kernel_rfl), hm833.sel [0, 1, 2, 5, 6, 7, 8, 9, 10, 11] _ rfl (by kernel_rfl)⟩
        rintro a836 w837 ⟨A762, c763, A764, c765, hf838, hm839⟩
        refine thenN ?_
        refine condT hf838 (by kernel_rfl) ?_
        refine wp_seq ?_
        refine reg [] [4] [(4, .bool false)] [] hf838 (by kernel_rfl) trivial fun a840 hf841 => ?_
        have hm842 := hm839.sel [] _ rfl (by kernel_rfl)
        refine thenN ?_
        refine wp_ret ?_
        refine thenR ?_
        refine blkR ?_
        refine thenR ?_
        refine thenR ?_
        refine .inr ⟨rfl, ?_⟩
        refine thenR ?_
        have hm843 : Mem [] M w0 [] w837 := hm842.sel [] _ rfl (by kernel_rfl)
        obtain rfl := Option.some.inj H1
        obtain rfl := Option.some.inj H0
        refine ret [] [.bool false] [] hf841 (by kernel_rfl) trivial ?_
        exact ⟨_, rfl, rfl, hm843⟩
      obtain ⟨r299, hr299, H1⟩ := obS_split H1
      rcases ifS_split H1 with ⟨c300, H1⟩ | ⟨c300, H1⟩
      rotate_left
      · refine midReg (fun (a : Act) (w : World) => ∃ (A618 : Option Addr) (c619 : Nat) (A620 : Option Addr) (c621 : Nat), Fr 155 a [(0, .slice A0 x0.length c0), (1, .slice A1 x1.length c1), (5, .pointer (some ⟨b90, 0, none⟩)), (7, .pointer (some ⟨b157, 0, none⟩)), (9, .slice A237 s236.1.length c238), (11, .int .i64 s236.2.1), (12, .int .i64 (Int.tmod (w64 ((rd x1 s236.2.1))) (s236.1.length : Int))), (127, .bool true)] ∧ Mem [] M w0 [.bx b157 [.slice A158 y109.s.length c159, .slice A618 r299.1.length c619, .slice A620 r299.2.1.length c621, .int .i64 r299.2.2.1] 80, .ow kTensor 28 A618 c619 r299.1, .ow Kd.bool 4 A620 c621 r299.2.1, .sl (Kd.int .i64) A237 c238 s236.1, .sl (Kd.int .i64) A158 c159 y109.s, .bx b90 [.slice A77 r74.1.Shape.length c78, .slice A79 r74.1.Data.length c80] 28, .sl (Kd.int .i64) A77 c78 r74.1.Shape, .sl Kd.float A79 c80 r74.1.Data, .sl kTensor A0 c0 x0, .sl (Kd.int .u8) A1 c1 x1] w) ?_ ?_
        · refine anyG [4, 22, 38] (by kernel_rfl) fun w627 hg628 => ?_
          have hm629 := hm291.still hg628
          refine quiet0 [0, 1, 2, 3, 5, 6] [.bool false] [0, 1, 5, 7, 9, 11, 12, 89, 90, 93] #[true, true, true, true, false, true, true, false, false, false, false, false, false, false, false, false, false, false, false, false, false, false, false, false, false, false, false, false, false, false, false, false, false, false, false, false, false, false, false, false, false] [(0, .slice A0 x0.length c0), (1, .slice A1 x1.length c1), (5, .pointer (some ⟨b90, 0, none⟩)), (7, .pointer (some ⟨b157, 0, none⟩)), (9, .slice A237 s236.1.length c238), (11, .int .i64 s236.2.1), (12, .int .i64 (Int.tmod (w64 ((rd x1 s236.2.1))) (s236.1.length : Int))), (89, .bool false), (90, .pointer (some ⟨b157, 0, none⟩)), (93, .int .i64 (s236.1.length : Int))] [.is (((r262.2 : Int) != 1) = false)] 35 rfl (by kernel_rfl) (fun _ _ _ _ _ h => nomatch h.1) hf290 (by kernel_rfl) ⟨(neF c292), trivial⟩ fun a682 hf683 => ?_
          refine all1 4 (by kernel_rfl) ?_
          refine opOf hf683 rfl (by kernel_rfl) (aCall (fid := 22) (args := [.pointer (some ⟨b157, 0, none⟩)]) (d := 91) hf683 (by kernel_rfl) (by kernel_rfl) callable22 (fold_Slots_Left.calls _ _ _ (⟨y109.s, s236.2.2.2.1, s236.2.2.2.2, s236.2.2.1⟩ : Slots) b157 A158 y109.s.length c159 rfl A239 s236.2.2.2.1.length c240 rfl A241 s236.2.2.2.2.length c242 rfl (hm629.giveO [0, 1, 2] [3, 4, 5, 6, 7, 8, 9] [4] [.bx b157 [.slice A158 y109.s.length c159, .slice A239 s236.2.2.2.1.length c240, .slice A241 s236.2.2.2.2.length c242, .int .i64 s236.2.2.1] 80, .ow kTensor 28 A239 c240 s236.2.2.2.1, .ow Kd.bool 4 A241 c242 s236.2.2.2.2] _ [.sl (Kd.int .i64) A158 c159 y109.s] rfl rfl rfl (by kernel_rfl) rfl) r293 hr293) ?_)
          rintro _ w684 a685 ⟨rfl, hk687⟩ hf686
          refine ⟨.inl (by decide), ?_⟩
          have hm688 := hm629.backO [0, 1, 2] [3, 4, 5, 6, 7, 8, 9] _ _ rfl rfl (by kernel_rfl) hk687
          have q689 := (hm688.slAt 3 rfl).int (Int.tmod (w64 ((rd x1 s236.2.1))) (s236.1.length : Int)) g295.1 g295.2
          have q690 := (hm688.slAt 3 rfl).int (Int.tmod (w64 ((rd x1 s236.2.1))) (s236.1.length : Int)) g295.1 g295.2
          have q691 := (hm688.slAt 8 rfl).get (rd s236.1 (Int.tmod (w64 ((rd x1 s236.2.1))) (s236.1.length : Int))) g296.1 g296.2
          obtain ⟨us692, hr693, hc694⟩ := q691.2
          obtain ⟨A695, c696, A697, c698, rfl, ⟨pA695, sA695⟩, ⟨pA697, sA697⟩⟩ := kTensor.open hr693
          have hm699 := hm688.elem pA695 sA695
          have hm700 := hm699.elem pA697 sA697
          refine quiet0 [7, 8, 9, 10, 11, 12, 13, 14, 15, 16, 17, 18, 19, 20, 21] [.bool false, .int .i64 (rd s236.1 (Int.tmod (w64 ((rd x1 s236.2.1))) (s236.1.length : Int))), .int .i64 (rd s236.1 (Int.tmod (w64 ((rd x1 s236.2.1))) (s236.1.length : Int))), .agg #[.slice A695 (((rd x0 (rd s236.1 (Int.tmod (w64 ((rd x1 s236.2.1))) (s236.1.length : Int)))).Shape).length) c696, .slice A697 (((rd x0 (rd s236.1 (Int.tmod (w64 ((rd x1 s236.2.1))) (s236.1.length : Int)))).Data).length) c698]] [0, 1, 5, 7, 9, 11, 12, 96, 97, 101, 108] #[true, true, true, true, true, true, true, true, true, true, true, true, true, true, true, true, true, true, true, true, true, true, false, false, false, false, false, false, false, false, false, false, false, false, false, false, false, false, false, false, false] [(0, .slice A0 x0.length c0), (1, .slice A1 x1.length c1), (5, .pointer (some ⟨b90, 0, none⟩)), (7, .pointer (some ⟨b157, 0, none⟩)), (9, .slice A237 s236.1.length c238), (11, .int .i64 s236.2.1), (12, .int .i64 (Int.tmod (w64 ((rd x1 s236.2.1))) (s236.1.length : Int))), (96, .bool false), (97, .pointer (some ⟨b157, 0, none⟩)), (101, .int .i64 (rd s236.1 (Int.tmod (w64 ((rd x1 s236.2.1))) (s236.1.length : Int)))), (108, .agg #[.slice A695 (((rd x0 (rd s236.1 (Int.tmod (w64 ((rd x1 s236.2.1))) (s236.1.length : Int)))).Shape).length) c696, .slice A697 (((rd x0 (rd s236.1 (Int.tmod (w64 ((rd x1 s236.2.1))) (s236.1.length : Int)))).Data).length) c698])] [.is (((r293 : Int) != (s236.1.length : Int)) = false), .is (Option.isSome A237 = true), .is (0 ≤ (Int.tmod (w64 ((rd x1 s236.2.1))) (s236.1.length : Int)) ∧ (Int.tmod (w64 ((rd x1 s236.2.1))) (s236.1.length : Int)) < (s236.1.length : Int)), .cell ((ad A237).add (((Int.tmod (w64 ((rd x1 s236.2.1))) (s236.1.length : Int))).toNat * 1)) (.int .i64 (rd s236.1 (Int.tmod (w64 ((rd x1 s236.2.1))) (s236.1.length : Int)))), .is (Option.isSome A237 = true), .is (0 ≤ (Int.tmod (w64 ((rd x1 s236.2.1))) (s236.1.length : Int)) ∧ (Int.tmod (w64 ((rd x1 s236.2.1))) (s236.1.length : Int)) < (s236.1.length : Int)), .cell ((ad A237).add (((Int.tmod (w64 ((rd x1 s236.2.1))) (s236.1.length : Int))).toNat * 1)) (.int .i64 (rd s236.1 (Int.tmod (w64 ((rd x1 s236.2.1))) (s236.1.length : Int)))), .is (Option.isSome A0 = true), .is (0 ≤ (rd s236.1 (Int.tmod (w64 ((rd x1 s236.2.1))) (s236.1.length : Int))) ∧ (rd s236.1 (Int.tmod (w64 ((rd x1 s236.2.1))) (s236.1.length : Int))) < (x0.length : Int)), .cell ((ad A0).add (((rd s236.1 (Int.tmod (w64 ((rd x1 s236.2.1))) (s236.1.length : Int)))).toNat * 2)) (.slice A695 (((rd x0 (rd s236.1 (Int.tmod (w64 ((rd x1 s236.2.1))) (s236.1.length : Int)))).Shape).length) c696), .cell (((ad A0).add (((rd s236.1 (Int.tmod (w64 ((rd x1 s236.2.1))) (s236.1.length : Int)))).toNat * 2)).add 1) (.slice A697 (((rd x0 (rd s236.1 (Int.tmod (w64 ((rd x1 s236.2.1))) (s236.1.length : Int)))).Data).length) c698)] 19 rfl (by kernel_rfl) (fun _ _ _ _ _ h => nomatch h.1) hf686 (by kernel_rfl) ⟨(neF c294), q689.1, g295, q689.2, q690.1, g295, q690.2, q691.1, g296, (hc694 0 _ rfl), (hc694 1 _ rfl), trivial⟩ fun a701 hf702 => ?_
          refine all1 22 (by kernel_rfl) ?_
          refine opOf hf702 rfl (by kernel_rfl) (aCall (fid := 23) (args := [.pointer (some ⟨b157, 0, none⟩), .int .i64 (rd s236.1 (Int.tmod (w64 ((rd x1 s236.2.1))) (s236.1.length : Int))), .agg #[.slice A695 (((rd x0 (rd s236.1 (Int.tmod (w64 ((rd x1 s236.2.1))) (s236.1.length : Int)))).Shape).length) c696, .slice A697 (((rd x0 (rd s236.1 (Int.tmod (w64 ((rd x1 s236.2.1))) (s236.1.length : Int)))).Data).length) c698]]) (d := 109) hf702 (by kernel_rfl) (by kernel_rfl) callable23 (fold_Slots_Put.calls _ _ _ (⟨y109.s, s236.2.2.2.1, s236.2.2.2.2, s236.2.2.1⟩ : Slots) b157 A158 y109.s.length c159 rfl A239 s236.2.2.2.1.length c240 rfl A241 s236.2.2.2.2.length c242 rfl (rd s236.1 (Int.tmod (w64 ((rd x1 s236.2.1))) (s236.1.length : Int))) (⟨((rd x0 (rd s236.1 (Int.tmod (w64 ((rd x1 s236.2.1))) (s236.1.length : Int)))).Shape), ((rd x0 (rd s236.1 (Int.tmod (w64 ((rd x1 s236.2.1))) (s236.1.length : Int)))).Data)⟩ : Tensor) A695 (((rd x0 (rd s236.1 (Int.tmod (w64 ((rd x1 s236.2.1))) (s236.1.length : Int)))).Shape).length) c696 rfl A697 (((rd x0 (rd s236.1 (Int.tmod (w64 ((rd x1 s236.2.1))) (s236.1.length : Int)))).Data).length) c698 rfl (hm700.giveO [2, 3, 4] [0, 1, 5, 6, 7, 8, 9, 10, 11] [6, 1, 0] [.bx b157 [.slice A158 y109.s.length c159, .slice A239 s236.2.2.2.1.length c240, .slice A241 s236.2.2.2.2.length c242, .int .i64 s236.2.2.1] 80, .ow kTensor 28 A239 c240 s236.2.2.2.1, .ow Kd.bool 4 A241 c242 s236.2.2.2.2] _ [.sl (Kd.int .i64) A158 c159 y109.s, .sl (Kd.int .i64) A695 c696 ((rd x0 (rd s236.1 (Int.tmod (w64 ((rd x1 s236.2.1))) (s236.1.length : Int)))).Shape), .sl Kd.float A697 c698 ((rd x0 (rd s236.1 (Int.tmod (w64 ((rd x1 s236.2.1))) (s236.1.length : Int)))).Data)] rfl rfl rfl (by kernel_rfl) rfl) r297 hr297) ?_)
          rintro _ w707 a708 ⟨A703, c704, A705, c706, rfl, hk710⟩ hf709
          refine ⟨.inl (by decide), ?_⟩
          have hm711 := hm700.backO [2, 3, 4] [0, 1, 5, 6, 7, 8, 9, 10, 11] _ _ rfl rfl (by kernel_rfl) hk710
          have q712 := (hm711.slAt 5 rfl).int (Int.tmod (w64 ((rd x1 s236.2.1))) (s236.1.length : Int)) g295.1 g295.2
          have q713 := (hm711.slAt 5 rfl).int (Int.tmod (w64 ((rd x1 s236.2.1))) (s236.1.length : Int)) g295.1 g295.2
          have q714 := (hm711.slAt 10 rfl).get (rd s236.1 (Int.tmod (w64 ((rd x1 s236.2.1))) (s236.1.length : Int))) g296.1 g296.2
          obtain ⟨us715, hr716, hc717⟩ := q714.2
          obtain ⟨A718, c719, A720, c721, rfl, ⟨pA718, sA718⟩, ⟨pA720, sA720⟩⟩ := kTensor.open hr716
          have hm722 := hm711.elem pA718 sA718
          have hm723 := hm722.elem pA720 sA720
          refine quiet0 [23, 24, 25, 26, 27, 28, 29, 30, 31, 32, 33, 34, 35, 36, 37] [.bool false, .int .i64 (rd s236.1 (Int.tmod (w64 ((rd x1 s236.2.1))) (s236.1.length : Int))), .int .i64 (rd s236.1 (Int.tmod (w64 ((rd x1 s236.2.1))) (s236.1.length : Int))), .agg #[.slice A718 (((rd x0 (rd s236.1 (Int.tmod (w64 ((rd x1 s236.2.1))) (s236.1.length : Int)))).Shape).length) c719, .slice A720 (((rd x0 (rd s236.1 (Int.tmod (w64 ((rd x1 s236.2.1))) (s236.1.length : Int)))).Data).length) c721]] [0, 1, 5, 7, 9, 11, 12, 112, 113, 117, 124] #[true, true, true, true, true, true, true, true, true, true, true, true, true, true, true, true, true, true, true, true, true, true, true, true, true, true, true, true, true, true, true, true, true, true, true, true, true, true, false, false, false] [(0, .slice A0 x0.length c0), (1, .slice A1 x1.length c1), (5, .pointer (some ⟨b90, 0, none⟩)), (7, .pointer (some ⟨b157, 0, none⟩)), (9, .slice A237 s236.1.length c238), (11, .int .i64 s236.2.1), (12, .int .i64 (Int.tmod (w64 ((rd x1 s236.2.1))) (s236.1.length : Int))), (112, .bool false), (113, .pointer (some ⟨b157, 0, none⟩)), (117, .int .i64 (rd s236.1 (Int.tmod (w64 ((rd x1 s236.2.1))) (s236.1.length : Int)))), (124, .agg #[.slice A718 (((rd x0 (rd s236.1 (Int.tmod (w64 ((rd x1 s236.2.1))) (s236.1.length : Int)))).Shape).length) c719, .slice A720 (((rd x0 (rd s236.1 (Int.tmod (w64 ((rd x1 s236.2.1))) (s236.1.length : Int)))).Data).length) c721])] [.is (((r297.2.2.2 : Int) != 0) = false), .is (Option.isSome A237 = true), .is (0 ≤ (Int.tmod (w64 ((rd x1 s236.2.1))) (s236.1.length : Int)) ∧ (Int.tmod (w64 ((rd x1 s236.2.1))) (s236.1.length : Int)) < (s236.1.length : Int)), .cell ((ad A237).add (((Int.tmod (w64 ((rd x1 s236.2.1))) (s236.1.length : Int))).toNat * 1)) (.int .i64 (rd s236.1 (Int.tmod (w64 ((rd x1 s236.2.1))) (s236.1.length : Int)))), .is (Option.isSome A237 = true), .is (0 ≤ (Int.tmod (w64 ((rd x1 s236.2.1))) (s236.1.length : Int)) ∧ (Int.tmod (w64 ((rd x1 s236.2.1))) (s236.1.length : Int)) < (s236.1.length : Int)), .cell ((ad A237).add (((Int.tmod (w64 ((rd x1 s236.2.1))) (s236.1.length : Int))).toNat * 1)) (.int .i64 (rd s236.1 (Int.tmod (w64 ((rd x1 s236.2.1))) (s236.1.length : Int)))), .is (Option.isSome A0 = true), .is (0 ≤ (rd s236.1 (Int.tmod (w64 ((rd x1 s236.2.1))) (s236.1.length : Int))) ∧ (rd s236.1 (Int.tmod (w64 ((rd x1 s236.2.1))) (s236.1.length : Int))) < (x0.length : Int)), .cell ((ad A0).add (((rd s236.1 (Int.tmod (w64 ((rd x1 s236.2.1))) (s236.1.length : Int)))).toNat * 2)) (.slice A718 (((rd x0 (rd s236.1 (Int.tmod (w64 ((rd x1 s236.2.1))) (s236.1.length : Int)))).Shape).length) c719), .cell (((ad A0).add (((rd s236.1 (Int.tmod (w64 ((rd x1 s236.2.1))) (s236.1.length : Int)))).toNat * 2)).add 1) (.slice A720 (((rd x0 (rd s236.1 (Int.tmod (w64 ((rd x1 s236.2.1))) (s236.1.length : Int)))).Data).length) c721)] 3 rfl (by kernel_rfl) (fun _ _ _ _ _ h => nomatch h.1) hf709 (by kernel_rfl) ⟨(neF c298), q712.1, g295, q712.2, q713.1, g295, q713.2, q714.1, g296, (hc717 0 _ rfl), (hc717 1 _ rfl), trivial⟩ fun a724 hf725 => ?_
          refine all1 38 (by kernel_rfl) ?_
          refine opOf hf725 rfl (by kernel_rfl) (aCall (fid := 23) (args := [.pointer (some ⟨b157, 0, none⟩), .int .i64 (rd s236.1 (Int.tmod (w64 ((rd x1 s236.2.1))) (s236.1.length : Int))), .agg #[.slice A718 (((rd x0 (rd s236.1 (Int.tmod (w64 ((rd x1 s236.2.1))) (s236.1.length : Int)))).Shape).length) c719, .slice A720 (((rd x0 (rd s236.1 (Int.tmod (w64 ((rd x1 s236.2.1))) (s236.1.length : Int)))).Data).length) c721]]) (d := 125) hf725 (by kernel_rfl) (by kernel_rfl) callable23 (fold_Slots_Put.calls _ _ _ (⟨y109.s, r297.1, r297.2.1, r297.2.2.1⟩ : Slots) b157 A158 y109.s.length c159 rfl A703 r297.1.length c704 rfl A705 r297.2.1.length c706 rfl (rd s236.1 (Int.tmod (w64 ((rd x1 s236.2.1))) (s236.1.length : Int))) (⟨((rd x0 (rd s236.1 (Int.tmod (w64 ((rd x1 s236.2.1))) (s236.1.length : Int)))).Shape), ((rd x0 (rd s236.1 (Int.tmod (w64 ((rd x1 s236.2.1))) (s236.1.length : Int)))).Data)⟩ : Tensor) A718 (((rd x0 (rd s236.1 (Int.tmod (w64 ((rd x1 s236.2.1))) (s236.1.length : Int)))).Shape).length) c719 rfl A720 (((rd x0 (rd s236.1 (Int.tmod (w64 ((rd x1 s236.2.1))) (s236.1.length : Int)))).Data).length) c721 rfl (hm723.giveO [2, 3, 4] [0, 1, 5, 6, 7, 8, 9, 10, 11, 12, 13] [8, 1, 0] [.bx b157 [.slice A158 y109.s.length c159, .slice A703 r297.1.length c704, .slice A705 r297.2.1.length c706, .int .i64 r297.2.2.1] 80, .ow kTensor 28 A703 c704 r297.1, .ow Kd.bool 4 A705 c706 r297.2.1] _ [.sl (Kd.int .i64) A158 c159 y109.s, .sl (Kd.int .i64) A718 c719 ((rd x0 (rd s236.1 (Int.tmod (w64 ((rd x1 s236.2.1))) (s236.1.length : Int)))).Shape), .sl Kd.float A720 c721 ((rd x0 (rd s236.1 (Int.tmod (w64 ((rd x1 s236.2.1))) (s236.1.length : Int)))).Data)] rfl rfl rfl (by kernel_rfl) rfl) r299 hr299) ?_)
          rintro _ w730 a731 ⟨A726, c727, A728, c729, rfl, hk733⟩ hf732
          refine ⟨.inl (by decide), ?_⟩
          have hm734 := hm723.backO [2, 3, 4] [0, 1, 5, 6, 7, 8, 9, 10, 11, 12, 13] _ _ rfl rfl (by kernel_rfl) hk733
          refine quiet0 [39, 40] [.bool true] [0, 1, 5, 7, 9, 11, 12, 127] #[true, true, true, true, true, true, true, true, true, true, true, true, true, true, true, true, true, true, true, true, true, true, true, true, true, true, true, true, true, true, true, true, true, true, true, true, true, true, true, true, true] [(0, .slice A0 x0.length c0), (1, .slice A1 x1.length c1), (5, .pointer (some ⟨b90, 0, none⟩)), (7, .pointer (some ⟨b157, 0, none⟩)), (9, .slice A237 s236.1.length c238), (11, .int .i64 s236.2.1), (12, .int .i64 (Int.tmod (w64 ((rd x1 s236.2.1))) (s236.1.length : Int))), (127, .bool true)] [.is (((r299.2.2.2 : Int) != 1) = true)] 0 rfl (by kernel_rfl) (fun _ _ _ _ _ h => nomatch h.1) hf732 (by kernel_rfl) ⟨(neT c300), trivial⟩ fun a735 hf736 => ?_
          refine allDone (by kernel_rfl) ⟨rfl, A726, c727, A728, c729, hf736.sel (l := [0, 1, 5, 7, 9, 11, 12, 127]) (by kernel_rfl), hm734.sel [0, 1, 2, 7, 8, 9, 10, 11, 12, 13] _ rfl (by kernel_rfl)⟩
        rintro a737 w738 ⟨A618, c619, A620, c621, hf739, hm740⟩
        refine thenN ?_
        refine condT hf739 (by kernel_rfl) ?_
        refine wp_seq ?_
        refine reg [] [4] [(4, .bool false)] [] hf739 (by kernel_rfl) trivial fun a741 hf742 => ?_
        have hm743 := hm740.sel [] _ rfl (by kernel_rfl)
        refine thenN ?_
        refine wp_ret ?_
        refine thenR ?_
        refine blkR ?_
        refine thenR ?_
        refine thenR ?_
        refine .inr ⟨rfl, ?_⟩
        refine thenR ?_
        have hm744 : Mem [] M w0 [] w738 := hm743.sel [] _ rfl (by kernel_rfl)
        obtain rfl := Option.some.inj H1
        obtain rfl := Option.some.inj H0
        refine ret [] [.bool false] [] hf742 (by kernel_rfl) trivial ?_
        exact ⟨_, rfl, rfl, hm744⟩
      refine midReg (fun (a : Act) (w : World) => ∃ (A337 : Option Addr) (c338 : Nat) (A339 : Option Addr) (c340 : Nat), Fr 155 a [(0, .slice A0 x0.length c0), (1, .slice A1 x1.length c1), (5, .pointer (some ⟨b90, 0, none⟩)), (7, .pointer (some ⟨b157, 0, none⟩)), (9, .slice A237 s236.1.length c238), (11, .int .i64 s236.2.1), (12, .int .i64 (Int.tmod (w64 ((rd x1 s236.2.1))) (s236.1.length : Int))), (127, .bool false)] ∧ Mem [] M w0 [.bx b157 [.slice A158 y109.s.length c159, .slice A337 r299.1.length c338, .slice A339 r299.2.1.length c340, .int .i64 r299.2.2.1] 80, .ow kTensor 28 A337 c338 r299.1, .ow Kd.bool 4 A339 c340 r299.2.1, .sl (Kd.int .i64) A237 c238 s236.1, .sl (Kd.int .i64) A158 c159 y109.s, .bx b90 [.slice A77 r74.1.Shape.length c78, .slice A79 r74.1.Data.length c80] 28, .sl (Kd.int .i64) A77 c78 r74.1.Shape, .sl Kd.float A79 c80 r74.1.Data, .sl kTensor A0 c0 x0, .sl (Kd.int .u8) A1 c1 x1] w) ?_ ?_
      · refine anyG [4, 22, 38] (by kernel_rfl) fun w346 hg347 => ?_
        have hm348 := hm291.still hg347
        refine quiet0 [0, 1, 2, 3, 5, 6] [.bool false] [0, 1, 5, 7, 9, 11, 12, 89, 90, 93] #[true, true, true, true, false, true, true, false, false, false, false, false, false, false, false, false, false, false, false, false, false, false, false, false, false, false, false, false, false, false, false, false, false, false, false, false, false, false, false, false, false] [(0, .slice A0 x0.length c0), (1, .slice A1 x1.length c1), (5, .pointer (some ⟨b90, 0, none⟩)), (7, .pointer (some ⟨b157, 0, none⟩)), (9, .slice A237 s236.1.length c238), (11, .int .i64 s236.2.1), (12, .int .i64 (Int.tmod (w64 ((rd x1 s236.2.1))) (s236.1.length : Int))), (89, .bool false), (90, .pointer (some ⟨b157, 0, none⟩)), (93, .int .i64 (s236.1.length : Int))] [.is (((r262.2 : Int) != 1) = false)] 35 rfl (by kernel_rfl) (fun _ _ _ _ _ h => nomatch h.1) hf290 (by kernel_rfl) ⟨(neF c292), trivial⟩ fun a401 hf402 => ?_
        refine all1 4 (by kernel_rfl) ?_
        refine opOf hf402 rfl (by kernel_rfl) (aCall (fid := 22) (args := [.pointer (some ⟨b157, 0, none⟩)]) (d := 91) hf402 (by kernel_rfl) (by kernel_rfl) callable22 (fold_Slots_Left.calls _ _ _ (⟨y109.s, s236.2.2.2.1, s236.2.2.2.2, s236.2.2.1⟩ : Slots) b157 A158 y109.s.length c159 rfl A239 s236.2.2.2.1.length c240 rfl A241 s236.2.2.2.2.length c242 rfl (hm348.giveO [0, 1, 2] [3, 4, 5, 6, 7, 8, 9] [4] [.bx b157 [.slice A158 y109.s.length c159, .slice A239 s236.2.2.2.1.length c240, .slice A241 s236.2.2.2.2.length c242, .int .i64 s236.2.2.1] 80, .ow kTensor 28 A239 c240 s236.2.2.2.1, .ow Kd.bool 4 A241 c242 s236.2.2.2.2] _ [.sl (Kd.int .i64) A158 c159 y109.s] rfl rfl rfl (by kernel_rfl) rfl) r293 hr293) ?_)
        rintro _ w403 a404 ⟨rfl, hk406⟩ hf405
        refine ⟨.inl (by decide), ?_⟩
        have hm407 := hm348.backO [0, 1, 2] [3, 4, 5, 6, 7, 8, 9] _ _ rfl rfl (by kernel_rfl) hk406
        have q408 := (hm407.slAt 3 rfl).int (Int.tmod (w64 ((rd x1 s236.2.1))) (s236.1.length : Int)) g295.1 g295.2
        have q409 := (hm407.slAt 3 rfl).int (Int.tmod (w64 ((rd x1 s236.2.1))) (s236.1.length : Int)) g295.1 g295.2
        have q410 := (hm407.slAt 8 rfl).get (rd s236.1 (Int.tmod (w64 ((rd x1 s236.2.1))) (s236.1.length : Int))) g296.1 g296.2
        obtain ⟨us411, hr412, hc413⟩ := q410.2
        obtain ⟨A414, c415, A416, c417, rfl, ⟨pA414, sA414⟩, ⟨pA416, sA416⟩⟩ := kTensor.open hr412
        have hm418 := hm407.elem pA414 sA414
        have hm419 := hm418.elem pA416 sA416
        refine quiet0 [7, 8, 9, 10, 11, 12, 13, 14, 15, 16, 17, 18, 19, 20, 21] [.bool false, .int .i64 (rd s236.1 (Int.tmod (w64 ((rd x1 s236.2.1))) (s236.1.length : Int))), .int .i64 (rd s236.1 (Int.tmod (w64 ((rd x1 s236.2.1))) (s236.1.length : Int))), .agg #[.slice A414 (((rd x0 (rd s236.1 (Int.tmod (w64 ((rd x1 s236.2.1))) (s236.1.length : Int)))).Shape).length) c415, .slice A416 (((rd x0 (rd s236.1 (Int.tmod (w64 ((rd x1 s236.2.1))) (s236.1.length : Int)))).Data).length) c417]] [0, 1, 5, 7, 9, 11, 12, 96, 97, 101, 108] #[true, true, true, true, true, true, true, true, true, true, true, true, true, true, true, true, true, true, true, true, true, true, false, false, false, false, false, false, false, false, false, false, false, false, false, false, false, false, false, false, false] [(0, .slice A0 x0.length c0), (1, .slice A1 x1.length c1), (5, .pointer (some ⟨b90, 0, none⟩)), (7, .pointer (some ⟨b157, 0, none⟩)), (9, .slice A237 s236.1.length c238), (11, .int .i64 s236.2.1), (12, .int .i64 (Int.tmod (w64 ((rd x1 s236.2.1))) (s236.1.length : Int))), (96, .bool false), (97, .pointer (some ⟨b157, 0, none⟩)), (101, .int .i64 (rd s236.1 (Int.tmod (w64 ((rd x1 s236.2.1))) (s236.1.length : Int)))), (108, .agg #[.slice A414 (((rd x0 (rd s236.1 (Int.tmod (w64 ((rd x1 s236.2.1))) (s236.1.length : Int)))).Shape).length) c415, .slice A416 (((rd x0 (rd s236.1 (Int.tmod (w64 ((rd x1 s236.2.1))) (s236.1.length : Int)))).Data).length) c417])] [.is (((r293 : Int) != (s236.1.length : Int)) = false), .is (Option.isSome A237 = true), .is (0 ≤ (Int.tmod (w64 ((rd x1 s236.2.1))) (s236.1.length : Int)) ∧ (Int.tmod (w64 ((rd x1 s236.2.1))) (s236.1.length : Int)) < (s236.1.length : Int)), .cell ((ad A237).add (((Int.tmod (w64 ((rd x1 s236.2.1))) (s236.1.length : Int))).toNat * 1)) (.int .i64 (rd s236.1 (Int.tmod (w64 ((rd x1 s236.2.1))) (s236.1.length : Int)))), .is (Option.isSome A237 = true), .is (0 ≤ (Int.tmod (w64 ((rd x1 s236.2.1))) (s236.1.length : Int)) ∧ (Int.tmod (w64 ((rd x1 s236.2.1))) (s236.1.length : Int)) < (s236.1.length : Int)), .cell ((ad A237).add (((Int.tmod (w64 ((rd x1 s236.2.1))) (s236.1.length : Int))).toNat * 1)) (.int .i64 (rd s236.1 (Int.tmod (w64 ((rd x1 s236.2.1))) (s236.1.length : Int)))), .is (Option.isSome A0 = true), .is (0 ≤ (rd s236.1 (Int.tmod (w64 ((rd x1 s236.2.1))) (s236.1.length : Int))) ∧ (rd s236.1 (Int.tmod (w64 ((rd x1 s236.2.1))) (s236.1.length : Int))) < (x0.length : Int)), .cell ((ad A0).add (((rd s236.1 (Int.tmod (w64 ((rd x1 s236.2.1))) (s236.1.length : Int)))).toNat * 2)) (.slice A414 (((rd x0 (rd s236.1 (Int.tmod (w64 ((rd x1 s236.2.1))) (s236.1.length : Int)))).Shape).length) c415), .cell (((ad A0).add (((rd s236.1 (Int.tmod (w64 ((rd x1 s236.2.1))) (s236.1.length : Int)))).toNat * 2)).add 1) (.slice A416 (((rd x0 (rd s236.1 (Int.tmod (w64 ((rd x1 s236.2.1))) (s236.1.length : Int)))).Data).length) c417)] 19 rfl (by kernel_rfl) (fun _ _ _ _ _ h => nomatch h.1) hf405 (by kernel_rfl) ⟨(neF c294), q408.1, g295, q408.2, q409.1, g295, q409.2, q410.1, g296, (hc413 0 _ rfl), (hc413 1 _ rfl), trivial⟩ fun a420 hf421 => ?_
        refine all1 22 (by kernel_rfl) ?_
        refine opOf hf421 rfl (by kernel_rfl) (aCall (fid := 23) (args := [.pointer (some ⟨b157, 0, none⟩), .int .i64 (rd s236.1 (Int.tmod (w64 ((rd x1 s236.2.1))) (s236.1.length : Int))), .agg #[.slice A414 (((rd x0 (rd s236.1 (Int.tmod (w64 ((rd x1 s236.2.1))) (s236.1.length : Int)))).Shape).length) c415, .slice A416 (((rd x0 (rd s236.1 (Int.tmod (w64 ((rd x1 s236.2.1))) (s236.1.length : Int)))).Data).length) c417]]) (d := 109) hf421 (by kernel_rfl) (by kernel_rfl) callable23 (fold_Slots_Put.calls _ _ _ (⟨y109.s, s236.2.2.2.1, s236.2.2.2.2, s236.2.2.1⟩ : Slots) b157 A158 y109.s.length c159 rfl A239 s236.2.2.2.1.length c240 rfl A241 s236.2.2.2.2.length c242 rfl (rd s236.1 (Int.tmod (w64 ((rd x1 s236.2.1))) (s236.1.length : Int))) (⟨((rd x0 (rd s236.1 (Int.tmod (w64 ((rd x1 s236.2.1))) (s236.1.length : Int)))).Shape), ((rd x0 (rd s236.1 (Int.tmod (w64 ((rd x1 s236.2.1))) (s236.1.length : Int)))).Data)⟩ : Tensor) A414 (((rd x0 (rd s236.1 (Int.tmod (w64 ((rd x1 s236.2.1))) (s236.1.length : Int)))).Shape).length) c415 rfl A416 (((rd x0 (rd s236.1 (Int.tmod (w64 ((rd x1 s236.2.1))) (s236.1.length : Int)))).Data).length) c417 rfl (hm419.giveO [2, 3, 4] [0, 1, 5, 6, 7, 8, 9, 10, 11] [6, 1, 0] [.bx b157 [.slice A158 y109.s.length c159, .slice A239 s236.2.2.2.1.length c240, .slice A241 s236.2.2.2.2.length c242, .int .i64 s236.2.2.1] 80, .ow kTensor 28 A239 c240 s236.2.2.2.1, .ow Kd.bool 4 A241 c242 s236.2.2.2.2] _ [.sl (Kd.int .i64) A158 c159 y109.s, .sl (Kd.int .i64) A414 c415 ((rd x0 (rd s236.1 (Int.tmod (w64 ((rd x1 s236.2.1))) (s236.1.length : Int)))).Shape), .sl Kd.float A416 c417 ((rd x0 (rd s236.1 (Int.tmod (w64 ((rd x1 s236.2.1))) (s236.1.length : Int)))).Data)] rfl rfl rfl (by kernel_rfl) rfl) r297 hr297) ?_)
        rintro _ w426 a427 ⟨A422, c423, A424, c425, rfl, hk429⟩ hf428
        refine ⟨.inl (by decide), ?_⟩
        have hm430 := hm419.backO [2, 3, 4] [0, 1, 5, 6, 7, 8, 9, 10, 11] _ _ rfl rfl (by kernel_rfl) hk429
        have q431 := (hm430.slAt 5 rfl).int (Int.tmod (w64 ((rd x1 s236.2.1))) (s236.1.length : Int)) g295.1 g295.2
        have q432 := (hm430.slAt 5 rfl).int (Int.tmod (w64 ((rd x1 s236.2.1))) (s236.1.length : Int)) g295.1 g295.2
        have q433 := (hm430.slAt 10 rfl).get (rd s236.1 (Int.tmod (w64 ((rd x1 s236.2.1))) (s236.1.length : Int))) g296.1 g296.2
        obtain ⟨us434, hr435, hc436⟩ := q433.2
        obtain ⟨A437, c438, A439, c440, rfl, ⟨pA437, sA437⟩, ⟨pA439, sA439⟩⟩ := kTensor.open hr435
        have hm441 := hm430.elem pA437 sA437
        have hm442 := hm441.elem pA439 sA439
        refine quiet0 [23, 24, 25, 26, 27, 28, 29, 30, 31, 32, 33, 34, 35, 36, 37] [.bool false, .int .i64 (rd s236.1 (Int.tmod (w64 ((rd x1 s236.2.1))) (s236.1.length : Int))), .int .i64 (rd s236.1 (Int.tmod (w64 ((rd x1 s236.2.1))) (s236.1.length : Int))), .agg #[.slice A437 (((rd x0 (rd s236.1 (Int.tmod (w64 ((rd x1 s236.2.1))) (s236.1.length : Int)))).Shape).length) c438, .slice A439 (((rd x0 (rd s236.1 (Int.tmod (w64 ((rd x1 s236.2.1))) (s236.1.length : Int)))).Data).length) c440]] [0, 1, 5, 7, 9, 11, 12, 112, 113, 117, 124] #[true, true, true, true, true, true, true, true, true, true, true, true, true, true, true, true, true, true, true, true, true, true, true, true, true, true, true, true, true, true, true, true, true, true, true, true, true, true, false, false, false] [(0, .slice A0 x0.length c0), (1, .slice A1 x1.length c1), (5, .pointer (some ⟨b90, 0, none⟩)), (7, .pointer (some ⟨b157, 0, none⟩)), (9, .slice A237 s236.1.length c238), (11, .int .i64 s236.2.1), (12, .int .i64 (Int.tmod (w64 ((rd x1 s236.2.1))) (s236.1.length : Int))), (112, .bool false), (113, .pointer (some ⟨b157, 0, none⟩)), (117, .int .i64 (rd s236.1 (Int.tmod (w64 ((rd x1 s236.2.1))) (s236.1.length : Int)))), (124, .agg #[.slice A437 (((rd x0 (rd s236.1 (Int.tmod (w64 ((rd x1 s236.2.1))) (s236.1.length : Int)))).Shape).length) c438, .slice A439 (((rd x0 (rd s236.1 (Int.tmod (w64 ((rd x1 s236.2.1))) (s236.1.length : Int)))).Data).length) c440])] [.is (((r297.2.2.2 : Int) != 0) = false), .is (Option.isSome A237 = true), .is (0 ≤ (Int.tmod (w64 ((rd x1 s236.2.1))) (s236.1.length : Int)) ∧ (Int.tmod (w64 ((rd x1 s236.2.1))) (s236.1.length : Int)) < (s236.1.length : Int)), .cell ((ad A237).add (((Int.tmod (w64 ((rd x1 s236.2.1))) (s236.1.length : Int))).toNat * 1)) (.int .i64 (rd s236.1 (Int.tmod (w64 ((rd x1 s236.2.1))) (s236.1.length : Int)))), .is (Option.isSome A237 = true), .is (0 ≤ (Int.tmod (w64 ((rd x1 s236.2.1))) (s236.1.length : Int)) ∧ (Int.tmod (w64 ((rd x1 s236.2.1))) (s236.1.length : Int)) < (s236.1.length : Int)), .cell ((ad A237).add (((Int.tmod (w64 ((rd x1 s236.2.1))) (s236.1.length : Int))).toNat * 1)) (.int .i64 (rd s236.1 (Int.tmod (w64 ((rd x1 s236.2.1))) (s236.1.length : Int)))), .is (Option.isSome A0 = true), .is (0 ≤ (rd s236.1 (Int.tmod (w64 ((rd x1 s236.2.1))) (s236.1.length : Int))) ∧ (rd s236.1 (Int.tmod (w64 ((rd x1 s236.2.1))) (s236.1.length : Int))) < (x0.length : Int)), .cell ((ad A0).add (((rd s236.1 (Int.tmod (w64 ((rd x1 s236.2.1))) (s236.1.length : Int)))).toNat * 2)) (.slice A437 (((rd x0 (rd s236.1 (Int.tmod (w64 ((rd x1 s236.2.1))) (s236.1.length : Int)))).Shape).length) c438), .cell (((ad A0).add (((rd s236.1 (Int.tmod (w64 ((rd x1 s236.2.1))) (s236.1.length : Int)))).toNat * 2)).add 1) (.slice A439 (((rd x0 (rd s236.1 (Int.tmod (w64 ((rd x1 s236.2.1))) (s236.1.length : Int)))).Data).length) c440)] 3 rfl (by kernel_rfl) (fun _ _ _ _ _ h => nomatch h.1) hf428 (by kernel_rfl) ⟨(neF c298), q431.1, g295, q431.2, q432.1, g295, q432.2, q433.1, g296, (hc436 0 _ rfl), (hc436 1 _ rfl), trivial⟩ fun a443 hf444 => ?_
        refine all1 38 (by kernel_rfl) ?_
        refine opOf hf444 rfl (by kernel_rfl) (aCall (fid := 23) (args := [.pointer (some ⟨b157, 0, none⟩), .int .i64 (rd s236.1 (Int.tmod (w64 ((rd x1 s236.2.1))) (s236.1.length : Int))), .agg #[.slice A437 (((rd x0 (rd s236.1 (Int.tmod (w64 ((rd x1 s236.2.1))) (s236.1.length : Int)))).Shape).length) c438, .slice A439 (((rd x0 (rd s236.1 (Int.tmod (w64 ((rd x1 s236.2.1))) (s236.1.length : Int)))).Data).length) c440]]) (d := 125) hf444 (by kernel_rfl) (by kernel_rfl) callable23 (fold_Slots_Put.calls _ _ _ (⟨y109.s, r297.1, r297.2.1, r297.2.2.1⟩ : Slots) b157 A158 y109.s.length c159 rfl A422 r297.1.length c423 rfl A424 r297.2.1.length c425 rfl (rd s236.1 (Int.tmod (w64 ((rd x1 s236.2.1))) (s236.1.length : Int))) (⟨((rd x0 (rd s236.1 (Int.tmod (w64 ((rd x1 s236.2.1))) (s236.1.length : Int)))).Shape), ((rd x0 (rd s236.1 (Int.tmod (w64 ((rd x1 s236.2.1))) (s236.1.length : Int)))).Data)⟩ : Tensor) A437 (((rd x0 (rd s236.1 (Int.tmod (w64 ((rd x1 s236.2.1))) (s236.1.length : Int)))).Shape).length) c438 rfl A439 (((rd x0 (rd s236.1 (Int.tmod (w64 ((rd x1 s236.2.1))) (s236.1.length : Int)))).Data).length) c440 rfl (hm442.giveO [2, 3, 4] [0, 1, 5, 6, 7, 8, 9, 10, 11, 12, 13] [8, 1, 0] [.bx b157 [.slice A158 y109.s.length c159, .slice A422 r297.1.length c423, .slice A424 r297.2.1.length c425, .int .i64 r297.2.2.1] 80, .ow kTensor 28 A422 c423 r297.1, .ow Kd.bool 4 A424 c425 r297.2.1] _ [.sl (Kd.int .i64) A158 c159 y109.s, .sl (Kd.int .i64) A437 c438 ((rd x0 (rd s236.1 (Int.tmod (w64 ((rd x1 s236.2.1))) (s236.1.length : Int)))).Shape), .sl Kd.float A439 c440 ((rd x0 (rd s236.1 (Int.tmod (w64 ((rd x1 s236.2.1))) (s236.1.length : Int)))).Data)] rfl rfl rfl (by kernel_rfl) rfl) r299 hr299) ?_)
        rintro _ w449 a450 ⟨A445, c446, A447, c448, rfl, hk452⟩ hf451
        refine ⟨.inl (by decide), ?_⟩
        have hm453 := hm442.backO [2, 3, 4] [0, 1, 5, 6, 7, 8, 9, 10, 11, 12, 13] _ _ rfl rfl (by kernel_rfl) hk452
        refine quiet0 [39, 40] [.bool false] [0, 1, 5, 7, 9, 11, 12, 127] #[true, true, true, true, true, true, true, true, true, true, true, true, true, true, true, true, true, true, true, true, true, true, true, true, true, true, true, true, true, true, true, true, true, true, true, true, true, true, true, true, true] [(0, .slice A0 x0.length c0), (1, .slice A1 x1.length c1), (5, .pointer (some ⟨b90, 0, none⟩)), (7, .pointer (some ⟨b157, 0, none⟩)), (9, .slice A237 s236.1.length c238), (11, .int .i64 s236.2.1), (12, .int .i64 (Int.tmod (w64 ((rd x1 s236.2.1))) (s236.1.length : Int))), (127, .bool false)] [.is (((r299.2.2.2 : Int) != 1) = false)] 0 rfl (by kernel_rfl) (fun _ _ _ _ _ h => nomatch h.1) hf451 (by kernel_rfl) ⟨(neF c300), trivial⟩ fun a454 hf455 => ?_
        refine allDone (by kernel_rfl) ⟨rfl, A445, c446, A447, c448, hf455.sel (l := [0, 1, 5, 7, 9, 11, 12, 127]) (by kernel_rfl), hm453.sel [0, 1, 2, 7, 8, 9, 10, 11, 12, 13] _ rfl (by kernel_rfl)⟩
      rintro a456 w457 ⟨A337, c338, A339, c340, hf458, hm459⟩
      refine thenN ?_
      refine condF hf458 (by kernel_rfl) ?_
      refine wp_skip ?_
      refine thenN ?_
      obtain ⟨g460, H1⟩ := ifS_guard H1
      obtain ⟨g461, H1⟩ := ifS_guard H1
      obtain ⟨g462, H1⟩ := ifS_guard H1
      obtain ⟨g463, H1⟩ := ifS_guard H1
      refine midReg (fun (a : Act) (w : World) => ∃ (A486 : Option Addr) (c487 : Nat), Fr 155 a [(0, .slice A0 x0.length c0), (1, .slice A1 x1.length c1), (5, .pointer (some ⟨b90, 0, none⟩)), (7, .pointer (some ⟨b157, 0, none⟩)), (9, .slice A486 (((([] : List Int) ++ ((List.take (((Int.tmod (w64 ((rd x1 s236.2.1))) (s236.1.length : Int))).toNat) s236.1).drop 0)) ++ ((List.take s236.1.length s236.1).drop (((w64 ((Int.tmod (w64 ((rd x1 s236.2.1))) (s236.1.length : Int)) + 1))).toNat))).length) c487), (11, .int .i64 s236.2.1)] ∧ Mem [] M w0 [.ow (Kd.int .i64) 3 A486 c487 ((([] : List Int) ++ ((List.take (((Int.tmod (w64 ((rd x1 s236.2.1))) (s236.1.length : Int))).toNat) s236.1).drop 0)) ++ ((List.take s236.1.length s236.1).drop (((w64 ((Int.tmod (w64 ((rd x1 s236.2.1))) (s236.1.length : Int)) + 1))).toNat))), .bx b157 [.slice A158 y109.s.length c159, .slice A337 r299.1.length c338, .slice A339 r299.2.1.length c340, .int .i64 r299.2.2.1] 80, .ow kTensor 28 A337 c338 r299.1, .ow Kd.bool 4 A339 c340 r299.2.1, .sl (Kd.int .i64) A158 c159 y109.s, .bx b90 [.slice A77 r74.1.Shape.length c78, .slice A79 r74.1.Data.length c80] 28, .sl (Kd.int .i64) A77 c78 r74.1.Shape, .sl Kd.float A79 c80 r74.1.Data, .sl kTensor A0 c0 x0, .sl (Kd.int .u8) A1 c1 x1] w) ?_ ?_
      · refine anyG [4, 9] (by kernel_rfl) fun w498 hg499 => ?_
        have hm500 := hm459.still hg499
        have e538 : s236.1.length = s236.1.length := rfl
        have e538l : 0 ≤ ((Int.tmod (w64 ((rd x1 s236.2.1))) (s236.1.length : Int))).toNat := by omega
        have e538h : ((Int.tmod (w64 ((rd x1 s236.2.1))) (s236.1.length : Int))).toNat ≤ s236.1.length := by omega
        have hm539 := hm500.sub 3 rfl e538l (e538 ▸ e538h)
        have e540 : s236.1.length = s236.1.length := rfl
        have e540l : ((w64 ((Int.tmod (w64 ((rd x1 s236.2.1))) (s236.1.length : Int)) + 1))).toNat ≤ s236.1.length := by omega
        have e540h : s236.1.length ≤ s236.1.length := by omega
        have hm541 := hm539.sub 4 rfl e540l (e540 ▸ e540h)
        refine quiet0 [1, 2, 3, 5, 6, 7, 8] [] [0, 1, 5, 7, 9, 11, 131, 136] #[false, true, true, true, false, true, true, true, true, false, false] [(0, .slice A0 x0.length c0), (1, .slice A1 x1.length c1), (5, .pointer (some ⟨b90, 0, none⟩)), (7, .pointer (some ⟨b157, 0, none⟩)), (9, .slice A237 s236.1.length c238), (11, .int .i64 s236.2.1), (131, .slice (sub A237 c238 0 1) (((Int.tmod (w64 ((rd x1 s236.2.1))) (s236.1.length : Int))).toNat - 0) (c238 - 0)), (136, .slice (sub A237 c238 (((w64 ((Int.tmod (w64 ((rd x1 s236.2.1))) (s236.1.length : Int)) + 1))).toNat) 1) (s236.1.length - ((w64 ((Int.tmod (w64 ((rd x1 s236.2.1))) (s236.1.length : Int)) + 1))).toNat) (c238 - ((w64 ((Int.tmod (w64 ((rd x1 s236.2.1))) (s236.1.length : Int)) + 1))).toNat))] [.is (0 ≤ (Int.tmod (w64 ((rd x1 s236.2.1))) (s236.1.length : Int)) ∧ (Int.tmod (w64 ((rd x1 s236.2.1))) (s236.1.length : Int)) ≤ (c238 : Int)), .is (0 ≤ (w64 ((Int.tmod (w64 ((rd x1 s236.2.1))) (s236.1.length : Int)) + 1)) ∧ (w64 ((Int.tmod (w64 ((rd x1 s236.2.1))) (s236.1.length : Int)) + 1)) ≤ (s236.1.length : Int))] 4 rfl (by kernel_rfl) (fun _ _ _ _ _ h => nomatch h.1) hf458 (by kernel_rfl) ⟨(sub_cap rfl (hm500.cpAt 3 rfl) g460), g462, trivial⟩ fun a542 hf543 => ?_
        refine all1 0 (by kernel_rfl) ?_
        refine opOf hf543 rfl (by kernel_rfl) (aLit (cs := []) (E := 3) (len := 0) (d := 128) hf543 (by kernel_rfl) (by kernel_rfl) ?_)
        intro b544 w545 a546 hbb544 hx548 hg549 hf547
        refine ⟨.inr (Gr.still hg549), ?_⟩
        have hm550 : Mem [] M w0 [.ow (Kd.int .i64) 3 (some ⟨b544, 0, none⟩) 0 ([] : List Int), .sl (Kd.int .i64) (sub A237 c238 (((w64 ((Int.tmod (w64 ((rd x1 s236.2.1))) (s236.1.length : Int)) + 1))).toNat) 1) (c238 - ((w64 ((Int.tmod (w64 ((rd x1 s236.2.1))) (s236.1.length : Int)) + 1))).toNat) ((List.take s236.1.length s236.1).drop (((w64 ((Int.tmod (w64 ((rd x1 s236.2.1))) (s236.1.length : Int)) + 1))).toNat)), .sl (Kd.int .i64) (sub A237 c238 0 1) (c238 - 0) ((List.take (((Int.tmod (w64 ((rd x1 s236.2.1))) (s236.1.length : Int))).toNat) s236.1).drop 0), .bx b157 [.slice A158 y109.s.length c159, .slice A337 r299.1.length c338, .slice A339 r299.2.1.length c340, .int .i64 r299.2.2.1] 80, .ow kTensor 28 A337 c338 r299.1, .ow Kd.bool 4 A339 c340 r299.2.1, .sl (Kd.int .i64) A237 c238 s236.1, .sl (Kd.int .i64) A158 c159 y109.s, .bx b90 [.slice A77 r74.1.Shape.length c78, .slice A79 r74.1.Data.length c80] 28, .sl (Kd.int .i64) A77 c78 r74.1.Shape, .sl Kd.float A79 c80 r74.1.Data, .sl kTensor A0 c0 x0, .sl (Kd.int .u8) A1 c1 x1] w545 := Mem.litOwn (kd := (Kd.int .i64)) (xs := ([] : List Int)) hm541 hbb544 hx548 hg549 (Els.nil) (by simp [maxLen])
        refine all1 4 (by kernel_rfl) ?_
        have e559 : 0 = ([] : List Int).length := rfl
        have e560 : (((Int.tmod (w64 ((rd x1 s236.2.1))) (s236.1.length : Int))).toNat - 0) = ((List.take (((Int.tmod (w64 ((rd x1 s236.2.1))) (s236.1.length : Int))).toNat) s236.1).drop 0).length := (len_sub e538 e538l e538h)
        refine opOf hf547 rfl (by kernel_rfl) (aApp (kd := (Kd.int .i64)) (base := 0) (E := 3) (A := (some ⟨b544, 0, none⟩)) (B := (sub A237 c238 0 1)) (c := 0) (c2 := (c238 - 0)) (xs := ([] : List Int)) (ys := ((List.take (((Int.tmod (w64 ((rd x1 s236.2.1))) (s236.1.length : Int))).toNat) s236.1).drop 0)) (k := 0) (m := (((Int.tmod (w64 ((rd x1 s236.2.1))) (s236.1.length : Int))).toNat - 0)) (sz := 1) (d := 132) hf547 (by kernel_rfl) e559 e560 (by kernel_rfl) rfl (by kernel_rfl) (hm550.at 0 rfl) (hm550.at2 0 2 rfl rfl).2 (hm550.cpAt 2 rfl) (Nat.zero_le _) (by have := g461; omega) ?_)
        intro A551 c552 w553 a554 ho556 hg557 hr558 hf555
        refine ⟨.inl (by decide), ?_⟩
        have hm561 := hm550.setOwn 0 _ rfl rfl ho556 hg557 hr558
        refine all1 9 (by kernel_rfl) ?_
        have e570 : (([] : List Int) ++ ((List.take (((Int.tmod (w64 ((rd x1 s236.2.1))) (s236.1.length : Int))).toNat) s236.1).drop 0)).length = (([] : List Int) ++ ((List.take (((Int.tmod (w64 ((rd x1 s236.2.1))) (s236.1.length : Int))).toNat) s236.1).drop 0)).length := rfl
        have e571 : (s236.1.length - ((w64 ((Int.tmod (w64 ((rd x1 s236.2.1))) (s236.1.length : Int)) + 1))).toNat) = ((List.take s236.1.length s236.1).drop (((w64 ((Int.tmod (w64 ((rd x1 s236.2.1))) (s236.1.length : Int)) + 1))).toNat)).length := (len_sub e540 e540l e540h)
        refine opOf hf555 rfl (by kernel_rfl) (aApp (kd := (Kd.int .i64)) (base := 0) (E := 3) (A := A551) (B := (sub A237 c238 (((w64 ((Int.tmod (w64 ((rd x1 s236.2.1))) (s236.1.length : Int)) + 1))).toNat) 1)) (c := c552) (c2 := (c238 - ((w64 ((Int.tmod (w64 ((rd x1 s236.2.1))) (s236.1.length : Int)) + 1))).toNat)) (xs := (([] : List Int) ++ ((List.take (((Int.tmod (w64 ((rd x1 s236.2.1))) (s236.1.length : Int))).toNat) s236.1).drop 0))) (ys := ((List.take s236.1.length s236.1).drop (((w64 ((Int.tmod (w64 ((rd x1 s236.2.1))) (s236.1.length : Int)) + 1))).toNat))) (k := ((([] : List Int) ++ ((List.take (((Int.tmod (w64 ((rd x1 s236.2.1))) (s236.1.length : Int))).toNat) s236.1).drop 0)).length)) (m := (s236.1.length - ((w64 ((Int.tmod (w64 ((rd x1 s236.2.1))) (s236.1.length : Int)) + 1))).toNat)) (sz := 1) (d := 137) hf555 (by kernel_rfl) e570 e571 (by kernel_rfl) rfl (by kernel_rfl) (hm561.at 0 rfl) (hm561.at2 0 1 rfl rfl).2 (hm561.cpAt 1 rfl) (Nat.zero_le _) (by have := g463; omega) ?_)
        intro A562 c563 w564 a565 ho567 hg568 hr569 hf566
        refine ⟨.inl (by decide), ?_⟩
        have hm572 := hm561.setOwn 0 _ rfl rfl ho567 hg568 hr569
        refine quiet0 [10] [] [0, 1, 5, 7, 9, 11] #[true, true, true, true, true, true, true, true, true, true, true] [(0, .slice A0 x0.length c0), (1, .slice A1 x1.length c1), (5, .pointer (some ⟨b90, 0, none⟩)), (7, .pointer (some ⟨b157, 0, none⟩)), (9, .slice A562 (((([] : List Int) ++ ((List.take (((Int.tmod (w64 ((rd x1 s236.2.1))) (s236.1.length : Int))).toNat) s236.1).drop 0)) ++ ((List.take s236.1.length s236.1).drop (((w64 ((Int.tmod (w64 ((rd x1 s236.2.1))) (s236.1.length : Int)) + 1))).toNat))).length) c563), (11, .int .i64 s236.2.1)] [] 0 rfl (by kernel_rfl) (fun _ _ _ _ _ h => nomatch h.1) hf566 (by kernel_rfl) trivial fun a573 hf574 => ?_
        refine allDone (by kernel_rfl) ⟨rfl, A562, c563, hf574.sel (l := [0, 1, 5, 7, 9, 11]) (by kernel_rfl), hm572.sel [0, 3, 4, 5, 7, 8, 9, 10, 11, 12] _ rfl (by kernel_rfl)⟩
      rintro a575 w576 ⟨A486, c487, hf577, hm578⟩
      refine blkN ?_
      refine thenN ?_
      refine reg [] [0, 1, 5, 7, 9, 11] [(0, .slice A0 x0.length c0), (1, .slice A1 x1.length c1), (5, .pointer (some ⟨b90, 0, none⟩)), (7, .pointer (some ⟨b157, 0, none⟩)), (9, .slice A486 (((([] : List Int) ++ ((List.take (((Int.tmod (w64 ((rd x1 s236.2.1))) (s236.1.length : Int))).toNat) s236.1).drop 0)) ++ ((List.take s236.1.length s236.1).drop (((w64 ((Int.tmod (w64 ((rd x1 s236.2.1))) (s236.1.length : Int)) + 1))).toNat))).length) c487), (11, .int .i64 (w64 (s236.2.1 + 1)))] [] hf577 (by kernel_rfl) trivial fun a579 hf580 => ?_
      have hm581 := hm578.seal 0 _ rfl rfl
      exact ⟨(((([] : List Int) ++ ((List.take (((Int.tmod (w64 ((rd x1 s236.2.1))) (s236.1.length : Int))).toNat) s236.1).drop 0)) ++ ((List.take s236.1.length s236.1).drop (((w64 ((Int.tmod (w64 ((rd x1 s236.2.1))) (s236.1.length : Int)) + 1))).toNat))), (w64 (s236.2.1 + 1)), r299.2.2.1, r299.1, r299.2.1), H1, A486, c487, A337, c338, A339, c340, hf580.sel (l := [0, 1, 5, 7, 9, 11]) (by kernel_rfl), hm581.sel [0, 1, 4, 2, 3, 5, 6, 7, 8, 9] _ rfl (by kernel_rfl)⟩
    rintro a1518 w1519 ⟨yr243, rfl, A237, c238, A239, c240, A241, c242, hf1520, hm1521⟩
    refine thenN ?_
    refine wp_seq ?_
    obtain ⟨r1522, hr1522, H0⟩ := ob_split H0
    refine inReg ?_
    refine go 1 [] [5, 7, 139] [(5, .pointer (some ⟨b90, 0, none⟩)), (7, .pointer (some ⟨b157, 0, none⟩)), (139, .pointer (some ⟨b157, 0, none⟩))] [] hf1520 (by kernel_rfl) trivial fun a1523 hf1524 => ?_
    refine listOf hf1524 rfl (by kernel_rfl) (aCall (fid := 21) (args := [.pointer (some ⟨b157, 0, none⟩)]) (d := 140) hf1524 (by kernel_rfl) (by kernel_rfl) callable21 (fold_Slots_Value.calls _ _ _ (⟨y109.s, yr243.2.2.2.1, yr243.2.2.2.2, yr243.2.2.1⟩ : Slots) b157 A158 y109.s.length c159 rfl A239 yr243.2.2.2.1.length c240 rfl A241 yr243.2.2.2.2.length c242 rfl (hm1521.giveO [1, 3, 4] [0, 2, 5, 6, 7, 8, 9] [2] [.bx b157 [.slice A158 y109.s.length c159, .slice A239 yr243.2.2.2.1.length c240, .slice A241 yr243.2.2.2.2.length c242, .int .i64 yr243.2.2.1] 80, .ow kTensor 28 A239 c240 yr243.2.2.2.1, .ow Kd.bool 4 A241 c242 yr243.2.2.2.2] _ [.sl (Kd.int .i64) A158 c159 y109.s] rfl rfl rfl (by kernel_rfl) rfl) r1522 hr1522) ?_)
    rintro _ w1529 a1530 ⟨A1525, c1526, A1527, c1528, rfl, hk1532⟩ hf1531
    have hm1533 := hm1521.backO [1, 3, 4] [0, 2, 5, 6, 7, 8, 9] _ _ rfl rfl (by kernel_rfl) hk1532
    have hm1534 := hm1533.seal 3 _ rfl rfl
    have hm1535 := hm1534.seal 4 _ rfl rfl
    refine go 3 [] [5, 7, 141, 142] [(5, .pointer (some ⟨b90, 0, none⟩)), (7, .pointer (some ⟨b157, 0, none⟩)), (141, .agg #[.slice A1525 r1522.1.Shape.length c1526, .slice A1527 r1522.1.Data.length c1528]), (142, .int .i64 r1522.2)] [] hf1531 (by kernel_rfl) trivial fun a1536 hf1537 => ?_
    refine listOf hf1537 rfl (by kernel_rfl) (aNew (cs := [.slice none 0 0, .slice none 0 0]) (T := 28) (d := 15) hf1537 (by kernel_rfl) (by kernel_rfl) ?_)
    intro b1538 w1539 a1540 hbb1538 hx1542 hg1543 hf1541
    have hm1544 := hm1535.box hbb1538 hx1542 hg1543
    refine listOf hf1541 rfl (by kernel_rfl) (aStoreB (b := b1538) (j := 0) (T := 28) (cs := [.slice none 0 0, .slice none 0 0]) (us := [.slice A1525 r1522.1.Shape.length c1526, .slice A1527 r1522.1.Data.length c1528]) (cs' := [.slice A1525 r1522.1.Shape.length c1526, .slice A1527 r1522.1.Data.length c1528]) hf1541 (by kernel_rfl) (hm1544.bxAt 0 rfl) (by kernel_rfl) (by kernel_rfl) (by kernel_rfl) ?_)
    intro w1545 hx1546 hg1547
    have hm1548 := hm1544.setBox 0 _ rfl rfl hx1546 hg1547
    refine go 1 [] [5, 7, 15, 16] [(5, .pointer (some ⟨b90, 0, none⟩)), (7, .pointer (some ⟨b157, 0, none⟩)), (15, .pointer (some ⟨b1538, 0, none⟩)), (16, .int .i64 r1522.2)] [] hf1541 (by kernel_rfl) trivial fun a1549 hf1550 => ?_
    refine endL rfl ?_
    have hm1551 := hm1548.sel [0, 1, 2, 3, 4, 5, 7, 8, 9, 10] _ rfl (by kernel_rfl)
    refine thenN ?_
    refine wp_seq ?_
    rcases if_split H0 with ⟨c1552, H0⟩ | ⟨c1552, H0⟩
    rotate_left
    · refine reg [.bool false] [4] [(4, .bool false)] [.is (((r1522.2 : Int) == 0) = false)] hf1550 (by kernel_rfl) ⟨(eqF c1552), trivial⟩ fun a1587 hf1588 => ?_
      have hm1589 := hm1551.sel [] _ rfl (by kernel_rfl)
      refine thenN ?_
      refine wp_ret ?_
      have hm1590 : Mem [] M w0 [] w1545 := hm1589.sel [] _ rfl (by kernel_rfl)
      obtain rfl := Option.some.inj H0
      refine ret [] [.bool false] [] hf1588 (by kernel_rfl) trivial ?_
      exact ⟨_, rfl, rfl, hm1590⟩
    obtain ⟨r1553, hr1553, H0⟩ := ob_split H0
    rcases if_split H0 with ⟨c1554, H0⟩ | ⟨c1554, H0⟩
    rotate_left
    · refine inReg ?_
      refine go 4 [.bool true] [5, 15, 145, 146] [(5, .pointer (some ⟨b90, 0, none⟩)), (15, .pointer (some ⟨b1538, 0, none⟩)), (145, .bool true), (146, .pointer (some ⟨b157, 0, none⟩))] [.is (((r1522.2 : Int) == 0) = true)] hf1550 (by kernel_rfl) ⟨(eqT c1552), trivial⟩ fun a1575 hf1576 => ?_
      refine listOf hf1576 rfl (by kernel_rfl) (aCall (fid := 22) (args := [.pointer (some ⟨b157, 0, none⟩)]) (d := 147) hf1576 (by kernel_rfl) (by kernel_rfl) callable22 (fold_Slots_Left.calls _ _ _ (⟨y109.s, yr243.2.2.2.1, yr243.2.2.2.2, yr243.2.2.1⟩ : Slots) b157 A158 y109.s.length c159 rfl A239 yr243.2.2.2.1.length c240 rfl A241 yr243.2.2.2.2.length c242 rfl (hm1551.giveO [1, 2, 3] [0, 4, 5, 6, 7, 8, 9] [6] [.bx b157 [.slice A158 y109.s.length c159, .slice A239 yr243.2.2.2.1.length c240, .slice A241 yr243.2.2.2.2.length c242, .int .i64 yr243.2.2.1] 80, .ow kTensor 28 A239 c240 yr243.2.2.2.1, .ow Kd.bool 4 A241 c242 yr243.2.2.2.2] _ [.sl (Kd.int .i64) A158 c159 y109.s] rfl rfl rfl (by kernel_rfl) rfl) r1553 hr1553) ?_)
      rintro _ w1577 a1578 ⟨rfl, hk1580⟩ hf1579
      have hm1581 := hm1551.backO [1, 2, 3] [0, 4, 5, 6, 7, 8, 9] _ _ rfl rfl (by kernel_rfl) hk1580
      refine go 8 [.bool false] [4] [(4, .bool false)] [.is (((r1553 : Int) == 0) = false)] hf1579 (by kernel_rfl) ⟨(eqF c1554), trivial⟩ fun a1582 hf1583 => ?_
      refine endL rfl ?_
      have hm1584 := hm1581.sel [] _ rfl (by kernel_rfl)
      refine thenN ?_
      refine wp_ret ?_
      have hm1585 : Mem [] M w0 [] w1577 := hm1584.sel [] _ rfl (by kernel_rfl)
      obtain rfl := Option.some.inj H0
      refine ret [] [.bool false] [] hf1583 (by kernel_rfl) trivial ?_
      exact ⟨_, rfl, rfl, hm1585⟩
    obtain ⟨r1555, hr1555, H0⟩ := ob_split H0
    refine inReg ?_
    refine go 4 [.bool true] [5, 15, 145, 146] [(5, .pointer (some ⟨b90, 0, none⟩)), (15, .pointer (some ⟨b1538, 0, none⟩)), (145, .bool true), (146, .pointer (some ⟨b157, 0, none⟩))] [.is (((r1522.2 : Int) == 0) = true)] hf1550 (by kernel_rfl) ⟨(eqT c1552), trivial⟩ fun a1556 hf1557 => ?_
    refine listOf hf1557 rfl (by kernel_rfl) (aCall (fid := 22) (args := [.pointer (some ⟨b157, 0, none⟩)]) (d := 147) hf1557 (by kernel_rfl) (by kernel_rfl) callable22 (fold_Slots_Left.calls _ _ _ (⟨y109.s, yr243.2.2.2.1, yr243.2.2.2.2, yr243.2.2.1⟩ : Slots) b157 A158 y109.s.length c159 rfl A239 yr243.2.2.2.1.length c240 rfl A241 yr243.2.2.2.2.length c242 rfl (hm1551.giveO [1, 2, 3] [0, 4, 5, 6, 7, 8, 9] [6] [.bx b157 [.slice A158 y109.s.length c159, .slice A239 yr243.2.2.2.1.length c240, .slice A241 yr243.2.2.2.2.length c242, .int .i64 yr243.2.2.1] 80, .ow kTensor 28 A239 c240 yr243.2.2.2.1, .ow Kd.bool 4 A241 c242 yr243.2.2.2.2] _ [.sl (Kd.int .i64) A158 c159 y109.s] rfl rfl rfl (by kernel_rfl) rfl) r1553 hr1553) ?_)
    rintro _ w1558 a1559 ⟨rfl, hk1561⟩ hf1560
    have hm1562 := hm1551.backO [1, 2, 3] [0, 4, 5, 6, 7, 8, 9] _ _ rfl rfl (by kernel_rfl) hk1561
    refine go 5 [.bool true, .agg #[.slice A1525 r1522.1.Shape.length c1526, .slice A1527 r1522.1.Data.length c1528], .agg #[.slice A77 r74.1.Shape.length c78, .slice A79 r74.1.Data.length c80]] [150, 151, 152] [(150, .bool true), (151, .agg #[.slice A1525 r1522.1.Shape.length c1526, .slice A1527 r1522.1.Data.length c1528]), (152, .agg #[.slice A77 r74.1.Shape.length c78, .slice A79 r74.1.Data.length c80])] [.is (((r1553 : Int) == 0) = true), .cell ⟨b1538, 0, none⟩ (.slice A1525 r1522.1.Shape.length c1526), .cell ⟨b1538, 1, none⟩ (.slice A1527 r1522.1.Data.length c1528), .cell ⟨b90, 0, none⟩ (.slice A77 r74.1.Shape.length c78), .cell ⟨b90, 1, none⟩ (.slice A79 r74.1.Data.length c80)] hf1560 (by kernel_rfl) ⟨(eqT c1554), (hm1562.cell 3 rfl rfl), (hm1562.cell 3 rfl rfl), (hm1562.cell 7 rfl rfl), (hm1562.cell 7 rfl rfl), trivial⟩ fun a1563 hf1564 => ?_
    refine listOf hf1564 rfl (by kernel_rfl) (aCall (fid := 19) (args := [.agg #[.slice A1525 r1522.1.Shape.length c1526, .slice A1527 r1522.1.Data.length c1528], .agg #[.slice A77 r74.1.Shape.length c78, .slice A79 r74.1.Data.length c80]]) (d := 153) hf1564 (by kernel_rfl) (by kernel_rfl) callable19 (ref1_SameTensor.calls _ _ r1522.1 A1525 r1522.1.Shape.length c1526 rfl A1527 r1522.1.Data.length c1528 rfl r74.1 A77 r74.1.Shape.length c78 rfl A79 r74.1.Data.length c80 rfl (hm1562.give [4, 5, 8, 9] [.sl (Kd.int .i64) A1525 c1526 r1522.1.Shape, .sl Kd.float A1527 c1528 r1522.1.Data, .sl (Kd.int .i64) A77 c78 r74.1.Shape, .sl Kd.float A79 c80 r74.1.Data] rfl rfl) r1555 hr1555) ?_)
    rintro _ w1565 a1566 ⟨rfl, hk1568⟩ hf1567
    have hm1569 := hm1562.still hk1568.cum.none
    refine go 2 [] [4] [(4, .bool r1555)] [] hf1567 (by kernel_rfl) trivial fun a1570 hf1571 => ?_
    refine endL rfl ?_
    have hm1572 := hm1569.sel [] _ rfl (by kernel_rfl)
    refine thenN ?_
    refine wp_ret ?_
    have hm1573 : Mem [] M w0 [] w1565 := hm1572.sel [] _ rfl (by kernel_rfl)
    obtain rfl := Option.some.inj H0
    refine ret [] [.bool r1555] [] hf1571 (by kernel_rfl) trivial ?_
    exact ⟨_, rfl, rfl, hm1573⟩
end Go.Proofs.Ytkcgiolledmbnab
