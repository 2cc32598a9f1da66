/- Printed by gen.py. -/
import Derived.Test.YtkcgiolledmbnabF11
import Derived.Test.YtkcgiolledmbnabF13
import Derived.Test.YtkcgiolledmbnabF16
import Derived.Test.YtkcgiolledmbnabF17
import Derived.Test.YtkcgiolledmbnabF18
import Derived.Test.YtkcgiolledmbnabF19
import Derived.Test.YtkcgiolledmbnabF2
import Derived.Test.YtkcgiolledmbnabF7
namespace Go.Proofs.Ytkcgiolledmbnab
open Go Go.RowKit
set_option linter.unusedSimpArgs false
set_option linter.unusedVariables false
set_option linter.unnecessarySimpa false
/-! ### backstitch/backstitchlaw3.TensorAsks -/
noncomputable def law3_TensorAsks.l0 (r146 : Tensor) (x0 : Tensor) (s177 : Int) : Step Int (Out2 Int Bool) :=
  if s177 < (r146.Data.length : Int) then (if 0 ≤ s177 ∧ s177 < (r146.Data.length : Int) then (if 0 ≤ s177 ∧ s177 < (x0.Data.length : Int) then (bindS (math_Abs.f (rd x0.Data s177)) fun r189 =>
  bindS (ref1_Same.f (rd r146.Data s177) r189) fun r190 =>
  if r190 = true then (.next (w64 (s177 + 1)))
  else (.done (.ret false)))
  else .bad)
  else .bad)
  else (.done (.go s177))
noncomputable def law3_TensorAsks.l2  (s1578 : Unit) : Step Unit Unit :=
  .done ()
noncomputable def law3_TensorAsks.f (x0 : Tensor) (x1 : Tensor) (x2 : (List Int)) : Option Bool :=
  (law3_awake.f).bind fun r37 =>
  if r37 = true then ((law3_Small.f x0).bind fun r46 =>
  if r46 = true then ((law3_Small.f x1).bind fun r48 =>
  if r48 = true then (if 40 < (x2.length : Int) then (some true)
  else ((ref1_TensorMay.f x0).bind fun r89 =>
  (tensor_At.f x0 x2).bind fun r99 =>
  (ref1_Index.f x0.Shape x2).bind fun r110 =>
  if r89 = true then (if 0 ≤ r110 then (if (r99.2 != true) = true then (some false)
  else (if r99.2 = true then (if 0 ≤ r110 ∧ r110 < (x0.Data.length : Int) then ((ref1_Same.f r99.1 (rd x0.Data r110)).bind fun r133 =>
  if r133 = true then ((tensor_Map_math_Abs.f x0).bind fun r146 =>
  if 0 < (r146.Data.length : Int) then (if (r146.Data.length : Int) = (x0.Data.length : Int) then ((loop (law3_TensorAsks.l0 r146 x0) 0).bind fun r178 =>
  r178.on (fun yr178 =>
  (tensor_May.f x0).bind fun r325 =>
  if (r325 == true) = true then ((tensor_Same.f x0 x1).bind fun r327 =>
  (ref1_SameTensor.f x0 x1).bind fun r328 =>
  if (r327 == r328) = true then ((tensor_Finite.f x0).bind fun r330 =>
  (ref1_Finite.f x0).bind fun r331 =>
  if (r330 == r331) = true then ((tensor_Map_nil.f x0).bind fun r333 =>
  if (r333.Data.length : Int) = 0 then (some true)
  else (some false))
  else (some false))
  else (some false))
  else (some false)) (fun y => some y))
  else (some false))
  else (some false))
  else (some false))
  else none)
  else (some false)))
  else (if (r99.2 != false) = true then (some false)
  else (if r99.2 = true then (some false)
  else ((tensor_Map_math_Abs.f x0).bind fun r855 =>
  if 0 < (r855.Data.length : Int) then (if (r855.Data.length : Int) = (x0.Data.length : Int) then ((loop (law3_TensorAsks.l0 r855 x0) 0).bind fun r887 =>
  r887.on (fun yr887 =>
  (tensor_May.f x0).bind fun r1034 =>
  if (r1034 == true) = true then ((tensor_Same.f x0 x1).bind fun r1036 =>
  (ref1_SameTensor.f x0 x1).bind fun r1037 =>
  if (r1036 == r1037) = true then ((tensor_Finite.f x0).bind fun r1039 =>
  (ref1_Finite.f x0).bind fun r1040 =>
  if (r1039 == r1040) = true then ((tensor_Map_nil.f x0).bind fun r1042 =>
  if (r1042.Data.length : Int) = 0 then (some true)
  else (some false))
  else (some false))
  else (some false))
  else (some false)) (fun y => some y))
  else (some false))
  else (some false)))))
  else (if (r99.2 != false) = true then (some false)
  else (if r99.2 = true then (some false)
  else ((tensor_Map_math_Abs.f x0).bind fun r1541 =>
  if 0 < (r1541.Data.length : Int) then (some false)
  else ((loop (law3_TensorAsks.l2) ()).bind fun r1579 =>
  (tensor_May.f x0).bind fun r1591 =>
  if (r1591 == false) = true then ((tensor_Same.f x0 x1).bind fun r1593 =>
  (ref1_SameTensor.f x0 x1).bind fun r1594 =>
  if (r1593 == r1594) = true then ((tensor_Finite.f x0).bind fun r1596 =>
  (ref1_Finite.f x0).bind fun r1597 =>
  if (r1596 == r1597) = true then ((tensor_Map_nil.f x0).bind fun r1599 =>
  if (r1599.Data.length : Int) = 0 then (some true)
  else (some false))
  else (some false))
  else (some false))
  else (some false)))))))
  else (some true))
  else (some true))
  else (some false)
set_option maxRecDepth 100000 in
set_option maxHeartbeats 4000000 in
theorem law3_TensorAsks.calls (M : List (Option Nat)) (w0 : World) (x0 : Tensor) (A0_0 : Option Addr) (n0_0 c0_0 : Nat) (e0_0 : n0_0 = x0.Shape.length) (A0_1 : Option Addr) (n0_1 c0_1 : Nat) (e0_1 : n0_1 = x0.Data.length) (x1 : Tensor) (A1_0 : Option Addr) (n1_0 c1_0 : Nat) (e1_0 : n1_0 = x1.Shape.length) (A1_1 : Option Addr) (n1_1 c1_1 : Nat) (e1_1 : n1_1 = x1.Data.length) (x2 : (List Int)) (A2 : Option Addr) (n2 c2 : Nat) (e2 : n2 = x2.length) (hm0 : Mem [] M w0 [.sl (Kd.int .i64) A0_0 c0_0 x0.Shape, .sl Kd.float A0_1 c0_1 x0.Data, .sl (Kd.int .i64) A1_0 c1_0 x1.Shape, .sl Kd.float A1_1 c1_1 x1.Data, .sl (Kd.int .i64) A2 c2 x2] w0) (r : Bool) (H0 : law3_TensorAsks.f x0 x1 x2 = some r) :
    Calls Try.prog 9 [.agg #[.slice A0_0 n0_0 c0_0, .slice A0_1 n0_1 c0_1], .agg #[.slice A1_0 n1_0 c1_0, .slice A1_1 n1_1 c1_1], .slice A2 n2 c2].toArray w0 (fun x w' => ∃ v, x = .returned v ∧ v = .bool r ∧ Mem [] M w0 [] w') := by
  subst e0_0
  subst e0_1
  subst e1_0
  subst e1_1
  subst e2
  unfold law3_TensorAsks.f at H0
  refine enter (n := 127) Try.func9 rfl rfl (by kernel_rfl) fun a0 (hf0 : Fr 127 a0 [(0, .agg #[.slice A0_0 x0.Shape.length c0_0, .slice A0_1 x0.Data.length c0_1]), (1, .agg #[.slice A1_0 x1.Shape.length c1_0, .slice A1_1 x1.Data.length c1_1]), (2, .slice A2 x2.length c2)]) => ?_
  refine wp_seq ?_
  refine inReg ?_
  refine listOf hf0 rfl (by kernel_rfl) (aNew (cs := [.slice A0_0 x0.Shape.length c0_0, .slice A0_1 x0.Data.length c0_1]) (T := 28) (d := 3) hf0 (by kernel_rfl) (by kernel_rfl) ?_)
  intro b21 w22 a23 hbb21 hx25 hg26 hf24
  have hm27 := hm0.box hbb21 hx25 hg26
  refine listOf hf24 rfl (by kernel_rfl) (aNew (cs := [.slice A1_0 x1.Shape.length c1_0, .slice A1_1 x1.Data.length c1_1]) (T := 28) (d := 4) hf24 (by kernel_rfl) (by kernel_rfl) ?_)
  intro b28 w29 a30 hbb28 hx32 hg33 hf31
  have hm34 := hm27.box hbb28 hx32 hg33
  refine go 1 [] [2, 3, 4] [(2, .slice A2 x2.length c2), (3, .pointer (some ⟨b21, 0, none⟩)), (4, .pointer (some ⟨b28, 0, none⟩))] [] hf31 (by kernel_rfl) trivial fun a35 hf36 => ?_
  refine endL rfl ?_
  refine thenN ?_
  refine wp_seq ?_
  refine wp_seq ?_
  obtain ⟨r37, hr37, H0⟩ := ob_split H0
  rcases ifb_split H0 with ⟨c38, H0⟩ | ⟨c38, H0⟩
  · refine inReg ?_
    refine listOf hf36 rfl (by kernel_rfl) (aCall (fid := 26) (args := []) (d := 13) hf36 (by kernel_rfl) (by kernel_rfl) callable26 (law3_awake.calls _ _  (hm34.give [] [] rfl rfl) r37 hr37) ?_)
    rintro _ w39 a40 ⟨rfl, hk42⟩ hf41
    have hm43 := hm34.still hk42.cum.none
    rw [c38] at hf41
    refine go 1 [] [2, 3, 4, 14] [(2, .slice A2 x2.length c2), (3, .pointer (some ⟨b21, 0, none⟩)), (4, .pointer (some ⟨b28, 0, none⟩)), (14, .bool false)] [] hf41 (by kernel_rfl) trivial fun a44 hf45 => ?_
    refine endL rfl ?_
    refine thenN ?_
    refine condF hf45 (by kernel_rfl) ?_
    refine wp_skip ?_
    refine thenN ?_
    refine wp_seq ?_
    refine wp_seq ?_
    obtain ⟨r46, hr46, H0⟩ := ob_split H0
    rcases ifb_split H0 with ⟨c47, H0⟩ | ⟨c47, H0⟩
    · obtain ⟨r48, hr48, H0⟩ := ob_split H0
      rcases ifb_split H0 with ⟨c49, H0⟩ | ⟨c49, H0⟩
      · rcases if_split H0 with ⟨c50, H0⟩ | ⟨c50, H0⟩
        · refine inReg ?_
          refine go 1 [.agg #[.slice A0_0 x0.Shape.length c0_0, .slice A0_1 x0.Data.length c0_1]] [2, 3, 4, 15] [(2, .slice A2 x2.length c2), (3, .pointer (some ⟨b21, 0, none⟩)), (4, .pointer (some ⟨b28, 0, none⟩)), (15, .agg #[.slice A0_0 x0.Shape.length c0_0, .slice A0_1 x0.Data.length c0_1])] [.cell ⟨b21, 0, none⟩ (.slice A0_0 x0.Shape.length c0_0), .cell ⟨b21, 1, none⟩ (.slice A0_1 x0.Data.length c0_1)] hf45 (by kernel_rfl) ⟨(hm43.cell 1 rfl rfl), (hm43.cell 1 rfl rfl), trivial⟩ fun a51 hf52 => ?_
          refine listOf hf52 rfl (by kernel_rfl) (aCall (fid := 31) (args := [.agg #[.slice A0_0 x0.Shape.length c0_0, .slice A0_1 x0.Data.length c0_1]]) (d := 16) hf52 (by kernel_rfl) (by kernel_rfl) callable31 (law3_Small.calls _ _ x0 A0_0 x0.Shape.length c0_0 rfl A0_1 x0.Data.length c0_1 rfl (hm43.give [2, 3] [.sl (Kd.int .i64) A0_0 c0_0 x0.Shape, .sl Kd.float A0_1 c0_1 x0.Data] rfl rfl) r46 hr46) ?_)
          rintro _ w53 a54 ⟨rfl, hk56⟩ hf55
          have hm57 := hm43.still hk56.cum.none
          rw [c47] at hf55
          refine go 3 [.agg #[.slice A1_0 x1.Shape.length c1_0, .slice A1_1 x1.Data.length c1_1]] [2, 3, 4, 18, 19] [(2, .slice A2 x2.length c2), (3, .pointer (some ⟨b21, 0, none⟩)), (4, .pointer (some ⟨b28, 0, none⟩)), (18, .bool false), (19, .agg #[.slice A1_0 x1.Shape.length c1_0, .slice A1_1 x1.Data.length c1_1])] [.cell ⟨b28, 0, none⟩ (.slice A1_0 x1.Shape.length c1_0), .cell ⟨b28, 1, none⟩ (.slice A1_1 x1.Data.length c1_1)] hf55 (by kernel_rfl) ⟨(hm57.cell 0 rfl rfl), (hm57.cell 0 rfl rfl), trivial⟩ fun a58 hf59 => ?_
          refine listOf hf59 rfl (by kernel_rfl) (aCall (fid := 31) (args := [.agg #[.slice A1_0 x1.Shape.length c1_0, .slice A1_1 x1.Data.length c1_1]]) (d := 20) hf59 (by kernel_rfl) (by kernel_rfl) callable31 (law3_Small.calls _ _ x1 A1_0 x1.Shape.length c1_0 rfl A1_1 x1.Data.length c1_1 rfl (hm57.give [4, 5] [.sl (Kd.int .i64) A1_0 c1_0 x1.Shape, .sl Kd.float A1_1 c1_1 x1.Data] rfl rfl) r48 hr48) ?_)
          rintro _ w60 a61 ⟨rfl, hk63⟩ hf62
          have hm65 := hm57.still hk63.cum.none
          rw [c49] at hf62
          refine go 7 [.bool true] [2, 3, 4, 27] [(2, .slice A2 x2.length c2), (3, .pointer (some ⟨b21, 0, none⟩)), (4, .pointer (some ⟨b28, 0, none⟩)), (27, .bool true)] [.is (decide (40 < (x2.length : Int)) = true)] hf62 (by kernel_rfl) ⟨(decide_eq_true c50), trivial⟩ fun a66 hf67 => ?_
          refine endL rfl ?_
          refine thenN ?_
          refine condT hf67 (by kernel_rfl) ?_
          refine wp_seq ?_
          refine reg [] [6] [(6, .bool true)] [] hf67 (by kernel_rfl) trivial fun a68 hf69 => ?_
          have hm70 := hm65.sel [] _ rfl (by kernel_rfl)
          refine thenN ?_
          refine wp_ret ?_
          refine thenR ?_
          have hm71 : Mem [] M w0 [] w60 := hm70.sel [] _ rfl (by kernel_rfl)
          obtain rfl := Option.some.inj H0
          refine ret [] [.bool true] [] hf69 (by kernel_rfl) trivial ?_
          exact ⟨_, rfl, rfl, hm71⟩
        · refine inReg ?_
          refine go 1 [.agg #[.slice A0_0 x0.Shape.length c0_0, .slice A0_1 x0.Data.length c0_1]] [2, 3, 4, 15] [(2, .slice A2 x2.length c2), (3, .pointer (some ⟨b21, 0, none⟩)), (4, .pointer (some ⟨b28, 0, none⟩)), (15, .agg #[.slice A0_0 x0.Shape.length c0_0, .slice A0_1 x0.Data.length c0_1])] [.cell ⟨b21, 0, none⟩ (.slice A0_0 x0.Shape.length c0_0), .cell ⟨b21, 1, none⟩ (.slice A0_1 x0.Data.length c0_1)] hf45 (by kernel_rfl) ⟨(hm43.cell 1 rfl rfl), (hm43.cell 1 rfl rfl), trivial⟩ fun a73 hf74 => ?_
          refine listOf hf74 rfl (by kernel_rfl) (aCall (fid := 31) (args := [.agg #[.slice A0_0 x0.Shape.length c0_0, .slice A0_1 x0.Data.length c0_1]]) (d := 16) hf74 (by kernel_rfl) (by kernel_rfl) callable31 (law3_Small.calls _ _ x0 A0_0 x0.Shape.length c0_0 rfl A0_1 x0.Data.length c0_1 rfl (hm43.give [2, 3] [.sl (Kd.int .i64) A0_0 c0_0 x0.Shape, .sl Kd.float A0_1 c0_1 x0.Data] rfl rfl) r46 hr46) ?_)
          rintro _ w75 a76 ⟨rfl, hk78⟩ hf77
          have hm79 := hm43.still hk78.cum.none
          rw [c47] at hf77
          refine go 3 [.agg #[.slice A1_0 x1.Shape.length c1_0, .slice A1_1 x1.Data.length c1_1]] [2, 3, 4, 18, 19] [(2, .slice A2 x2.length c2), (3, .pointer (some ⟨b21, 0, none⟩)), (4, .pointer (some ⟨b28, 0, none⟩)), (18, .bool false), (19, .agg #[.slice A1_0 x1.Shape.length c1_0, .slice A1_1 x1.Data.length c1_1])] [.cell ⟨b28, 0, none⟩ (.slice A1_0 x1.Shape.length c1_0), .cell ⟨b28, 1, none⟩ (.slice A1_1 x1.Data.length c1_1)] hf77 (by kernel_rfl) ⟨(hm79.cell 0 rfl rfl), (hm79.cell 0 rfl rfl), trivial⟩ fun a80 hf81 => ?_
          refine listOf hf81 rfl (by kernel_rfl) (aCall (fid := 31) (args := [.agg #[.slice A1_0 x1.Shape.length c1_0, .slice A1_1 x1.Data.length c1_1]]) (d := 20) hf81 (by kernel_rfl) (by kernel_rfl) callable31 (law3_Small.calls _ _ x1 A1_0 x1.Shape.length c1_0 rfl A1_1 x1.Data.length c1_1 rfl (hm79.give [4, 5] [.sl (Kd.int .i64) A1_0 c1_0 x1.Shape, .sl Kd.float A1_1 c1_1 x1.Data] rfl rfl) r48 hr48) ?_)
          rintro _ w82 a83 ⟨rfl, hk85⟩ hf84
          have hm86 := hm79.still hk85.cum.none
          rw [c49] at hf84
          refine go 7 [.bool false] [2, 3, 4, 27] [(2, .slice A2 x2.length c2), (3, .pointer (some ⟨b21, 0, none⟩)), (4, .pointer (some ⟨b28, 0, none⟩)), (27, .bool false)] [.is (decide (40 < (x2.length : Int)) = false)] hf84 (by kernel_rfl) ⟨(decide_eq_false c50), trivial⟩ fun a87 hf88 => ?_
          refine endL rfl ?_
          refine thenN ?_
          refine condF hf88 (by kernel_rfl) ?_
          refine wp_skip ?_
          refine thenN ?_
          refine wp_seq ?_
          obtain ⟨r89, hr89, H0⟩ := ob_split H0
          refine inReg ?_
          refine go 1 [.agg #[.slice A0_0 x0.Shape.length c0_0, .slice A0_1 x0.Data.length c0_1]] [2, 3, 4, 28] [(2, .slice A2 x2.length c2), (3, .pointer (some ⟨b21, 0, none⟩)), (4, .pointer (some ⟨b28, 0, none⟩)), (28, .agg #[.slice A0_0 x0.Shape.length c0_0, .slice A0_1 x0.Data.length c0_1])] [.cell ⟨b21, 0, none⟩ (.slice A0_0 x0.Shape.length c0_0), .cell ⟨b21, 1, none⟩ (.slice A0_1 x0.Data.length c0_1)] hf88 (by kernel_rfl) ⟨(hm86.cell 1 rfl rfl), (hm86.cell 1 rfl rfl), trivial⟩ fun a90 hf91 => ?_
          refine listOf hf91 rfl (by kernel_rfl) (aCall (fid := 32) (args := [.agg #[.slice A0_0 x0.Shape.length c0_0, .slice A0_1 x0.Data.length c0_1]]) (d := 29) hf91 (by kernel_rfl) (by kernel_rfl) callable32 (ref1_TensorMay.calls _ _ x0 A0_0 x0.Shape.length c0_0 rfl A0_1 x0.Data.length c0_1 rfl (hm86.give [2, 3] [.sl (Kd.int .i64) A0_0 c0_0 x0.Shape, .sl Kd.float A0_1 c0_1 x0.Data] rfl rfl) r89 hr89) ?_)
          rintro _ w92 a93 ⟨rfl, hk95⟩ hf94
          have hm96 := hm86.still hk95.cum.none
          refine go 1 [] [2, 3, 4, 7] [(2, .slice A2 x2.length c2), (3, .pointer (some ⟨b21, 0, none⟩)), (4, .pointer (some ⟨b28, 0, none⟩)), (7, .bool r89)] [] hf94 (by kernel_rfl) trivial fun a97 hf98 => ?_
          refine endL rfl ?_
          refine thenN ?_
          refine wp_seq ?_
          obtain ⟨r99, hr99, H0⟩ := ob_split H0
          refine inReg ?_
          refine go 2 [.agg #[.slice A0_0 x0.Shape.length c0_0, .slice A0_1 x0.Data.length c0_1]] [2, 3, 4, 7, 31, 32] [(2, .slice A2 x2.length c2), (3, .pointer (some ⟨b21, 0, none⟩)), (4, .pointer (some ⟨b28, 0, none⟩)), (7, .bool r89), (31, .agg #[.slice A0_0 x0.Shape.length c0_0, .slice A0_1 x0.Data.length c0_1]), (32, .slice A2 x2.length c2)] [.cell ⟨b21, 0, none⟩ (.slice A0_0 x0.Shape.length c0_0), .cell ⟨b21, 1, none⟩ (.slice A0_1 x0.Data.length c0_1)] hf98 (by kernel_rfl) ⟨(hm96.cell 1 rfl rfl), (hm96.cell 1 rfl rfl), trivial⟩ fun a100 hf101 => ?_
          refine listOf hf101 rfl (by kernel_rfl) (aCall (fid := 33) (args := [.agg #[.slice A0_0 x0.Shape.length c0_0, .slice A0_1 x0.Data.length c0_1], .slice A2 x2.length c2]) (d := 33) hf101 (by kernel_rfl) (by kernel_rfl) callable33 (tensor_At.calls _ _ x0 A0_0 x0.Shape.length c0_0 rfl A0_1 x0.Data.length c0_1 rfl x2 A2 x2.length c2 rfl (hm96.give [2, 3, 6] [.sl (Kd.int .i64) A0_0 c0_0 x0.Shape, .sl Kd.float A0_1 c0_1 x0.Data, .sl (Kd.int .i64) A2 c2 x2] rfl rfl) r99 hr99) ?_)
          rintro _ w103 a104 ⟨b102, rfl, hb102, hk106⟩ hf105
          have hm107 := hm96.still hk106.cum.none
          refine go 5 [] [2, 3, 4, 7, 8, 9] [(2, .slice A2 x2.length c2), (3, .pointer (some ⟨b21, 0, none⟩)), (4, .pointer (some ⟨b28, 0, none⟩)), (7, .bool r89), (8, .float .f64 b102), (9, .bool r99.2)] [] hf105 (by kernel_rfl) trivial fun a108 hf109 => ?_
          refine endL rfl ?_
          refine thenN ?_
          refine wp_seq ?_
          obtain ⟨r110, hr110, H0⟩ := ob_split H0
          refine inReg ?_
          refine go 3 [.slice A0_0 x0.Shape.length c0_0] [3, 4, 7, 8, 9, 37, 38] [(3, .pointer (some ⟨b21, 0, none⟩)), (4, .pointer (some ⟨b28, 0, none⟩)), (7, .bool r89), (8, .float .f64 b102), (9, .bool r99.2), (37, .slice A0_0 x0.Shape.length c0_0), (38, .slice A2 x2.length c2)] [.cell ⟨b21, 0, none⟩ (.slice A0_0 x0.Shape.length c0_0)] hf109 (by kernel_rfl) ⟨(hm107.cell 1 rfl rfl), trivial⟩ fun a111 hf112 => ?_
          refine listOf hf112 rfl (by kernel_rfl) (aCall (fid := 34) (args := [.slice A0_0 x0.Shape.length c0_0, .slice A2 x2.length c2]) (d := 39) hf112 (by kernel_rfl) (by kernel_rfl) callable34 (ref1_Index.calls _ _ x0.Shape A0_0 x0.Shape.length c0_0 rfl x2 A2 x2.length c2 rfl (hm107.give [2, 6] [.sl (Kd.int .i64) A0_0 c0_0 x0.Shape, .sl (Kd.int .i64) A2 c2 x2] rfl rfl) r110 hr110) ?_)
          rintro _ w113 a114 ⟨rfl, hk116⟩ hf115
          have hm117 := hm107.still hk116.cum.none
          refine go 1 [] [3, 4, 7, 8, 9, 10] [(3, .pointer (some ⟨b21, 0, none⟩)), (4, .pointer (some ⟨b28, 0, none⟩)), (7, .bool r89), (8, .float .f64 b102), (9, .bool r99.2), (10, .int .i64 r110)] [] hf115 (by kernel_rfl) trivial fun a118 hf119 => ?_
          refine endL rfl ?_
          have hm120 := hm117.sel [0, 1, 2, 3, 4, 5] _ rfl (by kernel_rfl)
          refine thenN ?_
          refine wp_seq ?_
          refine wp_seq ?_
          rcases ifb_split H0 with ⟨c121, H0⟩ | ⟨c121, H0⟩
          · rw [c121] at hf119
            rcases if_split H0 with ⟨c122, H0⟩ | ⟨c122, H0⟩
            · rcases ifb_split H0 with ⟨c123, H0⟩ | ⟨c123, H0⟩
              · refine reg [.bool true, .bool true] [3, 4, 7, 59] [(3, .pointer (some ⟨b21, 0, none⟩)), (4, .pointer (some ⟨b28, 0, none⟩)), (7, .bool true), (59, .bool true)] [.is (decide (0 ≤ r110) = true), .is ((r99.2 != true) = true)] hf119 (by kernel_rfl) ⟨(decide_eq_true c122), c123, trivial⟩ fun a124 hf125 => ?_
                refine thenN ?_
                refine condT hf125 (by kernel_rfl) ?_
                refine wp_seq ?_
                refine reg [] [6] [(6, .bool false)] [] hf125 (by kernel_rfl) trivial fun a126 hf127 => ?_
                have hm128 := hm120.sel [] _ rfl (by kernel_rfl)
                refine thenN ?_
                refine wp_ret ?_
                refine thenR ?_
                have hm129 : Mem [] M w0 [] w113 := hm128.sel [] _ rfl (by kernel_rfl)
                obtain rfl := Option.some.inj H0
                refine ret [] [.bool false] [] hf127 (by kernel_rfl) trivial ?_
                exact ⟨_, rfl, rfl, hm129⟩
              · rcases ifb_split H0 with ⟨c131, H0⟩ | ⟨c131, H0⟩
                · rw [c131] at hf119
                  obtain ⟨g132, H0⟩ := if_guard H0
                  obtain ⟨r133, hr133, H0⟩ := ob_split H0
                  rcases ifb_split H0 with ⟨c134, H0⟩ | ⟨c134, H0⟩
                  · have q135 := (hm120.slAt 3 rfl).float r110 g132.1 g132.2
                    obtain ⟨b136, hb136, kb136⟩ := q135.2
                    refine inReg ?_
                    refine go 16 [.bool true, .bool false, .slice A0_1 x0.Data.length c0_1, .float .f64 b136] [3, 4, 7, 47, 49, 50, 55] [(3, .pointer (some ⟨b21, 0, none⟩)), (4, .pointer (some ⟨b28, 0, none⟩)), (7, .bool true), (47, .bool false), (49, .bool true), (50, .float .f64 b102), (55, .float .f64 b136)] [.is (decide (0 ≤ r110) = true), .is ((true != true) = false), .cell ⟨b21, 1, none⟩ (.slice A0_1 x0.Data.length c0_1), .is (Option.isSome A0_1 = true), .is (0 ≤ r110 ∧ r110 < (x0.Data.length : Int)), .cell ((ad A0_1).add ((r110).toNat * 1)) (.float .f64 b136)] hf119 (by kernel_rfl) ⟨(decide_eq_true c122), (okIs (by decide)), (hm120.cell 1 rfl rfl), q135.1, g132, kb136, trivial⟩ fun a137 hf138 => ?_
                    refine listOf hf138 rfl (by kernel_rfl) (aCall (fid := 35) (args := [.float .f64 b102, .float .f64 b136]) (d := 56) hf138 (by kernel_rfl) (by kernel_rfl) callable35 (ref1_Same.calls _ _ r99.1 b102 hb102 (rd x0.Data r110) b136 hb136 (hm120.give [] [] rfl rfl) r133 hr133) ?_)
                    rintro _ w139 a140 ⟨rfl, hk142⟩ hf141
                    have hm143 := hm120.still hk142.cum.none
                    rw [c134] at hf141
                    refine go 3 [] [3, 4, 7, 59] [(3, .pointer (some ⟨b21, 0, none⟩)), (4, .pointer (some ⟨b28, 0, none⟩)), (7, .bool true), (59, .bool false)] [] hf141 (by kernel_rfl) trivial fun a144 hf145 => ?_
                    refine endL rfl ?_
                    refine thenN ?_
                    refine condF hf145 (by kernel_rfl) ?_
                    refine wp_skip ?_
                    refine thenN ?_
                    refine wp_seq ?_
                    obtain ⟨r146, hr146, H0⟩ := ob_split H0
                    refine inReg ?_
                    refine go 1 [.agg #[.slice A0_0 x0.Shape.length c0_0, .slice A0_1 x0.Data.length c0_1]] [3, 4, 7, 60] [(3, .pointer (some ⟨b21, 0, none⟩)), (4, .pointer (some ⟨b28, 0, none⟩)), (7, .bool true), (60, .agg #[.slice A0_0 x0.Shape.length c0_0, .slice A0_1 x0.Data.length c0_1])] [.cell ⟨b21, 0, none⟩ (.slice A0_0 x0.Shape.length c0_0), .cell ⟨b21, 1, none⟩ (.slice A0_1 x0.Data.length c0_1)] hf145 (by kernel_rfl) ⟨(hm143.cell 1 rfl rfl), (hm143.cell 1 rfl rfl), trivial⟩ fun a147 hf148 => ?_
                    refine listOf hf148 rfl (by kernel_rfl) (aCall (fid := 36) (args := [.agg #[.slice A0_0 x0.Shape.length c0_0, .slice A0_1 x0.Data.length c0_1], .func (.func 37) #[] #[]]) (d := 61) hf148 (by kernel_rfl) (by kernel_rfl) callable36 (tensor_Map_math_Abs.calls _ _ x0 A0_0 x0.Shape.length c0_0 rfl A0_1 x0.Data.length c0_1 rfl (hm143.give [2, 3] [.sl (Kd.int .i64) A0_0 c0_0 x0.Shape, .sl Kd.float A0_1 c0_1 x0.Data] rfl rfl) r146 hr146) ?_)
                    rintro _ w153 a154 ⟨A149, c150, A151, c152, rfl, hk156⟩ hf155
                    have hm157 := hm143.back hk156
                    have hm158 := hm157.seal 0 _ rfl rfl
                    have hm159 := hm158.seal 1 _ rfl rfl
                    refine listOf hf155 rfl (by kernel_rfl) (aNew (cs := [.slice none 0 0, .slice none 0 0]) (T := 28) (d := 11) hf155 (by kernel_rfl) (by kernel_rfl) ?_)
                    intro b160 w161 a162 hbb160 hx164 hg165 hf163
                    have hm166 := hm159.box hbb160 hx164 hg165
                    refine listOf hf163 rfl (by kernel_rfl) (aStoreB (b := b160) (j := 0) (T := 28) (cs := [.slice none 0 0, .slice none 0 0]) (us := [.slice A149 r146.Shape.length c150, .slice A151 r146.Data.length c152]) (cs' := [.slice A149 r146.Shape.length c150, .slice A151 r146.Data.length c152]) hf163 (by kernel_rfl) (hm166.bxAt 0 rfl) (by kernel_rfl) (by kernel_rfl) (by kernel_rfl) ?_)
                    intro w167 hx168 hg169
                    have hm170 := hm166.setBox 0 _ rfl rfl hx168 hg169
                    refine endL rfl ?_
                    refine thenN ?_
                    refine wp_seq ?_
                    refine wp_seq ?_
                    rcases if_split H0 with ⟨c171, H0⟩ | ⟨c171, H0⟩
                    · rcases if_split H0 with ⟨c172, H0⟩ | ⟨c172, H0⟩
                      · refine reg [.slice A151 r146.Data.length c152, .bool true, .bool false, .slice A151 r146.Data.length c152, .slice A0_1 x0.Data.length c0_1, .bool false] [3, 4, 7, 11, 79] [(3, .pointer (some ⟨b21, 0, none⟩)), (4, .pointer (some ⟨b28, 0, none⟩)), (7, .bool true), (11, .pointer (some ⟨b160, 0, none⟩)), (79, .bool false)] [.cell ⟨b160, 1, none⟩ (.slice A151 r146.Data.length c152), .is (decide (0 < (r146.Data.length : Int)) = true), .is ((true != true) = false), .cell ⟨b160, 1, none⟩ (.slice A151 r146.Data.length c152), .cell ⟨b21, 1, none⟩ (.slice A0_1 x0.Data.length c0_1), .is ((((r146.Data.length : Int) : Int) != (x0.Data.length : Int)) = false)] hf163 (by kernel_rfl) ⟨(hm170.cell 0 rfl rfl), (decide_eq_true c171), (okIs (by decide)), (hm170.cell 0 rfl rfl), (hm170.cell 4 rfl rfl), (neF c172), trivial⟩ fun a173 hf174 => ?_
                        refine thenN ?_
                        refine condF hf174 (by kernel_rfl) ?_
                        refine wp_skip ?_
                        refine thenN ?_
                        refine wp_seq ?_
                        refine wp_seq ?_
                        refine reg [] [3, 4, 7, 11, 12] [(3, .pointer (some ⟨b21, 0, none⟩)), (4, .pointer (some ⟨b28, 0, none⟩)), (7, .bool true), (11, .pointer (some ⟨b160, 0, none⟩)), (12, .int .i64 0)] [] hf174 (by kernel_rfl) trivial fun a175 hf176 => ?_
                        refine thenN ?_
                        obtain ⟨r178, hr178, H0⟩ := ob_split H0
                        refine wpBlock (Mid := fun (a : Act) (w : World) => ∃ yr178 : Int, r178 = .go yr178 ∧ Fr 127 a [(3, .pointer (some ⟨b21, 0, none⟩)), (4, .pointer (some ⟨b28, 0, none⟩)), (7, .bool true), (11, .pointer (some ⟨b160, 0, none⟩)), (12, .int .i64 yr178)] ∧ Mem [] M w0 [.bx b160 [.slice A149 r146.Shape.length c150, .slice A151 r146.Data.length c152] 28, .sl (Kd.int .i64) A149 c150 r146.Shape, .sl Kd.float A151 c152 r146.Data, .bx b28 [.slice A1_0 x1.Shape.length c1_0, .slice A1_1 x1.Data.length c1_1] 28, .bx b21 [.slice A0_0 x0.Shape.length c0_0, .slice A0_1 x0.Data.length c0_1] 28, .sl (Kd.int .i64) A0_0 c0_0 x0.Shape, .sl Kd.float A0_1 c0_1 x0.Data, .sl (Kd.int .i64) A1_0 c1_0 x1.Shape, .sl Kd.float A1_1 c1_1 x1.Data] w) ?_ ?_
                        · refine wpLoop (law3_TensorAsks.l0 r146 x0) r178 (fun (s177 : Int) (a : Act) (w : World) => Fr 127 a [(3, .pointer (some ⟨b21, 0, none⟩)), (4, .pointer (some ⟨b28, 0, none⟩)), (7, .bool true), (11, .pointer (some ⟨b160, 0, none⟩)), (12, .int .i64 s177)] ∧ Mem [] M w0 [.bx b160 [.slice A149 r146.Shape.length c150, .slice A151 r146.Data.length c152] 28, .sl (Kd.int .i64) A149 c150 r146.Shape, .sl Kd.float A151 c152 r146.Data, .bx b28 [.slice A1_0 x1.Shape.length c1_0, .slice A1_1 x1.Data.length c1_1] 28, .bx b21 [.slice A0_0 x0.Shape.length c0_0, .slice A0_1 x0.Data.length c0_1] 28, .sl (Kd.int .i64) A0_0 c0_0 x0.Shape, .sl Kd.float A0_1 c0_1 x0.Data, .sl (Kd.int .i64) A1_0 c1_0 x1.Shape, .sl Kd.float A1_1 c1_1 x1.Data] w) 0 hr178 ⟨hf176.sel (l := [3, 4, 7, 11, 12]) (by kernel_rfl), hm170.sel [0, 1, 2, 3, 4, 5, 6, 7, 8] _ rfl (by kernel_rfl)⟩ ?_
                          rintro g179 s177 a180 w181 H1 ⟨hf182, hm183⟩
                          unfold law3_TensorAsks.l0 at H1
                          refine wp_seq ?_
                          refine wp_seq ?_
                          rcases ifS_split H1 with ⟨c184, H1⟩ | ⟨c184, H1⟩
                          · refine reg [.slice A151 r146.Data.length c152, .bool true] [3, 4, 7, 11, 12, 84] [(3, .pointer (some ⟨b21, 0, none⟩)), (4, .pointer (some ⟨b28, 0, none⟩)), (7, .bool true), (11, .pointer (some ⟨b160, 0, none⟩)), (12, .int .i64 s177), (84, .bool true)] [.cell ⟨b160, 1, none⟩ (.slice A151 r146.Data.length c152), .is (decide (s177 < (r146.Data.length : Int)) = true)] hf182 (by kernel_rfl) ⟨(hm183.cell 0 rfl rfl), (decide_eq_true c184), trivial⟩ fun a185 hf186 => ?_
                            refine thenN ?_
                            refine condT hf186 (by kernel_rfl) ?_
                            refine wp_skip ?_
                            refine thenN ?_
                            refine wp_seq ?_
                            refine wp_block ?_
                            refine wp_seq ?_
                            obtain ⟨g187, H1⟩ := ifS_guard H1
                            obtain ⟨g188, H1⟩ := ifS_guard H1
                            obtain ⟨r189, hr189, H1⟩ := obS_split H1
                            obtain ⟨r190, hr190, H1⟩ := obS_split H1
                            rcases ifbS_split H1 with ⟨c191, H1⟩ | ⟨c191, H1⟩
                            · refine midReg (fun (a : Act) (w : World) => Fr 127 a [(3, .pointer (some ⟨b21, 0, none⟩)), (4, .pointer (some ⟨b28, 0, none⟩)), (7, .bool true), (11, .pointer (some ⟨b160, 0, none⟩)), (12, .int .i64 s177), (99, .bool false)] ∧ Mem [] M w0 [.bx b160 [.slice A149 r146.Shape.length c150, .slice A151 r146.Data.length c152] 28, .sl (Kd.int .i64) A149 c150 r146.Shape, .sl Kd.float A151 c152 r146.Data, .bx b28 [.slice A1_0 x1.Shape.length c1_0, .slice A1_1 x1.Data.length c1_1] 28, .bx b21 [.slice A0_0 x0.Shape.length c0_0, .slice A0_1 x0.Data.length c0_1] 28, .sl (Kd.int .i64) A0_0 c0_0 x0.Shape, .sl Kd.float A0_1 c0_1 x0.Data, .sl (Kd.int .i64) A1_0 c1_0 x1.Shape, .sl Kd.float A1_1 c1_1 x1.Data] w) ?_ ?_
                              · refine anyG [] (by kernel_rfl) fun w207 hg208 => ?_
                                have hm209 := hm183.still hg208
                                have q229 := (hm209.slAt 2 rfl).float s177 g187.1 g187.2
                                obtain ⟨b230, hb230, kb230⟩ := q229.2
                                have q231 := (hm209.slAt 6 rfl).float s177 g188.1 g188.2
                                obtain ⟨b232, hb232, kb232⟩ := q231.2
                                refine quiet0 [0, 1, 2, 3, 4, 5, 6, 7, 8, 9] [.slice A151 r146.Data.length c152, .float .f64 b230, .slice A0_1 x0.Data.length c0_1, .float .f64 b232] [3, 4, 7, 11, 12, 91, 96] #[true, true, true, true, true, true, true, true, true, true, false, false, false] [(3, .pointer (some ⟨b21, 0, none⟩)), (4, .pointer (some ⟨b28, 0, none⟩)), (7, .bool true), (11, .pointer (some ⟨b160, 0, none⟩)), (12, .int .i64 s177), (91, .float .f64 b230), (96, .float .f64 b232)] [.cell ⟨b160, 1, none⟩ (.slice A151 r146.Data.length c152), .is (Option.isSome A151 = true), .is (0 ≤ s177 ∧ s177 < (r146.Data.length : Int)), .cell ((ad A151).add ((s177).toNat * 1)) (.float .f64 b230), .cell ⟨b21, 1, none⟩ (.slice A0_1 x0.Data.length c0_1), .is (Option.isSome A0_1 = true), .is (0 ≤ s177 ∧ s177 < (x0.Data.length : Int)), .cell ((ad A0_1).add ((s177).toNat * 1)) (.float .f64 b232)] 3 rfl (by kernel_rfl) (fun _ _ _ _ _ h => nomatch h.1) hf186 (by kernel_rfl) ⟨(hm209.cell 0 rfl rfl), q229.1, g187, kb230, (hm209.cell 4 rfl rfl), q231.1, g188, kb232, trivial⟩ fun a233 hf234 => ?_
                                refine all1 10 (by kernel_rfl) ?_
                                refine opOf hf234 rfl (by kernel_rfl) (aCall (fid := 37) (args := [.float .f64 b232]) (d := 97) hf234 (by kernel_rfl) (by kernel_rfl) callable37 (math_Abs.calls _ _ (rd x0.Data s177) b232 hb232 (hm209.give [] [] rfl rfl) r189 hr189) ?_)
                                rintro _ w236 a237 ⟨b235, rfl, hb235, hk239⟩ hf238
                                refine ⟨.inr (Gr.still hk239.cum.none), ?_⟩
                                have hm240 := hm209.still hk239.cum.none
                                refine all1 11 (by kernel_rfl) ?_
                                refine opOf hf238 rfl (by kernel_rfl) (aCall (fid := 35) (args := [.float .f64 b230, .float .f64 b235]) (d := 98) hf238 (by kernel_rfl) (by kernel_rfl) callable35 (ref1_Same.calls _ _ (rd r146.Data s177) b230 hb230 r189 b235 hb235 (hm240.give [] [] rfl rfl) r190 hr190) ?_)
                                rintro _ w241 a242 ⟨rfl, hk244⟩ hf243
                                refine ⟨.inr (Gr.still hk244.cum.none), ?_⟩
                                have hm245 := hm240.still hk244.cum.none
                                rw [c191] at hf243
                                refine quiet0 [12] [] [3, 4, 7, 11, 12, 99] #[true, true, true, true, true, true, true, true, true, true, true, true, true] [(3, .pointer (some ⟨b21, 0, none⟩)), (4, .pointer (some ⟨b28, 0, none⟩)), (7, .bool true), (11, .pointer (some ⟨b160, 0, none⟩)), (12, .int .i64 s177), (99, .bool false)] [] 0 rfl (by kernel_rfl) (fun _ _ _ _ _ h => nomatch h.1) hf243 (by kernel_rfl) trivial fun a246 hf247 => ?_
                                refine allDone (by kernel_rfl) ⟨rfl, hf247.sel (l := [3, 4, 7, 11, 12, 99]) (by kernel_rfl), hm245.sel [0, 1, 2, 3, 4, 5, 6, 7, 8] _ rfl (by kernel_rfl)⟩
                              rintro a248 w249 ⟨hf250, hm251⟩
                              refine thenN ?_
                              refine condF hf250 (by kernel_rfl) ?_
                              refine wp_skip ?_
                              refine blkN ?_
                              refine thenN ?_
                              refine reg [] [3, 4, 7, 11, 12] [(3, .pointer (some ⟨b21, 0, none⟩)), (4, .pointer (some ⟨b28, 0, none⟩)), (7, .bool true), (11, .pointer (some ⟨b160, 0, none⟩)), (12, .int .i64 (w64 (s177 + 1)))] [] hf250 (by kernel_rfl) trivial fun a252 hf253 => ?_
                              exact ⟨(w64 (s177 + 1)), H1, hf253.sel (l := [3, 4, 7, 11, 12]) (by kernel_rfl), hm251.sel [0, 1, 2, 3, 4, 5, 6, 7, 8] _ rfl (by kernel_rfl)⟩
                            · refine midReg (fun (a : Act) (w : World) => Fr 127 a [(3, .pointer (some ⟨b21, 0, none⟩)), (4, .pointer (some ⟨b28, 0, none⟩)), (7, .bool true), (11, .pointer (some ⟨b160, 0, none⟩)), (12, .int .i64 s177), (99, .bool true)] ∧ Mem [] M w0 [.bx b160 [.slice A149 r146.Shape.length c150, .slice A151 r146.Data.length c152] 28, .sl (Kd.int .i64) A149 c150 r146.Shape, .sl Kd.float A151 c152 r146.Data, .bx b28 [.slice A1_0 x1.Shape.length c1_0, .slice A1_1 x1.Data.length c1_1] 28, .bx b21 [.slice A0_0 x0.Shape.length c0_0, .slice A0_1 x0.Data.length c0_1] 28, .sl (Kd.int .i64) A0_0 c0_0 x0.Shape, .sl Kd.float A0_1 c0_1 x0.Data, .sl (Kd.int .i64) A1_0 c1_0 x1.Shape, .sl Kd.float A1_1 c1_1 x1.Data] w) ?_ ?_
                              · refine anyG [] (by kernel_rfl) fun w269 hg270 => ?_
                                have hm271 := hm183.still hg270
                                have q291 := (hm271.slAt 2 rfl).float s177 g187.1 g187.2
                                obtain ⟨b292, hb292, kb292⟩ := q291.2
                                have q293 := (hm271.slAt 6 rfl).float s177 g188.1 g188.2
                                obtain ⟨b294, hb294, kb294⟩ := q293.2
                                refine quiet0 [0, 1, 2, 3, 4, 5, 6, 7, 8, 9] [.slice A151 r146.Data.length c152, .float .f64 b292, .slice A0_1 x0.Data.length c0_1, .float .f64 b294] [3, 4, 7, 11, 12, 91, 96] #[true, true, true, true, true, true, true, true, true, true, false, false, false] [(3, .pointer (some ⟨b21, 0, none⟩)), (4, .pointer (some ⟨b28, 0, none⟩)), (7, .bool true), (11, .pointer (some ⟨b160, 0, none⟩)), (12, .int .i64 s177), (91, .float .f64 b292), (96, .float .f64 b294)] [.cell ⟨b160, 1, none⟩ (.slice A151 r146.Data.length c152), .is (Option.isSome A151 = true), .is (0 ≤ s177 ∧ s177 < (r146.Data.length : Int)), .cell ((ad A151).add ((s177).toNat * 1)) (.float .f64 b292), .cell ⟨b21, 1, none⟩ (.slice A0_1 x0.Data.length c0_1), .is (Option.isSome A0_1 = true), .is (0 ≤ s177 ∧ s177 < (x0.Data.length : Int)), .cell ((ad A0_1).add ((s177).toNat * 1)) (.float .f64 b294)] 3 rfl (by kernel_rfl) (fun _ _ _ _ _ h => nomatch h.1) hf186 (by kernel_rfl) ⟨(hm271.cell 0 rfl rfl), q291.1, g187, kb292, (hm271.cell 4 rfl rfl), q293.1, g188, kb294, trivial⟩ fun a295 hf296 => ?_
                                refine all1 10 (by kernel_rfl) ?_
                                refine opOf hf296 rfl (by kernel_rfl) (aCall (fid := 37) (args := [.float .f64 b294]) (d := 97) hf296 (by kernel_rfl) (by kernel_rfl) callable37 (math_Abs.calls _ _ (rd x0.Data s177) b294 hb294 (hm271.give [] [] rfl rfl) r189 hr189) ?_)
                                rintro _ w298 a299 ⟨b297, rfl, hb297, hk301⟩ hf300
                                refine ⟨.inr (Gr.still hk301.cum.none), ?_⟩
                                have hm302 := hm271.still hk301.cum.none
                                refine all1 11 (by kernel_rfl) ?_
                                refine opOf hf300 rfl (by kernel_rfl) (aCall (fid := 35) (args := [.float .f64 b292, .float .f64 b297]) (d := 98) hf300 (by kernel_rfl) (by kernel_rfl) callable35 (ref1_Same.calls _ _ (rd r146.Data s177) b292 hb292 r189 b297 hb297 (hm302.give [] [] rfl rfl) r190 hr190) ?_)
                                rintro _ w303 a304 ⟨rfl, hk306⟩ hf305
                                refine ⟨.inr (Gr.still hk306.cum.none), ?_⟩
                                have hm307 := hm302.still hk306.cum.none
                                rw [c191] at hf305
                                refine quiet0 [12] [] [3, 4, 7, 11, 12, 99] #[true, true, true, true, true, true, true, true, true, true, true, true, true] [(3, .pointer (some ⟨b21, 0, none⟩)), (4, .pointer (some ⟨b28, 0, none⟩)), (7, .bool true), (11, .pointer (some ⟨b160, 0, none⟩)), (12, .int .i64 s177), (99, .bool true)] [] 0 rfl (by kernel_rfl) (fun _ _ _ _ _ h => nomatch h.1) hf305 (by kernel_rfl) trivial fun a308 hf309 => ?_
                                refine allDone (by kernel_rfl) ⟨rfl, hf309.sel (l := [3, 4, 7, 11, 12, 99]) (by kernel_rfl), hm307.sel [0, 1, 2, 3, 4, 5, 6, 7, 8] _ rfl (by kernel_rfl)⟩
                              rintro a310 w311 ⟨hf312, hm313⟩
                              refine thenN ?_
                              refine condT hf312 (by kernel_rfl) ?_
                              refine wp_seq ?_
                              refine reg [] [6] [(6, .bool false)] [] hf312 (by kernel_rfl) trivial fun a314 hf315 => ?_
                              have hm316 := hm313.sel [] _ rfl (by kernel_rfl)
                              refine thenN ?_
                              refine wp_ret ?_
                              refine blkR ?_
                              refine thenR ?_
                              refine thenR ?_
                              refine .inr ⟨rfl, ?_⟩
                              refine thenR ?_
                              have hm317 : Mem [] M w0 [] w311 := hm316.sel [] _ rfl (by kernel_rfl)
                              obtain rfl := Option.some.inj H1
                              obtain rfl := Option.some.inj H0
                              refine ret [] [.bool false] [] hf315 (by kernel_rfl) trivial ?_
                              exact ⟨_, rfl, rfl, hm317⟩
                          · refine reg [.slice A151 r146.Data.length c152, .bool false] [3, 4, 7, 11, 12, 84] [(3, .pointer (some ⟨b21, 0, none⟩)), (4, .pointer (some ⟨b28, 0, none⟩)), (7, .bool true), (11, .pointer (some ⟨b160, 0, none⟩)), (12, .int .i64 s177), (84, .bool false)] [.cell ⟨b160, 1, none⟩ (.slice A151 r146.Data.length c152), .is (decide (s177 < (r146.Data.length : Int)) = false)] hf182 (by kernel_rfl) ⟨(hm183.cell 0 rfl rfl), (decide_eq_false c184), trivial⟩ fun a319 hf320 => ?_
                            refine thenN ?_
                            refine condF hf320 (by kernel_rfl) ?_
                            refine wp_exit ?_
                            refine thenE ?_
                            refine thenE ?_
                            obtain rfl := Option.some.inj H1
                            exact .inl ⟨rfl, s177, rfl, hf320.sel (l := [3, 4, 7, 11, 12]) (by kernel_rfl), hm183.sel [0, 1, 2, 3, 4, 5, 6, 7, 8] _ rfl (by kernel_rfl)⟩
                        rintro a321 w322 ⟨yr178, rfl, hf323, hm324⟩
                        refine thenN ?_
                        refine wp_seq ?_
                        obtain ⟨r325, hr325, H0⟩ := ob_split H0
                        rcases ifb_split H0 with ⟨c326, H0⟩ | ⟨c326, H0⟩
                        · obtain ⟨r327, hr327, H0⟩ := ob_split H0
                          obtain ⟨r328, hr328, H0⟩ := ob_split H0
                          rcases ifb_split H0 with ⟨c329, H0⟩ | ⟨c329, H0⟩
                          · obtain ⟨r330, hr330, H0⟩ := ob_split H0
                            obtain ⟨r331, hr331, H0⟩ := ob_split H0
                            rcases ifb_split H0 with ⟨c332, H0⟩ | ⟨c332, H0⟩
                            · obtain ⟨r333, hr333, H0⟩ := ob_split H0
                              rcases if_split H0 with ⟨c334, H0⟩ | ⟨c334, H0⟩
                              · refine midReg (fun (a : Act) (w : World) => Fr 127 a [(6, .bool true)] ∧ Mem [] M w0 [] w) ?_ ?_
                                · refine anyG [] (by kernel_rfl) fun w370 hg371 => ?_
                                  have hm372 := hm324.still hg371
                                  refine quiet0 [0, 2] [.agg #[.slice A0_0 x0.Shape.length c0_0, .slice A0_1 x0.Data.length c0_1]] [3, 4, 100, 102] #[true, false, true, false, false, false, false, false, false, false, false, false, false, false, false, false, false, false, false, false, false, false, false, false, false, false, false, false] [(3, .pointer (some ⟨b21, 0, none⟩)), (4, .pointer (some ⟨b28, 0, none⟩)), (100, .agg #[.slice A0_0 x0.Shape.length c0_0, .slice A0_1 x0.Data.length c0_1]), (102, .bool true)] [.cell ⟨b21, 0, none⟩ (.slice A0_0 x0.Shape.length c0_0), .cell ⟨b21, 1, none⟩ (.slice A0_1 x0.Data.length c0_1)] 26 rfl (by kernel_rfl) (fun _ _ _ _ _ h => nomatch h.1) hf323 (by kernel_rfl) ⟨(hm372.cell 4 rfl rfl), (hm372.cell 4 rfl rfl), trivial⟩ fun a417 hf418 => ?_
                                  refine all1 1 (by kernel_rfl) ?_
                                  refine opOf hf418 rfl (by kernel_rfl) (aCall (fid := 38) (args := [.agg #[.slice A0_0 x0.Shape.length c0_0, .slice A0_1 x0.Data.length c0_1]]) (d := 101) hf418 (by kernel_rfl) (by kernel_rfl) callable38 (tensor_May.calls _ _ x0 A0_0 x0.Shape.length c0_0 rfl A0_1 x0.Data.length c0_1 rfl (hm372.give [5, 6] [.sl (Kd.int .i64) A0_0 c0_0 x0.Shape, .sl Kd.float A0_1 c0_1 x0.Data] rfl rfl) r325 hr325) ?_)
                                  rintro _ w419 a420 ⟨rfl, hk422⟩ hf421
                                  refine ⟨.inr (Gr.still hk422.cum.none), ?_⟩
                                  have hm423 := hm372.still hk422.cum.none
                                  refine quiet0 [3, 4, 5, 6, 8, 9] [.bool true, .agg #[.slice A0_0 x0.Shape.length c0_0, .slice A0_1 x0.Data.length c0_1], .agg #[.slice A1_0 x1.Shape.length c1_0, .slice A1_1 x1.Data.length c1_1], .agg #[.slice A0_0 x0.Shape.length c0_0, .slice A0_1 x0.Data.length c0_1], .agg #[.slice A1_0 x1.Shape.length c1_0, .slice A1_1 x1.Data.length c1_1]] [3, 104, 105, 106, 108, 109] #[true, true, true, true, true, true, true, false, true, true, false, false, false, false, false, false, false, false, false, false, false, false, false, false, false, false, false, false] [(3, .pointer (some ⟨b21, 0, none⟩)), (104, .bool true), (105, .agg #[.slice A0_0 x0.Shape.length c0_0, .slice A0_1 x0.Data.length c0_1]), (106, .agg #[.slice A1_0 x1.Shape.length c1_0, .slice A1_1 x1.Data.length c1_1]), (108, .agg #[.slice A0_0 x0.Shape.length c0_0, .slice A0_1 x0.Data.length c0_1]), (109, .agg #[.slice A1_0 x1.Shape.length c1_0, .slice A1_1 x1.Data.length c1_1])] [.is ((r325 == true) = true), .cell ⟨b21, 0, none⟩ (.slice A0_0 x0.Shape.length c0_0), .cell ⟨b21, 1, none⟩ (.slice A0_1 x0.Data.length c0_1), .cell ⟨b28, 0, none⟩ (.slice A1_0 x1.Shape.length c1_0), .cell ⟨b28, 1, none⟩ (.slice A1_1 x1.Data.length c1_1), .cell ⟨b21, 0, none⟩ (.slice A0_0 x0.Shape.length c0_0), .cell ⟨b21, 1, none⟩ (.slice A0_1 x0.Data.length c0_1), .cell ⟨b28, 0, none⟩ (.slice A1_0 x1.Shape.length c1_0), .cell ⟨b28, 1, none⟩ (.slice A1_1 x1.Data.length c1_1)] 19 rfl (by kernel_rfl) (fun _ _ _ _ _ h => nomatch h.1) hf421 (by kernel_rfl) ⟨c326, (hm423.cell 4 rfl rfl), (hm423.cell 4 rfl rfl), (hm423.cell 3 rfl rfl), (hm423.cell 3 rfl rfl), (hm423.cell 4 rfl rfl), (hm423.cell 4 rfl rfl), (hm423.cell 3 rfl rfl), (hm423.cell 3 rfl rfl), trivial⟩ fun a424 hf425 => ?_
                                  refine all1 7 (by kernel_rfl) ?_
                                  refine opOf hf425 rfl (by kernel_rfl) (aCall (fid := 39) (args := [.agg #[.slice A0_0 x0.Shape.length c0_0, .slice A0_1 x0.Data.length c0_1], .agg #[.slice A1_0 x1.Shape.length c1_0, .slice A1_1 x1.Data.length c1_1]]) (d := 107) hf425 (by kernel_rfl) (by kernel_rfl) callable39 (tensor_Same.calls _ _ x0 A0_0 x0.Shape.length c0_0 rfl A0_1 x0.Data.length c0_1 rfl x1 A1_0 x1.Shape.length c1_0 rfl A1_1 x1.Data.length c1_1 rfl (hm423.give [5, 6, 7, 8] [.sl (Kd.int .i64) A0_0 c0_0 x0.Shape, .sl Kd.float A0_1 c0_1 x0.Data, .sl (Kd.int .i64) A1_0 c1_0 x1.Shape, .sl Kd.float A1_1 c1_1 x1.Data] rfl rfl) r327 hr327) ?_)
                                  rintro _ w426 a427 ⟨rfl, hk429⟩ hf428
                                  refine ⟨.inr (Gr.still hk429.cum.none), ?_⟩
                                  have hm430 := hm423.still hk429.cum.none
                                  refine all1 10 (by kernel_rfl) ?_
                                  refine opOf hf428 rfl (by kernel_rfl) (aCall (fid := 19) (args := [.agg #[.slice A0_0 x0.Shape.length c0_0, .slice A0_1 x0.Data.length c0_1], .agg #[.slice A1_0 x1.Shape.length c1_0, .slice A1_1 x1.Data.length c1_1]]) (d := 110) hf428 (by kernel_rfl) (by kernel_rfl) callable19 (ref1_SameTensor.calls _ _ x0 A0_0 x0.Shape.length c0_0 rfl A0_1 x0.Data.length c0_1 rfl x1 A1_0 x1.Shape.length c1_0 rfl A1_1 x1.Data.length c1_1 rfl (hm430.give [5, 6, 7, 8] [.sl (Kd.int .i64) A0_0 c0_0 x0.Shape, .sl Kd.float A0_1 c0_1 x0.Data, .sl (Kd.int .i64) A1_0 c1_0 x1.Shape, .sl Kd.float A1_1 c1_1 x1.Data] rfl rfl) r328 hr328) ?_)
                                  rintro _ w431 a432 ⟨rfl, hk434⟩ hf433
                                  refine ⟨.inr (Gr.still hk434.cum.none), ?_⟩
                                  have hm435 := hm430.still hk434.cum.none
                                  refine quiet0 [11, 12, 13, 14, 16] [.bool true, .agg #[.slice A0_0 x0.Shape.length c0_0, .slice A0_1 x0.Data.length c0_1], .agg #[.slice A0_0 x0.Shape.length c0_0, .slice A0_1 x0.Data.length c0_1]] [3, 113, 114, 116] #[true, true, true, true, true, true, true, true, true, true, true, true, true, true, true, false, true, false, false, false, false, false, false, false, false, false, false, false] [(3, .pointer (some ⟨b21, 0, none⟩)), (113, .bool true), (114, .agg #[.slice A0_0 x0.Shape.length c0_0, .slice A0_1 x0.Data.length c0_1]), (116, .agg #[.slice A0_0 x0.Shape.length c0_0, .slice A0_1 x0.Data.length c0_1])] [.is ((r327 == r328) = true), .cell ⟨b21, 0, none⟩ (.slice A0_0 x0.Shape.length c0_0), .cell ⟨b21, 1, none⟩ (.slice A0_1 x0.Data.length c0_1), .cell ⟨b21, 0, none⟩ (.slice A0_0 x0.Shape.length c0_0), .cell ⟨b21, 1, none⟩ (.slice A0_1 x0.Data.length c0_1)] 12 rfl (by kernel_rfl) (fun _ _ _ _ _ h => nomatch h.1) hf433 (by kernel_rfl) ⟨c329, (hm435.cell 4 rfl rfl), (hm435.cell 4 rfl rfl), (hm435.cell 4 rfl rfl), (hm435.cell 4 rfl rfl), trivial⟩ fun a436 hf437 => ?_
                                  refine all1 15 (by kernel_rfl) ?_
                                  refine opOf hf437 rfl (by kernel_rfl) (aCall (fid := 40) (args := [.agg #[.slice A0_0 x0.Shape.length c0_0, .slice A0_1 x0.Data.length c0_1]]) (d := 115) hf437 (by kernel_rfl) (by kernel_rfl) callable40 (tensor_Finite.calls _ _ x0 A0_0 x0.Shape.length c0_0 rfl A0_1 x0.Data.length c0_1 rfl (hm435.give [5, 6] [.sl (Kd.int .i64) A0_0 c0_0 x0.Shape, .sl Kd.float A0_1 c0_1 x0.Data] rfl rfl) r330 hr330) ?_)
                                  rintro _ w438 a439 ⟨rfl, hk441⟩ hf440
                                  refine ⟨.inr (Gr.still hk441.cum.none), ?_⟩
                                  have hm442 := hm435.still hk441.cum.none
                                  refine all1 17 (by kernel_rfl) ?_
                                  refine opOf hf440 rfl (by kernel_rfl) (aCall (fid := 41) (args := [.agg #[.slice A0_0 x0.Shape.length c0_0, .slice A0_1 x0.Data.length c0_1]]) (d := 117) hf440 (by kernel_rfl) (by kernel_rfl) callable41 (ref1_Finite.calls _ _ x0 A0_0 x0.Shape.length c0_0 rfl A0_1 x0.Data.length c0_1 rfl (hm442.give [5, 6] [.sl (Kd.int .i64) A0_0 c0_0 x0.Shape, .sl Kd.float A0_1 c0_1 x0.Data] rfl rfl) r331 hr331) ?_)
                                  rintro _ w443 a444 ⟨rfl, hk446⟩ hf445
                                  refine ⟨.inr (Gr.still hk446.cum.none), ?_⟩
                                  have hm447 := hm442.still hk446.cum.none
                                  refine quiet0 [18, 19, 20, 21] [.bool true, .agg #[.slice A0_0 x0.Shape.length c0_0, .slice A0_1 x0.Data.length c0_1]] [120, 121] #[true, true, true, true, true, true, true, true, true, true, true, true, true, true, true, true, true, true, true, true, true, true, false, false, false, false, false, false] [(120, .bool true), (121, .agg #[.slice A0_0 x0.Shape.length c0_0, .slice A0_1 x0.Data.length c0_1])] [.is ((r330 == r331) = true), .cell ⟨b21, 0, none⟩ (.slice A0_0 x0.Shape.length c0_0), .cell ⟨b21, 1, none⟩ (.slice A0_1 x0.Data.length c0_1)] 6 rfl (by kernel_rfl) (fun _ _ _ _ _ h => nomatch h.1) hf445 (by kernel_rfl) ⟨c332, (hm447.cell 4 rfl rfl), (hm447.cell 4 rfl rfl), trivial⟩ fun a448 hf449 => ?_
                                  refine all1 22 (by kernel_rfl) ?_
                                  refine opOf hf449 rfl (by kernel_rfl) (aCall (fid := 36) (args := [.agg #[.slice A0_0 x0.Shape.length c0_0, .slice A0_1 x0.Data.length c0_1], .nilFunc]) (d := 122) hf449 (by kernel_rfl) (by kernel_rfl) callable36 (tensor_Map_nil.calls _ _ x0 A0_0 x0.Shape.length c0_0 rfl A0_1 x0.Data.length c0_1 rfl (hm447.give [5, 6] [.sl (Kd.int .i64) A0_0 c0_0 x0.Shape, .sl Kd.float A0_1 c0_1 x0.Data] rfl rfl) r333 hr333) ?_)
                                  rintro _ w454 a455 ⟨A450, c451, A452, c453, rfl, hk457⟩ hf456
                                  refine ⟨.inr (Gr.still hk457.cum.none), ?_⟩
                                  have hm458 := hm447.back hk457
                                  refine quiet0 [23, 24, 25, 26, 27] [.bool true] [6] #[true, true, true, true, true, true, true, true, true, true, true, true, true, true, true, true, true, true, true, true, true, true, true, true, true, true, true, true] [(6, .bool true)] [.is ((((r333.Data.length : Int) : Int) == 0) = true)] 0 rfl (by kernel_rfl) (fun _ _ _ _ _ h => nomatch h.1) hf456 (by kernel_rfl) ⟨(eqT c334), trivial⟩ fun a459 hf460 => ?_
                                  refine allDone (by kernel_rfl) ⟨rfl, hf460.sel (l := [6]) (by kernel_rfl), hm458.sel [] _ rfl (by kernel_rfl)⟩
                                rintro a461 w462 ⟨hf463, hm464⟩
                                refine thenN ?_
                                refine wp_ret ?_
                                have hm465 : Mem [] M w0 [] w462 := hm464.sel [] _ rfl (by kernel_rfl)
                                obtain rfl := Option.some.inj H0
                                refine ret [] [.bool true] [] hf463 (by kernel_rfl) trivial ?_
                                exact ⟨_, rfl, rfl, hm465⟩
                              · refine midReg (fun (a : Act) (w : World) => Fr 127 a [(6, .bool false)] ∧ Mem [] M w0 [] w) ?_ ?_
                                · refine anyG [] (by kernel_rfl) fun w502 hg503 => ?_
                                  have hm504 := hm324.still hg503
                                  refine quiet0 [0, 2] [.agg #[.slice A0_0 x0.Shape.length c0_0, .slice A0_1 x0.Data.length c0_1]] [3, 4, 100, 102] #[true, false, true, false, false, false, false, false, false, false, false, false, false, false, false, false, false, false, false, false, false, false, false, false, false, false, false, false] [(3, .pointer (some ⟨b21, 0, none⟩)), (4, .pointer (some ⟨b28, 0, none⟩)), (100, .agg #[.slice A0_0 x0.Shape.length c0_0, .slice A0_1 x0.Data.length c0_1]), (102, .bool true)] [.cell ⟨b21, 0, none⟩ (.slice A0_0 x0.Shape.length c0_0), .cell ⟨b21, 1, none⟩ (.slice A0_1 x0.Data.length c0_1)] 26 rfl (by kernel_rfl) (fun _ _ _ _ _ h => nomatch h.1) hf323 (by kernel_rfl) ⟨(hm504.cell 4 rfl rfl), (hm504.cell 4 rfl rfl), trivial⟩ fun a549 hf550 => ?_
                                  refine all1 1 (by kernel_rfl) ?_
                                  refine opOf hf550 rfl (by kernel_rfl) (aCall (fid := 38) (args := [.agg #[.slice A0_0 x0.Shape.length c0_0, .slice A0_1 x0.Data.length c0_1]]) (d := 101) hf550 (by kernel_rfl) (by kernel_rfl) callable38 (tensor_May.calls _ _ x0 A0_0 x0.Shape.length c0_0 rfl A0_1 x0.Data.length c0_1 rfl (hm504.give [5, 6] [.sl (Kd.int .i64) A0_0 c0_0 x0.Shape, .sl Kd.float A0_1 c0_1 x0.Data] rfl rfl) r325 hr325) ?_)
                                  rintro _ w551 a552 ⟨rfl, hk554⟩ hf553
                                  refine ⟨.inr (Gr.still hk554.cum.none), ?_⟩
                                  have hm555 := hm504.still hk554.cum.none
                                  refine quiet0 [3, 4, 5, 6, 8, 9] [.bool true, .agg #[.slice A0_0 x0.Shape.length c0_0, .slice A0_1 x0.Data.length c0_1], .agg #[.slice A1_0 x1.Shape.length c1_0, .slice A1_1 x1.Data.length c1_1], .agg #[.slice A0_0 x0.Shape.length c0_0, .slice A0_1 x0.Data.length c0_1], .agg #[.slice A1_0 x1.Shape.length c1_0, .slice A1_1 x1.Data.length c1_1]] [3, 104, 105, 106, 108, 109] #[true, true, true, true, true, true, true, false, true, true, false, false, false, false, false, false, false, false, false, false, false, false, false, false, false, false, false, false] [(3, .pointer (some ⟨b21, 0, none⟩)), (104, .bool true), (105, .agg #[.slice A0_0 x0.Shape.length c0_0, .slice A0_1 x0.Data.length c0_1]), (106, .agg #[.slice A1_0 x1.Shape.length c1_0, .slice A1_1 x1.Data.length c1_1]), (108, .agg #[.slice A0_0 x0.Shape.length c0_0, .slice A0_1 x0.Data.length c0_1]), (109, .agg #[.slice A1_0 x1.Shape.length c1_0, .slice A1_1 x1.Data.length c1_1])] [.is ((r325 == true) = true), .cell ⟨b21, 0, none⟩ (.slice A0_0 x0.Shape.length c0_0), .cell ⟨b21, 1, none⟩ (.slice A0_1 x0.Data.length c0_1), .cell ⟨b28, 0, none⟩ (.slice A1_0 x1.Shape.length c1_0), .cell ⟨b28, 1, none⟩ (.slice A1_1 x1.Data.length c1_1), .cell ⟨b21, 0, none⟩ (.slice A0_0 x0.Shape.length c0_0), .cell ⟨b21, 1, none⟩ (.slice A0_1 x0.Data.length c0_1), .cell ⟨b28, 0, none⟩ (.slice A1_0 x1.Shape.length c1_0), .cell ⟨b28, 1, none⟩ (.slice A1_1 x1.Data.length c1_1)] 19 rfl (by kernel_rfl) (fun _ _ _ _ _ h => nomatch h.1) hf553 (by kernel_rfl) ⟨c326, (hm555.cell 4 rfl rfl), (hm555.cell 4 rfl rfl), (hm555.cell 3 rfl rfl), (hm555.cell 3 rfl rfl), (hm555.cell 4 rfl rfl), (hm555.cell 4 rfl rfl), (hm555.cell 3 rfl rfl), (hm555.cell 3 rfl rfl), trivial⟩ fun a556 hf557 => ?_
                                  refine all1 7 (by kernel_rfl) ?_
                                  refine opOf hf557 rfl (by kernel_rfl) (aCall (fid := 39) (args := [.agg #[.slice A0_0 x0.Shape.length c0_0, .slice A0_1 x0.Data.length c0_1], .agg #[.slice A1_0 x1.Shape.length c1_0, .slice A1_1 x1.Data.length c1_1]]) (d := 107) hf557 (by kernel_rfl) (by kernel_rfl) callable39 (tensor_Same.calls _ _ x0 A0_0 x0.Shape.length c0_0 rfl A0_1 x0.Data.length c0_1 rfl x1 A1_0 x1.Shape.length c1_0 rfl A1_1 x1.Data.length c1_1 rfl (hm555.give [5, 6, 7, 8] [.sl (Kd.int .i64) A0_0 c0_0 x0.Shape, .sl Kd.float A0_1 c0_1 x0.Data, .sl (Kd.int .i64) A1_0 c1_0 x1.Shape, .sl Kd.float A1_1 c1_1 x1.Data] rfl rfl) r327 hr327) ?_)
                                  rintro _ w558 a559 ⟨rfl, hk561⟩ hf560
                                  refine ⟨.inr (Gr.still hk561.cum.none), ?_⟩
                                  have hm562 := hm555.still hk561.cum.none
                                  refine all1 10 (by kernel_rfl) ?_
                                  refine opOf hf560 rfl (by kernel_rfl) (aCall (fid := 19) (args := [.agg #[.slice A0_0 x0.Shape.length c0_0, .slice A0_1 x0.Data.length c0_1], .agg #[.slice A1_0 x1.Shape.length c1_0, .slice A1_1 x1.Data.length c1_1]]) (d := 110) hf560 (by kernel_rfl) (by kernel_rfl) callable19 (ref1_SameTensor.calls _ _ x0 A0_0 x0.Shape.length c0_0 rfl A0_1 x0.Data.length c0_1 rfl x1 A1_0 x1.Shape.length c1_0 rfl A1_1 x1.Data.length c1_1 rfl (hm562.give [5, 6, 7, 8] [.sl (Kd.int .i64) A0_0 c0_0 x0.Shape, .sl Kd.float A0_1 c0_1 x0.Data, .sl (Kd.int .i64) A1_0 c1_0 x1.Shape, .sl Kd.float A1_1 c1_1 x1.Data] rfl rfl) r328 hr328) ?_)
                                  rintro _ w563 a564 ⟨rfl, hk566⟩ hf565
                                  refine ⟨.inr (Gr.still hk566.cum.none), ?_⟩
                                  have hm567 := hm562.still hk566.cum.none
                                  refine quiet0 [11, 12, 13, 14, 16] [.bool true, .agg #[.slice A0_0 x0.Shape.length c0_0, .slice A0_1 x0.Data.length c0_1], .agg #[.slice A0_0 x0.Shape.length c0_0, .slice A0_1 x0.Data.length c0_1]] [3, 113, 114, 116] #[true, true, true, true, true, true, true, true, true, true, true, true, true, true, true, false, true, false, false, false, false, false, false, false, false, false, false, false] [(3, .pointer (some ⟨b21, 0, none⟩)), (113, .bool true), (114, .agg #[.slice A0_0 x0.Shape.length c0_0, .slice A0_1 x0.Data.length c0_1]), (116, .agg #[.slice A0_0 x0.Shape.length c0_0, .slice A0_1 x0.Data.length c0_1])] [.is ((r327 == r328) = true), .cell ⟨b21, 0, none⟩ (.slice A0_0 x0.Shape.length c0_0), .cell ⟨b21, 1, none⟩ (.slice A0_1 x0.Data.length c0_1), .cell ⟨b21, 0, none⟩ (.slice A0_0 x0.Shape.length c0_0), .cell ⟨b21, 1, none⟩ (.slice A0_1 x0.Data.length c0_1)] 12 rfl (by kernel_rfl) (fun _ _ _ _ _ h => nomatch h.1) hf565 (by kernel_rfl) ⟨c329, (hm567.cell 4 rfl rfl), (hm567.cell 4 rfl rfl), (hm567.cell 4 rfl rfl), (hm567.cell 4 rfl rfl), trivial⟩ fun a568 hf569 => ?_
                                  refine all1 15 (by kernel_rfl) ?_
                                  refine opOf hf569 rfl (by kernel_rfl) (aCall (fid := 40) (args := [.agg #[.slice A0_0 x0.Shape.length c0_0, .slice A0_1 x0.Data.length c0_1]]) (d := 115) hf569 (by kernel_rfl) (by kernel_rfl) callable40 (tensor_Finite.calls _ _ x0 A0_0 x0.Shape.length c0_0 rfl A0_1 x0.Data.length c0_1 rfl (hm567.give [5, 6] [.sl (Kd.int .i64) A0_0 c0_0 x0.Shape, .sl Kd.float A0_1 c0_1 x0.Data] rfl rfl) r330 hr330) ?_)
                                  rintro _ w570 a571 ⟨rfl, hk573⟩ hf572
                                  refine ⟨.inr (Gr.still hk573.cum.none), ?_⟩
                                  have hm574 := hm567.still hk573.cum.none
                                  refine all1 17 (by kernel_rfl) ?_
                                  refine opOf hf572 rfl (by kernel_rfl) (aCall (fid := 41) (args := [.agg #[.slice A0_0 x0.Shape.length c0_0, .slice A0_1 x0.Data.length c0_1]]) (d := 117) hf572 (by kernel_rfl) (by kernel_rfl) callable41 (ref1_Finite.calls _ _ x0 A0_0 x0.Shape.length c0_0 rfl A0_1 x0.Data.length c0_1 rfl (hm574.give [5, 6] [.sl (Kd.int .i64) A0_0 c0_0 x0.Shape, .sl Kd.float A0_1 c0_1 x0.Data] rfl rfl) r331 hr331) ?_)
                                  rintro _ w575 a576 ⟨rfl, hk578⟩ hf577
                                  refine ⟨.inr (Gr.still hk578.cum.none), ?_⟩
                                  have hm579 := hm574.still hk578.cum.none
                                  refine quiet0 [18, 19, 20, 21] [.bool true, .agg #[.slice A0_0 x0.Shape.length c0_0, .slice A0_1 x0.Data.length c0_1]] [120, 121] #[true, true, true, true, true, true, true, true, true, true, true, true, true, true, true, true, true, true, true, true, true, true, false, false, false, false, false, false] [(120, .bool true), (121, .agg #[.slice A0_0 x0.Shape.length c0_0, .slice A0_1 x0.Data.length c0_1])] [.is ((r330 == r331) = true), .cell ⟨b21, 0, none⟩ (.slice A0_0 x0.Shape.length c0_0), .cell ⟨b21, 1, none⟩ (.slice A0_1 x0.Data.length c0_1)] 6 rfl (by kernel_rfl) (fun _ _ _ _ _ h => nomatch h.1) hf577 (by kernel_rfl) ⟨c332, (hm579.cell 4 rfl rfl), (hm579.cell 4 rfl rfl), trivial⟩ fun a580 hf581 => ?_
                                  refine all1 22 (by kernel_rfl) ?_
                                  refine opOf hf581 rfl (by kernel_rfl) (aCall (fid := 36) (args := [.agg #[.slice A0_0 x0.Shape.length c0_0, .slice A0_1 x0.Data.length c0_1], .nilFunc]) (d := 122) hf581 (by kernel_rfl) (by kernel_rfl) callable36 (tensor_Map_nil.calls _ _ x0 A0_0 x0.Shape.length c0_0 rfl A0_1 x0.Data.length c0_1 rfl (hm579.give [5, 6] [.sl (Kd.int .i64) A0_0 c0_0 x0.Shape, .sl Kd.float A0_1 c0_1 x0.Data] rfl rfl) r333 hr333) ?_)
                                  rintro _ w586 a587 ⟨A582, c583, A584, c585, rfl, hk589⟩ hf588
                                  refine ⟨.inr (Gr.still hk589.cum.none), ?_⟩
                                  have hm590 := hm579.back hk589
                                  refine quiet0 [23, 24, 25, 26, 27] [.bool false] [6] #[true, true, true, true, true, true, true, true, true, true, true, true, true, true, true, true, true, true, true, true, true, true, true, true, true, true, true, true] [(6, .bool false)] [.is ((((r333.Data.length : Int) : Int) == 0) = false)] 0 rfl (by kernel_rfl) (fun _ _ _ _ _ h => nomatch h.1) hf588 (by kernel_rfl) ⟨(eqF c334), trivial⟩ fun a591 hf592 => ?_
                                  refine allDone (by kernel_rfl) ⟨rfl, hf592.sel (l := [6]) (by kernel_rfl), hm590.sel [] _ rfl (by kernel_rfl)⟩
                                rintro a593 w594 ⟨hf595, hm596⟩
                                refine thenN ?_
                                refine wp_ret ?_
                                have hm597 : Mem [] M w0 [] w594 := hm596.sel [] _ rfl (by kernel_rfl)
                                obtain rfl := Option.some.inj H0
                                refine ret [] [.bool false] [] hf595 (by kernel_rfl) trivial ?_
                                exact ⟨_, rfl, rfl, hm597⟩
                            · refine midReg (fun (a : Act) (w : World) => Fr 127 a [(6, .bool false)] ∧ Mem [] M w0 [] w) ?_ ?_
                              · refine anyG [] (by kernel_rfl) fun w625 hg626 => ?_
                                have hm627 := hm324.still hg626
                                refine quiet0 [0, 2] [.agg #[.slice A0_0 x0.Shape.length c0_0, .slice A0_1 x0.Data.length c0_1]] [3, 4, 100, 102] #[true, false, true, false, false, false, false, false, false, false, false, false, false, false, false, false, false, false, false, false, false, false, false, false, false, false, false, false] [(3, .pointer (some ⟨b21, 0, none⟩)), (4, .pointer (some ⟨b28, 0, none⟩)), (100, .agg #[.slice A0_0 x0.Shape.length c0_0, .slice A0_1 x0.Data.length c0_1]), (102, .bool true)] [.cell ⟨b21, 0, none⟩ (.slice A0_0 x0.Shape.length c0_0), .cell ⟨b21, 1, none⟩ (.slice A0_1 x0.Data.length c0_1)] 26 rfl (by kernel_rfl) (fun _ _ _ _ _ h => nomatch h.1) hf323 (by kernel_rfl) ⟨(hm627.cell 4 rfl rfl), (hm627.cell 4 rfl rfl), trivial⟩ fun a661 hf662 => ?_
                                refine all1 1 (by kernel_rfl) ?_
                                refine opOf hf662 rfl (by kernel_rfl) (aCall (fid := 38) (args := [.agg #[.slice A0_0 x0.Shape.length c0_0, .slice A0_1 x0.Data.length c0_1]]) (d := 101) hf662 (by kernel_rfl) (by kernel_rfl) callable38 (tensor_May.calls _ _ x0 A0_0 x0.Shape.length c0_0 rfl A0_1 x0.Data.length c0_1 rfl (hm627.give [5, 6] [.sl (Kd.int .i64) A0_0 c0_0 x0.Shape, .sl Kd.float A0_1 c0_1 x0.Data] rfl rfl) r325 hr325) ?_)
                                rintro _ w663 a664 ⟨rfl, hk666⟩ hf665
                                refine ⟨.inr (Gr.still hk666.cum.none), ?_⟩
                                have hm667 := hm627.still hk666.cum.none
                                refine quiet0 [3, 4, 5, 6, 8, 9] [.bool true, .agg #[.slice A0_0 x0.Shape.length c0_0, .slice A0_1 x0.Data.length c0_1], .agg #[.slice A1_0 x1.Shape.length c1_0, .slice A1_1 x1.Data.length c1_1], .agg #[.slice A0_0 x0.Shape.length c0_0, .slice A0_1 x0.Data.length c0_1], .agg #[.slice A1_0 x1.Shape.length c1_0, .slice A1_1 x1.Data.length c1_1]] [3, 104, 105, 106, 108, 109] #[true, true, true, true, true, true, true, false, true, true, false, false, false, false, false, false, false, false, false, false, false, false, false, false, false, false, false, false] [(3, .pointer (some ⟨b21, 0, none⟩)), (104, .bool true), (105, .agg #[.slice A0_0 x0.Shape.length c0_0, .slice A0_1 x0.Data.length c0_1]), (106, .agg #[.slice A1_0 x1.Shape.length c1_0, .slice A1_1 x1.Data.length c1_1]), (108, .agg #[.slice A0_0 x0.Shape.length c0_0, .slice A0_1 x0.Data.length c0_1]), (109, .agg #[.slice A1_0 x1.Shape.length c1_0, .slice A1_1 x1.Data.length c1_1])] [.is ((r325 == true) = true), .cell ⟨b21, 0, none⟩ (.slice A0_0 x0.Shape.length c0_0), .cell ⟨b21, 1, none⟩ (.slice A0_1 x0.Data.length c0_1), .cell ⟨b28, 0, none⟩ (.slice A1_0 x1.Shape.length c1_0), .cell ⟨b28, 1, none⟩ (.slice A1_1 x1.Data.length c1_1), .cell ⟨b21, 0, none⟩ (.slice A0_0 x0.Shape.length c0_0), .cell ⟨b21, 1, none⟩ (.slice A0_1 x0.Data.length c0_1), .cell ⟨b28, 0, none⟩ (.slice A1_0 x1.Shape.length c1_0), .cell ⟨b28, 1, none⟩ (.slice A1_1 x1.Data.length c1_1)] 19 rfl (by kernel_rfl) (fun _ _ _ _ _ h => nomatch h.1) hf665 (by kernel_rfl) ⟨c326, (hm667.cell 4 rfl rfl), (hm667.cell 4 rfl rfl), (hm667.cell 3 rfl rfl), (hm667.cell 3 rfl rfl), (hm667.cell 4 rfl rfl), (hm667.cell 4 rfl rfl), (hm667.cell 3 rfl rfl), (hm667.cell 3 rfl rfl), trivial⟩ fun a668 hf669 => ?_
                                refine all1 7 (by kernel_rfl) ?_
                                refine opOf hf669 rfl (by kernel_rfl) (aCall (fid := 39) (args := [.agg #[.slice A0_0 x0.Shape.length c0_0, .slice A0_1 x0.Data.length c0_1], .agg #[.slice A1_0 x1.Shape.length c1_0, .slice A1_1 x1.Data.length c1_1]]) (d := 107) hf669 (by kernel_rfl) (by kernel_rfl) callable39 (tensor_Same.calls _ _ x0 A0_0 x0.Shape.length c0_0 rfl A0_1 x0.Data.length c0_1 rfl x1 A1_0 x1.Shape.length c1_0 rfl A1_1 x1.Data.length c1_1 rfl (hm667.give [5, 6, 7, 8] [.sl (Kd.int .i64) A0_0 c0_0 x0.Shape, .sl Kd.float A0_1 c0_1 x0.Data, .sl (Kd.int .i64) A1_0 c1_0 x1.Shape, .sl Kd.float A1_1 c1_1 x1.Data] rfl rfl) r327 hr327) ?_)
                                rintro _ w670 a671 ⟨rfl, hk673⟩ hf672
                                refine ⟨.inr (Gr.still hk673.cum.none), ?_⟩
                                have hm674 := hm667.still hk673.cum.none
                                refine all1 10 (by kernel_rfl) ?_
                                refine opOf hf672 rfl (by kernel_rfl) (aCall (fid := 19) (args := [.agg #[.slice A0_0 x0.Shape.length c0_0, .slice A0_1 x0.Data.length c0_1], .agg #[.slice A1_0 x1.Shape.length c1_0, .slice A1_1 x1.Data.length c1_1]]) (d := 110) hf672 (by kernel_rfl) (by kernel_rfl) callable19 (ref1_SameTensor.calls _ _ x0 A0_0 x0.Shape.length c0_0 rfl A0_1 x0.Data.length c0_1 rfl x1 A1_0 x1.Shape.length c1_0 rfl A1_1 x1.Data.length c1_1 rfl (hm674.give [5, 6, 7, 8] [.sl (Kd.int .i64) A0_0 c0_0 x0.Shape, .sl Kd.float A0_1 c0_1 x0.Data, .sl (Kd.int .i64) A1_0 c1_0 x1.Shape, .sl Kd.float A1_1 c1_1 x1.Data] rfl rfl) r328 hr328) ?_)
                                rintro _ w675 a676 ⟨rfl, hk678⟩ hf677
                                refine ⟨.inr (Gr.still hk678.cum.none), ?_⟩
                                have hm679 := hm674.still hk678.cum.none
                                refine quiet0 [11, 12, 13, 14, 16] [.bool true, .agg #[.slice A0_0 x0.Shape.length c0_0, .slice A0_1 x0.Data.length c0_1], .agg #[.slice A0_0 x0.Shape.length c0_0, .slice A0_1 x0.Data.length c0_1]] [3, 113, 114, 116] #[true, true, true, true, true, true, true, true, true, true, true, true, true, true, true, false, true, false, false, false, false, false, false, false, false, false, false, false] [(3, .pointer (some ⟨b21, 0, none⟩)), (113, .bool true), (114, .agg #[.slice A0_0 x0.Shape.length c0_0, .slice A0_1 x0.Data.length c0_1]), (116, .agg #[.slice A0_0 x0.Shape.length c0_0, .slice A0_1 x0.Data.length c0_1])] [.is ((r327 == r328) = true), .cell ⟨b21, 0, none⟩ (.slice A0_0 x0.Shape.length c0_0), .cell ⟨b21, 1, none⟩ (.slice A0_1 x0.Data.length c0_1), .cell ⟨b21, 0, none⟩ (.slice A0_0 x0.Shape.length c0_0), .cell ⟨b21, 1, none⟩ (.slice A0_1 x0.Data.length c0_1)] 12 rfl (by kernel_rfl) (fun _ _ _ _ _ h => nomatch h.1) hf677 (by kernel_rfl) ⟨c329, (hm679.cell 4 rfl rfl), (hm679.cell 4 rfl rfl), (hm679.cell 4 rfl rfl), (hm679.cell 4 rfl rfl), trivial⟩ fun a680 hf681 => ?_
                                refine all1 15 (by kernel_rfl) ?_
                                refine opOf hf681 rfl (by kernel_rfl) (aCall (fid := 40) (args := [.agg #[.slice A0_0 x0.Shape.length c0_0, .slice A0_1 x0.Data.length c0_1]]) (d := 115) hf681 (by kernel_rfl) (by kernel_rfl) callable40 (tensor_Finite.calls _ _ x0 A0_0 x0.Shape.length c0_0 rfl A0_1 x0.Data.length c0_1 rfl (hm679.give [5, 6] [.sl (Kd.int .i64) A0_0 c0_0 x0.Shape, .sl Kd.float A0_1 c0_1 x0.Data] rfl rfl) r330 hr330) ?_)
                                rintro _ w682 a683 ⟨rfl, hk685⟩ hf684
                                refine ⟨.inr (Gr.still hk685.cum.none), ?_⟩
                                have hm686 := hm679.still hk685.cum.none
                                refine all1 17 (by kernel_rfl) ?_
                                refine opOf hf684 rfl (by kernel_rfl) (aCall (fid := 41) (args := [.agg #[.slice A0_0 x0.Shape.length c0_0, .slice A0_1 x0.Data.length c0_1]]) (d := 117) hf684 (by kernel_rfl) (by kernel_rfl) callable41 (ref1_Finite.calls _ _ x0 A0_0 x0.Shape.length c0_0 rfl A0_1 x0.Data.length c0_1 rfl (hm686.give [5, 6] [.sl (Kd.int .i64) A0_0 c0_0 x0.Shape, .sl Kd.float A0_1 c0_1 x0.Data] rfl rfl) r331 hr331) ?_)
                                rintro _ w687 a688 ⟨rfl, hk690⟩ hf689
                                refine ⟨.inr (Gr.still hk690.cum.none), ?_⟩
                                have hm691 := hm686.still hk690.cum.none
                                refine quiet0 [18, 19, 20, 21, 22, 23, 24, 25, 26, 27] [.bool false] [6] #[true, true, true, true, true, true, true, true, true, true, true, true, true, true, true, true, true, true, true, true, true, true, true, true, true, true, true, true] [(6, .bool false)] [.is ((r330 == r331) = false)] 0 rfl (by kernel_rfl) (fun _ _ _ _ _ h => nomatch h.1) hf689 (by kernel_rfl) ⟨c332, trivial⟩ fun a692 hf693 => ?_
                                refine allDone (by kernel_rfl) ⟨rfl, hf693.sel (l := [6]) (by kernel_rfl), hm691.sel [] _ rfl (by kernel_rfl)⟩
                              rintro a694 w695 ⟨hf696, hm697⟩
                              refine thenN ?_
                              refine wp_ret ?_
                              have hm698 : Mem [] M w0 [] w695 := hm697.sel [] _ rfl (by kernel_rfl)
                              obtain rfl := Option.some.inj H0
                              refine ret [] [.bool false] [] hf696 (by kernel_rfl) trivial ?_
                              exact ⟨_, rfl, rfl, hm698⟩
                          · refine midReg (fun (a : Act) (w : World) => Fr 127 a [(6, .bool false)] ∧ Mem [] M w0 [] w) ?_ ?_
                            · refine anyG [] (by kernel_rfl) fun w716 hg717 => ?_
                              have hm718 := hm324.still hg717
                              refine quiet0 [0, 2] [.agg #[.slice A0_0 x0.Shape.length c0_0, .slice A0_1 x0.Data.length c0_1]] [3, 4, 100, 102] #[true, false, true, false, false, false, false, false, false, false, false, false, false, false, false, false, false, false, false, false, false, false, false, false, false, false, false, false] [(3, .pointer (some ⟨b21, 0, none⟩)), (4, .pointer (some ⟨b28, 0, none⟩)), (100, .agg #[.slice A0_0 x0.Shape.length c0_0, .slice A0_1 x0.Data.length c0_1]), (102, .bool true)] [.cell ⟨b21, 0, none⟩ (.slice A0_0 x0.Shape.length c0_0), .cell ⟨b21, 1, none⟩ (.slice A0_1 x0.Data.length c0_1)] 26 rfl (by kernel_rfl) (fun _ _ _ _ _ h => nomatch h.1) hf323 (by kernel_rfl) ⟨(hm718.cell 4 rfl rfl), (hm718.cell 4 rfl rfl), trivial⟩ fun a740 hf741 => ?_
                              refine all1 1 (by kernel_rfl) ?_
                              refine opOf hf741 rfl (by kernel_rfl) (aCall (fid := 38) (args := [.agg #[.slice A0_0 x0.Shape.length c0_0, .slice A0_1 x0.Data.length c0_1]]) (d := 101) hf741 (by kernel_rfl) (by kernel_rfl) callable38 (tensor_May.calls _ _ x0 A0_0 x0.Shape.length c0_0 rfl A0_1 x0.Data.length c0_1 rfl (hm718.give [5, 6] [.sl (Kd.int .i64) A0_0 c0_0 x0.Shape, .sl Kd.float A0_1 c0_1 x0.Data] rfl rfl) r325 hr325) ?_)
                              rintro _ w742 a743 ⟨rfl, hk745⟩ hf744
                              refine ⟨.inr (Gr.still hk745.cum.none), ?_⟩
                              have hm746 := hm718.still hk745.cum.none
                              refine quiet0 [3, 4, 5, 6, 8, 9] [.bool true, .agg #[.slice A0_0 x0.Shape.length c0_0, .slice A0_1 x0.Data.length c0_1], .agg #[.slice A1_0 x1.Shape.length c1_0, .slice A1_1 x1.Data.length c1_1], .agg #[.slice A0_0 x0.Shape.length c0_0, .slice A0_1 x0.Data.length c0_1], .agg #[.slice A1_0 x1.Shape.length c1_0, .slice A1_1 x1.Data.length c1_1]] [3, 104, 105, 106, 108, 109] #[true, true, true, true, true, true, true, false, true, true, false, false, false, false, false, false, false, false, false, false, false, false, false, false, false, false, false, false] [(3, .pointer (some ⟨b21, 0, none⟩)), (104, .bool true), (105, .agg #[.slice A0_0 x0.Shape.length c0_0, .slice A0_1 x0.Data.length c0_1]), (106, .agg #[.slice A1_0 x1.Shape.length c1_0, .slice A1_1 x1.Data.length c1_1]), (108, .agg #[.slice A0_0 x0.Shape.length c0_0, .slice A0_1 x0.Data.length c0_1]), (109, .agg #[.slice A1_0 x1.Shape.length c1_0, .slice A1_1 x1.Data.length c1_1])] [.is ((r325 == true) = true), .cell ⟨b21, 0, none⟩ (.slice A0_0 x0.Shape.length c0_0), .cell ⟨b21, 1, none⟩ (.slice A0_1 x0.Data.length c0_1), .cell ⟨b28, 0, none⟩ (.slice A1_0 x1.Shape.length c1_0), .cell ⟨b28, 1, none⟩ (.slice A1_1 x1.Data.length c1_1), .cell ⟨b21, 0, none⟩ (.slice A0_0 x0.Shape.length c0_0), .cell ⟨b21, 1, none⟩ (.slice A0_1 x0.Data.length c0_1), .cell ⟨b28, 0, none⟩ (.slice A1_0 x1.Shape.length c1_0), .cell ⟨b28, 1, none⟩ (.slice A1_1 x1.Data.length c1_1)] 19 rfl (by kernel_rfl) (fun _ _ _ _ _ h => nomatch h.1) hf744 (by kernel_rfl) ⟨c326, (hm746.cell 4 rfl rfl), (hm746.cell 4 rfl rfl), (hm746.cell 3 rfl rfl), (hm746.cell 3 rfl rfl), (hm746.cell 4 rfl rfl), (hm746.cell 4 rfl rfl), (hm746.cell 3 rfl rfl), (hm746.cell 3 rfl rfl), trivial⟩ fun a747 hf748 => ?_
                              refine all1 7 (by kernel_rfl) ?_
                              refine opOf hf748 rfl (by kernel_rfl) (aCall (fid := 39) (args := [.agg #[.slice A0_0 x0.Shape.length c0_0, .slice A0_1 x0.Data.length c0_1], .agg #[.slice A1_0 x1.Shape.length c1_0, .slice A1_1 x1.Data.length c1_1]]) (d := 107) hf748 (by kernel_rfl) (by kernel_rfl) callable39 (tensor_Same.calls _ _ x0 A0_0 x0.Shape.length c0_0 rfl A0_1 x0.Data.length c0_1 rfl x1 A1_0 x1.Shape.length c1_0 rfl A1_1 x1.Data.length c1_1 rfl (hm746.give [5, 6, 7, 8] [.sl (Kd.int .i64) A0_0 c0_0 x0.Shape, .sl Kd.float A0_1 c0_1 x0.Data, .sl (Kd.int .i64) A1_0 c1_0 x1.Shape, .sl Kd.float A1_1 c1_1 x1.Data] rfl rfl) r327 hr327) ?_)
                              rintro _ w749 a750 ⟨rfl, hk752⟩ hf751
                              refine ⟨.inr (Gr.still hk752.cum.none), ?_⟩
                              have hm753 := hm746.still hk752.cum.none
                              refine all1 10 (by kernel_rfl) ?_
                              refine opOf hf751 rfl (by kernel_rfl) (aCall (fid := 19) (args := [.agg #[.slice A0_0 x0.Shape.length c0_0, .slice A0_1 x0.Data.length c0_1], .agg #[.slice A1_0 x1.Shape.length c1_0, .slice A1_1 x1.Data.length c1_1]]) (d := 110) hf751 (by kernel_rfl) (by kernel_rfl) callable19 (ref1_SameTensor.calls _ _ x0 A0_0 x0.Shape.length c0_0 rfl A0_1 x0.Data.length c0_1 rfl x1 A1_0 x1.Shape.length c1_0 rfl A1_1 x1.Data.length c1_1 rfl (hm753.give [5, 6, 7, 8] [.sl (Kd.int .i64) A0_0 c0_0 x0.Shape, .sl Kd.float A0_1 c0_1 x0.Data, .sl (Kd.int .i64) A1_0 c1_0 x1.Shape, .sl Kd.float A1_1 c1_1 x1.Data] rfl rfl) r328 hr328) ?_)
                              rintro _ w754 a755 ⟨rfl, hk757⟩ hf756
                              refine ⟨.inr (Gr.still hk757.cum.none), ?_⟩
                              have hm758 := hm753.still hk757.cum.none
                              refine quiet0 [11, 12, 13, 14, 15, 16, 17, 18, 19, 20, 21, 22, 23, 24, 25, 26, 27] [.bool false] [6] #[true, true, true, true, true, true, true, true, true, true, true, true, true, true, true, true, true, true, true, true, true, true, true, true, true, true, true, true] [(6, .bool false)] [.is ((r327 == r328) = false)] 0 rfl (by kernel_rfl) (fun _ _ _ _ _ h => nomatch h.1) hf756 (by kernel_rfl) ⟨c329, trivial⟩ fun a759 hf760 => ?_
                              refine allDone (by kernel_rfl) ⟨rfl, hf760.sel (l := [6]) (by kernel_rfl), hm758.sel [] _ rfl (by kernel_rfl)⟩
                            rintro a761 w762 ⟨hf763, hm764⟩
                            refine thenN ?_
                            refine wp_ret ?_
                            have hm765 : Mem [] M w0 [] w762 := hm764.sel [] _ rfl (by kernel_rfl)
                            obtain rfl := Option.some.inj H0
                            refine ret [] [.bool false] [] hf763 (by kernel_rfl) trivial ?_
                            exact ⟨_, rfl, rfl, hm765⟩
                        · refine midReg (fun (a : Act) (w : World) => Fr 127 a [(6, .bool false)] ∧ Mem [] M w0 [] w) ?_ ?_
                          · refine anyG [] (by kernel_rfl) fun w773 hg774 => ?_
                            have hm775 := hm324.still hg774
                            refine quiet0 [0, 2] [.agg #[.slice A0_0 x0.Shape.length c0_0, .slice A0_1 x0.Data.length c0_1]] [3, 4, 100, 102] #[true, false, true, false, false, false, false, false, false, false, false, false, false, false, false, false, false, false, false, false, false, false, false, false, false, false, false, false] [(3, .pointer (some ⟨b21, 0, none⟩)), (4, .pointer (some ⟨b28, 0, none⟩)), (100, .agg #[.slice A0_0 x0.Shape.length c0_0, .slice A0_1 x0.Data.length c0_1]), (102, .bool true)] [.cell ⟨b21, 0, none⟩ (.slice A0_0 x0.Shape.length c0_0), .cell ⟨b21, 1, none⟩ (.slice A0_1 x0.Data.length c0_1)] 26 rfl (by kernel_rfl) (fun _ _ _ _ _ h => nomatch h.1) hf323 (by kernel_rfl) ⟨(hm775.cell 4 rfl rfl), (hm775.cell 4 rfl rfl), trivial⟩ fun a785 hf786 => ?_
                            refine all1 1 (by kernel_rfl) ?_
                            refine opOf hf786 rfl (by kernel_rfl) (aCall (fid := 38) (args := [.agg #[.slice A0_0 x0.Shape.length c0_0, .slice A0_1 x0.Data.length c0_1]]) (d := 101) hf786 (by kernel_rfl) (by kernel_rfl) callable38 (tensor_May.calls _ _ x0 A0_0 x0.Shape.length c0_0 rfl A0_1 x0.Data.length c0_1 rfl (hm775.give [5, 6] [.sl (Kd.int .i64) A0_0 c0_0 x0.Shape, .sl Kd.float A0_1 c0_1 x0.Data] rfl rfl) r325 hr325) ?_)
                            rintro _ w787 a788 ⟨rfl, hk790⟩ hf789
                            refine ⟨.inr (Gr.still hk790.cum.none), ?_⟩
                            have hm791 := hm775.still hk790.cum.none
                            refine quiet0 [3, 4, 5, 6, 7, 8, 9, 10, 11, 12, 13, 14, 15, 16, 17, 18, 19, 20, 21, 22, 23, 24, 25, 26, 27] [.bool false] [6] #[true, true, true, true, true, true, true, true, true, true, true, true, true, true, true, true, true, true, true, true, true, true, true, true, true, true, true, true] [(6, .bool false)] [.is ((r325 == true) = false)] 0 rfl (by kernel_rfl) (fun _ _ _ _ _ h => nomatch h.1) hf789 (by kernel_rfl) ⟨c326, trivial⟩ fun a792 hf793 => ?_
                            refine allDone (by kernel_rfl) ⟨rfl, hf793.sel (l := [6]) (by kernel_rfl), hm791.sel [] _ rfl (by kernel_rfl)⟩
                          rintro a794 w795 ⟨hf796, hm797⟩
                          refine thenN ?_
                          refine wp_ret ?_
                          have hm798 : Mem [] M w0 [] w795 := hm797.sel [] _ rfl (by kernel_rfl)
                          obtain rfl := Option.some.inj H0
                          refine ret [] [.bool false] [] hf796 (by kernel_rfl) trivial ?_
                          exact ⟨_, rfl, rfl, hm798⟩
                      · refine reg [.slice A151 r146.Data.length c152, .bool true, .bool false, .slice A151 r146.Data.length c152, .slice A0_1 x0.Data.length c0_1, .bool true] [3, 4, 7, 11, 79] [(3, .pointer (some ⟨b21, 0, none⟩)), (4, .pointer (some ⟨b28, 0, none⟩)), (7, .bool true), (11, .pointer (some ⟨b160, 0, none⟩)), (79, .bool true)] [.cell ⟨b160, 1, none⟩ (.slice A151 r146.Data.length c152), .is (decide (0 < (r146.Data.length : Int)) = true), .is ((true != true) = false), .cell ⟨b160, 1, none⟩ (.slice A151 r146.Data.length c152), .cell ⟨b21, 1, none⟩ (.slice A0_1 x0.Data.length c0_1), .is ((((r146.Data.length : Int) : Int) != (x0.Data.length : Int)) = true)] hf163 (by kernel_rfl) ⟨(hm170.cell 0 rfl rfl), (decide_eq_true c171), (okIs (by decide)), (hm170.cell 0 rfl rfl), (hm170.cell 4 rfl rfl), (neT c172), trivial⟩ fun a800 hf801 => ?_
                        refine thenN ?_
                        refine condT hf801 (by kernel_rfl) ?_
                        refine wp_seq ?_
                        refine reg [] [6] [(6, .bool false)] [] hf801 (by kernel_rfl) trivial fun a802 hf803 => ?_
                        have hm804 := hm170.sel [] _ rfl (by kernel_rfl)
                        refine thenN ?_
                        refine wp_ret ?_
                        refine thenR ?_
                        have hm805 : Mem [] M w0 [] w167 := hm804.sel [] _ rfl (by kernel_rfl)
                        obtain rfl := Option.some.inj H0
                        refine ret [] [.bool false] [] hf803 (by kernel_rfl) trivial ?_
                        exact ⟨_, rfl, rfl, hm805⟩
                    · refine reg [.slice A151 r146.Data.length c152, .bool false, .bool true] [3, 4, 7, 11, 79] [(3, .pointer (some ⟨b21, 0, none⟩)), (4, .pointer (some ⟨b28, 0, none⟩)), (7, .bool true), (11, .pointer (some ⟨b160, 0, none⟩)), (79, .bool true)] [.cell ⟨b160, 1, none⟩ (.slice A151 r146.Data.length c152), .is (decide (0 < (r146.Data.length : Int)) = false), .is ((true != false) = true)] hf163 (by kernel_rfl) ⟨(hm170.cell 0 rfl rfl), (decide_eq_false c171), (okIs (by decide)), trivial⟩ fun a807 hf808 => ?_
                      refine thenN ?_
                      refine condT hf808 (by kernel_rfl) ?_
                      refine wp_seq ?_
                      refine reg [] [6] [(6, .bool false)] [] hf808 (by kernel_rfl) trivial fun a809 hf810 => ?_
                      have hm811 := hm170.sel [] _ rfl (by kernel_rfl)
                      refine thenN ?_
                      refine wp_ret ?_
                      refine thenR ?_
                      have hm812 : Mem [] M w0 [] w167 := hm811.sel [] _ rfl (by kernel_rfl)
                      obtain rfl := Option.some.inj H0
                      refine ret [] [.bool false] [] hf810 (by kernel_rfl) trivial ?_
                      exact ⟨_, rfl, rfl, hm812⟩
                  · have q814 := (hm120.slAt 3 rfl).float r110 g132.1 g132.2
                    obtain ⟨b815, hb815, kb815⟩ := q814.2
                    refine inReg ?_
                    refine go 16 [.bool true, .bool false, .slice A0_1 x0.Data.length c0_1, .float .f64 b815] [3, 4, 7, 47, 49, 50, 55] [(3, .pointer (some ⟨b21, 0, none⟩)), (4, .pointer (some ⟨b28, 0, none⟩)), (7, .bool true), (47, .bool false), (49, .bool true), (50, .float .f64 b102), (55, .float .f64 b815)] [.is (decide (0 ≤ r110) = true), .is ((true != true) = false), .cell ⟨b21, 1, none⟩ (.slice A0_1 x0.Data.length c0_1), .is (Option.isSome A0_1 = true), .is (0 ≤ r110 ∧ r110 < (x0.Data.length : Int)), .cell ((ad A0_1).add ((r110).toNat * 1)) (.float .f64 b815)] hf119 (by kernel_rfl) ⟨(decide_eq_true c122), (okIs (by decide)), (hm120.cell 1 rfl rfl), q814.1, g132, kb815, trivial⟩ fun a816 hf817 => ?_
                    refine listOf hf817 rfl (by kernel_rfl) (aCall (fid := 35) (args := [.float .f64 b102, .float .f64 b815]) (d := 56) hf817 (by kernel_rfl) (by kernel_rfl) callable35 (ref1_Same.calls _ _ r99.1 b102 hb102 (rd x0.Data r110) b815 hb815 (hm120.give [] [] rfl rfl) r133 hr133) ?_)
                    rintro _ w818 a819 ⟨rfl, hk821⟩ hf820
                    have hm822 := hm120.still hk821.cum.none
                    rw [c134] at hf820
                    refine go 3 [] [3, 4, 7, 59] [(3, .pointer (some ⟨b21, 0, none⟩)), (4, .pointer (some ⟨b28, 0, none⟩)), (7, .bool true), (59, .bool true)] [] hf820 (by kernel_rfl) trivial fun a823 hf824 => ?_
                    refine endL rfl ?_
                    refine thenN ?_
                    refine condT hf824 (by kernel_rfl) ?_
                    refine wp_seq ?_
                    refine reg [] [6] [(6, .bool false)] [] hf824 (by kernel_rfl) trivial fun a825 hf826 => ?_
                    have hm827 := hm822.sel [] _ rfl (by kernel_rfl)
                    refine thenN ?_
                    refine wp_ret ?_
                    refine thenR ?_
                    have hm828 : Mem [] M w0 [] w818 := hm827.sel [] _ rfl (by kernel_rfl)
                    obtain rfl := Option.some.inj H0
                    refine ret [] [.bool false] [] hf826 (by kernel_rfl) trivial ?_
                    exact ⟨_, rfl, rfl, hm828⟩
                · rw [c131] at hf119
                  refine reg [.bool true, .bool true] [3, 4, 7, 59] [(3, .pointer (some ⟨b21, 0, none⟩)), (4, .pointer (some ⟨b28, 0, none⟩)), (7, .bool true), (59, .bool true)] [.is (decide (0 ≤ r110) = true), .is ((false != true) = true)] hf119 (by kernel_rfl) ⟨(decide_eq_true c122), (okIs (by decide)), trivial⟩ fun a830 hf831 => ?_
                  refine thenN ?_
                  refine condT hf831 (by kernel_rfl) ?_
                  refine wp_seq ?_
                  refine reg [] [6] [(6, .bool false)] [] hf831 (by kernel_rfl) trivial fun a832 hf833 => ?_
                  have hm834 := hm120.sel [] _ rfl (by kernel_rfl)
                  refine thenN ?_
                  refine wp_ret ?_
                  refine thenR ?_
                  have hm835 : Mem [] M w0 [] w113 := hm834.sel [] _ rfl (by kernel_rfl)
                  obtain rfl := Option.some.inj H0
                  refine ret [] [.bool false] [] hf833 (by kernel_rfl) trivial ?_
                  exact ⟨_, rfl, rfl, hm835⟩
            · rcases ifb_split H0 with ⟨c837, H0⟩ | ⟨c837, H0⟩
              · refine reg [.bool false, .bool true] [3, 4, 7, 59] [(3, .pointer (some ⟨b21, 0, none⟩)), (4, .pointer (some ⟨b28, 0, none⟩)), (7, .bool true), (59, .bool true)] [.is (decide (0 ≤ r110) = false), .is ((r99.2 != false) = true)] hf119 (by kernel_rfl) ⟨(decide_eq_false c122), c837, trivial⟩ fun a838 hf839 => ?_
                refine thenN ?_
                refine condT hf839 (by kernel_rfl) ?_
                refine wp_seq ?_
                refine reg [] [6] [(6, .bool false)] [] hf839 (by kernel_rfl) trivial fun a840 hf841 => ?_
                have hm842 := hm120.sel [] _ rfl (by kernel_rfl)
                refine thenN ?_
                refine wp_ret ?_
                refine thenR ?_
                have hm843 : Mem [] M w0 [] w113 := hm842.sel [] _ rfl (by kernel_rfl)
                obtain rfl := Option.some.inj H0
                refine ret [] [.bool false] [] hf841 (by kernel_rfl) trivial ?_
                exact ⟨_, rfl, rfl, hm843⟩
              · rcases ifb_split H0 with ⟨c845, H0⟩ | ⟨c845, H0⟩
                · rw [c845] at hf119
                  refine reg [.bool false, .bool true] [3, 4, 7, 59] [(3, .pointer (some ⟨b21, 0, none⟩)), (4, .pointer (some ⟨b28, 0, none⟩)), (7, .bool true), (59, .bool true)] [.is (decide (0 ≤ r110) = false), .is ((true != false) = true)] hf119 (by kernel_rfl) ⟨(decide_eq_false c122), (okIs (by decide)), trivial⟩ fun a846 hf847 => ?_
                  refine thenN ?_
                  refine condT hf847 (by kernel_rfl) ?_
                  refine wp_seq ?_
                  refine reg [] [6] [(6, .bool false)] [] hf847 (by kernel_rfl) trivial fun a848 hf849 => ?_
                  have hm850 := hm120.sel [] _ rfl (by kernel_rfl)
                  refine thenN ?_
                  refine wp_ret ?_
                  refine thenR ?_
                  have hm851 : Mem [] M w0 [] w113 := hm850.sel [] _ rfl (by kernel_rfl)
                  obtain rfl := Option.some.inj H0
                  refine ret [] [.bool false] [] hf849 (by kernel_rfl) trivial ?_
                  exact ⟨_, rfl, rfl, hm851⟩
                · rw [c845] at hf119
                  refine reg [.bool false, .bool false] [3, 4, 7, 59] [(3, .pointer (some ⟨b21, 0, none⟩)), (4, .pointer (some ⟨b28, 0, none⟩)), (7, .bool true), (59, .bool false)] [.is (decide (0 ≤ r110) = false), .is ((false != false) = false)] hf119 (by kernel_rfl) ⟨(decide_eq_false c122), (okIs (by decide)), trivial⟩ fun a853 hf854 => ?_
                  refine thenN ?_
                  refine condF hf854 (by kernel_rfl) ?_
                  refine wp_skip ?_
                  refine thenN ?_
                  refine wp_seq ?_
                  obtain ⟨r855, hr855, H0⟩ := ob_split H0
                  refine inReg ?_
                  refine go 1 [.agg #[.slice A0_0 x0.Shape.length c0_0, .slice A0_1 x0.Data.length c0_1]] [3, 4, 7, 60] [(3, .pointer (some ⟨b21, 0, none⟩)), (4, .pointer (some ⟨b28, 0, none⟩)), (7, .bool true), (60, .agg #[.slice A0_0 x0.Shape.length c0_0, .slice A0_1 x0.Data.length c0_1])] [.cell ⟨b21, 0, none⟩ (.slice A0_0 x0.Shape.length c0_0), .cell ⟨b21, 1, none⟩ (.slice A0_1 x0.Data.length c0_1)] hf854 (by kernel_rfl) ⟨(hm120.cell 1 rfl rfl), (hm120.cell 1 rfl rfl), trivial⟩ fun a856 hf857 => ?_
                  refine listOf hf857 rfl (by kernel_rfl) (aCall (fid := 36) (args := [.agg #[.slice A0_0 x0.Shape.length c0_0, .slice A0_1 x0.Data.length c0_1], .func (.func 37) #[] #[]]) (d := 61) hf857 (by kernel_rfl) (by kernel_rfl) callable36 (tensor_Map_math_Abs.calls _ _ x0 A0_0 x0.Shape.length c0_0 rfl A0_1 x0.Data.length c0_1 rfl (hm120.give [2, 3] [.sl (Kd.int .i64) A0_0 c0_0 x0.Shape, .sl Kd.float A0_1 c0_1 x0.Data] rfl rfl) r855 hr855) ?_)
                  rintro _ w862 a863 ⟨A858, c859, A860, c861, rfl, hk865⟩ hf864
                  have hm866 := hm120.back hk865
                  have hm867 := hm866.seal 0 _ rfl rfl
                  have hm868 := hm867.seal 1 _ rfl rfl
                  refine listOf hf864 rfl (by kernel_rfl) (aNew (cs := [.slice none 0 0, .slice none 0 0]) (T := 28) (d := 11) hf864 (by kernel_rfl) (by kernel_rfl) ?_)
                  intro b869 w870 a871 hbb869 hx873 hg874 hf872
                  have hm875 := hm868.box hbb869 hx873 hg874
                  refine listOf hf872 rfl (by kernel_rfl) (aStoreB (b := b869) (j := 0) (T := 28) (cs := [.slice none 0 0, .slice none 0 0]) (us := [.slice A858 r855.Shape.length c859, .slice A860 r855.Data.length c861]) (cs' := [.slice A858 r855.Shape.length c859, .slice A860 r855.Data.length c861]) hf872 (by kernel_rfl) (hm875.bxAt 0 rfl) (by kernel_rfl) (by kernel_rfl) (by kernel_rfl) ?_)
                  intro w876 hx877 hg878
                  have hm879 := hm875.setBox 0 _ rfl rfl hx877 hg878
                  refine endL rfl ?_
                  refine thenN ?_
                  refine wp_seq ?_
                  refine wp_seq ?_
                  rcases if_split H0 with ⟨c880, H0⟩ | ⟨c880, H0⟩
                  · rcases if_split H0 with ⟨c881, H0⟩ | ⟨c881, H0⟩
                    · refine reg [.slice A860 r855.Data.length c861, .bool true, .bool false, .slice A860 r855.Data.length c861, .slice A0_1 x0.Data.length c0_1, .bool false] [3, 4, 7, 11, 79] [(3, .pointer (some ⟨b21, 0, none⟩)), (4, .pointer (some ⟨b28, 0, none⟩)), (7, .bool true), (11, .pointer (some ⟨b869, 0, none⟩)), (79, .bool false)] [.cell ⟨b869, 1, none⟩ (.slice A860 r855.Data.length c861), .is (decide (0 < (r855.Data.length : Int)) = true), .is ((true != true) = false), .cell ⟨b869, 1, none⟩ (.slice A860 r855.Data.length c861), .cell ⟨b21, 1, none⟩ (.slice A0_1 x0.Data.length c0_1), .is ((((r855.Data.length : Int) : Int) != (x0.Data.length : Int)) = false)] hf872 (by kernel_rfl) ⟨(hm879.cell 0 rfl rfl), (decide_eq_true c880), (okIs (by decide)), (hm879.cell 0 rfl rfl), (hm879.cell 4 rfl rfl), (neF c881), trivial⟩ fun a882 hf883 => ?_
                      refine thenN ?_
                      refine condF hf883 (by kernel_rfl) ?_
                      refine wp_skip ?_
                      refine thenN ?_
                      refine wp_seq ?_
                      refine wp_seq ?_
                      refine reg [] [3, 4, 7, 11, 12] [(3, .pointer (some ⟨b21, 0, none⟩)), (4, .pointer (some ⟨b28, 0, none⟩)), (7, .bool true), (11, .pointer (some ⟨b869, 0, none⟩)), (12, .int .i64 0)] [] hf883 (by kernel_rfl) trivial fun a884 hf885 => ?_
                      refine thenN ?_
                      obtain ⟨r887, hr887, H0⟩ := ob_split H0
                      refine wpBlock (Mid := fun (a : Act) (w : World) => ∃ yr887 : Int, r887 = .go yr887 ∧ Fr 127 a [(3, .pointer (some ⟨b21, 0, none⟩)), (4, .pointer (some ⟨b28, 0, none⟩)), (7, .bool true), (11, .pointer (some ⟨b869, 0, none⟩)), (12, .int .i64 yr887)] ∧ Mem [] M w0 [.bx b869 [.slice A858 r855.Shape.length c859, .slice A860 r855.Data.length c861] 28, .sl (Kd.int .i64) A858 c859 r855.Shape, .sl Kd.float A860 c861 r855.Data, .bx b28 [.slice A1_0 x1.Shape.length c1_0, .slice A1_1 x1.Data.length c1_1] 28, .bx b21 [.slice A0_0 x0.Shape.length c0_0, .slice A0_1 x0.Data.length c0_1] 28, .sl (Kd.int .i64) A0_0 c0_0 x0.Shape, .sl Kd.float A0_1 c0_1 x0.Data, .sl (Kd.int .i64) A1_0 c1_0 x1.Shape, .sl Kd.float A1_1 c1_1 x1.Data] w) ?_ ?_
                      · refine wpLoop (law3_TensorAsks.l0 r855 x0) r887 (fun (s886 : Int) (a : Act) (w : World) => Fr 127 a [(3, .pointer (some ⟨b21, 0, none⟩)), (4, .pointer (some ⟨b28, 0, none⟩)), (7, .bool true), (11, .pointer (some ⟨b869, 0, none⟩)), (12, .int .i64 s886)] ∧ Mem [] M w0 [.bx b869 [.slice A858 r855.Shape.length c859, .slice A860 r855.Data.length c861] 28, .sl (Kd.int .i64) A858 c859 r855.Shape, .sl Kd.float A860 c861 r855.Data, .bx b28 [.slice A1_0 x1.Shape.length c1_0, .slice A1_1 x1.Data.length c1_1] 28, .bx b21 [.slice A0_0 x0.Shape.length c0_0, .slice A0_1 x0.Data.length c0_1] 28, .sl (Kd.int .i64) A0_0 c0_0 x0.Shape, .sl Kd.float A0_1 c0_1 x0.Data, .sl (Kd.int .i64) A1_0 c1_0 x1.Shape, .sl Kd.float A1_1 c1_1 x1.Data] w) 0 hr887 ⟨hf885.sel (l := [3, 4, 7, 11, 12]) (by kernel_rfl), hm879.sel [0, 1, 2, 3, 4, 5, 6, 7, 8] _ rfl (by kernel_rfl)⟩ ?_
                        rintro g888 s886 a889 w890 H1 ⟨hf891, hm892⟩
                        unfold law3_TensorAsks.l0 at H1
                        refine wp_seq ?_
                        refine wp_seq ?_
                        rcases ifS_split H1 with ⟨c893, H1⟩ | ⟨c893, H1⟩
                        · refine reg [.slice A860 r855.Data.length c861, .bool true] [3, 4, 7, 11, 12, 84] [(3, .pointer (some ⟨b21, 0, none⟩)), (4, .pointer (some ⟨b28, 0, none⟩)), (7, .bool true), (11, .pointer (some ⟨b869, 0, none⟩)), (12, .int .i64 s886), (84, .bool true)] [.cell ⟨b869, 1, none⟩ (.slice A860 r855.Data.length c861), .is (decide (s886 < (r855.Data.length : Int)) = true)] hf891 (by kernel_rfl) ⟨(hm892.cell 0 rfl rfl), (decide_eq_true c893), trivial⟩ fun a894 hf895 => ?_
                          refine thenN ?_
                          refine condT hf895 (by kernel_rfl) ?_
                          refine wp_skip ?_
                          refine thenN ?_
                          refine wp_seq ?_
                          refine wp_block ?_
                          refine wp_seq ?_
                          obtain ⟨g896, H1⟩ := ifS_guard H1
                          obtain ⟨g897, H1⟩ := ifS_guard H1
                          obtain ⟨r898, hr898, H1⟩ := obS_split H1
                          obtain ⟨r899, hr899, H1⟩ := obS_split H1
                          rcases ifbS_split H1 with ⟨c900, H1⟩ | ⟨c900, H1⟩
                          · refine midReg (fun (a : Act) (w : World) => Fr 127 a [(3, .pointer (some ⟨b21, 0, none⟩)), (4, .pointer (some ⟨b28, 0, none⟩)), (7, .bool true), (11, .pointer (some ⟨b869, 0, none⟩)), (12, .int .i64 s886), (99, .bool false)] ∧ Mem [] M w0 [.bx b869 [.slice A858 r855.Shape.length c859, .slice A860 r855.Data.length c861] 28, .sl (Kd.int .i64) A858 c859 r855.Shape, .sl Kd.float A860 c861 r855.Data, .bx b28 [.slice A1_0 x1.Shape.length c1_0, .slice A1_1 x1.Data.length c1_1] 28, .bx b21 [.slice A0_0 x0.Shape.length c0_0, .slice A0_1 x0.Data.length c0_1] 28, .sl (Kd.int .i64) A0_0 c0_0 x0.Shape, .sl Kd.float A0_1 c0_1 x0.Data, .sl (Kd.int .i64) A1_0 c1_0 x1.Shape, .sl Kd.float A1_1 c1_1 x1.Data] w) ?_ ?_
                            · refine anyG [] (by kernel_rfl) fun w916 hg917 => ?_
                              have hm918 := hm892.still hg917
                              have q938 := (hm918.slAt 2 rfl).float s886 g896.1 g896.2
                              obtain ⟨b939, hb939, kb939⟩ := q938.2
                              have q940 := (hm918.slAt 6 rfl).float s886 g897.1 g897.2
                              obtain ⟨b941, hb941, kb941⟩ := q940.2
                              refine quiet0 [0, 1, 2, 3, 4, 5, 6, 7, 8, 9] [.slice A860 r855.Data.length c861, .float .f64 b939, .slice A0_1 x0.Data.length c0_1, .float .f64 b941] [3, 4, 7, 11, 12, 91, 96] #[true, true, true, true, true, true, true, true, true, true, false, false, false] [(3, .pointer (some ⟨b21, 0, none⟩)), (4, .pointer (some ⟨b28, 0, none⟩)), (7, .bool true), (11, .pointer (some ⟨b869, 0, none⟩)), (12, .int .i64 s886), (91, .float .f64 b939), (96, .float .f64 b941)] [.cell ⟨b869, 1, none⟩ (.slice A860 r855.Data.length c861), .is (Option.isSome A860 = true), .is (0 ≤ s886 ∧ s886 < (r855.Data.length : Int)), .cell ((ad A860).add ((s886).toNat * 1)) (.float .f64 b939), .cell ⟨b21, 1, none⟩ (.slice A0_1 x0.Data.length c0_1), .is (Option.isSome A0_1 = true), .is (0 ≤ s886 ∧ s886 < (x0.Data.length : Int)), .cell ((ad A0_1).add ((s886).toNat * 1)) (.float .f64 b941)] 3 rfl (by kernel_rfl) (fun _ _ _ _ _ h => nomatch h.1) hf895 (by kernel_rfl) ⟨(hm918.cell 0 rfl rfl), q938.1, g896, kb939, (hm918.cell 4 rfl rfl), q940.1, g897, kb941, trivial⟩ fun a942 hf943 => ?_
                              refine all1 10 (by kernel_rfl) ?_
                              refine opOf hf943 rfl (by kernel_rfl) (aCall (fid := 37) (args := [.float .f64 b941]) (d := 97) hf943 (by kernel_rfl) (by kernel_rfl) callable37 (math_Abs.calls _ _ (rd x0.Data s886) b941 hb941 (hm918.give [] [] rfl rfl) r898 hr898) ?_)
                              rintro _ w945 a946 ⟨b944, rfl, hb944, hk948⟩ hf947
                              refine ⟨.inr (Gr.still hk948.cum.none), ?_⟩
                              have hm949 := hm918.still hk948.cum.none
                              refine all1 11 (by kernel_rfl) ?_
                              refine opOf hf947 rfl (by kernel_rfl) (aCall (fid := 35) (args := [.float .f64 b939, .float .f64 b944]) (d := 98) hf947 (by kernel_rfl) (by kernel_rfl) callable35 (ref1_Same.calls _ _ (rd r855.Data s886) b939 hb939 r898 b944 hb944 (hm949.give [] [] rfl rfl) r899 hr899) ?_)
                              rintro _ w950 a951 ⟨rfl, hk953⟩ hf952
                              refine ⟨.inr (Gr.still hk953.cum.none), ?_⟩
                              have hm954 := hm949.still hk953.cum.none
                              rw [c900] at hf952
                              refine quiet0 [12] [] [3, 4, 7, 11, 12, 99] #[true, true, true, true, true, true, true, true, true, true, true, true, true] [(3, .pointer (some ⟨b21, 0, none⟩)), (4, .pointer (some ⟨b28, 0, none⟩)), (7, .bool true), (11, .pointer (some ⟨b869, 0, none⟩)), (12, .int .i64 s886), (99, .bool false)] [] 0 rfl (by kernel_rfl) (fun _ _ _ _ _ h => nomatch h.1) hf952 (by kernel_rfl) trivial fun a955 hf956 => ?_
                              refine allDone (by kernel_rfl) ⟨rfl, hf956.sel (l := [3, 4, 7, 11, 12, 99]) (by kernel_rfl), hm954.sel [0, 1, 2, 3, 4, 5, 6, 7, 8] _ rfl (by kernel_rfl)⟩
                            rintro a957 w958 ⟨hf959, hm960⟩
                            refine thenN ?_
                            refine condF hf959 (by kernel_rfl) ?_
                            refine wp_skip ?_
                            refine blkN ?_
                            refine thenN ?_
                            refine reg [] [3, 4, 7, 11, 12] [(3, .pointer (some ⟨b21, 0, none⟩)), (4, .pointer (some ⟨b28, 0, none⟩)), (7, .bool true), (11, .pointer (some ⟨b869, 0, none⟩)), (12, .int .i64 (w64 (s886 + 1)))] [] hf959 (by kernel_rfl) trivial fun a961 hf962 => ?_
                            exact ⟨(w64 (s886 + 1)), H1, hf962.sel (l := [3, 4, 7, 11, 12]) (by kernel_rfl), hm960.sel [0, 1, 2, 3, 4, 5, 6, 7, 8] _ rfl (by kernel_rfl)⟩
                          · refine midReg (fun (a : Act) (w : World) => Fr 127 a [(3, .pointer (some ⟨b21, 0, none⟩)), (4, .pointer (some ⟨b28, 0, none⟩)), (7, .bool true), (11, .pointer (some ⟨b869, 0, none⟩)), (12, .int .i64 s886), (99, .bool true)] ∧ Mem [] M w0 [.bx b869 [.slice A858 r855.Shape.length c859, .slice A860 r855.Data.length c861] 28, .sl (Kd.int .i64) A858 c859 r855.Shape, .sl Kd.float A860 c861 r855.Data, .bx b28 [.slice A1_0 x1.Shape.length c1_0, .slice A1_1 x1.Data.length c1_1] 28, .bx b21 [.slice A0_0 x0.Shape.length c0_0, .slice A0_1 x0.Data.length c0_1] 28, .sl (Kd.int .i64) A0_0 c0_0 x0.Shape, .sl Kd.float A0_1 c0_1 x0.Data, .sl (Kd.int .i64) A1_0 c1_0 x1.Shape, .sl Kd.float A1_1 c1_1 x1.Data] w) ?_ ?_
                            · refine anyG [] (by kernel_rfl) fun w978 hg979 => ?_
                              have hm980 := hm892.still hg979
                              have q1000 := (hm980.slAt 2 rfl).float s886 g896.1 g896.2
                              obtain ⟨b1001, hb1001, kb1001⟩ := q1000.2
                              have q1002 := (hm980.slAt 6 rfl).float s886 g897.1 g897.2
                              obtain ⟨b1003, hb1003, kb1003⟩ := q1002.2
                              refine quiet0 [0, 1, 2, 3, 4, 5, 6, 7, 8, 9] [.slice A860 r855.Data.length c861, .float .f64 b1001, .slice A0_1 x0.Data.length c0_1, .float .f64 b1003] [3, 4, 7, 11, 12, 91, 96] #[true, true, true, true, true, true, true, true, true, true, false, false, false] [(3, .pointer (some ⟨b21, 0, none⟩)), (4, .pointer (some ⟨b28, 0, none⟩)), (7, .bool true), (11, .pointer (some ⟨b869, 0, none⟩)), (12, .int .i64 s886), (91, .float .f64 b1001), (96, .float .f64 b1003)] [.cell ⟨b869, 1, none⟩ (.slice A860 r855.Data.length c861), .is (Option.isSome A860 = true), .is (0 ≤ s886 ∧ s886 < (r855.Data.length : Int)), .cell ((ad A860).add ((s886).toNat * 1)) (.float .f64 b1001), .cell ⟨b21, 1, none⟩ (.slice A0_1 x0.Data.length c0_1), .is (Option.isSome A0_1 = true), .is (0 ≤ s886 ∧ s886 < (x0.Data.length : Int)), .cell ((ad A0_1).add ((s886).toNat * 1)) (.float .f64 b1003)] 3 rfl (by kernel_rfl) (fun _ _ _ _ _ h => nomatch h.1) hf895 (by kernel_rfl) ⟨(hm980.cell 0 rfl rfl), q1000.1, g896, kb1001, (hm980.cell 4 rfl rfl), q1002.1, g897, kb1003, trivial⟩ fun a1004 hf1005 => ?_
                              refine all1 10 (by kernel_rfl) ?_
                              refine opOf hf1005 rfl (by kernel_rfl) (aCall (fid := 37) (args := [.float .f64 b1003]) (d := 97) hf1005 (by kernel_rfl) (by kernel_rfl) callable37 (math_Abs.calls _ _ (rd x0.Data s886) b1003 hb1003 (hm980.give [] [] rfl rfl) r898 hr898) ?_)
                              rintro _ w1007 a1008 ⟨b1006, rfl, hb1006, hk1010⟩ hf1009
                              refine ⟨.inr (Gr.still hk1010.cum.none), ?_⟩
                              have hm1011 := hm980.still hk1010.cum.none
                              refine all1 11 (by kernel_rfl) ?_
                              refine opOf hf1009 rfl (by kernel_rfl) (aCall (fid := 35) (args := [.float .f64 b1001, .float .f64 b1006]) (d := 98) hf1009 (by kernel_rfl) (by kernel_rfl) callable35 (ref1_Same.calls _ _ (rd r855.Data s886) b1001 hb1001 r898 b1006 hb1006 (hm1011.give [] [] rfl rfl) r899 hr899) ?_)
                              rintro _ w1012 a1013 ⟨rfl, hk1015⟩ hf1014
                              refine ⟨.inr (Gr.still hk1015.cum.none), ?_⟩
                              have hm1016 := hm1011.still hk1015.cum.none
                              rw [c900] at hf1014
                              refine quiet0 [12] [] [3, 4, 7, 11, 12, 99] #[true, true, true, true, true, true, true, true, true, true, true, true, true] [(3, .pointer (some ⟨b21, 0, none⟩)), (4, .pointer (some ⟨b28, 0, none⟩)), (7, .bool true), (11, .pointer (some ⟨b869, 0, none⟩)), (12, .int .i64 s886), (99, .bool true)] [] 0 rfl (by kernel_rfl) (fun _ _ _ _ _ h => nomatch h.1) hf1014 (by kernel_rfl) trivial fun a1017 hf1018 => ?_
                              refine allDone (by kernel_rfl) ⟨rfl, hf1018.sel (l := [3, 4, 7, 11, 12, 99]) (by kernel_rfl), hm1016.sel [0, 1, 2, 3, 4, 5, 6, 7, 8] _ rfl (by kernel_rfl)⟩
                            rintro a1019 w1020 ⟨hf1021, hm1022⟩
                            refine thenN ?_
                            refine condT hf1021 (by kernel_rfl) ?_
                            refine wp_seq ?_
                            refine reg [] [6] [(6, .bool false)] [] hf1021 (by kernel_rfl) trivial fun a1023 hf1024 => ?_
                            have hm1025 := hm1022.sel [] _ rfl (by kernel_rfl)
                            refine thenN ?_
                            refine wp_ret ?_
                            refine blkR ?_
                            refine thenR ?_
                            refine thenR ?_
                            refine .inr ⟨rfl, ?_⟩
                            refine thenR ?_
                            have hm1026 : Mem [] M w0 [] w1020 := hm1025.sel [] _ rfl (by kernel_rfl)
                            obtain rfl := Option.some.inj H1
                            obtain rfl := Option.some.inj H0
                            refine ret [] [.bool false] [] hf1024 (by kernel_rfl) trivial ?_
                            exact ⟨_, rfl, rfl, hm1026⟩
                        · refine reg [.slice A860 r855.Data.length c861, .bool false] [3, 4, 7, 11, 12, 84] [(3, .pointer (some ⟨b21, 0, none⟩)), (4, .pointer (some ⟨b28, 0, none⟩)), (7, .bool true), (11, .pointer (some ⟨b869, 0, none⟩)), (12, .int .i64 s886), (84, .bool false)] [.cell ⟨b869, 1, none⟩ (.slice A860 r855.Data.length c861), .is (decide (s886 < (r855.Data.length : Int)) = false)] hf891 (by kernel_rfl) ⟨(hm892.cell 0 rfl rfl), (decide_eq_false c893), trivial⟩ fun a1028 hf1029 => ?_
                          refine thenN ?_
                          refine condF hf1029 (by kernel_rfl) ?_
                          refine wp_exit ?_
                          refine thenE ?_
                          refine thenE ?_
                          obtain rfl := Option.some.inj H1
                          exact .inl ⟨rfl, s886, rfl, hf1029.sel (l := [3, 4, 7, 11, 12]) (by kernel_rfl), hm892.sel [0, 1, 2, 3, 4, 5, 6, 7, 8] _ rfl (by kernel_rfl)⟩
                      rintro a1030 w1031 ⟨yr887, rfl, hf1032, hm1033⟩
                      refine thenN ?_
                      refine wp_seq ?_
                      obtain ⟨r1034, hr1034, H0⟩ := ob_split H0
                      rcases ifb_split H0 with ⟨c1035, H0⟩ | ⟨c1035, H0⟩
                      · obtain ⟨r1036, hr1036, H0⟩ := ob_split H0
                        obtain ⟨r1037, hr1037, H0⟩ := ob_split H0
                        rcases ifb_split H0 with ⟨c1038, H0⟩ | ⟨c1038, H0⟩
                        · obtain ⟨r1039, hr1039, H0⟩ := ob_split H0
                          obtain ⟨r1040, hr1040, H0⟩ := ob_split H0
                          rcases ifb_split H0 with ⟨c1041, H0⟩ | ⟨c1041, H0⟩
                          · obtain ⟨r1042, hr1042, H0⟩ := ob_split H0
                            rcases if_split H0 with ⟨c1043, H0⟩ | ⟨c1043, H0⟩
                            · refine midReg (fun (a : Act) (w : World) => Fr 127 a [(6, .bool true)] ∧ Mem [] M w0 [] w) ?_ ?_
                              · refine anyG [] (by kernel_rfl) fun w1079 hg1080 => ?_
                                have hm1081 := hm1033.still hg1080
                                refine quiet0 [0, 2] [.agg #[.slice A0_0 x0.Shape.length c0_0, .slice A0_1 x0.Data.length c0_1]] [3, 4, 100, 102] #[true, false, true, false, false, false, false, false, false, false, false, false, false, false, false, false, false, false, false, false, false, false, false, false, false, false, false, false] [(3, .pointer (some ⟨b21, 0, none⟩)), (4, .pointer (some ⟨b28, 0, none⟩)), (100, .agg #[.slice A0_0 x0.Shape.length c0_0, .slice A0_1 x0.Data.length c0_1]), (102, .bool true)] [.cell ⟨b21, 0, none⟩ (.slice A0_0 x0.Shape.length c0_0), .cell ⟨b21, 1, none⟩ (.slice A0_1 x0.Data.length c0_1)] 26 rfl (by kernel_rfl) (fun _ _ _ _ _ h => nomatch h.1) hf1032 (by kernel_rfl) ⟨(hm1081.cell 4 rfl rfl), (hm1081.cell 4 rfl rfl), trivial⟩ fun a1126 hf1127 => ?_
                                refine all1 1 (by kernel_rfl) ?_
                                refine opOf hf1127 rfl (by kernel_rfl) (aCall (fid := 38) (args := [.agg #[.slice A0_0 x0.Shape.length c0_0, .slice A0_1 x0.Data.length c0_1]]) (d := 101) hf1127 (by kernel_rfl) (by kernel_rfl) callable38 (tensor_May.calls _ _ x0 A0_0 x0.Shape.length c0_0 rfl A0_1 x0.Data.length c0_1 rfl (hm1081.give [5, 6] [.sl (Kd.int .i64) A0_0 c0_0 x0.Shape, .sl Kd.float A0_1 c0_1 x0.Data] rfl rfl) r1034 hr1034) ?_)
                                rintro _ w1128 a1129 ⟨rfl, hk1131⟩ hf1130
                                refine ⟨.inr (Gr.still hk1131.cum.none), ?_⟩
                                have hm1132 := hm1081.still hk1131.cum.none
                                refine quiet0 [3, 4, 5, 6, 8, 9] [.bool true, .agg #[.slice A0_0 x0.Shape.length c0_0, .slice A0_1 x0.Data.length c0_1], .agg #[.slice A1_0 x1.Shape.length c1_0, .slice A1_1 x1.Data.length c1_1], .agg #[.slice A0_0 x0.Shape.length c0_0, .slice A0_1 x0.Data.length c0_1], .agg #[.slice A1_0 x1.Shape.length c1_0, .slice A1_1 x1.Data.length c1_1]] [3, 104, 105, 106, 108, 109] #[true, true, true, true, true, true, true, false, true, true, false, false, false, false, false, false, false, false, false, false, false, false, false, false, false, false, false, false] [(3, .pointer (some ⟨b21, 0, none⟩)), (104, .bool true), (105, .agg #[.slice A0_0 x0.Shape.length c0_0, .slice A0_1 x0.Data.length c0_1]), (106, .agg #[.slice A1_0 x1.Shape.length c1_0, .slice A1_1 x1.Data.length c1_1]), (108, .agg #[.slice A0_0 x0.Shape.length c0_0, .slice A0_1 x0.Data.length c0_1]), (109, .agg #[.slice A1_0 x1.Shape.length c1_0, .slice A1_1 x1.Data.length c1_1])] [.is ((r1034 == true) = true), .cell ⟨b21, 0, none⟩ (.slice A0_0 x0.Shape.length c0_0), .cell ⟨b21, 1, none⟩ (.slice A0_1 x0.Data.length c0_1), .cell ⟨b28, 0, none⟩ (.slice A1_0 x1.Shape.length c1_0), .cell ⟨b28, 1, none⟩ (.slice A1_1 x1.Data.length c1_1), .cell ⟨b21, 0, none⟩ (.slice A0_0 x0.Shape.length c0_0), .cell ⟨b21, 1, none⟩ (.slice A0_1 x0.Data.length c0_1), .cell ⟨b28, 0, none⟩ (.slice A1_0 x1.Shape.length c1_0), .cell ⟨b28, 1, none⟩ (.slice A1_1 x1.Data.length c1_1)] 19 rfl (by kernel_rfl) (fun _ _ _ _ _ h => nomatch h.1) hf1130 (by kernel_rfl) ⟨c1035, (hm1132.cell 4 rfl rfl), (hm1132.cell 4 rfl rfl), (hm1132.cell 3 rfl rfl), (hm1132.cell 3 rfl rfl), (hm1132.cell 4 rfl rfl), (hm1132.cell 4 rfl rfl), (hm1132.cell 3 rfl rfl), (hm1132.cell 3 rfl rfl), trivial⟩ fun a1133 hf1134 => ?_
                                refine all1 7 (by kernel_rfl) ?_
                                refine opOf hf1134 rfl (by kernel_rfl) (aCall (fid := 39) (args := [.agg #[.slice A0_0 x0.Shape.length c0_0, .slice A0_1 x0.Data.length c0_1], .agg #[.slice A1_0 x1.Shape.length c1_0, .slice A1_1 x1.Data.length c1_1]]) (d := 107) hf1134 (by kernel_rfl) (by kernel_rfl) callable39 (tensor_Same.calls _ _ x0 A0_0 x0.Shape.length c0_0 rfl A0_1 x0.Data.length c0_1 rfl x1 A1_0 x1.Shape.length c1_0 rfl A1_1 x1.Data.length c1_1 rfl (hm1132.give [5, 6, 7, 8] [.sl (Kd.int .i64) A0_0 c0_0 x0.Shape, .sl Kd.float A0_1 c0_1 x0.Data, .sl (Kd.int .i64) A1_0 c1_0 x1.Shape, .sl Kd.float A1_1 c1_1 x1.Data] rfl rfl) r1036 hr1036) ?_)
                                rintro _ w1135 a1136 ⟨rfl, hk1138⟩ hf1137
                                refine ⟨.inr (Gr.still hk1138.cum.none), ?_⟩
                                have hm1139 := hm1132.still hk1138.cum.none
                                refine all1 10 (by kernel_rfl) ?_
                                refine opOf hf1137 rfl (by kernel_rfl) (aCall (fid := 19) (args := [.agg #[.slice A0_0 x0.Shape.length c0_0, .slice A0_1 x0.Data.length c0_1], .agg #[.slice A1_0 x1.Shape.length c1_0, .slice A1_1 x1.Data.length c1_1]]) (d := 110) hf1137 (by kernel_rfl) (by kernel_rfl) callable19 (ref1_SameTensor.calls _ _ x0 A0_0 x0.Shape.length c0_0 rfl A0_1 x0.Data.length c0_1 rfl x1 A1_0 x1.Shape.length c1_0 rfl A1_1 x1.Data.length c1_1 rfl (hm1139.give [5, 6, 7, 8] [.sl (Kd.int .i64) A0_0 c0_0 x0.Shape, .sl Kd.float A0_1 c0_1 x0.Data, .sl (Kd.int .i64) A1_0 c1_0 x1.Shape, .sl Kd.float A1_1 c1_1 x1.Data] rfl rfl) r1037 hr1037) ?_)
                                rintro _ w1140 a1141 ⟨rfl, hk1143⟩ hf1142
                                refine ⟨.inr (Gr.still hk1143.cum.none), ?_⟩
                                have hm1144 := hm1139.still hk1143.cum.none
                                refine quiet0 [11, 12, 13, 14, 16] [.bool true, .agg #[.slice A0_0 x0.Shape.length c0_0, .slice A0_1 x0.Data.length c0_1], .agg #[.slice A0_0 x0.Shape.length c0_0, .slice A0_1 x0.Data.length c0_1]] [3, 113, 114, 116] #[true, true, true, true, true, true, true, true, true, true, true, true, true, true, true, false, true, false, false, false, false, false, false, false, false, false, false, false] [(3, .pointer (some ⟨b21, 0, none⟩)), (113, .bool true), (114, .agg #[.slice A0_0 x0.Shape.length c0_0, .slice A0_1 x0.Data.length c0_1]), (116, .agg #[.slice A0_0 x0.Shape.length c0_0, .slice A0_1 x0.Data.length c0_1])] [.is ((r1036 == r1037) = true), .cell ⟨b21, 0, none⟩ (.slice A0_0 x0.Shape.length c0_0), .cell ⟨b21, 1, none⟩ (.slice A0_1 x0.Data.length c0_1), .cell ⟨b21, 0, none⟩ (.slice A0_0 x0.Shape.length c0_0), .cell ⟨b21, 1, none⟩ (.slice A0_1 x0.Data.length c0_1)] 12 rfl (by kernel_rfl) (fun _ _ _ _ _ h => nomatch h.1) hf1142 (by kernel_rfl) ⟨c1038, (hm1144.cell 4 rfl rfl), (hm1144.cell 4 rfl rfl), (hm1144.cell 4 rfl rfl), (hm1144.cell 4 rfl rfl), trivial⟩ fun a1145 hf1146 => ?_
                                refine all1 15 (by kernel_rfl) ?_
                                refine opOf hf1146 rfl (by kernel_rfl) (aCall (fid := 40) (args := [.agg #[.slice A0_0 x0.Shape.length c0_0, .slice A0_1 x0.Data.length c0_1]]) (d := 115) hf1146 (by kernel_rfl) (by kernel_rfl) callable40 (tensor_Finite.calls _ _ x0 A0_0 x0.Shape.length c0_0 rfl A0_1 x0.Data.length c0_1 rfl (hm1144.give [5, 6] [.sl (Kd.int .i64) A0_0 c0_0 x0.Shape, .sl Kd.float A0_1 c0_1 x0.Data] rfl rfl) r1039 hr1039) ?_)
                                rintro _ w1147 a1148 ⟨rfl, hk1150⟩ hf1149
                                refine ⟨.inr (Gr.still hk1150.cum.none), ?_⟩
                                have hm1151 := hm1144.still hk1150.cum.none
                                refine all1 17 (by kernel_rfl) ?_
                                refine opOf hf1149 rfl (by kernel_rfl) (aCall (fid := 41) (args := [.agg #[.slice A0_0 x0.Shape.length c0_0, .slice A0_1 x0.Data.length c0_1]]) (d := 117) hf1149 (by kernel_rfl) (by kernel_rfl) callable41 (ref1_Finite.calls _ _ x0 A0_0 x0.Shape.length c0_0 rfl A0_1 x0.Data.length c0_1 rfl (hm1151.give [5, 6] [.sl (Kd.int .i64) A0_0 c0_0 x0.Shape, .sl Kd.float A0_1 c0_1 x0.Data] rfl rfl) r1040 hr1040) ?_)
                                rintro _ w1152 a1153 ⟨rfl, hk1155⟩ hf1154
                                refine ⟨.inr (Gr.still hk1155.cum.none), ?_⟩
                                have hm1156 := hm1151.still hk1155.cum.none
                                refine quiet0 [18, 19, 20, 21] [.bool true, .agg #[.slice A0_0 x0.Shape.length c0_0, .slice A0_1 x0.Data.length c0_1]] [120, 121] #[true, true, true, true, true, true, true, true, true, true, true, true, true, true, true, true, true, true, true, true, true, true, false, false, false, false, false, false] [(120, .bool true), (121, .agg #[.slice A0_0 x0.Shape.length c0_0, .slice A0_1 x0.Data.length c0_1])] [.is ((r1039 == r1040) = true), .cell ⟨b21, 0, none⟩ (.slice A0_0 x0.Shape.length c0_0), .cell ⟨b21, 1, none⟩ (.slice A0_1 x0.Data.length c0_1)] 6 rfl (by kernel_rfl) (fun _ _ _ _ _ h => nomatch h.1) hf1154 (by kernel_rfl) ⟨c1041, (hm1156.cell 4 rfl rfl), (hm1156.cell 4 rfl rfl), trivial⟩ fun a1157 hf1158 => ?_
                                refine all1 22 (by kernel_rfl) ?_
                                refine opOf hf1158 rfl (by kernel_rfl) (aCall (fid := 36) (args := [.agg #[.slice A0_0 x0.Shape.length c0_0, .slice A0_1 x0.Data.length c0_1], .nilFunc]) (d := 122) hf1158 (by kernel_rfl) (by kernel_rfl) callable36 (tensor_Map_nil.calls _ _ x0 A0_0 x0.Shape.length c0_0 rfl A0_1 x0.Data.length c0_1 rfl (hm1156.give [5, 6] [.sl (Kd.int .i64) A0_0 c0_0 x0.Shape, .sl Kd.float A0_1 c0_1 x0.Data] rfl rfl) r1042 hr1042) ?_)
                                rintro _ w1163 a1164 ⟨A1159, c1160, A1161, c1162, rfl, hk1166⟩ hf1165
                                refine ⟨.inr (Gr.still hk1166.cum.none), ?_⟩
                                have hm1167 := hm1156.back hk1166
                                refine quiet0 [23, 24, 25, 26, 27] [.bool true] [6] #[true, true, true, true, true, true, true, true, true, true, true, true, true, true, true, true, true, true, true, true, true, true, true, true, true, true, true, true] [(6, .bool true)] [.is ((((r1042.Data.length : Int) : Int) == 0) = true)] 0 rfl (by kernel_rfl) (fun _ _ _ _ _ h => nomatch h.1) hf1165 (by kernel_rfl) ⟨(eqT c1043), trivial⟩ fun a1168 hf1169 => ?_
                                refine allDone (by kernel_rfl) ⟨rfl, hf1169.sel (l := [6]) (by kernel_rfl), hm1167.sel [] _ rfl (by kernel_rfl)⟩
                              rintro a1170 w1171 ⟨hf1172, hm1173⟩
                              refine thenN ?_
                              refine wp_ret ?_
                              have hm1174 : Mem [] M w0 [] w1171 := hm1173.sel [] _ rfl (by kernel_rfl)
                              obtain rfl := Option.some.inj H0
                              refine ret [] [.bool true] [] hf1172 (by kernel_rfl) trivial ?_
                              exact ⟨_, rfl, rfl, hm1174⟩
                            · refine midReg (fun (a : Act) (w : World) => Fr 127 a [(6, .bool false)] ∧ Mem [] M w0 [] w) ?_ ?_
                              · refine anyG [] (by kernel_rfl) fun w1211 hg1212 => ?_
                                have hm1213 := hm1033.still hg1212
                                refine quiet0 [0, 2] [.agg #[.slice A0_0 x0.Shape.length c0_0, .slice A0_1 x0.Data.length c0_1]] [3, 4, 100, 102] #[true, false, true, false, false, false, false, false, false, false, false, false, false, false, false, false, false, false, false, false, false, false, false, false, false, false, false, false] [(3, .pointer (some ⟨b21, 0, none⟩)), (4, .pointer (some ⟨b28, 0, none⟩)), (100, .agg #[.slice A0_0 x0.Shape.length c0_0, .slice A0_1 x0.Data.length c0_1]), (102, .bool true)] [.cell ⟨b21, 0, none⟩ (.slice A0_0 x0.Shape.length c0_0), .cell ⟨b21, 1, none⟩ (.slice A0_1 x0.Data.length c0_1)] 26 rfl (by kernel_rfl) (fun _ _ _ _ _ h => nomatch h.1) hf1032 (by kernel_rfl) ⟨(hm1213.cell 4 rfl rfl), (hm1213.cell 4 rfl rfl), trivial⟩ fun a1258 hf1259 => ?_
                                refine all1 1 (by kernel_rfl) ?_
                                refine opOf hf1259 rfl (by kernel_rfl) (aCall (fid := 38) (args := [.agg #[.slice A0_0 x0.Shape.length c0_0, .slice A0_1 x0.Data.length c0_1]]) (d := 101) hf1259 (by kernel_rfl) (by kernel_rfl) callable38 (tensor_May.calls _ _ x0 A0_0 x0.Shape.length c0_0 rfl A0_1 x0.Data.length c0_1 rfl (hm1213.give [5, 6] [.sl (Kd.int .i64) A0_0 c0_0 x0.Shape, .sl Kd.float A0_1 c0_1 x0.Data] rfl rfl) r1034 hr1034) ?_)
                                rintro _ w1260 a1261 ⟨rfl, hk1263⟩ hf1262
                                refine ⟨.inr (Gr.still hk1263.cum.none), ?_⟩
                                have hm1264 := hm1213.still hk1263.cum.none
                                refine quiet0 [3, 4, 5, 6, 8, 9] [.bool true, .agg #[.slice A0_0 x0.Shape.length c0_0, .slice A0_1 x0.Data.length c0_1], .agg #[.slice A1_0 x1.Shape.length c1_0, .slice A1_1 x1.Data.length c1_1], .agg #[.slice A0_0 x0.Shape.length c0_0, .slice A0_1 x0.Data.length c0_1], .agg #[.slice A1_0 x1.Shape.length c1_0, .slice A1_1 x1.Data.length c1_1]] [3, 104, 105, 106, 108, 109] #[true, true, true, true, true, true, true, false, true, true, false, false, false, false, false, false, false, false, false, false, false, false, false, false, false, false, false, false] [(3, .pointer (some ⟨b21, 0, none⟩)), (104, .bool true), (105, .agg #[.slice A0_0 x0.Shape.length c0_0, .slice A0_1 x0.Data.length c0_1]), (106, .agg #[.slice A1_0 x1.Shape.length c1_0, .slice A1_1 x1.Data.length c1_1]), (108, .agg #[.slice A0_0 x0.Shape.length c0_0, .slice A0_1 x0.Data.length c0_1]), (109, .agg #[.slice A1_0 x1.Shape.length c1_0, .slice A1_1 x1.Data.length c1_1])] [.is ((r1034 == true) = true), .cell ⟨b21, 0, none⟩ (.slice A0_0 x0.Shape.length c0_0), .cell ⟨b21, 1, none⟩ (.slice A0_1 x0.Data.length c0_1), .cell ⟨b28, 0, none⟩ (.slice A1_0 x1.Shape.length c1_0), .cell ⟨b28, 1, none⟩ (.slice A1_1 x1.Data.length c1_1), .cell ⟨b21, 0, none⟩ (.slice A0_0 x0.Shape.length c0_0), .cell ⟨b21, 1, none⟩ (.slice A0_1 x0.Data.length c0_1), .cell ⟨b28, 0, none⟩ (.slice A1_0 x1.Shape.length c1_0), .cell ⟨b28, 1, none⟩ (.slice A1_1 x1.Data.length c1_1)] 19 rfl (by kernel_rfl) (fun _ _ _ _ _ h => nomatch h.1) hf1262 (by kernel_rfl) ⟨c1035, (hm1264.cell 4 rfl rfl), (hm1264.cell 4 rfl rfl), (hm1264.cell 3 rfl rfl), (hm1264.cell 3 rfl rfl), (hm1264.cell 4 rfl rfl), (hm1264.cell 4 rfl rfl), (hm1264.cell 3 rfl rfl), (hm1264.cell 3 rfl rfl), trivial⟩ fun a1265 hf1266 => ?_
                                refine all1 7 (by kernel_rfl) ?_
                                refine opOf hf1266 rfl (by kernel_rfl) (aCall (fid := 39) (args := [.agg #[.slice A0_0 x0.Shape.length c0_0, .slice A0_1 x0.Data.length c0_1], .agg #[.slice A1_0 x1.Shape.length c1_0, .slice A1_1 x1.Data.length c1_1]]) (d := 107) hf1266 (by kernel_rfl) (by kernel_rfl) callable39 (tensor_Same.calls _ _ x0 A0_0 x0.Shape.length c0_0 rfl A0_1 x0.Data.length c0_1 rfl x1 A1_0 x1.Shape.length c1_0 rfl A1_1 x1.Data.length c1_1 rfl (hm1264.give [5, 6, 7, 8] [.sl (Kd.int .i64) A0_0 c0_0 x0.Shape, .sl Kd.float A0_1 c0_1 x0.Data, .sl (Kd.int .i64) A1_0 c1_0 x1.Shape, .sl Kd.float A1_1 c1_1 x1.Data] rfl rfl) r1036 hr1036) ?_)
                                rintro _ w1267 a1268 ⟨rfl, hk1270⟩ hf1269
                                refine ⟨.inr (Gr.still hk1270.cum.none), ?_⟩
                                have hm1271 := hm1264.still hk1270.cum.none
                                refine all1 10 (by kernel_rfl) ?_
                                refine opOf hf1269 rfl (by kernel_rfl) (aCall (fid := 19) (args := [.agg #[.slice A0_0 x0.Shape.length c0_0, .slice A0_1 x0.Data.length c0_1], .agg #[.slice A1_0 x1.Shape.length c1_0, .slice A1_1 x1.Data.length c1_1]]) (d := 110) hf1269 (by kernel_rfl) (by kernel_rfl) callable19 (ref1_SameTensor.calls _ _ x0 A0_0 x0.Shape.length c0_0 rfl A0_1 x0.Data.length c0_1 rfl x1 A1_0 x1.Shape.length c1_0 rfl A1_1 x1.Data.length c1_1 rfl (hm1271.give [5, 6, 7, 8] [.sl (Kd.int .i64) A0_0 c0_0 x0.Shape, .sl Kd.float A0_1 c0_1 x0.Data, .sl (Kd.int .i64) A1_0 c1_0 x1.Shape, .sl Kd.float A1_1 c1_1 x1.Data] rfl rfl) r1037 hr1037) ?_)
                                rintro _ w1272 a1273 ⟨rfl, hk1275⟩ hf1274
                                refine ⟨.inr (Gr.still hk1275.cum.none), ?_⟩
                                have hm1276 := hm1271.still hk1275.cum.none
                                refine quiet0 [11, 12, 13, 14, 16] [.bool true, .agg #[.slice A0_0 x0.Shape.length c0_0, .slice A0_1 x0.Data.length c0_1], .agg #[.slice A0_0 x0.Shape.length c0_0, .slice A0_1 x0.Data.length c0_1]] [3, 113, 114, 116] #[true, true, true, true, true, true, true, true, true, true, true, true, true, true, true, false, true, false, false, false, false, false, false, false, false, false, false, false] [(3, .pointer (some ⟨b21, 0, none⟩)), (113, .bool true), (114, .agg #[.slice A0_0 x0.Shape.length c0_0, .slice A0_1 x0.Data.length c0_1]), (116, .agg #[.slice A0_0 x0.Shape.length c0_0, .slice A0_1 x0.Data.length c0_1])] [.is ((r1036 == r1037) = true), .cell ⟨b21, 0, none⟩ (.slice A0_0 x0.Shape.length c0_0), .cell ⟨b21, 1, none⟩ (.slice A0_1 x0.Data.length c0_1), .cell ⟨b21, 0, none⟩ (.slice A0_0 x0.Shape.length c0_0), .cell ⟨b21, 1, none⟩ (.slice A0_1 x0.Data.length c0_1)] 12 rfl (by kernel_rfl) (fun _ _ _ _ _ h => nomatch h.1) hf1274 (by kernel_rfl) ⟨c1038, (hm1276.cell 4 rfl rfl), (hm1276.cell 4 rfl rfl), (hm1276.cell 4 rfl rfl), (hm1276.cell 4 rfl rfl), trivial⟩ fun a1277 hf1278 => ?_
                                refine all1 15 (by kernel_rfl) ?_
                                refine opOf hf1278 rfl (by kernel_rfl) (aCall (fid := 40) (args := [.agg #[.slice A0_0 x0.Shape.length c0_0, .slice A0_1 x0.Data.length c0_1]]) (d := 115) hf1278 (by kernel_rfl) (by kernel_rfl) callable40 (tensor_Finite.calls _ _ x0 A0_0 x0.Shape.length c0_0 rfl A0_1 x0.Data.length c0_1 rfl (hm1276.give [5, 6] [.sl (Kd.int .i64) A0_0 c0_0 x0.Shape, .sl Kd.float A0_1 c0_1 x0.Data] rfl rfl) r1039 hr1039) ?_)
                                rintro _ w1279 a1280 ⟨rfl, hk1282⟩ hf1281
                                refine ⟨.inr (Gr.still hk1282.cum.none), ?_⟩
                                have hm1283 := hm1276.still hk1282.cum.none
                                refine all1 17 (by kernel_rfl) ?_
                                refine opOf hf1281 rfl (by kernel_rfl) (aCall (fid := 41) (args := [.agg #[.slice A0_0 x0.Shape.length c0_0, .slice A0_1 x0.Data.length c0_1]]) (d := 117) hf1281 (by kernel_rfl) (by kernel_rfl) callable41 (ref1_Finite.calls _ _ x0 A0_0 x0.Shape.length c0_0 rfl A0_1 x0.Data.length c0_1 rfl (hm1283.give [5, 6] [.sl (Kd.int .i64) A0_0 c0_0 x0.Shape, .sl Kd.float A0_1 c0_1 x0.Data] rfl rfl) r1040 hr1040) ?_)
                                rintro _ w1284 a1285 ⟨rfl, hk1287⟩ hf1286
                                refine ⟨.inr (Gr.still hk1287.cum.none), ?_⟩
                                have hm1288 := hm1283.still hk1287.cum.none
                                refine quiet0 [18, 19, 20, 21] [.bool true, .agg #[.slice A0_0 x0.Shape.length c0_0, .slice A0_1 x0.Data.length c0_1]] [120, 121] #[true, true, true, true, true, true, true, true, true, true, true, true, true, true, true, true, true, true, true, true, true, true, false, false, false, false, false, false] [(120, .bool true), (121, .agg #[.slice A0_0 x0.Shape.length c0_0, .slice A0_1 x0.Data.length c0_1])] [.is ((r1039 == r1040) = true), .cell ⟨b21, 0, none⟩ (.slice A0_0 x0.Shape.length c0_0), .cell ⟨b21, 1, none⟩ (.slice A0_1 x0.Data.length c0_1)] 6 rfl (by kernel_rfl) (fun _ _ _ _ _ h => nomatch h.1) hf1286 (by kernel_rfl) ⟨c1041, (hm1288.cell 4 rfl rfl), (hm1288.cell 4 rfl rfl), trivial⟩ fun a1289 hf1290 => ?_
                                refine all1 22 (by kernel_rfl) ?_
                                refine opOf hf1290 rfl (by kernel_rfl) (aCall (fid := 36) (args := [.agg #[.slice A0_0 x0.Shape.length c0_0, .slice A0_1 x0.Data.length c0_1], .nilFunc]) (d := 122) hf1290 (by kernel_rfl) (by kernel_rfl) callable36 (tensor_Map_nil.calls _ _ x0 A0_0 x0.Shape.length c0_0 rfl A0_1 x0.Data.length c0_1 rfl (hm1288.give [5, 6] [.sl (Kd.int .i64) A0_0 c0_0 x0.Shape, .sl Kd.float A0_1 c0_1 x0.Data] rfl rfl) r1042 hr1042) ?_)
                                rintro _ w1295 a1296 ⟨A1291, c1292, A1293, c1294, rfl, hk1298⟩ hf1297
                                refine ⟨.inr (Gr.still hk1298.cum.none), ?_⟩
                                have hm1299 := hm1288.back hk1298
                                refine quiet0 [23, 24, 25, 26, 27] [.bool false] [6] #[true, true, true, true, true, true, true, true, true, true, true, true, true, true, true, true, true, true, true, true, true, true, true, true, true, true, true, true] [(6, .bool false)] [.is ((((r1042.Data.length : Int) : Int) == 0) = false)] 0 rfl (by kernel_rfl) (fun _ _ _ _ _ h => nomatch h.1) hf1297 (by kernel_rfl) ⟨(eqF c1043), trivial⟩ fun a1300 hf1301 => ?_
                                refine allDone (by kernel_rfl) ⟨rfl, hf1301.sel (l := [6]) (by kernel_rfl), hm1299.sel [] _ rfl (by kernel_rfl)⟩
                              rintro a1302 w1303 ⟨hf1304, hm1305⟩
                              refine thenN ?_
                              refine wp_ret ?_
                              have hm1306 : Mem [] M w0 [] w1303 := hm1305.sel [] _ rfl (by kernel_rfl)
                              obtain rfl := Option.some.inj H0
                              refine ret [] [.bool false] [] hf1304 (by kernel_rfl) trivial ?_
                              exact ⟨_, rfl, rfl, hm1306⟩
                          · refine midReg (fun (a : Act) (w : World) => Fr 127 a [(6, .bool false)] ∧ Mem [] M w0 [] w) ?_ ?_
                            · refine anyG [] (by kernel_rfl) fun w1334 hg1335 => ?_
                              have hm1336 := hm1033.still hg1335
                              refine quiet0 [0, 2] [.agg #[.slice A0_0 x0.Shape.length c0_0, .slice A0_1 x0.Data.length c0_1]] [3, 4, 100, 102] #[true, false, true, false, false, false, false, false, false, false, false, false, false, false, false, false, false, false, false, false, false, false, false, false, false, false, false, false] [(3, .pointer (some ⟨b21, 0, none⟩)), (4, .pointer (some ⟨b28, 0, none⟩)), (100, .agg #[.slice A0_0 x0.Shape.length c0_0, .slice A0_1 x0.Data.length c0_1]), (102, .bool true)] [.cell ⟨b21, 0, none⟩ (.slice A0_0 x0.Shape.length c0_0), .cell ⟨b21, 1, none⟩ (.slice A0_1 x0.Data.length c0_1)] 26 rfl (by kernel_rfl) (fun _ _ _ _ _ h => nomatch h.1) hf1032 (by kernel_rfl) ⟨(hm1336.cell 4 rfl rfl), (hm1336.cell 4 rfl rfl), trivial⟩ fun a1370 hf1371 => ?_
                              refine all1 1 (by kernel_rfl) ?_
                              refine opOf hf1371 rfl (by kernel_rfl) (aCall (fid := 38) (args := [.agg #[.slice A0_0 x0.Shape.length c0_0, .slice A0_1 x0.Data.length c0_1]]) (d := 101) hf1371 (by kernel_rfl) (by kernel_rfl) callable38 (tensor_May.calls _ _ x0 A0_0 x0.Shape.length c0_0 rfl A0_1 x0.Data.length c0_1 rfl (hm1336.give [5, 6] [.sl (Kd.int .i64) A0_0 c0_0 x0.Shape, .sl Kd.float A0_1 c0_1 x0.Data] rfl rfl) r1034 hr1034) ?_)
                              rintro _ w1372 a1373 ⟨rfl, hk1375⟩ hf1374
                              refine ⟨.inr (Gr.still hk1375.cum.none), ?_⟩
                              have hm1376 := hm1336.still hk1375.cum.none
                              refine quiet0 [3, 4, 5, 6, 8, 9] [.bool true, .agg #[.slice A0_0 x0.Shape.length c0_0, .slice A0_1 x0.Data.length c0_1], .agg #[.slice A1_0 x1.Shape.length c1_0, .slice A1_1 x1.Data.length c1_1], .agg #[.slice A0_0 x0.Shape.length c0_0, .slice A0_1 x0.Data.length c0_1], .agg #[.slice A1_0 x1.Shape.length c1_0, .slice A1_1 x1.Data.length c1_1]] [3, 104, 105, 106, 108, 109] #[true, true, true, true, true, true, true, false, true, true, false, false, false, false, false, false, false, false, false, false, false, false, false, false, false, false, false, false] [(3, .pointer (some ⟨b21, 0, none⟩)), (104, .bool true), (105, .agg #[.slice A0_0 x0.Shape.length c0_0, .slice A0_1 x0.Data.length c0_1]), (106, .agg #[.slice A1_0 x1.Shape.length c1_0, .slice A1_1 x1.Data.length c1_1]), (108, .agg #[.slice A0_0 x0.Shape.length c0_0, .slice A0_1 x0.Data.length c0_1]), (109, .agg #[.slice A1_0 x1.Shape.length c1_0, .slice A1_1 x1.Data.length c1_1])] [.is ((r1034 == true) = true), .cell ⟨b21, 0, none⟩ (.slice A0_0 x0.Shape.length c0_0), .cell ⟨b21, 1, none⟩ (.slice A0_1 x0.Data.length c0_1), .cell ⟨b28, 0, none⟩ (.slice A1_0 x1.Shape.length c1_0), .cell ⟨b28, 1, none⟩ (.slice A1_1 x1.Data.length c1_1), .cell ⟨b21, 0, none⟩ (.slice A0_0 x0.Shape.length c0_0), .cell ⟨b21, 1, none⟩ (.slice A0_1 x0.Data.length c0_1), .cell ⟨b28, 0, none⟩ (.slice A1_0 x1.Shape.length c1_0), .cell ⟨b28, 1, none⟩ (.slice A1_1 x1.Data.length c1_1)] 19 rfl (by kernel_rfl) (fun _ _ _ _ _ h => nomatch h.1) hf1374 (by kernel_rfl) ⟨c1035, (hm1376.cell 4 rfl rfl), (hm1376.cell 4 rfl rfl), (hm1376.cell 3 rfl rfl), (hm1376.cell 3 rfl rfl), (hm1376.cell 4 rfl rfl), (hm1376.cell 4 rfl rfl), (hm1376.cell 3 rfl rfl), (hm1376.cell 3 rfl rfl), trivial⟩ fun a1377 hf1378 => ?_
                              refine all1 7 (by kernel_rfl) ?_
                              refine opOf hf1378 rfl (by kernel_rfl) (aCall (fid := 39) (args := [.agg #[.slice A0_0 x0.Shape.length c0_0, .slice A0_1 x0.Data.length c0_1], .agg #[.slice A1_0 x1.Shape.length c1_0, .slice A1_1 x1.Data.length c1_1]]) (d := 107) hf1378 (by kernel_rfl) (by kernel_rfl) callable39 (tensor_Same.calls _ _ x0 A0_0 x0.Shape.length c0_0 rfl A0_1 x0.Data.length c0_1 rfl x1 A1_0 x1.Shape.length c1_0 rfl A1_1 x1.Data.length c1_1 rfl (hm1376.give [5, 6, 7, 8] [.sl (Kd.int .i64) A0_0 c0_0 x0.Shape, .sl Kd.float A0_1 c0_1 x0.Data, .sl (Kd.int .i64) A1_0 c1_0 x1.Shape, .sl Kd.float A1_1 c1_1 x1.Data] rfl rfl) r1036 hr1036) ?_)
                              rintro _ w1379 a1380 ⟨rfl, hk1382⟩ hf1381
                              refine ⟨.inr (Gr.still hk1382.cum.none), ?_⟩
                              have hm1383 := hm1376.still hk1382.cum.none
                              refine all1 10 (by kernel_rfl) ?_
                              refine opOf hf1381 rfl (by kernel_rfl) (aCall (fid := 19) (args := [.agg #[.slice A0_0 x0.Shape.length c0_0, .slice A0_1 x0.Data.length c0_1], .agg #[.slice A1_0 x1.Shape.length c1_0, .slice A1_1 x1.Data.length c1_1]]) (d := 110) hf1381 (by kernel_rfl) (by kernel_rfl) callable19 (ref1_SameTensor.calls _ _ x0 A0_0 x0.Shape.length c0_0 rfl A0_1 x0.Data.length c0_1 rfl x1 A1_0 x1.Shape.length c1_0 rfl A1_1 x1.Data.length c1_1 rfl (hm1383.give [5, 6, 7, 8] [.sl (Kd.int .i64) A0_0 c0_0 x0.Shape, .sl Kd.float A0_1 c0_1 x0.Data, .sl (Kd.int .i64) A1_0 c1_0 x1.Shape, .sl Kd.float A1_1 c1_1 x1.Data] rfl rfl) r1037 hr1037) ?_)
                              rintro _ w1384 a1385 ⟨rfl, hk1387⟩ hf1386
                              refine ⟨.inr (Gr.still hk1387.cum.none), ?_⟩
                              have hm1388 := hm1383.still hk1387.cum.none
                              refine quiet0 [11, 12, 13, 14, 16] [.bool true, .agg #[.slice A0_0 x0.Shape.length c0_0, .slice A0_1 x0.Data.length c0_1], .agg #[.slice A0_0 x0.Shape.length c0_0, .slice A0_1 x0.Data.length c0_1]] [3, 113, 114, 116] #[true, true, true, true, true, true, true, true, true, true, true, true, true, true, true, false, true, false, false, false, false, false, false, false, false, false, false, false] [(3, .pointer (some ⟨b21, 0, none⟩)), (113, .bool true), (114, .agg #[.slice A0_0 x0.Shape.length c0_0, .slice A0_1 x0.Data.length c0_1]), (116, .agg #[.slice A0_0 x0.Shape.length c0_0, .slice A0_1 x0.Data.length c0_1])] [.is ((r1036 == r1037) = true), .cell ⟨b21, 0, none⟩ (.slice A0_0 x0.Shape.length c0_0), .cell ⟨b21, 1, none⟩ (.slice A0_1 x0.Data.length c0_1), .cell ⟨b21, 0, none⟩ (.slice A0_0 x0.Shape.length c0_0), .cell ⟨b21, 1, none⟩ (.slice A0_1 x0.Data.length c0_1)] 12 rfl (by kernel_rfl) (fun _ _ _ _ _ h => nomatch h.1) hf1386 (by kernel_rfl) ⟨c1038, (hm1388.cell 4 rfl rfl), (hm1388.cell 4 rfl rfl), (hm1388.cell 4 rfl rfl), (hm1388.cell 4 rfl rfl), trivial⟩ fun a1389 hf1390 => ?_
                              refine all1 15 (by kernel_rfl) ?_
                              refine opOf hf1390 rfl (by kernel_rfl) (aCall (fid := 40) (args := [.agg #[.slice A0_0 x0.Shape.length c0_0, .slice A0_1 x0.Data.length c0_1]]) (d := 115) hf1390 (by kernel_rfl) (by kernel_rfl) callable40 (tensor_Finite.calls _ _ x0 A0_0 x0.Shape.length c0_0 rfl A0_1 x0.Data.length c0_1 rfl (hm1388.give [5, 6] [.sl (Kd.int .i64) A0_0 c0_0 x0.Shape, .sl Kd.float A0_1 c0_1 x0.Data] rfl rfl) r1039 hr1039) ?_)
                              rintro _ w1391 a1392 ⟨rfl, hk1394⟩ hf1393
                              refine ⟨.inr (Gr.still hk1394.cum.none), ?_⟩
                              have hm1395 := hm1388.still hk1394.cum.none
                              refine all1 17 (by kernel_rfl) ?_
                              refine opOf hf1393 rfl (by kernel_rfl) (aCall (fid := 41) (args := [.agg #[.slice A0_0 x0.Shape.length c0_0, .slice A0_1 x0.Data.length c0_1]]) (d := 117) hf1393 (by kernel_rfl) (by kernel_rfl) callable41 (ref1_Finite.calls _ _ x0 A0_0 x0.Shape.length c0_0 rfl A0_1 x0.Data.length c0_1 rfl (hm1395.give [5, 6] [.sl (Kd.int .i64) A0_0 c0_0 x0.Shape, .sl Kd.float A0_1 c0_1 x0.Data] rfl rfl) r1040 hr1040) ?_)
                              rintro _ w1396 a1397 ⟨rfl, hk1399⟩ hf1398
                              refine ⟨.inr (Gr.still hk1399.cum.none), ?_⟩
                              have hm1400 := hm1395.still hk1399.cum.none
                              refine quiet0 [18, 19, 20, 21, 22, 23, 24, 25, 26, 27] [.bool false] [6] #[true, true, true, true, true, true, true, true, true, true, true, true, true, true, true, true, true, true, true, true, true, true, true, true, true, true, true, true] [(6, .bool false)] [.is ((r1039 == r1040) = false)] 0 rfl (by kernel_rfl) (fun _ _ _ _ _ h => nomatch h.1) hf1398 (by kernel_rfl) ⟨c1041, trivial⟩ fun a1401 hf1402 => ?_
                              refine allDone (by kernel_rfl) ⟨rfl, hf1402.sel (l := [6]) (by kernel_rfl), hm1400.sel [] _ rfl (by kernel_rfl)⟩
                            rintro a1403 w1404 ⟨hf1405, hm1406⟩
                            refine thenN ?_
                            refine wp_ret ?_
                            have hm1407 : Mem [] M w0 [] w1404 := hm1406.sel [] _ rfl (by kernel_rfl)
                            obtain rfl := Option.some.inj H0
                            refine ret [] [.bool false] [] hf1405 (by kernel_rfl) trivial ?_
                            exact ⟨_, rfl, rfl, hm1407⟩
                        · refine midReg (fun (a : Act) (w : World) => Fr 127 a [(6, .bool false)] ∧ Mem [] M w0 [] w) ?_ ?_
                          · refine anyG [] (by kernel_rfl) fun w1425 hg1426 => ?_
                            have hm1427 := hm1033.still hg1426
                            refine quiet0 [0, 2] [.agg #[.slice A0_0 x0.Shape.length c0_0, .slice A0_1 x0.Data.length c0_1]] [3, 4, 100, 102] #[true, false, true, false, false, false, false, false, false, false, false, false, false, false, false, false, false, false, false, false, false, false, false, false, false, false, false, false] [(3, .pointer (some ⟨b21, 0, none⟩)), (4, .pointer (some ⟨b28, 0, none⟩)), (100, .agg #[.slice A0_0 x0.Shape.length c0_0, .slice A0_1 x0.Data.length c0_1]), (102, .bool true)] [.cell ⟨b21, 0, none⟩ (.slice A0_0 x0.Shape.length c0_0), .cell ⟨b21, 1, none⟩ (.slice A0_1 x0.Data.length c0_1)] 26 rfl (by kernel_rfl) (fun _ _ _ _ _ h => nomatch h.1) hf1032 (by kernel_rfl) ⟨(hm1427.cell 4 rfl rfl), (hm1427.cell 4 rfl rfl), trivial⟩ fun a1449 hf1450 => ?_
                            refine all1 1 (by kernel_rfl) ?_
                            refine opOf hf1450 rfl (by kernel_rfl) (aCall (fid := 38) (args := [.agg #[.slice A0_0 x0.Shape.length c0_0, .slice A0_1 x0.Data.length c0_1]]) (d := 101) hf1450 (by kernel_rfl) (by kernel_rfl) callable38 (tensor_May.calls _ _ x0 A0_0 x0.Shape.length c0_0 rfl A0_1 x0.Data.length c0_1 rfl (hm1427.give [5, 6] [.sl (Kd.int .i64) A0_0 c0_0 x0.Shape, .sl Kd.float A0_1 c0_1 x0.Data] rfl rfl) r1034 hr1034) ?_)
                            rintro _ w1451 a1452 ⟨rfl, hk1454⟩ hf1453
                            refine ⟨.inr (Gr.still hk1454.cum.none), ?_⟩
                            have hm1455 := hm1427.still hk1454.cum.none
                            refine quiet0 [3, 4, 5, 6, 8, 9] [.bool true, .agg #[.slice A0_0 x0.Shape.length c0_0, .slice A0_1 x0.Data.length c0_1], .agg #[.slice A1_0 x1.Shape.length c1_0, .slice A1_1 x1.Data.length c1_1], .agg #[.slice A0_0 x0.Shape.length c0_0, .slice A0_1 x0.Data.length c0_1], .agg #[.slice A1_0 x1.Shape.length c1_0, .slice A1_1 x1.Data.length c1_1]] [3, 104, 105, 106, 108, 109] #[true, true, true, true, true, true, true, false, true, true, false, false, false, false, false, false, false, false, false, false, false, false, false, false, false, false, false, false] [(3, .pointer (some ⟨b21, 0, none⟩)), (104, .bool true), (105, .agg #[.slice A0_0 x0.Shape.length c0_0, .slice A0_1 x0.Data.length c0_1]), (106, .agg #[.slice A1_0 x1.Shape.length c1_0, .slice A1_1 x1.Data.length c1_1]), (108, .agg #[.slice A0_0 x0.Shape.length c0_0, .slice A0_1 x0.Data.length c0_1]), (109, .agg #[.slice A1_0 x1.Shape.length c1_0, .slice A1_1 x1.Data.length c1_1])] [.is ((r1034 == true) = true), .cell ⟨b21, 0, none⟩ (.slice A0_0 x0.Shape.length c0_0), .cell ⟨b21, 1, none⟩ (.slice A0_1 x0.Data.length c0_1), .cell ⟨b28, 0, none⟩ (.slice A1_0 x1.Shape.length c1_0), .cell ⟨b28, 1, none⟩ (.slice A1_1 x1.Data.length c1_1), .cell ⟨b21, 0, none⟩ (.slice A0_0 x0.Shape.length c0_0), .cell ⟨b21, 1, none⟩ (.slice A0_1 x0.Data.length c0_1), .cell ⟨b28, 0, none⟩ (.slice A1_0 x1.Shape.length c1_0), .cell ⟨b28, 1, none⟩ (.slice A1_1 x1.Data.length c1_1)] 19 rfl (by kernel_rfl) (fun _ _ _ _ _ h => nomatch h.1) hf1453 (by kernel_rfl) ⟨c1035, (hm1455.cell 4 rfl rfl), (hm1455.cell 4 rfl rfl), (hm1455.cell 3 rfl rfl), (hm1455.cell 3 rfl rfl), (hm1455.cell 4 rfl rfl), (hm1455.cell 4 rfl rfl), (hm1455.cell 3 rfl rfl), (hm1455.cell 3 rfl rfl), trivial⟩ fun a1456 hf1457 => ?_
                            refine all1 7 (by kernel_rfl) ?_
                            refine opOf hf1457 rfl (by kernel_rfl) (aCall (fid := 39) (args := [.agg #[.slice A0_0 x0.Shape.length c0_0, .slice A0_1 x0.Data.length c0_1], .agg #[.slice A1_0 x1.Shape.length c1_0, .slice A1_1 x1.Data.length c1_1]]) (d := 107) hf1457 (by kernel_rfl) (by kernel_rfl) callable39 (tensor_Same.calls _ _ x0 A0_0 x0.Shape.length c0_0 rfl A0_1 x0.Data.length c0_1 rfl x1 A1_0 x1.Shape.length c1_0 rfl A1_1 x1.Data.length c1_1 rfl (hm1455.give [5, 6, 7, 8] [.sl (Kd.int .i64) A0_0 c0_0 x0.Shape, .sl Kd.float A0_1 c0_1 x0.Data, .sl (Kd.int .i64) A1_0 c1_0 x1.Shape, .sl Kd.float A1_1 c1_1 x1.Data] rfl rfl) r1036 hr1036) ?_)
                            rintro _ w1458 a1459 ⟨rfl, hk1461⟩ hf1460
                            refine ⟨.inr (Gr.still hk1461.cum.none), ?_⟩
                            have hm1462 := hm1455.still hk1461.cum.none
                            refine all1 10 (by kernel_rfl) ?_
                            refine opOf hf1460 rfl (by kernel_rfl) (aCall (fid := 19) (args := [.agg #[.slice A0_0 x0.Shape.length c0_0, .slice A0_1 x0.Data.length c0_1], .agg #[.slice A1_0 x1.Shape.length c1_0, .slice A1_1 x1.Data.length c1_1]]) (d := 110) hf1460 (by kernel_rfl) (by kernel_rfl) callable19 (ref1_SameTensor.calls _ _ x0 A0_0 x0.Shape.length c0_0 rfl A0_1 x0.Data.length c0_1 rfl x1 A1_0 x1.Shape.length c1_0 rfl A1_1 x1.Data.length c1_1 rfl (hm1462.give [5, 6, 7, 8] [.sl (Kd.int .i64) A0_0 c0_0 x0.Shape, .sl Kd.float A0_1 c0_1 x0.Data, .sl (Kd.int .i64) A1_0 c1_0 x1.Shape, .sl Kd.float A1_1 c1_1 x1.Data] rfl rfl) r1037 hr1037) ?_)
                            rintro _ w1463 a1464 ⟨rfl, hk1466⟩ hf1465
                            refine ⟨.inr (Gr.still hk1466.cum.none), ?_⟩
                            have hm1467 := hm1462.still hk1466.cum.none
                            refine quiet0 [11, 12, 13, 14, 15, 16, 17, 18, 19, 20, 21, 22, 23, 24, 25, 26, 27] [.bool false] [6] #[true, true, true, true, true, true, true, true, true, true, true, true, true, true, true, true, true, true, true, true, true, true, true, true, true, true, true, true] [(6, .bool false)] [.is ((r1036 == r1037) = false)] 0 rfl (by kernel_rfl) (fun _ _ _ _ _ h => nomatch h.1) hf1465 (by kernel_rfl) ⟨c1038, trivial⟩ fun a1468 hf1469 => ?_
                            refine allDone (by kernel_rfl) ⟨rfl, hf1469.sel (l := [6]) (by kernel_rfl), hm1467.sel [] _ rfl (by kernel_rfl)⟩
                          rintro a1470 w1471 ⟨hf1472, hm1473⟩
                          refine thenN ?_
                          refine wp_ret ?_
                          have hm1474 : Mem [] M w0 [] w1471 := hm1473.sel [] _ rfl (by kernel_rfl)
                          obtain rfl := Option.some.inj H0
                          refine ret [] [.bool false] [] hf1472 (by kernel_rfl) trivial ?_
                          exact ⟨_, rfl, rfl, hm1474⟩
                      · refine midReg (fun (a : Act) (w : World) => Fr 127 a [(6, .bool false)] ∧ Mem [] M w0 [] w) ?_ ?_
                        · refine anyG [] (by kernel_rfl) fun w1482 hg1483 => ?_
                          have hm1484 := hm1033.still hg1483
                          refine quiet0 [0, 2] [.agg #[.slice A0_0 x0.Shape.length c0_0, .slice A0_1 x0.Data.length c0_1]] [3, 4, 100, 102] #[true, false, true, false, false, false, false, false, false, false, false, false, false, false, false, false, false, false, false, false, false, false, false, false, false, false, false, false] [(3, .pointer (some ⟨b21, 0, none⟩)), (4, .pointer (some ⟨b28, 0, none⟩)), (100, .agg #[.slice A0_0 x0.Shape.length c0_0, .slice A0_1 x0.Data.length c0_1]), (102, .bool true)] [.cell ⟨b21, 0, none⟩ (.slice A0_0 x0.Shape.length c0_0), .cell ⟨b21, 1, none⟩ (.slice A0_1 x0.Data.length c0_1)] 26 rfl (by kernel_rfl) (fun _ _ _ _ _ h => nomatch h.1) hf1032 (by kernel_rfl) ⟨(hm1484.cell 4 rfl rfl), (hm1484.cell 4 rfl rfl), trivial⟩ fun a1494 hf1495 => ?_
                          refine all1 1 (by kernel_rfl) ?_
                          refine opOf hf1495 rfl (by kernel_rfl) (aCall (fid := 38) (args := [.agg #[.slice A0_0 x0.Shape.length c0_0, .slice A0_1 x0.Data.length c0_1]]) (d := 101) hf1495 (by kernel_rfl) (by kernel_rfl) callable38 (tensor_May.calls _ _ x0 A0_0 x0.Shape.length c0_0 rfl A0_1 x0.Data.length c0_1 rfl (hm1484.give [5, 6] [.sl (Kd.int .i64) A0_0 c0_0 x0.Shape, .sl Kd.float A0_1 c0_1 x0.Data] rfl rfl) r1034 hr1034) ?_)
                          rintro _ w1496 a1497 ⟨rfl, hk1499⟩ hf1498
                          refine ⟨.inr (Gr.still hk1499.cum.none), ?_⟩
                          have hm1500 := hm1484.still hk1499.cum.none
                          refine quiet0 [3, 4, 5, 6, 7, 8, 9, 10, 11, 12, 13, 14, 15, 16, 17, 18, 19, 20, 21, 22, 23, 24, 25, 26, 27] [.bool false] [6] #[true, true, true, true, true, true, true, true, true, true, true, true, true, true, true, true, true, true, true, true, true, true, true, true, true, true, true, true] [(6, .bool false)] [.is ((r1034 == true) = false)] 0 rfl (by kernel_rfl) (fun _ _ _ _ _ h => nomatch h.1) hf1498 (by kernel_rfl) ⟨c1035, trivial⟩ fun a1501 hf1502 => ?_
                          refine allDone (by kernel_rfl) ⟨rfl, hf1502.sel (l := [6]) (by kernel_rfl), hm1500.sel [] _ rfl (by kernel_rfl)⟩
                        rintro a1503 w1504 ⟨hf1505, hm1506⟩
                        refine thenN ?_
                        refine wp_ret ?_
                        have hm1507 : Mem [] M w0 [] w1504 := hm1506.sel [] _ rfl (by kernel_rfl)
                        obtain rfl := Option.some.inj H0
                        refine ret [] [.bool false] [] hf1505 (by kernel_rfl) trivial ?_
                        exact ⟨_, rfl, rfl, hm1507⟩
                    · refine reg [.slice A860 r855.Data.length c861, .bool true, .bool false, .slice A860 r855.Data.length c861, .slice A0_1 x0.Data.length c0_1, .bool true] [3, 4, 7, 11, 79] [(3, .pointer (some ⟨b21, 0, none⟩)), (4, .pointer (some ⟨b28, 0, none⟩)), (7, .bool true), (11, .pointer (some ⟨b869, 0, none⟩)), (79, .bool true)] [.cell ⟨b869, 1, none⟩ (.slice A860 r855.Data.length c861), .is (decide (0 < (r855.Data.length : Int)) = true), .is ((true != true) = false), .cell ⟨b869, 1, none⟩ (.slice A860 r855.Data.length c861), .cell ⟨b21, 1, none⟩ (.slice A0_1 x0.Data.length c0_1), .is ((((r855.Data.length : Int) : Int) != (x0.Data.length : Int)) = true)] hf872 (by kernel_rfl) ⟨(hm879.cell 0 rfl rfl), (decide_eq_true c880), (okIs (by decide)), (hm879.cell 0 rfl rfl), (hm879.cell 4 rfl rfl), (neT c881), trivial⟩ fun a1509 hf1510 => ?_
                      refine thenN ?_
                      refine condT hf1510 (by kernel_rfl) ?_
                      refine wp_seq ?_
                      refine reg [] [6] [(6, .bool false)] [] hf1510 (by kernel_rfl) trivial fun a1511 hf1512 => ?_
                      have hm1513 := hm879.sel [] _ rfl (by kernel_rfl)
                      refine thenN ?_
                      refine wp_ret ?_
                      refine thenR ?_
                      have hm1514 : Mem [] M w0 [] w876 := hm1513.sel [] _ rfl (by kernel_rfl)
                      obtain rfl := Option.some.inj H0
                      refine ret [] [.bool false] [] hf1512 (by kernel_rfl) trivial ?_
                      exact ⟨_, rfl, rfl, hm1514⟩
                  · refine reg [.slice A860 r855.Data.length c861, .bool false, .bool true] [3, 4, 7, 11, 79] [(3, .pointer (some ⟨b21, 0, none⟩)), (4, .pointer (some ⟨b28, 0, none⟩)), (7, .bool true), (11, .pointer (some ⟨b869, 0, none⟩)), (79, .bool true)] [.cell ⟨b869, 1, none⟩ (.slice A860 r855.Data.length c861), .is (decide (0 < (r855.Data.length : Int)) = false), .is ((true != false) = true)] hf872 (by kernel_rfl) ⟨(hm879.cell 0 rfl rfl), (decide_eq_false c880), (okIs (by decide)), trivial⟩ fun a1516 hf1517 => ?_
                    refine thenN ?_
                    refine condT hf1517 (by kernel_rfl) ?_
                    refine wp_seq ?_
                    refine reg [] [6] [(6, .bool false)] [] hf1517 (by kernel_rfl) trivial fun a1518 hf1519 => ?_
                    have hm1520 := hm879.sel [] _ rfl (by kernel_rfl)
                    refine thenN ?_
                    refine wp_ret ?_
                    refine thenR ?_
                    have hm1521 : Mem [] M w0 [] w876 := hm1520.sel [] _ rfl (by kernel_rfl)
                    obtain rfl := Option.some.inj H0
                    refine ret [] [.bool false] [] hf1519 (by kernel_rfl) trivial ?_
                    exact ⟨_, rfl, rfl, hm1521⟩
          · rw [c121] at hf119
            rcases ifb_split H0 with ⟨c1523, H0⟩ | ⟨c1523, H0⟩
            · refine reg [.bool true] [3, 4, 7, 59] [(3, .pointer (some ⟨b21, 0, none⟩)), (4, .pointer (some ⟨b28, 0, none⟩)), (7, .bool false), (59, .bool true)] [.is ((r99.2 != false) = true)] hf119 (by kernel_rfl) ⟨c1523, trivial⟩ fun a1524 hf1525 => ?_
              refine thenN ?_
              refine condT hf1525 (by kernel_rfl) ?_
              refine wp_seq ?_
              refine reg [] [6] [(6, .bool false)] [] hf1525 (by kernel_rfl) trivial fun a1526 hf1527 => ?_
              have hm1528 := hm120.sel [] _ rfl (by kernel_rfl)
              refine thenN ?_
              refine wp_ret ?_
              refine thenR ?_
              have hm1529 : Mem [] M w0 [] w113 := hm1528.sel [] _ rfl (by kernel_rfl)
              obtain rfl := Option.some.inj H0
              refine ret [] [.bool false] [] hf1527 (by kernel_rfl) trivial ?_
              exact ⟨_, rfl, rfl, hm1529⟩
            · rcases ifb_split H0 with ⟨c1531, H0⟩ | ⟨c1531, H0⟩
              · rw [c1531] at hf119
                refine reg [.bool true] [3, 4, 7, 59] [(3, .pointer (some ⟨b21, 0, none⟩)), (4, .pointer (some ⟨b28, 0, none⟩)), (7, .bool false), (59, .bool true)] [.is ((true != false) = true)] hf119 (by kernel_rfl) ⟨(okIs (by decide)), trivial⟩ fun a1532 hf1533 => ?_
                refine thenN ?_
                refine condT hf1533 (by kernel_rfl) ?_
                refine wp_seq ?_
                refine reg [] [6] [(6, .bool false)] [] hf1533 (by kernel_rfl) trivial fun a1534 hf1535 => ?_
                have hm1536 := hm120.sel [] _ rfl (by kernel_rfl)
                refine thenN ?_
                refine wp_ret ?_
                refine thenR ?_
                have hm1537 : Mem [] M w0 [] w113 := hm1536.sel [] _ rfl (by kernel_rfl)
                obtain rfl := Option.some.inj H0
                refine ret [] [.bool false] [] hf1535 (by kernel_rfl) trivial ?_
                exact ⟨_, rfl, rfl, hm1537⟩
              · rw [c1531] at hf119
                refine reg [.bool false] [3, 4, 7, 59] [(3, .pointer (some ⟨b21, 0, none⟩)), (4, .pointer (some ⟨b28, 0, none⟩)), (7, .bool false), (59, .bool false)] [.is ((false != false) = false)] hf119 (by kernel_rfl) ⟨(okIs (by decide)), trivial⟩ fun a1539 hf1540 => ?_
                refine thenN ?_
                refine condF hf1540 (by kernel_rfl) ?_
                refine wp_skip ?_
                refine thenN ?_
                refine wp_seq ?_
                obtain ⟨r1541, hr1541, H0⟩ := ob_split H0
                refine inReg ?_
                refine go 1 [.agg #[.slice A0_0 x0.Shape.length c0_0, .slice A0_1 x0.Data.length c0_1]] [3, 4, 7, 60] [(3, .pointer (some ⟨b21, 0, none⟩)), (4, .pointer (some ⟨b28, 0, none⟩)), (7, .bool false), (60, .agg #[.slice A0_0 x0.Shape.length c0_0, .slice A0_1 x0.Data.length c0_1])] [.cell ⟨b21, 0, none⟩ (.slice A0_0 x0.Shape.length c0_0), .cell ⟨b21, 1, none⟩ (.slice A0_1 x0.Data.length c0_1)] hf1540 (by kernel_rfl) ⟨(hm120.cell 1 rfl rfl), (hm120.cell 1 rfl rfl), trivial⟩ fun a1542 hf1543 => ?_
                refine listOf hf1543 rfl (by kernel_rfl) (aCall (fid := 36) (args := [.agg #[.slice A0_0 x0.Shape.length c0_0, .slice A0_1 x0.Data.length c0_1], .func (.func 37) #[] #[]]) (d := 61) hf1543 (by kernel_rfl) (by kernel_rfl) callable36 (tensor_Map_math_Abs.calls _ _ x0 A0_0 x0.Shape.length c0_0 rfl A0_1 x0.Data.length c0_1 rfl (hm120.give [2, 3] [.sl (Kd.int .i64) A0_0 c0_0 x0.Shape, .sl Kd.float A0_1 c0_1 x0.Data] rfl rfl) r1541 hr1541) ?_)
                rintro _ w1548 a1549 ⟨A1544, c1545, A1546, c1547, rfl, hk1551⟩ hf1550
                have hm1552 := hm120.back hk1551
                have hm1553 := hm1552.seal 0 _ rfl rfl
                have hm1554 := hm1553.seal 1 _ rfl rfl
                refine listOf hf1550 rfl (by kernel_rfl) (aNew (cs := [.slice none 0 0, .slice none 0 0]) (T := 28) (d := 11) hf1550 (by kernel_rfl) (by kernel_rfl) ?_)
                intro b1555 w1556 a1557 hbb1555 hx1559 hg1560 hf1558
                have hm1561 := hm1554.box hbb1555 hx1559 hg1560
                refine listOf hf1558 rfl (by kernel_rfl) (aStoreB (b := b1555) (j := 0) (T := 28) (cs := [.slice none 0 0, .slice none 0 0]) (us := [.slice A1544 r1541.Shape.length c1545, .slice A1546 r1541.Data.length c1547]) (cs' := [.slice A1544 r1541.Shape.length c1545, .slice A1546 r1541.Data.length c1547]) hf1558 (by kernel_rfl) (hm1561.bxAt 0 rfl) (by kernel_rfl) (by kernel_rfl) (by kernel_rfl) ?_)
                intro w1562 hx1563 hg1564
                have hm1565 := hm1561.setBox 0 _ rfl rfl hx1563 hg1564
                refine endL rfl ?_
                refine thenN ?_
                refine wp_seq ?_
                refine wp_seq ?_
                rcases if_split H0 with ⟨c1566, H0⟩ | ⟨c1566, H0⟩
                · refine reg [.slice A1546 r1541.Data.length c1547, .bool true, .bool true] [3, 4, 7, 11, 79] [(3, .pointer (some ⟨b21, 0, none⟩)), (4, .pointer (some ⟨b28, 0, none⟩)), (7, .bool false), (11, .pointer (some ⟨b1555, 0, none⟩)), (79, .bool true)] [.cell ⟨b1555, 1, none⟩ (.slice A1546 r1541.Data.length c1547), .is (decide (0 < (r1541.Data.length : Int)) = true), .is ((false != true) = true)] hf1558 (by kernel_rfl) ⟨(hm1565.cell 0 rfl rfl), (decide_eq_true c1566), (okIs (by decide)), trivial⟩ fun a1567 hf1568 => ?_
                  refine thenN ?_
                  refine condT hf1568 (by kernel_rfl) ?_
                  refine wp_seq ?_
                  refine reg [] [6] [(6, .bool false)] [] hf1568 (by kernel_rfl) trivial fun a1569 hf1570 => ?_
                  have hm1571 := hm1565.sel [] _ rfl (by kernel_rfl)
                  refine thenN ?_
                  refine wp_ret ?_
                  refine thenR ?_
                  have hm1572 : Mem [] M w0 [] w1562 := hm1571.sel [] _ rfl (by kernel_rfl)
                  obtain rfl := Option.some.inj H0
                  refine ret [] [.bool false] [] hf1570 (by kernel_rfl) trivial ?_
                  exact ⟨_, rfl, rfl, hm1572⟩
                · refine reg [.slice A1546 r1541.Data.length c1547, .bool false, .bool false] [3, 4, 7, 11, 79] [(3, .pointer (some ⟨b21, 0, none⟩)), (4, .pointer (some ⟨b28, 0, none⟩)), (7, .bool false), (11, .pointer (some ⟨b1555, 0, none⟩)), (79, .bool false)] [.cell ⟨b1555, 1, none⟩ (.slice A1546 r1541.Data.length c1547), .is (decide (0 < (r1541.Data.length : Int)) = false), .is ((false != false) = false)] hf1558 (by kernel_rfl) ⟨(hm1565.cell 0 rfl rfl), (decide_eq_false c1566), (okIs (by decide)), trivial⟩ fun a1574 hf1575 => ?_
                  refine thenN ?_
                  refine condF hf1575 (by kernel_rfl) ?_
                  refine wp_skip ?_
                  refine thenN ?_
                  refine wp_seq ?_
                  refine wp_seq ?_
                  refine reg [] [3, 4, 7, 11, 12] [(3, .pointer (some ⟨b21, 0, none⟩)), (4, .pointer (some ⟨b28, 0, none⟩)), (7, .bool false), (11, .pointer (some ⟨b1555, 0, none⟩)), (12, .int .i64 0)] [] hf1575 (by kernel_rfl) trivial fun a1576 hf1577 => ?_
                  refine thenN ?_
                  obtain ⟨r1579, hr1579, H0⟩ := ob_split H0
                  refine wpBlock (Mid := fun (a : Act) (w : World) => Fr 127 a [(3, .pointer (some ⟨b21, 0, none⟩)), (4, .pointer (some ⟨b28, 0, none⟩)), (7, .bool false), (11, .pointer (some ⟨b1555, 0, none⟩)), (12, .int .i64 0)] ∧ Mem [] M w0 [.bx b1555 [.slice A1544 r1541.Shape.length c1545, .slice A1546 r1541.Data.length c1547] 28, .sl (Kd.int .i64) A1544 c1545 r1541.Shape, .sl Kd.float A1546 c1547 r1541.Data, .bx b28 [.slice A1_0 x1.Shape.length c1_0, .slice A1_1 x1.Data.length c1_1] 28, .bx b21 [.slice A0_0 x0.Shape.length c0_0, .slice A0_1 x0.Data.length c0_1] 28, .sl (Kd.int .i64) A0_0 c0_0 x0.Shape, .sl Kd.float A0_1 c0_1 x0.Data, .sl (Kd.int .i64) A1_0 c1_0 x1.Shape, .sl Kd.float A1_1 c1_1 x1.Data] w) ?_ ?_
                  · refine wpLoop (law3_TensorAsks.l2) r1579 (fun (s1578 : Unit) (a : Act) (w : World) => Fr 127 a [(3, .pointer (some ⟨b21, 0, none⟩)), (4, .pointer (some ⟨b28, 0, none⟩)), (7, .bool false), (11, .pointer (some ⟨b1555, 0, none⟩)), (12, .int .i64 0)] ∧ Mem [] M w0 [.bx b1555 [.slice A1544 r1541.Shape.length c1545, .slice A1546 r1541.Data.length c1547] 28, .sl (Kd.int .i64) A1544 c1545 r1541.Shape, .sl Kd.float A1546 c1547 r1541.Data, .bx b28 [.slice A1_0 x1.Shape.length c1_0, .slice A1_1 x1.Data.length c1_1] 28, .bx b21 [.slice A0_0 x0.Shape.length c0_0, .slice A0_1 x0.Data.length c0_1] 28, .sl (Kd.int .i64) A0_0 c0_0 x0.Shape, .sl Kd.float A0_1 c0_1 x0.Data, .sl (Kd.int .i64) A1_0 c1_0 x1.Shape, .sl Kd.float A1_1 c1_1 x1.Data] w) () hr1579 ⟨hf1577.sel (l := [3, 4, 7, 11, 12]) (by kernel_rfl), hm1565.sel [0, 1, 2, 3, 4, 5, 6, 7, 8] _ rfl (by kernel_rfl)⟩ ?_
                    rintro g1580 s1578 a1581 w1582 H1 ⟨hf1583, hm1584⟩
                    unfold law3_TensorAsks.l2 at H1
                    refine wp_seq ?_
                    refine wp_seq ?_
                    refine reg [.slice A1546 r1541.Data.length c1547, .bool false] [3, 4, 7, 11, 12, 84] [(3, .pointer (some ⟨b21, 0, none⟩)), (4, .pointer (some ⟨b28, 0, none⟩)), (7, .bool false), (11, .pointer (some ⟨b1555, 0, none⟩)), (12, .int .i64 0), (84, .bool false)] [.cell ⟨b1555, 1, none⟩ (.slice A1546 r1541.Data.length c1547), .is (decide (0 < (r1541.Data.length : Int)) = false)] hf1583 (by kernel_rfl) ⟨(hm1584.cell 0 rfl rfl), (decide_eq_false c1566), trivial⟩ fun a1585 hf1586 => ?_
                    refine thenN ?_
                    refine condF hf1586 (by kernel_rfl) ?_
                    refine wp_exit ?_
                    refine thenE ?_
                    refine thenE ?_
                    obtain rfl := Option.some.inj H1
                    exact .inl ⟨rfl, hf1586.sel (l := [3, 4, 7, 11, 12]) (by kernel_rfl), hm1584.sel [0, 1, 2, 3, 4, 5, 6, 7, 8] _ rfl (by kernel_rfl)⟩
                  rintro a1587 w1588 ⟨hf1589, hm1590⟩
                  refine thenN ?_
                  refine wp_seq ?_
                  obtain ⟨r1591, hr1591, H0⟩ := ob_split H0
                  rcases ifb_split H0 with ⟨c1592, H0⟩ | ⟨c1592, H0⟩
                  · obtain ⟨r1593, hr1593, H0⟩ := ob_split H0
                    obtain ⟨r1594, hr1594, H0⟩ := ob_split H0
                    rcases ifb_split H0 with ⟨c1595, H0⟩ | ⟨c1595, H0⟩
                    · obtain ⟨r1596, hr1596, H0⟩ := ob_split H0
                      obtain ⟨r1597, hr1597, H0⟩ := ob_split H0
                      rcases ifb_split H0 with ⟨c1598, H0⟩ | ⟨c1598, H0⟩
                      · obtain ⟨r1599, hr1599, H0⟩ := ob_split H0
                        rcases if_split H0 with ⟨c1600, H0⟩ | ⟨c1600, H0⟩
                        · refine midReg (fun (a : Act) (w : World) => Fr 127 a [(6, .bool true)] ∧ Mem [] M w0 [] w) ?_ ?_
                          · refine anyG [] (by kernel_rfl) fun w1636 hg1637 => ?_
                            have hm1638 := hm1590.still hg1637
                            refine quiet0 [0, 2] [.agg #[.slice A0_0 x0.Shape.length c0_0, .slice A0_1 x0.Data.length c0_1]] [3, 4, 100, 102] #[true, false, true, false, false, false, false, false, false, false, false, false, false, false, false, false, false, false, false, false, false, false, false, false, false, false, false, false] [(3, .pointer (some ⟨b21, 0, none⟩)), (4, .pointer (some ⟨b28, 0, none⟩)), (100, .agg #[.slice A0_0 x0.Shape.length c0_0, .slice A0_1 x0.Data.length c0_1]), (102, .bool false)] [.cell ⟨b21, 0, none⟩ (.slice A0_0 x0.Shape.length c0_0), .cell ⟨b21, 1, none⟩ (.slice A0_1 x0.Data.length c0_1)] 26 rfl (by kernel_rfl) (fun _ _ _ _ _ h => nomatch h.1) hf1589 (by kernel_rfl) ⟨(hm1638.cell 4 rfl rfl), (hm1638.cell 4 rfl rfl), trivial⟩ fun a1683 hf1684 => ?_
                            refine all1 1 (by kernel_rfl) ?_
                            refine opOf hf1684 rfl (by kernel_rfl) (aCall (fid := 38) (args := [.agg #[.slice A0_0 x0.Shape.length c0_0, .slice A0_1 x0.Data.length c0_1]]) (d := 101) hf1684 (by kernel_rfl) (by kernel_rfl) callable38 (tensor_May.calls _ _ x0 A0_0 x0.Shape.length c0_0 rfl A0_1 x0.Data.length c0_1 rfl (hm1638.give [5, 6] [.sl (Kd.int .i64) A0_0 c0_0 x0.Shape, .sl Kd.float A0_1 c0_1 x0.Data] rfl rfl) r1591 hr1591) ?_)
                            rintro _ w1685 a1686 ⟨rfl, hk1688⟩ hf1687
                            refine ⟨.inr (Gr.still hk1688.cum.none), ?_⟩
                            have hm1689 := hm1638.still hk1688.cum.none
                            refine quiet0 [3, 4, 5, 6, 8, 9] [.bool true, .agg #[.slice A0_0 x0.Shape.length c0_0, .slice A0_1 x0.Data.length c0_1], .agg #[.slice A1_0 x1.Shape.length c1_0, .slice A1_1 x1.Data.length c1_1], .agg #[.slice A0_0 x0.Shape.length c0_0, .slice A0_1 x0.Data.length c0_1], .agg #[.slice A1_0 x1.Shape.length c1_0, .slice A1_1 x1.Data.length c1_1]] [3, 104, 105, 106, 108, 109] #[true, true, true, true, true, true, true, false, true, true, false, false, false, false, false, false, false, false, false, false, false, false, false, false, false, false, false, false] [(3, .pointer (some ⟨b21, 0, none⟩)), (104, .bool true), (105, .agg #[.slice A0_0 x0.Shape.length c0_0, .slice A0_1 x0.Data.length c0_1]), (106, .agg #[.slice A1_0 x1.Shape.length c1_0, .slice A1_1 x1.Data.length c1_1]), (108, .agg #[.slice A0_0 x0.Shape.length c0_0, .slice A0_1 x0.Data.length c0_1]), (109, .agg #[.slice A1_0 x1.Shape.length c1_0, .slice A1_1 x1.Data.length c1_1])] [.is ((r1591 == false) = true), .cell ⟨b21, 0, none⟩ (.slice A0_0 x0.Shape.length c0_0), .cell ⟨b21, 1, none⟩ (.slice A0_1 x0.Data.length c0_1), .cell ⟨b28, 0, none⟩ (.slice A1_0 x1.Shape.length c1_0), .cell ⟨b28, 1, none⟩ (.slice A1_1 x1.Data.length c1_1), .cell ⟨b21, 0, none⟩ (.slice A0_0 x0.Shape.length c0_0), .cell ⟨b21, 1, none⟩ (.slice A0_1 x0.Data.length c0_1), .cell ⟨b28, 0, none⟩ (.slice A1_0 x1.Shape.length c1_0), .cell ⟨b28, 1, none⟩ (.slice A1_1 x1.Data.length c1_1)] 19 rfl (by kernel_rfl) (fun _ _ _ _ _ h => nomatch h.1) hf1687 (by kernel_rfl) ⟨c1592, (hm1689.cell 4 rfl rfl), (hm1689.cell 4 rfl rfl), (hm1689.cell 3 rfl rfl), (hm1689.cell 3 rfl rfl), (hm1689.cell 4 rfl rfl), (hm1689.cell 4 rfl rfl), (hm1689.cell 3 rfl rfl), (hm1689.cell 3 rfl rfl), trivial⟩ fun a1690 hf1691 => ?_
                            refine all1 7 (by kernel_rfl) ?_
                            refine opOf hf1691 rfl (by kernel_rfl) (aCall (fid := 39) (args := [.agg #[.slice A0_0 x0.Shape.length c0_0, .slice A0_1 x0.Data.length c0_1], .agg #[.slice A1_0 x1.Shape.length c1_0, .slice A1_1 x1.Data.length c1_1]]) (d := 107) hf1691 (by kernel_rfl) (by kernel_rfl) callable39 (tensor_Same.calls _ _ x0 A0_0 x0.Shape.length c0_0 rfl A0_1 x0.Data.length c0_1 rfl x1 A1_0 x1.Shape.length c1_0 rfl A1_1 x1.Data.length c1_1 rfl (hm1689.give [5, 6, 7, 8] [.sl (Kd.int .i64) A0_0 c0_0 x0.Shape, .sl Kd.float A0_1 c0_1 x0.Data, .sl (Kd.int .i64) A1_0 c1_0 x1.Shape, .sl Kd.float A1_1 c1_1 x1.Data] rfl rfl) r1593 hr1593) ?_)
                            rintro _ w1692 a1693 ⟨rfl, hk1695⟩ hf1694
                            refine ⟨.inr (Gr.still hk1695.cum.none), ?_⟩
                            have hm1696 := hm1689.still hk1695.cum.none
                            refine all1 10 (by kernel_rfl) ?_
                            refine opOf hf1694 rfl (by kernel_rfl) (aCall (fid := 19) (args := [.agg #[.slice A0_0 x0.Shape.length c0_0, .slice A0_1 x0.Data.length c0_1], .agg #[.slice A1_0 x1.Shape.length c1_0, .slice A1_1 x1.Data.length c1_1]]) (d := 110) hf1694 (by kernel_rfl) (by kernel_rfl) callable19 (ref1_SameTensor.calls _ _ x0 A0_0 x0.Shape.length c0_0 rfl A0_1 x0.Data.length c0_1 rfl x1 A1_0 x1.Shape.length c1_0 rfl A1_1 x1.Data.length c1_1 rfl (hm1696.give [5, 6, 7, 8] [.sl (Kd.int .i64) A0_0 c0_0 x0.Shape, .sl Kd.float A0_1 c0_1 x0.Data, .sl (Kd.int .i64) A1_0 c1_0 x1.Shape, .sl Kd.float A1_1 c1_1 x1.Data] rfl rfl) r1594 hr1594) ?_)
                            rintro _ w1697 a1698 ⟨rfl, hk1700⟩ hf1699
                            refine ⟨.inr (Gr.still hk1700.cum.none), ?_⟩
                            have hm1701 := hm1696.still hk1700.cum.none
                            refine quiet0 [11, 12, 13, 14, 16] [.bool true, .agg #[.slice A0_0 x0.Shape.length c0_0, .slice A0_1 x0.Data.length c0_1], .agg #[.slice A0_0 x0.Shape.length c0_0, .slice A0_1 x0.Data.length c0_1]] [3, 113, 114, 116] #[true, true, true, true, true, true, true, true, true, true, true, true, true, true, true, false, true, false, false, false, false, false, false, false, false, false, false, false] [(3, .pointer (some ⟨b21, 0, none⟩)), (113, .bool true), (114, .agg #[.slice A0_0 x0.Shape.length c0_0, .slice A0_1 x0.Data.length c0_1]), (116, .agg #[.slice A0_0 x0.Shape.length c0_0, .slice A0_1 x0.Data.length c0_1])] [.is ((r1593 == r1594) = true), .cell ⟨b21, 0, none⟩ (.slice A0_0 x0.Shape.length c0_0), .cell ⟨b21, 1, none⟩ (.slice A0_1 x0.Data.length c0_1), .cell ⟨b21, 0, none⟩ (.slice A0_0 x0.Shape.length c0_0), .cell ⟨b21, 1, none⟩ (.slice A0_1 x0.Data.length c0_1)] 12 rfl (by kernel_rfl) (fun _ _ _ _ _ h => nomatch h.1) hf1699 (by kernel_rfl) ⟨c1595, (hm1701.cell 4 rfl rfl), (hm1701.cell 4 rfl rfl), (hm1701.cell 4 rfl rfl), (hm1701.cell 4 rfl rfl), trivial⟩ fun a1702 hf1703 => ?_
                            refine all1 15 (by kernel_rfl) ?_
                            refine opOf hf1703 rfl (by kernel_rfl) (aCall (fid := 40) (args := [.agg #[.slice A0_0 x0.Shape.length c0_0, .slice A0_1 x0.Data.length c0_1]]) (d := 115) hf1703 (by kernel_rfl) (by kernel_rfl) callable40 (tensor_Finite.calls _ _ x0 A0_0 x0.Shape.length c0_0 rfl A0_1 x0.Data.length c0_1 rfl (hm1701.give [5, 6] [.sl (Kd.int .i64) A0_0 c0_0 x0.Shape, .sl Kd.float A0_1 c0_1 x0.Data] rfl rfl) r1596 hr1596) ?_)
                            rintro _ w1704 a1705 ⟨rfl, hk1707⟩ hf1706
                            refine ⟨.inr (Gr.still hk1707.cum.none), ?_⟩
                            have hm1708 := hm1701.still hk1707.cum.none
                            refine all1 17 (by kernel_rfl) ?_
                            refine opOf hf1706 rfl (by kernel_rfl) (aCall (fid := 41) (args := [.agg #[.slice A0_0 x0.Shape.length c0_0, .slice A0_1 x0.Data.length c0_1]]) (d := 117) hf1706 (by kernel_rfl) (by kernel_rfl) callable41 (ref1_Finite.calls _ _ x0 A0_0 x0.Shape.length c0_0 rfl A0_1 x0.Data.length c0_1 rfl (hm1708.give [5, 6] [.sl (Kd.int .i64) A0_0 c0_0 x0.Shape, .sl Kd.float A0_1 c0_1 x0.Data] rfl rfl) r1597 hr1597) ?_)
                            rintro _ w1709 a1710 ⟨rfl, hk1712⟩ hf1711
                            refine ⟨.inr (Gr.still hk1712.cum.none), ?_⟩
                            have hm1713 := hm1708.still hk1712.cum.none
                            refine quiet0 [18, 19, 20, 21] [.bool true, .agg #[.slice A0_0 x0.Shape.length c0_0, .slice A0_1 x0.Data.length c0_1]] [120, 121] #[true, true, true, true, true, true, true, true, true, true, true, true, true, true, true, true, true, true, true, true, true, true, false, false, false, false, false, false] [(120, .bool true), (121, .agg #[.slice A0_0 x0.Shape.length c0_0, .slice A0_1 x0.Data.length c0_1])] [.is ((r1596 == r1597) = true), .cell ⟨b21, 0, none⟩ (.slice A0_0 x0.Shape.length c0_0), .cell ⟨b21, 1, none⟩ (.slice A0_1 x0.Data.length c0_1)] 6 rfl (by kernel_rfl) (fun _ _ _ _ _ h => nomatch h.1) hf1711 (by kernel_rfl) ⟨c1598, (hm1713.cell 4 rfl rfl), (hm1713.cell 4 rfl rfl), trivial⟩ fun a1714 hf1715 => ?_
                            refine all1 22 (by kernel_rfl) ?_
                            refine opOf hf1715 rfl (by kernel_rfl) (aCall (fid := 36) (args := [.agg #[.slice A0_0 x0.Shape.length c0_0, .slice A0_1 x0.Data.length c0_1], .nilFunc]) (d := 122) hf1715 (by kernel_rfl) (by kernel_rfl) callable36 (tensor_Map_nil.calls _ _ x0 A0_0 x0.Shape.length c0_0 rfl A0_1 x0.Data.length c0_1 rfl (hm1713.give [5, 6] [.sl (Kd.int .i64) A0_0 c0_0 x0.Shape, .sl Kd.float A0_1 c0_1 x0.Data] rfl rfl) r1599 hr1599) ?_)
                            rintro _ w1720 a1721 ⟨A1716, c1717, A1718, c1719, rfl, hk1723⟩ hf1722
                            refine ⟨.inr (Gr.still hk1723.cum.none), ?_⟩
                            have hm1724 := hm1713.back hk1723
                            refine quiet0 [23, 24, 25, 26, 27] [.bool true] [6] #[true, true, true, true, true, true, true, true, true, true, true, true, true, true, true, true, true, true, true, true, true, true, true, true, true, true, true, true] [(6, .bool true)] [.is ((((r1599.Data.length : Int) : Int) == 0) = true)] 0 rfl (by kernel_rfl) (fun _ _ _ _ _ h => nomatch h.1) hf1722 (by kernel_rfl) ⟨(eqT c1600), trivial⟩ fun a1725 hf1726 => ?_
                            refine allDone (by kernel_rfl) ⟨rfl, hf1726.sel (l := [6]) (by kernel_rfl), hm1724.sel [] _ rfl (by kernel_rfl)⟩
                          rintro a1727 w1728 ⟨hf1729, hm1730⟩
                          refine thenN ?_
                          refine wp_ret ?_
                          have hm1731 : Mem [] M w0 [] w1728 := hm1730.sel [] _ rfl (by kernel_rfl)
                          obtain rfl := Option.some.inj H0
                          refine ret [] [.bool true] [] hf1729 (by kernel_rfl) trivial ?_
                          exact ⟨_, rfl, rfl, hm1731⟩
                        · refine midReg (fun (a : Act) (w : World) => Fr 127 a [(6, .bool false)] ∧ Mem [] M w0 [] w) ?_ ?_
                          · refine anyG [] (by kernel_rfl) fun w1768 hg1769 => ?_
                            have hm1770 := hm1590.still hg1769
                            refine quiet0 [0, 2] [.agg #[.slice A0_0 x0.Shape.length c0_0, .slice A0_1 x0.Data.length c0_1]] [3, 4, 100, 102] #[true, false, true, false, false, false, false, false, false, false, false, false, false, false, false, false, false, false, false, false, false, false, false, false, false, false, false, false] [(3, .pointer (some ⟨b21, 0, none⟩)), (4, .pointer (some ⟨b28, 0, none⟩)), (100, .agg #[.slice A0_0 x0.Shape.length c0_0, .slice A0_1 x0.Data.length c0_1]), (102, .bool false)] [.cell ⟨b21, 0, none⟩ (.slice A0_0 x0.Shape.length c0_0), .cell ⟨b21, 1, none⟩ (.slice A0_1 x0.Data.length c0_1)] 26 rfl (by kernel_rfl) (fun _ _ _ _ _ h => nomatch h.1) hf1589 (by kernel_rfl) ⟨(hm1770.cell 4 rfl rfl), (hm1770.cell 4 rfl rfl), trivial⟩ fun a1815 hf1816 => ?_
                            refine all1 1 (by kernel_rfl) ?_
                            refine opOf hf1816 rfl (by kernel_rfl) (aCall (fid := 38) (args := [.agg #[.slice A0_0 x0.Shape.length c0_0, .slice A0_1 x0.Data.length c0_1]]) (d := 101) hf1816 (by kernel_rfl) (by kernel_rfl) callable38 (tensor_May.calls _ _ x0 A0_0 x0.Shape.length c0_0 rfl A0_1 x0.Data.length c0_1 rfl (hm1770.give [5, 6] [.sl (Kd.int .i64) A0_0 c0_0 x0.Shape, .sl Kd.float A0_1 c0_1 x0.Data] rfl rfl) r1591 hr1591) ?_)
                            rintro _ w1817 a1818 ⟨rfl, hk1820⟩ hf1819
                            refine ⟨.inr (Gr.still hk1820.cum.none), ?_⟩
                            have hm1821 := hm1770.still hk1820.cum.none
                            refine quiet0 [3, 4, 5, 6, 8, 9] [.bool true, .agg #[.slice A0_0 x0.Shape.length c0_0, .slice A0_1 x0.Data.length c0_1], .agg #[.slice A1_0 x1.Shape.length c1_0, .slice A1_1 x1.Data.length c1_1], .agg #[.slice A0_0 x0.Shape.length c0_0, .slice A0_1 x0.Data.length c0_1], .agg #[.slice A1_0 x1.Shape.length c1_0, .slice A1_1 x1.Data.length c1_1]] [3, 104, 105, 106, 108, 109] #[true, true, true, true, true, true, true, false, true, true, false, false, false, false, false, false, false, false, false, false, false, false, false, false, false, false, false, false] [(3, .pointer (some ⟨b21, 0, none⟩)), (104, .bool true), (105, .agg #[.slice A0_0 x0.Shape.length c0_0, .slice A0_1 x0.Data.length c0_1]), (106, .agg #[.slice A1_0 x1.Shape.length c1_0, .slice A1_1 x1.Data.length c1_1]), (108, .agg #[.slice A0_0 x0.Shape.length c0_0, .slice A0_1 x0.Data.length c0_1]), (109, .agg #[.slice A1_0 x1.Shape.length c1_0, .slice A1_1 x1.Data.length c1_1])] [.is ((r1591 == false) = true), .cell ⟨b21, 0, none⟩ (.slice A0_0 x0.Shape.length c0_0), .cell ⟨b21, 1, none⟩ (.slice A0_1 x0.Data.length c0_1), .cell ⟨b28, 0, none⟩ (.slice A1_0 x1.Shape.length c1_0), .cell ⟨b28, 1, none⟩ (.slice A1_1 x1.Data.length c1_1), .cell ⟨b21, 0, none⟩ (.slice A0_0 x0.Shape.length c0_0), .cell ⟨b21, 1, none⟩ (.slice A0_1 x0.Data.length c0_1), .cell ⟨b28, 0, none⟩ (.slice A1_0 x1.Shape.length c1_0), .cell ⟨b28, 1, none⟩ (.slice A1_1 x1.Data.length c1_1)] 19 rfl (by kernel_rfl) (fun _ _ _ _ _ h => nomatch h.1) hf1819 (by kernel_rfl) ⟨c1592, (hm1821.cell 4 rfl rfl), (hm1821.cell 4 rfl rfl), (hm1821.cell 3 rfl rfl), (hm1821.cell 3 rfl rfl), (hm1821.cell 4 rfl rfl), (hm1821.cell 4 rfl rfl), (hm1821.cell 3 rfl rfl), (hm1821.cell 3 rfl rfl), trivial⟩ fun a1822 hf1823 => ?_
                            refine all1 7 (by kernel_rfl) ?_
                            refine opOf hf1823 rfl (by kernel_rfl) (aCall (fid := 39) (args := [.agg #[.slice A0_0 x0.Shape.length c0_0, .slice A0_1 x0.Data.length c0_1], .agg #[.slice A1_0 x1.Shape.length c1_0, .slice A1_1 x1.Data.length c1_1]]) (d := 107) hf1823 (by kernel_rfl) (by kernel_rfl) callable39 (tensor_Same.calls _ _ x0 A0_0 x0.Shape.length c0_0 rfl A0_1 x0.Data.length c0_1 rfl x1 A1_0 x1.Shape.length c1_0 rfl A1_1 x1.Data.length c1_1 rfl (hm1821.give [5, 6, 7, 8] [.sl (Kd.int .i64) A0_0 c0_0 x0.Shape, .sl Kd.float A0_1 c0_1 x0.Data, .sl (Kd.int .i64) A1_0 c1_0 x1.Shape, .sl Kd.float A1_1 c1_1 x1.Data] rfl rfl) r1593 hr1593) ?_)
                            rintro _ w1824 a1825 ⟨rfl, hk1827⟩ hf1826
                            refine ⟨.inr (Gr.still hk1827.cum.none), ?_⟩
                            have hm1828 := hm1821.still hk1827.cum.none
                            refine all1 10 (by kernel_rfl) ?_
                            refine opOf hf1826 rfl (by kernel_rfl) (aCall (fid := 19) (args := [.agg #[.slice A0_0 x0.Shape.length c0_0, .slice A0_1 x0.Data.length c0_1], .agg #[.slice A1_0 x1.Shape.length c1_0, .slice A1_1 x1.Data.length c1_1]]) (d := 110) hf1826 (by kernel_rfl) (by kernel_rfl) callable19 (ref1_SameTensor.calls _ _ x0 A0_0 x0.Shape.length c0_0 rfl A0_1 x0.Data.length c0_1 rfl x1 A1_0 x1.Shape.length c1_0 rfl A1_1 x1.Data.length c1_1 rfl (hm1828.give [5, 6, 7, 8] [.sl (Kd.int .i64) A0_0 c0_0 x0.Shape, .sl Kd.float A0_1 c0_1 x0.Data, .sl (Kd.int .i64) A1_0 c1_0 x1.Shape, .sl Kd.float A1_1 c1_1 x1.Data] rfl rfl) r1594 hr1594) ?_)
                            rintro _ w1829 a1830 ⟨rfl, hk1832⟩ hf1831
                            refine ⟨.inr (Gr.still hk1832.cum.none), ?_⟩
                            have hm1833 := hm1828.still hk1832.cum.none
                            refine quiet0 [11, 12, 13, 14, 16] [.bool true, .agg #[.slice A0_0 x0.Shape.length c0_0, .slice A0_1 x0.Data.length c0_1], .agg #[.slice A0_0 x0.Shape.length c0_0, .slice A0_1 x0.Data.length c0_1]] [3, 113, 114, 116] #[true, true, true, true, true, true, true, true, true, true, true, true, true, true, true, false, true, false, false, false, false, false, false, false, false, false, false, false] [(3, .pointer (some ⟨b21, 0, none⟩)), (113, .bool true), (114, .agg #[.slice A0_0 x0.Shape.length c0_0, .slice A0_1 x0.Data.length c0_1]), (116, .agg #[.slice A0_0 x0.Shape.length c0_0, .slice A0_1 x0.Data.length c0_1])] [.is ((r1593 == r1594) = true), .cell ⟨b21, 0, none⟩ (.slice A0_0 x0.Shape.length c0_0), .cell ⟨b21, 1, none⟩ (.slice A0_1 x0.Data.length c0_1), .cell ⟨b21, 0, none⟩ (.slice A0_0 x0.Shape.length c0_0), .cell ⟨b21, 1, none⟩ (.slice A0_1 x0.Data.length c0_1)] 12 rfl (by kernel_rfl) (fun _ _ _ _ _ h => nomatch h.1) hf1831 (by kernel_rfl) ⟨c1595, (hm1833.cell 4 rfl rfl), (hm1833.cell 4 rfl rfl), (hm1833.cell 4 rfl rfl), (hm1833.cell 4 rfl rfl), trivial⟩ fun a1834 hf1835 => ?_
                            refine all1 15 (by kernel_rfl) ?_
                            refine opOf hf1835 rfl (by kernel_rfl) (aCall (fid := 40) (args := [.agg #[.slice A0_0 x0.Shape.length c0_0, .slice A0_1 x0.Data.length c0_1]]) (d := 115) hf1835 (by kernel_rfl) (by kernel_rfl) callable40 (tensor_Finite.calls _ _ x0 A0_0 x0.Shape.length c0_0 rfl A0_1 x0.Data.length c0_1 rfl (hm1833.give [5, 6] [.sl (Kd.int .i64) A0_0 c0_0 x0.Shape, .sl Kd.float A0_1 c0_1 x0.Data] rfl rfl) r1596 hr1596) ?_)
                            rintro _ w1836 a1837 ⟨rfl, hk1839⟩ hf1838
                            refine ⟨.inr (Gr.still hk1839.cum.none), ?_⟩
                            have hm1840 := hm1833.still hk1839.cum.none
                            refine all1 17 (by kernel_rfl) ?_
                            refine opOf hf1838 rfl (by kernel_rfl) (aCall (fid := 41) (args := [.agg #[.slice A0_0 x0.Shape.length c0_0, .slice A0_1 x0.Data.length c0_1]]) (d := 117) hf1838 (by kernel_rfl) (by kernel_rfl) callable41 (ref1_Finite.calls _ _ x0 A0_0 x0.Shape.length c0_0 rfl A0_1 x0.Data.length c0_1 rfl (hm1840.give [5, 6] [.sl (Kd.int .i64) A0_0 c0_0 x0.Shape, .sl Kd.float A0_1 c0_1 x0.Data] rfl rfl) r1597 hr1597) ?_)
                            rintro _ w1841 a1842 ⟨rfl, hk1844⟩ hf1843
                            refine ⟨.inr (Gr.still hk1844.cum.none), ?_⟩
                            have hm1845 := hm1840.still hk1844.cum.none
                            refine quiet0 [18, 19, 20, 21] [.bool true, .agg #[.slice A0_0 x0.Shape.length c0_0, .slice A0_1 x0.Data.length c0_1]] [120, 121] #[true, true, true, true, true, true, true, true, true, true, true, true, true, true, true, true, true, true, true, true, true, true, false, false, false, false, false, false] [(120, .bool true), (121, .agg #[.slice A0_0 x0.Shape.length c0_0, .slice A0_1 x0.Data.length c0_1])] [.is ((r1596 == r1597) = true), .cell ⟨b21, 0, none⟩ (.slice A0_0 x0.Shape.length c0_0), .cell ⟨b21, 1, none⟩ (.slice A0_1 x0.Data.length c0_1)] 6 rfl (by kernel_rfl) (fun _ _ _ _ _ h => nomatch h.1) hf1843 (by kernel_rfl) ⟨c1598, (hm1845.cell 4 rfl rfl), (hm1845.cell 4 rfl rfl), trivial⟩ fun a1846 hf1847 => ?_
                            refine all1 22 (by kernel_rfl) ?_
                            refine opOf hf1847 rfl (by kernel_rfl) (aCall (fid := 36) (args := [.agg #[.slice A0_0 x0.Shape.length c0_0, .slice A0_1 x0.Data.length c0_1], .nilFunc]) (d := 122) hf1847 (by kernel_rfl) (by kernel_rfl) callable36 (tensor_Map_nil.calls _ _ x0 A0_0 x0.Shape.length c0_0 rfl A0_1 x0.Data.length c0_1 rfl (hm1845.give [5, 6] [.sl (Kd.int .i64) A0_0 c0_0 x0.Shape, .sl Kd.float A0_1 c0_1 x0.Data] rfl rfl) r1599 hr1599) ?_)
                            rintro _ w1852 a1853 ⟨A1848, c1849, A1850, c1851, rfl, hk1855⟩ hf1854
                            refine ⟨.inr (Gr.still hk1855.cum.none), ?_⟩
                            have hm1856 := hm1845.back hk1855
                            refine quiet0 [23, 24, 25, 26, 27] [.bool false] [6] #[true, true, true, true, true, true, true, true, true, true, true, true, true, true, true, true, true, true, true, true, true, true, true, true, true, true, true, true] [(6, .bool false)] [.is ((((r1599.Data.length : Int) : Int) == 0) = false)] 0 rfl (by kernel_rfl) (fun _ _ _ _ _ h => nomatch h.1) hf1854 (by kernel_rfl) ⟨(eqF c1600), trivial⟩ fun a1857 hf1858 => ?_
                            refine allDone (by kernel_rfl) ⟨rfl, hf1858.sel (l := [6]) (by kernel_rfl), hm1856.sel [] _ rfl (by kernel_rfl)⟩
                          rintro a1859 w1860 ⟨hf1861, hm1862⟩
                          refine thenN ?_
                          refine wp_ret ?_
                          have hm1863 : Mem [] M w0 [] w1860 := hm1862.sel [] _ rfl (by kernel_rfl)
                          obtain rfl := Option.some.inj H0
                          refine ret [] [.bool false] [] hf1861 (by kernel_rfl) trivial ?_
                          exact ⟨_, rfl, rfl, hm1863⟩
                      · refine midReg (fun (a : Act) (w : World) => Fr 127 a [(6, .bool false)] ∧ Mem [] M w0 [] w) ?_ ?_
                        · refine anyG [] (by kernel_rfl) fun w1891 hg1892 => ?_
                          have hm1893 := hm1590.still hg1892
                          refine quiet0 [0, 2] [.agg #[.slice A0_0 x0.Shape.length c0_0, .slice A0_1 x0.Data.length c0_1]] [3, 4, 100, 102] #[true, false, true, false, false, false, false, false, false, false, false, false, false, false, false, false, false, false, false, false, false, false, false, false, false, false, false, false] [(3, .pointer (some ⟨b21, 0, none⟩)), (4, .pointer (some ⟨b28, 0, none⟩)), (100, .agg #[.slice A0_0 x0.Shape.length c0_0, .slice A0_1 x0.Data.length c0_1]), (102, .bool false)] [.cell ⟨b21, 0, none⟩ (.slice A0_0 x0.Shape.length c0_0), .cell ⟨b21, 1, none⟩ (.slice A0_1 x0.Data.length c0_1)] 26 rfl (by kernel_rfl) (fun _ _ _ _ _ h => nomatch h.1) hf1589 (by kernel_rfl) ⟨(hm1893.cell 4 rfl rfl), (hm1893.cell 4 rfl rfl), trivial⟩ fun a1927 hf1928 => ?_
                          refine all1 1 (by kernel_rfl) ?_
                          refine opOf hf1928 rfl (by kernel_rfl) (aCall (fid := 38) (args := [.agg #[.slice A0_0 x0.Shape.length c0_0, .slice A0_1 x0.Data.length c0_1]]) (d := 101) hf1928 (by kernel_rfl) (by kernel_rfl) callable38 (tensor_May.calls _ _ x0 A0_0 x0.Shape.length c0_0 rfl A0_1 x0.Data.length c0_1 rfl (hm1893.give [5, 6] [.sl (Kd.int .i64) A0_0 c0_0 x0.Shape, .sl Kd.float A0_1 c0_1 x0.Data] rfl rfl) r1591 hr1591) ?_)
                          rintro _ w1929 a1930 ⟨rfl, hk1932⟩ hf1931
                          refine ⟨.inr (Gr.still hk1932.cum.none), ?_⟩
                          have hm1933 := hm1893.still hk1932.cum.none
                          refine quiet0 [3, 4, 5, 6, 8, 9] [.bool true, .agg #[.slice A0_0 x0.Shape.length c0_0, .slice A0_1 x0.Data.length c0_1], .agg #[.slice A1_0 x1.Shape.length c1_0, .slice A1_1 x1.Data.length c1_1], .agg #[.slice A0_0 x0.Shape.length c0_0, .slice A0_1 x0.Data.length c0_1], .agg #[.slice A1_0 x1.Shape.length c1_0, .slice A1_1 x1.Data.length c1_1]] [3, 104, 105, 106, 108, 109] #[true, true, true, true, true, true, true, false, true, true, false, false, false, false, false, false, false, false, false, false, false, false, false, false, false, false, false, false] [(3, .pointer (some ⟨b21, 0, none⟩)), (104, .bool true), (105, .agg #[.slice A0_0 x0.Shape.length c0_0, .slice A0_1 x0.Data.length c0_1]), (106, .agg #[.slice A1_0 x1.Shape.length c1_0, .slice A1_1 x1.Data.length c1_1]), (108, .agg #[.slice A0_0 x0.Shape.length c0_0, .slice A0_1 x0.Data.length c0_1]), (109, .agg #[.slice A1_0 x1.Shape.length c1_0, .slice A1_1 x1.Data.length c1_1])] [.is ((r1591 == false) = true), .cell ⟨b21, 0, none⟩ (.slice A0_0 x0.Shape.length c0_0), .cell ⟨b21, 1, none⟩ (.slice A0_1 x0.Data.length c0_1), .cell ⟨b28, 0, none⟩ (.slice A1_0 x1.Shape.length c1_0), .cell ⟨b28, 1, none⟩ (.slice A1_1 x1.Data.length c1_1), .cell ⟨b21, 0, none⟩ (.slice A0_0 x0.Shape.length c0_0), .cell ⟨b21, 1, none⟩ (.slice A0_1 x0.Data.length c0_1), .cell ⟨b28, 0, none⟩ (.slice A1_0 x1.Shape.length c1_0), .cell ⟨b28, 1, none⟩ (.slice A1_1 x1.Data.length c1_1)] 19 rfl (by kernel_rfl) (fun _ _ _ _ _ h => nomatch h.1) hf1931 (by kernel_rfl) ⟨c1592, (hm1933.cell 4 rfl rfl), (hm1933.cell 4 rfl rfl), (hm1933.cell 3 rfl rfl), (hm1933.cell 3 rfl rfl), (hm1933.cell 4 rfl rfl), (hm1933.cell 4 rfl rfl), (hm1933.cell 3 rfl rfl), (hm1933.cell 3 rfl rfl), trivial⟩ fun a1934 hf1935 => ?_
                          refine all1 7 (by kernel_rfl) ?_
                          refine opOf hf1935 rfl (by kernel_rfl) (aCall (fid := 39) (args := [.agg #[.slice A0_0 x0.Shape.length c0_0, .slice A0_1 x0.Data.length c0_1], .agg #[.slice A1_0 x1.Shape.length c1_0, .slice A1_1 x1.Data.length c1_1]]) (d := 107) hf1935 (by kernel_rfl) (by kernel_rfl) callable39 (tensor_Same.calls _ _ x0 A0_0 x0.Shape.length c0_0 rfl A0_1 x0.Data.length c0_1 rfl x1 A1_0 x1.Shape.length c1_0 rfl A1_1 x1.Data.length c1_1 rfl (hm1933.give [5, 6, 7, 8] [.sl (Kd.int .i64) A0_0 c0_0 x0.Shape, .sl Kd.float A0_1 c0_1 x0.Data, .sl (Kd.int .i64) A1_0 c1_0 x1.Shape, .sl Kd.float A1_1 c1_1 x1.Data] rfl rfl) r1593 hr1593) ?_)
                          rintro _ w1936 a1937 ⟨rfl, hk1939⟩ hf1938
                          refine ⟨.inr (Gr.still hk1939.cum.none), ?_⟩
                          have hm1940 := hm1933.still hk1939.cum.none
                          refine all1 10 (by kernel_rfl) ?_
                          refine opOf hf1938 rfl (by kernel_rfl) (aCall (fid := 19) (args := [.agg #[.slice A0_0 x0.Shape.length c0_0, .slice A0_1 x0.Data.length c0_1], .agg #[.slice A1_0 x1.Shape.length c1_0, .slice A1_1 x1.Data.length c1_1]]) (d := 110) hf1938 (by kernel_rfl) (by kernel_rfl) callable19 (ref1_SameTensor.calls _ _ x0 A0_0 x0.Shape.length c0_0 rfl A0_1 x0.Data.length c0_1 rfl x1 A1_0 x1.Shape.length c1_0 rfl A1_1 x1.Data.length c1_1 rfl (hm1940.give [5, 6, 7, 8] [.sl (Kd.int .i64) A0_0 c0_0 x0.Shape, .sl Kd.float A0_1 c0_1 x0.Data, .sl (Kd.int .i64) A1_0 c1_0 x1.Shape, .sl Kd.float A1_1 c1_1 x1.Data] rfl rfl) r1594 hr1594) ?_)
                          rintro _ w1941 a1942 ⟨rfl, hk1944⟩ hf1943
                          refine ⟨.inr (Gr.still hk1944.cum.none), ?_⟩
                          have hm1945 := hm1940.still hk1944.cum.none
                          refine quiet0 [11, 12, 13, 14, 16] [.bool true, .agg #[.slice A0_0 x0.Shape.length c0_0, .slice A0_1 x0.Data.length c0_1], .agg #[.slice A0_0 x0.Shape.length c0_0, .slice A0_1 x0.Data.length c0_1]] [3, 113, 114, 116] #[true, true, true, true, true, true, true, true, true, true, true, true, true, true, true, false, true, false, false, false, false, false, false, false, false, false, false, false] [(3, .pointer (some ⟨b21, 0, none⟩)), (113, .bool true), (114, .agg #[.slice A0_0 x0.Shape.length c0_0, .slice A0_1 x0.Data.length c0_1]), (116, .agg #[.slice A0_0 x0.Shape.length c0_0, .slice A0_1 x0.Data.length c0_1])] [.is ((r1593 == r1594) = true), .cell ⟨b21, 0, none⟩ (.slice A0_0 x0.Shape.length c0_0), .cell ⟨b21, 1, none⟩ (.slice A0_1 x0.Data.length c0_1), .cell ⟨b21, 0, none⟩ (.slice A0_0 x0.Shape.length c0_0), .cell ⟨b21, 1, none⟩ (.slice A0_1 x0.Data.length c0_1)] 12 rfl (by kernel_rfl) (fun _ _ _ _ _ h => nomatch h.1) hf1943 (by kernel_rfl) ⟨c1595, (hm1945.cell 4 rfl rfl), (hm1945.cell 4 rfl rfl), (hm1945.cell 4 rfl rfl), (hm1945.cell 4 rfl rfl), trivial⟩ fun a1946 hf1947 => ?_
                          refine all1 15 (by kernel_rfl) ?_
                          refine opOf hf1947 rfl (by kernel_rfl) (aCall (fid := 40) (args := [.agg #[.slice A0_0 x0.Shape.length c0_0, .slice A0_1 x0.Data.length c0_1]]) (d := 115) hf1947 (by kernel_rfl) (by kernel_rfl) callable40 (tensor_Finite.calls _ _ x0 A0_0 x0.Shape.length c0_0 rfl A0_1 x0.Data.length c0_1 rfl (hm1945.give [5, 6] [.sl (Kd.int .i64) A0_0 c0_0 x0.Shape, .sl Kd.float A0_1 c0_1 x0.Data] rfl rfl) r1596 hr1596) ?_)
                          rintro _ w1948 a1949 ⟨rfl, hk1951⟩ hf1950
                          refine ⟨.inr (Gr.still hk1951.cum.none), ?_⟩
                          have hm1952 := hm1945.still hk1951.cum.none
                          refine all1 17 (by kernel_rfl) ?_
                          refine opOf hf1950 rfl (by kernel_rfl) (aCall (fid := 41) (args := [.agg #[.slice A0_0 x0.Shape.length c0_0, .slice A0_1 x0.Data.length c0_1]]) (d := 117) hf1950 (by kernel_rfl) (by kernel_rfl) callable41 (ref1_Finite.calls _ _ x0 A0_0 x0.Shape.length c0_0 rfl A0_1 x0.Data.length c0_1 rfl (hm1952.give [5, 6] [.sl (Kd.int .i64) A0_0 c0_0 x0.Shape, .sl Kd.float A0_1 c0_1 x0.Data] rfl rfl) r1597 hr1597) ?_)
                          rintro _ w1953 a1954 ⟨rfl, hk1956⟩ hf1955
                          refine ⟨.inr (Gr.still hk1956.cum.none), ?_⟩
                          have hm1957 := hm1952.still hk1956.cum.none
                          refine quiet0 [18, 19, 20, 21, 22, 23, 24, 25, 26, 27] [.bool false] [6] #[true, true, true, true, true, true, true, true, true, true, true, true, true, true, true, true, true, true, true, true, true, true, true, true, true, true, true, true] [(6, .bool false)] [.is ((r1596 == r1597) = false)] 0 rfl (by kernel_rfl) (fun _ _ _ _ _ h => nomatch h.1) hf1955 (by kernel_rfl) ⟨c1598, trivial⟩ fun a1958 hf1959 => ?_
                          refine allDone (by kernel_rfl) ⟨rfl, hf1959.sel (l := [6]) (by kernel_rfl), hm1957.sel [] _ rfl (by kernel_rfl)⟩
                        rintro a1960 w1961 ⟨hf1962, hm1963⟩
                        refine thenN ?_
                        refine wp_ret ?_
                        have hm1964 : Mem [] M w0 [] w1961 := hm1963.sel [] _ rfl (by kernel_rfl)
                        obtain rfl := Option.some.inj H0
                        refine ret [] [.bool false] [] hf1962 (by kernel_rfl) trivial ?_
                        exact ⟨_, rfl, rfl, hm1964⟩
                    · refine midReg (fun (a : Act) (w : World) => Fr 127 a [(6, .bool false)] ∧ Mem [] M w0 [] w) ?_ ?_
                      · refine anyG [] (by kernel_rfl) fun w1982 hg1983 => ?_
                        have hm1984 := hm1590.still hg1983
                        refine quiet0 [0, 2] [.agg #[.slice A0_0 x0.Shape.length c0_0, .slice A0_1 x0.Data.length c0_1]] [3, 4, 100, 102] #[true, false, true, false, false, false, false, false, false, false, false, false, false, false, false, false, false, false, false, false, false, false, false, false, false, false, false, false] [(3, .pointer (some ⟨b21, 0, none⟩)), (4, .pointer (some ⟨b28, 0, none⟩)), (100, .agg #[.slice A0_0 x0.Shape.length c0_0, .slice A0_1 x0.Data.length c0_1]), (102, .bool false)] [.cell ⟨b21, 0, none⟩ (.slice A0_0 x0.Shape.length c0_0), .cell ⟨b21, 1, none⟩ (.slice A0_1 x0.Data.length c0_1)] 26 rfl (by kernel_rfl) (fun _ _ _ _ _ h => nomatch h.1) hf1589 (by kernel_rfl) ⟨(hm1984.cell 4 rfl rfl), (hm1984.cell 4 rfl rfl), trivial⟩ fun a2006 hf2007 => ?_
                        refine all1 1 (by kernel_rfl) ?_
                        refine opOf hf2007 rfl (by kernel_rfl) (aCall (fid := 38) (args := [.agg #[.slice A0_0 x0.Shape.length c0_0, .slice A0_1 x0.Data.length c0_1]]) (d := 101) hf2007 (by kernel_rfl) (by kernel_rfl) callable38 (tensor_May.calls _ _ x0 A0_0 x0.Shape.length c0_0 rfl A0_1 x0.Data.length c0_1 rfl (hm1984.give [5, 6] [.sl (Kd.int .i64) A0_0 c0_0 x0.Shape, .sl Kd.float A0_1 c0_1 x0.Data] rfl rfl) r1591 hr1591) ?_)
                        rintro _ w2008 a2009 ⟨rfl, hk2011⟩ hf2010
                        refine ⟨.inr (Gr.still hk2011.cum.none), ?_⟩
                        have hm2012 := hm1984.still hk2011.cum.none
                        refine quiet0 [3, 4, 5, 6, 8, 9] [.bool true, .agg #[.slice A0_0 x0.Shape.length c0_0, .slice A0_1 x0.Data.length c0_1], .agg #[.slice A1_0 x1.Shape.length c1_0, .slice A1_1 x1.Data.length c1_1], .agg #[.slice A0_0 x0.Shape.length c0_0, .slice A0_1 x0.Data.length c0_1], .agg #[.slice A1_0 x1.Shape.length c1_0, .slice A1_1 x1.Data.length c1_1]] [3, 104, 105, 106, 108, 109] #[true, true, true, true, true, true, true, false, true, true, false, false, false, false, false, false, false, false, false, false, false, false, false, false, false, false, false, false] [(3, .pointer (some ⟨b21, 0, none⟩)), (104, .bool true), (105, .agg #[.slice A0_0 x0.Shape.length c0_0, .slice A0_1 x0.Data.length c0_1]), (106, .agg #[.slice A1_0 x1.Shape.length c1_0, .slice A1_1 x1.Data.length c1_1]), (108, .agg #[.slice A0_0 x0.Shape.length c0_0, .slice A0_1 x0.Data.length c0_1]), (109, .agg #[.slice A1_0 x1.Shape.length c1_0, .slice A1_1 x1.Data.length c1_1])] [.is ((r1591 == false) = true), .cell ⟨b21, 0, none⟩ (.slice A0_0 x0.Shape.length c0_0), .cell ⟨b21, 1, none⟩ (.slice A0_1 x0.Data.length c0_1), .cell ⟨b28, 0, none⟩ (.slice A1_0 x1.Shape.length c1_0), .cell ⟨b28, 1, none⟩ (.slice A1_1 x1.Data.length c1_1), .cell ⟨b21, 0, none⟩ (.slice A0_0 x0.Shape.length c0_0), .cell ⟨b21, 1, none⟩ (.slice A0_1 x0.Data.length c0_1), .cell ⟨b28, 0, none⟩ (.slice A1_0 x1.Shape.length c1_0), .cell ⟨b28, 1, none⟩ (.slice A1_1 x1.Data.length c1_1)] 19 rfl (by kernel_rfl) (fun _ _ _ _ _ h => nomatch h.1) hf2010 (by kernel_rfl) ⟨c1592, (hm2012.cell 4 rfl rfl), (hm2012.cell 4 rfl rfl), (hm2012.cell 3 rfl rfl), (hm2012.cell 3 rfl rfl), (hm2012.cell 4 rfl rfl), (hm2012.cell 4 rfl rfl), (hm2012.cell 3 rfl rfl), (hm2012.cell 3 rfl rfl), trivial⟩ fun a2013 hf2014 => ?_
                        refine all1 7 (by kernel_rfl) ?_
                        refine opOf hf2014 rfl (by kernel_rfl) (aCall (fid := 39) (args := [.agg #[.slice A0_0 x0.Shape.length c0_0, .slice A0_1 x0.Data.length c0_1], .agg #[.slice A1_0 x1.Shape.length c1_0, .slice A1_1 x1.Data.length c1_1]]) (d := 107) hf2014 (by kernel_rfl) (by kernel_rfl) callable39 (tensor_Same.calls _ _ x0 A0_0 x0.Shape.length c0_0 rfl A0_1 x0.Data.length c0_1 rfl x1 A1_0 x1.Shape.length c1_0 rfl A1_1 x1.Data.length c1_1 rfl (hm2012.give [5, 6, 7, 8] [.sl (Kd.int .i64) A0_0 c0_0 x0.Shape, .sl Kd.float A0_1 c0_1 x0.Data, .sl (Kd.int .i64) A1_0 c1_0 x1.Shape, .sl Kd.float A1_1 c1_1 x1.Data] rfl rfl) r1593 hr1593) ?_)
                        rintro _ w2015 a2016 ⟨rfl, hk2018⟩ hf2017
                        refine ⟨.inr (Gr.still hk2018.cum.none), ?_⟩
                        have hm2019 := hm2012.still hk2018.cum.none
                        refine all1 10 (by kernel_rfl) ?_
                        refine opOf hf2017 rfl (by kernel_rfl) (aCall (fid := 19) (args := [.agg #[.slice A0_0 x0.Shape.length c0_0, .slice A0_1 x0.Data.length c0_1], .agg #[.slice A1_0 x1.Shape.length c1_0, .slice A1_1 x1.Data.length c1_1]]) (d := 110) hf2017 (by kernel_rfl) (by kernel_rfl) callable19 (ref1_SameTensor.calls _ _ x0 A0_0 x0.Shape.length c0_0 rfl A0_1 x0.Data.length c0_1 rfl x1 A1_0 x1.Shape.length c1_0 rfl A1_1 x1.Data.length c1_1 rfl (hm2019.give [5, 6, 7, 8] [.sl (Kd.int .i64) A0_0 c0_0 x0.Shape, .sl Kd.float A0_1 c0_1 x0.Data, .sl (Kd.int .i64) A1_0 c1_0 x1.Shape, .sl Kd.float A1_1 c1_1 x1.Data] rfl rfl) r1594 hr1594) ?_)
                        rintro _ w2020 a2021 ⟨rfl, hk2023⟩ hf2022
                        refine ⟨.inr (Gr.still hk2023.cum.none), ?_⟩
                        have hm2024 := hm2019.still hk2023.cum.none
                        refine quiet0 [11, 12, 13, 14, 15, 16, 17, 18, 19, 20, 21, 22, 23, 24, 25, 26, 27] [.bool false] [6] #[true, true, true, true, true, true, true, true, true, true, true, true, true, true, true, true, true, true, true, true, true, true, true, true, true, true, true, true] [(6, .bool false)] [.is ((r1593 == r1594) = false)] 0 rfl (by kernel_rfl) (fun _ _ _ _ _ h => nomatch h.1) hf2022 (by kernel_rfl) ⟨c1595, trivial⟩ fun a2025 hf2026 => ?_
                        refine allDone (by kernel_rfl) ⟨rfl, hf2026.sel (l := [6]) (by kernel_rfl), hm2024.sel [] _ rfl (by kernel_rfl)⟩
                      rintro a2027 w2028 ⟨hf2029, hm2030⟩
                      refine thenN ?_
                      refine wp_ret ?_
                      have hm2031 : Mem [] M w0 [] w2028 := hm2030.sel [] _ rfl (by kernel_rfl)
                      obtain rfl := Option.some.inj H0
                      refine ret [] [.bool false] [] hf2029 (by kernel_rfl) trivial ?_
                      exact ⟨_, rfl, rfl, hm2031⟩
                  · refine midReg (fun (a : Act) (w : World) => Fr 127 a [(6, .bool false)] ∧ Mem [] M w0 [] w) ?_ ?_
                    · refine anyG [] (by kernel_rfl) fun w2039 hg2040 => ?_
                      have hm2041 := hm1590.still hg2040
                      refine quiet0 [0, 2] [.agg #[.slice A0_0 x0.Shape.length c0_0, .slice A0_1 x0.Data.length c0_1]] [3, 4, 100, 102] #[true, false, true, false, false, false, false, false, false, false, false, false, false, false, false, false, false, false, false, false, false, false, false, false, false, false, false, false] [(3, .pointer (some ⟨b21, 0, none⟩)), (4, .pointer (some ⟨b28, 0, none⟩)), (100, .agg #[.slice A0_0 x0.Shape.length c0_0, .slice A0_1 x0.Data.length c0_1]), (102, .bool false)] [.cell ⟨b21, 0, none⟩ (.slice A0_0 x0.Shape.length c0_0), .cell ⟨b21, 1, none⟩ (.slice A0_1 x0.Data.length c0_1)] 26 rfl (by kernel_rfl) (fun _ _ _ _ _ h => nomatch h.1) hf1589 (by kernel_rfl) ⟨(hm2041.cell 4 rfl rfl), (hm2041.cell 4 rfl rfl), trivial⟩ fun a2051 hf2052 => ?_
                      refine all1 1 (by kernel_rfl) ?_
                      refine opOf hf2052 rfl (by kernel_rfl) (aCall (fid := 38) (args := [.agg #[.slice A0_0 x0.Shape.length c0_0, .slice A0_1 x0.Data.length c0_1]]) (d := 101) hf2052 (by kernel_rfl) (by kernel_rfl) callable38 (tensor_May.calls _ _ x0 A0_0 x0.Shape.length c0_0 rfl A0_1 x0.Data.length c0_1 rfl (hm2041.give [5, 6] [.sl (Kd.int .i64) A0_0 c0_0 x0.Shape, .sl Kd.float A0_1 c0_1 x0.Data] rfl rfl) r1591 hr1591) ?_)
                      rintro _ w2053 a2054 ⟨rfl, hk2056⟩ hf2055
                      refine ⟨.inr (Gr.still hk2056.cum.none), ?_⟩
                      have hm2057 := hm2041.still hk2056.cum.none
                      refine quiet0 [3, 4, 5, 6, 7, 8, 9, 10, 11, 12, 13, 14, 15, 16, 17, 18, 19, 20, 21, 22, 23, 24, 25, 26, 27] [.bool false] [6] #[true, true, true, true, true, true, true, true, true, true, true, true, true, true, true, true, true, true, true, true, true, true, true, true, true, true, true, true] [(6, .bool false)] [.is ((r1591 == false) = false)] 0 rfl (by kernel_rfl) (fun _ _ _ _ _ h => nomatch h.1) hf2055 (by kernel_rfl) ⟨c1592, trivial⟩ fun a2058 hf2059 => ?_
                      refine allDone (by kernel_rfl) ⟨rfl, hf2059.sel (l := [6]) (by kernel_rfl), hm2057.sel [] _ rfl (by kernel_rfl)⟩
                    rintro a2060 w2061 ⟨hf2062, hm2063⟩
                    refine thenN ?_
                    refine wp_ret ?_
                    have hm2064 : Mem [] M w0 [] w2061 := hm2063.sel [] _ rfl (by kernel_rfl)
                    obtain rfl := Option.some.inj H0
                    refine ret [] [.bool false] [] hf2062 (by kernel_rfl) trivial ?_
                    exact ⟨_, rfl, rfl, hm2064⟩
      · refine inReg ?_
        refine go 1 [.agg #[.slice A0_0 x0.Shape.length c0_0, .slice A0_1 x0.Data.length c0_1]] [2, 3, 4, 15] [(2, .slice A2 x2.length c2), (3, .pointer (some ⟨b21, 0, none⟩)), (4, .pointer (some ⟨b28, 0, none⟩)), (15, .agg #[.slice A0_0 x0.Shape.length c0_0, .slice A0_1 x0.Data.length c0_1])] [.cell ⟨b21, 0, none⟩ (.slice A0_0 x0.Shape.length c0_0), .cell ⟨b21, 1, none⟩ (.slice A0_1 x0.Data.length c0_1)] hf45 (by kernel_rfl) ⟨(hm43.cell 1 rfl rfl), (hm43.cell 1 rfl rfl), trivial⟩ fun a2066 hf2067 => ?_
        refine listOf hf2067 rfl (by kernel_rfl) (aCall (fid := 31) (args := [.agg #[.slice A0_0 x0.Shape.length c0_0, .slice A0_1 x0.Data.length c0_1]]) (d := 16) hf2067 (by kernel_rfl) (by kernel_rfl) callable31 (law3_Small.calls _ _ x0 A0_0 x0.Shape.length c0_0 rfl A0_1 x0.Data.length c0_1 rfl (hm43.give [2, 3] [.sl (Kd.int .i64) A0_0 c0_0 x0.Shape, .sl Kd.float A0_1 c0_1 x0.Data] rfl rfl) r46 hr46) ?_)
        rintro _ w2068 a2069 ⟨rfl, hk2071⟩ hf2070
        have hm2072 := hm43.still hk2071.cum.none
        rw [c47] at hf2070
        refine go 3 [.agg #[.slice A1_0 x1.Shape.length c1_0, .slice A1_1 x1.Data.length c1_1]] [2, 3, 4, 18, 19] [(2, .slice A2 x2.length c2), (3, .pointer (some ⟨b21, 0, none⟩)), (4, .pointer (some ⟨b28, 0, none⟩)), (18, .bool false), (19, .agg #[.slice A1_0 x1.Shape.length c1_0, .slice A1_1 x1.Data.length c1_1])] [.cell ⟨b28, 0, none⟩ (.slice A1_0 x1.Shape.length c1_0), .cell ⟨b28, 1, none⟩ (.slice A1_1 x1.Data.length c1_1)] hf2070 (by kernel_rfl) ⟨(hm2072.cell 0 rfl rfl), (hm2072.cell 0 rfl rfl), trivial⟩ fun a2073 hf2074 => ?_
        refine listOf hf2074 rfl (by kernel_rfl) (aCall (fid := 31) (args := [.agg #[.slice A1_0 x1.Shape.length c1_0, .slice A1_1 x1.Data.length c1_1]]) (d := 20) hf2074 (by kernel_rfl) (by kernel_rfl) callable31 (law3_Small.calls _ _ x1 A1_0 x1.Shape.length c1_0 rfl A1_1 x1.Data.length c1_1 rfl (hm2072.give [4, 5] [.sl (Kd.int .i64) A1_0 c1_0 x1.Shape, .sl Kd.float A1_1 c1_1 x1.Data] rfl rfl) r48 hr48) ?_)
        rintro _ w2075 a2076 ⟨rfl, hk2078⟩ hf2077
        have hm2079 := hm2072.still hk2078.cum.none
        rw [c49] at hf2077
        refine go 7 [] [2, 3, 4, 27] [(2, .slice A2 x2.length c2), (3, .pointer (some ⟨b21, 0, none⟩)), (4, .pointer (some ⟨b28, 0, none⟩)), (27, .bool true)] [] hf2077 (by kernel_rfl) trivial fun a2080 hf2081 => ?_
        refine endL rfl ?_
        refine thenN ?_
        refine condT hf2081 (by kernel_rfl) ?_
        refine wp_seq ?_
        refine reg [] [6] [(6, .bool true)] [] hf2081 (by kernel_rfl) trivial fun a2082 hf2083 => ?_
        have hm2084 := hm2079.sel [] _ rfl (by kernel_rfl)
        refine thenN ?_
        refine wp_ret ?_
        refine thenR ?_
        have hm2085 : Mem [] M w0 [] w2075 := hm2084.sel [] _ rfl (by kernel_rfl)
        obtain rfl := Option.some.inj H0
        refine ret [] [.bool true] [] hf2083 (by kernel_rfl) trivial ?_
        exact ⟨_, rfl, rfl, hm2085⟩
    · refine inReg ?_
      refine go 1 [.agg #[.slice A0_0 x0.Shape.length c0_0, .slice A0_1 x0.Data.length c0_1]] [2, 3, 4, 15] [(2, .slice A2 x2.length c2), (3, .pointer (some ⟨b21, 0, none⟩)), (4, .pointer (some ⟨b28, 0, none⟩)), (15, .agg #[.slice A0_0 x0.Shape.length c0_0, .slice A0_1 x0.Data.length c0_1])] [.cell ⟨b21, 0, none⟩ (.slice A0_0 x0.Shape.length c0_0), .cell ⟨b21, 1, none⟩ (.slice A0_1 x0.Data.length c0_1)] hf45 (by kernel_rfl) ⟨(hm43.cell 1 rfl rfl), (hm43.cell 1 rfl rfl), trivial⟩ fun a2087 hf2088 => ?_
      refine listOf hf2088 rfl (by kernel_rfl) (aCall (fid := 31) (args := [.agg #[.slice A0_0 x0.Shape.length c0_0, .slice A0_1 x0.Data.length c0_1]]) (d := 16) hf2088 (by kernel_rfl) (by kernel_rfl) callable31 (law3_Small.calls _ _ x0 A0_0 x0.Shape.length c0_0 rfl A0_1 x0.Data.length c0_1 rfl (hm43.give [2, 3] [.sl (Kd.int .i64) A0_0 c0_0 x0.Shape, .sl Kd.float A0_1 c0_1 x0.Data] rfl rfl) r46 hr46) ?_)
      rintro _ w2089 a2090 ⟨rfl, hk2092⟩ hf2091
      have hm2093 := hm43.still hk2092.cum.none
      rw [c47] at hf2091
      refine go 11 [] [2, 3, 4, 27] [(2, .slice A2 x2.length c2), (3, .pointer (some ⟨b21, 0, none⟩)), (4, .pointer (some ⟨b28, 0, none⟩)), (27, .bool true)] [] hf2091 (by kernel_rfl) trivial fun a2094 hf2095 => ?_
      refine endL rfl ?_
      refine thenN ?_
      refine condT hf2095 (by kernel_rfl) ?_
      refine wp_seq ?_
      refine reg [] [6] [(6, .bool true)] [] hf2095 (by kernel_rfl) trivial fun a2096 hf2097 => ?_
      have hm2098 := hm2093.sel [] _ rfl (by kernel_rfl)
      refine thenN ?_
      refine wp_ret ?_
      refine thenR ?_
      have hm2099 : Mem [] M w0 [] w2089 := hm2098.sel [] _ rfl (by kernel_rfl)
      obtain rfl := Option.some.inj H0
      refine ret [] [.bool true] [] hf2097 (by kernel_rfl) trivial ?_
      exact ⟨_, rfl, rfl, hm2099⟩
  · refine inReg ?_
    refine listOf hf36 rfl (by kernel_rfl) (aCall (fid := 26) (args := []) (d := 13) hf36 (by kernel_rfl) (by kernel_rfl) callable26 (law3_awake.calls _ _  (hm34.give [] [] rfl rfl) r37 hr37) ?_)
    rintro _ w2101 a2102 ⟨rfl, hk2104⟩ hf2103
    have hm2105 := hm34.still hk2104.cum.none
    rw [c38] at hf2103
    refine go 1 [] [2, 3, 4, 14] [(2, .slice A2 x2.length c2), (3, .pointer (some ⟨b21, 0, none⟩)), (4, .pointer (some ⟨b28, 0, none⟩)), (14, .bool true)] [] hf2103 (by kernel_rfl) trivial fun a2106 hf2107 => ?_
    refine endL rfl ?_
    refine thenN ?_
    refine condT hf2107 (by kernel_rfl) ?_
    refine wp_seq ?_
    refine reg [] [6] [(6, .bool false)] [] hf2107 (by kernel_rfl) trivial fun a2108 hf2109 => ?_
    have hm2110 := hm2105.sel [] _ rfl (by kernel_rfl)
    refine thenN ?_
    refine wp_ret ?_
    refine thenR ?_
    have hm2111 : Mem [] M w0 [] w2101 := hm2110.sel [] _ rfl (by kernel_rfl)
    obtain rfl := Option.some.inj H0
    refine ret [] [.bool false] [] hf2109 (by kernel_rfl) trivial ?_
    exact ⟨_, rfl, rfl, hm2111⟩
end Go.Proofs.Ytkcgiolledmbnab
