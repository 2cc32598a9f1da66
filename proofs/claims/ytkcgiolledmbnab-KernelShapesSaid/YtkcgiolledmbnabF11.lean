/- Printed by gen.py. -/
import Derived.Test.YtkcgiolledmbnabF0
import Derived.Test.YtkcgiolledmbnabF10
import Derived.Test.YtkcgiolledmbnabF5
import Derived.Test.YtkcgiolledmbnabF6
import Derived.Test.YtkcgiolledmbnabF9
namespace Go.Proofs.Ytkcgiolledmbnab
open Go Go.RowKit
set_option linter.unusedSimpArgs false
set_option linter.unusedVariables false
set_option linter.unnecessarySimpa false
/-! ### backstitch/backstitchref1.Two -/
noncomputable def ref1_Two.l0 (r99 : ((List Int) × Int)) (x1 : Tensor) (x2 : Tensor) (x0 : Int) (s144 : (Int × (List Nat))) : Step (Int × (List Nat)) (Int × (List Nat)) :=
  if s144.1 < (s144.2.length : Int) then (bindS (ref1_Place.f r99.1 s144.1) fun r154 =>
  bindS (ref1_under.f x1.Shape r154) fun r167 =>
  if 0 ≤ r167 ∧ r167 < (x1.Data.length : Int) then (bindS (ref1_under.f x2.Shape r154) fun r169 =>
  if 0 ≤ r169 ∧ r169 < (x2.Data.length : Int) then (bindS (ref1_two.f x0 (rd x1.Data r167) (rd x2.Data r169)) fun r171 =>
  if 0 ≤ s144.1 ∧ s144.1 < (s144.2.length : Int) then (.next ((w64 (s144.1 + 1)), (put s144.2 s144.1 r171)))
  else .bad)
  else .bad)
  else .bad)
  else (.done (s144.1, s144.2))
noncomputable def ref1_Two.f (x0 : Int) (x1 : Tensor) (x2 : Tensor) : Option (Tensor × Int) :=
  if x0 < 4 then (some ((⟨([] : (List Int)), ([] : (List Nat))⟩ : Tensor), 4))
  else (if 7 < x0 then (some ((⟨([] : (List Int)), ([] : (List Nat))⟩ : Tensor), 4))
  else ((ref1_TensorMay.f x1).bind fun r79 =>
  if r79 = true then ((ref1_TensorMay.f x2).bind fun r81 =>
  if r81 = true then ((ref1_Spread.f x1.Shape x2.Shape).bind fun r99 =>
  if r99.2 = 0 then ((ref1_New.f r99.1 0).bind fun r115 =>
  (loop (ref1_Two.l0 r99 x1 x2 x0) (0, r115.1.Data)).bind fun r145 =>
  some ((⟨r115.1.Shape, r145.2⟩ : Tensor), 0))
  else (some ((⟨([] : (List Int)), ([] : (List Nat))⟩ : Tensor), r99.2)))
  else (some ((⟨([] : (List Int)), ([] : (List Nat))⟩ : Tensor), 2)))
  else (some ((⟨([] : (List Int)), ([] : (List Nat))⟩ : Tensor), 2))))
set_option maxRecDepth 100000 in
set_option maxHeartbeats 4000000 in
theorem ref1_Two.calls (M : List (Option Nat)) (w0 : World) (x0 : Int) (x1 : Tensor) (A1_0 : Option Addr) (n1_0 c1_0 : Nat) (e1_0 : n1_0 = x1.Shape.length) (A1_1 : Option Addr) (n1_1 c1_1 : Nat) (e1_1 : n1_1 = x1.Data.length) (x2 : Tensor) (A2_0 : Option Addr) (n2_0 c2_0 : Nat) (e2_0 : n2_0 = x2.Shape.length) (A2_1 : Option Addr) (n2_1 c2_1 : Nat) (e2_1 : n2_1 = x2.Data.length) (hm0 : Mem [] M w0 [.sl (Kd.int .i64) A1_0 c1_0 x1.Shape, .sl Kd.float A1_1 c1_1 x1.Data, .sl (Kd.int .i64) A2_0 c2_0 x2.Shape, .sl Kd.float A2_1 c2_1 x2.Data] w0) (r : (Tensor × Int)) (H0 : ref1_Two.f x0 x1 x2 = some r) :
    Calls Try.prog 25 [.int .i64 x0, .agg #[.slice A1_0 n1_0 c1_0, .slice A1_1 n1_1 c1_1], .agg #[.slice A2_0 n2_0 c2_0, .slice A2_1 n2_1 c2_1]].toArray w0 (fun x w' => ∃ v, x = .returned v ∧ ∃ Ar0_0 cr0_0 Ar0_1 cr0_1, v = .tuple #[.agg #[.slice Ar0_0 r.1.Shape.length cr0_0, .slice Ar0_1 r.1.Data.length cr0_1], .int .i64 r.2] ∧ Mem [] M w0 [.ow (Kd.int .i64) 3 Ar0_0 cr0_0 r.1.Shape, .ow Kd.float 44 Ar0_1 cr0_1 r.1.Data] w') := by
  subst e1_0
  subst e1_1
  subst e2_0
  subst e2_1
  unfold ref1_Two.f at H0
  refine enter (n := 80) Try.func25 rfl rfl (by kernel_rfl) fun a0 (hf0 : Fr 80 a0 [(0, .int .i64 x0), (1, .agg #[.slice A1_0 x1.Shape.length c1_0, .slice A1_1 x1.Data.length c1_1]), (2, .agg #[.slice A2_0 x2.Shape.length c2_0, .slice A2_1 x2.Data.length c2_1])]) => ?_
  refine wp_seq ?_
  refine inReg ?_
  refine listOf hf0 rfl (by kernel_rfl) (aNew (cs := [.slice A1_0 x1.Shape.length c1_0, .slice A1_1 x1.Data.length c1_1]) (T := 28) (d := 4) hf0 (by kernel_rfl) (by kernel_rfl) ?_)
  intro b21 w22 a23 hbb21 hx25 hg26 hf24
  have hm27 := hm0.box hbb21 hx25 hg26
  refine listOf hf24 rfl (by kernel_rfl) (aNew (cs := [.slice A2_0 x2.Shape.length c2_0, .slice A2_1 x2.Data.length c2_1]) (T := 28) (d := 5) hf24 (by kernel_rfl) (by kernel_rfl) ?_)
  intro b28 w29 a30 hbb28 hx32 hg33 hf31
  have hm34 := hm27.box hbb28 hx32 hg33
  refine listOf hf31 rfl (by kernel_rfl) (aNew (cs := [.slice none 0 0, .slice none 0 0]) (T := 28) (d := 6) hf31 (by kernel_rfl) (by kernel_rfl) ?_)
  intro b35 w36 a37 hbb35 hx39 hg40 hf38
  have hm41 := hm34.box hbb35 hx39 hg40
  refine go 1 [] [0, 4, 5, 6] [(0, .int .i64 x0), (4, .pointer (some ⟨b21, 0, none⟩)), (5, .pointer (some ⟨b28, 0, none⟩)), (6, .pointer (some ⟨b35, 0, none⟩))] [] hf38 (by kernel_rfl) trivial fun a42 hf43 => ?_
  refine endL rfl ?_
  refine thenN ?_
  refine wp_seq ?_
  refine wp_seq ?_
  rcases if_split H0 with ⟨c44, H0⟩ | ⟨c44, H0⟩
  · refine reg [.bool true] [0, 4, 5, 6, 19] [(0, .int .i64 x0), (4, .pointer (some ⟨b21, 0, none⟩)), (5, .pointer (some ⟨b28, 0, none⟩)), (6, .pointer (some ⟨b35, 0, none⟩)), (19, .bool true)] [.is (decide (x0 < 4) = true)] hf43 (by kernel_rfl) ⟨(decide_eq_true c44), trivial⟩ fun a45 hf46 => ?_
    refine thenN ?_
    refine condT hf46 (by kernel_rfl) ?_
    refine wp_seq ?_
    refine inReg ?_
    refine go 1 [] [6, 20] [(6, .pointer (some ⟨b35, 0, none⟩)), (20, .agg #[.slice none 0 0, .slice none 0 0])] [] hf46 (by kernel_rfl) trivial fun a47 hf48 => ?_
    refine listOf hf48 rfl (by kernel_rfl) (aStoreB (b := b35) (j := 0) (T := 28) (cs := [.slice none 0 0, .slice none 0 0]) (us := [.slice none 0 0, .slice none 0 0]) (cs' := [.slice none 0 0, .slice none 0 0]) hf48 (by kernel_rfl) (hm41.bxAt 0 rfl) (by kernel_rfl) (by kernel_rfl) (by kernel_rfl) ?_)
    intro w49 hx50 hg51
    have hm52 := hm41.setBox 0 _ rfl rfl hx50 hg51
    refine go 1 [] [6, 7] [(6, .pointer (some ⟨b35, 0, none⟩)), (7, .int .i64 4)] [] hf48 (by kernel_rfl) trivial fun a53 hf54 => ?_
    refine endL rfl ?_
    have hm55 := hm52.sel [0] _ rfl (by kernel_rfl)
    refine thenN ?_
    refine wp_ret ?_
    refine thenR ?_
    have hm56 : Mem [] M w0 [.ow (Kd.int .i64) 3 none 0 ([] : (List Int)), .bx b35 [.slice none 0 0, .slice none 0 0] 28] w49 := hm55.nilOw (Kd.int .i64) 3
    have hm57 : Mem [] M w0 [.ow Kd.float 44 none 0 ([] : (List Nat)), .ow (Kd.int .i64) 3 none 0 ([] : (List Int)), .bx b35 [.slice none 0 0, .slice none 0 0] 28] w49 := hm56.nilOw Kd.float 44
    have hm58 : Mem [] M w0 [.ow (Kd.int .i64) 3 none 0 ([] : (List Int)), .ow Kd.float 44 none 0 ([] : (List Nat))] w49 := hm57.sel [1, 0] _ rfl (by kernel_rfl)
    obtain rfl := Option.some.inj H0
    refine ret [.agg #[.slice none 0 0, .slice none 0 0]] [.agg #[.slice none 0 0, .slice none 0 0], .int .i64 4] [.cell ⟨b35, 0, none⟩ (.slice none 0 0), .cell ⟨b35, 1, none⟩ (.slice none 0 0)] hf54 (by kernel_rfl) ⟨(hm55.cell 0 rfl rfl), (hm55.cell 0 rfl rfl), trivial⟩ ?_
    exact ⟨_, rfl, none, 0, none, 0, rfl, hm58⟩
  · rcases if_split H0 with ⟨c60, H0⟩ | ⟨c60, H0⟩
    · refine reg [.bool false, .bool true] [0, 4, 5, 6, 19] [(0, .int .i64 x0), (4, .pointer (some ⟨b21, 0, none⟩)), (5, .pointer (some ⟨b28, 0, none⟩)), (6, .pointer (some ⟨b35, 0, none⟩)), (19, .bool true)] [.is (decide (x0 < 4) = false), .is (decide (7 < x0) = true)] hf43 (by kernel_rfl) ⟨(decide_eq_false c44), (decide_eq_true c60), trivial⟩ fun a61 hf62 => ?_
      refine thenN ?_
      refine condT hf62 (by kernel_rfl) ?_
      refine wp_seq ?_
      refine inReg ?_
      refine go 1 [] [6, 20] [(6, .pointer (some ⟨b35, 0, none⟩)), (20, .agg #[.slice none 0 0, .slice none 0 0])] [] hf62 (by kernel_rfl) trivial fun a63 hf65 => ?_
      refine listOf hf65 rfl (by kernel_rfl) (aStoreB (b := b35) (j := 0) (T := 28) (cs := [.slice none 0 0, .slice none 0 0]) (us := [.slice none 0 0, .slice none 0 0]) (cs' := [.slice none 0 0, .slice none 0 0]) hf65 (by kernel_rfl) (hm41.bxAt 0 rfl) (by kernel_rfl) (by kernel_rfl) (by kernel_rfl) ?_)
      intro w66 hx67 hg68
      have hm69 := hm41.setBox 0 _ rfl rfl hx67 hg68
      refine go 1 [] [6, 7] [(6, .pointer (some ⟨b35, 0, none⟩)), (7, .int .i64 4)] [] hf65 (by kernel_rfl) trivial fun a70 hf71 => ?_
      refine endL rfl ?_
      have hm72 := hm69.sel [0] _ rfl (by kernel_rfl)
      refine thenN ?_
      refine wp_ret ?_
      refine thenR ?_
      have hm73 : Mem [] M w0 [.ow (Kd.int .i64) 3 none 0 ([] : (List Int)), .bx b35 [.slice none 0 0, .slice none 0 0] 28] w66 := hm72.nilOw (Kd.int .i64) 3
      have hm74 : Mem [] M w0 [.ow Kd.float 44 none 0 ([] : (List Nat)), .ow (Kd.int .i64) 3 none 0 ([] : (List Int)), .bx b35 [.slice none 0 0, .slice none 0 0] 28] w66 := hm73.nilOw Kd.float 44
      have hm75 : Mem [] M w0 [.ow (Kd.int .i64) 3 none 0 ([] : (List Int)), .ow Kd.float 44 none 0 ([] : (List Nat))] w66 := hm74.sel [1, 0] _ rfl (by kernel_rfl)
      obtain rfl := Option.some.inj H0
      refine ret [.agg #[.slice none 0 0, .slice none 0 0]] [.agg #[.slice none 0 0, .slice none 0 0], .int .i64 4] [.cell ⟨b35, 0, none⟩ (.slice none 0 0), .cell ⟨b35, 1, none⟩ (.slice none 0 0)] hf71 (by kernel_rfl) ⟨(hm72.cell 0 rfl rfl), (hm72.cell 0 rfl rfl), trivial⟩ ?_
      exact ⟨_, rfl, none, 0, none, 0, rfl, hm75⟩
    · refine reg [.bool false, .bool false] [0, 4, 5, 6, 19] [(0, .int .i64 x0), (4, .pointer (some ⟨b21, 0, none⟩)), (5, .pointer (some ⟨b28, 0, none⟩)), (6, .pointer (some ⟨b35, 0, none⟩)), (19, .bool false)] [.is (decide (x0 < 4) = false), .is (decide (7 < x0) = false)] hf43 (by kernel_rfl) ⟨(decide_eq_false c44), (decide_eq_false c60), trivial⟩ fun a77 hf78 => ?_
      refine thenN ?_
      refine condF hf78 (by kernel_rfl) ?_
      refine wp_skip ?_
      refine thenN ?_
      refine wp_seq ?_
      refine wp_seq ?_
      obtain ⟨r79, hr79, H0⟩ := ob_split H0
      rcases ifb_split H0 with ⟨c80, H0⟩ | ⟨c80, H0⟩
      · obtain ⟨r81, hr81, H0⟩ := ob_split H0
        rcases ifb_split H0 with ⟨c82, H0⟩ | ⟨c82, H0⟩
        · refine inReg ?_
          refine go 1 [.agg #[.slice A1_0 x1.Shape.length c1_0, .slice A1_1 x1.Data.length c1_1]] [0, 4, 5, 6, 21] [(0, .int .i64 x0), (4, .pointer (some ⟨b21, 0, none⟩)), (5, .pointer (some ⟨b28, 0, none⟩)), (6, .pointer (some ⟨b35, 0, none⟩)), (21, .agg #[.slice A1_0 x1.Shape.length c1_0, .slice A1_1 x1.Data.length c1_1])] [.cell ⟨b21, 0, none⟩ (.slice A1_0 x1.Shape.length c1_0), .cell ⟨b21, 1, none⟩ (.slice A1_1 x1.Data.length c1_1)] hf78 (by kernel_rfl) ⟨(hm41.cell 2 rfl rfl), (hm41.cell 2 rfl rfl), trivial⟩ fun a83 hf84 => ?_
          refine listOf hf84 rfl (by kernel_rfl) (aCall (fid := 32) (args := [.agg #[.slice A1_0 x1.Shape.length c1_0, .slice A1_1 x1.Data.length c1_1]]) (d := 22) hf84 (by kernel_rfl) (by kernel_rfl) callable32 (ref1_TensorMay.calls _ _ x1 A1_0 x1.Shape.length c1_0 rfl A1_1 x1.Data.length c1_1 rfl (hm41.give [3, 4] [.sl (Kd.int .i64) A1_0 c1_0 x1.Shape, .sl Kd.float A1_1 c1_1 x1.Data] rfl rfl) r79 hr79) ?_)
          rintro _ w85 a86 ⟨rfl, hk88⟩ hf87
          have hm89 := hm41.still hk88.cum.none
          rw [c80] at hf87
          refine go 3 [.agg #[.slice A2_0 x2.Shape.length c2_0, .slice A2_1 x2.Data.length c2_1]] [0, 4, 5, 6, 24, 25] [(0, .int .i64 x0), (4, .pointer (some ⟨b21, 0, none⟩)), (5, .pointer (some ⟨b28, 0, none⟩)), (6, .pointer (some ⟨b35, 0, none⟩)), (24, .bool false), (25, .agg #[.slice A2_0 x2.Shape.length c2_0, .slice A2_1 x2.Data.length c2_1])] [.cell ⟨b28, 0, none⟩ (.slice A2_0 x2.Shape.length c2_0), .cell ⟨b28, 1, none⟩ (.slice A2_1 x2.Data.length c2_1)] hf87 (by kernel_rfl) ⟨(hm89.cell 1 rfl rfl), (hm89.cell 1 rfl rfl), trivial⟩ fun a90 hf91 => ?_
          refine listOf hf91 rfl (by kernel_rfl) (aCall (fid := 32) (args := [.agg #[.slice A2_0 x2.Shape.length c2_0, .slice A2_1 x2.Data.length c2_1]]) (d := 26) hf91 (by kernel_rfl) (by kernel_rfl) callable32 (ref1_TensorMay.calls _ _ x2 A2_0 x2.Shape.length c2_0 rfl A2_1 x2.Data.length c2_1 rfl (hm89.give [5, 6] [.sl (Kd.int .i64) A2_0 c2_0 x2.Shape, .sl Kd.float A2_1 c2_1 x2.Data] rfl rfl) r81 hr81) ?_)
          rintro _ w92 a93 ⟨rfl, hk95⟩ hf94
          have hm96 := hm89.still hk95.cum.none
          rw [c82] at hf94
          refine go 2 [] [0, 4, 5, 6, 28] [(0, .int .i64 x0), (4, .pointer (some ⟨b21, 0, none⟩)), (5, .pointer (some ⟨b28, 0, none⟩)), (6, .pointer (some ⟨b35, 0, none⟩)), (28, .bool false)] [] hf94 (by kernel_rfl) trivial fun a97 hf98 => ?_
          refine endL rfl ?_
          refine thenN ?_
          refine condF hf98 (by kernel_rfl) ?_
          refine wp_skip ?_
          refine thenN ?_
          refine wp_seq ?_
          obtain ⟨r99, hr99, H0⟩ := ob_split H0
          refine inReg ?_
          refine go 4 [.slice A1_0 x1.Shape.length c1_0, .slice A2_0 x2.Shape.length c2_0] [0, 4, 5, 6, 32, 34] [(0, .int .i64 x0), (4, .pointer (some ⟨b21, 0, none⟩)), (5, .pointer (some ⟨b28, 0, none⟩)), (6, .pointer (some ⟨b35, 0, none⟩)), (32, .slice A1_0 x1.Shape.length c1_0), (34, .slice A2_0 x2.Shape.length c2_0)] [.cell ⟨b21, 0, none⟩ (.slice A1_0 x1.Shape.length c1_0), .cell ⟨b28, 0, none⟩ (.slice A2_0 x2.Shape.length c2_0)] hf98 (by kernel_rfl) ⟨(hm96.cell 2 rfl rfl), (hm96.cell 1 rfl rfl), trivial⟩ fun a100 hf101 => ?_
          refine listOf hf101 rfl (by kernel_rfl) (aCall (fid := 55) (args := [.slice A1_0 x1.Shape.length c1_0, .slice A2_0 x2.Shape.length c2_0]) (d := 35) hf101 (by kernel_rfl) (by kernel_rfl) callable55 (ref1_Spread.calls _ _ x1.Shape A1_0 x1.Shape.length c1_0 rfl x2.Shape A2_0 x2.Shape.length c2_0 rfl (hm96.give [3, 5] [.sl (Kd.int .i64) A1_0 c1_0 x1.Shape, .sl (Kd.int .i64) A2_0 c2_0 x2.Shape] rfl rfl) r99 hr99) ?_)
          rintro _ w104 a105 ⟨A102, c103, rfl, hk107⟩ hf106
          have hm108 := hm96.back hk107
          have hm109 := hm108.seal 0 _ rfl rfl
          refine go 5 [] [0, 4, 5, 6, 8, 9] [(0, .int .i64 x0), (4, .pointer (some ⟨b21, 0, none⟩)), (5, .pointer (some ⟨b28, 0, none⟩)), (6, .pointer (some ⟨b35, 0, none⟩)), (8, .slice A102 r99.1.length c103), (9, .int .i64 r99.2)] [] hf106 (by kernel_rfl) trivial fun a110 hf111 => ?_
          refine endL rfl ?_
          refine thenN ?_
          refine wp_seq ?_
          refine wp_seq ?_
          rcases if_split H0 with ⟨c112, H0⟩ | ⟨c112, H0⟩
          · refine reg [.bool false] [0, 4, 5, 6, 8, 9, 39] [(0, .int .i64 x0), (4, .pointer (some ⟨b21, 0, none⟩)), (5, .pointer (some ⟨b28, 0, none⟩)), (6, .pointer (some ⟨b35, 0, none⟩)), (8, .slice A102 r99.1.length c103), (9, .int .i64 r99.2), (39, .bool false)] [.is (((r99.2 : Int) != 0) = false)] hf111 (by kernel_rfl) ⟨(neF c112), trivial⟩ fun a113 hf114 => ?_
            refine thenN ?_
            refine condF hf114 (by kernel_rfl) ?_
            refine wp_skip ?_
            refine thenN ?_
            refine wp_seq ?_
            obtain ⟨r115, hr115, H0⟩ := ob_split H0
            refine inReg ?_
            refine go 1 [] [0, 4, 5, 6, 8, 43] [(0, .int .i64 x0), (4, .pointer (some ⟨b21, 0, none⟩)), (5, .pointer (some ⟨b28, 0, none⟩)), (6, .pointer (some ⟨b35, 0, none⟩)), (8, .slice A102 r99.1.length c103), (43, .slice A102 r99.1.length c103)] [] hf114 (by kernel_rfl) trivial fun a116 hf117 => ?_
            refine listOf hf117 rfl (by kernel_rfl) (aCall (fid := 28) (args := [.slice A102 r99.1.length c103, .float .f64 0]) (d := 44) hf117 (by kernel_rfl) (by kernel_rfl) callable28 (ref1_New.calls _ _ r99.1 A102 r99.1.length c103 rfl 0 0 ((FR.lit (by kernel_rfl) (by kernel_rfl))) (hm109.give [0] [.sl (Kd.int .i64) A102 c103 r99.1] rfl rfl) r115 hr115) ?_)
            rintro _ w122 a123 ⟨A118, c119, A120, c121, rfl, hk125⟩ hf124
            have hm126 := hm109.back hk125
            refine go 3 [] [0, 4, 5, 6, 8, 45, 46] [(0, .int .i64 x0), (4, .pointer (some ⟨b21, 0, none⟩)), (5, .pointer (some ⟨b28, 0, none⟩)), (6, .pointer (some ⟨b35, 0, none⟩)), (8, .slice A102 r99.1.length c103), (45, .agg #[.slice A118 r115.1.Shape.length c119, .slice A120 r115.1.Data.length c121]), (46, .int .i64 r115.2)] [] hf124 (by kernel_rfl) trivial fun a127 hf128 => ?_
            refine listOf hf128 rfl (by kernel_rfl) (aNew (cs := [.slice none 0 0, .slice none 0 0]) (T := 28) (d := 10) hf128 (by kernel_rfl) (by kernel_rfl) ?_)
            intro b129 w130 a131 hbb129 hx133 hg134 hf132
            have hm135 := hm126.box hbb129 hx133 hg134
            refine listOf hf132 rfl (by kernel_rfl) (aStoreB (b := b129) (j := 0) (T := 28) (cs := [.slice none 0 0, .slice none 0 0]) (us := [.slice A118 r115.1.Shape.length c119, .slice A120 r115.1.Data.length c121]) (cs' := [.slice A118 r115.1.Shape.length c119, .slice A120 r115.1.Data.length c121]) hf132 (by kernel_rfl) (hm135.bxAt 0 rfl) (by kernel_rfl) (by kernel_rfl) (by kernel_rfl) ?_)
            intro w136 hx137 hg138
            have hm139 := hm135.setBox 0 _ rfl rfl hx137 hg138
            refine go 1 [] [0, 4, 5, 6, 8, 10] [(0, .int .i64 x0), (4, .pointer (some ⟨b21, 0, none⟩)), (5, .pointer (some ⟨b28, 0, none⟩)), (6, .pointer (some ⟨b35, 0, none⟩)), (8, .slice A102 r99.1.length c103), (10, .pointer (some ⟨b129, 0, none⟩))] [] hf132 (by kernel_rfl) trivial fun a140 hf141 => ?_
            refine endL rfl ?_
            refine thenN ?_
            refine wp_seq ?_
            refine wp_seq ?_
            refine reg [] [0, 4, 5, 6, 8, 10, 12] [(0, .int .i64 x0), (4, .pointer (some ⟨b21, 0, none⟩)), (5, .pointer (some ⟨b28, 0, none⟩)), (6, .pointer (some ⟨b35, 0, none⟩)), (8, .slice A102 r99.1.length c103), (10, .pointer (some ⟨b129, 0, none⟩)), (12, .int .i64 0)] [] hf141 (by kernel_rfl) trivial fun a142 hf143 => ?_
            refine thenN ?_
            obtain ⟨r145, hr145, H0⟩ := ob_split H0
            refine wpBlock (Mid := fun (a : Act) (w : World) => Fr 80 a [(0, .int .i64 x0), (4, .pointer (some ⟨b21, 0, none⟩)), (5, .pointer (some ⟨b28, 0, none⟩)), (6, .pointer (some ⟨b35, 0, none⟩)), (8, .slice A102 r99.1.length c103), (10, .pointer (some ⟨b129, 0, none⟩)), (12, .int .i64 r145.1)] ∧ Mem [] M w0 [.bx b129 [.slice A118 r115.1.Shape.length c119, .slice A120 r145.2.length c121] 28, .ow (Kd.int .i64) 3 A118 c119 r115.1.Shape, .ow Kd.float 44 A120 c121 r145.2, .sl (Kd.int .i64) A102 c103 r99.1, .bx b35 [.slice none 0 0, .slice none 0 0] 28, .bx b28 [.slice A2_0 x2.Shape.length c2_0, .slice A2_1 x2.Data.length c2_1] 28, .bx b21 [.slice A1_0 x1.Shape.length c1_0, .slice A1_1 x1.Data.length c1_1] 28, .sl (Kd.int .i64) A1_0 c1_0 x1.Shape, .sl Kd.float A1_1 c1_1 x1.Data, .sl (Kd.int .i64) A2_0 c2_0 x2.Shape, .sl Kd.float A2_1 c2_1 x2.Data] w) ?_ ?_
            · refine wpLoop (ref1_Two.l0 r99 x1 x2 x0) r145 (fun (s144 : (Int × (List Nat))) (a : Act) (w : World) => Fr 80 a [(0, .int .i64 x0), (4, .pointer (some ⟨b21, 0, none⟩)), (5, .pointer (some ⟨b28, 0, none⟩)), (6, .pointer (some ⟨b35, 0, none⟩)), (8, .slice A102 r99.1.length c103), (10, .pointer (some ⟨b129, 0, none⟩)), (12, .int .i64 s144.1)] ∧ Mem [] M w0 [.bx b129 [.slice A118 r115.1.Shape.length c119, .slice A120 s144.2.length c121] 28, .ow (Kd.int .i64) 3 A118 c119 r115.1.Shape, .ow Kd.float 44 A120 c121 s144.2, .sl (Kd.int .i64) A102 c103 r99.1, .bx b35 [.slice none 0 0, .slice none 0 0] 28, .bx b28 [.slice A2_0 x2.Shape.length c2_0, .slice A2_1 x2.Data.length c2_1] 28, .bx b21 [.slice A1_0 x1.Shape.length c1_0, .slice A1_1 x1.Data.length c1_1] 28, .sl (Kd.int .i64) A1_0 c1_0 x1.Shape, .sl Kd.float A1_1 c1_1 x1.Data, .sl (Kd.int .i64) A2_0 c2_0 x2.Shape, .sl Kd.float A2_1 c2_1 x2.Data] w) (0, r115.1.Data) hr145 ⟨hf143.sel (l := [0, 4, 5, 6, 8, 10, 12]) (by kernel_rfl), hm139.sel [0, 1, 2, 3, 4, 5, 6, 7, 8, 9, 10] _ rfl (by kernel_rfl)⟩ ?_
              rintro g146 s144 a147 w148 H1 ⟨hf149, hm150⟩
              unfold ref1_Two.l0 at H1
              refine wp_seq ?_
              refine wp_seq ?_
              rcases ifS_split H1 with ⟨c151, H1⟩ | ⟨c151, H1⟩
              · refine reg [.slice A120 s144.2.length c121, .bool true] [0, 4, 5, 6, 8, 10, 12, 51] [(0, .int .i64 x0), (4, .pointer (some ⟨b21, 0, none⟩)), (5, .pointer (some ⟨b28, 0, none⟩)), (6, .pointer (some ⟨b35, 0, none⟩)), (8, .slice A102 r99.1.length c103), (10, .pointer (some ⟨b129, 0, none⟩)), (12, .int .i64 s144.1), (51, .bool true)] [.cell ⟨b129, 1, none⟩ (.slice A120 s144.2.length c121), .is (decide (s144.1 < (s144.2.length : Int)) = true)] hf149 (by kernel_rfl) ⟨(hm150.cell 0 rfl rfl), (decide_eq_true c151), trivial⟩ fun a152 hf153 => ?_
                refine thenN ?_
                refine condT hf153 (by kernel_rfl) ?_
                refine wp_skip ?_
                refine thenN ?_
                refine wp_seq ?_
                refine wp_block ?_
                refine wp_seq ?_
                obtain ⟨r154, hr154, H1⟩ := obS_split H1
                refine inReg ?_
                refine go 2 [] [0, 4, 5, 6, 8, 10, 12, 54, 55] [(0, .int .i64 x0), (4, .pointer (some ⟨b21, 0, none⟩)), (5, .pointer (some ⟨b28, 0, none⟩)), (6, .pointer (some ⟨b35, 0, none⟩)), (8, .slice A102 r99.1.length c103), (10, .pointer (some ⟨b129, 0, none⟩)), (12, .int .i64 s144.1), (54, .slice A102 r99.1.length c103), (55, .int .i64 s144.1)] [] hf153 (by kernel_rfl) trivial fun a155 hf156 => ?_
                refine listOf hf156 rfl (by kernel_rfl) (aCall (fid := 56) (args := [.slice A102 r99.1.length c103, .int .i64 s144.1]) (d := 56) hf156 (by kernel_rfl) (by kernel_rfl) callable56 (ref1_Place.calls _ _ r99.1 A102 r99.1.length c103 rfl s144.1 (hm150.give [3] [.sl (Kd.int .i64) A102 c103 r99.1] rfl rfl) r154 hr154) ?_)
                rintro _ w159 a160 ⟨A157, c158, rfl, hk162⟩ hf161
                have hm163 := hm150.back hk162
                have hm164 := hm163.seal 0 _ rfl rfl
                refine go 1 [] [0, 4, 5, 6, 8, 10, 12, 13] [(0, .int .i64 x0), (4, .pointer (some ⟨b21, 0, none⟩)), (5, .pointer (some ⟨b28, 0, none⟩)), (6, .pointer (some ⟨b35, 0, none⟩)), (8, .slice A102 r99.1.length c103), (10, .pointer (some ⟨b129, 0, none⟩)), (12, .int .i64 s144.1), (13, .slice A157 r154.length c158)] [] hf161 (by kernel_rfl) trivial fun a165 hf166 => ?_
                refine endL rfl ?_
                refine thenN ?_
                obtain ⟨r167, hr167, H1⟩ := obS_split H1
                obtain ⟨g168, H1⟩ := ifS_guard H1
                obtain ⟨r169, hr169, H1⟩ := obS_split H1
                obtain ⟨g170, H1⟩ := ifS_guard H1
                obtain ⟨r171, hr171, H1⟩ := obS_split H1
                obtain ⟨g172, H1⟩ := ifS_guard H1
                refine midReg (fun (a : Act) (w : World) => Fr 80 a [(0, .int .i64 x0), (4, .pointer (some ⟨b21, 0, none⟩)), (5, .pointer (some ⟨b28, 0, none⟩)), (6, .pointer (some ⟨b35, 0, none⟩)), (8, .slice A102 r99.1.length c103), (10, .pointer (some ⟨b129, 0, none⟩)), (12, .int .i64 s144.1)] ∧ Mem [] M w0 [.bx b129 [.slice A118 r115.1.Shape.length c119, .slice A120 s144.2.length c121] 28, .ow (Kd.int .i64) 3 A118 c119 r115.1.Shape, .ow Kd.float 44 A120 c121 (put s144.2 s144.1 r171), .sl (Kd.int .i64) A102 c103 r99.1, .bx b35 [.slice none 0 0, .slice none 0 0] 28, .bx b28 [.slice A2_0 x2.Shape.length c2_0, .slice A2_1 x2.Data.length c2_1] 28, .bx b21 [.slice A1_0 x1.Shape.length c1_0, .slice A1_1 x1.Data.length c1_1] 28, .sl (Kd.int .i64) A1_0 c1_0 x1.Shape, .sl Kd.float A1_1 c1_1 x1.Data, .sl (Kd.int .i64) A2_0 c2_0 x2.Shape, .sl Kd.float A2_1 c2_1 x2.Data] w) ?_ ?_
                · refine anyG [22] (by kernel_rfl) fun w200 hg201 => ?_
                  have hm202 := hm164.still hg201
                  refine quiet0 [0, 1, 2, 3, 4, 5, 6, 7, 8, 12, 13, 14, 15, 16] [.slice A120 s144.2.length c121, .slice A1_1 x1.Data.length c1_1, .slice A1_0 x1.Shape.length c1_0, .slice A2_1 x2.Data.length c2_1, .slice A2_0 x2.Shape.length c2_0] [0, 4, 5, 6, 8, 10, 12, 58, 59, 60, 62, 64, 65, 70, 72, 73] #[true, true, true, true, true, true, true, true, true, false, false, false, true, true, true, true, true, false, false, false, false, false, false] [(0, .int .i64 x0), (4, .pointer (some ⟨b21, 0, none⟩)), (5, .pointer (some ⟨b28, 0, none⟩)), (6, .pointer (some ⟨b35, 0, none⟩)), (8, .slice A102 r99.1.length c103), (10, .pointer (some ⟨b129, 0, none⟩)), (12, .int .i64 s144.1), (58, .slice A120 s144.2.length c121), (59, .int .i64 s144.1), (60, .int .i64 x0), (62, .slice A1_1 x1.Data.length c1_1), (64, .slice A1_0 x1.Shape.length c1_0), (65, .slice A157 r154.length c158), (70, .slice A2_1 x2.Data.length c2_1), (72, .slice A2_0 x2.Shape.length c2_0), (73, .slice A157 r154.length c158)] [.cell ⟨b129, 1, none⟩ (.slice A120 s144.2.length c121), .cell ⟨b21, 1, none⟩ (.slice A1_1 x1.Data.length c1_1), .cell ⟨b21, 0, none⟩ (.slice A1_0 x1.Shape.length c1_0), .cell ⟨b28, 1, none⟩ (.slice A2_1 x2.Data.length c2_1), .cell ⟨b28, 0, none⟩ (.slice A2_0 x2.Shape.length c2_0)] 9 rfl (by kernel_rfl) (fun _ _ _ _ _ h => nomatch h.1) hf166 (by kernel_rfl) ⟨(hm202.cell 1 rfl rfl), (hm202.cell 7 rfl rfl), (hm202.cell 7 rfl rfl), (hm202.cell 6 rfl rfl), (hm202.cell 6 rfl rfl), trivial⟩ fun a237 hf238 => ?_
                  refine all1 9 (by kernel_rfl) ?_
                  refine opOf hf238 rfl (by kernel_rfl) (aCall (fid := 58) (args := [.slice A1_0 x1.Shape.length c1_0, .slice A157 r154.length c158]) (d := 66) hf238 (by kernel_rfl) (by kernel_rfl) callable58 (ref1_under.calls _ _ x1.Shape A1_0 x1.Shape.length c1_0 rfl r154 A157 r154.length c158 rfl (hm202.give [8, 0] [.sl (Kd.int .i64) A1_0 c1_0 x1.Shape, .sl (Kd.int .i64) A157 c158 r154] rfl rfl) r167 hr167) ?_)
                  rintro _ w239 a240 ⟨rfl, hk242⟩ hf241
                  refine ⟨.inr (Gr.still hk242.cum.none), ?_⟩
                  have hm243 := hm202.still hk242.cum.none
                  have q244 := (hm243.slAt 9 rfl).float r167 g168.1 g168.2
                  obtain ⟨b245, hb245, kb245⟩ := q244.2
                  refine quiet0 [10, 11] [.float .f64 b245] [0, 4, 5, 6, 8, 10, 12, 58, 59, 60, 68, 70, 72, 73] #[true, true, true, true, true, true, true, true, true, true, true, true, true, true, true, true, true, false, false, false, false, false, false] [(0, .int .i64 x0), (4, .pointer (some ⟨b21, 0, none⟩)), (5, .pointer (some ⟨b28, 0, none⟩)), (6, .pointer (some ⟨b35, 0, none⟩)), (8, .slice A102 r99.1.length c103), (10, .pointer (some ⟨b129, 0, none⟩)), (12, .int .i64 s144.1), (58, .slice A120 s144.2.length c121), (59, .int .i64 s144.1), (60, .int .i64 x0), (68, .float .f64 b245), (70, .slice A2_1 x2.Data.length c2_1), (72, .slice A2_0 x2.Shape.length c2_0), (73, .slice A157 r154.length c158)] [.is (Option.isSome A1_1 = true), .is (0 ≤ r167 ∧ r167 < (x1.Data.length : Int)), .cell ((ad A1_1).add ((r167).toNat * 1)) (.float .f64 b245)] 6 rfl (by kernel_rfl) (fun _ _ _ _ _ h => nomatch h.1) hf241 (by kernel_rfl) ⟨q244.1, g168, kb245, trivial⟩ fun a246 hf247 => ?_
                  refine all1 17 (by kernel_rfl) ?_
                  refine opOf hf247 rfl (by kernel_rfl) (aCall (fid := 58) (args := [.slice A2_0 x2.Shape.length c2_0, .slice A157 r154.length c158]) (d := 74) hf247 (by kernel_rfl) (by kernel_rfl) callable58 (ref1_under.calls _ _ x2.Shape A2_0 x2.Shape.length c2_0 rfl r154 A157 r154.length c158 rfl (hm243.give [10, 0] [.sl (Kd.int .i64) A2_0 c2_0 x2.Shape, .sl (Kd.int .i64) A157 c158 r154] rfl rfl) r169 hr169) ?_)
                  rintro _ w248 a249 ⟨rfl, hk251⟩ hf250
                  refine ⟨.inr (Gr.still hk251.cum.none), ?_⟩
                  have hm252 := hm243.still hk251.cum.none
                  have q253 := (hm252.slAt 11 rfl).float r169 g170.1 g170.2
                  obtain ⟨b254, hb254, kb254⟩ := q253.2
                  refine quiet0 [18, 19] [.float .f64 b254] [0, 4, 5, 6, 8, 10, 12, 58, 59, 60, 68, 76] #[true, true, true, true, true, true, true, true, true, true, true, true, true, true, true, true, true, true, true, true, false, false, false] [(0, .int .i64 x0), (4, .pointer (some ⟨b21, 0, none⟩)), (5, .pointer (some ⟨b28, 0, none⟩)), (6, .pointer (some ⟨b35, 0, none⟩)), (8, .slice A102 r99.1.length c103), (10, .pointer (some ⟨b129, 0, none⟩)), (12, .int .i64 s144.1), (58, .slice A120 s144.2.length c121), (59, .int .i64 s144.1), (60, .int .i64 x0), (68, .float .f64 b245), (76, .float .f64 b254)] [.is (Option.isSome A2_1 = true), .is (0 ≤ r169 ∧ r169 < (x2.Data.length : Int)), .cell ((ad A2_1).add ((r169).toNat * 1)) (.float .f64 b254)] 3 rfl (by kernel_rfl) (fun _ _ _ _ _ h => nomatch h.1) hf250 (by kernel_rfl) ⟨q253.1, g170, kb254, trivial⟩ fun a255 hf256 => ?_
                  refine all1 20 (by kernel_rfl) ?_
                  refine opOf hf256 rfl (by kernel_rfl) (aCall (fid := 57) (args := [.int .i64 x0, .float .f64 b245, .float .f64 b254]) (d := 77) hf256 (by kernel_rfl) (by kernel_rfl) callable57 (ref1_two.calls _ _ x0 (rd x1.Data r167) b245 hb245 (rd x2.Data r169) b254 hb254 (hm252.give [] [] rfl rfl) r171 hr171) ?_)
                  rintro _ w258 a259 ⟨b257, rfl, hb257, hk261⟩ hf260
                  refine ⟨.inr (Gr.still hk261.cum.none), ?_⟩
                  have hm262 := hm252.still hk261.cum.none
                  have q263 := (hm262.owAt 3 rfl).float s144.1 g172.1 g172.2
                  obtain ⟨b264, hb264, kb264⟩ := q263.2
                  refine quiet0 [21] [] [0, 4, 5, 6, 8, 10, 12, 77, 78] #[true, true, true, true, true, true, true, true, true, true, true, true, true, true, true, true, true, true, true, true, true, true, false] [(0, .int .i64 x0), (4, .pointer (some ⟨b21, 0, none⟩)), (5, .pointer (some ⟨b28, 0, none⟩)), (6, .pointer (some ⟨b35, 0, none⟩)), (8, .slice A102 r99.1.length c103), (10, .pointer (some ⟨b129, 0, none⟩)), (12, .int .i64 s144.1), (77, .float .f64 b257), (78, .pointer (some ((ad A120).add ((s144.1).toNat * 1))))] [.is (Option.isSome A120 = true), .is (0 ≤ s144.1 ∧ s144.1 < (s144.2.length : Int))] 1 rfl (by kernel_rfl) (fun _ _ _ _ _ h => nomatch h.1) hf260 (by kernel_rfl) ⟨q263.1, g172, trivial⟩ fun a265 hf266 => ?_
                  refine all1 22 (by kernel_rfl) ?_
                  refine opOf hf266 rfl (by kernel_rfl) (aStoreO (kd := Kd.float) (base := 0) (E := 44) (A := A120) (c := c121) (xs := s144.2) (i := s144.1) (x := r171) (us := [.float .f64 b257]) (sz := 1) hf266 (by kernel_rfl) rfl (by kernel_rfl) (hm262.at 3 rfl) ⟨_, rfl, hb257⟩ g172.1 g172.2 ?_)
                  intro w267 hx268 hg269
                  refine ⟨.inl (by decide), ?_⟩
                  have hm270 : Mem [] M w0 [.sl (Kd.int .i64) A157 c158 r154, .bx b129 [.slice A118 r115.1.Shape.length c119, .slice A120 s144.2.length c121] 28, .ow (Kd.int .i64) 3 A118 c119 r115.1.Shape, .ow Kd.float 44 A120 c121 (put s144.2 s144.1 r171), .sl (Kd.int .i64) A102 c103 r99.1, .bx b35 [.slice none 0 0, .slice none 0 0] 28, .bx b28 [.slice A2_0 x2.Shape.length c2_0, .slice A2_1 x2.Data.length c2_1] 28, .bx b21 [.slice A1_0 x1.Shape.length c1_0, .slice A1_1 x1.Data.length c1_1] 28, .sl (Kd.int .i64) A1_0 c1_0 x1.Shape, .sl Kd.float A1_1 c1_1 x1.Data, .sl (Kd.int .i64) A2_0 c2_0 x2.Shape, .sl Kd.float A2_1 c2_1 x2.Data] w267 := hm262.setOwn 3 _ rfl rfl hx268 hg269 (.inl rfl)
                  refine allDone (by kernel_rfl) ⟨rfl, hf266.sel (l := [0, 4, 5, 6, 8, 10, 12]) (by kernel_rfl), hm270.sel [1, 2, 3, 4, 5, 6, 7, 8, 9, 10, 11] _ rfl (by kernel_rfl)⟩
                rintro a271 w272 ⟨hf273, hm274⟩
                refine blkN ?_
                refine thenN ?_
                refine reg [] [0, 4, 5, 6, 8, 10, 12] [(0, .int .i64 x0), (4, .pointer (some ⟨b21, 0, none⟩)), (5, .pointer (some ⟨b28, 0, none⟩)), (6, .pointer (some ⟨b35, 0, none⟩)), (8, .slice A102 r99.1.length c103), (10, .pointer (some ⟨b129, 0, none⟩)), (12, .int .i64 (w64 (s144.1 + 1)))] [] hf273 (by kernel_rfl) trivial fun a275 hf276 => ?_
                have hf277 : Fr 80 a275 [(0, .int .i64 x0), (4, .pointer (some ⟨b21, 0, none⟩)), (5, .pointer (some ⟨b28, 0, none⟩)), (6, .pointer (some ⟨b35, 0, none⟩)), (8, .slice A102 r99.1.length c103), (10, .pointer (some ⟨b129, 0, none⟩)), (12, .int .i64 (w64 (s144.1 + 1)))] := hf276.sel (l := [0, 4, 5, 6, 8, 10, 12]) (by kernel_rfl)
                have hm278 : Mem [] M w0 [.bx b129 [.slice A118 r115.1.Shape.length c119, .slice A120 s144.2.length c121] 28, .ow (Kd.int .i64) 3 A118 c119 r115.1.Shape, .ow Kd.float 44 A120 c121 (put s144.2 s144.1 r171), .sl (Kd.int .i64) A102 c103 r99.1, .bx b35 [.slice none 0 0, .slice none 0 0] 28, .bx b28 [.slice A2_0 x2.Shape.length c2_0, .slice A2_1 x2.Data.length c2_1] 28, .bx b21 [.slice A1_0 x1.Shape.length c1_0, .slice A1_1 x1.Data.length c1_1] 28, .sl (Kd.int .i64) A1_0 c1_0 x1.Shape, .sl Kd.float A1_1 c1_1 x1.Data, .sl (Kd.int .i64) A2_0 c2_0 x2.Shape, .sl Kd.float A2_1 c2_1 x2.Data] w272 := hm274.sel [0, 1, 2, 3, 4, 5, 6, 7, 8, 9, 10] _ rfl (by kernel_rfl)
                exact ⟨((w64 (s144.1 + 1)), (put s144.2 s144.1 r171)), H1, (by simpa only [put_length, List.length_nil] using hf277), (by simpa only [put_length, List.length_nil] using hm278)⟩
              · refine reg [.slice A120 s144.2.length c121, .bool false] [0, 4, 5, 6, 8, 10, 12, 51] [(0, .int .i64 x0), (4, .pointer (some ⟨b21, 0, none⟩)), (5, .pointer (some ⟨b28, 0, none⟩)), (6, .pointer (some ⟨b35, 0, none⟩)), (8, .slice A102 r99.1.length c103), (10, .pointer (some ⟨b129, 0, none⟩)), (12, .int .i64 s144.1), (51, .bool false)] [.cell ⟨b129, 1, none⟩ (.slice A120 s144.2.length c121), .is (decide (s144.1 < (s144.2.length : Int)) = false)] hf149 (by kernel_rfl) ⟨(hm150.cell 0 rfl rfl), (decide_eq_false c151), trivial⟩ fun a279 hf280 => ?_
                refine thenN ?_
                refine condF hf280 (by kernel_rfl) ?_
                refine wp_exit ?_
                refine thenE ?_
                refine thenE ?_
                obtain rfl := Option.some.inj H1
                exact .inl ⟨rfl, hf280.sel (l := [0, 4, 5, 6, 8, 10, 12]) (by kernel_rfl), hm150.sel [0, 1, 2, 3, 4, 5, 6, 7, 8, 9, 10] _ rfl (by kernel_rfl)⟩
            rintro a281 w282 ⟨hf283, hm284⟩
            refine thenN ?_
            refine wp_seq ?_
            refine inReg ?_
            refine go 1 [.agg #[.slice A118 r115.1.Shape.length c119, .slice A120 r145.2.length c121]] [6, 79] [(6, .pointer (some ⟨b35, 0, none⟩)), (79, .agg #[.slice A118 r115.1.Shape.length c119, .slice A120 r145.2.length c121])] [.cell ⟨b129, 0, none⟩ (.slice A118 r115.1.Shape.length c119), .cell ⟨b129, 1, none⟩ (.slice A120 r145.2.length c121)] hf283 (by kernel_rfl) ⟨(hm284.cell 0 rfl rfl), (hm284.cell 0 rfl rfl), trivial⟩ fun a285 hf286 => ?_
            refine listOf hf286 rfl (by kernel_rfl) (aStoreB (b := b35) (j := 0) (T := 28) (cs := [.slice none 0 0, .slice none 0 0]) (us := [.slice A118 r115.1.Shape.length c119, .slice A120 r145.2.length c121]) (cs' := [.slice A118 r115.1.Shape.length c119, .slice A120 r145.2.length c121]) hf286 (by kernel_rfl) (hm284.bxAt 4 rfl) (by kernel_rfl) (by kernel_rfl) (by kernel_rfl) ?_)
            intro w287 hx288 hg289
            have hm290 := hm284.setBox 4 _ rfl rfl hx288 hg289
            refine go 1 [] [6, 7] [(6, .pointer (some ⟨b35, 0, none⟩)), (7, .int .i64 0)] [] hf286 (by kernel_rfl) trivial fun a291 hf292 => ?_
            refine endL rfl ?_
            have hm293 := hm290.sel [1, 2, 4] _ rfl (by kernel_rfl)
            refine thenN ?_
            refine wp_ret ?_
            have hm294 : Mem [] M w0 [.ow (Kd.int .i64) 3 A118 c119 r115.1.Shape, .ow Kd.float 44 A120 c121 r145.2] w287 := hm293.sel [0, 1] _ rfl (by kernel_rfl)
            obtain rfl := Option.some.inj H0
            refine ret [.agg #[.slice A118 r115.1.Shape.length c119, .slice A120 r145.2.length c121]] [.agg #[.slice A118 r115.1.Shape.length c119, .slice A120 r145.2.length c121], .int .i64 0] [.cell ⟨b35, 0, none⟩ (.slice A118 r115.1.Shape.length c119), .cell ⟨b35, 1, none⟩ (.slice A120 r145.2.length c121)] hf292 (by kernel_rfl) ⟨(hm293.cell 2 rfl rfl), (hm293.cell 2 rfl rfl), trivial⟩ ?_
            exact ⟨_, rfl, A118, c119, A120, c121, rfl, hm294⟩
          · refine reg [.bool true] [0, 4, 5, 6, 8, 9, 39] [(0, .int .i64 x0), (4, .pointer (some ⟨b21, 0, none⟩)), (5, .pointer (some ⟨b28, 0, none⟩)), (6, .pointer (some ⟨b35, 0, none⟩)), (8, .slice A102 r99.1.length c103), (9, .int .i64 r99.2), (39, .bool true)] [.is (((r99.2 : Int) != 0) = true)] hf111 (by kernel_rfl) ⟨(neT c112), trivial⟩ fun a296 hf297 => ?_
            refine thenN ?_
            refine condT hf297 (by kernel_rfl) ?_
            refine wp_seq ?_
            refine inReg ?_
            refine go 2 [] [6, 40, 41] [(6, .pointer (some ⟨b35, 0, none⟩)), (40, .agg #[.slice none 0 0, .slice none 0 0]), (41, .int .i64 r99.2)] [] hf297 (by kernel_rfl) trivial fun a298 hf299 => ?_
            refine listOf hf299 rfl (by kernel_rfl) (aStoreB (b := b35) (j := 0) (T := 28) (cs := [.slice none 0 0, .slice none 0 0]) (us := [.slice none 0 0, .slice none 0 0]) (cs' := [.slice none 0 0, .slice none 0 0]) hf299 (by kernel_rfl) (hm109.bxAt 1 rfl) (by kernel_rfl) (by kernel_rfl) (by kernel_rfl) ?_)
            intro w300 hx301 hg302
            have hm303 := hm109.setBox 1 _ rfl rfl hx301 hg302
            refine go 1 [] [6, 7] [(6, .pointer (some ⟨b35, 0, none⟩)), (7, .int .i64 r99.2)] [] hf299 (by kernel_rfl) trivial fun a304 hf305 => ?_
            refine endL rfl ?_
            have hm306 := hm303.sel [1] _ rfl (by kernel_rfl)
            refine thenN ?_
            refine wp_ret ?_
            refine thenR ?_
            have hm307 : Mem [] M w0 [.ow (Kd.int .i64) 3 none 0 ([] : (List Int)), .bx b35 [.slice none 0 0, .slice none 0 0] 28] w300 := hm306.nilOw (Kd.int .i64) 3
            have hm308 : Mem [] M w0 [.ow Kd.float 44 none 0 ([] : (List Nat)), .ow (Kd.int .i64) 3 none 0 ([] : (List Int)), .bx b35 [.slice none 0 0, .slice none 0 0] 28] w300 := hm307.nilOw Kd.float 44
            have hm309 : Mem [] M w0 [.ow (Kd.int .i64) 3 none 0 ([] : (List Int)), .ow Kd.float 44 none 0 ([] : (List Nat))] w300 := hm308.sel [1, 0] _ rfl (by kernel_rfl)
            obtain rfl := Option.some.inj H0
            refine ret [.agg #[.slice none 0 0, .slice none 0 0]] [.agg #[.slice none 0 0, .slice none 0 0], .int .i64 r99.2] [.cell ⟨b35, 0, none⟩ (.slice none 0 0), .cell ⟨b35, 1, none⟩ (.slice none 0 0)] hf305 (by kernel_rfl) ⟨(hm306.cell 0 rfl rfl), (hm306.cell 0 rfl rfl), trivial⟩ ?_
            exact ⟨_, rfl, none, 0, none, 0, rfl, hm309⟩
        · refine inReg ?_
          refine go 1 [.agg #[.slice A1_0 x1.Shape.length c1_0, .slice A1_1 x1.Data.length c1_1]] [0, 4, 5, 6, 21] [(0, .int .i64 x0), (4, .pointer (some ⟨b21, 0, none⟩)), (5, .pointer (some ⟨b28, 0, none⟩)), (6, .pointer (some ⟨b35, 0, none⟩)), (21, .agg #[.slice A1_0 x1.Shape.length c1_0, .slice A1_1 x1.Data.length c1_1])] [.cell ⟨b21, 0, none⟩ (.slice A1_0 x1.Shape.length c1_0), .cell ⟨b21, 1, none⟩ (.slice A1_1 x1.Data.length c1_1)] hf78 (by kernel_rfl) ⟨(hm41.cell 2 rfl rfl), (hm41.cell 2 rfl rfl), trivial⟩ fun a311 hf312 => ?_
          refine listOf hf312 rfl (by kernel_rfl) (aCall (fid := 32) (args := [.agg #[.slice A1_0 x1.Shape.length c1_0, .slice A1_1 x1.Data.length c1_1]]) (d := 22) hf312 (by kernel_rfl) (by kernel_rfl) callable32 (ref1_TensorMay.calls _ _ x1 A1_0 x1.Shape.length c1_0 rfl A1_1 x1.Data.length c1_1 rfl (hm41.give [3, 4] [.sl (Kd.int .i64) A1_0 c1_0 x1.Shape, .sl Kd.float A1_1 c1_1 x1.Data] rfl rfl) r79 hr79) ?_)
          rintro _ w313 a314 ⟨rfl, hk316⟩ hf315
          have hm317 := hm41.still hk316.cum.none
          rw [c80] at hf315
          refine go 3 [.agg #[.slice A2_0 x2.Shape.length c2_0, .slice A2_1 x2.Data.length c2_1]] [0, 4, 5, 6, 24, 25] [(0, .int .i64 x0), (4, .pointer (some ⟨b21, 0, none⟩)), (5, .pointer (some ⟨b28, 0, none⟩)), (6, .pointer (some ⟨b35, 0, none⟩)), (24, .bool false), (25, .agg #[.slice A2_0 x2.Shape.length c2_0, .slice A2_1 x2.Data.length c2_1])] [.cell ⟨b28, 0, none⟩ (.slice A2_0 x2.Shape.length c2_0), .cell ⟨b28, 1, none⟩ (.slice A2_1 x2.Data.length c2_1)] hf315 (by kernel_rfl) ⟨(hm317.cell 1 rfl rfl), (hm317.cell 1 rfl rfl), trivial⟩ fun a318 hf319 => ?_
          refine listOf hf319 rfl (by kernel_rfl) (aCall (fid := 32) (args := [.agg #[.slice A2_0 x2.Shape.length c2_0, .slice A2_1 x2.Data.length c2_1]]) (d := 26) hf319 (by kernel_rfl) (by kernel_rfl) callable32 (ref1_TensorMay.calls _ _ x2 A2_0 x2.Shape.length c2_0 rfl A2_1 x2.Data.length c2_1 rfl (hm317.give [5, 6] [.sl (Kd.int .i64) A2_0 c2_0 x2.Shape, .sl Kd.float A2_1 c2_1 x2.Data] rfl rfl) r81 hr81) ?_)
          rintro _ w320 a321 ⟨rfl, hk323⟩ hf322
          have hm324 := hm317.still hk323.cum.none
          rw [c82] at hf322
          refine go 2 [] [0, 4, 5, 6, 28] [(0, .int .i64 x0), (4, .pointer (some ⟨b21, 0, none⟩)), (5, .pointer (some ⟨b28, 0, none⟩)), (6, .pointer (some ⟨b35, 0, none⟩)), (28, .bool true)] [] hf322 (by kernel_rfl) trivial fun a325 hf326 => ?_
          refine endL rfl ?_
          refine thenN ?_
          refine condT hf326 (by kernel_rfl) ?_
          refine wp_seq ?_
          refine inReg ?_
          refine go 1 [] [6, 29] [(6, .pointer (some ⟨b35, 0, none⟩)), (29, .agg #[.slice none 0 0, .slice none 0 0])] [] hf326 (by kernel_rfl) trivial fun a327 hf328 => ?_
          refine listOf hf328 rfl (by kernel_rfl) (aStoreB (b := b35) (j := 0) (T := 28) (cs := [.slice none 0 0, .slice none 0 0]) (us := [.slice none 0 0, .slice none 0 0]) (cs' := [.slice none 0 0, .slice none 0 0]) hf328 (by kernel_rfl) (hm324.bxAt 0 rfl) (by kernel_rfl) (by kernel_rfl) (by kernel_rfl) ?_)
          intro w329 hx330 hg331
          have hm332 := hm324.setBox 0 _ rfl rfl hx330 hg331
          refine go 1 [] [6, 7] [(6, .pointer (some ⟨b35, 0, none⟩)), (7, .int .i64 2)] [] hf328 (by kernel_rfl) trivial fun a333 hf334 => ?_
          refine endL rfl ?_
          have hm335 := hm332.sel [0] _ rfl (by kernel_rfl)
          refine thenN ?_
          refine wp_ret ?_
          refine thenR ?_
          have hm336 : Mem [] M w0 [.ow (Kd.int .i64) 3 none 0 ([] : (List Int)), .bx b35 [.slice none 0 0, .slice none 0 0] 28] w329 := hm335.nilOw (Kd.int .i64) 3
          have hm337 : Mem [] M w0 [.ow Kd.float 44 none 0 ([] : (List Nat)), .ow (Kd.int .i64) 3 none 0 ([] : (List Int)), .bx b35 [.slice none 0 0, .slice none 0 0] 28] w329 := hm336.nilOw Kd.float 44
          have hm338 : Mem [] M w0 [.ow (Kd.int .i64) 3 none 0 ([] : (List Int)), .ow Kd.float 44 none 0 ([] : (List Nat))] w329 := hm337.sel [1, 0] _ rfl (by kernel_rfl)
          obtain rfl := Option.some.inj H0
          refine ret [.agg #[.slice none 0 0, .slice none 0 0]] [.agg #[.slice none 0 0, .slice none 0 0], .int .i64 2] [.cell ⟨b35, 0, none⟩ (.slice none 0 0), .cell ⟨b35, 1, none⟩ (.slice none 0 0)] hf334 (by kernel_rfl) ⟨(hm335.cell 0 rfl rfl), (hm335.cell 0 rfl rfl), trivial⟩ ?_
          exact ⟨_, rfl, none, 0, none, 0, rfl, hm338⟩
      · refine inReg ?_
        refine go 1 [.agg #[.slice A1_0 x1.Shape.length c1_0, .slice A1_1 x1.Data.length c1_1]] [0, 4, 5, 6, 21] [(0, .int .i64 x0), (4, .pointer (some ⟨b21, 0, none⟩)), (5, .pointer (some ⟨b28, 0, none⟩)), (6, .pointer (some ⟨b35, 0, none⟩)), (21, .agg #[.slice A1_0 x1.Shape.length c1_0, .slice A1_1 x1.Data.length c1_1])] [.cell ⟨b21, 0, none⟩ (.slice A1_0 x1.Shape.length c1_0), .cell ⟨b21, 1, none⟩ (.slice A1_1 x1.Data.length c1_1)] hf78 (by kernel_rfl) ⟨(hm41.cell 2 rfl rfl), (hm41.cell 2 rfl rfl), trivial⟩ fun a340 hf341 => ?_
        refine listOf hf341 rfl (by kernel_rfl) (aCall (fid := 32) (args := [.agg #[.slice A1_0 x1.Shape.length c1_0, .slice A1_1 x1.Data.length c1_1]]) (d := 22) hf341 (by kernel_rfl) (by kernel_rfl) callable32 (ref1_TensorMay.calls _ _ x1 A1_0 x1.Shape.length c1_0 rfl A1_1 x1.Data.length c1_1 rfl (hm41.give [3, 4] [.sl (Kd.int .i64) A1_0 c1_0 x1.Shape, .sl Kd.float A1_1 c1_1 x1.Data] rfl rfl) r79 hr79) ?_)
        rintro _ w342 a343 ⟨rfl, hk345⟩ hf344
        have hm346 := hm41.still hk345.cum.none
        rw [c80] at hf344
        refine go 6 [] [0, 4, 5, 6, 28] [(0, .int .i64 x0), (4, .pointer (some ⟨b21, 0, none⟩)), (5, .pointer (some ⟨b28, 0, none⟩)), (6, .pointer (some ⟨b35, 0, none⟩)), (28, .bool true)] [] hf344 (by kernel_rfl) trivial fun a347 hf348 => ?_
        refine endL rfl ?_
        refine thenN ?_
        refine condT hf348 (by kernel_rfl) ?_
        refine wp_seq ?_
        refine inReg ?_
        refine go 1 [] [6, 29] [(6, .pointer (some ⟨b35, 0, none⟩)), (29, .agg #[.slice none 0 0, .slice none 0 0])] [] hf348 (by kernel_rfl) trivial fun a349 hf350 => ?_
        refine listOf hf350 rfl (by kernel_rfl) (aStoreB (b := b35) (j := 0) (T := 28) (cs := [.slice none 0 0, .slice none 0 0]) (us := [.slice none 0 0, .slice none 0 0]) (cs' := [.slice none 0 0, .slice none 0 0]) hf350 (by kernel_rfl) (hm346.bxAt 0 rfl) (by kernel_rfl) (by kernel_rfl) (by kernel_rfl) ?_)
        intro w351 hx352 hg353
        have hm354 := hm346.setBox 0 _ rfl rfl hx352 hg353
        refine go 1 [] [6, 7] [(6, .pointer (some ⟨b35, 0, none⟩)), (7, .int .i64 2)] [] hf350 (by kernel_rfl) trivial fun a355 hf356 => ?_
        refine endL rfl ?_
        have hm357 := hm354.sel [0] _ rfl (by kernel_rfl)
        refine thenN ?_
        refine wp_ret ?_
        refine thenR ?_
        have hm358 : Mem [] M w0 [.ow (Kd.int .i64) 3 none 0 ([] : (List Int)), .bx b35 [.slice none 0 0, .slice none 0 0] 28] w351 := hm357.nilOw (Kd.int .i64) 3
        have hm359 : Mem [] M w0 [.ow Kd.float 44 none 0 ([] : (List Nat)), .ow (Kd.int .i64) 3 none 0 ([] : (List Int)), .bx b35 [.slice none 0 0, .slice none 0 0] 28] w351 := hm358.nilOw Kd.float 44
        have hm360 : Mem [] M w0 [.ow (Kd.int .i64) 3 none 0 ([] : (List Int)), .ow Kd.float 44 none 0 ([] : (List Nat))] w351 := hm359.sel [1, 0] _ rfl (by kernel_rfl)
        obtain rfl := Option.some.inj H0
        refine ret [.agg #[.slice none 0 0, .slice none 0 0]] [.agg #[.slice none 0 0, .slice none 0 0], .int .i64 2] [.cell ⟨b35, 0, none⟩ (.slice none 0 0), .cell ⟨b35, 1, none⟩ (.slice none 0 0)] hf356 (by kernel_rfl) ⟨(hm357.cell 0 rfl rfl), (hm357.cell 0 rfl rfl), trivial⟩ ?_
        exact ⟨_, rfl, none, 0, none, 0, rfl, hm360⟩

/-! ### backstitch/shape.May -/
noncomputable def shape_May.f (x0 : (List Int)) : Option Bool :=
  (shape_Size.f x0).bind fun r23 =>
  if r23.2 = 0 then (some true)
  else (some false)
set_option maxRecDepth 100000 in
set_option maxHeartbeats 4000000 in
theorem shape_May.calls (M : List (Option Nat)) (w0 : World) (x0 : (List Int)) (A0 : Option Addr) (n0 c0 : Nat) (e0 : n0 = x0.length) (hm0 : Mem [] M w0 [.sl (Kd.int .i64) A0 c0 x0] w0) (r : Bool) (H0 : shape_May.f x0 = some r) :
    Calls Try.prog 82 [.slice A0 n0 c0].toArray w0 (fun x w' => ∃ v, x = .returned v ∧ v = .bool r ∧ Mem [] M w0 [] w') := by
  subst e0
  unfold shape_May.f at H0
  refine enter (n := 12) Try.func82 rfl rfl (by kernel_rfl) fun a0 (hf0 : Fr 12 a0 [(0, .slice A0 x0.length c0)]) => ?_
  refine wp_seq ?_
  refine reg [] [0] [(0, .slice A0 x0.length c0)] [] hf0 (by kernel_rfl) trivial fun a21 hf22 => ?_
  refine thenN ?_
  refine wp_seq ?_
  obtain ⟨r23, hr23, H0⟩ := ob_split H0
  refine inReg ?_
  refine go 1 [] [6] [(6, .slice A0 x0.length c0)] [] hf22 (by kernel_rfl) trivial fun a24 hf25 => ?_
  refine listOf hf25 rfl (by kernel_rfl) (aCall (fid := 53) (args := [.slice A0 x0.length c0]) (d := 7) hf25 (by kernel_rfl) (by kernel_rfl) callable53 (shape_Size.calls _ _ x0 A0 x0.length c0 rfl (hm0.give [0] [.sl (Kd.int .i64) A0 c0 x0] rfl rfl) r23 hr23) ?_)
  rintro _ w26 a27 ⟨rfl, hk29⟩ hf28
  have hm30 := hm0.still hk29.cum.none
  refine go 5 [] [4] [(4, .int .i64 r23.2)] [] hf28 (by kernel_rfl) trivial fun a31 hf32 => ?_
  refine endL rfl ?_
  have hm33 := hm30.sel [] _ rfl (by kernel_rfl)
  refine thenN ?_
  refine wp_seq ?_
  rcases if_split H0 with ⟨c34, H0⟩ | ⟨c34, H0⟩
  · refine reg [.bool true] [2] [(2, .bool true)] [.is (((r23.2 : Int) == 0) = true)] hf32 (by kernel_rfl) ⟨(eqT c34), trivial⟩ fun a35 hf36 => ?_
    refine thenN ?_
    refine wp_ret ?_
    have hm37 : Mem [] M w0 [] w26 := hm33.sel [] _ rfl (by kernel_rfl)
    obtain rfl := Option.some.inj H0
    refine ret [] [.bool true] [] hf36 (by kernel_rfl) trivial ?_
    exact ⟨_, rfl, rfl, hm37⟩
  · refine reg [.bool false] [2] [(2, .bool false)] [.is (((r23.2 : Int) == 0) = false)] hf32 (by kernel_rfl) ⟨(eqF c34), trivial⟩ fun a39 hf40 => ?_
    refine thenN ?_
    refine wp_ret ?_
    have hm41 : Mem [] M w0 [] w26 := hm33.sel [] _ rfl (by kernel_rfl)
    obtain rfl := Option.some.inj H0
    refine ret [] [.bool false] [] hf40 (by kernel_rfl) trivial ?_
    exact ⟨_, rfl, rfl, hm41⟩

/-! ### backstitch/shape.Index -/
noncomputable def shape_Index.l0 (x1 : (List Int)) (x0 : (List Int)) (s39 : (Int × Int)) : Step (Int × Int) (Out2 (Int × Int) Int) :=
  if s39.2 < (x1.length : Int) then (if 0 ≤ s39.2 ∧ s39.2 < (x1.length : Int) then (if (rd x1 s39.2) < 0 then (.done (.ret (-1)))
  else (if 0 ≤ s39.2 ∧ s39.2 < (x0.length : Int) then (if (rd x0 s39.2) ≤ (rd x1 s39.2) then (.done (.ret (-1)))
  else (.next ((w64 ((w64 (s39.1 * (rd x0 s39.2))) + (rd x1 s39.2))), (w64 (s39.2 + 1)))))
  else .bad))
  else .bad)
  else (.done (.go (s39.1, s39.2)))
noncomputable def shape_Index.f (x0 : (List Int)) (x1 : (List Int)) : Option Int :=
  (shape_May.f x0).bind fun r23 =>
  if r23 = true then (if (x1.length : Int) = (x0.length : Int) then ((loop (shape_Index.l0 x1 x0) (0, 0)).bind fun r40 =>
  r40.on (fun yr40 =>
  some yr40.1) (fun y => some y))
  else (some (-1)))
  else (some (-1))
set_option maxRecDepth 100000 in
set_option maxHeartbeats 4000000 in
theorem shape_Index.calls (M : List (Option Nat)) (w0 : World) (x0 : (List Int)) (A0 : Option Addr) (n0 c0 : Nat) (e0 : n0 = x0.length) (x1 : (List Int)) (A1 : Option Addr) (n1 c1 : Nat) (e1 : n1 = x1.length) (hm0 : Mem [] M w0 [.sl (Kd.int .i64) A0 c0 x0, .sl (Kd.int .i64) A1 c1 x1] w0) (r : Int) (H0 : shape_Index.f x0 x1 = some r) :
    Calls Try.prog 60 [.slice A0 n0 c0, .slice A1 n1 c1].toArray w0 (fun x w' => ∃ v, x = .returned v ∧ v = .int .i64 r ∧ Mem [] M w0 [] w') := by
  subst e0
  subst e1
  unfold shape_Index.f at H0
  refine enter (n := 45) Try.func60 rfl rfl (by kernel_rfl) fun a0 (hf0 : Fr 45 a0 [(0, .slice A0 x0.length c0), (1, .slice A1 x1.length c1)]) => ?_
  refine wp_seq ?_
  refine reg [] [0, 1] [(0, .slice A0 x0.length c0), (1, .slice A1 x1.length c1)] [] hf0 (by kernel_rfl) trivial fun a21 hf22 => ?_
  refine thenN ?_
  refine wp_seq ?_
  refine wp_seq ?_
  obtain ⟨r23, hr23, H0⟩ := ob_split H0
  rcases ifb_split H0 with ⟨c24, H0⟩ | ⟨c24, H0⟩
  · rcases if_split H0 with ⟨c25, H0⟩ | ⟨c25, H0⟩
    · refine inReg ?_
      refine go 1 [] [0, 1, 8] [(0, .slice A0 x0.length c0), (1, .slice A1 x1.length c1), (8, .slice A0 x0.length c0)] [] hf22 (by kernel_rfl) trivial fun a26 hf27 => ?_
      refine listOf hf27 rfl (by kernel_rfl) (aCall (fid := 82) (args := [.slice A0 x0.length c0]) (d := 9) hf27 (by kernel_rfl) (by kernel_rfl) callable82 (shape_May.calls _ _ x0 A0 x0.length c0 rfl (hm0.give [0] [.sl (Kd.int .i64) A0 c0 x0] rfl rfl) r23 hr23) ?_)
      rintro _ w28 a29 ⟨rfl, hk31⟩ hf30
      have hm32 := hm0.still hk31.cum.none
      rw [c24] at hf30
      refine go 8 [.bool false] [0, 1, 17] [(0, .slice A0 x0.length c0), (1, .slice A1 x1.length c1), (17, .bool false)] [.is ((((x1.length : Int) : Int) != (x0.length : Int)) = false)] hf30 (by kernel_rfl) ⟨(neF c25), trivial⟩ fun a33 hf34 => ?_
      refine endL rfl ?_
      refine thenN ?_
      refine condF hf34 (by kernel_rfl) ?_
      refine wp_skip ?_
      refine thenN ?_
      refine wp_seq ?_
      refine reg [] [0, 1, 5] [(0, .slice A0 x0.length c0), (1, .slice A1 x1.length c1), (5, .int .i64 0)] [] hf34 (by kernel_rfl) trivial fun a35 hf36 => ?_
      refine thenN ?_
      refine wp_seq ?_
      refine wp_seq ?_
      refine reg [] [0, 5, 18, 19, 20] [(0, .slice A0 x0.length c0), (5, .int .i64 0), (18, .slice A1 x1.length c1), (19, .int .i64 (x1.length : Int)), (20, .int .i64 0)] [] hf36 (by kernel_rfl) trivial fun a37 hf38 => ?_
      refine thenN ?_
      obtain ⟨r40, hr40, H0⟩ := ob_split H0
      refine wpBlock (Mid := fun (a : Act) (w : World) => ∃ yr40 : (Int × Int), r40 = .go yr40 ∧ Fr 45 a [(0, .slice A0 x0.length c0), (5, .int .i64 yr40.1), (18, .slice A1 x1.length c1), (19, .int .i64 (x1.length : Int)), (20, .int .i64 yr40.2)] ∧ Mem [] M w0 [.sl (Kd.int .i64) A0 c0 x0, .sl (Kd.int .i64) A1 c1 x1] w) ?_ ?_
      · refine wpLoop (shape_Index.l0 x1 x0) r40 (fun (s39 : (Int × Int)) (a : Act) (w : World) => Fr 45 a [(0, .slice A0 x0.length c0), (5, .int .i64 s39.1), (18, .slice A1 x1.length c1), (19, .int .i64 (x1.length : Int)), (20, .int .i64 s39.2)] ∧ Mem [] M w0 [.sl (Kd.int .i64) A0 c0 x0, .sl (Kd.int .i64) A1 c1 x1] w) (0, 0) hr40 ⟨hf38.sel (l := [0, 5, 18, 19, 20]) (by kernel_rfl), hm32.sel [0, 1] _ rfl (by kernel_rfl)⟩ ?_
        rintro g41 s39 a42 w43 H1 ⟨hf44, hm45⟩
        unfold shape_Index.l0 at H1
        refine wp_seq ?_
        rcases ifS_split H1 with ⟨c46, H1⟩ | ⟨c46, H1⟩
        · refine reg [.bool true] [0, 5, 18, 19, 20, 21] [(0, .slice A0 x0.length c0), (5, .int .i64 s39.1), (18, .slice A1 x1.length c1), (19, .int .i64 (x1.length : Int)), (20, .int .i64 s39.2), (21, .bool true)] [.is (decide (s39.2 < (x1.length : Int)) = true)] hf44 (by kernel_rfl) ⟨(decide_eq_true c46), trivial⟩ fun a47 hf48 => ?_
          refine thenN ?_
          refine wp_seq ?_
          refine condT hf48 (by kernel_rfl) ?_
          refine wp_skip ?_
          refine thenN ?_
          refine wp_seq ?_
          refine wp_block ?_
          refine wp_seq ?_
          obtain ⟨g49, H1⟩ := ifS_guard H1
          have q50 := (hm45.slAt 1 rfl).int s39.2 g49.1 g49.2
          refine reg [.int .i64 (rd x1 s39.2)] [0, 5, 6, 7, 18, 19, 20] [(0, .slice A0 x0.length c0), (5, .int .i64 s39.1), (6, .int .i64 s39.2), (7, .int .i64 (rd x1 s39.2)), (18, .slice A1 x1.length c1), (19, .int .i64 (x1.length : Int)), (20, .int .i64 s39.2)] [.is (Option.isSome A1 = true), .is (0 ≤ s39.2 ∧ s39.2 < (x1.length : Int)), .cell ((ad A1).add ((s39.2).toNat * 1)) (.int .i64 (rd x1 s39.2))] hf48 (by kernel_rfl) ⟨q50.1, g49, q50.2, trivial⟩ fun a51 hf52 => ?_
          refine thenN ?_
          refine wp_seq ?_
          refine wp_seq ?_
          rcases ifS_split H1 with ⟨c53, H1⟩ | ⟨c53, H1⟩
          · refine reg [.bool true] [0, 5, 6, 7, 18, 19, 20, 34] [(0, .slice A0 x0.length c0), (5, .int .i64 s39.1), (6, .int .i64 s39.2), (7, .int .i64 (rd x1 s39.2)), (18, .slice A1 x1.length c1), (19, .int .i64 (x1.length : Int)), (20, .int .i64 s39.2), (34, .bool true)] [.is (decide ((rd x1 s39.2) < 0) = true)] hf52 (by kernel_rfl) ⟨(decide_eq_true c53), trivial⟩ fun a54 hf55 => ?_
            refine thenN ?_
            refine condT hf55 (by kernel_rfl) ?_
            refine wp_seq ?_
            refine reg [] [4] [(4, .int .i64 (-1))] [] hf55 (by kernel_rfl) trivial fun a56 hf57 => ?_
            have hm58 := hm45.sel [] _ rfl (by kernel_rfl)
            refine thenN ?_
            refine wp_ret ?_
            refine thenR ?_
            refine blkR ?_
            refine thenR ?_
            refine thenR ?_
            refine .inr ⟨rfl, ?_⟩
            refine thenR ?_
            have hm59 : Mem [] M w0 [] w43 := hm58.sel [] _ rfl (by kernel_rfl)
            obtain rfl := Option.some.inj H1
            obtain rfl := Option.some.inj H0
            refine ret [] [.int .i64 (-1)] [] hf57 (by kernel_rfl) trivial ?_
            exact ⟨_, rfl, rfl, hm59⟩
          · obtain ⟨g61, H1⟩ := ifS_guard H1
            rcases ifS_split H1 with ⟨c62, H1⟩ | ⟨c62, H1⟩
            · have q63 := (hm45.slAt 0 rfl).int s39.2 g61.1 g61.2
              refine reg [.bool false, .int .i64 (rd x0 s39.2), .bool true] [0, 5, 6, 7, 18, 19, 20, 34] [(0, .slice A0 x0.length c0), (5, .int .i64 s39.1), (6, .int .i64 s39.2), (7, .int .i64 (rd x1 s39.2)), (18, .slice A1 x1.length c1), (19, .int .i64 (x1.length : Int)), (20, .int .i64 s39.2), (34, .bool true)] [.is (decide ((rd x1 s39.2) < 0) = false), .is (Option.isSome A0 = true), .is (0 ≤ s39.2 ∧ s39.2 < (x0.length : Int)), .cell ((ad A0).add ((s39.2).toNat * 1)) (.int .i64 (rd x0 s39.2)), .is (decide ((rd x0 s39.2) ≤ (rd x1 s39.2)) = true)] hf52 (by kernel_rfl) ⟨(decide_eq_false c53), q63.1, g61, q63.2, (decide_eq_true c62), trivial⟩ fun a65 hf66 => ?_
              refine thenN ?_
              refine condT hf66 (by kernel_rfl) ?_
              refine wp_seq ?_
              refine reg [] [4] [(4, .int .i64 (-1))] [] hf66 (by kernel_rfl) trivial fun a67 hf68 => ?_
              have hm69 := hm45.sel [] _ rfl (by kernel_rfl)
              refine thenN ?_
              refine wp_ret ?_
              refine thenR ?_
              refine blkR ?_
              refine thenR ?_
              refine thenR ?_
              refine .inr ⟨rfl, ?_⟩
              refine thenR ?_
              have hm70 : Mem [] M w0 [] w43 := hm69.sel [] _ rfl (by kernel_rfl)
              obtain rfl := Option.some.inj H1
              obtain rfl := Option.some.inj H0
              refine ret [] [.int .i64 (-1)] [] hf68 (by kernel_rfl) trivial ?_
              exact ⟨_, rfl, rfl, hm70⟩
            · have q72 := (hm45.slAt 0 rfl).int s39.2 g61.1 g61.2
              refine reg [.bool false, .int .i64 (rd x0 s39.2), .bool false] [0, 5, 6, 7, 18, 19, 20, 34] [(0, .slice A0 x0.length c0), (5, .int .i64 s39.1), (6, .int .i64 s39.2), (7, .int .i64 (rd x1 s39.2)), (18, .slice A1 x1.length c1), (19, .int .i64 (x1.length : Int)), (20, .int .i64 s39.2), (34, .bool false)] [.is (decide ((rd x1 s39.2) < 0) = false), .is (Option.isSome A0 = true), .is (0 ≤ s39.2 ∧ s39.2 < (x0.length : Int)), .cell ((ad A0).add ((s39.2).toNat * 1)) (.int .i64 (rd x0 s39.2)), .is (decide ((rd x0 s39.2) ≤ (rd x1 s39.2)) = false)] hf52 (by kernel_rfl) ⟨(decide_eq_false c53), q72.1, g61, q72.2, (decide_eq_false c62), trivial⟩ fun a73 hf74 => ?_
              refine thenN ?_
              refine condF hf74 (by kernel_rfl) ?_
              refine wp_skip ?_
              refine thenN ?_
              have q75 := (hm45.slAt 0 rfl).int s39.2 g61.1 g61.2
              refine reg [.int .i64 (rd x0 s39.2)] [0, 5, 18, 19, 20] [(0, .slice A0 x0.length c0), (5, .int .i64 (w64 ((w64 (s39.1 * (rd x0 s39.2))) + (rd x1 s39.2)))), (18, .slice A1 x1.length c1), (19, .int .i64 (x1.length : Int)), (20, .int .i64 s39.2)] [.is (Option.isSome A0 = true), .is (0 ≤ s39.2 ∧ s39.2 < (x0.length : Int)), .cell ((ad A0).add ((s39.2).toNat * 1)) (.int .i64 (rd x0 s39.2))] hf74 (by kernel_rfl) ⟨q75.1, g61, q75.2, trivial⟩ fun a76 hf77 => ?_
              refine blkN ?_
              refine thenN ?_
              refine reg [] [0, 5, 18, 19, 20] [(0, .slice A0 x0.length c0), (5, .int .i64 (w64 ((w64 (s39.1 * (rd x0 s39.2))) + (rd x1 s39.2)))), (18, .slice A1 x1.length c1), (19, .int .i64 (x1.length : Int)), (20, .int .i64 (w64 (s39.2 + 1)))] [] hf77 (by kernel_rfl) trivial fun a78 hf79 => ?_
              exact ⟨((w64 ((w64 (s39.1 * (rd x0 s39.2))) + (rd x1 s39.2))), (w64 (s39.2 + 1))), H1, hf79.sel (l := [0, 5, 18, 19, 20]) (by kernel_rfl), hm45.sel [0, 1] _ rfl (by kernel_rfl)⟩
        · refine reg [.bool false] [0, 5, 18, 19, 20, 21] [(0, .slice A0 x0.length c0), (5, .int .i64 s39.1), (18, .slice A1 x1.length c1), (19, .int .i64 (x1.length : Int)), (20, .int .i64 s39.2), (21, .bool false)] [.is (decide (s39.2 < (x1.length : Int)) = false)] hf44 (by kernel_rfl) ⟨(decide_eq_false c46), trivial⟩ fun a80 hf81 => ?_
          refine thenN ?_
          refine wp_seq ?_
          refine condF hf81 (by kernel_rfl) ?_
          refine wp_exit ?_
          refine thenE ?_
          refine thenE ?_
          obtain rfl := Option.some.inj H1
          exact .inl ⟨rfl, (s39.1, s39.2), rfl, hf81.sel (l := [0, 5, 18, 19, 20]) (by kernel_rfl), hm45.sel [0, 1] _ rfl (by kernel_rfl)⟩
      rintro a82 w83 ⟨yr40, rfl, hf84, hm85⟩
      refine thenN ?_
      refine wp_seq ?_
      refine reg [] [4] [(4, .int .i64 yr40.1)] [] hf84 (by kernel_rfl) trivial fun a86 hf87 => ?_
      have hm88 := hm85.sel [] _ rfl (by kernel_rfl)
      refine thenN ?_
      refine wp_ret ?_
      have hm89 : Mem [] M w0 [] w83 := hm88.sel [] _ rfl (by kernel_rfl)
      obtain rfl := Option.some.inj H0
      refine ret [] [.int .i64 yr40.1] [] hf87 (by kernel_rfl) trivial ?_
      exact ⟨_, rfl, rfl, hm89⟩
    · refine inReg ?_
      refine go 1 [] [0, 1, 8] [(0, .slice A0 x0.length c0), (1, .slice A1 x1.length c1), (8, .slice A0 x0.length c0)] [] hf22 (by kernel_rfl) trivial fun a91 hf92 => ?_
      refine listOf hf92 rfl (by kernel_rfl) (aCall (fid := 82) (args := [.slice A0 x0.length c0]) (d := 9) hf92 (by kernel_rfl) (by kernel_rfl) callable82 (shape_May.calls _ _ x0 A0 x0.length c0 rfl (hm0.give [0] [.sl (Kd.int .i64) A0 c0 x0] rfl rfl) r23 hr23) ?_)
      rintro _ w93 a94 ⟨rfl, hk96⟩ hf95
      have hm97 := hm0.still hk96.cum.none
      rw [c24] at hf95
      refine go 8 [.bool true] [0, 1, 17] [(0, .slice A0 x0.length c0), (1, .slice A1 x1.length c1), (17, .bool true)] [.is ((((x1.length : Int) : Int) != (x0.length : Int)) = true)] hf95 (by kernel_rfl) ⟨(neT c25), trivial⟩ fun a98 hf99 => ?_
      refine endL rfl ?_
      refine thenN ?_
      refine condT hf99 (by kernel_rfl) ?_
      refine wp_seq ?_
      refine reg [] [4] [(4, .int .i64 (-1))] [] hf99 (by kernel_rfl) trivial fun a100 hf101 => ?_
      have hm102 := hm97.sel [] _ rfl (by kernel_rfl)
      refine thenN ?_
      refine wp_ret ?_
      refine thenR ?_
      have hm103 : Mem [] M w0 [] w93 := hm102.sel [] _ rfl (by kernel_rfl)
      obtain rfl := Option.some.inj H0
      refine ret [] [.int .i64 (-1)] [] hf101 (by kernel_rfl) trivial ?_
      exact ⟨_, rfl, rfl, hm103⟩
  · refine inReg ?_
    refine go 1 [] [0, 1, 8] [(0, .slice A0 x0.length c0), (1, .slice A1 x1.length c1), (8, .slice A0 x0.length c0)] [] hf22 (by kernel_rfl) trivial fun a105 hf106 => ?_
    refine listOf hf106 rfl (by kernel_rfl) (aCall (fid := 82) (args := [.slice A0 x0.length c0]) (d := 9) hf106 (by kernel_rfl) (by kernel_rfl) callable82 (shape_May.calls _ _ x0 A0 x0.length c0 rfl (hm0.give [0] [.sl (Kd.int .i64) A0 c0 x0] rfl rfl) r23 hr23) ?_)
    rintro _ w107 a108 ⟨rfl, hk110⟩ hf109
    have hm111 := hm0.still hk110.cum.none
    rw [c24] at hf109
    refine go 8 [] [0, 1, 17] [(0, .slice A0 x0.length c0), (1, .slice A1 x1.length c1), (17, .bool true)] [] hf109 (by kernel_rfl) trivial fun a112 hf113 => ?_
    refine endL rfl ?_
    refine thenN ?_
    refine condT hf113 (by kernel_rfl) ?_
    refine wp_seq ?_
    refine reg [] [4] [(4, .int .i64 (-1))] [] hf113 (by kernel_rfl) trivial fun a114 hf115 => ?_
    have hm116 := hm111.sel [] _ rfl (by kernel_rfl)
    refine thenN ?_
    refine wp_ret ?_
    refine thenR ?_
    have hm117 : Mem [] M w0 [] w107 := hm116.sel [] _ rfl (by kernel_rfl)
    obtain rfl := Option.some.inj H0
    refine ret [] [.int .i64 (-1)] [] hf115 (by kernel_rfl) trivial ?_
    exact ⟨_, rfl, rfl, hm117⟩
end Go.Proofs.Ytkcgiolledmbnab
