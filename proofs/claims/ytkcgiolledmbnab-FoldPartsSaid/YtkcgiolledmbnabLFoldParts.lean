/- Printed by gen.py. -/
import Derived.Test.YtkcgiolledmbnabF11
import Derived.Test.YtkcgiolledmbnabF4
import Derived.Test.YtkcgiolledmbnabF5
import Derived.Test.YtkcgiolledmbnabF8
namespace Go.Proofs.Ytkcgiolledmbnab
open Go Go.RowKit
set_option linter.unusedSimpArgs false
set_option linter.unusedVariables false
set_option linter.unnecessarySimpa false
/-! ### backstitch/backstitchlaw8.FoldParts -/
noncomputable def law8_FoldParts.f (x0 : (List Tensor)) : Option Bool :=
  (law8_awake.f).bind fun r23 =>
  if r23 = true then ((law8_Few.f x0).bind fun r32 =>
  if r32 = true then (if (x0.length : Int) = 0 then (some true)
  else (if 20 < (x0.length : Int) then (some true)
  else ((fold_Tree.f x0).bind fun r74 =>
  if r74.2 = 0 then (if 0 + x0.length ≤ 549755813888 then (if (([] : List Tensor) ++ x0).length + x0.length ≤ 549755813888 then ((fold_Tree.f ((([] : List Tensor) ++ x0) ++ x0)).bind fun r108 =>
  (ref1_Two.f 4 r74.1 r74.1).bind fun r170 =>
  if r108.2 = 0 then (if r170.2 = 0 then ((ref1_SameTensor.f r108.1 r170.1).bind fun r202 =>
  some r202)
  else (some false))
  else (some false))
  else none)
  else none)
  else (some true))))
  else (some true))
  else (some false)
set_option maxRecDepth 100000 in
set_option maxHeartbeats 4000000 in
theorem law8_FoldParts.calls (M : List (Option Nat)) (w0 : World) (x0 : (List Tensor)) (A0 : Option Addr) (n0 c0 : Nat) (e0 : n0 = x0.length) (hm0 : Mem [] M w0 [.sl kTensor A0 c0 x0] w0) (r : Bool) (H0 : law8_FoldParts.f x0 = some r) :
    Calls Try.prog 7 [.slice A0 n0 c0].toArray w0 (fun x w' => ∃ v, x = .returned v ∧ v = .bool r ∧ Mem [] M w0 [] w') := by
  subst e0
  unfold law8_FoldParts.f at H0
  refine enter (n := 57) Try.func7 rfl rfl (by kernel_rfl) fun a0 (hf0 : Fr 57 a0 [(0, .slice A0 x0.length c0)]) => ?_
  refine wp_seq ?_
  refine reg [] [0] [(0, .slice A0 x0.length c0)] [] hf0 (by kernel_rfl) trivial fun a21 hf22 => ?_
  refine thenN ?_
  refine wp_seq ?_
  refine wp_seq ?_
  obtain ⟨r23, hr23, H0⟩ := ob_split H0
  rcases ifb_split H0 with ⟨c24, H0⟩ | ⟨c24, H0⟩
  · refine inReg ?_
    refine listOf hf22 rfl (by kernel_rfl) (aCall (fid := 15) (args := []) (d := 9) hf22 (by kernel_rfl) (by kernel_rfl) callable15 (law8_awake.calls _ _  (hm0.give [] [] rfl rfl) r23 hr23) ?_)
    rintro _ w25 a26 ⟨rfl, hk28⟩ hf27
    have hm29 := hm0.still hk28.cum.none
    rw [c24] at hf27
    refine go 1 [] [0, 10] [(0, .slice A0 x0.length c0), (10, .bool false)] [] hf27 (by kernel_rfl) trivial fun a30 hf31 => ?_
    refine endL rfl ?_
    refine thenN ?_
    refine condF hf31 (by kernel_rfl) ?_
    refine wp_skip ?_
    refine thenN ?_
    refine wp_seq ?_
    refine wp_seq ?_
    obtain ⟨r32, hr32, H0⟩ := ob_split H0
    rcases ifb_split H0 with ⟨c33, H0⟩ | ⟨c33, H0⟩
    · rcases if_split H0 with ⟨c34, H0⟩ | ⟨c34, H0⟩
      · refine inReg ?_
        refine go 1 [] [0, 11] [(0, .slice A0 x0.length c0), (11, .slice A0 x0.length c0)] [] hf31 (by kernel_rfl) trivial fun a35 hf36 => ?_
        refine listOf hf36 rfl (by kernel_rfl) (aCall (fid := 16) (args := [.slice A0 x0.length c0]) (d := 12) hf36 (by kernel_rfl) (by kernel_rfl) callable16 (law8_Few.calls _ _ x0 A0 x0.length c0 rfl (hm29.give [0] [.sl kTensor A0 c0 x0] rfl rfl) r32 hr32) ?_)
        rintro _ w37 a38 ⟨rfl, hk40⟩ hf39
        have hm41 := hm29.still hk40.cum.none
        rw [c33] at hf39
        refine go 11 [.bool true] [0, 23] [(0, .slice A0 x0.length c0), (23, .bool true)] [.is ((((x0.length : Int) : Int) == 0) = true)] hf39 (by kernel_rfl) ⟨(eqT c34), trivial⟩ fun a42 hf43 => ?_
        refine endL rfl ?_
        refine thenN ?_
        refine condT hf43 (by kernel_rfl) ?_
        refine wp_seq ?_
        refine reg [] [2] [(2, .bool true)] [] hf43 (by kernel_rfl) trivial fun a44 hf45 => ?_
        have hm46 := hm41.sel [] _ rfl (by kernel_rfl)
        refine thenN ?_
        refine wp_ret ?_
        refine thenR ?_
        have hm47 : Mem [] M w0 [] w37 := hm46.sel [] _ rfl (by kernel_rfl)
        obtain rfl := Option.some.inj H0
        refine ret [] [.bool true] [] hf45 (by kernel_rfl) trivial ?_
        exact ⟨_, rfl, rfl, hm47⟩
      · rcases if_split H0 with ⟨c49, H0⟩ | ⟨c49, H0⟩
        · refine inReg ?_
          refine go 1 [] [0, 11] [(0, .slice A0 x0.length c0), (11, .slice A0 x0.length c0)] [] hf31 (by kernel_rfl) trivial fun a50 hf51 => ?_
          refine listOf hf51 rfl (by kernel_rfl) (aCall (fid := 16) (args := [.slice A0 x0.length c0]) (d := 12) hf51 (by kernel_rfl) (by kernel_rfl) callable16 (law8_Few.calls _ _ x0 A0 x0.length c0 rfl (hm29.give [0] [.sl kTensor A0 c0 x0] rfl rfl) r32 hr32) ?_)
          rintro _ w52 a53 ⟨rfl, hk55⟩ hf54
          have hm56 := hm29.still hk55.cum.none
          rw [c33] at hf54
          refine go 11 [.bool false, .bool true] [0, 23] [(0, .slice A0 x0.length c0), (23, .bool true)] [.is ((((x0.length : Int) : Int) == 0) = false), .is (decide (20 < (x0.length : Int)) = true)] hf54 (by kernel_rfl) ⟨(eqF c34), (decide_eq_true c49), trivial⟩ fun a57 hf58 => ?_
          refine endL rfl ?_
          refine thenN ?_
          refine condT hf58 (by kernel_rfl) ?_
          refine wp_seq ?_
          refine reg [] [2] [(2, .bool true)] [] hf58 (by kernel_rfl) trivial fun a59 hf60 => ?_
          have hm61 := hm56.sel [] _ rfl (by kernel_rfl)
          refine thenN ?_
          refine wp_ret ?_
          refine thenR ?_
          have hm62 : Mem [] M w0 [] w52 := hm61.sel [] _ rfl (by kernel_rfl)
          obtain rfl := Option.some.inj H0
          refine ret [] [.bool true] [] hf60 (by kernel_rfl) trivial ?_
          exact ⟨_, rfl, rfl, hm62⟩
        · refine inReg ?_
          refine go 1 [] [0, 11] [(0, .slice A0 x0.length c0), (11, .slice A0 x0.length c0)] [] hf31 (by kernel_rfl) trivial fun a65 hf66 => ?_
          refine listOf hf66 rfl (by kernel_rfl) (aCall (fid := 16) (args := [.slice A0 x0.length c0]) (d := 12) hf66 (by kernel_rfl) (by kernel_rfl) callable16 (law8_Few.calls _ _ x0 A0 x0.length c0 rfl (hm29.give [0] [.sl kTensor A0 c0 x0] rfl rfl) r32 hr32) ?_)
          rintro _ w67 a68 ⟨rfl, hk70⟩ hf69
          have hm71 := hm29.still hk70.cum.none
          rw [c33] at hf69
          refine go 11 [.bool false, .bool false] [0, 23] [(0, .slice A0 x0.length c0), (23, .bool false)] [.is ((((x0.length : Int) : Int) == 0) = false), .is (decide (20 < (x0.length : Int)) = false)] hf69 (by kernel_rfl) ⟨(eqF c34), (decide_eq_false c49), trivial⟩ fun a72 hf73 => ?_
          refine endL rfl ?_
          refine thenN ?_
          refine condF hf73 (by kernel_rfl) ?_
          refine wp_skip ?_
          refine thenN ?_
          refine wp_seq ?_
          obtain ⟨r74, hr74, H0⟩ := ob_split H0
          refine inReg ?_
          refine go 1 [] [0, 25] [(0, .slice A0 x0.length c0), (25, .slice A0 x0.length c0)] [] hf73 (by kernel_rfl) trivial fun a75 hf76 => ?_
          refine listOf hf76 rfl (by kernel_rfl) (aCall (fid := 17) (args := [.slice A0 x0.length c0]) (d := 26) hf76 (by kernel_rfl) (by kernel_rfl) callable17 (fold_Tree.calls _ _ x0 A0 x0.length c0 rfl (hm71.give [0] [.sl kTensor A0 c0 x0] rfl rfl) r74 hr74) ?_)
          rintro _ w81 a82 ⟨A77, c78, A79, c80, rfl, hk84⟩ hf83
          have hm85 := hm71.back hk84
          have hm86 := hm85.seal 0 _ rfl rfl
          have hm87 := hm86.seal 1 _ rfl rfl
          refine go 3 [] [0, 27, 28] [(0, .slice A0 x0.length c0), (27, .agg #[.slice A77 r74.1.Shape.length c78, .slice A79 r74.1.Data.length c80]), (28, .int .i64 r74.2)] [] hf83 (by kernel_rfl) trivial fun a88 hf89 => ?_
          refine listOf hf89 rfl (by kernel_rfl) (aNew (cs := [.slice none 0 0, .slice none 0 0]) (T := 28) (d := 3) hf89 (by kernel_rfl) (by kernel_rfl) ?_)
          intro b90 w91 a92 hbb90 hx94 hg95 hf93
          have hm96 := hm87.box hbb90 hx94 hg95
          refine listOf hf93 rfl (by kernel_rfl) (aStoreB (b := b90) (j := 0) (T := 28) (cs := [.slice none 0 0, .slice none 0 0]) (us := [.slice A77 r74.1.Shape.length c78, .slice A79 r74.1.Data.length c80]) (cs' := [.slice A77 r74.1.Shape.length c78, .slice A79 r74.1.Data.length c80]) hf93 (by kernel_rfl) (hm96.bxAt 0 rfl) (by kernel_rfl) (by kernel_rfl) (by kernel_rfl) ?_)
          intro w97 hx98 hg99
          have hm100 := hm96.setBox 0 _ rfl rfl hx98 hg99
          refine go 1 [] [0, 3, 4] [(0, .slice A0 x0.length c0), (3, .pointer (some ⟨b90, 0, none⟩)), (4, .int .i64 r74.2)] [] hf93 (by kernel_rfl) trivial fun a101 hf102 => ?_
          refine endL rfl ?_
          refine thenN ?_
          refine wp_seq ?_
          refine wp_seq ?_
          rcases if_split H0 with ⟨c103, H0⟩ | ⟨c103, H0⟩
          · refine reg [.bool false] [0, 3, 30] [(0, .slice A0 x0.length c0), (3, .pointer (some ⟨b90, 0, none⟩)), (30, .bool false)] [.is (((r74.2 : Int) != 0) = false)] hf102 (by kernel_rfl) ⟨(neF c103), trivial⟩ fun a104 hf105 => ?_
            refine thenN ?_
            refine condF hf105 (by kernel_rfl) ?_
            refine wp_skip ?_
            refine thenN ?_
            refine wp_seq ?_
            obtain ⟨g106, H0⟩ := if_guard H0
            obtain ⟨g107, H0⟩ := if_guard H0
            obtain ⟨r108, hr108, H0⟩ := ob_split H0
            refine inReg ?_
            refine listOf hf105 rfl (by kernel_rfl) (aLit (cs := []) (E := 28) (len := 0) (d := 32) hf105 (by kernel_rfl) (by kernel_rfl) ?_)
            intro b109 w110 a111 hbb109 hx113 hg114 hf112
            have hm115 : Mem [] M w0 [.ow kTensor 28 (some ⟨b109, 0, none⟩) 0 ([] : List Tensor), .bx b90 [.slice A77 r74.1.Shape.length c78, .slice A79 r74.1.Data.length c80] 28, .sl (Kd.int .i64) A77 c78 r74.1.Shape, .sl Kd.float A79 c80 r74.1.Data, .sl kTensor A0 c0 x0] w110 := Mem.litOwn (kd := kTensor) (xs := ([] : List Tensor)) hm100 hbb109 hx113 hg114 (Els.nil) (by simp [maxLen])
            refine go 1 [] [0, 3, 32, 33] [(0, .slice A0 x0.length c0), (3, .pointer (some ⟨b90, 0, none⟩)), (32, .slice (some ⟨b109, 0, none⟩) 0 0), (33, .slice A0 x0.length c0)] [] hf112 (by kernel_rfl) trivial fun a116 hf117 => ?_
            have e126 : 0 = ([] : List Tensor).length := rfl
            have e127 : x0.length = x0.length := rfl
            refine listOf hf117 rfl (by kernel_rfl) (aApp (kd := kTensor) (base := 0) (E := 28) (A := (some ⟨b109, 0, none⟩)) (B := A0) (c := 0) (c2 := c0) (xs := ([] : List Tensor)) (ys := x0) (k := 0) (m := x0.length) (sz := 2) (d := 34) hf117 (by kernel_rfl) e126 e127 (by kernel_rfl) rfl (by kernel_rfl) (hm115.at 0 rfl) (hm115.at2 0 4 rfl rfl).2 (hm115.cpAt 4 rfl) (Nat.zero_le _) (by have := g106; omega) ?_)
            intro A118 c119 w120 a121 ho123 hg124 hr125 hf122
            have hm128 : Mem [] M w0 [.ow kTensor 28 A118 c119 (([] : List Tensor) ++ x0), .bx b90 [.slice A77 r74.1.Shape.length c78, .slice A79 r74.1.Data.length c80] 28, .sl (Kd.int .i64) A77 c78 r74.1.Shape, .sl Kd.float A79 c80 r74.1.Data, .sl kTensor A0 c0 x0] w120 := hm115.setOwn 0 _ rfl rfl ho123 hg124 hr125
            refine go 1 [] [3, 34, 35] [(3, .pointer (some ⟨b90, 0, none⟩)), (34, .slice A118 ((([] : List Tensor) ++ x0).length) c119), (35, .slice A0 x0.length c0)] [] hf122 (by kernel_rfl) trivial fun a129 hf130 => ?_
            have e139 : (([] : List Tensor) ++ x0).length = (([] : List Tensor) ++ x0).length := rfl
            have e140 : x0.length = x0.length := rfl
            refine listOf hf130 rfl (by kernel_rfl) (aApp (kd := kTensor) (base := 0) (E := 28) (A := A118) (B := A0) (c := c119) (c2 := c0) (xs := (([] : List Tensor) ++ x0)) (ys := x0) (k := ((([] : List Tensor) ++ x0).length)) (m := x0.length) (sz := 2) (d := 36) hf130 (by kernel_rfl) e139 e140 (by kernel_rfl) rfl (by kernel_rfl) (hm128.at 0 rfl) (hm128.at2 0 4 rfl rfl).2 (hm128.cpAt 4 rfl) (Nat.zero_le _) (by have := g107; omega) ?_)
            intro A131 c132 w133 a134 ho136 hg137 hr138 hf135
            have hm141 : Mem [] M w0 [.ow kTensor 28 A131 c132 ((([] : List Tensor) ++ x0) ++ x0), .bx b90 [.slice A77 r74.1.Shape.length c78, .slice A79 r74.1.Data.length c80] 28, .sl (Kd.int .i64) A77 c78 r74.1.Shape, .sl Kd.float A79 c80 r74.1.Data, .sl kTensor A0 c0 x0] w133 := hm128.setOwn 0 _ rfl rfl ho136 hg137 hr138
            have hm142 : Mem [] M w0 [.sl kTensor A131 c132 ((([] : List Tensor) ++ x0) ++ x0), .bx b90 [.slice A77 r74.1.Shape.length c78, .slice A79 r74.1.Data.length c80] 28, .sl (Kd.int .i64) A77 c78 r74.1.Shape, .sl Kd.float A79 c80 r74.1.Data, .sl kTensor A0 c0 x0] w133 := hm141.seal 0 _ rfl rfl
            refine listOf hf135 rfl (by kernel_rfl) (aCall (fid := 17) (args := [.slice A131 (((([] : List Tensor) ++ x0) ++ x0).length) c132]) (d := 37) hf135 (by kernel_rfl) (by kernel_rfl) callable17 (fold_Tree.calls _ _ ((([] : List Tensor) ++ x0) ++ x0) A131 (((([] : List Tensor) ++ x0) ++ x0).length) c132 rfl (hm142.give [0] [.sl kTensor A131 c132 ((([] : List Tensor) ++ x0) ++ x0)] rfl rfl) r108 hr108) ?_)
            rintro _ w147 a148 ⟨A143, c144, A145, c146, rfl, hk150⟩ hf149
            have hm151 := hm141.backF hk150 ⟨Kd.flat_int _, Kd.flat_float, trivial⟩
            have hm152 := hm151.seal 0 _ rfl rfl
            have hm153 := hm152.seal 1 _ rfl rfl
            refine go 3 [] [3, 38, 39] [(3, .pointer (some ⟨b90, 0, none⟩)), (38, .agg #[.slice A143 r108.1.Shape.length c144, .slice A145 r108.1.Data.length c146]), (39, .int .i64 r108.2)] [] hf149 (by kernel_rfl) trivial fun a154 hf155 => ?_
            refine listOf hf155 rfl (by kernel_rfl) (aNew (cs := [.slice none 0 0, .slice none 0 0]) (T := 28) (d := 5) hf155 (by kernel_rfl) (by kernel_rfl) ?_)
            intro b156 w157 a158 hbb156 hx160 hg161 hf159
            have hm162 := hm153.box hbb156 hx160 hg161
            refine listOf hf159 rfl (by kernel_rfl) (aStoreB (b := b156) (j := 0) (T := 28) (cs := [.slice none 0 0, .slice none 0 0]) (us := [.slice A143 r108.1.Shape.length c144, .slice A145 r108.1.Data.length c146]) (cs' := [.slice A143 r108.1.Shape.length c144, .slice A145 r108.1.Data.length c146]) hf159 (by kernel_rfl) (hm162.bxAt 0 rfl) (by kernel_rfl) (by kernel_rfl) (by kernel_rfl) ?_)
            intro w163 hx164 hg165
            have hm166 := hm162.setBox 0 _ rfl rfl hx164 hg165
            refine go 1 [] [3, 5, 6] [(3, .pointer (some ⟨b90, 0, none⟩)), (5, .pointer (some ⟨b156, 0, none⟩)), (6, .int .i64 r108.2)] [] hf159 (by kernel_rfl) trivial fun a167 hf168 => ?_
            refine endL rfl ?_
            have hm169 := hm166.sel [0, 1, 2, 4, 5, 6] _ rfl (by kernel_rfl)
            refine thenN ?_
            refine wp_seq ?_
            obtain ⟨r170, hr170, H0⟩ := ob_split H0
            refine inReg ?_
            refine go 2 [.agg #[.slice A77 r74.1.Shape.length c78, .slice A79 r74.1.Data.length c80], .agg #[.slice A77 r74.1.Shape.length c78, .slice A79 r74.1.Data.length c80]] [5, 6, 41, 42] [(5, .pointer (some ⟨b156, 0, none⟩)), (6, .int .i64 r108.2), (41, .agg #[.slice A77 r74.1.Shape.length c78, .slice A79 r74.1.Data.length c80]), (42, .agg #[.slice A77 r74.1.Shape.length c78, .slice A79 r74.1.Data.length c80])] [.cell ⟨b90, 0, none⟩ (.slice A77 r74.1.Shape.length c78), .cell ⟨b90, 1, none⟩ (.slice A79 r74.1.Data.length c80), .cell ⟨b90, 0, none⟩ (.slice A77 r74.1.Shape.length c78), .cell ⟨b90, 1, none⟩ (.slice A79 r74.1.Data.length c80)] hf168 (by kernel_rfl) ⟨(hm169.cell 3 rfl rfl), (hm169.cell 3 rfl rfl), (hm169.cell 3 rfl rfl), (hm169.cell 3 rfl rfl), trivial⟩ fun a171 hf172 => ?_
            refine listOf hf172 rfl (by kernel_rfl) (aCall (fid := 25) (args := [.int .i64 4, .agg #[.slice A77 r74.1.Shape.length c78, .slice A79 r74.1.Data.length c80], .agg #[.slice A77 r74.1.Shape.length c78, .slice A79 r74.1.Data.length c80]]) (d := 43) hf172 (by kernel_rfl) (by kernel_rfl) callable25 (ref1_Two.calls _ _ 4 r74.1 A77 r74.1.Shape.length c78 rfl A79 r74.1.Data.length c80 rfl r74.1 A77 r74.1.Shape.length c78 rfl A79 r74.1.Data.length c80 rfl (hm169.give [4, 5, 4, 5] [.sl (Kd.int .i64) A77 c78 r74.1.Shape, .sl Kd.float A79 c80 r74.1.Data, .sl (Kd.int .i64) A77 c78 r74.1.Shape, .sl Kd.float A79 c80 r74.1.Data] rfl rfl) r170 hr170) ?_)
            rintro _ w177 a178 ⟨A173, c174, A175, c176, rfl, hk180⟩ hf179
            have hm181 := hm169.back hk180
            have hm182 := hm181.seal 0 _ rfl rfl
            have hm183 := hm182.seal 1 _ rfl rfl
            refine go 3 [] [5, 6, 44, 45] [(5, .pointer (some ⟨b156, 0, none⟩)), (6, .int .i64 r108.2), (44, .agg #[.slice A173 r170.1.Shape.length c174, .slice A175 r170.1.Data.length c176]), (45, .int .i64 r170.2)] [] hf179 (by kernel_rfl) trivial fun a184 hf185 => ?_
            refine listOf hf185 rfl (by kernel_rfl) (aNew (cs := [.slice none 0 0, .slice none 0 0]) (T := 28) (d := 7) hf185 (by kernel_rfl) (by kernel_rfl) ?_)
            intro b186 w187 a188 hbb186 hx190 hg191 hf189
            have hm192 := hm183.box hbb186 hx190 hg191
            refine listOf hf189 rfl (by kernel_rfl) (aStoreB (b := b186) (j := 0) (T := 28) (cs := [.slice none 0 0, .slice none 0 0]) (us := [.slice A173 r170.1.Shape.length c174, .slice A175 r170.1.Data.length c176]) (cs' := [.slice A173 r170.1.Shape.length c174, .slice A175 r170.1.Data.length c176]) hf189 (by kernel_rfl) (hm192.bxAt 0 rfl) (by kernel_rfl) (by kernel_rfl) (by kernel_rfl) ?_)
            intro w193 hx194 hg195
            have hm196 := hm192.setBox 0 _ rfl rfl hx194 hg195
            refine go 1 [] [5, 6, 7, 8] [(5, .pointer (some ⟨b156, 0, none⟩)), (6, .int .i64 r108.2), (7, .pointer (some ⟨b186, 0, none⟩)), (8, .int .i64 r170.2)] [] hf189 (by kernel_rfl) trivial fun a197 hf198 => ?_
            refine endL rfl ?_
            have hm199 := hm196.sel [0, 1, 2, 3, 4, 5] _ rfl (by kernel_rfl)
            refine thenN ?_
            refine wp_seq ?_
            rcases if_split H0 with ⟨c200, H0⟩ | ⟨c200, H0⟩
            · rcases if_split H0 with ⟨c201, H0⟩ | ⟨c201, H0⟩
              · obtain ⟨r202, hr202, H0⟩ := ob_split H0
                refine inReg ?_
                refine go 9 [.bool true, .bool true, .agg #[.slice A143 r108.1.Shape.length c144, .slice A145 r108.1.Data.length c146], .agg #[.slice A173 r170.1.Shape.length c174, .slice A175 r170.1.Data.length c176]] [52, 53, 54] [(52, .bool true), (53, .agg #[.slice A143 r108.1.Shape.length c144, .slice A145 r108.1.Data.length c146]), (54, .agg #[.slice A173 r170.1.Shape.length c174, .slice A175 r170.1.Data.length c176])] [.is (((r108.2 : Int) == 0) = true), .is (((r170.2 : Int) == 0) = true), .cell ⟨b156, 0, none⟩ (.slice A143 r108.1.Shape.length c144), .cell ⟨b156, 1, none⟩ (.slice A145 r108.1.Data.length c146), .cell ⟨b186, 0, none⟩ (.slice A173 r170.1.Shape.length c174), .cell ⟨b186, 1, none⟩ (.slice A175 r170.1.Data.length c176)] hf198 (by kernel_rfl) ⟨(eqT c200), (eqT c201), (hm199.cell 3 rfl rfl), (hm199.cell 3 rfl rfl), (hm199.cell 0 rfl rfl), (hm199.cell 0 rfl rfl), trivial⟩ fun a203 hf204 => ?_
                refine listOf hf204 rfl (by kernel_rfl) (aCall (fid := 19) (args := [.agg #[.slice A143 r108.1.Shape.length c144, .slice A145 r108.1.Data.length c146], .agg #[.slice A173 r170.1.Shape.length c174, .slice A175 r170.1.Data.length c176]]) (d := 55) hf204 (by kernel_rfl) (by kernel_rfl) callable19 (ref1_SameTensor.calls _ _ r108.1 A143 r108.1.Shape.length c144 rfl A145 r108.1.Data.length c146 rfl r170.1 A173 r170.1.Shape.length c174 rfl A175 r170.1.Data.length c176 rfl (hm199.give [4, 5, 1, 2] [.sl (Kd.int .i64) A143 c144 r108.1.Shape, .sl Kd.float A145 c146 r108.1.Data, .sl (Kd.int .i64) A173 c174 r170.1.Shape, .sl Kd.float A175 c176 r170.1.Data] rfl rfl) r202 hr202) ?_)
                rintro _ w205 a206 ⟨rfl, hk208⟩ hf207
                have hm209 := hm199.still hk208.cum.none
                refine go 2 [] [2] [(2, .bool r202)] [] hf207 (by kernel_rfl) trivial fun a210 hf211 => ?_
                refine endL rfl ?_
                have hm212 := hm209.sel [] _ rfl (by kernel_rfl)
                refine thenN ?_
                refine wp_ret ?_
                have hm213 : Mem [] M w0 [] w205 := hm212.sel [] _ rfl (by kernel_rfl)
                obtain rfl := Option.some.inj H0
                refine ret [] [.bool r202] [] hf211 (by kernel_rfl) trivial ?_
                exact ⟨_, rfl, rfl, hm213⟩
              · refine reg [.bool true, .bool false] [2] [(2, .bool false)] [.is (((r108.2 : Int) == 0) = true), .is (((r170.2 : Int) == 0) = false)] hf198 (by kernel_rfl) ⟨(eqT c200), (eqF c201), trivial⟩ fun a215 hf216 => ?_
                have hm217 := hm199.sel [] _ rfl (by kernel_rfl)
                refine thenN ?_
                refine wp_ret ?_
                have hm218 : Mem [] M w0 [] w193 := hm217.sel [] _ rfl (by kernel_rfl)
                obtain rfl := Option.some.inj H0
                refine ret [] [.bool false] [] hf216 (by kernel_rfl) trivial ?_
                exact ⟨_, rfl, rfl, hm218⟩
            · refine reg [.bool false] [2] [(2, .bool false)] [.is (((r108.2 : Int) == 0) = false)] hf198 (by kernel_rfl) ⟨(eqF c200), trivial⟩ fun a220 hf221 => ?_
              have hm222 := hm199.sel [] _ rfl (by kernel_rfl)
              refine thenN ?_
              refine wp_ret ?_
              have hm223 : Mem [] M w0 [] w193 := hm222.sel [] _ rfl (by kernel_rfl)
              obtain rfl := Option.some.inj H0
              refine ret [] [.bool false] [] hf221 (by kernel_rfl) trivial ?_
              exact ⟨_, rfl, rfl, hm223⟩
          · refine reg [.bool true] [0, 3, 30] [(0, .slice A0 x0.length c0), (3, .pointer (some ⟨b90, 0, none⟩)), (30, .bool true)] [.is (((r74.2 : Int) != 0) = true)] hf102 (by kernel_rfl) ⟨(neT c103), trivial⟩ fun a225 hf226 => ?_
            refine thenN ?_
            refine condT hf226 (by kernel_rfl) ?_
            refine wp_seq ?_
            refine reg [] [2] [(2, .bool true)] [] hf226 (by kernel_rfl) trivial fun a227 hf228 => ?_
            have hm229 := hm100.sel [] _ rfl (by kernel_rfl)
            refine thenN ?_
            refine wp_ret ?_
            refine thenR ?_
            have hm230 : Mem [] M w0 [] w97 := hm229.sel [] _ rfl (by kernel_rfl)
            obtain rfl := Option.some.inj H0
            refine ret [] [.bool true] [] hf228 (by kernel_rfl) trivial ?_
            exact ⟨_, rfl, rfl, hm230⟩
    · refine inReg ?_
      refine go 1 [] [0, 11] [(0, .slice A0 x0.length c0), (11, .slice A0 x0.length c0)] [] hf31 (by kernel_rfl) trivial fun a232 hf233 => ?_
      refine listOf hf233 rfl (by kernel_rfl) (aCall (fid := 16) (args := [.slice A0 x0.length c0]) (d := 12) hf233 (by kernel_rfl) (by kernel_rfl) callable16 (law8_Few.calls _ _ x0 A0 x0.length c0 rfl (hm29.give [0] [.sl kTensor A0 c0 x0] rfl rfl) r32 hr32) ?_)
      rintro _ w234 a235 ⟨rfl, hk237⟩ hf236
      have hm238 := hm29.still hk237.cum.none
      rw [c33] at hf236
      refine go 11 [] [0, 23] [(0, .slice A0 x0.length c0), (23, .bool true)] [] hf236 (by kernel_rfl) trivial fun a239 hf240 => ?_
      refine endL rfl ?_
      refine thenN ?_
      refine condT hf240 (by kernel_rfl) ?_
      refine wp_seq ?_
      refine reg [] [2] [(2, .bool true)] [] hf240 (by kernel_rfl) trivial fun a241 hf242 => ?_
      have hm243 := hm238.sel [] _ rfl (by kernel_rfl)
      refine thenN ?_
      refine wp_ret ?_
      refine thenR ?_
      have hm244 : Mem [] M w0 [] w234 := hm243.sel [] _ rfl (by kernel_rfl)
      obtain rfl := Option.some.inj H0
      refine ret [] [.bool true] [] hf242 (by kernel_rfl) trivial ?_
      exact ⟨_, rfl, rfl, hm244⟩
  · refine inReg ?_
    refine listOf hf22 rfl (by kernel_rfl) (aCall (fid := 15) (args := []) (d := 9) hf22 (by kernel_rfl) (by kernel_rfl) callable15 (law8_awake.calls _ _  (hm0.give [] [] rfl rfl) r23 hr23) ?_)
    rintro _ w246 a247 ⟨rfl, hk249⟩ hf248
    have hm250 := hm0.still hk249.cum.none
    rw [c24] at hf248
    refine go 1 [] [0, 10] [(0, .slice A0 x0.length c0), (10, .bool true)] [] hf248 (by kernel_rfl) trivial fun a251 hf252 => ?_
    refine endL rfl ?_
    refine thenN ?_
    refine condT hf252 (by kernel_rfl) ?_
    refine wp_seq ?_
    refine reg [] [2] [(2, .bool false)] [] hf252 (by kernel_rfl) trivial fun a253 hf254 => ?_
    have hm255 := hm250.sel [] _ rfl (by kernel_rfl)
    refine thenN ?_
    refine wp_ret ?_
    refine thenR ?_
    have hm256 : Mem [] M w0 [] w246 := hm255.sel [] _ rfl (by kernel_rfl)
    obtain rfl := Option.some.inj H0
    refine ret [] [.bool false] [] hf254 (by kernel_rfl) trivial ?_
    exact ⟨_, rfl, rfl, hm256⟩
end Go.Proofs.Ytkcgiolledmbnab
