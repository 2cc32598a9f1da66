/- Printed by gen.py. -/
import Derived.Test.YtkcgiolledmbnabF4
import Derived.Test.YtkcgiolledmbnabF5
import Derived.Test.YtkcgiolledmbnabF7
import Derived.Test.YtkcgiolledmbnabF8
namespace Go.Proofs.Ytkcgiolledmbnab
open Go Go.RowKit
set_option linter.unusedSimpArgs false
set_option linter.unusedVariables false
set_option linter.unnecessarySimpa false
/-! ### backstitch/backstitchlaw8.FoldTrees -/
noncomputable def law8_FoldTrees.f (x0 : (List Tensor)) : Option Bool :=
  (law8_awake.f).bind fun r23 =>
  if r23 = true then ((law8_Few.f x0).bind fun r32 =>
  if r32 = true then ((fold_Tree.f x0).bind fun r43 =>
  (ref6_Tree.f x0).bind fun r73 =>
  if r43.2 = r73.2 then ((ref1_SameTensor.f r43.1 r73.1).bind fun r104 =>
  some r104)
  else (some false))
  else (some true))
  else (some false)
set_option maxRecDepth 100000 in
set_option maxHeartbeats 4000000 in
theorem law8_FoldTrees.calls (M : List (Option Nat)) (w0 : World) (x0 : (List Tensor)) (A0 : Option Addr) (n0 c0 : Nat) (e0 : n0 = x0.length) (hm0 : Mem [] M w0 [.sl kTensor A0 c0 x0] w0) (r : Bool) (H0 : law8_FoldTrees.f x0 = some r) :
    Calls Try.prog 3 [.slice A0 n0 c0].toArray w0 (fun x w' => ∃ v, x = .returned v ∧ v = .bool r ∧ Mem [] M w0 [] w') := by
  subst e0
  unfold law8_FoldTrees.f at H0
  refine enter (n := 30) Try.func3 rfl rfl (by kernel_rfl) fun a0 (hf0 : Fr 30 a0 [(0, .slice A0 x0.length c0)]) => ?_
  refine wp_seq ?_
  refine reg [] [0] [(0, .slice A0 x0.length c0)] [] hf0 (by kernel_rfl) trivial fun a21 hf22 => ?_
  refine thenN ?_
  refine wp_seq ?_
  refine wp_seq ?_
  obtain ⟨r23, hr23, H0⟩ := ob_split H0
  rcases ifb_split H0 with ⟨c24, H0⟩ | ⟨c24, H0⟩
  · refine inReg ?_
    refine listOf hf22 rfl (by kernel_rfl) (aCall (fid := 15) (args := []) (d := 7) hf22 (by kernel_rfl) (by kernel_rfl) callable15 (law8_awake.calls _ _  (hm0.give [] [] rfl rfl) r23 hr23) ?_)
    rintro _ w25 a26 ⟨rfl, hk28⟩ hf27
    have hm29 := hm0.still hk28.cum.none
    rw [c24] at hf27
    refine go 1 [] [0, 8] [(0, .slice A0 x0.length c0), (8, .bool false)] [] hf27 (by kernel_rfl) trivial fun a30 hf31 => ?_
    refine endL rfl ?_
    refine thenN ?_
    refine condF hf31 (by kernel_rfl) ?_
    refine wp_skip ?_
    refine thenN ?_
    refine wp_seq ?_
    refine wp_seq ?_
    obtain ⟨r32, hr32, H0⟩ := ob_split H0
    rcases ifb_split H0 with ⟨c33, H0⟩ | ⟨c33, H0⟩
    · refine inReg ?_
      refine go 1 [] [0, 9] [(0, .slice A0 x0.length c0), (9, .slice A0 x0.length c0)] [] hf31 (by kernel_rfl) trivial fun a34 hf35 => ?_
      refine listOf hf35 rfl (by kernel_rfl) (aCall (fid := 16) (args := [.slice A0 x0.length c0]) (d := 10) hf35 (by kernel_rfl) (by kernel_rfl) callable16 (law8_Few.calls _ _ x0 A0 x0.length c0 rfl (hm29.give [0] [.sl kTensor A0 c0 x0] rfl rfl) r32 hr32) ?_)
      rintro _ w36 a37 ⟨rfl, hk39⟩ hf38
      have hm40 := hm29.still hk39.cum.none
      rw [c33] at hf38
      refine go 1 [] [0, 11] [(0, .slice A0 x0.length c0), (11, .bool false)] [] hf38 (by kernel_rfl) trivial fun a41 hf42 => ?_
      refine endL rfl ?_
      refine thenN ?_
      refine condF hf42 (by kernel_rfl) ?_
      refine wp_skip ?_
      refine thenN ?_
      refine wp_seq ?_
      obtain ⟨r43, hr43, H0⟩ := ob_split H0
      refine inReg ?_
      refine go 1 [] [0, 13] [(0, .slice A0 x0.length c0), (13, .slice A0 x0.length c0)] [] hf42 (by kernel_rfl) trivial fun a44 hf45 => ?_
      refine listOf hf45 rfl (by kernel_rfl) (aCall (fid := 17) (args := [.slice A0 x0.length c0]) (d := 14) hf45 (by kernel_rfl) (by kernel_rfl) callable17 (fold_Tree.calls _ _ x0 A0 x0.length c0 rfl (hm40.give [0] [.sl kTensor A0 c0 x0] rfl rfl) r43 hr43) ?_)
      rintro _ w50 a51 ⟨A46, c47, A48, c49, rfl, hk53⟩ hf52
      have hm54 := hm40.back hk53
      have hm55 := hm54.seal 0 _ rfl rfl
      have hm56 := hm55.seal 1 _ rfl rfl
      refine go 3 [] [0, 15, 16] [(0, .slice A0 x0.length c0), (15, .agg #[.slice A46 r43.1.Shape.length c47, .slice A48 r43.1.Data.length c49]), (16, .int .i64 r43.2)] [] hf52 (by kernel_rfl) trivial fun a57 hf58 => ?_
      refine listOf hf58 rfl (by kernel_rfl) (aNew (cs := [.slice none 0 0, .slice none 0 0]) (T := 28) (d := 3) hf58 (by kernel_rfl) (by kernel_rfl) ?_)
      intro b59 w60 a61 hbb59 hx63 hg65 hf62
      have hm66 := hm56.box hbb59 hx63 hg65
      refine listOf hf62 rfl (by kernel_rfl) (aStoreB (b := b59) (j := 0) (T := 28) (cs := [.slice none 0 0, .slice none 0 0]) (us := [.slice A46 r43.1.Shape.length c47, .slice A48 r43.1.Data.length c49]) (cs' := [.slice A46 r43.1.Shape.length c47, .slice A48 r43.1.Data.length c49]) hf62 (by kernel_rfl) (hm66.bxAt 0 rfl) (by kernel_rfl) (by kernel_rfl) (by kernel_rfl) ?_)
      intro w67 hx68 hg69
      have hm70 := hm66.setBox 0 _ rfl rfl hx68 hg69
      refine go 1 [] [0, 3, 4] [(0, .slice A0 x0.length c0), (3, .pointer (some ⟨b59, 0, none⟩)), (4, .int .i64 r43.2)] [] hf62 (by kernel_rfl) trivial fun a71 hf72 => ?_
      refine endL rfl ?_
      refine thenN ?_
      refine wp_seq ?_
      obtain ⟨r73, hr73, H0⟩ := ob_split H0
      refine inReg ?_
      refine go 1 [] [3, 4, 18] [(3, .pointer (some ⟨b59, 0, none⟩)), (4, .int .i64 r43.2), (18, .slice A0 x0.length c0)] [] hf72 (by kernel_rfl) trivial fun a74 hf75 => ?_
      refine listOf hf75 rfl (by kernel_rfl) (aCall (fid := 18) (args := [.slice A0 x0.length c0]) (d := 19) hf75 (by kernel_rfl) (by kernel_rfl) callable18 (ref6_Tree.calls _ _ x0 A0 x0.length c0 rfl (hm70.give [3] [.sl kTensor A0 c0 x0] rfl rfl) r73 hr73) ?_)
      rintro _ w80 a81 ⟨A76, c77, A78, c79, rfl, hk83⟩ hf82
      have hm84 := hm70.back hk83
      have hm85 := hm84.seal 0 _ rfl rfl
      have hm86 := hm85.seal 1 _ rfl rfl
      refine go 3 [] [3, 4, 20, 21] [(3, .pointer (some ⟨b59, 0, none⟩)), (4, .int .i64 r43.2), (20, .agg #[.slice A76 r73.1.Shape.length c77, .slice A78 r73.1.Data.length c79]), (21, .int .i64 r73.2)] [] hf82 (by kernel_rfl) trivial fun a87 hf88 => ?_
      refine listOf hf88 rfl (by kernel_rfl) (aNew (cs := [.slice none 0 0, .slice none 0 0]) (T := 28) (d := 5) hf88 (by kernel_rfl) (by kernel_rfl) ?_)
      intro b89 w90 a91 hbb89 hx93 hg94 hf92
      have hm95 := hm86.box hbb89 hx93 hg94
      refine listOf hf92 rfl (by kernel_rfl) (aStoreB (b := b89) (j := 0) (T := 28) (cs := [.slice none 0 0, .slice none 0 0]) (us := [.slice A76 r73.1.Shape.length c77, .slice A78 r73.1.Data.length c79]) (cs' := [.slice A76 r73.1.Shape.length c77, .slice A78 r73.1.Data.length c79]) hf92 (by kernel_rfl) (hm95.bxAt 0 rfl) (by kernel_rfl) (by kernel_rfl) (by kernel_rfl) ?_)
      intro w96 hx97 hg98
      have hm99 := hm95.setBox 0 _ rfl rfl hx97 hg98
      refine go 1 [] [3, 4, 5, 6] [(3, .pointer (some ⟨b59, 0, none⟩)), (4, .int .i64 r43.2), (5, .pointer (some ⟨b89, 0, none⟩)), (6, .int .i64 r73.2)] [] hf92 (by kernel_rfl) trivial fun a100 hf101 => ?_
      refine endL rfl ?_
      have hm102 := hm99.sel [0, 1, 2, 3, 4, 5] _ rfl (by kernel_rfl)
      refine thenN ?_
      refine wp_seq ?_
      rcases if_split H0 with ⟨c103, H0⟩ | ⟨c103, H0⟩
      · obtain ⟨r104, hr104, H0⟩ := ob_split H0
        refine inReg ?_
        refine go 6 [.bool true, .agg #[.slice A46 r43.1.Shape.length c47, .slice A48 r43.1.Data.length c49], .agg #[.slice A76 r73.1.Shape.length c77, .slice A78 r73.1.Data.length c79]] [25, 26, 27] [(25, .bool true), (26, .agg #[.slice A46 r43.1.Shape.length c47, .slice A48 r43.1.Data.length c49]), (27, .agg #[.slice A76 r73.1.Shape.length c77, .slice A78 r73.1.Data.length c79])] [.is (((r43.2 : Int) == r73.2) = true), .cell ⟨b59, 0, none⟩ (.slice A46 r43.1.Shape.length c47), .cell ⟨b59, 1, none⟩ (.slice A48 r43.1.Data.length c49), .cell ⟨b89, 0, none⟩ (.slice A76 r73.1.Shape.length c77), .cell ⟨b89, 1, none⟩ (.slice A78 r73.1.Data.length c79)] hf101 (by kernel_rfl) ⟨(eqT c103), (hm102.cell 3 rfl rfl), (hm102.cell 3 rfl rfl), (hm102.cell 0 rfl rfl), (hm102.cell 0 rfl rfl), trivial⟩ fun a105 hf106 => ?_
        refine listOf hf106 rfl (by kernel_rfl) (aCall (fid := 19) (args := [.agg #[.slice A46 r43.1.Shape.length c47, .slice A48 r43.1.Data.length c49], .agg #[.slice A76 r73.1.Shape.length c77, .slice A78 r73.1.Data.length c79]]) (d := 28) hf106 (by kernel_rfl) (by kernel_rfl) callable19 (ref1_SameTensor.calls _ _ r43.1 A46 r43.1.Shape.length c47 rfl A48 r43.1.Data.length c49 rfl r73.1 A76 r73.1.Shape.length c77 rfl A78 r73.1.Data.length c79 rfl (hm102.give [4, 5, 1, 2] [.sl (Kd.int .i64) A46 c47 r43.1.Shape, .sl Kd.float A48 c49 r43.1.Data, .sl (Kd.int .i64) A76 c77 r73.1.Shape, .sl Kd.float A78 c79 r73.1.Data] rfl rfl) r104 hr104) ?_)
        rintro _ w107 a108 ⟨rfl, hk110⟩ hf109
        have hm111 := hm102.still hk110.cum.none
        refine go 2 [] [2] [(2, .bool r104)] [] hf109 (by kernel_rfl) trivial fun a112 hf113 => ?_
        refine endL rfl ?_
        have hm114 := hm111.sel [] _ rfl (by kernel_rfl)
        refine thenN ?_
        refine wp_ret ?_
        have hm115 : Mem [] M w0 [] w107 := hm114.sel [] _ rfl (by kernel_rfl)
        obtain rfl := Option.some.inj H0
        refine ret [] [.bool r104] [] hf113 (by kernel_rfl) trivial ?_
        exact ⟨_, rfl, rfl, hm115⟩
      · refine reg [.bool false] [2] [(2, .bool false)] [.is (((r43.2 : Int) == r73.2) = false)] hf101 (by kernel_rfl) ⟨(eqF c103), trivial⟩ fun a117 hf118 => ?_
        have hm119 := hm102.sel [] _ rfl (by kernel_rfl)
        refine thenN ?_
        refine wp_ret ?_
        have hm120 : Mem [] M w0 [] w96 := hm119.sel [] _ rfl (by kernel_rfl)
        obtain rfl := Option.some.inj H0
        refine ret [] [.bool false] [] hf118 (by kernel_rfl) trivial ?_
        exact ⟨_, rfl, rfl, hm120⟩
    · refine inReg ?_
      refine go 1 [] [0, 9] [(0, .slice A0 x0.length c0), (9, .slice A0 x0.length c0)] [] hf31 (by kernel_rfl) trivial fun a122 hf123 => ?_
      refine listOf hf123 rfl (by kernel_rfl) (aCall (fid := 16) (args := [.slice A0 x0.length c0]) (d := 10) hf123 (by kernel_rfl) (by kernel_rfl) callable16 (law8_Few.calls _ _ x0 A0 x0.length c0 rfl (hm29.give [0] [.sl kTensor A0 c0 x0] rfl rfl) r32 hr32) ?_)
      rintro _ w124 a125 ⟨rfl, hk127⟩ hf126
      have hm128 := hm29.still hk127.cum.none
      rw [c33] at hf126
      refine go 1 [] [0, 11] [(0, .slice A0 x0.length c0), (11, .bool true)] [] hf126 (by kernel_rfl) trivial fun a129 hf130 => ?_
      refine endL rfl ?_
      refine thenN ?_
      refine condT hf130 (by kernel_rfl) ?_
      refine wp_seq ?_
      refine reg [] [2] [(2, .bool true)] [] hf130 (by kernel_rfl) trivial fun a131 hf132 => ?_
      have hm133 := hm128.sel [] _ rfl (by kernel_rfl)
      refine thenN ?_
      refine wp_ret ?_
      refine thenR ?_
      have hm134 : Mem [] M w0 [] w124 := hm133.sel [] _ rfl (by kernel_rfl)
      obtain rfl := Option.some.inj H0
      refine ret [] [.bool true] [] hf132 (by kernel_rfl) trivial ?_
      exact ⟨_, rfl, rfl, hm134⟩
  · refine inReg ?_
    refine listOf hf22 rfl (by kernel_rfl) (aCall (fid := 15) (args := []) (d := 7) hf22 (by kernel_rfl) (by kernel_rfl) callable15 (law8_awake.calls _ _  (hm0.give [] [] rfl rfl) r23 hr23) ?_)
    rintro _ w136 a137 ⟨rfl, hk139⟩ hf138
    have hm140 := hm0.still hk139.cum.none
    rw [c24] at hf138
    refine go 1 [] [0, 8] [(0, .slice A0 x0.length c0), (8, .bool true)] [] hf138 (by kernel_rfl) trivial fun a141 hf142 => ?_
    refine endL rfl ?_
    refine thenN ?_
    refine condT hf142 (by kernel_rfl) ?_
    refine wp_seq ?_
    refine reg [] [2] [(2, .bool false)] [] hf142 (by kernel_rfl) trivial fun a143 hf144 => ?_
    have hm145 := hm140.sel [] _ rfl (by kernel_rfl)
    refine thenN ?_
    refine wp_ret ?_
    refine thenR ?_
    have hm146 : Mem [] M w0 [] w136 := hm145.sel [] _ rfl (by kernel_rfl)
    obtain rfl := Option.some.inj H0
    refine ret [] [.bool false] [] hf144 (by kernel_rfl) trivial ?_
    exact ⟨_, rfl, rfl, hm146⟩
end Go.Proofs.Ytkcgiolledmbnab
