/- Printed by gen.py. -/
import Derived.Test.YtkcgiolledmbnaaF2
import Derived.Test.YtkcgiolledmbnaaF3
import Derived.Test.YtkcgiolledmbnaaF4
import Derived.Test.YtkcgiolledmbnaaF5
namespace Go.Proofs.Ytkcgiolledmbnaa
open Go Go.RowKit
set_option linter.unusedSimpArgs false
set_option linter.unusedVariables false
set_option linter.unnecessarySimpa false
/-! ### backstitch/backstitchlaw5.MatrixOne -/
noncomputable def law5_MatrixOne.l0 (x0 : Tensor) (s200 : (Int × (List Nat))) : Step (Int × (List Nat)) (Int × (List Nat)) :=
  if s200.1 < (rd x0.Shape 1) then (if 0 ≤ (w64 ((w64 (s200.1 * (rd x0.Shape 1))) + s200.1)) ∧ (w64 ((w64 (s200.1 * (rd x0.Shape 1))) + s200.1)) < (s200.2.length : Int) then (.next ((w64 (s200.1 + 1)), (put s200.2 (w64 ((w64 (s200.1 * (rd x0.Shape 1))) + s200.1)) 4607182418800017408)))
  else .bad)
  else (.done (s200.1, s200.2))
noncomputable def law5_MatrixOne.f (x0 : Tensor) : Option Bool :=
  (law5_awake.f).bind fun r30 =>
  if r30 = true then ((law3_Small.f x0).bind fun r39 =>
  if r39 = true then ((ref1_TensorMay.f x0).bind fun r41 =>
  if r41 = true then (if (x0.Shape.length : Int) = 2 then (if (0 : Int) ≤ 1 ∧ 1 < (x0.Shape.length : Int) then (if 40 < (rd x0.Shape 1) then (some true)
  else ((matrix_Turn.f x0).bind fun r86 =>
  (matrix_Turn.f r86.1).bind fun r115 =>
  if r86.2 = 0 then (if r115.2 = 0 then ((ref1_SameTensor.f r115.1 x0).bind fun r147 =>
  if r147 = true then ((ref1_New.f ([(rd x0.Shape 1), (rd x0.Shape 1)] : List Int) 0).bind fun r162 =>
  (loop (law5_MatrixOne.l0 x0) (0, r162.1.Data)).bind fun r201 =>
  (matrix_Mul.f x0 (⟨r162.1.Shape, r201.2⟩ : Tensor)).bind fun r229 =>
  if r229.2 = 0 then ((ref1_Finite.f x0).bind fun r261 =>
  if r261 = true then ((law5_equal.f r229.1 x0).bind fun r263 =>
  some r263)
  else (some true))
  else (some false))
  else (some false))
  else (some false))
  else (some false)))
  else none)
  else (some true))
  else (some true))
  else (some true))
  else (some false)
set_option maxRecDepth 100000 in
set_option maxHeartbeats 4000000 in
theorem law5_MatrixOne.calls (M : List (Option Nat)) (w0 : World) (x0 : Tensor) (A0_0 : Option Addr) (n0_0 c0_0 : Nat) (e0_0 : n0_0 = x0.Shape.length) (A0_1 : Option Addr) (n0_1 c0_1 : Nat) (e0_1 : n0_1 = x0.Data.length) (hm0 : Mem [] M w0 [.sl (Kd.int .i64) A0_0 c0_0 x0.Shape, .sl Kd.float A0_1 c0_1 x0.Data] w0) (r : Bool) (H0 : law5_MatrixOne.f x0 = some r) :
    Calls Try.prog 12 [.agg #[.slice A0_0 n0_0 c0_0, .slice A0_1 n0_1 c0_1]].toArray w0 (fun x w' => ∃ v, x = .returned v ∧ v = .bool r ∧ Mem [] M w0 [] w') := by
  subst e0_0
  subst e0_1
  unfold law5_MatrixOne.f at H0
  refine enter (n := 100) Try.func12 rfl rfl (by kernel_rfl) fun a0 (hf0 : Fr 100 a0 [(0, .agg #[.slice A0_0 x0.Shape.length c0_0, .slice A0_1 x0.Data.length c0_1])]) => ?_
  refine wp_seq ?_
  refine inReg ?_
  refine listOf hf0 rfl (by kernel_rfl) (aNew (cs := [.slice A0_0 x0.Shape.length c0_0, .slice A0_1 x0.Data.length c0_1]) (T := 42) (d := 1) hf0 (by kernel_rfl) (by kernel_rfl) ?_)
  intro b21 w22 a23 hbb21 hx25 hg26 hf24
  have hm27 := hm0.box hbb21 hx25 hg26
  refine go 1 [] [1] [(1, .pointer (some ⟨b21, 0, none⟩))] [] hf24 (by kernel_rfl) trivial fun a28 hf29 => ?_
  refine endL rfl ?_
  refine thenN ?_
  refine wp_seq ?_
  refine wp_seq ?_
  obtain ⟨r30, hr30, H0⟩ := ob_split H0
  rcases ifb_split H0 with ⟨c31, H0⟩ | ⟨c31, H0⟩
  · refine inReg ?_
    refine listOf hf29 rfl (by kernel_rfl) (aCall (fid := 32) (args := []) (d := 13) hf29 (by kernel_rfl) (by kernel_rfl) callable32 (law5_awake.calls _ _  (hm27.give [] [] rfl rfl) r30 hr30) ?_)
    rintro _ w32 a33 ⟨rfl, hk35⟩ hf34
    have hm36 := hm27.still hk35.cum.none
    rw [c31] at hf34
    refine go 1 [] [1, 14] [(1, .pointer (some ⟨b21, 0, none⟩)), (14, .bool false)] [] hf34 (by kernel_rfl) trivial fun a37 hf38 => ?_
    refine endL rfl ?_
    refine thenN ?_
    refine condF hf38 (by kernel_rfl) ?_
    refine wp_skip ?_
    refine thenN ?_
    refine wp_seq ?_
    refine wp_seq ?_
    obtain ⟨r39, hr39, H0⟩ := ob_split H0
    rcases ifb_split H0 with ⟨c40, H0⟩ | ⟨c40, H0⟩
    · obtain ⟨r41, hr41, H0⟩ := ob_split H0
      rcases ifb_split H0 with ⟨c42, H0⟩ | ⟨c42, H0⟩
      · rcases if_split H0 with ⟨c43, H0⟩ | ⟨c43, H0⟩
        · obtain ⟨g44, H0⟩ := if_guard H0
          rcases if_split H0 with ⟨c45, H0⟩ | ⟨c45, H0⟩
          · refine inReg ?_
            refine go 1 [.agg #[.slice A0_0 x0.Shape.length c0_0, .slice A0_1 x0.Data.length c0_1]] [1, 15] [(1, .pointer (some ⟨b21, 0, none⟩)), (15, .agg #[.slice A0_0 x0.Shape.length c0_0, .slice A0_1 x0.Data.length c0_1])] [.cell ⟨b21, 0, none⟩ (.slice A0_0 x0.Shape.length c0_0), .cell ⟨b21, 1, none⟩ (.slice A0_1 x0.Data.length c0_1)] hf38 (by kernel_rfl) ⟨(hm36.cell 0 rfl rfl), (hm36.cell 0 rfl rfl), trivial⟩ fun a46 hf47 => ?_
            refine listOf hf47 rfl (by kernel_rfl) (aCall (fid := 33) (args := [.agg #[.slice A0_0 x0.Shape.length c0_0, .slice A0_1 x0.Data.length c0_1]]) (d := 16) hf47 (by kernel_rfl) (by kernel_rfl) callable33 (law3_Small.calls _ _ x0 A0_0 x0.Shape.length c0_0 rfl A0_1 x0.Data.length c0_1 rfl (hm36.give [1, 2] [.sl (Kd.int .i64) A0_0 c0_0 x0.Shape, .sl Kd.float A0_1 c0_1 x0.Data] rfl rfl) r39 hr39) ?_)
            rintro _ w48 a49 ⟨rfl, hk51⟩ hf50
            have hm52 := hm36.still hk51.cum.none
            rw [c40] at hf50
            refine go 3 [.agg #[.slice A0_0 x0.Shape.length c0_0, .slice A0_1 x0.Data.length c0_1]] [1, 18, 19] [(1, .pointer (some ⟨b21, 0, none⟩)), (18, .bool false), (19, .agg #[.slice A0_0 x0.Shape.length c0_0, .slice A0_1 x0.Data.length c0_1])] [.cell ⟨b21, 0, none⟩ (.slice A0_0 x0.Shape.length c0_0), .cell ⟨b21, 1, none⟩ (.slice A0_1 x0.Data.length c0_1)] hf50 (by kernel_rfl) ⟨(hm52.cell 0 rfl rfl), (hm52.cell 0 rfl rfl), trivial⟩ fun a53 hf54 => ?_
            refine listOf hf54 rfl (by kernel_rfl) (aCall (fid := 41) (args := [.agg #[.slice A0_0 x0.Shape.length c0_0, .slice A0_1 x0.Data.length c0_1]]) (d := 20) hf54 (by kernel_rfl) (by kernel_rfl) callable41 (ref1_TensorMay.calls _ _ x0 A0_0 x0.Shape.length c0_0 rfl A0_1 x0.Data.length c0_1 rfl (hm52.give [1, 2] [.sl (Kd.int .i64) A0_0 c0_0 x0.Shape, .sl Kd.float A0_1 c0_1 x0.Data] rfl rfl) r41 hr41) ?_)
            rintro _ w55 a56 ⟨rfl, hk58⟩ hf57
            have hm59 := hm52.still hk58.cum.none
            rw [c42] at hf57
            have q60 := (hm59.slAt 1 rfl).int 1 g44.1 g44.2
            refine go 15 [.slice A0_0 x0.Shape.length c0_0, .bool false, .slice A0_0 x0.Shape.length c0_0, .int .i64 (rd x0.Shape 1), .bool true] [1, 35] [(1, .pointer (some ⟨b21, 0, none⟩)), (35, .bool true)] [.cell ⟨b21, 0, none⟩ (.slice A0_0 x0.Shape.length c0_0), .is ((((x0.Shape.length : Int) : Int) != 2) = false), .cell ⟨b21, 0, none⟩ (.slice A0_0 x0.Shape.length c0_0), .is (Option.isSome A0_0 = true), .is ((0 : Int) ≤ 1 ∧ 1 < (x0.Shape.length : Int)), .cell ((ad A0_0).add ((1 : Int).toNat * 1)) (.int .i64 (rd x0.Shape 1)), .is (decide (40 < (rd x0.Shape 1)) = true)] hf57 (by kernel_rfl) ⟨(hm59.cell 0 rfl rfl), (neF c43), (hm59.cell 0 rfl rfl), q60.1, g44, q60.2, (decide_eq_true c45), trivial⟩ fun a61 hf62 => ?_
            refine endL rfl ?_
            refine thenN ?_
            refine condT hf62 (by kernel_rfl) ?_
            refine wp_seq ?_
            refine reg [] [2] [(2, .bool true)] [] hf62 (by kernel_rfl) trivial fun a63 hf65 => ?_
            have hm66 := hm59.sel [] _ rfl (by kernel_rfl)
            refine thenN ?_
            refine wp_ret ?_
            refine thenR ?_
            have hm67 : Mem [] M w0 [] w55 := hm66.sel [] _ rfl (by kernel_rfl)
            obtain rfl := Option.some.inj H0
            refine ret [] [.bool true] [] hf65 (by kernel_rfl) trivial ?_
            exact ⟨_, rfl, rfl, hm67⟩
          · refine inReg ?_
            refine go 1 [.agg #[.slice A0_0 x0.Shape.length c0_0, .slice A0_1 x0.Data.length c0_1]] [1, 15] [(1, .pointer (some ⟨b21, 0, none⟩)), (15, .agg #[.slice A0_0 x0.Shape.length c0_0, .slice A0_1 x0.Data.length c0_1])] [.cell ⟨b21, 0, none⟩ (.slice A0_0 x0.Shape.length c0_0), .cell ⟨b21, 1, none⟩ (.slice A0_1 x0.Data.length c0_1)] hf38 (by kernel_rfl) ⟨(hm36.cell 0 rfl rfl), (hm36.cell 0 rfl rfl), trivial⟩ fun a69 hf70 => ?_
            refine listOf hf70 rfl (by kernel_rfl) (aCall (fid := 33) (args := [.agg #[.slice A0_0 x0.Shape.length c0_0, .slice A0_1 x0.Data.length c0_1]]) (d := 16) hf70 (by kernel_rfl) (by kernel_rfl) callable33 (law3_Small.calls _ _ x0 A0_0 x0.Shape.length c0_0 rfl A0_1 x0.Data.length c0_1 rfl (hm36.give [1, 2] [.sl (Kd.int .i64) A0_0 c0_0 x0.Shape, .sl Kd.float A0_1 c0_1 x0.Data] rfl rfl) r39 hr39) ?_)
            rintro _ w71 a72 ⟨rfl, hk74⟩ hf73
            have hm75 := hm36.still hk74.cum.none
            rw [c40] at hf73
            refine go 3 [.agg #[.slice A0_0 x0.Shape.length c0_0, .slice A0_1 x0.Data.length c0_1]] [1, 18, 19] [(1, .pointer (some ⟨b21, 0, none⟩)), (18, .bool false), (19, .agg #[.slice A0_0 x0.Shape.length c0_0, .slice A0_1 x0.Data.length c0_1])] [.cell ⟨b21, 0, none⟩ (.slice A0_0 x0.Shape.length c0_0), .cell ⟨b21, 1, none⟩ (.slice A0_1 x0.Data.length c0_1)] hf73 (by kernel_rfl) ⟨(hm75.cell 0 rfl rfl), (hm75.cell 0 rfl rfl), trivial⟩ fun a76 hf77 => ?_
            refine listOf hf77 rfl (by kernel_rfl) (aCall (fid := 41) (args := [.agg #[.slice A0_0 x0.Shape.length c0_0, .slice A0_1 x0.Data.length c0_1]]) (d := 20) hf77 (by kernel_rfl) (by kernel_rfl) callable41 (ref1_TensorMay.calls _ _ x0 A0_0 x0.Shape.length c0_0 rfl A0_1 x0.Data.length c0_1 rfl (hm75.give [1, 2] [.sl (Kd.int .i64) A0_0 c0_0 x0.Shape, .sl Kd.float A0_1 c0_1 x0.Data] rfl rfl) r41 hr41) ?_)
            rintro _ w78 a79 ⟨rfl, hk81⟩ hf80
            have hm82 := hm75.still hk81.cum.none
            rw [c42] at hf80
            have q83 := (hm82.slAt 1 rfl).int 1 g44.1 g44.2
            refine go 15 [.slice A0_0 x0.Shape.length c0_0, .bool false, .slice A0_0 x0.Shape.length c0_0, .int .i64 (rd x0.Shape 1), .bool false] [1, 35] [(1, .pointer (some ⟨b21, 0, none⟩)), (35, .bool false)] [.cell ⟨b21, 0, none⟩ (.slice A0_0 x0.Shape.length c0_0), .is ((((x0.Shape.length : Int) : Int) != 2) = false), .cell ⟨b21, 0, none⟩ (.slice A0_0 x0.Shape.length c0_0), .is (Option.isSome A0_0 = true), .is ((0 : Int) ≤ 1 ∧ 1 < (x0.Shape.length : Int)), .cell ((ad A0_0).add ((1 : Int).toNat * 1)) (.int .i64 (rd x0.Shape 1)), .is (decide (40 < (rd x0.Shape 1)) = false)] hf80 (by kernel_rfl) ⟨(hm82.cell 0 rfl rfl), (neF c43), (hm82.cell 0 rfl rfl), q83.1, g44, q83.2, (decide_eq_false c45), trivial⟩ fun a84 hf85 => ?_
            refine endL rfl ?_
            refine thenN ?_
            refine condF hf85 (by kernel_rfl) ?_
            refine wp_skip ?_
            refine thenN ?_
            refine wp_seq ?_
            obtain ⟨r86, hr86, H0⟩ := ob_split H0
            refine inReg ?_
            refine go 1 [.agg #[.slice A0_0 x0.Shape.length c0_0, .slice A0_1 x0.Data.length c0_1]] [1, 37] [(1, .pointer (some ⟨b21, 0, none⟩)), (37, .agg #[.slice A0_0 x0.Shape.length c0_0, .slice A0_1 x0.Data.length c0_1])] [.cell ⟨b21, 0, none⟩ (.slice A0_0 x0.Shape.length c0_0), .cell ⟨b21, 1, none⟩ (.slice A0_1 x0.Data.length c0_1)] hf85 (by kernel_rfl) ⟨(hm82.cell 0 rfl rfl), (hm82.cell 0 rfl rfl), trivial⟩ fun a87 hf88 => ?_
            refine listOf hf88 rfl (by kernel_rfl) (aCall (fid := 37) (args := [.agg #[.slice A0_0 x0.Shape.length c0_0, .slice A0_1 x0.Data.length c0_1]]) (d := 38) hf88 (by kernel_rfl) (by kernel_rfl) callable37 (matrix_Turn.calls _ _ x0 A0_0 x0.Shape.length c0_0 rfl A0_1 x0.Data.length c0_1 rfl (hm82.give [1, 2] [.sl (Kd.int .i64) A0_0 c0_0 x0.Shape, .sl Kd.float A0_1 c0_1 x0.Data] rfl rfl) r86 hr86) ?_)
            rintro _ w93 a94 ⟨A89, c90, A91, c92, rfl, hk96⟩ hf95
            have hm97 := hm82.back hk96
            have hm98 := hm97.seal 0 _ rfl rfl
            have hm99 := hm98.seal 1 _ rfl rfl
            refine go 3 [] [1, 39, 40] [(1, .pointer (some ⟨b21, 0, none⟩)), (39, .agg #[.slice A89 r86.1.Shape.length c90, .slice A91 r86.1.Data.length c92]), (40, .int .i64 r86.2)] [] hf95 (by kernel_rfl) trivial fun a100 hf101 => ?_
            refine listOf hf101 rfl (by kernel_rfl) (aNew (cs := [.slice none 0 0, .slice none 0 0]) (T := 42) (d := 3) hf101 (by kernel_rfl) (by kernel_rfl) ?_)
            intro b102 w103 a104 hbb102 hx106 hg107 hf105
            have hm108 := hm99.box hbb102 hx106 hg107
            refine listOf hf105 rfl (by kernel_rfl) (aStoreB (b := b102) (j := 0) (T := 42) (cs := [.slice none 0 0, .slice none 0 0]) (us := [.slice A89 r86.1.Shape.length c90, .slice A91 r86.1.Data.length c92]) (cs' := [.slice A89 r86.1.Shape.length c90, .slice A91 r86.1.Data.length c92]) hf105 (by kernel_rfl) (hm108.bxAt 0 rfl) (by kernel_rfl) (by kernel_rfl) (by kernel_rfl) ?_)
            intro w109 hx110 hg111
            have hm112 := hm108.setBox 0 _ rfl rfl hx110 hg111
            refine go 1 [] [1, 3, 4] [(1, .pointer (some ⟨b21, 0, none⟩)), (3, .pointer (some ⟨b102, 0, none⟩)), (4, .int .i64 r86.2)] [] hf105 (by kernel_rfl) trivial fun a113 hf114 => ?_
            refine endL rfl ?_
            refine thenN ?_
            refine wp_seq ?_
            obtain ⟨r115, hr115, H0⟩ := ob_split H0
            refine inReg ?_
            refine go 1 [.agg #[.slice A89 r86.1.Shape.length c90, .slice A91 r86.1.Data.length c92]] [1, 4, 42] [(1, .pointer (some ⟨b21, 0, none⟩)), (4, .int .i64 r86.2), (42, .agg #[.slice A89 r86.1.Shape.length c90, .slice A91 r86.1.Data.length c92])] [.cell ⟨b102, 0, none⟩ (.slice A89 r86.1.Shape.length c90), .cell ⟨b102, 1, none⟩ (.slice A91 r86.1.Data.length c92)] hf114 (by kernel_rfl) ⟨(hm112.cell 0 rfl rfl), (hm112.cell 0 rfl rfl), trivial⟩ fun a116 hf117 => ?_
            refine listOf hf117 rfl (by kernel_rfl) (aCall (fid := 37) (args := [.agg #[.slice A89 r86.1.Shape.length c90, .slice A91 r86.1.Data.length c92]]) (d := 43) hf117 (by kernel_rfl) (by kernel_rfl) callable37 (matrix_Turn.calls _ _ r86.1 A89 r86.1.Shape.length c90 rfl A91 r86.1.Data.length c92 rfl (hm112.give [1, 2] [.sl (Kd.int .i64) A89 c90 r86.1.Shape, .sl Kd.float A91 c92 r86.1.Data] rfl rfl) r115 hr115) ?_)
            rintro _ w122 a123 ⟨A118, c119, A120, c121, rfl, hk125⟩ hf124
            have hm126 := hm112.back hk125
            have hm127 := hm126.seal 0 _ rfl rfl
            have hm128 := hm127.seal 1 _ rfl rfl
            refine go 3 [] [1, 4, 44, 45] [(1, .pointer (some ⟨b21, 0, none⟩)), (4, .int .i64 r86.2), (44, .agg #[.slice A118 r115.1.Shape.length c119, .slice A120 r115.1.Data.length c121]), (45, .int .i64 r115.2)] [] hf124 (by kernel_rfl) trivial fun a129 hf130 => ?_
            refine listOf hf130 rfl (by kernel_rfl) (aNew (cs := [.slice none 0 0, .slice none 0 0]) (T := 42) (d := 5) hf130 (by kernel_rfl) (by kernel_rfl) ?_)
            intro b131 w132 a133 hbb131 hx135 hg136 hf134
            have hm137 := hm128.box hbb131 hx135 hg136
            refine listOf hf134 rfl (by kernel_rfl) (aStoreB (b := b131) (j := 0) (T := 42) (cs := [.slice none 0 0, .slice none 0 0]) (us := [.slice A118 r115.1.Shape.length c119, .slice A120 r115.1.Data.length c121]) (cs' := [.slice A118 r115.1.Shape.length c119, .slice A120 r115.1.Data.length c121]) hf134 (by kernel_rfl) (hm137.bxAt 0 rfl) (by kernel_rfl) (by kernel_rfl) (by kernel_rfl) ?_)
            intro w138 hx139 hg140
            have hm141 := hm137.setBox 0 _ rfl rfl hx139 hg140
            refine go 1 [] [1, 4, 5, 6] [(1, .pointer (some ⟨b21, 0, none⟩)), (4, .int .i64 r86.2), (5, .pointer (some ⟨b131, 0, none⟩)), (6, .int .i64 r115.2)] [] hf134 (by kernel_rfl) trivial fun a142 hf143 => ?_
            refine endL rfl ?_
            have hm144 := hm141.sel [0, 1, 2, 6, 7, 8] _ rfl (by kernel_rfl)
            refine thenN ?_
            refine wp_seq ?_
            refine wp_seq ?_
            rcases if_split H0 with ⟨c145, H0⟩ | ⟨c145, H0⟩
            · rcases if_split H0 with ⟨c146, H0⟩ | ⟨c146, H0⟩
              · obtain ⟨r147, hr147, H0⟩ := ob_split H0
                rcases ifb_split H0 with ⟨c148, H0⟩ | ⟨c148, H0⟩
                · refine inReg ?_
                  refine go 9 [.bool false, .bool false, .agg #[.slice A118 r115.1.Shape.length c119, .slice A120 r115.1.Data.length c121], .agg #[.slice A0_0 x0.Shape.length c0_0, .slice A0_1 x0.Data.length c0_1]] [1, 52, 53, 54] [(1, .pointer (some ⟨b21, 0, none⟩)), (52, .bool false), (53, .agg #[.slice A118 r115.1.Shape.length c119, .slice A120 r115.1.Data.length c121]), (54, .agg #[.slice A0_0 x0.Shape.length c0_0, .slice A0_1 x0.Data.length c0_1])] [.is (((r86.2 : Int) != 0) = false), .is (((r115.2 : Int) != 0) = false), .cell ⟨b131, 0, none⟩ (.slice A118 r115.1.Shape.length c119), .cell ⟨b131, 1, none⟩ (.slice A120 r115.1.Data.length c121), .cell ⟨b21, 0, none⟩ (.slice A0_0 x0.Shape.length c0_0), .cell ⟨b21, 1, none⟩ (.slice A0_1 x0.Data.length c0_1)] hf143 (by kernel_rfl) ⟨(neF c145), (neF c146), (hm144.cell 0 rfl rfl), (hm144.cell 0 rfl rfl), (hm144.cell 3 rfl rfl), (hm144.cell 3 rfl rfl), trivial⟩ fun a149 hf150 => ?_
                  refine listOf hf150 rfl (by kernel_rfl) (aCall (fid := 40) (args := [.agg #[.slice A118 r115.1.Shape.length c119, .slice A120 r115.1.Data.length c121], .agg #[.slice A0_0 x0.Shape.length c0_0, .slice A0_1 x0.Data.length c0_1]]) (d := 55) hf150 (by kernel_rfl) (by kernel_rfl) callable40 (ref1_SameTensor.calls _ _ r115.1 A118 r115.1.Shape.length c119 rfl A120 r115.1.Data.length c121 rfl x0 A0_0 x0.Shape.length c0_0 rfl A0_1 x0.Data.length c0_1 rfl (hm144.give [1, 2, 4, 5] [.sl (Kd.int .i64) A118 c119 r115.1.Shape, .sl Kd.float A120 c121 r115.1.Data, .sl (Kd.int .i64) A0_0 c0_0 x0.Shape, .sl Kd.float A0_1 c0_1 x0.Data] rfl rfl) r147 hr147) ?_)
                  rintro _ w151 a152 ⟨rfl, hk154⟩ hf153
                  have hm155 := hm144.still hk154.cum.none
                  rw [c148] at hf153
                  refine go 2 [] [1, 57] [(1, .pointer (some ⟨b21, 0, none⟩)), (57, .bool false)] [] hf153 (by kernel_rfl) trivial fun a156 hf157 => ?_
                  refine endL rfl ?_
                  have hm158 := hm155.sel [3, 4, 5] _ rfl (by kernel_rfl)
                  refine thenN ?_
                  refine condF hf157 (by kernel_rfl) ?_
                  refine wp_skip ?_
                  refine thenN ?_
                  refine wp_seq ?_
                  have q159 := (hm158.slAt 1 rfl).int 1 g44.1 g44.2
                  refine reg [.slice A0_0 x0.Shape.length c0_0, .int .i64 (rd x0.Shape 1)] [1, 7] [(1, .pointer (some ⟨b21, 0, none⟩)), (7, .int .i64 (rd x0.Shape 1))] [.cell ⟨b21, 0, none⟩ (.slice A0_0 x0.Shape.length c0_0), .is (Option.isSome A0_0 = true), .is ((0 : Int) ≤ 1 ∧ 1 < (x0.Shape.length : Int)), .cell ((ad A0_0).add ((1 : Int).toNat * 1)) (.int .i64 (rd x0.Shape 1))] hf157 (by kernel_rfl) ⟨(hm158.cell 0 rfl rfl), q159.1, g44, q159.2, trivial⟩ fun a160 hf161 => ?_
                  refine thenN ?_
                  refine wp_seq ?_
                  obtain ⟨r162, hr162, H0⟩ := ob_split H0
                  refine inReg ?_
                  refine go 2 [] [1, 7, 63, 64] [(1, .pointer (some ⟨b21, 0, none⟩)), (7, .int .i64 (rd x0.Shape 1)), (63, .int .i64 (rd x0.Shape 1)), (64, .int .i64 (rd x0.Shape 1))] [] hf161 (by kernel_rfl) trivial fun a163 hf164 => ?_
                  refine listOf hf164 rfl (by kernel_rfl) (aLit (cs := [.int .i64 (rd x0.Shape 1), .int .i64 (rd x0.Shape 1)]) (E := 3) (len := 2) (d := 65) hf164 (by kernel_rfl) (by kernel_rfl) ?_)
                  intro b165 w166 a167 hbb165 hx169 hg170 hf168
                  have hm158s := hm158.still hg170
                  have hm171 : Mem [] M w0 [.sl (Kd.int .i64) (some ⟨b165, 0, none⟩) 2 ([(rd x0.Shape 1), (rd x0.Shape 1)] : List Int), .bx b21 [.slice A0_0 x0.Shape.length c0_0, .slice A0_1 x0.Data.length c0_1] 42, .sl (Kd.int .i64) A0_0 c0_0 x0.Shape, .sl Kd.float A0_1 c0_1 x0.Data] w166 := Mem.lit (kd := (Kd.int .i64)) (xs := ([(rd x0.Shape 1), (rd x0.Shape 1)] : List Int)) hm158 hbb165 hx169 hg170 (Els.append (Els.one (kd := (Kd.int .i64)) (us := [.int .i64 (rd x0.Shape 1)]) (x := (rd x0.Shape 1)) rfl) (Els.one (kd := (Kd.int .i64)) (us := [.int .i64 (rd x0.Shape 1)]) (x := (rd x0.Shape 1)) rfl))
                  refine listOf hf168 rfl (by kernel_rfl) (aCall (fid := 42) (args := [.slice (some ⟨b165, 0, none⟩) 2 2, .float .f64 0]) (d := 66) hf168 (by kernel_rfl) (by kernel_rfl) callable42 (ref1_New.calls _ _ ([(rd x0.Shape 1), (rd x0.Shape 1)] : List Int) (some ⟨b165, 0, none⟩) 2 2 rfl 0 0 ((FR.lit (by kernel_rfl) (by kernel_rfl))) (hm171.give [0] [.sl (Kd.int .i64) (some ⟨b165, 0, none⟩) 2 ([(rd x0.Shape 1), (rd x0.Shape 1)] : List Int)] rfl rfl) r162 hr162) ?_)
                  rintro _ w176 a177 ⟨A172, c173, A174, c175, rfl, hk179⟩ hf178
                  have hm180 := hm171.back hk179
                  have hm181 := hm180.seal 0 _ rfl rfl
                  refine go 3 [] [1, 7, 67, 68] [(1, .pointer (some ⟨b21, 0, none⟩)), (7, .int .i64 (rd x0.Shape 1)), (67, .agg #[.slice A172 r162.1.Shape.length c173, .slice A174 r162.1.Data.length c175]), (68, .int .i64 r162.2)] [] hf178 (by kernel_rfl) trivial fun a182 hf183 => ?_
                  refine listOf hf183 rfl (by kernel_rfl) (aNew (cs := [.slice none 0 0, .slice none 0 0]) (T := 42) (d := 8) hf183 (by kernel_rfl) (by kernel_rfl) ?_)
                  intro b184 w185 a186 hbb184 hx188 hg189 hf187
                  have hm190 := hm181.box hbb184 hx188 hg189
                  refine listOf hf187 rfl (by kernel_rfl) (aStoreB (b := b184) (j := 0) (T := 42) (cs := [.slice none 0 0, .slice none 0 0]) (us := [.slice A172 r162.1.Shape.length c173, .slice A174 r162.1.Data.length c175]) (cs' := [.slice A172 r162.1.Shape.length c173, .slice A174 r162.1.Data.length c175]) hf187 (by kernel_rfl) (hm190.bxAt 0 rfl) (by kernel_rfl) (by kernel_rfl) (by kernel_rfl) ?_)
                  intro w191 hx192 hg193
                  have hm194 := hm190.setBox 0 _ rfl rfl hx192 hg193
                  refine go 1 [] [1, 7, 8] [(1, .pointer (some ⟨b21, 0, none⟩)), (7, .int .i64 (rd x0.Shape 1)), (8, .pointer (some ⟨b184, 0, none⟩))] [] hf187 (by kernel_rfl) trivial fun a195 hf196 => ?_
                  refine endL rfl ?_
                  have hm197 := hm194.sel [0, 1, 2, 4, 5, 6] _ rfl (by kernel_rfl)
                  refine thenN ?_
                  refine wp_seq ?_
                  refine wp_seq ?_
                  refine reg [] [1, 7, 8, 10] [(1, .pointer (some ⟨b21, 0, none⟩)), (7, .int .i64 (rd x0.Shape 1)), (8, .pointer (some ⟨b184, 0, none⟩)), (10, .int .i64 0)] [] hf196 (by kernel_rfl) trivial fun a198 hf199 => ?_
                  refine thenN ?_
                  obtain ⟨r201, hr201, H0⟩ := ob_split H0
                  refine wpBlock (Mid := fun (a : Act) (w : World) => Fr 100 a [(1, .pointer (some ⟨b21, 0, none⟩)), (7, .int .i64 (rd x0.Shape 1)), (8, .pointer (some ⟨b184, 0, none⟩)), (10, .int .i64 r201.1)] ∧ Mem [] M w0 [.bx b184 [.slice A172 r162.1.Shape.length c173, .slice A174 r201.2.length c175] 42, .sl (Kd.int .i64) A172 c173 r162.1.Shape, .ow Kd.float 47 A174 c175 r201.2, .bx b21 [.slice A0_0 x0.Shape.length c0_0, .slice A0_1 x0.Data.length c0_1] 42, .sl (Kd.int .i64) A0_0 c0_0 x0.Shape, .sl Kd.float A0_1 c0_1 x0.Data] w) ?_ ?_
                  · refine wpLoop (law5_MatrixOne.l0 x0) r201 (fun (s200 : (Int × (List Nat))) (a : Act) (w : World) => Fr 100 a [(1, .pointer (some ⟨b21, 0, none⟩)), (7, .int .i64 (rd x0.Shape 1)), (8, .pointer (some ⟨b184, 0, none⟩)), (10, .int .i64 s200.1)] ∧ Mem [] M w0 [.bx b184 [.slice A172 r162.1.Shape.length c173, .slice A174 s200.2.length c175] 42, .sl (Kd.int .i64) A172 c173 r162.1.Shape, .ow Kd.float 47 A174 c175 s200.2, .bx b21 [.slice A0_0 x0.Shape.length c0_0, .slice A0_1 x0.Data.length c0_1] 42, .sl (Kd.int .i64) A0_0 c0_0 x0.Shape, .sl Kd.float A0_1 c0_1 x0.Data] w) (0, r162.1.Data) hr201 ⟨hf199.sel (l := [1, 7, 8, 10]) (by kernel_rfl), hm197.sel [0, 1, 2, 3, 4, 5] _ rfl (by kernel_rfl)⟩ ?_
                    rintro g202 s200 a203 w204 H1 ⟨hf205, hm206⟩
                    unfold law5_MatrixOne.l0 at H1
                    refine wp_seq ?_
                    refine wp_seq ?_
                    rcases ifS_split H1 with ⟨c207, H1⟩ | ⟨c207, H1⟩
                    · refine reg [.bool true] [1, 7, 8, 10, 71] [(1, .pointer (some ⟨b21, 0, none⟩)), (7, .int .i64 (rd x0.Shape 1)), (8, .pointer (some ⟨b184, 0, none⟩)), (10, .int .i64 s200.1), (71, .bool true)] [.is (decide (s200.1 < (rd x0.Shape 1)) = true)] hf205 (by kernel_rfl) ⟨(decide_eq_true c207), trivial⟩ fun a208 hf209 => ?_
                      refine thenN ?_
                      refine condT hf209 (by kernel_rfl) ?_
                      refine wp_skip ?_
                      refine thenN ?_
                      refine wp_seq ?_
                      refine wp_block ?_
                      obtain ⟨g210, H1⟩ := ifS_guard H1
                      have q211 := (hm206.owAt 2 rfl).float (w64 ((w64 (s200.1 * (rd x0.Shape 1))) + s200.1)) g210.1 g210.2
                      obtain ⟨b212, hb212, kb212⟩ := q211.2
                      refine inReg ?_
                      refine go 8 [.slice A174 s200.2.length c175] [1, 7, 8, 10, 81] [(1, .pointer (some ⟨b21, 0, none⟩)), (7, .int .i64 (rd x0.Shape 1)), (8, .pointer (some ⟨b184, 0, none⟩)), (10, .int .i64 s200.1), (81, .pointer (some ((ad A174).add (((w64 ((w64 (s200.1 * (rd x0.Shape 1))) + s200.1))).toNat * 1))))] [.cell ⟨b184, 1, none⟩ (.slice A174 s200.2.length c175), .is (Option.isSome A174 = true), .is (0 ≤ (w64 ((w64 (s200.1 * (rd x0.Shape 1))) + s200.1)) ∧ (w64 ((w64 (s200.1 * (rd x0.Shape 1))) + s200.1)) < (s200.2.length : Int))] hf209 (by kernel_rfl) ⟨(hm206.cell 0 rfl rfl), q211.1, g210, trivial⟩ fun a213 hf214 => ?_
                      refine listOf hf214 rfl (by kernel_rfl) (aStoreO (kd := Kd.float) (base := 0) (E := 47) (A := A174) (c := c175) (xs := s200.2) (i := (w64 ((w64 (s200.1 * (rd x0.Shape 1))) + s200.1))) (x := 4607182418800017408) (us := [.float .f64 4607182418800017408]) (sz := 1) hf214 (by kernel_rfl) rfl (by kernel_rfl) (hm206.at 2 rfl) ⟨_, rfl, (FR.lit (by kernel_rfl) (by kernel_rfl))⟩ g210.1 g210.2 ?_)
                      intro w215 hx216 hg217
                      have hm218 : Mem [] M w0 [.bx b184 [.slice A172 r162.1.Shape.length c173, .slice A174 s200.2.length c175] 42, .sl (Kd.int .i64) A172 c173 r162.1.Shape, .ow Kd.float 47 A174 c175 (put s200.2 (w64 ((w64 (s200.1 * (rd x0.Shape 1))) + s200.1)) 4607182418800017408), .bx b21 [.slice A0_0 x0.Shape.length c0_0, .slice A0_1 x0.Data.length c0_1] 42, .sl (Kd.int .i64) A0_0 c0_0 x0.Shape, .sl Kd.float A0_1 c0_1 x0.Data] w215 := hm206.setOwn 2 _ rfl rfl hx216 hg217 (.inl rfl)
                      refine endL rfl ?_
                      refine blkN ?_
                      refine thenN ?_
                      refine reg [] [1, 7, 8, 10] [(1, .pointer (some ⟨b21, 0, none⟩)), (7, .int .i64 (rd x0.Shape 1)), (8, .pointer (some ⟨b184, 0, none⟩)), (10, .int .i64 (w64 (s200.1 + 1)))] [] hf214 (by kernel_rfl) trivial fun a219 hf220 => ?_
                      have hf221 : Fr 100 a219 [(1, .pointer (some ⟨b21, 0, none⟩)), (7, .int .i64 (rd x0.Shape 1)), (8, .pointer (some ⟨b184, 0, none⟩)), (10, .int .i64 (w64 (s200.1 + 1)))] := hf220.sel (l := [1, 7, 8, 10]) (by kernel_rfl)
                      have hm222 : Mem [] M w0 [.bx b184 [.slice A172 r162.1.Shape.length c173, .slice A174 s200.2.length c175] 42, .sl (Kd.int .i64) A172 c173 r162.1.Shape, .ow Kd.float 47 A174 c175 (put s200.2 (w64 ((w64 (s200.1 * (rd x0.Shape 1))) + s200.1)) 4607182418800017408), .bx b21 [.slice A0_0 x0.Shape.length c0_0, .slice A0_1 x0.Data.length c0_1] 42, .sl (Kd.int .i64) A0_0 c0_0 x0.Shape, .sl Kd.float A0_1 c0_1 x0.Data] w215 := hm218.sel [0, 1, 2, 3, 4, 5] _ rfl (by kernel_rfl)
                      exact ⟨((w64 (s200.1 + 1)), (put s200.2 (w64 ((w64 (s200.1 * (rd x0.Shape 1))) + s200.1)) 4607182418800017408)), H1, (by simpa only [put_length, List.length_nil] using hf221), (by simpa only [put_length, List.length_nil] using hm222)⟩
                    · refine reg [.bool false] [1, 7, 8, 10, 71] [(1, .pointer (some ⟨b21, 0, none⟩)), (7, .int .i64 (rd x0.Shape 1)), (8, .pointer (some ⟨b184, 0, none⟩)), (10, .int .i64 s200.1), (71, .bool false)] [.is (decide (s200.1 < (rd x0.Shape 1)) = false)] hf205 (by kernel_rfl) ⟨(decide_eq_false c207), trivial⟩ fun a223 hf224 => ?_
                      refine thenN ?_
                      refine condF hf224 (by kernel_rfl) ?_
                      refine wp_exit ?_
                      refine thenE ?_
                      refine thenE ?_
                      obtain rfl := Option.some.inj H1
                      exact .inl ⟨rfl, hf224.sel (l := [1, 7, 8, 10]) (by kernel_rfl), hm206.sel [0, 1, 2, 3, 4, 5] _ rfl (by kernel_rfl)⟩
                  rintro a225 w226 ⟨hf227, hm228⟩
                  refine thenN ?_
                  refine wp_seq ?_
                  obtain ⟨r229, hr229, H0⟩ := ob_split H0
                  refine inReg ?_
                  refine go 2 [.agg #[.slice A0_0 x0.Shape.length c0_0, .slice A0_1 x0.Data.length c0_1], .agg #[.slice A172 r162.1.Shape.length c173, .slice A174 r201.2.length c175]] [1, 83, 84] [(1, .pointer (some ⟨b21, 0, none⟩)), (83, .agg #[.slice A0_0 x0.Shape.length c0_0, .slice A0_1 x0.Data.length c0_1]), (84, .agg #[.slice A172 r162.1.Shape.length c173, .slice A174 r201.2.length c175])] [.cell ⟨b21, 0, none⟩ (.slice A0_0 x0.Shape.length c0_0), .cell ⟨b21, 1, none⟩ (.slice A0_1 x0.Data.length c0_1), .cell ⟨b184, 0, none⟩ (.slice A172 r162.1.Shape.length c173), .cell ⟨b184, 1, none⟩ (.slice A174 r201.2.length c175)] hf227 (by kernel_rfl) ⟨(hm228.cell 3 rfl rfl), (hm228.cell 3 rfl rfl), (hm228.cell 0 rfl rfl), (hm228.cell 0 rfl rfl), trivial⟩ fun a230 hf231 => ?_
                  have hm232 : Mem [] M w0 [.bx b184 [.slice A172 r162.1.Shape.length c173, .slice A174 r201.2.length c175] 42, .sl (Kd.int .i64) A172 c173 r162.1.Shape, .sl Kd.float A174 c175 r201.2, .bx b21 [.slice A0_0 x0.Shape.length c0_0, .slice A0_1 x0.Data.length c0_1] 42, .sl (Kd.int .i64) A0_0 c0_0 x0.Shape, .sl Kd.float A0_1 c0_1 x0.Data] w226 := hm228.seal 2 _ rfl rfl
                  refine listOf hf231 rfl (by kernel_rfl) (aCall (fid := 34) (args := [.agg #[.slice A0_0 x0.Shape.length c0_0, .slice A0_1 x0.Data.length c0_1], .agg #[.slice A172 r162.1.Shape.length c173, .slice A174 r201.2.length c175]]) (d := 85) hf231 (by kernel_rfl) (by kernel_rfl) callable34 (matrix_Mul.calls _ _ x0 A0_0 x0.Shape.length c0_0 rfl A0_1 x0.Data.length c0_1 rfl (⟨r162.1.Shape, r201.2⟩ : Tensor) A172 r162.1.Shape.length c173 rfl A174 r201.2.length c175 rfl (hm232.give [4, 5, 1, 2] [.sl (Kd.int .i64) A0_0 c0_0 x0.Shape, .sl Kd.float A0_1 c0_1 x0.Data, .sl (Kd.int .i64) A172 c173 r162.1.Shape, .sl Kd.float A174 c175 r201.2] rfl rfl) r229 hr229) ?_)
                  rintro _ w237 a238 ⟨A233, c234, A235, c236, rfl, hk240⟩ hf239
                  have hm241 := hm228.backF hk240 ⟨Kd.flat_int _, Kd.flat_float, trivial⟩
                  have hm242 := hm241.seal 0 _ rfl rfl
                  have hm243 := hm242.seal 1 _ rfl rfl
                  refine go 3 [] [1, 86, 87] [(1, .pointer (some ⟨b21, 0, none⟩)), (86, .agg #[.slice A233 r229.1.Shape.length c234, .slice A235 r229.1.Data.length c236]), (87, .int .i64 r229.2)] [] hf239 (by kernel_rfl) trivial fun a244 hf245 => ?_
                  refine listOf hf245 rfl (by kernel_rfl) (aNew (cs := [.slice none 0 0, .slice none 0 0]) (T := 42) (d := 11) hf245 (by kernel_rfl) (by kernel_rfl) ?_)
                  intro b246 w247 a248 hbb246 hx250 hg251 hf249
                  have hm252 := hm243.box hbb246 hx250 hg251
                  refine listOf hf249 rfl (by kernel_rfl) (aStoreB (b := b246) (j := 0) (T := 42) (cs := [.slice none 0 0, .slice none 0 0]) (us := [.slice A233 r229.1.Shape.length c234, .slice A235 r229.1.Data.length c236]) (cs' := [.slice A233 r229.1.Shape.length c234, .slice A235 r229.1.Data.length c236]) hf249 (by kernel_rfl) (hm252.bxAt 0 rfl) (by kernel_rfl) (by kernel_rfl) (by kernel_rfl) ?_)
                  intro w253 hx254 hg255
                  have hm256 := hm252.setBox 0 _ rfl rfl hx254 hg255
                  refine go 1 [] [1, 11, 12] [(1, .pointer (some ⟨b21, 0, none⟩)), (11, .pointer (some ⟨b246, 0, none⟩)), (12, .int .i64 r229.2)] [] hf249 (by kernel_rfl) trivial fun a257 hf258 => ?_
                  refine endL rfl ?_
                  have hm259 := hm256.sel [0, 1, 2, 6, 7, 8] _ rfl (by kernel_rfl)
                  refine thenN ?_
                  refine wp_seq ?_
                  rcases if_split H0 with ⟨c260, H0⟩ | ⟨c260, H0⟩
                  · obtain ⟨r261, hr261, H0⟩ := ob_split H0
                    rcases ifb_split H0 with ⟨c262, H0⟩ | ⟨c262, H0⟩
                    · obtain ⟨r263, hr263, H0⟩ := ob_split H0
                      refine inReg ?_
                      refine go 4 [.bool true, .agg #[.slice A0_0 x0.Shape.length c0_0, .slice A0_1 x0.Data.length c0_1]] [1, 11, 90, 91] [(1, .pointer (some ⟨b21, 0, none⟩)), (11, .pointer (some ⟨b246, 0, none⟩)), (90, .bool true), (91, .agg #[.slice A0_0 x0.Shape.length c0_0, .slice A0_1 x0.Data.length c0_1])] [.is (((r229.2 : Int) == 0) = true), .cell ⟨b21, 0, none⟩ (.slice A0_0 x0.Shape.length c0_0), .cell ⟨b21, 1, none⟩ (.slice A0_1 x0.Data.length c0_1)] hf258 (by kernel_rfl) ⟨(eqT c260), (hm259.cell 3 rfl rfl), (hm259.cell 3 rfl rfl), trivial⟩ fun a264 hf265 => ?_
                      refine listOf hf265 rfl (by kernel_rfl) (aCall (fid := 43) (args := [.agg #[.slice A0_0 x0.Shape.length c0_0, .slice A0_1 x0.Data.length c0_1]]) (d := 92) hf265 (by kernel_rfl) (by kernel_rfl) callable43 (ref1_Finite.calls _ _ x0 A0_0 x0.Shape.length c0_0 rfl A0_1 x0.Data.length c0_1 rfl (hm259.give [4, 5] [.sl (Kd.int .i64) A0_0 c0_0 x0.Shape, .sl Kd.float A0_1 c0_1 x0.Data] rfl rfl) r261 hr261) ?_)
                      rintro _ w266 a267 ⟨rfl, hk269⟩ hf268
                      have hm270 := hm259.still hk269.cum.none
                      rw [c262] at hf268
                      refine go 4 [.agg #[.slice A233 r229.1.Shape.length c234, .slice A235 r229.1.Data.length c236], .agg #[.slice A0_0 x0.Shape.length c0_0, .slice A0_1 x0.Data.length c0_1]] [90, 94, 95, 96] [(90, .bool true), (94, .bool false), (95, .agg #[.slice A233 r229.1.Shape.length c234, .slice A235 r229.1.Data.length c236]), (96, .agg #[.slice A0_0 x0.Shape.length c0_0, .slice A0_1 x0.Data.length c0_1])] [.cell ⟨b246, 0, none⟩ (.slice A233 r229.1.Shape.length c234), .cell ⟨b246, 1, none⟩ (.slice A235 r229.1.Data.length c236), .cell ⟨b21, 0, none⟩ (.slice A0_0 x0.Shape.length c0_0), .cell ⟨b21, 1, none⟩ (.slice A0_1 x0.Data.length c0_1)] hf268 (by kernel_rfl) ⟨(hm270.cell 0 rfl rfl), (hm270.cell 0 rfl rfl), (hm270.cell 3 rfl rfl), (hm270.cell 3 rfl rfl), trivial⟩ fun a271 hf272 => ?_
                      refine listOf hf272 rfl (by kernel_rfl) (aCall (fid := 38) (args := [.agg #[.slice A233 r229.1.Shape.length c234, .slice A235 r229.1.Data.length c236], .agg #[.slice A0_0 x0.Shape.length c0_0, .slice A0_1 x0.Data.length c0_1]]) (d := 97) hf272 (by kernel_rfl) (by kernel_rfl) callable38 (law5_equal.calls _ _ r229.1 A233 r229.1.Shape.length c234 rfl A235 r229.1.Data.length c236 rfl x0 A0_0 x0.Shape.length c0_0 rfl A0_1 x0.Data.length c0_1 rfl (hm270.give [1, 2, 4, 5] [.sl (Kd.int .i64) A233 c234 r229.1.Shape, .sl Kd.float A235 c236 r229.1.Data, .sl (Kd.int .i64) A0_0 c0_0 x0.Shape, .sl Kd.float A0_1 c0_1 x0.Data] rfl rfl) r263 hr263) ?_)
                      rintro _ w273 a274 ⟨rfl, hk276⟩ hf275
                      have hm277 := hm270.still hk276.cum.none
                      refine go 3 [] [2] [(2, .bool r263)] [] hf275 (by kernel_rfl) trivial fun a278 hf279 => ?_
                      refine endL rfl ?_
                      have hm280 := hm277.sel [] _ rfl (by kernel_rfl)
                      refine thenN ?_
                      refine wp_ret ?_
                      have hm281 : Mem [] M w0 [] w273 := hm280.sel [] _ rfl (by kernel_rfl)
                      obtain rfl := Option.some.inj H0
                      refine ret [] [.bool r263] [] hf279 (by kernel_rfl) trivial ?_
                      exact ⟨_, rfl, rfl, hm281⟩
                    · refine inReg ?_
                      refine go 4 [.bool true, .agg #[.slice A0_0 x0.Shape.length c0_0, .slice A0_1 x0.Data.length c0_1]] [1, 11, 90, 91] [(1, .pointer (some ⟨b21, 0, none⟩)), (11, .pointer (some ⟨b246, 0, none⟩)), (90, .bool true), (91, .agg #[.slice A0_0 x0.Shape.length c0_0, .slice A0_1 x0.Data.length c0_1])] [.is (((r229.2 : Int) == 0) = true), .cell ⟨b21, 0, none⟩ (.slice A0_0 x0.Shape.length c0_0), .cell ⟨b21, 1, none⟩ (.slice A0_1 x0.Data.length c0_1)] hf258 (by kernel_rfl) ⟨(eqT c260), (hm259.cell 3 rfl rfl), (hm259.cell 3 rfl rfl), trivial⟩ fun a283 hf284 => ?_
                      refine listOf hf284 rfl (by kernel_rfl) (aCall (fid := 43) (args := [.agg #[.slice A0_0 x0.Shape.length c0_0, .slice A0_1 x0.Data.length c0_1]]) (d := 92) hf284 (by kernel_rfl) (by kernel_rfl) callable43 (ref1_Finite.calls _ _ x0 A0_0 x0.Shape.length c0_0 rfl A0_1 x0.Data.length c0_1 rfl (hm259.give [4, 5] [.sl (Kd.int .i64) A0_0 c0_0 x0.Shape, .sl Kd.float A0_1 c0_1 x0.Data] rfl rfl) r261 hr261) ?_)
                      rintro _ w285 a286 ⟨rfl, hk288⟩ hf287
                      have hm289 := hm259.still hk288.cum.none
                      rw [c262] at hf287
                      refine go 8 [] [2] [(2, .bool true)] [] hf287 (by kernel_rfl) trivial fun a290 hf291 => ?_
                      refine endL rfl ?_
                      have hm292 := hm289.sel [] _ rfl (by kernel_rfl)
                      refine thenN ?_
                      refine wp_ret ?_
                      have hm293 : Mem [] M w0 [] w285 := hm292.sel [] _ rfl (by kernel_rfl)
                      obtain rfl := Option.some.inj H0
                      refine ret [] [.bool true] [] hf291 (by kernel_rfl) trivial ?_
                      exact ⟨_, rfl, rfl, hm293⟩
                  · refine reg [.bool false] [2] [(2, .bool false)] [.is (((r229.2 : Int) == 0) = false)] hf258 (by kernel_rfl) ⟨(eqF c260), trivial⟩ fun a295 hf296 => ?_
                    have hm297 := hm259.sel [] _ rfl (by kernel_rfl)
                    refine thenN ?_
                    refine wp_ret ?_
                    have hm298 : Mem [] M w0 [] w253 := hm297.sel [] _ rfl (by kernel_rfl)
                    obtain rfl := Option.some.inj H0
                    refine ret [] [.bool false] [] hf296 (by kernel_rfl) trivial ?_
                    exact ⟨_, rfl, rfl, hm298⟩
                · refine inReg ?_
                  refine go 9 [.bool false, .bool false, .agg #[.slice A118 r115.1.Shape.length c119, .slice A120 r115.1.Data.length c121], .agg #[.slice A0_0 x0.Shape.length c0_0, .slice A0_1 x0.Data.length c0_1]] [1, 52, 53, 54] [(1, .pointer (some ⟨b21, 0, none⟩)), (52, .bool false), (53, .agg #[.slice A118 r115.1.Shape.length c119, .slice A120 r115.1.Data.length c121]), (54, .agg #[.slice A0_0 x0.Shape.length c0_0, .slice A0_1 x0.Data.length c0_1])] [.is (((r86.2 : Int) != 0) = false), .is (((r115.2 : Int) != 0) = false), .cell ⟨b131, 0, none⟩ (.slice A118 r115.1.Shape.length c119), .cell ⟨b131, 1, none⟩ (.slice A120 r115.1.Data.length c121), .cell ⟨b21, 0, none⟩ (.slice A0_0 x0.Shape.length c0_0), .cell ⟨b21, 1, none⟩ (.slice A0_1 x0.Data.length c0_1)] hf143 (by kernel_rfl) ⟨(neF c145), (neF c146), (hm144.cell 0 rfl rfl), (hm144.cell 0 rfl rfl), (hm144.cell 3 rfl rfl), (hm144.cell 3 rfl rfl), trivial⟩ fun a300 hf301 => ?_
                  refine listOf hf301 rfl (by kernel_rfl) (aCall (fid := 40) (args := [.agg #[.slice A118 r115.1.Shape.length c119, .slice A120 r115.1.Data.length c121], .agg #[.slice A0_0 x0.Shape.length c0_0, .slice A0_1 x0.Data.length c0_1]]) (d := 55) hf301 (by kernel_rfl) (by kernel_rfl) callable40 (ref1_SameTensor.calls _ _ r115.1 A118 r115.1.Shape.length c119 rfl A120 r115.1.Data.length c121 rfl x0 A0_0 x0.Shape.length c0_0 rfl A0_1 x0.Data.length c0_1 rfl (hm144.give [1, 2, 4, 5] [.sl (Kd.int .i64) A118 c119 r115.1.Shape, .sl Kd.float A120 c121 r115.1.Data, .sl (Kd.int .i64) A0_0 c0_0 x0.Shape, .sl Kd.float A0_1 c0_1 x0.Data] rfl rfl) r147 hr147) ?_)
                  rintro _ w302 a303 ⟨rfl, hk305⟩ hf304
                  have hm306 := hm144.still hk305.cum.none
                  rw [c148] at hf304
                  refine go 2 [] [1, 57] [(1, .pointer (some ⟨b21, 0, none⟩)), (57, .bool true)] [] hf304 (by kernel_rfl) trivial fun a307 hf308 => ?_
                  refine endL rfl ?_
                  have hm309 := hm306.sel [3, 4, 5] _ rfl (by kernel_rfl)
                  refine thenN ?_
                  refine condT hf308 (by kernel_rfl) ?_
                  refine wp_seq ?_
                  refine reg [] [2] [(2, .bool false)] [] hf308 (by kernel_rfl) trivial fun a310 hf311 => ?_
                  have hm312 := hm309.sel [] _ rfl (by kernel_rfl)
                  refine thenN ?_
                  refine wp_ret ?_
                  refine thenR ?_
                  have hm313 : Mem [] M w0 [] w302 := hm312.sel [] _ rfl (by kernel_rfl)
                  obtain rfl := Option.some.inj H0
                  refine ret [] [.bool false] [] hf311 (by kernel_rfl) trivial ?_
                  exact ⟨_, rfl, rfl, hm313⟩
              · refine reg [.bool false, .bool true] [1, 57] [(1, .pointer (some ⟨b21, 0, none⟩)), (57, .bool true)] [.is (((r86.2 : Int) != 0) = false), .is (((r115.2 : Int) != 0) = true)] hf143 (by kernel_rfl) ⟨(neF c145), (neT c146), trivial⟩ fun a315 hf316 => ?_
                have hm317 := hm144.sel [3, 4, 5] _ rfl (by kernel_rfl)
                refine thenN ?_
                refine condT hf316 (by kernel_rfl) ?_
                refine wp_seq ?_
                refine reg [] [2] [(2, .bool false)] [] hf316 (by kernel_rfl) trivial fun a318 hf319 => ?_
                have hm320 := hm317.sel [] _ rfl (by kernel_rfl)
                refine thenN ?_
                refine wp_ret ?_
                refine thenR ?_
                have hm321 : Mem [] M w0 [] w138 := hm320.sel [] _ rfl (by kernel_rfl)
                obtain rfl := Option.some.inj H0
                refine ret [] [.bool false] [] hf319 (by kernel_rfl) trivial ?_
                exact ⟨_, rfl, rfl, hm321⟩
            · refine reg [.bool true] [1, 57] [(1, .pointer (some ⟨b21, 0, none⟩)), (57, .bool true)] [.is (((r86.2 : Int) != 0) = true)] hf143 (by kernel_rfl) ⟨(neT c145), trivial⟩ fun a323 hf324 => ?_
              have hm325 := hm144.sel [3, 4, 5] _ rfl (by kernel_rfl)
              refine thenN ?_
              refine condT hf324 (by kernel_rfl) ?_
              refine wp_seq ?_
              refine reg [] [2] [(2, .bool false)] [] hf324 (by kernel_rfl) trivial fun a326 hf327 => ?_
              have hm328 := hm325.sel [] _ rfl (by kernel_rfl)
              refine thenN ?_
              refine wp_ret ?_
              refine thenR ?_
              have hm329 : Mem [] M w0 [] w138 := hm328.sel [] _ rfl (by kernel_rfl)
              obtain rfl := Option.some.inj H0
              refine ret [] [.bool false] [] hf327 (by kernel_rfl) trivial ?_
              exact ⟨_, rfl, rfl, hm329⟩
        · refine inReg ?_
          refine go 1 [.agg #[.slice A0_0 x0.Shape.length c0_0, .slice A0_1 x0.Data.length c0_1]] [1, 15] [(1, .pointer (some ⟨b21, 0, none⟩)), (15, .agg #[.slice A0_0 x0.Shape.length c0_0, .slice A0_1 x0.Data.length c0_1])] [.cell ⟨b21, 0, none⟩ (.slice A0_0 x0.Shape.length c0_0), .cell ⟨b21, 1, none⟩ (.slice A0_1 x0.Data.length c0_1)] hf38 (by kernel_rfl) ⟨(hm36.cell 0 rfl rfl), (hm36.cell 0 rfl rfl), trivial⟩ fun a331 hf332 => ?_
          refine listOf hf332 rfl (by kernel_rfl) (aCall (fid := 33) (args := [.agg #[.slice A0_0 x0.Shape.length c0_0, .slice A0_1 x0.Data.length c0_1]]) (d := 16) hf332 (by kernel_rfl) (by kernel_rfl) callable33 (law3_Small.calls _ _ x0 A0_0 x0.Shape.length c0_0 rfl A0_1 x0.Data.length c0_1 rfl (hm36.give [1, 2] [.sl (Kd.int .i64) A0_0 c0_0 x0.Shape, .sl Kd.float A0_1 c0_1 x0.Data] rfl rfl) r39 hr39) ?_)
          rintro _ w333 a334 ⟨rfl, hk336⟩ hf335
          have hm337 := hm36.still hk336.cum.none
          rw [c40] at hf335
          refine go 3 [.agg #[.slice A0_0 x0.Shape.length c0_0, .slice A0_1 x0.Data.length c0_1]] [1, 18, 19] [(1, .pointer (some ⟨b21, 0, none⟩)), (18, .bool false), (19, .agg #[.slice A0_0 x0.Shape.length c0_0, .slice A0_1 x0.Data.length c0_1])] [.cell ⟨b21, 0, none⟩ (.slice A0_0 x0.Shape.length c0_0), .cell ⟨b21, 1, none⟩ (.slice A0_1 x0.Data.length c0_1)] hf335 (by kernel_rfl) ⟨(hm337.cell 0 rfl rfl), (hm337.cell 0 rfl rfl), trivial⟩ fun a338 hf339 => ?_
          refine listOf hf339 rfl (by kernel_rfl) (aCall (fid := 41) (args := [.agg #[.slice A0_0 x0.Shape.length c0_0, .slice A0_1 x0.Data.length c0_1]]) (d := 20) hf339 (by kernel_rfl) (by kernel_rfl) callable41 (ref1_TensorMay.calls _ _ x0 A0_0 x0.Shape.length c0_0 rfl A0_1 x0.Data.length c0_1 rfl (hm337.give [1, 2] [.sl (Kd.int .i64) A0_0 c0_0 x0.Shape, .sl Kd.float A0_1 c0_1 x0.Data] rfl rfl) r41 hr41) ?_)
          rintro _ w340 a341 ⟨rfl, hk343⟩ hf342
          have hm344 := hm337.still hk343.cum.none
          rw [c42] at hf342
          refine go 15 [.slice A0_0 x0.Shape.length c0_0, .bool true] [1, 35] [(1, .pointer (some ⟨b21, 0, none⟩)), (35, .bool true)] [.cell ⟨b21, 0, none⟩ (.slice A0_0 x0.Shape.length c0_0), .is ((((x0.Shape.length : Int) : Int) != 2) = true)] hf342 (by kernel_rfl) ⟨(hm344.cell 0 rfl rfl), (neT c43), trivial⟩ fun a345 hf346 => ?_
          refine endL rfl ?_
          refine thenN ?_
          refine condT hf346 (by kernel_rfl) ?_
          refine wp_seq ?_
          refine reg [] [2] [(2, .bool true)] [] hf346 (by kernel_rfl) trivial fun a347 hf348 => ?_
          have hm349 := hm344.sel [] _ rfl (by kernel_rfl)
          refine thenN ?_
          refine wp_ret ?_
          refine thenR ?_
          have hm350 : Mem [] M w0 [] w340 := hm349.sel [] _ rfl (by kernel_rfl)
          obtain rfl := Option.some.inj H0
          refine ret [] [.bool true] [] hf348 (by kernel_rfl) trivial ?_
          exact ⟨_, rfl, rfl, hm350⟩
      · refine inReg ?_
        refine go 1 [.agg #[.slice A0_0 x0.Shape.length c0_0, .slice A0_1 x0.Data.length c0_1]] [1, 15] [(1, .pointer (some ⟨b21, 0, none⟩)), (15, .agg #[.slice A0_0 x0.Shape.length c0_0, .slice A0_1 x0.Data.length c0_1])] [.cell ⟨b21, 0, none⟩ (.slice A0_0 x0.Shape.length c0_0), .cell ⟨b21, 1, none⟩ (.slice A0_1 x0.Data.length c0_1)] hf38 (by kernel_rfl) ⟨(hm36.cell 0 rfl rfl), (hm36.cell 0 rfl rfl), trivial⟩ fun a352 hf353 => ?_
        refine listOf hf353 rfl (by kernel_rfl) (aCall (fid := 33) (args := [.agg #[.slice A0_0 x0.Shape.length c0_0, .slice A0_1 x0.Data.length c0_1]]) (d := 16) hf353 (by kernel_rfl) (by kernel_rfl) callable33 (law3_Small.calls _ _ x0 A0_0 x0.Shape.length c0_0 rfl A0_1 x0.Data.length c0_1 rfl (hm36.give [1, 2] [.sl (Kd.int .i64) A0_0 c0_0 x0.Shape, .sl Kd.float A0_1 c0_1 x0.Data] rfl rfl) r39 hr39) ?_)
        rintro _ w354 a355 ⟨rfl, hk357⟩ hf356
        have hm358 := hm36.still hk357.cum.none
        rw [c40] at hf356
        refine go 3 [.agg #[.slice A0_0 x0.Shape.length c0_0, .slice A0_1 x0.Data.length c0_1]] [1, 18, 19] [(1, .pointer (some ⟨b21, 0, none⟩)), (18, .bool false), (19, .agg #[.slice A0_0 x0.Shape.length c0_0, .slice A0_1 x0.Data.length c0_1])] [.cell ⟨b21, 0, none⟩ (.slice A0_0 x0.Shape.length c0_0), .cell ⟨b21, 1, none⟩ (.slice A0_1 x0.Data.length c0_1)] hf356 (by kernel_rfl) ⟨(hm358.cell 0 rfl rfl), (hm358.cell 0 rfl rfl), trivial⟩ fun a359 hf360 => ?_
        refine listOf hf360 rfl (by kernel_rfl) (aCall (fid := 41) (args := [.agg #[.slice A0_0 x0.Shape.length c0_0, .slice A0_1 x0.Data.length c0_1]]) (d := 20) hf360 (by kernel_rfl) (by kernel_rfl) callable41 (ref1_TensorMay.calls _ _ x0 A0_0 x0.Shape.length c0_0 rfl A0_1 x0.Data.length c0_1 rfl (hm358.give [1, 2] [.sl (Kd.int .i64) A0_0 c0_0 x0.Shape, .sl Kd.float A0_1 c0_1 x0.Data] rfl rfl) r41 hr41) ?_)
        rintro _ w361 a362 ⟨rfl, hk364⟩ hf363
        have hm365 := hm358.still hk364.cum.none
        rw [c42] at hf363
        refine go 15 [] [1, 35] [(1, .pointer (some ⟨b21, 0, none⟩)), (35, .bool true)] [] hf363 (by kernel_rfl) trivial fun a366 hf367 => ?_
        refine endL rfl ?_
        refine thenN ?_
        refine condT hf367 (by kernel_rfl) ?_
        refine wp_seq ?_
        refine reg [] [2] [(2, .bool true)] [] hf367 (by kernel_rfl) trivial fun a368 hf369 => ?_
        have hm370 := hm365.sel [] _ rfl (by kernel_rfl)
        refine thenN ?_
        refine wp_ret ?_
        refine thenR ?_
        have hm371 : Mem [] M w0 [] w361 := hm370.sel [] _ rfl (by kernel_rfl)
        obtain rfl := Option.some.inj H0
        refine ret [] [.bool true] [] hf369 (by kernel_rfl) trivial ?_
        exact ⟨_, rfl, rfl, hm371⟩
    · refine inReg ?_
      refine go 1 [.agg #[.slice A0_0 x0.Shape.length c0_0, .slice A0_1 x0.Data.length c0_1]] [1, 15] [(1, .pointer (some ⟨b21, 0, none⟩)), (15, .agg #[.slice A0_0 x0.Shape.length c0_0, .slice A0_1 x0.Data.length c0_1])] [.cell ⟨b21, 0, none⟩ (.slice A0_0 x0.Shape.length c0_0), .cell ⟨b21, 1, none⟩ (.slice A0_1 x0.Data.length c0_1)] hf38 (by kernel_rfl) ⟨(hm36.cell 0 rfl rfl), (hm36.cell 0 rfl rfl), trivial⟩ fun a373 hf374 => ?_
      refine listOf hf374 rfl (by kernel_rfl) (aCall (fid := 33) (args := [.agg #[.slice A0_0 x0.Shape.length c0_0, .slice A0_1 x0.Data.length c0_1]]) (d := 16) hf374 (by kernel_rfl) (by kernel_rfl) callable33 (law3_Small.calls _ _ x0 A0_0 x0.Shape.length c0_0 rfl A0_1 x0.Data.length c0_1 rfl (hm36.give [1, 2] [.sl (Kd.int .i64) A0_0 c0_0 x0.Shape, .sl Kd.float A0_1 c0_1 x0.Data] rfl rfl) r39 hr39) ?_)
      rintro _ w375 a376 ⟨rfl, hk378⟩ hf377
      have hm379 := hm36.still hk378.cum.none
      rw [c40] at hf377
      refine go 19 [] [1, 35] [(1, .pointer (some ⟨b21, 0, none⟩)), (35, .bool true)] [] hf377 (by kernel_rfl) trivial fun a380 hf381 => ?_
      refine endL rfl ?_
      refine thenN ?_
      refine condT hf381 (by kernel_rfl) ?_
      refine wp_seq ?_
      refine reg [] [2] [(2, .bool true)] [] hf381 (by kernel_rfl) trivial fun a382 hf383 => ?_
      have hm384 := hm379.sel [] _ rfl (by kernel_rfl)
      refine thenN ?_
      refine wp_ret ?_
      refine thenR ?_
      have hm385 : Mem [] M w0 [] w375 := hm384.sel [] _ rfl (by kernel_rfl)
      obtain rfl := Option.some.inj H0
      refine ret [] [.bool true] [] hf383 (by kernel_rfl) trivial ?_
      exact ⟨_, rfl, rfl, hm385⟩
  · refine inReg ?_
    refine listOf hf29 rfl (by kernel_rfl) (aCall (fid := 32) (args := []) (d := 13) hf29 (by kernel_rfl) (by kernel_rfl) callable32 (law5_awake.calls _ _  (hm27.give [] [] rfl rfl) r30 hr30) ?_)
    rintro _ w387 a388 ⟨rfl, hk390⟩ hf389
    have hm391 := hm27.still hk390.cum.none
    rw [c31] at hf389
    refine go 1 [] [1, 14] [(1, .pointer (some ⟨b21, 0, none⟩)), (14, .bool true)] [] hf389 (by kernel_rfl) trivial fun a392 hf393 => ?_
    refine endL rfl ?_
    refine thenN ?_
    refine condT hf393 (by kernel_rfl) ?_
    refine wp_seq ?_
    refine reg [] [2] [(2, .bool false)] [] hf393 (by kernel_rfl) trivial fun a394 hf395 => ?_
    have hm396 := hm391.sel [] _ rfl (by kernel_rfl)
    refine thenN ?_
    refine wp_ret ?_
    refine thenR ?_
    have hm397 : Mem [] M w0 [] w387 := hm396.sel [] _ rfl (by kernel_rfl)
    obtain rfl := Option.some.inj H0
    refine ret [] [.bool false] [] hf395 (by kernel_rfl) trivial ?_
    exact ⟨_, rfl, rfl, hm397⟩
end Go.Proofs.Ytkcgiolledmbnaa
