/- Printed by gen.py. -/
import Derived.Test.YtkcgiolledmbnaaF2
import Derived.Test.YtkcgiolledmbnaaF3
namespace Go.Proofs.Ytkcgiolledmbnaa
open Go Go.RowKit
set_option linter.unusedSimpArgs false
set_option linter.unusedVariables false
set_option linter.unnecessarySimpa false
/-! ### backstitch/backstitchlaw5.MatrixRows -/
noncomputable def law5_MatrixRows.l0 (x0 : Tensor) (x1 : Tensor) (x2 : (Int × Int)) (s180 : (Int × (List Nat))) : Step (Int × (List Nat)) (Int × (List Nat)) :=
  if s180.1 < (rd x0.Shape 1) then (if 0 ≤ (w64 ((w64 (s180.1 * (rd x1.Shape 1))) + (Int.tmod (w64 (x2.2)) (rd x1.Shape 1)))) ∧ (w64 ((w64 (s180.1 * (rd x1.Shape 1))) + (Int.tmod (w64 (x2.2)) (rd x1.Shape 1)))) < (x1.Data.length : Int) then (if s180.2.length + 1 ≤ 549755813888 then (.next ((w64 (s180.1 + 1)), (s180.2 ++ ([(rd x1.Data (w64 ((w64 (s180.1 * (rd x1.Shape 1))) + (Int.tmod (w64 (x2.2)) (rd x1.Shape 1)))))] : List Nat))))
  else .bad)
  else .bad)
  else (.done (s180.1, s180.2))
noncomputable def law5_MatrixRows.f (x0 : Tensor) (x1 : Tensor) (x2 : (Int × Int)) : Option Bool :=
  (law5_awake.f).bind fun r44 =>
  if r44 = true then ((law3_Small.f x0).bind fun r53 =>
  if r53 = true then ((law3_Small.f x1).bind fun r55 =>
  if r55 = true then ((matrix_Mul.f x0 x1).bind fun r74 =>
  if r74.2 = 0 then (if (0 : Int) ≤ 1 ∧ 1 < (x0.Shape.length : Int) then (if (0 : Int) ≤ 1 ∧ 1 < (x1.Shape.length : Int) then (if (0 : Int) ≤ 0 ∧ 0 < (x0.Shape.length : Int) then (if (rd x0.Shape 0) ≠ 0 then (if (rd x1.Shape 1) ≠ 0 then (if 0 ≤ (w64 ((w64 ((Int.tmod (w64 (x2.1)) (rd x0.Shape 0)) * (rd x0.Shape 1))) + (rd x0.Shape 1))) ∧ (w64 ((w64 ((Int.tmod (w64 (x2.1)) (rd x0.Shape 0)) * (rd x0.Shape 1))) + (rd x0.Shape 1))) ≤ (x0.Data.length : Int) then (if 0 ≤ (w64 ((Int.tmod (w64 (x2.1)) (rd x0.Shape 0)) * (rd x0.Shape 1))) ∧ (w64 ((Int.tmod (w64 (x2.1)) (rd x0.Shape 0)) * (rd x0.Shape 1))) ≤ (w64 ((w64 ((Int.tmod (w64 (x2.1)) (rd x0.Shape 0)) * (rd x0.Shape 1))) + (rd x0.Shape 1))) then ((loop (law5_MatrixRows.l0 x0 x1 x2) (0, ([] : (List Nat)))).bind fun r183 =>
  (matrix_Mul.f (⟨([1, (rd x0.Shape 1)] : List Int), ((List.take (((w64 ((w64 ((Int.tmod (w64 (x2.1)) (rd x0.Shape 0)) * (rd x0.Shape 1))) + (rd x0.Shape 1)))).toNat) x0.Data).drop (((w64 ((Int.tmod (w64 (x2.1)) (rd x0.Shape 0)) * (rd x0.Shape 1)))).toNat))⟩ : Tensor) x1).bind fun r296 =>
  (matrix_Mul.f (⟨([1, (rd x0.Shape 1)] : List Int), ((List.take (((w64 ((w64 ((Int.tmod (w64 (x2.1)) (rd x0.Shape 0)) * (rd x0.Shape 1))) + (rd x0.Shape 1)))).toNat) x0.Data).drop (((w64 ((Int.tmod (w64 (x2.1)) (rd x0.Shape 0)) * (rd x0.Shape 1)))).toNat))⟩ : Tensor) (⟨([(rd x0.Shape 1), 1] : List Int), r183.2⟩ : Tensor)).bind fun r326 =>
  if r296.2 = 0 then (if r326.2 = 0 then (if 0 ≤ (Int.tmod (w64 (x2.2)) (rd x1.Shape 1)) ∧ (Int.tmod (w64 (x2.2)) (rd x1.Shape 1)) < (r296.1.Data.length : Int) then (if 0 ≤ (w64 ((w64 ((Int.tmod (w64 (x2.1)) (rd x0.Shape 0)) * (rd x1.Shape 1))) + (Int.tmod (w64 (x2.2)) (rd x1.Shape 1)))) ∧ (w64 ((w64 ((Int.tmod (w64 (x2.1)) (rd x0.Shape 0)) * (rd x1.Shape 1))) + (Int.tmod (w64 (x2.2)) (rd x1.Shape 1)))) < (r74.1.Data.length : Int) then ((ref1_Same.f (rd r296.1.Data (Int.tmod (w64 (x2.2)) (rd x1.Shape 1))) (rd r74.1.Data (w64 ((w64 ((Int.tmod (w64 (x2.1)) (rd x0.Shape 0)) * (rd x1.Shape 1))) + (Int.tmod (w64 (x2.2)) (rd x1.Shape 1)))))).bind fun r361 =>
  if r361 = true then (if (0 : Int) ≤ 0 ∧ 0 < (r326.1.Data.length : Int) then ((ref1_Same.f (rd r326.1.Data 0) (rd r74.1.Data (w64 ((w64 ((Int.tmod (w64 (x2.1)) (rd x0.Shape 0)) * (rd x1.Shape 1))) + (Int.tmod (w64 (x2.2)) (rd x1.Shape 1)))))).bind fun r364 =>
  some r364)
  else none)
  else (some false))
  else none)
  else none)
  else (some false))
  else (some false))
  else none)
  else none)
  else none)
  else none)
  else none)
  else none)
  else none)
  else (some true))
  else (some true))
  else (some true))
  else (some false)
set_option maxRecDepth 100000 in
set_option maxHeartbeats 4000000 in
theorem law5_MatrixRows.calls (M : List (Option Nat)) (w0 : World) (x0 : Tensor) (A0_0 : Option Addr) (n0_0 c0_0 : Nat) (e0_0 : n0_0 = x0.Shape.length) (A0_1 : Option Addr) (n0_1 c0_1 : Nat) (e0_1 : n0_1 = x0.Data.length) (x1 : Tensor) (A1_0 : Option Addr) (n1_0 c1_0 : Nat) (e1_0 : n1_0 = x1.Shape.length) (A1_1 : Option Addr) (n1_1 c1_1 : Nat) (e1_1 : n1_1 = x1.Data.length) (x2 : (Int × Int)) (hm0 : Mem [] M w0 [.sl (Kd.int .i64) A0_0 c0_0 x0.Shape, .sl Kd.float A0_1 c0_1 x0.Data, .sl (Kd.int .i64) A1_0 c1_0 x1.Shape, .sl Kd.float A1_1 c1_1 x1.Data] w0) (r : Bool) (H0 : law5_MatrixRows.f x0 x1 x2 = some r) :
    Calls Try.prog 9 [.agg #[.slice A0_0 n0_0 c0_0, .slice A0_1 n0_1 c0_1], .agg #[.slice A1_0 n1_0 c1_0, .slice A1_1 n1_1 c1_1], .agg #[.int .u8 x2.1, .int .u8 x2.2]].toArray w0 (fun x w' => ∃ v, x = .returned v ∧ v = .bool r ∧ Mem [] M w0 [] w') := by
  subst e0_0
  subst e0_1
  subst e1_0
  subst e1_1
  unfold law5_MatrixRows.f at H0
  refine enter (n := 146) Try.func9 rfl rfl (by kernel_rfl) fun a0 (hf0 : Fr 146 a0 [(0, .agg #[.slice A0_0 x0.Shape.length c0_0, .slice A0_1 x0.Data.length c0_1]), (1, .agg #[.slice A1_0 x1.Shape.length c1_0, .slice A1_1 x1.Data.length c1_1]), (2, .agg #[.int .u8 x2.1, .int .u8 x2.2])]) => ?_
  refine wp_seq ?_
  refine inReg ?_
  refine listOf hf0 rfl (by kernel_rfl) (aNew (cs := [.slice A0_0 x0.Shape.length c0_0, .slice A0_1 x0.Data.length c0_1]) (T := 42) (d := 3) hf0 (by kernel_rfl) (by kernel_rfl) ?_)
  intro b21 w22 a23 hbb21 hx25 hg26 hf24
  have hm27 := hm0.box hbb21 hx25 hg26
  refine listOf hf24 rfl (by kernel_rfl) (aNew (cs := [.slice A1_0 x1.Shape.length c1_0, .slice A1_1 x1.Data.length c1_1]) (T := 42) (d := 4) hf24 (by kernel_rfl) (by kernel_rfl) ?_)
  intro b28 w29 a30 hbb28 hx32 hg33 hf31
  have hm34 := hm27.box hbb28 hx32 hg33
  refine listOf hf31 rfl (by kernel_rfl) (aNew (cs := [.int .u8 x2.1, .int .u8 x2.2]) (T := 43) (d := 5) hf31 (by kernel_rfl) (by kernel_rfl) ?_)
  intro b35 w36 a37 hbb35 hx39 hg40 hf38
  have hm41 := hm34.box hbb35 hx39 hg40
  refine go 1 [] [3, 4, 5] [(3, .pointer (some ⟨b21, 0, none⟩)), (4, .pointer (some ⟨b28, 0, none⟩)), (5, .pointer (some ⟨b35, 0, none⟩))] [] hf38 (by kernel_rfl) trivial fun a42 hf43 => ?_
  refine endL rfl ?_
  refine thenN ?_
  refine wp_seq ?_
  refine wp_seq ?_
  obtain ⟨r44, hr44, H0⟩ := ob_split H0
  rcases ifb_split H0 with ⟨c45, H0⟩ | ⟨c45, H0⟩
  · refine inReg ?_
    refine listOf hf43 rfl (by kernel_rfl) (aCall (fid := 32) (args := []) (d := 20) hf43 (by kernel_rfl) (by kernel_rfl) callable32 (law5_awake.calls _ _  (hm41.give [] [] rfl rfl) r44 hr44) ?_)
    rintro _ w46 a47 ⟨rfl, hk49⟩ hf48
    have hm50 := hm41.still hk49.cum.none
    rw [c45] at hf48
    refine go 1 [] [3, 4, 5, 21] [(3, .pointer (some ⟨b21, 0, none⟩)), (4, .pointer (some ⟨b28, 0, none⟩)), (5, .pointer (some ⟨b35, 0, none⟩)), (21, .bool false)] [] hf48 (by kernel_rfl) trivial fun a51 hf52 => ?_
    refine endL rfl ?_
    refine thenN ?_
    refine condF hf52 (by kernel_rfl) ?_
    refine wp_skip ?_
    refine thenN ?_
    refine wp_seq ?_
    refine wp_seq ?_
    obtain ⟨r53, hr53, H0⟩ := ob_split H0
    rcases ifb_split H0 with ⟨c54, H0⟩ | ⟨c54, H0⟩
    · obtain ⟨r55, hr55, H0⟩ := ob_split H0
      rcases ifb_split H0 with ⟨c56, H0⟩ | ⟨c56, H0⟩
      · refine inReg ?_
        refine go 1 [.agg #[.slice A0_0 x0.Shape.length c0_0, .slice A0_1 x0.Data.length c0_1]] [3, 4, 5, 22] [(3, .pointer (some ⟨b21, 0, none⟩)), (4, .pointer (some ⟨b28, 0, none⟩)), (5, .pointer (some ⟨b35, 0, none⟩)), (22, .agg #[.slice A0_0 x0.Shape.length c0_0, .slice A0_1 x0.Data.length c0_1])] [.cell ⟨b21, 0, none⟩ (.slice A0_0 x0.Shape.length c0_0), .cell ⟨b21, 1, none⟩ (.slice A0_1 x0.Data.length c0_1)] hf52 (by kernel_rfl) ⟨(hm50.cell 2 rfl rfl), (hm50.cell 2 rfl rfl), trivial⟩ fun a57 hf58 => ?_
        refine listOf hf58 rfl (by kernel_rfl) (aCall (fid := 33) (args := [.agg #[.slice A0_0 x0.Shape.length c0_0, .slice A0_1 x0.Data.length c0_1]]) (d := 23) hf58 (by kernel_rfl) (by kernel_rfl) callable33 (law3_Small.calls _ _ x0 A0_0 x0.Shape.length c0_0 rfl A0_1 x0.Data.length c0_1 rfl (hm50.give [3, 4] [.sl (Kd.int .i64) A0_0 c0_0 x0.Shape, .sl Kd.float A0_1 c0_1 x0.Data] rfl rfl) r53 hr53) ?_)
        rintro _ w59 a60 ⟨rfl, hk62⟩ hf61
        have hm63 := hm50.still hk62.cum.none
        rw [c54] at hf61
        refine go 3 [.agg #[.slice A1_0 x1.Shape.length c1_0, .slice A1_1 x1.Data.length c1_1]] [3, 4, 5, 25, 26] [(3, .pointer (some ⟨b21, 0, none⟩)), (4, .pointer (some ⟨b28, 0, none⟩)), (5, .pointer (some ⟨b35, 0, none⟩)), (25, .bool false), (26, .agg #[.slice A1_0 x1.Shape.length c1_0, .slice A1_1 x1.Data.length c1_1])] [.cell ⟨b28, 0, none⟩ (.slice A1_0 x1.Shape.length c1_0), .cell ⟨b28, 1, none⟩ (.slice A1_1 x1.Data.length c1_1)] hf61 (by kernel_rfl) ⟨(hm63.cell 1 rfl rfl), (hm63.cell 1 rfl rfl), trivial⟩ fun a65 hf66 => ?_
        refine listOf hf66 rfl (by kernel_rfl) (aCall (fid := 33) (args := [.agg #[.slice A1_0 x1.Shape.length c1_0, .slice A1_1 x1.Data.length c1_1]]) (d := 27) hf66 (by kernel_rfl) (by kernel_rfl) callable33 (law3_Small.calls _ _ x1 A1_0 x1.Shape.length c1_0 rfl A1_1 x1.Data.length c1_1 rfl (hm63.give [5, 6] [.sl (Kd.int .i64) A1_0 c1_0 x1.Shape, .sl Kd.float A1_1 c1_1 x1.Data] rfl rfl) r55 hr55) ?_)
        rintro _ w67 a68 ⟨rfl, hk70⟩ hf69
        have hm71 := hm63.still hk70.cum.none
        rw [c56] at hf69
        refine go 2 [] [3, 4, 5, 29] [(3, .pointer (some ⟨b21, 0, none⟩)), (4, .pointer (some ⟨b28, 0, none⟩)), (5, .pointer (some ⟨b35, 0, none⟩)), (29, .bool false)] [] hf69 (by kernel_rfl) trivial fun a72 hf73 => ?_
        refine endL rfl ?_
        refine thenN ?_
        refine condF hf73 (by kernel_rfl) ?_
        refine wp_skip ?_
        refine thenN ?_
        refine wp_seq ?_
        obtain ⟨r74, hr74, H0⟩ := ob_split H0
        refine inReg ?_
        refine go 2 [.agg #[.slice A0_0 x0.Shape.length c0_0, .slice A0_1 x0.Data.length c0_1], .agg #[.slice A1_0 x1.Shape.length c1_0, .slice A1_1 x1.Data.length c1_1]] [3, 4, 5, 31, 32] [(3, .pointer (some ⟨b21, 0, none⟩)), (4, .pointer (some ⟨b28, 0, none⟩)), (5, .pointer (some ⟨b35, 0, none⟩)), (31, .agg #[.slice A0_0 x0.Shape.length c0_0, .slice A0_1 x0.Data.length c0_1]), (32, .agg #[.slice A1_0 x1.Shape.length c1_0, .slice A1_1 x1.Data.length c1_1])] [.cell ⟨b21, 0, none⟩ (.slice A0_0 x0.Shape.length c0_0), .cell ⟨b21, 1, none⟩ (.slice A0_1 x0.Data.length c0_1), .cell ⟨b28, 0, none⟩ (.slice A1_0 x1.Shape.length c1_0), .cell ⟨b28, 1, none⟩ (.slice A1_1 x1.Data.length c1_1)] hf73 (by kernel_rfl) ⟨(hm71.cell 2 rfl rfl), (hm71.cell 2 rfl rfl), (hm71.cell 1 rfl rfl), (hm71.cell 1 rfl rfl), trivial⟩ fun a75 hf76 => ?_
        refine listOf hf76 rfl (by kernel_rfl) (aCall (fid := 34) (args := [.agg #[.slice A0_0 x0.Shape.length c0_0, .slice A0_1 x0.Data.length c0_1], .agg #[.slice A1_0 x1.Shape.length c1_0, .slice A1_1 x1.Data.length c1_1]]) (d := 33) hf76 (by kernel_rfl) (by kernel_rfl) callable34 (matrix_Mul.calls _ _ x0 A0_0 x0.Shape.length c0_0 rfl A0_1 x0.Data.length c0_1 rfl x1 A1_0 x1.Shape.length c1_0 rfl A1_1 x1.Data.length c1_1 rfl (hm71.give [3, 4, 5, 6] [.sl (Kd.int .i64) A0_0 c0_0 x0.Shape, .sl Kd.float A0_1 c0_1 x0.Data, .sl (Kd.int .i64) A1_0 c1_0 x1.Shape, .sl Kd.float A1_1 c1_1 x1.Data] rfl rfl) r74 hr74) ?_)
        rintro _ w81 a82 ⟨A77, c78, A79, c80, rfl, hk84⟩ hf83
        have hm85 := hm71.back hk84
        have hm86 := hm85.seal 0 _ rfl rfl
        have hm87 := hm86.seal 1 _ rfl rfl
        refine go 3 [] [3, 4, 5, 34, 35] [(3, .pointer (some ⟨b21, 0, none⟩)), (4, .pointer (some ⟨b28, 0, none⟩)), (5, .pointer (some ⟨b35, 0, none⟩)), (34, .agg #[.slice A77 r74.1.Shape.length c78, .slice A79 r74.1.Data.length c80]), (35, .int .i64 r74.2)] [] hf83 (by kernel_rfl) trivial fun a88 hf89 => ?_
        refine listOf hf89 rfl (by kernel_rfl) (aNew (cs := [.slice none 0 0, .slice none 0 0]) (T := 42) (d := 7) hf89 (by kernel_rfl) (by kernel_rfl) ?_)
        intro b90 w91 a92 hbb90 hx94 hg95 hf93
        have hm96 := hm87.box hbb90 hx94 hg95
        refine listOf hf93 rfl (by kernel_rfl) (aStoreB (b := b90) (j := 0) (T := 42) (cs := [.slice none 0 0, .slice none 0 0]) (us := [.slice A77 r74.1.Shape.length c78, .slice A79 r74.1.Data.length c80]) (cs' := [.slice A77 r74.1.Shape.length c78, .slice A79 r74.1.Data.length c80]) hf93 (by kernel_rfl) (hm96.bxAt 0 rfl) (by kernel_rfl) (by kernel_rfl) (by kernel_rfl) ?_)
        intro w97 hx98 hg99
        have hm100 := hm96.setBox 0 _ rfl rfl hx98 hg99
        refine go 1 [] [3, 4, 5, 7, 8] [(3, .pointer (some ⟨b21, 0, none⟩)), (4, .pointer (some ⟨b28, 0, none⟩)), (5, .pointer (some ⟨b35, 0, none⟩)), (7, .pointer (some ⟨b90, 0, none⟩)), (8, .int .i64 r74.2)] [] hf93 (by kernel_rfl) trivial fun a101 hf102 => ?_
        refine endL rfl ?_
        refine thenN ?_
        refine wp_seq ?_
        refine wp_seq ?_
        rcases if_split H0 with ⟨c103, H0⟩ | ⟨c103, H0⟩
        · refine reg [.bool false] [3, 4, 5, 7, 37] [(3, .pointer (some ⟨b21, 0, none⟩)), (4, .pointer (some ⟨b28, 0, none⟩)), (5, .pointer (some ⟨b35, 0, none⟩)), (7, .pointer (some ⟨b90, 0, none⟩)), (37, .bool false)] [.is (((r74.2 : Int) != 0) = false)] hf102 (by kernel_rfl) ⟨(neF c103), trivial⟩ fun a104 hf105 => ?_
          refine thenN ?_
          refine condF hf105 (by kernel_rfl) ?_
          refine wp_skip ?_
          refine thenN ?_
          refine wp_seq ?_
          obtain ⟨g106, H0⟩ := if_guard H0
          obtain ⟨g107, H0⟩ := if_guard H0
          have q108 := (hm100.slAt 6 rfl).int 1 g106.1 g106.2
          have q109 := (hm100.slAt 8 rfl).int 1 g107.1 g107.2
          refine regQ [.slice A0_0 x0.Shape.length c0_0, .int .i64 (rd x0.Shape 1), .slice A1_0 x1.Shape.length c1_0, .int .i64 (rd x1.Shape 1)] [3, 4, 5, 7, 9, 10] [(3, .pointer (some ⟨b21, 0, none⟩)), (4, .pointer (some ⟨b28, 0, none⟩)), (5, .pointer (some ⟨b35, 0, none⟩)), (7, .pointer (some ⟨b90, 0, none⟩)), (9, .int .i64 (rd x0.Shape 1)), (10, .int .i64 (rd x1.Shape 1))] [.cell ⟨b21, 0, none⟩ (.slice A0_0 x0.Shape.length c0_0), .is (Option.isSome A0_0 = true), .is ((0 : Int) ≤ 1 ∧ 1 < (x0.Shape.length : Int)), .cell ((ad A0_0).add ((1 : Int).toNat * 1)) (.int .i64 (rd x0.Shape 1)), .cell ⟨b28, 0, none⟩ (.slice A1_0 x1.Shape.length c1_0), .is (Option.isSome A1_0 = true), .is ((0 : Int) ≤ 1 ∧ 1 < (x1.Shape.length : Int)), .cell ((ad A1_0).add ((1 : Int).toNat * 1)) (.int .i64 (rd x1.Shape 1))] (by kernel_rfl) (by kernel_rfl) hf105 (by kernel_rfl) ⟨(hm100.cell 5 rfl rfl), q108.1, g106, q108.2, (hm100.cell 4 rfl rfl), q109.1, g107, q109.2, trivial⟩ fun a110 w112 hf111 hg113 => ?_
          have hm114 := hm100.still hg113
          refine thenN ?_
          refine wp_seq ?_
          obtain ⟨g115, H0⟩ := if_guard H0
          obtain ⟨g116, H0⟩ := if_guard H0
          obtain ⟨g117, H0⟩ := if_guard H0
          have q118 := (hm114.slAt 6 rfl).int 0 g115.1 g115.2
          refine regQ [.int .u8 x2.1, .slice A0_0 x0.Shape.length c0_0, .int .i64 (rd x0.Shape 0), .int .u8 x2.2] [3, 4, 7, 9, 10, 11, 12] [(3, .pointer (some ⟨b21, 0, none⟩)), (4, .pointer (some ⟨b28, 0, none⟩)), (7, .pointer (some ⟨b90, 0, none⟩)), (9, .int .i64 (rd x0.Shape 1)), (10, .int .i64 (rd x1.Shape 1)), (11, .int .i64 (Int.tmod (w64 (x2.1)) (rd x0.Shape 0))), (12, .int .i64 (Int.tmod (w64 (x2.2)) (rd x1.Shape 1)))] [.is ((0 : Int) ≤ 0 ∧ 0 < (2 : Int)), .cell ⟨b35, 0, none⟩ (.int .u8 x2.1), .cell ⟨b21, 0, none⟩ (.slice A0_0 x0.Shape.length c0_0), .is (Option.isSome A0_0 = true), .is ((0 : Int) ≤ 0 ∧ 0 < (x0.Shape.length : Int)), .cell ((ad A0_0).add ((0 : Int).toNat * 1)) (.int .i64 (rd x0.Shape 0)), .is ((rd x0.Shape 0) ≠ 0), .is ((0 : Int) ≤ 1 ∧ 1 < (2 : Int)), .cell ⟨b35, 1, none⟩ (.int .u8 x2.2), .is ((rd x1.Shape 1) ≠ 0)] (by kernel_rfl) (by kernel_rfl) hf111 (by kernel_rfl) ⟨(okIs (by decide)), (hm114.cell 3 rfl rfl), (hm114.cell 5 rfl rfl), q118.1, g115, q118.2, g116, (okIs (by decide)), (hm114.cell 3 rfl rfl), g117, trivial⟩ fun a119 w121 hf120 hg122 => ?_
          have hm123 := hm114.still hg122
          have hm124 := hm123.sel [0, 1, 2, 4, 5, 6, 7, 8, 9] _ rfl (by kernel_rfl)
          refine thenN ?_
          refine wp_seq ?_
          obtain ⟨g125, H0⟩ := if_guard H0
          obtain ⟨g126, H0⟩ := if_guard H0
          refine inReg ?_
          refine go 1 [] [3, 4, 7, 9, 10, 11, 12, 59] [(3, .pointer (some ⟨b21, 0, none⟩)), (4, .pointer (some ⟨b28, 0, none⟩)), (7, .pointer (some ⟨b90, 0, none⟩)), (9, .int .i64 (rd x0.Shape 1)), (10, .int .i64 (rd x1.Shape 1)), (11, .int .i64 (Int.tmod (w64 (x2.1)) (rd x0.Shape 0))), (12, .int .i64 (Int.tmod (w64 (x2.2)) (rd x1.Shape 1))), (59, .int .i64 (rd x0.Shape 1))] [] hf120 (by kernel_rfl) trivial fun a127 hf128 => ?_
          refine listOf hf128 rfl (by kernel_rfl) (aLit (cs := [.int .i64 1, .int .i64 (rd x0.Shape 1)]) (E := 3) (len := 2) (d := 60) hf128 (by kernel_rfl) (by kernel_rfl) ?_)
          intro b129 w130 a131 hbb129 hx133 hg134 hf132
          have hm124s := hm124.still hg134
          have hm135 : Mem [] M w0 [.sl (Kd.int .i64) (some ⟨b129, 0, none⟩) 2 ([1, (rd x0.Shape 1)] : List Int), .bx b90 [.slice A77 r74.1.Shape.length c78, .slice A79 r74.1.Data.length c80] 42, .sl (Kd.int .i64) A77 c78 r74.1.Shape, .sl Kd.float A79 c80 r74.1.Data, .bx b28 [.slice A1_0 x1.Shape.length c1_0, .slice A1_1 x1.Data.length c1_1] 42, .bx b21 [.slice A0_0 x0.Shape.length c0_0, .slice A0_1 x0.Data.length c0_1] 42, .sl (Kd.int .i64) A0_0 c0_0 x0.Shape, .sl Kd.float A0_1 c0_1 x0.Data, .sl (Kd.int .i64) A1_0 c1_0 x1.Shape, .sl Kd.float A1_1 c1_1 x1.Data] w130 := Mem.lit (kd := (Kd.int .i64)) (xs := ([1, (rd x0.Shape 1)] : List Int)) hm124 hbb129 hx133 hg134 (Els.append (Els.one (kd := (Kd.int .i64)) (us := [.int .i64 1]) (x := 1) rfl) (Els.one (kd := (Kd.int .i64)) (us := [.int .i64 (rd x0.Shape 1)]) (x := (rd x0.Shape 1)) rfl))
          have e136 : x0.Data.length = x0.Data.length := rfl
          have e136l : ((w64 ((Int.tmod (w64 (x2.1)) (rd x0.Shape 0)) * (rd x0.Shape 1)))).toNat ≤ ((w64 ((w64 ((Int.tmod (w64 (x2.1)) (rd x0.Shape 0)) * (rd x0.Shape 1))) + (rd x0.Shape 1)))).toNat := by omega
          have e136h : ((w64 ((w64 ((Int.tmod (w64 (x2.1)) (rd x0.Shape 0)) * (rd x0.Shape 1))) + (rd x0.Shape 1)))).toNat ≤ x0.Data.length := by omega
          have hm137 : Mem [] M w0 [.sl Kd.float (sub A0_1 c0_1 (((w64 ((Int.tmod (w64 (x2.1)) (rd x0.Shape 0)) * (rd x0.Shape 1)))).toNat) 1) (c0_1 - ((w64 ((Int.tmod (w64 (x2.1)) (rd x0.Shape 0)) * (rd x0.Shape 1)))).toNat) ((List.take (((w64 ((w64 ((Int.tmod (w64 (x2.1)) (rd x0.Shape 0)) * (rd x0.Shape 1))) + (rd x0.Shape 1)))).toNat) x0.Data).drop (((w64 ((Int.tmod (w64 (x2.1)) (rd x0.Shape 0)) * (rd x0.Shape 1)))).toNat)), .sl (Kd.int .i64) (some ⟨b129, 0, none⟩) 2 ([1, (rd x0.Shape 1)] : List Int), .bx b90 [.slice A77 r74.1.Shape.length c78, .slice A79 r74.1.Data.length c80] 42, .sl (Kd.int .i64) A77 c78 r74.1.Shape, .sl Kd.float A79 c80 r74.1.Data, .bx b28 [.slice A1_0 x1.Shape.length c1_0, .slice A1_1 x1.Data.length c1_1] 42, .bx b21 [.slice A0_0 x0.Shape.length c0_0, .slice A0_1 x0.Data.length c0_1] 42, .sl (Kd.int .i64) A0_0 c0_0 x0.Shape, .sl Kd.float A0_1 c0_1 x0.Data, .sl (Kd.int .i64) A1_0 c1_0 x1.Shape, .sl Kd.float A1_1 c1_1 x1.Data] w130 := hm135.sub 7 rfl e136l (e136 ▸ e136h)
          refine go 12 [.slice A0_1 x0.Data.length c0_1] [4, 7, 9, 10, 11, 12, 72] [(4, .pointer (some ⟨b28, 0, none⟩)), (7, .pointer (some ⟨b90, 0, none⟩)), (9, .int .i64 (rd x0.Shape 1)), (10, .int .i64 (rd x1.Shape 1)), (11, .int .i64 (Int.tmod (w64 (x2.1)) (rd x0.Shape 0))), (12, .int .i64 (Int.tmod (w64 (x2.2)) (rd x1.Shape 1))), (72, .agg #[.slice (some ⟨b129, 0, none⟩) 2 2, .slice (sub A0_1 c0_1 (((w64 ((Int.tmod (w64 (x2.1)) (rd x0.Shape 0)) * (rd x0.Shape 1)))).toNat) 1) (((w64 ((w64 ((Int.tmod (w64 (x2.1)) (rd x0.Shape 0)) * (rd x0.Shape 1))) + (rd x0.Shape 1)))).toNat - ((w64 ((Int.tmod (w64 (x2.1)) (rd x0.Shape 0)) * (rd x0.Shape 1)))).toNat) (c0_1 - ((w64 ((Int.tmod (w64 (x2.1)) (rd x0.Shape 0)) * (rd x0.Shape 1)))).toNat)])] [.cell ⟨b21, 1, none⟩ (.slice A0_1 x0.Data.length c0_1), .is (0 ≤ (w64 ((w64 ((Int.tmod (w64 (x2.1)) (rd x0.Shape 0)) * (rd x0.Shape 1))) + (rd x0.Shape 1))) ∧ (w64 ((w64 ((Int.tmod (w64 (x2.1)) (rd x0.Shape 0)) * (rd x0.Shape 1))) + (rd x0.Shape 1))) ≤ (c0_1 : Int)), .is (0 ≤ (w64 ((Int.tmod (w64 (x2.1)) (rd x0.Shape 0)) * (rd x0.Shape 1))) ∧ (w64 ((Int.tmod (w64 (x2.1)) (rd x0.Shape 0)) * (rd x0.Shape 1))) ≤ (w64 ((w64 ((Int.tmod (w64 (x2.1)) (rd x0.Shape 0)) * (rd x0.Shape 1))) + (rd x0.Shape 1))))] hf132 (by kernel_rfl) ⟨(hm135.cell 5 rfl rfl), (sub_cap rfl (hm135.cpAt 7 rfl) g125), g126, trivial⟩ fun a138 hf139 => ?_
          refine listOf hf139 rfl (by kernel_rfl) (aNew (cs := [.slice none 0 0, .slice none 0 0]) (T := 42) (d := 13) hf139 (by kernel_rfl) (by kernel_rfl) ?_)
          intro b140 w141 a142 hbb140 hx144 hg145 hf143
          have hm146 := hm137.box hbb140 hx144 hg145
          refine listOf hf143 rfl (by kernel_rfl) (aStoreB (b := b140) (j := 0) (T := 42) (cs := [.slice none 0 0, .slice none 0 0]) (us := [.slice (some ⟨b129, 0, none⟩) 2 2, .slice (sub A0_1 c0_1 (((w64 ((Int.tmod (w64 (x2.1)) (rd x0.Shape 0)) * (rd x0.Shape 1)))).toNat) 1) (((w64 ((w64 ((Int.tmod (w64 (x2.1)) (rd x0.Shape 0)) * (rd x0.Shape 1))) + (rd x0.Shape 1)))).toNat - ((w64 ((Int.tmod (w64 (x2.1)) (rd x0.Shape 0)) * (rd x0.Shape 1)))).toNat) (c0_1 - ((w64 ((Int.tmod (w64 (x2.1)) (rd x0.Shape 0)) * (rd x0.Shape 1)))).toNat)]) (cs' := [.slice (some ⟨b129, 0, none⟩) 2 2, .slice (sub A0_1 c0_1 (((w64 ((Int.tmod (w64 (x2.1)) (rd x0.Shape 0)) * (rd x0.Shape 1)))).toNat) 1) (((w64 ((w64 ((Int.tmod (w64 (x2.1)) (rd x0.Shape 0)) * (rd x0.Shape 1))) + (rd x0.Shape 1)))).toNat - ((w64 ((Int.tmod (w64 (x2.1)) (rd x0.Shape 0)) * (rd x0.Shape 1)))).toNat) (c0_1 - ((w64 ((Int.tmod (w64 (x2.1)) (rd x0.Shape 0)) * (rd x0.Shape 1)))).toNat)]) hf143 (by kernel_rfl) (hm146.bxAt 0 rfl) (by kernel_rfl) (by kernel_rfl) (by kernel_rfl) ?_)
          intro w147 hx148 hg149
          have hm150 := hm146.setBox 0 _ rfl rfl hx148 hg149
          refine endL rfl ?_
          have hm151 := hm150.sel [0, 1, 2, 3, 4, 5, 6, 10, 11] _ rfl (by kernel_rfl)
          refine thenN ?_
          refine wp_seq ?_
          refine inReg ?_
          refine go 1 [] [4, 7, 9, 10, 11, 12, 13, 73] [(4, .pointer (some ⟨b28, 0, none⟩)), (7, .pointer (some ⟨b90, 0, none⟩)), (9, .int .i64 (rd x0.Shape 1)), (10, .int .i64 (rd x1.Shape 1)), (11, .int .i64 (Int.tmod (w64 (x2.1)) (rd x0.Shape 0))), (12, .int .i64 (Int.tmod (w64 (x2.2)) (rd x1.Shape 1))), (13, .pointer (some ⟨b140, 0, none⟩)), (73, .int .i64 (rd x0.Shape 1))] [] hf143 (by kernel_rfl) trivial fun a152 hf153 => ?_
          refine listOf hf153 rfl (by kernel_rfl) (aLit (cs := [.int .i64 (rd x0.Shape 1), .int .i64 1]) (E := 3) (len := 2) (d := 74) hf153 (by kernel_rfl) (by kernel_rfl) ?_)
          intro b154 w155 a156 hbb154 hx158 hg159 hf157
          have hm151s := hm151.still hg159
          have hm160 : Mem [] M w0 [.sl (Kd.int .i64) (some ⟨b154, 0, none⟩) 2 ([(rd x0.Shape 1), 1] : List Int), .bx b140 [.slice (some ⟨b129, 0, none⟩) 2 2, .slice (sub A0_1 c0_1 (((w64 ((Int.tmod (w64 (x2.1)) (rd x0.Shape 0)) * (rd x0.Shape 1)))).toNat) 1) (((w64 ((w64 ((Int.tmod (w64 (x2.1)) (rd x0.Shape 0)) * (rd x0.Shape 1))) + (rd x0.Shape 1)))).toNat - ((w64 ((Int.tmod (w64 (x2.1)) (rd x0.Shape 0)) * (rd x0.Shape 1)))).toNat) (c0_1 - ((w64 ((Int.tmod (w64 (x2.1)) (rd x0.Shape 0)) * (rd x0.Shape 1)))).toNat)] 42, .sl Kd.float (sub A0_1 c0_1 (((w64 ((Int.tmod (w64 (x2.1)) (rd x0.Shape 0)) * (rd x0.Shape 1)))).toNat) 1) (c0_1 - ((w64 ((Int.tmod (w64 (x2.1)) (rd x0.Shape 0)) * (rd x0.Shape 1)))).toNat) ((List.take (((w64 ((w64 ((Int.tmod (w64 (x2.1)) (rd x0.Shape 0)) * (rd x0.Shape 1))) + (rd x0.Shape 1)))).toNat) x0.Data).drop (((w64 ((Int.tmod (w64 (x2.1)) (rd x0.Shape 0)) * (rd x0.Shape 1)))).toNat)), .sl (Kd.int .i64) (some ⟨b129, 0, none⟩) 2 ([1, (rd x0.Shape 1)] : List Int), .bx b90 [.slice A77 r74.1.Shape.length c78, .slice A79 r74.1.Data.length c80] 42, .sl (Kd.int .i64) A77 c78 r74.1.Shape, .sl Kd.float A79 c80 r74.1.Data, .bx b28 [.slice A1_0 x1.Shape.length c1_0, .slice A1_1 x1.Data.length c1_1] 42, .sl (Kd.int .i64) A1_0 c1_0 x1.Shape, .sl Kd.float A1_1 c1_1 x1.Data] w155 := Mem.lit (kd := (Kd.int .i64)) (xs := ([(rd x0.Shape 1), 1] : List Int)) hm151 hbb154 hx158 hg159 (Els.append (Els.one (kd := (Kd.int .i64)) (us := [.int .i64 (rd x0.Shape 1)]) (x := (rd x0.Shape 1)) rfl) (Els.one (kd := (Kd.int .i64)) (us := [.int .i64 1]) (x := 1) rfl))
          refine go 1 [] [4, 7, 9, 10, 11, 12, 13, 75] [(4, .pointer (some ⟨b28, 0, none⟩)), (7, .pointer (some ⟨b90, 0, none⟩)), (9, .int .i64 (rd x0.Shape 1)), (10, .int .i64 (rd x1.Shape 1)), (11, .int .i64 (Int.tmod (w64 (x2.1)) (rd x0.Shape 0))), (12, .int .i64 (Int.tmod (w64 (x2.2)) (rd x1.Shape 1))), (13, .pointer (some ⟨b140, 0, none⟩)), (75, .agg #[.slice (some ⟨b154, 0, none⟩) 2 2, .slice none 0 0])] [] hf157 (by kernel_rfl) trivial fun a161 hf162 => ?_
          refine listOf hf162 rfl (by kernel_rfl) (aNew (cs := [.slice none 0 0, .slice none 0 0]) (T := 42) (d := 14) hf162 (by kernel_rfl) (by kernel_rfl) ?_)
          intro b163 w164 a165 hbb163 hx167 hg168 hf166
          have hm169 := hm160.box hbb163 hx167 hg168
          refine listOf hf166 rfl (by kernel_rfl) (aStoreB (b := b163) (j := 0) (T := 42) (cs := [.slice none 0 0, .slice none 0 0]) (us := [.slice (some ⟨b154, 0, none⟩) 2 2, .slice none 0 0]) (cs' := [.slice (some ⟨b154, 0, none⟩) 2 2, .slice none 0 0]) hf166 (by kernel_rfl) (hm169.bxAt 0 rfl) (by kernel_rfl) (by kernel_rfl) (by kernel_rfl) ?_)
          intro w170 hx171 hg172
          have hm173 := hm169.setBox 0 _ rfl rfl hx171 hg172
          refine endL rfl ?_
          refine thenN ?_
          refine wp_seq ?_
          refine wp_seq ?_
          refine reg [] [4, 7, 9, 10, 11, 12, 13, 14, 15] [(4, .pointer (some ⟨b28, 0, none⟩)), (7, .pointer (some ⟨b90, 0, none⟩)), (9, .int .i64 (rd x0.Shape 1)), (10, .int .i64 (rd x1.Shape 1)), (11, .int .i64 (Int.tmod (w64 (x2.1)) (rd x0.Shape 0))), (12, .int .i64 (Int.tmod (w64 (x2.2)) (rd x1.Shape 1))), (13, .pointer (some ⟨b140, 0, none⟩)), (14, .pointer (some ⟨b163, 0, none⟩)), (15, .int .i64 0)] [] hf166 (by kernel_rfl) trivial fun a174 hf175 => ?_
          refine thenN ?_
          have hm177 : Mem [] M w0 [.ow Kd.float 47 none 0 ([] : (List Nat)), .bx b163 [.slice (some ⟨b154, 0, none⟩) 2 2, .slice none 0 0] 42, .sl (Kd.int .i64) (some ⟨b154, 0, none⟩) 2 ([(rd x0.Shape 1), 1] : List Int), .bx b140 [.slice (some ⟨b129, 0, none⟩) 2 2, .slice (sub A0_1 c0_1 (((w64 ((Int.tmod (w64 (x2.1)) (rd x0.Shape 0)) * (rd x0.Shape 1)))).toNat) 1) (((w64 ((w64 ((Int.tmod (w64 (x2.1)) (rd x0.Shape 0)) * (rd x0.Shape 1))) + (rd x0.Shape 1)))).toNat - ((w64 ((Int.tmod (w64 (x2.1)) (rd x0.Shape 0)) * (rd x0.Shape 1)))).toNat) (c0_1 - ((w64 ((Int.tmod (w64 (x2.1)) (rd x0.Shape 0)) * (rd x0.Shape 1)))).toNat)] 42, .sl Kd.float (sub A0_1 c0_1 (((w64 ((Int.tmod (w64 (x2.1)) (rd x0.Shape 0)) * (rd x0.Shape 1)))).toNat) 1) (c0_1 - ((w64 ((Int.tmod (w64 (x2.1)) (rd x0.Shape 0)) * (rd x0.Shape 1)))).toNat) ((List.take (((w64 ((w64 ((Int.tmod (w64 (x2.1)) (rd x0.Shape 0)) * (rd x0.Shape 1))) + (rd x0.Shape 1)))).toNat) x0.Data).drop (((w64 ((Int.tmod (w64 (x2.1)) (rd x0.Shape 0)) * (rd x0.Shape 1)))).toNat)), .sl (Kd.int .i64) (some ⟨b129, 0, none⟩) 2 ([1, (rd x0.Shape 1)] : List Int), .bx b90 [.slice A77 r74.1.Shape.length c78, .slice A79 r74.1.Data.length c80] 42, .sl (Kd.int .i64) A77 c78 r74.1.Shape, .sl Kd.float A79 c80 r74.1.Data, .bx b28 [.slice A1_0 x1.Shape.length c1_0, .slice A1_1 x1.Data.length c1_1] 42, .sl (Kd.int .i64) A1_0 c1_0 x1.Shape, .sl Kd.float A1_1 c1_1 x1.Data] w170 := hm173.nilOw Kd.float 47
          obtain ⟨r183, hr183, H0⟩ := ob_split H0
          refine wpBlock (Mid := fun (a : Act) (w : World) => ∃ (A181 : Option Addr) (c182 : Nat), Fr 146 a [(4, .pointer (some ⟨b28, 0, none⟩)), (7, .pointer (some ⟨b90, 0, none⟩)), (9, .int .i64 (rd x0.Shape 1)), (10, .int .i64 (rd x1.Shape 1)), (11, .int .i64 (Int.tmod (w64 (x2.1)) (rd x0.Shape 0))), (12, .int .i64 (Int.tmod (w64 (x2.2)) (rd x1.Shape 1))), (13, .pointer (some ⟨b140, 0, none⟩)), (14, .pointer (some ⟨b163, 0, none⟩)), (15, .int .i64 r183.1)] ∧ Mem [] M w0 [.ow Kd.float 47 A181 c182 r183.2, .bx b163 [.slice (some ⟨b154, 0, none⟩) 2 2, .slice A181 r183.2.length c182] 42, .sl (Kd.int .i64) (some ⟨b154, 0, none⟩) 2 ([(rd x0.Shape 1), 1] : List Int), .bx b140 [.slice (some ⟨b129, 0, none⟩) 2 2, .slice (sub A0_1 c0_1 (((w64 ((Int.tmod (w64 (x2.1)) (rd x0.Shape 0)) * (rd x0.Shape 1)))).toNat) 1) (((w64 ((w64 ((Int.tmod (w64 (x2.1)) (rd x0.Shape 0)) * (rd x0.Shape 1))) + (rd x0.Shape 1)))).toNat - ((w64 ((Int.tmod (w64 (x2.1)) (rd x0.Shape 0)) * (rd x0.Shape 1)))).toNat) (c0_1 - ((w64 ((Int.tmod (w64 (x2.1)) (rd x0.Shape 0)) * (rd x0.Shape 1)))).toNat)] 42, .sl Kd.float (sub A0_1 c0_1 (((w64 ((Int.tmod (w64 (x2.1)) (rd x0.Shape 0)) * (rd x0.Shape 1)))).toNat) 1) (c0_1 - ((w64 ((Int.tmod (w64 (x2.1)) (rd x0.Shape 0)) * (rd x0.Shape 1)))).toNat) ((List.take (((w64 ((w64 ((Int.tmod (w64 (x2.1)) (rd x0.Shape 0)) * (rd x0.Shape 1))) + (rd x0.Shape 1)))).toNat) x0.Data).drop (((w64 ((Int.tmod (w64 (x2.1)) (rd x0.Shape 0)) * (rd x0.Shape 1)))).toNat)), .sl (Kd.int .i64) (some ⟨b129, 0, none⟩) 2 ([1, (rd x0.Shape 1)] : List Int), .bx b90 [.slice A77 r74.1.Shape.length c78, .slice A79 r74.1.Data.length c80] 42, .sl (Kd.int .i64) A77 c78 r74.1.Shape, .sl Kd.float A79 c80 r74.1.Data, .bx b28 [.slice A1_0 x1.Shape.length c1_0, .slice A1_1 x1.Data.length c1_1] 42, .sl (Kd.int .i64) A1_0 c1_0 x1.Shape, .sl Kd.float A1_1 c1_1 x1.Data] w) ?_ ?_
          · have hf184 : Fr 146 a174 [(4, .pointer (some ⟨b28, 0, none⟩)), (7, .pointer (some ⟨b90, 0, none⟩)), (9, .int .i64 (rd x0.Shape 1)), (10, .int .i64 (rd x1.Shape 1)), (11, .int .i64 (Int.tmod (w64 (x2.1)) (rd x0.Shape 0))), (12, .int .i64 (Int.tmod (w64 (x2.2)) (rd x1.Shape 1))), (13, .pointer (some ⟨b140, 0, none⟩)), (14, .pointer (some ⟨b163, 0, none⟩)), (15, .int .i64 0)] := hf175.sel (l := [4, 7, 9, 10, 11, 12, 13, 14, 15]) (by kernel_rfl)
            have hm185 : Mem [] M w0 [.ow Kd.float 47 none 0 ([] : (List Nat)), .bx b163 [.slice (some ⟨b154, 0, none⟩) 2 2, .slice none 0 0] 42, .sl (Kd.int .i64) (some ⟨b154, 0, none⟩) 2 ([(rd x0.Shape 1), 1] : List Int), .bx b140 [.slice (some ⟨b129, 0, none⟩) 2 2, .slice (sub A0_1 c0_1 (((w64 ((Int.tmod (w64 (x2.1)) (rd x0.Shape 0)) * (rd x0.Shape 1)))).toNat) 1) (((w64 ((w64 ((Int.tmod (w64 (x2.1)) (rd x0.Shape 0)) * (rd x0.Shape 1))) + (rd x0.Shape 1)))).toNat - ((w64 ((Int.tmod (w64 (x2.1)) (rd x0.Shape 0)) * (rd x0.Shape 1)))).toNat) (c0_1 - ((w64 ((Int.tmod (w64 (x2.1)) (rd x0.Shape 0)) * (rd x0.Shape 1)))).toNat)] 42, .sl Kd.float (sub A0_1 c0_1 (((w64 ((Int.tmod (w64 (x2.1)) (rd x0.Shape 0)) * (rd x0.Shape 1)))).toNat) 1) (c0_1 - ((w64 ((Int.tmod (w64 (x2.1)) (rd x0.Shape 0)) * (rd x0.Shape 1)))).toNat) ((List.take (((w64 ((w64 ((Int.tmod (w64 (x2.1)) (rd x0.Shape 0)) * (rd x0.Shape 1))) + (rd x0.Shape 1)))).toNat) x0.Data).drop (((w64 ((Int.tmod (w64 (x2.1)) (rd x0.Shape 0)) * (rd x0.Shape 1)))).toNat)), .sl (Kd.int .i64) (some ⟨b129, 0, none⟩) 2 ([1, (rd x0.Shape 1)] : List Int), .bx b90 [.slice A77 r74.1.Shape.length c78, .slice A79 r74.1.Data.length c80] 42, .sl (Kd.int .i64) A77 c78 r74.1.Shape, .sl Kd.float A79 c80 r74.1.Data, .bx b28 [.slice A1_0 x1.Shape.length c1_0, .slice A1_1 x1.Data.length c1_1] 42, .sl (Kd.int .i64) A1_0 c1_0 x1.Shape, .sl Kd.float A1_1 c1_1 x1.Data] w170 := hm177.sel [0, 1, 2, 3, 4, 5, 6, 7, 8, 9, 10, 11] _ rfl (by kernel_rfl)
            refine wpLoop (law5_MatrixRows.l0 x0 x1 x2) r183 (fun (s180 : (Int × (List Nat))) (a : Act) (w : World) => ∃ (A181 : Option Addr) (c182 : Nat), Fr 146 a [(4, .pointer (some ⟨b28, 0, none⟩)), (7, .pointer (some ⟨b90, 0, none⟩)), (9, .int .i64 (rd x0.Shape 1)), (10, .int .i64 (rd x1.Shape 1)), (11, .int .i64 (Int.tmod (w64 (x2.1)) (rd x0.Shape 0))), (12, .int .i64 (Int.tmod (w64 (x2.2)) (rd x1.Shape 1))), (13, .pointer (some ⟨b140, 0, none⟩)), (14, .pointer (some ⟨b163, 0, none⟩)), (15, .int .i64 s180.1)] ∧ Mem [] M w0 [.ow Kd.float 47 A181 c182 s180.2, .bx b163 [.slice (some ⟨b154, 0, none⟩) 2 2, .slice A181 s180.2.length c182] 42, .sl (Kd.int .i64) (some ⟨b154, 0, none⟩) 2 ([(rd x0.Shape 1), 1] : List Int), .bx b140 [.slice (some ⟨b129, 0, none⟩) 2 2, .slice (sub A0_1 c0_1 (((w64 ((Int.tmod (w64 (x2.1)) (rd x0.Shape 0)) * (rd x0.Shape 1)))).toNat) 1) (((w64 ((w64 ((Int.tmod (w64 (x2.1)) (rd x0.Shape 0)) * (rd x0.Shape 1))) + (rd x0.Shape 1)))).toNat - ((w64 ((Int.tmod (w64 (x2.1)) (rd x0.Shape 0)) * (rd x0.Shape 1)))).toNat) (c0_1 - ((w64 ((Int.tmod (w64 (x2.1)) (rd x0.Shape 0)) * (rd x0.Shape 1)))).toNat)] 42, .sl Kd.float (sub A0_1 c0_1 (((w64 ((Int.tmod (w64 (x2.1)) (rd x0.Shape 0)) * (rd x0.Shape 1)))).toNat) 1) (c0_1 - ((w64 ((Int.tmod (w64 (x2.1)) (rd x0.Shape 0)) * (rd x0.Shape 1)))).toNat) ((List.take (((w64 ((w64 ((Int.tmod (w64 (x2.1)) (rd x0.Shape 0)) * (rd x0.Shape 1))) + (rd x0.Shape 1)))).toNat) x0.Data).drop (((w64 ((Int.tmod (w64 (x2.1)) (rd x0.Shape 0)) * (rd x0.Shape 1)))).toNat)), .sl (Kd.int .i64) (some ⟨b129, 0, none⟩) 2 ([1, (rd x0.Shape 1)] : List Int), .bx b90 [.slice A77 r74.1.Shape.length c78, .slice A79 r74.1.Data.length c80] 42, .sl (Kd.int .i64) A77 c78 r74.1.Shape, .sl Kd.float A79 c80 r74.1.Data, .bx b28 [.slice A1_0 x1.Shape.length c1_0, .slice A1_1 x1.Data.length c1_1] 42, .sl (Kd.int .i64) A1_0 c1_0 x1.Shape, .sl Kd.float A1_1 c1_1 x1.Data] w) (0, ([] : (List Nat))) hr183 ⟨none, 0, (by simpa only [put_length, List.length_nil] using hf184), (by simpa only [put_length, List.length_nil] using hm185)⟩ ?_
            rintro g186 s180 a187 w188 H1 ⟨A181, c182, hf189, hm190⟩
            unfold law5_MatrixRows.l0 at H1
            refine wp_seq ?_
            refine wp_seq ?_
            rcases ifS_split H1 with ⟨c191, H1⟩ | ⟨c191, H1⟩
            · refine reg [.bool true] [4, 7, 9, 10, 11, 12, 13, 14, 15, 78] [(4, .pointer (some ⟨b28, 0, none⟩)), (7, .pointer (some ⟨b90, 0, none⟩)), (9, .int .i64 (rd x0.Shape 1)), (10, .int .i64 (rd x1.Shape 1)), (11, .int .i64 (Int.tmod (w64 (x2.1)) (rd x0.Shape 0))), (12, .int .i64 (Int.tmod (w64 (x2.2)) (rd x1.Shape 1))), (13, .pointer (some ⟨b140, 0, none⟩)), (14, .pointer (some ⟨b163, 0, none⟩)), (15, .int .i64 s180.1), (78, .bool true)] [.is (decide (s180.1 < (rd x0.Shape 1)) = true)] hf189 (by kernel_rfl) ⟨(decide_eq_true c191), trivial⟩ fun a192 hf193 => ?_
              refine thenN ?_
              refine condT hf193 (by kernel_rfl) ?_
              refine wp_skip ?_
              refine thenN ?_
              refine wp_seq ?_
              refine wp_block ?_
              obtain ⟨g194, H1⟩ := ifS_guard H1
              obtain ⟨g195, H1⟩ := ifS_guard H1
              refine midReg (fun (a : Act) (w : World) => ∃ (A205 : Option Addr) (c206 : Nat), Fr 146 a [(4, .pointer (some ⟨b28, 0, none⟩)), (7, .pointer (some ⟨b90, 0, none⟩)), (9, .int .i64 (rd x0.Shape 1)), (10, .int .i64 (rd x1.Shape 1)), (11, .int .i64 (Int.tmod (w64 (x2.1)) (rd x0.Shape 0))), (12, .int .i64 (Int.tmod (w64 (x2.2)) (rd x1.Shape 1))), (13, .pointer (some ⟨b140, 0, none⟩)), (14, .pointer (some ⟨b163, 0, none⟩)), (15, .int .i64 s180.1)] ∧ Mem [] M w0 [.ow Kd.float 47 A205 c206 (s180.2 ++ ([(rd x1.Data (w64 ((w64 (s180.1 * (rd x1.Shape 1))) + (Int.tmod (w64 (x2.2)) (rd x1.Shape 1)))))] : List Nat)), .bx b163 [.slice (some ⟨b154, 0, none⟩) 2 2, .slice A205 ((s180.2 ++ ([(rd x1.Data (w64 ((w64 (s180.1 * (rd x1.Shape 1))) + (Int.tmod (w64 (x2.2)) (rd x1.Shape 1)))))] : List Nat)).length) c206] 42, .sl (Kd.int .i64) (some ⟨b154, 0, none⟩) 2 ([(rd x0.Shape 1), 1] : List Int), .bx b140 [.slice (some ⟨b129, 0, none⟩) 2 2, .slice (sub A0_1 c0_1 (((w64 ((Int.tmod (w64 (x2.1)) (rd x0.Shape 0)) * (rd x0.Shape 1)))).toNat) 1) (((w64 ((w64 ((Int.tmod (w64 (x2.1)) (rd x0.Shape 0)) * (rd x0.Shape 1))) + (rd x0.Shape 1)))).toNat - ((w64 ((Int.tmod (w64 (x2.1)) (rd x0.Shape 0)) * (rd x0.Shape 1)))).toNat) (c0_1 - ((w64 ((Int.tmod (w64 (x2.1)) (rd x0.Shape 0)) * (rd x0.Shape 1)))).toNat)] 42, .sl Kd.float (sub A0_1 c0_1 (((w64 ((Int.tmod (w64 (x2.1)) (rd x0.Shape 0)) * (rd x0.Shape 1)))).toNat) 1) (c0_1 - ((w64 ((Int.tmod (w64 (x2.1)) (rd x0.Shape 0)) * (rd x0.Shape 1)))).toNat) ((List.take (((w64 ((w64 ((Int.tmod (w64 (x2.1)) (rd x0.Shape 0)) * (rd x0.Shape 1))) + (rd x0.Shape 1)))).toNat) x0.Data).drop (((w64 ((Int.tmod (w64 (x2.1)) (rd x0.Shape 0)) * (rd x0.Shape 1)))).toNat)), .sl (Kd.int .i64) (some ⟨b129, 0, none⟩) 2 ([1, (rd x0.Shape 1)] : List Int), .bx b90 [.slice A77 r74.1.Shape.length c78, .slice A79 r74.1.Data.length c80] 42, .sl (Kd.int .i64) A77 c78 r74.1.Shape, .sl Kd.float A79 c80 r74.1.Data, .bx b28 [.slice A1_0 x1.Shape.length c1_0, .slice A1_1 x1.Data.length c1_1] 42, .sl (Kd.int .i64) A1_0 c1_0 x1.Shape, .sl Kd.float A1_1 c1_1 x1.Data] w) ?_ ?_
              · refine anyG [12, 14] (by kernel_rfl) fun w221 hg222 => ?_
                have hm223 := hm190.still hg222
                have q252 := (hm223.slAt 11 rfl).float (w64 ((w64 (s180.1 * (rd x1.Shape 1))) + (Int.tmod (w64 (x2.2)) (rd x1.Shape 1)))) g194.1 g194.2
                obtain ⟨b253, hb253, kb253⟩ := q252.2
                refine quiet0 [0, 1, 2, 3, 4, 5, 6, 7, 8, 9, 10] [.slice A181 s180.2.length c182, .slice A1_1 x1.Data.length c1_1, .float .f64 b253] [4, 7, 9, 10, 11, 12, 13, 14, 15, 82, 91] #[true, true, true, true, true, true, true, true, true, true, true, false, false, false, false] [(4, .pointer (some ⟨b28, 0, none⟩)), (7, .pointer (some ⟨b90, 0, none⟩)), (9, .int .i64 (rd x0.Shape 1)), (10, .int .i64 (rd x1.Shape 1)), (11, .int .i64 (Int.tmod (w64 (x2.1)) (rd x0.Shape 0))), (12, .int .i64 (Int.tmod (w64 (x2.2)) (rd x1.Shape 1))), (13, .pointer (some ⟨b140, 0, none⟩)), (14, .pointer (some ⟨b163, 0, none⟩)), (15, .int .i64 s180.1), (82, .slice A181 s180.2.length c182), (91, .float .f64 b253)] [.cell ⟨b163, 1, none⟩ (.slice A181 s180.2.length c182), .cell ⟨b28, 1, none⟩ (.slice A1_1 x1.Data.length c1_1), .is (Option.isSome A1_1 = true), .is (0 ≤ (w64 ((w64 (s180.1 * (rd x1.Shape 1))) + (Int.tmod (w64 (x2.2)) (rd x1.Shape 1)))) ∧ (w64 ((w64 (s180.1 * (rd x1.Shape 1))) + (Int.tmod (w64 (x2.2)) (rd x1.Shape 1)))) < (x1.Data.length : Int)), .cell ((ad A1_1).add (((w64 ((w64 (s180.1 * (rd x1.Shape 1))) + (Int.tmod (w64 (x2.2)) (rd x1.Shape 1))))).toNat * 1)) (.float .f64 b253)] 4 rfl (by kernel_rfl) (fun _ _ _ _ _ h => nomatch h.1) hf193 (by kernel_rfl) ⟨(hm223.cell 1 rfl rfl), (hm223.cell 9 rfl rfl), q252.1, g194, kb253, trivial⟩ fun a254 hf255 => ?_
                refine all1 11 (by kernel_rfl) ?_
                refine opOf hf255 rfl (by kernel_rfl) (aLit (cs := [.float .f64 b253]) (E := 47) (len := 1) (d := 92) hf255 (by kernel_rfl) (by kernel_rfl) ?_)
                intro b256 w257 a258 hbb256 hx260 hg261 hf259
                refine ⟨.inr (Gr.still hg261), ?_⟩
                have hm223s := hm223.still hg261
                have hm262 : Mem [] M w0 [.sl Kd.float (some ⟨b256, 0, none⟩) 1 ([(rd x1.Data (w64 ((w64 (s180.1 * (rd x1.Shape 1))) + (Int.tmod (w64 (x2.2)) (rd x1.Shape 1)))))] : List Nat), .ow Kd.float 47 A181 c182 s180.2, .bx b163 [.slice (some ⟨b154, 0, none⟩) 2 2, .slice A181 s180.2.length c182] 42, .sl (Kd.int .i64) (some ⟨b154, 0, none⟩) 2 ([(rd x0.Shape 1), 1] : List Int), .bx b140 [.slice (some ⟨b129, 0, none⟩) 2 2, .slice (sub A0_1 c0_1 (((w64 ((Int.tmod (w64 (x2.1)) (rd x0.Shape 0)) * (rd x0.Shape 1)))).toNat) 1) (((w64 ((w64 ((Int.tmod (w64 (x2.1)) (rd x0.Shape 0)) * (rd x0.Shape 1))) + (rd x0.Shape 1)))).toNat - ((w64 ((Int.tmod (w64 (x2.1)) (rd x0.Shape 0)) * (rd x0.Shape 1)))).toNat) (c0_1 - ((w64 ((Int.tmod (w64 (x2.1)) (rd x0.Shape 0)) * (rd x0.Shape 1)))).toNat)] 42, .sl Kd.float (sub A0_1 c0_1 (((w64 ((Int.tmod (w64 (x2.1)) (rd x0.Shape 0)) * (rd x0.Shape 1)))).toNat) 1) (c0_1 - ((w64 ((Int.tmod (w64 (x2.1)) (rd x0.Shape 0)) * (rd x0.Shape 1)))).toNat) ((List.take (((w64 ((w64 ((Int.tmod (w64 (x2.1)) (rd x0.Shape 0)) * (rd x0.Shape 1))) + (rd x0.Shape 1)))).toNat) x0.Data).drop (((w64 ((Int.tmod (w64 (x2.1)) (rd x0.Shape 0)) * (rd x0.Shape 1)))).toNat)), .sl (Kd.int .i64) (some ⟨b129, 0, none⟩) 2 ([1, (rd x0.Shape 1)] : List Int), .bx b90 [.slice A77 r74.1.Shape.length c78, .slice A79 r74.1.Data.length c80] 42, .sl (Kd.int .i64) A77 c78 r74.1.Shape, .sl Kd.float A79 c80 r74.1.Data, .bx b28 [.slice A1_0 x1.Shape.length c1_0, .slice A1_1 x1.Data.length c1_1] 42, .sl (Kd.int .i64) A1_0 c1_0 x1.Shape, .sl Kd.float A1_1 c1_1 x1.Data] w257 := Mem.lit (kd := Kd.float) (xs := ([(rd x1.Data (w64 ((w64 (s180.1 * (rd x1.Shape 1))) + (Int.tmod (w64 (x2.2)) (rd x1.Shape 1)))))] : List Nat)) hm223 hbb256 hx260 hg261 (Els.one (kd := Kd.float) (us := [.float .f64 b253]) (x := (rd x1.Data (w64 ((w64 (s180.1 * (rd x1.Shape 1))) + (Int.tmod (w64 (x2.2)) (rd x1.Shape 1)))))) ⟨_, rfl, hb253⟩)
                refine all1 12 (by kernel_rfl) ?_
                have e271 : s180.2.length = s180.2.length := rfl
                have e272 : 1 = ([(rd x1.Data (w64 ((w64 (s180.1 * (rd x1.Shape 1))) + (Int.tmod (w64 (x2.2)) (rd x1.Shape 1)))))] : List Nat).length := rfl
                refine opOf hf259 rfl (by kernel_rfl) (aApp (kd := Kd.float) (base := 0) (E := 47) (A := A181) (B := (some ⟨b256, 0, none⟩)) (c := c182) (c2 := 1) (xs := s180.2) (ys := ([(rd x1.Data (w64 ((w64 (s180.1 * (rd x1.Shape 1))) + (Int.tmod (w64 (x2.2)) (rd x1.Shape 1)))))] : List Nat)) (k := s180.2.length) (m := 1) (sz := 1) (d := 93) hf259 (by kernel_rfl) e271 e272 (by kernel_rfl) rfl (by kernel_rfl) (hm262.at 1 rfl) (hm262.at2 1 0 rfl rfl).2 (hm262.cpAt 0 rfl) (Nat.zero_le _) (by have := g195; omega) ?_)
                intro A263 c264 w265 a266 ho268 hg269 hr270 hf267
                refine ⟨.inl (by decide), ?_⟩
                have hm273 : Mem [] M w0 [.sl Kd.float (some ⟨b256, 0, none⟩) 1 ([(rd x1.Data (w64 ((w64 (s180.1 * (rd x1.Shape 1))) + (Int.tmod (w64 (x2.2)) (rd x1.Shape 1)))))] : List Nat), .ow Kd.float 47 A263 c264 (s180.2 ++ ([(rd x1.Data (w64 ((w64 (s180.1 * (rd x1.Shape 1))) + (Int.tmod (w64 (x2.2)) (rd x1.Shape 1)))))] : List Nat)), .bx b163 [.slice (some ⟨b154, 0, none⟩) 2 2, .slice A181 s180.2.length c182] 42, .sl (Kd.int .i64) (some ⟨b154, 0, none⟩) 2 ([(rd x0.Shape 1), 1] : List Int), .bx b140 [.slice (some ⟨b129, 0, none⟩) 2 2, .slice (sub A0_1 c0_1 (((w64 ((Int.tmod (w64 (x2.1)) (rd x0.Shape 0)) * (rd x0.Shape 1)))).toNat) 1) (((w64 ((w64 ((Int.tmod (w64 (x2.1)) (rd x0.Shape 0)) * (rd x0.Shape 1))) + (rd x0.Shape 1)))).toNat - ((w64 ((Int.tmod (w64 (x2.1)) (rd x0.Shape 0)) * (rd x0.Shape 1)))).toNat) (c0_1 - ((w64 ((Int.tmod (w64 (x2.1)) (rd x0.Shape 0)) * (rd x0.Shape 1)))).toNat)] 42, .sl Kd.float (sub A0_1 c0_1 (((w64 ((Int.tmod (w64 (x2.1)) (rd x0.Shape 0)) * (rd x0.Shape 1)))).toNat) 1) (c0_1 - ((w64 ((Int.tmod (w64 (x2.1)) (rd x0.Shape 0)) * (rd x0.Shape 1)))).toNat) ((List.take (((w64 ((w64 ((Int.tmod (w64 (x2.1)) (rd x0.Shape 0)) * (rd x0.Shape 1))) + (rd x0.Shape 1)))).toNat) x0.Data).drop (((w64 ((Int.tmod (w64 (x2.1)) (rd x0.Shape 0)) * (rd x0.Shape 1)))).toNat)), .sl (Kd.int .i64) (some ⟨b129, 0, none⟩) 2 ([1, (rd x0.Shape 1)] : List Int), .bx b90 [.slice A77 r74.1.Shape.length c78, .slice A79 r74.1.Data.length c80] 42, .sl (Kd.int .i64) A77 c78 r74.1.Shape, .sl Kd.float A79 c80 r74.1.Data, .bx b28 [.slice A1_0 x1.Shape.length c1_0, .slice A1_1 x1.Data.length c1_1] 42, .sl (Kd.int .i64) A1_0 c1_0 x1.Shape, .sl Kd.float A1_1 c1_1 x1.Data] w265 := hm262.setOwn 1 _ rfl rfl ho268 hg269 hr270
                refine quiet0 [13] [] [4, 7, 9, 10, 11, 12, 13, 14, 15, 93, 94] #[true, true, true, true, true, true, true, true, true, true, true, true, true, true, false] [(4, .pointer (some ⟨b28, 0, none⟩)), (7, .pointer (some ⟨b90, 0, none⟩)), (9, .int .i64 (rd x0.Shape 1)), (10, .int .i64 (rd x1.Shape 1)), (11, .int .i64 (Int.tmod (w64 (x2.1)) (rd x0.Shape 0))), (12, .int .i64 (Int.tmod (w64 (x2.2)) (rd x1.Shape 1))), (13, .pointer (some ⟨b140, 0, none⟩)), (14, .pointer (some ⟨b163, 0, none⟩)), (15, .int .i64 s180.1), (93, .slice A263 ((s180.2 ++ ([(rd x1.Data (w64 ((w64 (s180.1 * (rd x1.Shape 1))) + (Int.tmod (w64 (x2.2)) (rd x1.Shape 1)))))] : List Nat)).length) c264), (94, .pointer (some ⟨b163, 1, none⟩))] [] 1 rfl (by kernel_rfl) (fun _ _ _ _ _ h => nomatch h.1) hf267 (by kernel_rfl) trivial fun a274 hf275 => ?_
                refine all1 14 (by kernel_rfl) ?_
                refine opOf hf275 rfl (by kernel_rfl) (aStoreB (b := b163) (j := 1) (T := 42) (cs := [.slice (some ⟨b154, 0, none⟩) 2 2, .slice A181 s180.2.length c182]) (us := [.slice A263 ((s180.2 ++ ([(rd x1.Data (w64 ((w64 (s180.1 * (rd x1.Shape 1))) + (Int.tmod (w64 (x2.2)) (rd x1.Shape 1)))))] : List Nat)).length) c264]) (cs' := [.slice (some ⟨b154, 0, none⟩) 2 2, .slice A263 ((s180.2 ++ ([(rd x1.Data (w64 ((w64 (s180.1 * (rd x1.Shape 1))) + (Int.tmod (w64 (x2.2)) (rd x1.Shape 1)))))] : List Nat)).length) c264]) hf275 (by kernel_rfl) (hm273.bxAt 2 rfl) (by kernel_rfl) (by kernel_rfl) (by kernel_rfl) ?_)
                intro w276 hx277 hg278
                refine ⟨.inl (by decide), ?_⟩
                have hm279 := hm273.setBox 2 _ rfl rfl hx277 hg278
                refine allDone (by kernel_rfl) ⟨rfl, A263, c264, hf275.sel (l := [4, 7, 9, 10, 11, 12, 13, 14, 15]) (by kernel_rfl), hm279.sel [1, 2, 3, 4, 5, 6, 7, 8, 9, 10, 11, 12] _ rfl (by kernel_rfl)⟩
              rintro a280 w281 ⟨A205, c206, hf282, hm283⟩
              refine blkN ?_
              refine thenN ?_
              refine reg [] [4, 7, 9, 10, 11, 12, 13, 14, 15] [(4, .pointer (some ⟨b28, 0, none⟩)), (7, .pointer (some ⟨b90, 0, none⟩)), (9, .int .i64 (rd x0.Shape 1)), (10, .int .i64 (rd x1.Shape 1)), (11, .int .i64 (Int.tmod (w64 (x2.1)) (rd x0.Shape 0))), (12, .int .i64 (Int.tmod (w64 (x2.2)) (rd x1.Shape 1))), (13, .pointer (some ⟨b140, 0, none⟩)), (14, .pointer (some ⟨b163, 0, none⟩)), (15, .int .i64 (w64 (s180.1 + 1)))] [] hf282 (by kernel_rfl) trivial fun a284 hf285 => ?_
              have hf286 : Fr 146 a284 [(4, .pointer (some ⟨b28, 0, none⟩)), (7, .pointer (some ⟨b90, 0, none⟩)), (9, .int .i64 (rd x0.Shape 1)), (10, .int .i64 (rd x1.Shape 1)), (11, .int .i64 (Int.tmod (w64 (x2.1)) (rd x0.Shape 0))), (12, .int .i64 (Int.tmod (w64 (x2.2)) (rd x1.Shape 1))), (13, .pointer (some ⟨b140, 0, none⟩)), (14, .pointer (some ⟨b163, 0, none⟩)), (15, .int .i64 (w64 (s180.1 + 1)))] := hf285.sel (l := [4, 7, 9, 10, 11, 12, 13, 14, 15]) (by kernel_rfl)
              have hm287 : Mem [] M w0 [.ow Kd.float 47 A205 c206 (s180.2 ++ ([(rd x1.Data (w64 ((w64 (s180.1 * (rd x1.Shape 1))) + (Int.tmod (w64 (x2.2)) (rd x1.Shape 1)))))] : List Nat)), .bx b163 [.slice (some ⟨b154, 0, none⟩) 2 2, .slice A205 ((s180.2 ++ ([(rd x1.Data (w64 ((w64 (s180.1 * (rd x1.Shape 1))) + (Int.tmod (w64 (x2.2)) (rd x1.Shape 1)))))] : List Nat)).length) c206] 42, .sl (Kd.int .i64) (some ⟨b154, 0, none⟩) 2 ([(rd x0.Shape 1), 1] : List Int), .bx b140 [.slice (some ⟨b129, 0, none⟩) 2 2, .slice (sub A0_1 c0_1 (((w64 ((Int.tmod (w64 (x2.1)) (rd x0.Shape 0)) * (rd x0.Shape 1)))).toNat) 1) (((w64 ((w64 ((Int.tmod (w64 (x2.1)) (rd x0.Shape 0)) * (rd x0.Shape 1))) + (rd x0.Shape 1)))).toNat - ((w64 ((Int.tmod (w64 (x2.1)) (rd x0.Shape 0)) * (rd x0.Shape 1)))).toNat) (c0_1 - ((w64 ((Int.tmod (w64 (x2.1)) (rd x0.Shape 0)) * (rd x0.Shape 1)))).toNat)] 42, .sl Kd.float (sub A0_1 c0_1 (((w64 ((Int.tmod (w64 (x2.1)) (rd x0.Shape 0)) * (rd x0.Shape 1)))).toNat) 1) (c0_1 - ((w64 ((Int.tmod (w64 (x2.1)) (rd x0.Shape 0)) * (rd x0.Shape 1)))).toNat) ((List.take (((w64 ((w64 ((Int.tmod (w64 (x2.1)) (rd x0.Shape 0)) * (rd x0.Shape 1))) + (rd x0.Shape 1)))).toNat) x0.Data).drop (((w64 ((Int.tmod (w64 (x2.1)) (rd x0.Shape 0)) * (rd x0.Shape 1)))).toNat)), .sl (Kd.int .i64) (some ⟨b129, 0, none⟩) 2 ([1, (rd x0.Shape 1)] : List Int), .bx b90 [.slice A77 r74.1.Shape.length c78, .slice A79 r74.1.Data.length c80] 42, .sl (Kd.int .i64) A77 c78 r74.1.Shape, .sl Kd.float A79 c80 r74.1.Data, .bx b28 [.slice A1_0 x1.Shape.length c1_0, .slice A1_1 x1.Data.length c1_1] 42, .sl (Kd.int .i64) A1_0 c1_0 x1.Shape, .sl Kd.float A1_1 c1_1 x1.Data] w281 := hm283.sel [0, 1, 2, 3, 4, 5, 6, 7, 8, 9, 10, 11] _ rfl (by kernel_rfl)
              exact ⟨((w64 (s180.1 + 1)), (s180.2 ++ ([(rd x1.Data (w64 ((w64 (s180.1 * (rd x1.Shape 1))) + (Int.tmod (w64 (x2.2)) (rd x1.Shape 1)))))] : List Nat))), H1, A205, c206, (by simpa only [put_length, List.length_nil] using hf286), (by simpa only [put_length, List.length_nil] using hm287)⟩
            · refine reg [.bool false] [4, 7, 9, 10, 11, 12, 13, 14, 15, 78] [(4, .pointer (some ⟨b28, 0, none⟩)), (7, .pointer (some ⟨b90, 0, none⟩)), (9, .int .i64 (rd x0.Shape 1)), (10, .int .i64 (rd x1.Shape 1)), (11, .int .i64 (Int.tmod (w64 (x2.1)) (rd x0.Shape 0))), (12, .int .i64 (Int.tmod (w64 (x2.2)) (rd x1.Shape 1))), (13, .pointer (some ⟨b140, 0, none⟩)), (14, .pointer (some ⟨b163, 0, none⟩)), (15, .int .i64 s180.1), (78, .bool false)] [.is (decide (s180.1 < (rd x0.Shape 1)) = false)] hf189 (by kernel_rfl) ⟨(decide_eq_false c191), trivial⟩ fun a288 hf289 => ?_
              refine thenN ?_
              refine condF hf289 (by kernel_rfl) ?_
              refine wp_exit ?_
              refine thenE ?_
              refine thenE ?_
              obtain rfl := Option.some.inj H1
              have hf290 : Fr 146 a288 [(4, .pointer (some ⟨b28, 0, none⟩)), (7, .pointer (some ⟨b90, 0, none⟩)), (9, .int .i64 (rd x0.Shape 1)), (10, .int .i64 (rd x1.Shape 1)), (11, .int .i64 (Int.tmod (w64 (x2.1)) (rd x0.Shape 0))), (12, .int .i64 (Int.tmod (w64 (x2.2)) (rd x1.Shape 1))), (13, .pointer (some ⟨b140, 0, none⟩)), (14, .pointer (some ⟨b163, 0, none⟩)), (15, .int .i64 s180.1)] := hf289.sel (l := [4, 7, 9, 10, 11, 12, 13, 14, 15]) (by kernel_rfl)
              have hm291 : Mem [] M w0 [.ow Kd.float 47 A181 c182 s180.2, .bx b163 [.slice (some ⟨b154, 0, none⟩) 2 2, .slice A181 s180.2.length c182] 42, .sl (Kd.int .i64) (some ⟨b154, 0, none⟩) 2 ([(rd x0.Shape 1), 1] : List Int), .bx b140 [.slice (some ⟨b129, 0, none⟩) 2 2, .slice (sub A0_1 c0_1 (((w64 ((Int.tmod (w64 (x2.1)) (rd x0.Shape 0)) * (rd x0.Shape 1)))).toNat) 1) (((w64 ((w64 ((Int.tmod (w64 (x2.1)) (rd x0.Shape 0)) * (rd x0.Shape 1))) + (rd x0.Shape 1)))).toNat - ((w64 ((Int.tmod (w64 (x2.1)) (rd x0.Shape 0)) * (rd x0.Shape 1)))).toNat) (c0_1 - ((w64 ((Int.tmod (w64 (x2.1)) (rd x0.Shape 0)) * (rd x0.Shape 1)))).toNat)] 42, .sl Kd.float (sub A0_1 c0_1 (((w64 ((Int.tmod (w64 (x2.1)) (rd x0.Shape 0)) * (rd x0.Shape 1)))).toNat) 1) (c0_1 - ((w64 ((Int.tmod (w64 (x2.1)) (rd x0.Shape 0)) * (rd x0.Shape 1)))).toNat) ((List.take (((w64 ((w64 ((Int.tmod (w64 (x2.1)) (rd x0.Shape 0)) * (rd x0.Shape 1))) + (rd x0.Shape 1)))).toNat) x0.Data).drop (((w64 ((Int.tmod (w64 (x2.1)) (rd x0.Shape 0)) * (rd x0.Shape 1)))).toNat)), .sl (Kd.int .i64) (some ⟨b129, 0, none⟩) 2 ([1, (rd x0.Shape 1)] : List Int), .bx b90 [.slice A77 r74.1.Shape.length c78, .slice A79 r74.1.Data.length c80] 42, .sl (Kd.int .i64) A77 c78 r74.1.Shape, .sl Kd.float A79 c80 r74.1.Data, .bx b28 [.slice A1_0 x1.Shape.length c1_0, .slice A1_1 x1.Data.length c1_1] 42, .sl (Kd.int .i64) A1_0 c1_0 x1.Shape, .sl Kd.float A1_1 c1_1 x1.Data] w188 := hm190.sel [0, 1, 2, 3, 4, 5, 6, 7, 8, 9, 10, 11] _ rfl (by kernel_rfl)
              exact .inl ⟨rfl, A181, c182, (by simpa only [put_length, List.length_nil] using hf290), (by simpa only [put_length, List.length_nil] using hm291)⟩
          rintro a292 w293 ⟨A181, c182, hf294, hm295⟩
          refine thenN ?_
          refine wp_seq ?_
          obtain ⟨r296, hr296, H0⟩ := ob_split H0
          refine inReg ?_
          refine go 2 [.agg #[.slice (some ⟨b129, 0, none⟩) 2 2, .slice (sub A0_1 c0_1 (((w64 ((Int.tmod (w64 (x2.1)) (rd x0.Shape 0)) * (rd x0.Shape 1)))).toNat) 1) (((w64 ((w64 ((Int.tmod (w64 (x2.1)) (rd x0.Shape 0)) * (rd x0.Shape 1))) + (rd x0.Shape 1)))).toNat - ((w64 ((Int.tmod (w64 (x2.1)) (rd x0.Shape 0)) * (rd x0.Shape 1)))).toNat) (c0_1 - ((w64 ((Int.tmod (w64 (x2.1)) (rd x0.Shape 0)) * (rd x0.Shape 1)))).toNat)], .agg #[.slice A1_0 x1.Shape.length c1_0, .slice A1_1 x1.Data.length c1_1]] [7, 10, 11, 12, 13, 14, 96, 97] [(7, .pointer (some ⟨b90, 0, none⟩)), (10, .int .i64 (rd x1.Shape 1)), (11, .int .i64 (Int.tmod (w64 (x2.1)) (rd x0.Shape 0))), (12, .int .i64 (Int.tmod (w64 (x2.2)) (rd x1.Shape 1))), (13, .pointer (some ⟨b140, 0, none⟩)), (14, .pointer (some ⟨b163, 0, none⟩)), (96, .agg #[.slice (some ⟨b129, 0, none⟩) 2 2, .slice (sub A0_1 c0_1 (((w64 ((Int.tmod (w64 (x2.1)) (rd x0.Shape 0)) * (rd x0.Shape 1)))).toNat) 1) (((w64 ((w64 ((Int.tmod (w64 (x2.1)) (rd x0.Shape 0)) * (rd x0.Shape 1))) + (rd x0.Shape 1)))).toNat - ((w64 ((Int.tmod (w64 (x2.1)) (rd x0.Shape 0)) * (rd x0.Shape 1)))).toNat) (c0_1 - ((w64 ((Int.tmod (w64 (x2.1)) (rd x0.Shape 0)) * (rd x0.Shape 1)))).toNat)]), (97, .agg #[.slice A1_0 x1.Shape.length c1_0, .slice A1_1 x1.Data.length c1_1])] [.cell ⟨b140, 0, none⟩ (.slice (some ⟨b129, 0, none⟩) 2 2), .cell ⟨b140, 1, none⟩ (.slice (sub A0_1 c0_1 (((w64 ((Int.tmod (w64 (x2.1)) (rd x0.Shape 0)) * (rd x0.Shape 1)))).toNat) 1) (((w64 ((w64 ((Int.tmod (w64 (x2.1)) (rd x0.Shape 0)) * (rd x0.Shape 1))) + (rd x0.Shape 1)))).toNat - ((w64 ((Int.tmod (w64 (x2.1)) (rd x0.Shape 0)) * (rd x0.Shape 1)))).toNat) (c0_1 - ((w64 ((Int.tmod (w64 (x2.1)) (rd x0.Shape 0)) * (rd x0.Shape 1)))).toNat)), .cell ⟨b28, 0, none⟩ (.slice A1_0 x1.Shape.length c1_0), .cell ⟨b28, 1, none⟩ (.slice A1_1 x1.Data.length c1_1)] hf294 (by kernel_rfl) ⟨(hm295.cell 3 rfl rfl), (hm295.cell 3 rfl rfl), (hm295.cell 9 rfl rfl), (hm295.cell 9 rfl rfl), trivial⟩ fun a297 hf298 => ?_
          refine listOf hf298 rfl (by kernel_rfl) (aCall (fid := 34) (args := [.agg #[.slice (some ⟨b129, 0, none⟩) 2 2, .slice (sub A0_1 c0_1 (((w64 ((Int.tmod (w64 (x2.1)) (rd x0.Shape 0)) * (rd x0.Shape 1)))).toNat) 1) (((w64 ((w64 ((Int.tmod (w64 (x2.1)) (rd x0.Shape 0)) * (rd x0.Shape 1))) + (rd x0.Shape 1)))).toNat - ((w64 ((Int.tmod (w64 (x2.1)) (rd x0.Shape 0)) * (rd x0.Shape 1)))).toNat) (c0_1 - ((w64 ((Int.tmod (w64 (x2.1)) (rd x0.Shape 0)) * (rd x0.Shape 1)))).toNat)], .agg #[.slice A1_0 x1.Shape.length c1_0, .slice A1_1 x1.Data.length c1_1]]) (d := 98) hf298 (by kernel_rfl) (by kernel_rfl) callable34 (matrix_Mul.calls _ _ (⟨([1, (rd x0.Shape 1)] : List Int), ((List.take (((w64 ((w64 ((Int.tmod (w64 (x2.1)) (rd x0.Shape 0)) * (rd x0.Shape 1))) + (rd x0.Shape 1)))).toNat) x0.Data).drop (((w64 ((Int.tmod (w64 (x2.1)) (rd x0.Shape 0)) * (rd x0.Shape 1)))).toNat))⟩ : Tensor) (some ⟨b129, 0, none⟩) 2 2 rfl (sub A0_1 c0_1 (((w64 ((Int.tmod (w64 (x2.1)) (rd x0.Shape 0)) * (rd x0.Shape 1)))).toNat) 1) (((w64 ((w64 ((Int.tmod (w64 (x2.1)) (rd x0.Shape 0)) * (rd x0.Shape 1))) + (rd x0.Shape 1)))).toNat - ((w64 ((Int.tmod (w64 (x2.1)) (rd x0.Shape 0)) * (rd x0.Shape 1)))).toNat) (c0_1 - ((w64 ((Int.tmod (w64 (x2.1)) (rd x0.Shape 0)) * (rd x0.Shape 1)))).toNat) (len_sub e136 e136l e136h) x1 A1_0 x1.Shape.length c1_0 rfl A1_1 x1.Data.length c1_1 rfl (hm295.give [5, 4, 10, 11] [.sl (Kd.int .i64) (some ⟨b129, 0, none⟩) 2 ([1, (rd x0.Shape 1)] : List Int), .sl Kd.float (sub A0_1 c0_1 (((w64 ((Int.tmod (w64 (x2.1)) (rd x0.Shape 0)) * (rd x0.Shape 1)))).toNat) 1) (c0_1 - ((w64 ((Int.tmod (w64 (x2.1)) (rd x0.Shape 0)) * (rd x0.Shape 1)))).toNat) ((List.take (((w64 ((w64 ((Int.tmod (w64 (x2.1)) (rd x0.Shape 0)) * (rd x0.Shape 1))) + (rd x0.Shape 1)))).toNat) x0.Data).drop (((w64 ((Int.tmod (w64 (x2.1)) (rd x0.Shape 0)) * (rd x0.Shape 1)))).toNat)), .sl (Kd.int .i64) A1_0 c1_0 x1.Shape, .sl Kd.float A1_1 c1_1 x1.Data] rfl rfl) r296 hr296) ?_)
          rintro _ w303 a304 ⟨A299, c300, A301, c302, rfl, hk306⟩ hf305
          have hm307 := hm295.back hk306
          have hm308 := hm307.seal 0 _ rfl rfl
          have hm309 := hm308.seal 1 _ rfl rfl
          refine go 3 [] [7, 10, 11, 12, 13, 14, 99, 100] [(7, .pointer (some ⟨b90, 0, none⟩)), (10, .int .i64 (rd x1.Shape 1)), (11, .int .i64 (Int.tmod (w64 (x2.1)) (rd x0.Shape 0))), (12, .int .i64 (Int.tmod (w64 (x2.2)) (rd x1.Shape 1))), (13, .pointer (some ⟨b140, 0, none⟩)), (14, .pointer (some ⟨b163, 0, none⟩)), (99, .agg #[.slice A299 r296.1.Shape.length c300, .slice A301 r296.1.Data.length c302]), (100, .int .i64 r296.2)] [] hf305 (by kernel_rfl) trivial fun a310 hf311 => ?_
          refine listOf hf311 rfl (by kernel_rfl) (aNew (cs := [.slice none 0 0, .slice none 0 0]) (T := 42) (d := 16) hf311 (by kernel_rfl) (by kernel_rfl) ?_)
          intro b312 w313 a314 hbb312 hx316 hg317 hf315
          have hm318 := hm309.box hbb312 hx316 hg317
          refine listOf hf315 rfl (by kernel_rfl) (aStoreB (b := b312) (j := 0) (T := 42) (cs := [.slice none 0 0, .slice none 0 0]) (us := [.slice A299 r296.1.Shape.length c300, .slice A301 r296.1.Data.length c302]) (cs' := [.slice A299 r296.1.Shape.length c300, .slice A301 r296.1.Data.length c302]) hf315 (by kernel_rfl) (hm318.bxAt 0 rfl) (by kernel_rfl) (by kernel_rfl) (by kernel_rfl) ?_)
          intro w319 hx320 hg321
          have hm322 := hm318.setBox 0 _ rfl rfl hx320 hg321
          refine go 1 [] [7, 10, 11, 12, 13, 14, 16, 17] [(7, .pointer (some ⟨b90, 0, none⟩)), (10, .int .i64 (rd x1.Shape 1)), (11, .int .i64 (Int.tmod (w64 (x2.1)) (rd x0.Shape 0))), (12, .int .i64 (Int.tmod (w64 (x2.2)) (rd x1.Shape 1))), (13, .pointer (some ⟨b140, 0, none⟩)), (14, .pointer (some ⟨b163, 0, none⟩)), (16, .pointer (some ⟨b312, 0, none⟩)), (17, .int .i64 r296.2)] [] hf315 (by kernel_rfl) trivial fun a323 hf324 => ?_
          refine endL rfl ?_
          have hm325 := hm322.sel [0, 1, 2, 3, 4, 5, 6, 7, 8, 9, 10, 11] _ rfl (by kernel_rfl)
          refine thenN ?_
          refine wp_seq ?_
          obtain ⟨r326, hr326, H0⟩ := ob_split H0
          refine inReg ?_
          refine go 2 [.agg #[.slice (some ⟨b129, 0, none⟩) 2 2, .slice (sub A0_1 c0_1 (((w64 ((Int.tmod (w64 (x2.1)) (rd x0.Shape 0)) * (rd x0.Shape 1)))).toNat) 1) (((w64 ((w64 ((Int.tmod (w64 (x2.1)) (rd x0.Shape 0)) * (rd x0.Shape 1))) + (rd x0.Shape 1)))).toNat - ((w64 ((Int.tmod (w64 (x2.1)) (rd x0.Shape 0)) * (rd x0.Shape 1)))).toNat) (c0_1 - ((w64 ((Int.tmod (w64 (x2.1)) (rd x0.Shape 0)) * (rd x0.Shape 1)))).toNat)], .agg #[.slice (some ⟨b154, 0, none⟩) 2 2, .slice A181 r183.2.length c182]] [7, 10, 11, 12, 16, 17, 102, 103] [(7, .pointer (some ⟨b90, 0, none⟩)), (10, .int .i64 (rd x1.Shape 1)), (11, .int .i64 (Int.tmod (w64 (x2.1)) (rd x0.Shape 0))), (12, .int .i64 (Int.tmod (w64 (x2.2)) (rd x1.Shape 1))), (16, .pointer (some ⟨b312, 0, none⟩)), (17, .int .i64 r296.2), (102, .agg #[.slice (some ⟨b129, 0, none⟩) 2 2, .slice (sub A0_1 c0_1 (((w64 ((Int.tmod (w64 (x2.1)) (rd x0.Shape 0)) * (rd x0.Shape 1)))).toNat) 1) (((w64 ((w64 ((Int.tmod (w64 (x2.1)) (rd x0.Shape 0)) * (rd x0.Shape 1))) + (rd x0.Shape 1)))).toNat - ((w64 ((Int.tmod (w64 (x2.1)) (rd x0.Shape 0)) * (rd x0.Shape 1)))).toNat) (c0_1 - ((w64 ((Int.tmod (w64 (x2.1)) (rd x0.Shape 0)) * (rd x0.Shape 1)))).toNat)]), (103, .agg #[.slice (some ⟨b154, 0, none⟩) 2 2, .slice A181 r183.2.length c182])] [.cell ⟨b140, 0, none⟩ (.slice (some ⟨b129, 0, none⟩) 2 2), .cell ⟨b140, 1, none⟩ (.slice (sub A0_1 c0_1 (((w64 ((Int.tmod (w64 (x2.1)) (rd x0.Shape 0)) * (rd x0.Shape 1)))).toNat) 1) (((w64 ((w64 ((Int.tmod (w64 (x2.1)) (rd x0.Shape 0)) * (rd x0.Shape 1))) + (rd x0.Shape 1)))).toNat - ((w64 ((Int.tmod (w64 (x2.1)) (rd x0.Shape 0)) * (rd x0.Shape 1)))).toNat) (c0_1 - ((w64 ((Int.tmod (w64 (x2.1)) (rd x0.Shape 0)) * (rd x0.Shape 1)))).toNat)), .cell ⟨b163, 0, none⟩ (.slice (some ⟨b154, 0, none⟩) 2 2), .cell ⟨b163, 1, none⟩ (.slice A181 r183.2.length c182)] hf324 (by kernel_rfl) ⟨(hm325.cell 6 rfl rfl), (hm325.cell 6 rfl rfl), (hm325.cell 4 rfl rfl), (hm325.cell 4 rfl rfl), trivial⟩ fun a327 hf328 => ?_
          have hm329 : Mem [] M w0 [.bx b312 [.slice A299 r296.1.Shape.length c300, .slice A301 r296.1.Data.length c302] 42, .sl (Kd.int .i64) A299 c300 r296.1.Shape, .sl Kd.float A301 c302 r296.1.Data, .sl Kd.float A181 c182 r183.2, .bx b163 [.slice (some ⟨b154, 0, none⟩) 2 2, .slice A181 r183.2.length c182] 42, .sl (Kd.int .i64) (some ⟨b154, 0, none⟩) 2 ([(rd x0.Shape 1), 1] : List Int), .bx b140 [.slice (some ⟨b129, 0, none⟩) 2 2, .slice (sub A0_1 c0_1 (((w64 ((Int.tmod (w64 (x2.1)) (rd x0.Shape 0)) * (rd x0.Shape 1)))).toNat) 1) (((w64 ((w64 ((Int.tmod (w64 (x2.1)) (rd x0.Shape 0)) * (rd x0.Shape 1))) + (rd x0.Shape 1)))).toNat - ((w64 ((Int.tmod (w64 (x2.1)) (rd x0.Shape 0)) * (rd x0.Shape 1)))).toNat) (c0_1 - ((w64 ((Int.tmod (w64 (x2.1)) (rd x0.Shape 0)) * (rd x0.Shape 1)))).toNat)] 42, .sl Kd.float (sub A0_1 c0_1 (((w64 ((Int.tmod (w64 (x2.1)) (rd x0.Shape 0)) * (rd x0.Shape 1)))).toNat) 1) (c0_1 - ((w64 ((Int.tmod (w64 (x2.1)) (rd x0.Shape 0)) * (rd x0.Shape 1)))).toNat) ((List.take (((w64 ((w64 ((Int.tmod (w64 (x2.1)) (rd x0.Shape 0)) * (rd x0.Shape 1))) + (rd x0.Shape 1)))).toNat) x0.Data).drop (((w64 ((Int.tmod (w64 (x2.1)) (rd x0.Shape 0)) * (rd x0.Shape 1)))).toNat)), .sl (Kd.int .i64) (some ⟨b129, 0, none⟩) 2 ([1, (rd x0.Shape 1)] : List Int), .bx b90 [.slice A77 r74.1.Shape.length c78, .slice A79 r74.1.Data.length c80] 42, .sl (Kd.int .i64) A77 c78 r74.1.Shape, .sl Kd.float A79 c80 r74.1.Data] w319 := hm325.seal 3 _ rfl rfl
          refine listOf hf328 rfl (by kernel_rfl) (aCall (fid := 34) (args := [.agg #[.slice (some ⟨b129, 0, none⟩) 2 2, .slice (sub A0_1 c0_1 (((w64 ((Int.tmod (w64 (x2.1)) (rd x0.Shape 0)) * (rd x0.Shape 1)))).toNat) 1) (((w64 ((w64 ((Int.tmod (w64 (x2.1)) (rd x0.Shape 0)) * (rd x0.Shape 1))) + (rd x0.Shape 1)))).toNat - ((w64 ((Int.tmod (w64 (x2.1)) (rd x0.Shape 0)) * (rd x0.Shape 1)))).toNat) (c0_1 - ((w64 ((Int.tmod (w64 (x2.1)) (rd x0.Shape 0)) * (rd x0.Shape 1)))).toNat)], .agg #[.slice (some ⟨b154, 0, none⟩) 2 2, .slice A181 r183.2.length c182]]) (d := 104) hf328 (by kernel_rfl) (by kernel_rfl) callable34 (matrix_Mul.calls _ _ (⟨([1, (rd x0.Shape 1)] : List Int), ((List.take (((w64 ((w64 ((Int.tmod (w64 (x2.1)) (rd x0.Shape 0)) * (rd x0.Shape 1))) + (rd x0.Shape 1)))).toNat) x0.Data).drop (((w64 ((Int.tmod (w64 (x2.1)) (rd x0.Shape 0)) * (rd x0.Shape 1)))).toNat))⟩ : Tensor) (some ⟨b129, 0, none⟩) 2 2 rfl (sub A0_1 c0_1 (((w64 ((Int.tmod (w64 (x2.1)) (rd x0.Shape 0)) * (rd x0.Shape 1)))).toNat) 1) (((w64 ((w64 ((Int.tmod (w64 (x2.1)) (rd x0.Shape 0)) * (rd x0.Shape 1))) + (rd x0.Shape 1)))).toNat - ((w64 ((Int.tmod (w64 (x2.1)) (rd x0.Shape 0)) * (rd x0.Shape 1)))).toNat) (c0_1 - ((w64 ((Int.tmod (w64 (x2.1)) (rd x0.Shape 0)) * (rd x0.Shape 1)))).toNat) (len_sub e136 e136l e136h) (⟨([(rd x0.Shape 1), 1] : List Int), r183.2⟩ : Tensor) (some ⟨b154, 0, none⟩) 2 2 rfl A181 r183.2.length c182 rfl (hm329.give [8, 7, 5, 3] [.sl (Kd.int .i64) (some ⟨b129, 0, none⟩) 2 ([1, (rd x0.Shape 1)] : List Int), .sl Kd.float (sub A0_1 c0_1 (((w64 ((Int.tmod (w64 (x2.1)) (rd x0.Shape 0)) * (rd x0.Shape 1)))).toNat) 1) (c0_1 - ((w64 ((Int.tmod (w64 (x2.1)) (rd x0.Shape 0)) * (rd x0.Shape 1)))).toNat) ((List.take (((w64 ((w64 ((Int.tmod (w64 (x2.1)) (rd x0.Shape 0)) * (rd x0.Shape 1))) + (rd x0.Shape 1)))).toNat) x0.Data).drop (((w64 ((Int.tmod (w64 (x2.1)) (rd x0.Shape 0)) * (rd x0.Shape 1)))).toNat)), .sl (Kd.int .i64) (some ⟨b154, 0, none⟩) 2 ([(rd x0.Shape 1), 1] : List Int), .sl Kd.float A181 c182 r183.2] rfl rfl) r326 hr326) ?_)
          rintro _ w334 a335 ⟨A330, c331, A332, c333, rfl, hk337⟩ hf336
          have hm338 := hm325.backF hk337 ⟨Kd.flat_int _, Kd.flat_float, trivial⟩
          have hm339 := hm338.seal 0 _ rfl rfl
          have hm340 := hm339.seal 1 _ rfl rfl
          refine go 3 [] [7, 10, 11, 12, 16, 17, 105, 106] [(7, .pointer (some ⟨b90, 0, none⟩)), (10, .int .i64 (rd x1.Shape 1)), (11, .int .i64 (Int.tmod (w64 (x2.1)) (rd x0.Shape 0))), (12, .int .i64 (Int.tmod (w64 (x2.2)) (rd x1.Shape 1))), (16, .pointer (some ⟨b312, 0, none⟩)), (17, .int .i64 r296.2), (105, .agg #[.slice A330 r326.1.Shape.length c331, .slice A332 r326.1.Data.length c333]), (106, .int .i64 r326.2)] [] hf336 (by kernel_rfl) trivial fun a341 hf342 => ?_
          refine listOf hf342 rfl (by kernel_rfl) (aNew (cs := [.slice none 0 0, .slice none 0 0]) (T := 42) (d := 18) hf342 (by kernel_rfl) (by kernel_rfl) ?_)
          intro b343 w344 a345 hbb343 hx347 hg348 hf346
          have hm349 := hm340.box hbb343 hx347 hg348
          refine listOf hf346 rfl (by kernel_rfl) (aStoreB (b := b343) (j := 0) (T := 42) (cs := [.slice none 0 0, .slice none 0 0]) (us := [.slice A330 r326.1.Shape.length c331, .slice A332 r326.1.Data.length c333]) (cs' := [.slice A330 r326.1.Shape.length c331, .slice A332 r326.1.Data.length c333]) hf346 (by kernel_rfl) (hm349.bxAt 0 rfl) (by kernel_rfl) (by kernel_rfl) (by kernel_rfl) ?_)
          intro w350 hx351 hg352
          have hm353 := hm349.setBox 0 _ rfl rfl hx351 hg352
          refine go 1 [] [7, 10, 11, 12, 16, 17, 18, 19] [(7, .pointer (some ⟨b90, 0, none⟩)), (10, .int .i64 (rd x1.Shape 1)), (11, .int .i64 (Int.tmod (w64 (x2.1)) (rd x0.Shape 0))), (12, .int .i64 (Int.tmod (w64 (x2.2)) (rd x1.Shape 1))), (16, .pointer (some ⟨b312, 0, none⟩)), (17, .int .i64 r296.2), (18, .pointer (some ⟨b343, 0, none⟩)), (19, .int .i64 r326.2)] [] hf346 (by kernel_rfl) trivial fun a354 hf355 => ?_
          refine endL rfl ?_
          have hm356 := hm353.sel [0, 1, 2, 3, 4, 5, 12, 13, 14] _ rfl (by kernel_rfl)
          refine thenN ?_
          refine wp_seq ?_
          rcases if_split H0 with ⟨c357, H0⟩ | ⟨c357, H0⟩
          · rcases if_split H0 with ⟨c358, H0⟩ | ⟨c358, H0⟩
            · obtain ⟨g359, H0⟩ := if_guard H0
              obtain ⟨g360, H0⟩ := if_guard H0
              obtain ⟨r361, hr361, H0⟩ := ob_split H0
              rcases ifb_split H0 with ⟨c362, H0⟩ | ⟨c362, H0⟩
              · obtain ⟨g363, H0⟩ := if_guard H0
                obtain ⟨r364, hr364, H0⟩ := ob_split H0
                refine midReg (fun (a : Act) (w : World) => Fr 146 a [(6, .bool r364)] ∧ Mem [] M w0 [] w) ?_ ?_
                · refine anyG [] (by kernel_rfl) fun w384 hg385 => ?_
                  have hm386 := hm356.still hg385
                  have q411 := (hm386.slAt 5 rfl).float (Int.tmod (w64 (x2.2)) (rd x1.Shape 1)) g359.1 g359.2
                  obtain ⟨b412, hb412, kb412⟩ := q411.2
                  have q413 := (hm386.slAt 8 rfl).float (w64 ((w64 ((Int.tmod (w64 (x2.1)) (rd x0.Shape 0)) * (rd x1.Shape 1))) + (Int.tmod (w64 (x2.2)) (rd x1.Shape 1)))) g360.1 g360.2
                  obtain ⟨b414, hb414, kb414⟩ := q413.2
                  refine quiet0 [0, 1, 2, 3, 4, 5, 6, 7, 8, 9, 10, 11, 12, 13, 14, 15, 16, 17, 18, 19, 20] [.bool true, .bool true, .slice A301 r296.1.Data.length c302, .float .f64 b412, .slice A79 r74.1.Data.length c80, .float .f64 b414] [7, 10, 11, 12, 18, 113, 118, 127] #[true, true, true, true, true, true, true, true, true, true, true, true, true, true, true, true, true, true, true, true, true, false, false, false, false, false, false, false, false, false, false, false, false, false, false, false, false, false, false, false] [(7, .pointer (some ⟨b90, 0, none⟩)), (10, .int .i64 (rd x1.Shape 1)), (11, .int .i64 (Int.tmod (w64 (x2.1)) (rd x0.Shape 0))), (12, .int .i64 (Int.tmod (w64 (x2.2)) (rd x1.Shape 1))), (18, .pointer (some ⟨b343, 0, none⟩)), (113, .bool true), (118, .float .f64 b412), (127, .float .f64 b414)] [.is (((r296.2 : Int) == 0) = true), .is (((r326.2 : Int) == 0) = true), .cell ⟨b312, 1, none⟩ (.slice A301 r296.1.Data.length c302), .is (Option.isSome A301 = true), .is (0 ≤ (Int.tmod (w64 (x2.2)) (rd x1.Shape 1)) ∧ (Int.tmod (w64 (x2.2)) (rd x1.Shape 1)) < (r296.1.Data.length : Int)), .cell ((ad A301).add (((Int.tmod (w64 (x2.2)) (rd x1.Shape 1))).toNat * 1)) (.float .f64 b412), .cell ⟨b90, 1, none⟩ (.slice A79 r74.1.Data.length c80), .is (Option.isSome A79 = true), .is (0 ≤ (w64 ((w64 ((Int.tmod (w64 (x2.1)) (rd x0.Shape 0)) * (rd x1.Shape 1))) + (Int.tmod (w64 (x2.2)) (rd x1.Shape 1)))) ∧ (w64 ((w64 ((Int.tmod (w64 (x2.1)) (rd x0.Shape 0)) * (rd x1.Shape 1))) + (Int.tmod (w64 (x2.2)) (rd x1.Shape 1)))) < (r74.1.Data.length : Int)), .cell ((ad A79).add (((w64 ((w64 ((Int.tmod (w64 (x2.1)) (rd x0.Shape 0)) * (rd x1.Shape 1))) + (Int.tmod (w64 (x2.2)) (rd x1.Shape 1))))).toNat * 1)) (.float .f64 b414)] 19 rfl (by kernel_rfl) (fun _ _ _ _ _ h => nomatch h.1) hf355 (by kernel_rfl) ⟨(eqT c357), (eqT c358), (hm386.cell 3 rfl rfl), q411.1, g359, kb412, (hm386.cell 6 rfl rfl), q413.1, g360, kb414, trivial⟩ fun a415 hf416 => ?_
                  refine all1 21 (by kernel_rfl) ?_
                  refine opOf hf416 rfl (by kernel_rfl) (aCall (fid := 35) (args := [.float .f64 b412, .float .f64 b414]) (d := 128) hf416 (by kernel_rfl) (by kernel_rfl) callable35 (ref1_Same.calls _ _ (rd r296.1.Data (Int.tmod (w64 (x2.2)) (rd x1.Shape 1))) b412 hb412 (rd r74.1.Data (w64 ((w64 ((Int.tmod (w64 (x2.1)) (rd x0.Shape 0)) * (rd x1.Shape 1))) + (Int.tmod (w64 (x2.2)) (rd x1.Shape 1))))) b414 hb414 (hm386.give [] [] rfl rfl) r361 hr361) ?_)
                  rintro _ w417 a418 ⟨rfl, hk420⟩ hf419
                  refine ⟨.inr (Gr.still hk420.cum.none), ?_⟩
                  have hm421 := hm386.still hk420.cum.none
                  rw [c362] at hf419
                  have q422 := (hm421.slAt 2 rfl).float 0 g363.1 g363.2
                  obtain ⟨b423, hb423, kb423⟩ := q422.2
                  have q424 := (hm421.slAt 8 rfl).float (w64 ((w64 ((Int.tmod (w64 (x2.1)) (rd x0.Shape 0)) * (rd x1.Shape 1))) + (Int.tmod (w64 (x2.2)) (rd x1.Shape 1)))) g360.1 g360.2
                  obtain ⟨b425, hb425, kb425⟩ := q424.2
                  refine quiet0 [22, 23, 24, 25, 26, 27, 28, 29, 30, 31, 32, 33, 34, 35, 36] [.slice A332 r326.1.Data.length c333, .float .f64 b423, .slice A79 r74.1.Data.length c80, .float .f64 b425] [130, 134, 143] #[true, true, true, true, true, true, true, true, true, true, true, true, true, true, true, true, true, true, true, true, true, true, true, true, true, true, true, true, true, true, true, true, true, true, true, true, true, false, false, false] [(130, .bool true), (134, .float .f64 b423), (143, .float .f64 b425)] [.cell ⟨b343, 1, none⟩ (.slice A332 r326.1.Data.length c333), .is (Option.isSome A332 = true), .is ((0 : Int) ≤ 0 ∧ 0 < (r326.1.Data.length : Int)), .cell ((ad A332).add ((0 : Int).toNat * 1)) (.float .f64 b423), .cell ⟨b90, 1, none⟩ (.slice A79 r74.1.Data.length c80), .is (Option.isSome A79 = true), .is (0 ≤ (w64 ((w64 ((Int.tmod (w64 (x2.1)) (rd x0.Shape 0)) * (rd x1.Shape 1))) + (Int.tmod (w64 (x2.2)) (rd x1.Shape 1)))) ∧ (w64 ((w64 ((Int.tmod (w64 (x2.1)) (rd x0.Shape 0)) * (rd x1.Shape 1))) + (Int.tmod (w64 (x2.2)) (rd x1.Shape 1)))) < (r74.1.Data.length : Int)), .cell ((ad A79).add (((w64 ((w64 ((Int.tmod (w64 (x2.1)) (rd x0.Shape 0)) * (rd x1.Shape 1))) + (Int.tmod (w64 (x2.2)) (rd x1.Shape 1))))).toNat * 1)) (.float .f64 b425)] 3 rfl (by kernel_rfl) (fun _ _ _ _ _ h => nomatch h.1) hf419 (by kernel_rfl) ⟨(hm421.cell 0 rfl rfl), q422.1, g363, kb423, (hm421.cell 6 rfl rfl), q424.1, g360, kb425, trivial⟩ fun a426 hf427 => ?_
                  refine all1 37 (by kernel_rfl) ?_
                  refine opOf hf427 rfl (by kernel_rfl) (aCall (fid := 35) (args := [.float .f64 b423, .float .f64 b425]) (d := 144) hf427 (by kernel_rfl) (by kernel_rfl) callable35 (ref1_Same.calls _ _ (rd r326.1.Data 0) b423 hb423 (rd r74.1.Data (w64 ((w64 ((Int.tmod (w64 (x2.1)) (rd x0.Shape 0)) * (rd x1.Shape 1))) + (Int.tmod (w64 (x2.2)) (rd x1.Shape 1))))) b425 hb425 (hm421.give [] [] rfl rfl) r364 hr364) ?_)
                  rintro _ w428 a429 ⟨rfl, hk431⟩ hf430
                  refine ⟨.inr (Gr.still hk431.cum.none), ?_⟩
                  have hm432 := hm421.still hk431.cum.none
                  refine quiet0 [38, 39] [] [6] #[true, true, true, true, true, true, true, true, true, true, true, true, true, true, true, true, true, true, true, true, true, true, true, true, true, true, true, true, true, true, true, true, true, true, true, true, true, true, true, true] [(6, .bool r364)] [] 0 rfl (by kernel_rfl) (fun _ _ _ _ _ h => nomatch h.1) hf430 (by kernel_rfl) trivial fun a433 hf434 => ?_
                  refine allDone (by kernel_rfl) ⟨rfl, hf434.sel (l := [6]) (by kernel_rfl), hm432.sel [] _ rfl (by kernel_rfl)⟩
                rintro a435 w436 ⟨hf437, hm438⟩
                refine thenN ?_
                refine wp_ret ?_
                have hm439 : Mem [] M w0 [] w436 := hm438.sel [] _ rfl (by kernel_rfl)
                obtain rfl := Option.some.inj H0
                refine ret [] [.bool r364] [] hf437 (by kernel_rfl) trivial ?_
                exact ⟨_, rfl, rfl, hm439⟩
              · refine midReg (fun (a : Act) (w : World) => Fr 146 a [(6, .bool false)] ∧ Mem [] M w0 [] w) ?_ ?_
                · refine anyG [] (by kernel_rfl) fun w451 hg452 => ?_
                  have hm453 := hm356.still hg452
                  have q467 := (hm453.slAt 5 rfl).float (Int.tmod (w64 (x2.2)) (rd x1.Shape 1)) g359.1 g359.2
                  obtain ⟨b468, hb468, kb468⟩ := q467.2
                  have q469 := (hm453.slAt 8 rfl).float (w64 ((w64 ((Int.tmod (w64 (x2.1)) (rd x0.Shape 0)) * (rd x1.Shape 1))) + (Int.tmod (w64 (x2.2)) (rd x1.Shape 1)))) g360.1 g360.2
                  obtain ⟨b470, hb470, kb470⟩ := q469.2
                  refine quiet0 [0, 1, 2, 3, 4, 5, 6, 7, 8, 9, 10, 11, 12, 13, 14, 15, 16, 17, 18, 19, 20] [.bool true, .bool true, .slice A301 r296.1.Data.length c302, .float .f64 b468, .slice A79 r74.1.Data.length c80, .float .f64 b470] [7, 10, 11, 12, 18, 113, 118, 127] #[true, true, true, true, true, true, true, true, true, true, true, true, true, true, true, true, true, true, true, true, true, false, false, false, false, false, false, false, false, false, false, false, false, false, false, false, false, false, false, false] [(7, .pointer (some ⟨b90, 0, none⟩)), (10, .int .i64 (rd x1.Shape 1)), (11, .int .i64 (Int.tmod (w64 (x2.1)) (rd x0.Shape 0))), (12, .int .i64 (Int.tmod (w64 (x2.2)) (rd x1.Shape 1))), (18, .pointer (some ⟨b343, 0, none⟩)), (113, .bool true), (118, .float .f64 b468), (127, .float .f64 b470)] [.is (((r296.2 : Int) == 0) = true), .is (((r326.2 : Int) == 0) = true), .cell ⟨b312, 1, none⟩ (.slice A301 r296.1.Data.length c302), .is (Option.isSome A301 = true), .is (0 ≤ (Int.tmod (w64 (x2.2)) (rd x1.Shape 1)) ∧ (Int.tmod (w64 (x2.2)) (rd x1.Shape 1)) < (r296.1.Data.length : Int)), .cell ((ad A301).add (((Int.tmod (w64 (x2.2)) (rd x1.Shape 1))).toNat * 1)) (.float .f64 b468), .cell ⟨b90, 1, none⟩ (.slice A79 r74.1.Data.length c80), .is (Option.isSome A79 = true), .is (0 ≤ (w64 ((w64 ((Int.tmod (w64 (x2.1)) (rd x0.Shape 0)) * (rd x1.Shape 1))) + (Int.tmod (w64 (x2.2)) (rd x1.Shape 1)))) ∧ (w64 ((w64 ((Int.tmod (w64 (x2.1)) (rd x0.Shape 0)) * (rd x1.Shape 1))) + (Int.tmod (w64 (x2.2)) (rd x1.Shape 1)))) < (r74.1.Data.length : Int)), .cell ((ad A79).add (((w64 ((w64 ((Int.tmod (w64 (x2.1)) (rd x0.Shape 0)) * (rd x1.Shape 1))) + (Int.tmod (w64 (x2.2)) (rd x1.Shape 1))))).toNat * 1)) (.float .f64 b470)] 19 rfl (by kernel_rfl) (fun _ _ _ _ _ h => nomatch h.1) hf355 (by kernel_rfl) ⟨(eqT c357), (eqT c358), (hm453.cell 3 rfl rfl), q467.1, g359, kb468, (hm453.cell 6 rfl rfl), q469.1, g360, kb470, trivial⟩ fun a471 hf472 => ?_
                  refine all1 21 (by kernel_rfl) ?_
                  refine opOf hf472 rfl (by kernel_rfl) (aCall (fid := 35) (args := [.float .f64 b468, .float .f64 b470]) (d := 128) hf472 (by kernel_rfl) (by kernel_rfl) callable35 (ref1_Same.calls _ _ (rd r296.1.Data (Int.tmod (w64 (x2.2)) (rd x1.Shape 1))) b468 hb468 (rd r74.1.Data (w64 ((w64 ((Int.tmod (w64 (x2.1)) (rd x0.Shape 0)) * (rd x1.Shape 1))) + (Int.tmod (w64 (x2.2)) (rd x1.Shape 1))))) b470 hb470 (hm453.give [] [] rfl rfl) r361 hr361) ?_)
                  rintro _ w473 a474 ⟨rfl, hk476⟩ hf475
                  refine ⟨.inr (Gr.still hk476.cum.none), ?_⟩
                  have hm477 := hm453.still hk476.cum.none
                  rw [c362] at hf475
                  refine quiet0 [22, 23, 24, 25, 26, 27, 28, 29, 30, 31, 32, 33, 34, 35, 36, 37, 38, 39] [] [6] #[true, true, true, true, true, true, true, true, true, true, true, true, true, true, true, true, true, true, true, true, true, true, true, true, true, true, true, true, true, true, true, true, true, true, true, true, true, true, true, true] [(6, .bool false)] [] 0 rfl (by kernel_rfl) (fun _ _ _ _ _ h => nomatch h.1) hf475 (by kernel_rfl) trivial fun a478 hf479 => ?_
                  refine allDone (by kernel_rfl) ⟨rfl, hf479.sel (l := [6]) (by kernel_rfl), hm477.sel [] _ rfl (by kernel_rfl)⟩
                rintro a480 w481 ⟨hf482, hm483⟩
                refine thenN ?_
                refine wp_ret ?_
                have hm484 : Mem [] M w0 [] w481 := hm483.sel [] _ rfl (by kernel_rfl)
                obtain rfl := Option.some.inj H0
                refine ret [] [.bool false] [] hf482 (by kernel_rfl) trivial ?_
                exact ⟨_, rfl, rfl, hm484⟩
            · refine regQ [.bool true, .bool false] [6] [(6, .bool false)] [.is (((r296.2 : Int) == 0) = true), .is (((r326.2 : Int) == 0) = false)] (by kernel_rfl) (by kernel_rfl) hf355 (by kernel_rfl) ⟨(eqT c357), (eqF c358), trivial⟩ fun a486 w488 hf487 hg489 => ?_
              have hm490 := hm356.still hg489
              have hm491 := hm490.sel [] _ rfl (by kernel_rfl)
              refine thenN ?_
              refine wp_ret ?_
              have hm492 : Mem [] M w0 [] w488 := hm491.sel [] _ rfl (by kernel_rfl)
              obtain rfl := Option.some.inj H0
              refine ret [] [.bool false] [] hf487 (by kernel_rfl) trivial ?_
              exact ⟨_, rfl, rfl, hm492⟩
          · refine regQ [.bool false] [6] [(6, .bool false)] [.is (((r296.2 : Int) == 0) = false)] (by kernel_rfl) (by kernel_rfl) hf355 (by kernel_rfl) ⟨(eqF c357), trivial⟩ fun a494 w496 hf495 hg497 => ?_
            have hm498 := hm356.still hg497
            have hm499 := hm498.sel [] _ rfl (by kernel_rfl)
            refine thenN ?_
            refine wp_ret ?_
            have hm500 : Mem [] M w0 [] w496 := hm499.sel [] _ rfl (by kernel_rfl)
            obtain rfl := Option.some.inj H0
            refine ret [] [.bool false] [] hf495 (by kernel_rfl) trivial ?_
            exact ⟨_, rfl, rfl, hm500⟩
        · refine reg [.bool true] [3, 4, 5, 7, 37] [(3, .pointer (some ⟨b21, 0, none⟩)), (4, .pointer (some ⟨b28, 0, none⟩)), (5, .pointer (some ⟨b35, 0, none⟩)), (7, .pointer (some ⟨b90, 0, none⟩)), (37, .bool true)] [.is (((r74.2 : Int) != 0) = true)] hf102 (by kernel_rfl) ⟨(neT c103), trivial⟩ fun a502 hf503 => ?_
          refine thenN ?_
          refine condT hf503 (by kernel_rfl) ?_
          refine wp_seq ?_
          refine reg [] [6] [(6, .bool true)] [] hf503 (by kernel_rfl) trivial fun a504 hf505 => ?_
          have hm506 := hm100.sel [] _ rfl (by kernel_rfl)
          refine thenN ?_
          refine wp_ret ?_
          refine thenR ?_
          have hm507 : Mem [] M w0 [] w97 := hm506.sel [] _ rfl (by kernel_rfl)
          obtain rfl := Option.some.inj H0
          refine ret [] [.bool true] [] hf505 (by kernel_rfl) trivial ?_
          exact ⟨_, rfl, rfl, hm507⟩
      · refine inReg ?_
        refine go 1 [.agg #[.slice A0_0 x0.Shape.length c0_0, .slice A0_1 x0.Data.length c0_1]] [3, 4, 5, 22] [(3, .pointer (some ⟨b21, 0, none⟩)), (4, .pointer (some ⟨b28, 0, none⟩)), (5, .pointer (some ⟨b35, 0, none⟩)), (22, .agg #[.slice A0_0 x0.Shape.length c0_0, .slice A0_1 x0.Data.length c0_1])] [.cell ⟨b21, 0, none⟩ (.slice A0_0 x0.Shape.length c0_0), .cell ⟨b21, 1, none⟩ (.slice A0_1 x0.Data.length c0_1)] hf52 (by kernel_rfl) ⟨(hm50.cell 2 rfl rfl), (hm50.cell 2 rfl rfl), trivial⟩ fun a509 hf510 => ?_
        refine listOf hf510 rfl (by kernel_rfl) (aCall (fid := 33) (args := [.agg #[.slice A0_0 x0.Shape.length c0_0, .slice A0_1 x0.Data.length c0_1]]) (d := 23) hf510 (by kernel_rfl) (by kernel_rfl) callable33 (law3_Small.calls _ _ x0 A0_0 x0.Shape.length c0_0 rfl A0_1 x0.Data.length c0_1 rfl (hm50.give [3, 4] [.sl (Kd.int .i64) A0_0 c0_0 x0.Shape, .sl Kd.float A0_1 c0_1 x0.Data] rfl rfl) r53 hr53) ?_)
        rintro _ w511 a512 ⟨rfl, hk514⟩ hf513
        have hm515 := hm50.still hk514.cum.none
        rw [c54] at hf513
        refine go 3 [.agg #[.slice A1_0 x1.Shape.length c1_0, .slice A1_1 x1.Data.length c1_1]] [3, 4, 5, 25, 26] [(3, .pointer (some ⟨b21, 0, none⟩)), (4, .pointer (some ⟨b28, 0, none⟩)), (5, .pointer (some ⟨b35, 0, none⟩)), (25, .bool false), (26, .agg #[.slice A1_0 x1.Shape.length c1_0, .slice A1_1 x1.Data.length c1_1])] [.cell ⟨b28, 0, none⟩ (.slice A1_0 x1.Shape.length c1_0), .cell ⟨b28, 1, none⟩ (.slice A1_1 x1.Data.length c1_1)] hf513 (by kernel_rfl) ⟨(hm515.cell 1 rfl rfl), (hm515.cell 1 rfl rfl), trivial⟩ fun a516 hf517 => ?_
        refine listOf hf517 rfl (by kernel_rfl) (aCall (fid := 33) (args := [.agg #[.slice A1_0 x1.Shape.length c1_0, .slice A1_1 x1.Data.length c1_1]]) (d := 27) hf517 (by kernel_rfl) (by kernel_rfl) callable33 (law3_Small.calls _ _ x1 A1_0 x1.Shape.length c1_0 rfl A1_1 x1.Data.length c1_1 rfl (hm515.give [5, 6] [.sl (Kd.int .i64) A1_0 c1_0 x1.Shape, .sl Kd.float A1_1 c1_1 x1.Data] rfl rfl) r55 hr55) ?_)
        rintro _ w518 a519 ⟨rfl, hk521⟩ hf520
        have hm522 := hm515.still hk521.cum.none
        rw [c56] at hf520
        refine go 2 [] [3, 4, 5, 29] [(3, .pointer (some ⟨b21, 0, none⟩)), (4, .pointer (some ⟨b28, 0, none⟩)), (5, .pointer (some ⟨b35, 0, none⟩)), (29, .bool true)] [] hf520 (by kernel_rfl) trivial fun a523 hf524 => ?_
        refine endL rfl ?_
        refine thenN ?_
        refine condT hf524 (by kernel_rfl) ?_
        refine wp_seq ?_
        refine reg [] [6] [(6, .bool true)] [] hf524 (by kernel_rfl) trivial fun a525 hf526 => ?_
        have hm527 := hm522.sel [] _ rfl (by kernel_rfl)
        refine thenN ?_
        refine wp_ret ?_
        refine thenR ?_
        have hm528 : Mem [] M w0 [] w518 := hm527.sel [] _ rfl (by kernel_rfl)
        obtain rfl := Option.some.inj H0
        refine ret [] [.bool true] [] hf526 (by kernel_rfl) trivial ?_
        exact ⟨_, rfl, rfl, hm528⟩
    · refine inReg ?_
      refine go 1 [.agg #[.slice A0_0 x0.Shape.length c0_0, .slice A0_1 x0.Data.length c0_1]] [3, 4, 5, 22] [(3, .pointer (some ⟨b21, 0, none⟩)), (4, .pointer (some ⟨b28, 0, none⟩)), (5, .pointer (some ⟨b35, 0, none⟩)), (22, .agg #[.slice A0_0 x0.Shape.length c0_0, .slice A0_1 x0.Data.length c0_1])] [.cell ⟨b21, 0, none⟩ (.slice A0_0 x0.Shape.length c0_0), .cell ⟨b21, 1, none⟩ (.slice A0_1 x0.Data.length c0_1)] hf52 (by kernel_rfl) ⟨(hm50.cell 2 rfl rfl), (hm50.cell 2 rfl rfl), trivial⟩ fun a530 hf531 => ?_
      refine listOf hf531 rfl (by kernel_rfl) (aCall (fid := 33) (args := [.agg #[.slice A0_0 x0.Shape.length c0_0, .slice A0_1 x0.Data.length c0_1]]) (d := 23) hf531 (by kernel_rfl) (by kernel_rfl) callable33 (law3_Small.calls _ _ x0 A0_0 x0.Shape.length c0_0 rfl A0_1 x0.Data.length c0_1 rfl (hm50.give [3, 4] [.sl (Kd.int .i64) A0_0 c0_0 x0.Shape, .sl Kd.float A0_1 c0_1 x0.Data] rfl rfl) r53 hr53) ?_)
      rintro _ w532 a533 ⟨rfl, hk535⟩ hf534
      have hm536 := hm50.still hk535.cum.none
      rw [c54] at hf534
      refine go 6 [] [3, 4, 5, 29] [(3, .pointer (some ⟨b21, 0, none⟩)), (4, .pointer (some ⟨b28, 0, none⟩)), (5, .pointer (some ⟨b35, 0, none⟩)), (29, .bool true)] [] hf534 (by kernel_rfl) trivial fun a537 hf538 => ?_
      refine endL rfl ?_
      refine thenN ?_
      refine condT hf538 (by kernel_rfl) ?_
      refine wp_seq ?_
      refine reg [] [6] [(6, .bool true)] [] hf538 (by kernel_rfl) trivial fun a539 hf540 => ?_
      have hm541 := hm536.sel [] _ rfl (by kernel_rfl)
      refine thenN ?_
      refine wp_ret ?_
      refine thenR ?_
      have hm542 : Mem [] M w0 [] w532 := hm541.sel [] _ rfl (by kernel_rfl)
      obtain rfl := Option.some.inj H0
      refine ret [] [.bool true] [] hf540 (by kernel_rfl) trivial ?_
      exact ⟨_, rfl, rfl, hm542⟩
  · refine inReg ?_
    refine listOf hf43 rfl (by kernel_rfl) (aCall (fid := 32) (args := []) (d := 20) hf43 (by kernel_rfl) (by kernel_rfl) callable32 (law5_awake.calls _ _  (hm41.give [] [] rfl rfl) r44 hr44) ?_)
    rintro _ w544 a545 ⟨rfl, hk547⟩ hf546
    have hm548 := hm41.still hk547.cum.none
    rw [c45] at hf546
    refine go 1 [] [3, 4, 5, 21] [(3, .pointer (some ⟨b21, 0, none⟩)), (4, .pointer (some ⟨b28, 0, none⟩)), (5, .pointer (some ⟨b35, 0, none⟩)), (21, .bool true)] [] hf546 (by kernel_rfl) trivial fun a549 hf550 => ?_
    refine endL rfl ?_
    refine thenN ?_
    refine condT hf550 (by kernel_rfl) ?_
    refine wp_seq ?_
    refine reg [] [6] [(6, .bool false)] [] hf550 (by kernel_rfl) trivial fun a551 hf552 => ?_
    have hm553 := hm548.sel [] _ rfl (by kernel_rfl)
    refine thenN ?_
    refine wp_ret ?_
    refine thenR ?_
    have hm554 : Mem [] M w0 [] w544 := hm553.sel [] _ rfl (by kernel_rfl)
    obtain rfl := Option.some.inj H0
    refine ret [] [.bool false] [] hf552 (by kernel_rfl) trivial ?_
    exact ⟨_, rfl, rfl, hm554⟩
end Go.Proofs.Ytkcgiolledmbnaa
