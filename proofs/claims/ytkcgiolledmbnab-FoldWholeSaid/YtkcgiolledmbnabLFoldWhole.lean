/- Printed by gen.py. -/
import Derived.Test.YtkcgiolledmbnabF11
import Derived.Test.YtkcgiolledmbnabF5
import Derived.Test.YtkcgiolledmbnabF6
namespace Go.Proofs.Ytkcgiolledmbnab
open Go Go.RowKit
set_option linter.unusedSimpArgs false
set_option linter.unusedVariables false
set_option linter.unnecessarySimpa false
/-! ### backstitch/backstitchlaw8.FoldWhole -/
noncomputable def law8_FoldWhole.l1 (s65 : (Int × Int × Int × Int × Int × (List Tensor))) (x0 : (List (Int × Int × Int × Int))) (s105 : (Int × Int × Int × Int × Int × (List Nat))) : Step (Int × Int × Int × Int × Int × (List Nat)) (Int × Int × Int × Int × Int × (List Nat)) :=
  if s105.1 < 4 then (if 0 ≤ s65.1 ∧ s65.1 < (x0.length : Int) then (if s105.1 = 0 then (if s105.2.2.2.2.2.length + 1 ≤ 549755813888 then (.next (1, (w64 (s105.2.1 + (w64 ((rd x0 s65.1).1)))), s105.2.2.1, s105.2.2.2.1, s105.2.2.2.2.1, (s105.2.2.2.2.2 ++ ([(ofInt ((rd x0 s65.1).1))] : List Nat))))
  else .bad)
  else (if s105.1 = 1 then (if s105.2.2.2.2.2.length + 1 ≤ 549755813888 then (.next (2, s105.2.1, (w64 (s105.2.2.1 + (w64 ((rd x0 s65.1).2.1)))), s105.2.2.2.1, s105.2.2.2.2.1, (s105.2.2.2.2.2 ++ ([(ofInt ((rd x0 s65.1).2.1))] : List Nat))))
  else .bad)
  else (if s105.1 = 2 then (if s105.2.2.2.2.2.length + 1 ≤ 549755813888 then (.next (3, s105.2.1, s105.2.2.1, (w64 (s105.2.2.2.1 + (w64 ((rd x0 s65.1).2.2.1)))), s105.2.2.2.2.1, (s105.2.2.2.2.2 ++ ([(ofInt ((rd x0 s65.1).2.2.1))] : List Nat))))
  else .bad)
  else (if s105.1 = 3 then (if s105.2.2.2.2.2.length + 1 ≤ 549755813888 then (.next (4, s105.2.1, s105.2.2.1, s105.2.2.2.1, (w64 (s105.2.2.2.2.1 + (w64 ((rd x0 s65.1).2.2.2)))), (s105.2.2.2.2.2 ++ ([(ofInt ((rd x0 s65.1).2.2.2))] : List Nat))))
  else .bad)
  else .bad))))
  else .bad)
  else (.done (s105.1, s105.2.1, s105.2.2.1, s105.2.2.2.1, s105.2.2.2.2.1, s105.2.2.2.2.2))
noncomputable def law8_FoldWhole.l0 (x0 : (List (Int × Int × Int × Int))) (s65 : (Int × Int × Int × Int × Int × (List Tensor))) : Step (Int × Int × Int × Int × Int × (List Tensor)) (Int × Int × Int × Int × Int × (List Tensor)) :=
  if s65.1 < (x0.length : Int) then (bindS (loop (law8_FoldWhole.l1 s65 x0) (0, s65.2.1, s65.2.2.1, s65.2.2.2.1, s65.2.2.2.2.1, ([] : (List Nat)))) fun r108 =>
  if s65.2.2.2.2.2.length + 1 ≤ 549755813888 then (.next ((w64 (s65.1 + 1)), r108.2.1, r108.2.2.1, r108.2.2.2.1, r108.2.2.2.2.1, (s65.2.2.2.2.2 ++ ([(⟨([2, 2] : List Int), r108.2.2.2.2.2⟩ : Tensor)] : List Tensor))))
  else .bad)
  else (.done (s65.1, s65.2.1, s65.2.2.1, s65.2.2.2.1, s65.2.2.2.2.1, s65.2.2.2.2.2))
noncomputable def law8_FoldWhole.l2 (r933 : (Tensor × Int)) (r68 : (Int × Int × Int × Int × Int × (List Tensor))) (s970 : Int) : Step Int (Out2 Int Bool) :=
  if s970 < 4 then (if 0 ≤ s970 ∧ s970 < (r933.1.Data.length : Int) then (if s970 = 0 then (if (0 : Int) ≤ 0 ∧ 0 < (r933.1.Data.length : Int) then (if (fne (rd r933.1.Data 0) (ofInt r68.2.1)) = true then (.done (.ret false))
  else (.next 1))
  else .bad)
  else (if s970 = 1 then (if (0 : Int) ≤ 1 ∧ 1 < (r933.1.Data.length : Int) then (if (fne (rd r933.1.Data 1) (ofInt r68.2.2.1)) = true then (.done (.ret false))
  else (.next 2))
  else .bad)
  else (if s970 = 2 then (if (0 : Int) ≤ 2 ∧ 2 < (r933.1.Data.length : Int) then (if (fne (rd r933.1.Data 2) (ofInt r68.2.2.2.1)) = true then (.done (.ret false))
  else (.next 3))
  else .bad)
  else (if s970 = 3 then (if (0 : Int) ≤ 3 ∧ 3 < (r933.1.Data.length : Int) then (if (fne (rd r933.1.Data 3) (ofInt r68.2.2.2.2.1)) = true then (.done (.ret false))
  else (.next 4))
  else .bad)
  else .bad))))
  else .bad)
  else (.done (.go s970))
noncomputable def law8_FoldWhole.f (x0 : (List (Int × Int × Int × Int))) (x1 : (Nat × Nat × Nat × Nat)) : Option Bool :=
  (law8_awake.f).bind fun r30 =>
  if r30 = true then (if 200 < (x0.length : Int) then (some true)
  else ((loop (law8_FoldWhole.l0 x0) (0, 0, 0, 0, 0, ([] : (List Tensor)))).bind fun r68 =>
  (fold_Tree.f ([(⟨([4] : List Int), ([x1.1, x1.2.1, x1.2.2.1, x1.2.2.2] : List Nat)⟩ : Tensor)] : List Tensor)).bind fun r867 =>
  if r867.2 = 0 then ((ref1_SameTensor.f r867.1 (⟨([4] : List Int), ([x1.1, x1.2.1, x1.2.2.1, x1.2.2.2] : List Nat)⟩ : Tensor)).bind fun r905 =>
  if r905 = true then (if (x0.length : Int) = 0 then (some true)
  else ((fold_Tree.f r68.2.2.2.2.2).bind fun r933 =>
  if r933.2 = 0 then (if (r933.1.Data.length : Int) = 4 then ((loop (law8_FoldWhole.l2 r933 r68) 0).bind fun r971 =>
  r971.on (fun yr971 =>
  some true) (fun y => some y))
  else (some false))
  else (some false)))
  else (if (x0.length : Int) = 0 then (some true)
  else (some false)))
  else (some false)))
  else (some false)
set_option maxRecDepth 100000 in
set_option maxHeartbeats 4000000 in
theorem law8_FoldWhole.calls (M : List (Option Nat)) (w0 : World) (x0 : (List (Int × Int × Int × Int))) (A0 : Option Addr) (n0 c0 : Nat) (e0 : n0 = x0.length) (x1 : (Nat × Nat × Nat × Nat)) (b1_0 : Nat) (h1_0 : FR b1_0 x1.1) (b1_1 : Nat) (h1_1 : FR b1_1 x1.2.1) (b1_2 : Nat) (h1_2 : FR b1_2 x1.2.2.1) (b1_3 : Nat) (h1_3 : FR b1_3 x1.2.2.2) (hm0 : Mem [] M w0 [.sl (Kd.pair (Kd.int .i16) (Kd.pair (Kd.int .i16) (Kd.pair (Kd.int .i16) (Kd.int .i16)))) A0 c0 x0] w0) (r : Bool) (H0 : law8_FoldWhole.f x0 x1 = some r) :
    Calls Try.prog 6 [.slice A0 n0 c0, .agg #[.float .f64 b1_0, .float .f64 b1_1, .float .f64 b1_2, .float .f64 b1_3]].toArray w0 (fun x w' => ∃ v, x = .returned v ∧ v = .bool r ∧ Mem [] M w0 [] w') := by
  subst e0
  unfold law8_FoldWhole.f at H0
  refine enter (n := 126) Try.func6 rfl rfl (by kernel_rfl) fun a0 (hf0 : Fr 126 a0 [(0, .slice A0 x0.length c0), (1, .agg #[.float .f64 b1_0, .float .f64 b1_1, .float .f64 b1_2, .float .f64 b1_3])]) => ?_
  refine wp_seq ?_
  refine inReg ?_
  refine listOf hf0 rfl (by kernel_rfl) (aNew (cs := [.float .f64 b1_0, .float .f64 b1_1, .float .f64 b1_2, .float .f64 b1_3]) (T := 46) (d := 3) hf0 (by kernel_rfl) (by kernel_rfl) ?_)
  intro b21 w22 a23 hbb21 hx25 hg26 hf24
  have hm27 := hm0.box hbb21 hx25 hg26
  refine go 1 [] [0, 3] [(0, .slice A0 x0.length c0), (3, .pointer (some ⟨b21, 0, none⟩))] [] hf24 (by kernel_rfl) trivial fun a28 hf29 => ?_
  refine endL rfl ?_
  refine thenN ?_
  refine wp_seq ?_
  refine wp_seq ?_
  obtain ⟨r30, hr30, H0⟩ := ob_split H0
  rcases ifb_split H0 with ⟨c31, H0⟩ | ⟨c31, H0⟩
  · refine inReg ?_
    refine listOf hf29 rfl (by kernel_rfl) (aCall (fid := 15) (args := []) (d := 16) hf29 (by kernel_rfl) (by kernel_rfl) callable15 (law8_awake.calls _ _  (hm27.give [] [] rfl rfl) r30 hr30) ?_)
    rintro _ w32 a33 ⟨rfl, hk35⟩ hf34
    have hm36 := hm27.still hk35.cum.none
    rw [c31] at hf34
    refine go 1 [] [0, 3, 17] [(0, .slice A0 x0.length c0), (3, .pointer (some ⟨b21, 0, none⟩)), (17, .bool false)] [] hf34 (by kernel_rfl) trivial fun a37 hf38 => ?_
    refine endL rfl ?_
    refine thenN ?_
    refine condF hf38 (by kernel_rfl) ?_
    refine wp_skip ?_
    refine thenN ?_
    refine wp_seq ?_
    refine wp_seq ?_
    rcases if_split H0 with ⟨c39, H0⟩ | ⟨c39, H0⟩
    · refine reg [.bool true] [0, 3, 20] [(0, .slice A0 x0.length c0), (3, .pointer (some ⟨b21, 0, none⟩)), (20, .bool true)] [.is (decide (200 < (x0.length : Int)) = true)] hf38 (by kernel_rfl) ⟨(decide_eq_true c39), trivial⟩ fun a40 hf41 => ?_
      refine thenN ?_
      refine condT hf41 (by kernel_rfl) ?_
      refine wp_seq ?_
      refine reg [] [4] [(4, .bool true)] [] hf41 (by kernel_rfl) trivial fun a42 hf43 => ?_
      have hm44 := hm36.sel [] _ rfl (by kernel_rfl)
      refine thenN ?_
      refine wp_ret ?_
      refine thenR ?_
      have hm45 : Mem [] M w0 [] w32 := hm44.sel [] _ rfl (by kernel_rfl)
      obtain rfl := Option.some.inj H0
      refine ret [] [.bool true] [] hf43 (by kernel_rfl) trivial ?_
      exact ⟨_, rfl, rfl, hm45⟩
    · refine reg [.bool false] [0, 3, 20] [(0, .slice A0 x0.length c0), (3, .pointer (some ⟨b21, 0, none⟩)), (20, .bool false)] [.is (decide (200 < (x0.length : Int)) = false)] hf38 (by kernel_rfl) ⟨(decide_eq_false c39), trivial⟩ fun a47 hf48 => ?_
      refine thenN ?_
      refine condF hf48 (by kernel_rfl) ?_
      refine wp_skip ?_
      refine thenN ?_
      refine wp_seq ?_
      refine reg [] [0, 3, 5] [(0, .slice A0 x0.length c0), (3, .pointer (some ⟨b21, 0, none⟩)), (5, .slice none 0 0)] [] hf48 (by kernel_rfl) trivial fun a49 hf50 => ?_
      refine thenN ?_
      refine wp_seq ?_
      refine inReg ?_
      refine listOf hf50 rfl (by kernel_rfl) (aNew (cs := [.int .i64 0, .int .i64 0, .int .i64 0, .int .i64 0]) (T := 47) (d := 6) hf50 (by kernel_rfl) (by kernel_rfl) ?_)
      intro b51 w52 a53 hbb51 hx55 hg56 hf54
      have hm57 := hm36.box hbb51 hx55 hg56
      refine endL rfl ?_
      refine thenN ?_
      refine wp_seq ?_
      refine wp_seq ?_
      refine reg [] [0, 3, 5, 6, 7] [(0, .slice A0 x0.length c0), (3, .pointer (some ⟨b21, 0, none⟩)), (5, .slice none 0 0), (6, .pointer (some ⟨b51, 0, none⟩)), (7, .int .i64 0)] [] hf54 (by kernel_rfl) trivial fun a58 hf59 => ?_
      refine thenN ?_
      have hm61 : Mem [] M w0 [.ow kTensor 28 none 0 ([] : (List Tensor)), .bx b51 [.int .i64 0, .int .i64 0, .int .i64 0, .int .i64 0] 47, .bx b21 [.float .f64 b1_0, .float .f64 b1_1, .float .f64 b1_2, .float .f64 b1_3] 46, .sl (Kd.pair (Kd.int .i16) (Kd.pair (Kd.int .i16) (Kd.pair (Kd.int .i16) (Kd.int .i16)))) A0 c0 x0] w52 := hm57.nilOw kTensor 28
      obtain ⟨r68, hr68, H0⟩ := ob_split H0
      refine wpBlock (Mid := fun (a : Act) (w : World) => ∃ (A66 : Option Addr) (c67 : Nat), Fr 126 a [(0, .slice A0 x0.length c0), (3, .pointer (some ⟨b21, 0, none⟩)), (5, .slice A66 r68.2.2.2.2.2.length c67), (6, .pointer (some ⟨b51, 0, none⟩)), (7, .int .i64 r68.1)] ∧ Mem [] M w0 [.ow kTensor 28 A66 c67 r68.2.2.2.2.2, .bx b51 [.int .i64 r68.2.1, .int .i64 r68.2.2.1, .int .i64 r68.2.2.2.1, .int .i64 r68.2.2.2.2.1] 47, .bx b21 [.float .f64 b1_0, .float .f64 b1_1, .float .f64 b1_2, .float .f64 b1_3] 46, .sl (Kd.pair (Kd.int .i16) (Kd.pair (Kd.int .i16) (Kd.pair (Kd.int .i16) (Kd.int .i16)))) A0 c0 x0] w) ?_ ?_
      · refine wpLoop (law8_FoldWhole.l0 x0) r68 (fun (s65 : (Int × Int × Int × Int × Int × (List Tensor))) (a : Act) (w : World) => ∃ (A66 : Option Addr) (c67 : Nat), Fr 126 a [(0, .slice A0 x0.length c0), (3, .pointer (some ⟨b21, 0, none⟩)), (5, .slice A66 s65.2.2.2.2.2.length c67), (6, .pointer (some ⟨b51, 0, none⟩)), (7, .int .i64 s65.1)] ∧ Mem [] M w0 [.ow kTensor 28 A66 c67 s65.2.2.2.2.2, .bx b51 [.int .i64 s65.2.1, .int .i64 s65.2.2.1, .int .i64 s65.2.2.2.1, .int .i64 s65.2.2.2.2.1] 47, .bx b21 [.float .f64 b1_0, .float .f64 b1_1, .float .f64 b1_2, .float .f64 b1_3] 46, .sl (Kd.pair (Kd.int .i16) (Kd.pair (Kd.int .i16) (Kd.pair (Kd.int .i16) (Kd.int .i16)))) A0 c0 x0] w) (0, 0, 0, 0, 0, ([] : (List Tensor))) hr68 ⟨none, 0, hf59.sel (l := [0, 3, 5, 6, 7]) (by kernel_rfl), hm61.sel [0, 1, 2, 3] _ rfl (by kernel_rfl)⟩ ?_
        rintro g69 s65 a70 w71 H1 ⟨A66, c67, hf72, hm73⟩
        unfold law8_FoldWhole.l0 at H1
        refine wp_seq ?_
        refine wp_seq ?_
        rcases ifS_split H1 with ⟨c74, H1⟩ | ⟨c74, H1⟩
        · refine reg [.bool true] [0, 3, 5, 6, 7, 24] [(0, .slice A0 x0.length c0), (3, .pointer (some ⟨b21, 0, none⟩)), (5, .slice A66 s65.2.2.2.2.2.length c67), (6, .pointer (some ⟨b51, 0, none⟩)), (7, .int .i64 s65.1), (24, .bool true)] [.is (decide (s65.1 < (x0.length : Int)) = true)] hf72 (by kernel_rfl) ⟨(decide_eq_true c74), trivial⟩ fun a75 hf76 => ?_
          refine thenN ?_
          refine condT hf76 (by kernel_rfl) ?_
          refine wp_skip ?_
          refine thenN ?_
          refine wp_seq ?_
          refine wp_block ?_
          refine wp_seq ?_
          refine inReg ?_
          refine listOf hf76 rfl (by kernel_rfl) (aLit (cs := [.int .i64 2, .int .i64 2]) (E := 3) (len := 2) (d := 27) hf76 (by kernel_rfl) (by kernel_rfl) ?_)
          intro b77 w78 a79 hbb77 hx81 hg82 hf80
          have hm73s := hm73.still hg82
          have hm83 : Mem [] M w0 [.sl (Kd.int .i64) (some ⟨b77, 0, none⟩) 2 ([2, 2] : List Int), .ow kTensor 28 A66 c67 s65.2.2.2.2.2, .bx b51 [.int .i64 s65.2.1, .int .i64 s65.2.2.1, .int .i64 s65.2.2.2.1, .int .i64 s65.2.2.2.2.1] 47, .bx b21 [.float .f64 b1_0, .float .f64 b1_1, .float .f64 b1_2, .float .f64 b1_3] 46, .sl (Kd.pair (Kd.int .i16) (Kd.pair (Kd.int .i16) (Kd.pair (Kd.int .i16) (Kd.int .i16)))) A0 c0 x0] w78 := Mem.lit (kd := (Kd.int .i64)) (xs := ([2, 2] : List Int)) hm73 hbb77 hx81 hg82 (Els.append (Els.one (kd := (Kd.int .i64)) (us := [.int .i64 2]) (x := 2) rfl) (Els.one (kd := (Kd.int .i64)) (us := [.int .i64 2]) (x := 2) rfl))
          refine go 1 [] [0, 3, 5, 6, 7, 28] [(0, .slice A0 x0.length c0), (3, .pointer (some ⟨b21, 0, none⟩)), (5, .slice A66 s65.2.2.2.2.2.length c67), (6, .pointer (some ⟨b51, 0, none⟩)), (7, .int .i64 s65.1), (28, .agg #[.slice (some ⟨b77, 0, none⟩) 2 2, .slice none 0 0])] [] hf80 (by kernel_rfl) trivial fun a84 hf85 => ?_
          refine listOf hf85 rfl (by kernel_rfl) (aNew (cs := [.slice none 0 0, .slice none 0 0]) (T := 28) (d := 8) hf85 (by kernel_rfl) (by kernel_rfl) ?_)
          intro b86 w87 a88 hbb86 hx90 hg91 hf89
          have hm92 := hm83.box hbb86 hx90 hg91
          refine listOf hf89 rfl (by kernel_rfl) (aStoreB (b := b86) (j := 0) (T := 28) (cs := [.slice none 0 0, .slice none 0 0]) (us := [.slice (some ⟨b77, 0, none⟩) 2 2, .slice none 0 0]) (cs' := [.slice (some ⟨b77, 0, none⟩) 2 2, .slice none 0 0]) hf89 (by kernel_rfl) (hm92.bxAt 0 rfl) (by kernel_rfl) (by kernel_rfl) (by kernel_rfl) ?_)
          intro w93 hx94 hg95
          have hm96 := hm92.setBox 0 _ rfl rfl hx94 hg95
          refine endL rfl ?_
          refine thenN ?_
          refine wp_seq ?_
          refine wp_seq ?_
          refine reg [] [0, 3, 5, 6, 7, 8, 9] [(0, .slice A0 x0.length c0), (3, .pointer (some ⟨b21, 0, none⟩)), (5, .slice A66 s65.2.2.2.2.2.length c67), (6, .pointer (some ⟨b51, 0, none⟩)), (7, .int .i64 s65.1), (8, .pointer (some ⟨b86, 0, none⟩)), (9, .int .i64 0)] [] hf89 (by kernel_rfl) trivial fun a97 hf98 => ?_
          refine thenN ?_
          have hm100 : Mem [] M w0 [.ow Kd.float 44 none 0 ([] : (List Nat)), .bx b86 [.slice (some ⟨b77, 0, none⟩) 2 2, .slice none 0 0] 28, .sl (Kd.int .i64) (some ⟨b77, 0, none⟩) 2 ([2, 2] : List Int), .ow kTensor 28 A66 c67 s65.2.2.2.2.2, .bx b51 [.int .i64 s65.2.1, .int .i64 s65.2.2.1, .int .i64 s65.2.2.2.1, .int .i64 s65.2.2.2.2.1] 47, .bx b21 [.float .f64 b1_0, .float .f64 b1_1, .float .f64 b1_2, .float .f64 b1_3] 46, .sl (Kd.pair (Kd.int .i16) (Kd.pair (Kd.int .i16) (Kd.pair (Kd.int .i16) (Kd.int .i16)))) A0 c0 x0] w93 := hm96.nilOw Kd.float 44
          obtain ⟨r108, hr108, H1⟩ := obS_split H1
          refine wpBlock (Mid := fun (a : Act) (w : World) => ∃ (A106 : Option Addr) (c107 : Nat), Fr 126 a [(0, .slice A0 x0.length c0), (3, .pointer (some ⟨b21, 0, none⟩)), (5, .slice A66 s65.2.2.2.2.2.length c67), (6, .pointer (some ⟨b51, 0, none⟩)), (7, .int .i64 s65.1), (8, .pointer (some ⟨b86, 0, none⟩)), (9, .int .i64 r108.1)] ∧ Mem [] M w0 [.ow Kd.float 44 A106 c107 r108.2.2.2.2.2, .bx b86 [.slice (some ⟨b77, 0, none⟩) 2 2, .slice A106 r108.2.2.2.2.2.length c107] 28, .sl (Kd.int .i64) (some ⟨b77, 0, none⟩) 2 ([2, 2] : List Int), .ow kTensor 28 A66 c67 s65.2.2.2.2.2, .bx b51 [.int .i64 r108.2.1, .int .i64 r108.2.2.1, .int .i64 r108.2.2.2.1, .int .i64 r108.2.2.2.2.1] 47, .bx b21 [.float .f64 b1_0, .float .f64 b1_1, .float .f64 b1_2, .float .f64 b1_3] 46, .sl (Kd.pair (Kd.int .i16) (Kd.pair (Kd.int .i16) (Kd.pair (Kd.int .i16) (Kd.int .i16)))) A0 c0 x0] w) ?_ ?_
          · refine wpLoop (law8_FoldWhole.l1 s65 x0) r108 (fun (s105 : (Int × Int × Int × Int × Int × (List Nat))) (a : Act) (w : World) => ∃ (A106 : Option Addr) (c107 : Nat), Fr 126 a [(0, .slice A0 x0.length c0), (3, .pointer (some ⟨b21, 0, none⟩)), (5, .slice A66 s65.2.2.2.2.2.length c67), (6, .pointer (some ⟨b51, 0, none⟩)), (7, .int .i64 s65.1), (8, .pointer (some ⟨b86, 0, none⟩)), (9, .int .i64 s105.1)] ∧ Mem [] M w0 [.ow Kd.float 44 A106 c107 s105.2.2.2.2.2, .bx b86 [.slice (some ⟨b77, 0, none⟩) 2 2, .slice A106 s105.2.2.2.2.2.length c107] 28, .sl (Kd.int .i64) (some ⟨b77, 0, none⟩) 2 ([2, 2] : List Int), .ow kTensor 28 A66 c67 s65.2.2.2.2.2, .bx b51 [.int .i64 s105.2.1, .int .i64 s105.2.2.1, .int .i64 s105.2.2.2.1, .int .i64 s105.2.2.2.2.1] 47, .bx b21 [.float .f64 b1_0, .float .f64 b1_1, .float .f64 b1_2, .float .f64 b1_3] 46, .sl (Kd.pair (Kd.int .i16) (Kd.pair (Kd.int .i16) (Kd.pair (Kd.int .i16) (Kd.int .i16)))) A0 c0 x0] w) (0, s65.2.1, s65.2.2.1, s65.2.2.2.1, s65.2.2.2.2.1, ([] : (List Nat))) hr108 ⟨none, 0, hf98.sel (l := [0, 3, 5, 6, 7, 8, 9]) (by kernel_rfl), hm100.sel [0, 1, 2, 3, 4, 5, 6] _ rfl (by kernel_rfl)⟩ ?_
            rintro g109 s105 a110 w111 H2 ⟨A106, c107, hf112, hm113⟩
            unfold law8_FoldWhole.l1 at H2
            refine wp_seq ?_
            refine wp_seq ?_
            rcases ifS_split H2 with ⟨c114, H2⟩ | ⟨c114, H2⟩
            · refine reg [.bool true] [0, 3, 5, 6, 7, 8, 9, 30] [(0, .slice A0 x0.length c0), (3, .pointer (some ⟨b21, 0, none⟩)), (5, .slice A66 s65.2.2.2.2.2.length c67), (6, .pointer (some ⟨b51, 0, none⟩)), (7, .int .i64 s65.1), (8, .pointer (some ⟨b86, 0, none⟩)), (9, .int .i64 s105.1), (30, .bool true)] [.is (decide (s105.1 < 4) = true)] hf112 (by kernel_rfl) ⟨(decide_eq_true c114), trivial⟩ fun a115 hf116 => ?_
              refine thenN ?_
              refine condT hf116 (by kernel_rfl) ?_
              refine wp_skip ?_
              refine thenN ?_
              refine wp_seq ?_
              refine wp_block ?_
              refine wp_seq ?_
              obtain ⟨g117, H2⟩ := ifS_guard H2
              rcases ifS_split H2 with ⟨c118, H2⟩ | ⟨c118, H2⟩
              · have hf119 : Fr 126 a115 [(0, .slice A0 x0.length c0), (3, .pointer (some ⟨b21, 0, none⟩)), (5, .slice A66 s65.2.2.2.2.2.length c67), (6, .pointer (some ⟨b51, 0, none⟩)), (7, .int .i64 s65.1), (8, .pointer (some ⟨b86, 0, none⟩)), (9, .int .i64 0), (30, .bool true)] := by have h := hf116.sel (l := [0, 3, 5, 6, 7, 8, 9, 30]) (e' := [(0, .slice A0 x0.length c0), (3, .pointer (some ⟨b21, 0, none⟩)), (5, .slice A66 s65.2.2.2.2.2.length c67), (6, .pointer (some ⟨b51, 0, none⟩)), (7, .int .i64 s65.1), (8, .pointer (some ⟨b86, 0, none⟩)), (9, .int .i64 s105.1), (30, .bool true)]) (by kernel_rfl); rw [c118] at h; first | exact h | (rw [c118]; exact h)
                obtain ⟨g120, H2⟩ := ifS_guard H2
                refine midReg (fun (a : Act) (w : World) => ∃ (A138 : Option Addr) (c139 : Nat), Fr 126 a [(0, .slice A0 x0.length c0), (3, .pointer (some ⟨b21, 0, none⟩)), (5, .slice A66 s65.2.2.2.2.2.length c67), (6, .pointer (some ⟨b51, 0, none⟩)), (7, .int .i64 s65.1), (8, .pointer (some ⟨b86, 0, none⟩)), (9, .int .i64 0)] ∧ Mem [] M w0 [.ow Kd.float 44 A138 c139 (s105.2.2.2.2.2 ++ ([(ofInt ((rd x0 s65.1).1))] : List Nat)), .bx b86 [.slice (some ⟨b77, 0, none⟩) 2 2, .slice A138 ((s105.2.2.2.2.2 ++ ([(ofInt ((rd x0 s65.1).1))] : List Nat)).length) c139] 28, .sl (Kd.int .i64) (some ⟨b77, 0, none⟩) 2 ([2, 2] : List Int), .ow kTensor 28 A66 c67 s65.2.2.2.2.2, .bx b51 [.int .i64 s105.2.1, .int .i64 s105.2.2.1, .int .i64 s105.2.2.2.1, .int .i64 s105.2.2.2.2.1] 47, .bx b21 [.float .f64 b1_0, .float .f64 b1_1, .float .f64 b1_2, .float .f64 b1_3] 46, .sl (Kd.pair (Kd.int .i16) (Kd.pair (Kd.int .i16) (Kd.pair (Kd.int .i16) (Kd.int .i16)))) A0 c0 x0] w) ?_ ?_
                · refine anyG [10, 12] (by kernel_rfl) fun w154 hg155 => ?_
                  have hm156 := hm113.still hg155
                  have q193 := (hm156.slAt 6 rfl).get s65.1 g117.1 g117.2
                  obtain ⟨us194, hr195, hc196⟩ := q193.2
                  obtain ⟨_, _, rfl, h197, h198⟩ := hr195
                  obtain rfl := h197
                  obtain ⟨_, _, rfl, h199, h200⟩ := h198
                  obtain rfl := h199
                  obtain ⟨_, _, rfl, h201, h202⟩ := h200
                  obtain rfl := h201
                  obtain rfl := h202
                  refine quiet0 [0, 1, 2, 3, 4, 5, 6, 7, 8] [.slice A106 s105.2.2.2.2.2.length c107, .int .i16 ((rd x0 s65.1).1)] [0, 3, 5, 6, 7, 8, 9, 34, 41] #[true, true, true, true, true, true, true, true, true, false, false, false, false] [(0, .slice A0 x0.length c0), (3, .pointer (some ⟨b21, 0, none⟩)), (5, .slice A66 s65.2.2.2.2.2.length c67), (6, .pointer (some ⟨b51, 0, none⟩)), (7, .int .i64 s65.1), (8, .pointer (some ⟨b86, 0, none⟩)), (9, .int .i64 0), (34, .slice A106 s105.2.2.2.2.2.length c107), (41, .float .f64 (FloatKind.f64.nearest ((rd x0 s65.1).1)))] [.cell ⟨b86, 1, none⟩ (.slice A106 s105.2.2.2.2.2.length c107), .is (Option.isSome A0 = true), .is (0 ≤ s65.1 ∧ s65.1 < (x0.length : Int)), .is ((0 : Int) ≤ 0 ∧ 0 < (4 : Int)), .cell ((ad A0).add ((s65.1).toNat * 4)) (.int .i16 ((rd x0 s65.1).1))] 4 rfl (by kernel_rfl) (fun _ _ _ _ _ h => nomatch h.1) hf119 (by kernel_rfl) ⟨(hm156.cell 1 rfl rfl), q193.1, g117, (okIs (by decide)), (hc196 0 _ rfl), trivial⟩ fun a203 hf204 => ?_
                  refine all1 9 (by kernel_rfl) ?_
                  refine opOf hf204 rfl (by kernel_rfl) (aLit (cs := [.float .f64 (FloatKind.f64.nearest ((rd x0 s65.1).1))]) (E := 44) (len := 1) (d := 42) hf204 (by kernel_rfl) (by kernel_rfl) ?_)
                  intro b205 w206 a207 hbb205 hx209 hg210 hf208
                  refine ⟨.inr (Gr.still hg210), ?_⟩
                  have hm156s := hm156.still hg210
                  have hm211 : Mem [] M w0 [.sl Kd.float (some ⟨b205, 0, none⟩) 1 ([(ofInt ((rd x0 s65.1).1))] : List Nat), .ow Kd.float 44 A106 c107 s105.2.2.2.2.2, .bx b86 [.slice (some ⟨b77, 0, none⟩) 2 2, .slice A106 s105.2.2.2.2.2.length c107] 28, .sl (Kd.int .i64) (some ⟨b77, 0, none⟩) 2 ([2, 2] : List Int), .ow kTensor 28 A66 c67 s65.2.2.2.2.2, .bx b51 [.int .i64 s105.2.1, .int .i64 s105.2.2.1, .int .i64 s105.2.2.2.1, .int .i64 s105.2.2.2.2.1] 47, .bx b21 [.float .f64 b1_0, .float .f64 b1_1, .float .f64 b1_2, .float .f64 b1_3] 46, .sl (Kd.pair (Kd.int .i16) (Kd.pair (Kd.int .i16) (Kd.pair (Kd.int .i16) (Kd.int .i16)))) A0 c0 x0] w206 := Mem.lit (kd := Kd.float) (xs := ([(ofInt ((rd x0 s65.1).1))] : List Nat)) hm156 hbb205 hx209 hg210 (Els.one (kd := Kd.float) (us := [.float .f64 (FloatKind.f64.nearest ((rd x0 s65.1).1))]) (x := (ofInt ((rd x0 s65.1).1))) ⟨_, rfl, (FR.ofInt ((rd x0 s65.1).1))⟩)
                  refine all1 10 (by kernel_rfl) ?_
                  have e220 : s105.2.2.2.2.2.length = s105.2.2.2.2.2.length := rfl
                  have e221 : 1 = ([(ofInt ((rd x0 s65.1).1))] : List Nat).length := rfl
                  refine opOf hf208 rfl (by kernel_rfl) (aApp (kd := Kd.float) (base := 0) (E := 44) (A := A106) (B := (some ⟨b205, 0, none⟩)) (c := c107) (c2 := 1) (xs := s105.2.2.2.2.2) (ys := ([(ofInt ((rd x0 s65.1).1))] : List Nat)) (k := s105.2.2.2.2.2.length) (m := 1) (sz := 1) (d := 43) hf208 (by kernel_rfl) e220 e221 (by kernel_rfl) rfl (by kernel_rfl) (hm211.at 1 rfl) (hm211.at2 1 0 rfl rfl).2 (hm211.cpAt 0 rfl) (Nat.zero_le _) (by have := g120; omega) ?_)
                  intro A212 c213 w214 a215 ho217 hg218 hr219 hf216
                  refine ⟨.inl (by decide), ?_⟩
                  have hm222 : Mem [] M w0 [.sl Kd.float (some ⟨b205, 0, none⟩) 1 ([(ofInt ((rd x0 s65.1).1))] : List Nat), .ow Kd.float 44 A212 c213 (s105.2.2.2.2.2 ++ ([(ofInt ((rd x0 s65.1).1))] : List Nat)), .bx b86 [.slice (some ⟨b77, 0, none⟩) 2 2, .slice A106 s105.2.2.2.2.2.length c107] 28, .sl (Kd.int .i64) (some ⟨b77, 0, none⟩) 2 ([2, 2] : List Int), .ow kTensor 28 A66 c67 s65.2.2.2.2.2, .bx b51 [.int .i64 s105.2.1, .int .i64 s105.2.2.1, .int .i64 s105.2.2.2.1, .int .i64 s105.2.2.2.2.1] 47, .bx b21 [.float .f64 b1_0, .float .f64 b1_1, .float .f64 b1_2, .float .f64 b1_3] 46, .sl (Kd.pair (Kd.int .i16) (Kd.pair (Kd.int .i16) (Kd.pair (Kd.int .i16) (Kd.int .i16)))) A0 c0 x0] w214 := hm211.setOwn 1 _ rfl rfl ho217 hg218 hr219
                  refine quiet0 [11] [] [0, 3, 5, 6, 7, 8, 9, 43, 44] #[true, true, true, true, true, true, true, true, true, true, true, true, false] [(0, .slice A0 x0.length c0), (3, .pointer (some ⟨b21, 0, none⟩)), (5, .slice A66 s65.2.2.2.2.2.length c67), (6, .pointer (some ⟨b51, 0, none⟩)), (7, .int .i64 s65.1), (8, .pointer (some ⟨b86, 0, none⟩)), (9, .int .i64 0), (43, .slice A212 ((s105.2.2.2.2.2 ++ ([(ofInt ((rd x0 s65.1).1))] : List Nat)).length) c213), (44, .pointer (some ⟨b86, 1, none⟩))] [] 1 rfl (by kernel_rfl) (fun _ _ _ _ _ h => nomatch h.1) hf216 (by kernel_rfl) trivial fun a223 hf224 => ?_
                  refine all1 12 (by kernel_rfl) ?_
                  refine opOf hf224 rfl (by kernel_rfl) (aStoreB (b := b86) (j := 1) (T := 28) (cs := [.slice (some ⟨b77, 0, none⟩) 2 2, .slice A106 s105.2.2.2.2.2.length c107]) (us := [.slice A212 ((s105.2.2.2.2.2 ++ ([(ofInt ((rd x0 s65.1).1))] : List Nat)).length) c213]) (cs' := [.slice (some ⟨b77, 0, none⟩) 2 2, .slice A212 ((s105.2.2.2.2.2 ++ ([(ofInt ((rd x0 s65.1).1))] : List Nat)).length) c213]) hf224 (by kernel_rfl) (hm222.bxAt 2 rfl) (by kernel_rfl) (by kernel_rfl) (by kernel_rfl) ?_)
                  intro w225 hx226 hg227
                  refine ⟨.inl (by decide), ?_⟩
                  have hm228 := hm222.setBox 2 _ rfl rfl hx226 hg227
                  refine allDone (by kernel_rfl) ⟨rfl, A212, c213, hf224.sel (l := [0, 3, 5, 6, 7, 8, 9]) (by kernel_rfl), hm228.sel [1, 2, 3, 4, 5, 6, 7] _ rfl (by kernel_rfl)⟩
                rintro a229 w230 ⟨A138, c139, hf231, hm232⟩
                refine thenN ?_
                refine midReg (fun (a : Act) (w : World) => Fr 126 a [(0, .slice A0 x0.length c0), (3, .pointer (some ⟨b21, 0, none⟩)), (5, .slice A66 s65.2.2.2.2.2.length c67), (6, .pointer (some ⟨b51, 0, none⟩)), (7, .int .i64 s65.1), (8, .pointer (some ⟨b86, 0, none⟩)), (9, .int .i64 0)] ∧ Mem [] M w0 [.ow Kd.float 44 A138 c139 (s105.2.2.2.2.2 ++ ([(ofInt ((rd x0 s65.1).1))] : List Nat)), .bx b86 [.slice (some ⟨b77, 0, none⟩) 2 2, .slice A138 ((s105.2.2.2.2.2 ++ ([(ofInt ((rd x0 s65.1).1))] : List Nat)).length) c139] 28, .sl (Kd.int .i64) (some ⟨b77, 0, none⟩) 2 ([2, 2] : List Int), .ow kTensor 28 A66 c67 s65.2.2.2.2.2, .bx b51 [.int .i64 (w64 (s105.2.1 + (w64 ((rd x0 s65.1).1)))), .int .i64 s105.2.2.1, .int .i64 s105.2.2.2.1, .int .i64 s105.2.2.2.2.1] 47, .bx b21 [.float .f64 b1_0, .float .f64 b1_1, .float .f64 b1_2, .float .f64 b1_3] 46, .sl (Kd.pair (Kd.int .i16) (Kd.pair (Kd.int .i16) (Kd.pair (Kd.int .i16) (Kd.int .i16)))) A0 c0 x0] w) ?_ ?_
                · refine anyG [13] (by kernel_rfl) fun w247 hg248 => ?_
                  have hm249 := hm232.still hg248
                  have q266 := (hm249.slAt 6 rfl).get s65.1 g117.1 g117.2
                  obtain ⟨us267, hr268, hc269⟩ := q266.2
                  obtain ⟨_, _, rfl, h270, h271⟩ := hr268
                  obtain rfl := h270
                  obtain ⟨_, _, rfl, h272, h273⟩ := h271
                  obtain rfl := h272
                  obtain ⟨_, _, rfl, h274, h275⟩ := h273
                  obtain rfl := h274
                  obtain rfl := h275
                  refine quiet0 [0, 1, 2, 3, 4, 5, 6, 7, 8, 9, 10, 11, 12] [.int .i64 s105.2.1, .int .i16 ((rd x0 s65.1).1)] [0, 3, 5, 6, 7, 8, 9, 56, 57] #[true, true, true, true, true, true, true, true, true, true, true, true, true, false] [(0, .slice A0 x0.length c0), (3, .pointer (some ⟨b21, 0, none⟩)), (5, .slice A66 s65.2.2.2.2.2.length c67), (6, .pointer (some ⟨b51, 0, none⟩)), (7, .int .i64 s65.1), (8, .pointer (some ⟨b86, 0, none⟩)), (9, .int .i64 0), (56, .int .i64 (w64 (s105.2.1 + (w64 ((rd x0 s65.1).1))))), (57, .pointer (some ⟨b51, 0, none⟩))] [.is ((0 : Int) ≤ 0 ∧ 0 < (4 : Int)), .cell ⟨b51, 0, none⟩ (.int .i64 s105.2.1), .is (Option.isSome A0 = true), .is (0 ≤ s65.1 ∧ s65.1 < (x0.length : Int)), .is ((0 : Int) ≤ 0 ∧ 0 < (4 : Int)), .cell ((ad A0).add ((s65.1).toNat * 4)) (.int .i16 ((rd x0 s65.1).1)), .is ((0 : Int) ≤ 0 ∧ 0 < (4 : Int))] 1 rfl (by kernel_rfl) (fun _ _ _ _ _ h => nomatch h.1) hf231 (by kernel_rfl) ⟨(okIs (by decide)), (hm249.cell 4 rfl rfl), q266.1, g117, (okIs (by decide)), (hc269 0 _ rfl), (okIs (by decide)), trivial⟩ fun a276 hf277 => ?_
                  refine all1 13 (by kernel_rfl) ?_
                  refine opOf hf277 rfl (by kernel_rfl) (aStoreB (b := b51) (j := 0) (T := 47) (cs := [.int .i64 s105.2.1, .int .i64 s105.2.2.1, .int .i64 s105.2.2.2.1, .int .i64 s105.2.2.2.2.1]) (us := [.int .i64 (w64 (s105.2.1 + (w64 ((rd x0 s65.1).1))))]) (cs' := [.int .i64 (w64 (s105.2.1 + (w64 ((rd x0 s65.1).1)))), .int .i64 s105.2.2.1, .int .i64 s105.2.2.2.1, .int .i64 s105.2.2.2.2.1]) hf277 (by kernel_rfl) (hm249.bxAt 4 rfl) (by kernel_rfl) (by kernel_rfl) (by kernel_rfl) ?_)
                  intro w278 hx279 hg280
                  refine ⟨.inl (by decide), ?_⟩
                  have hm281 := hm249.setBox 4 _ rfl rfl hx279 hg280
                  refine allDone (by kernel_rfl) ⟨rfl, hf277.sel (l := [0, 3, 5, 6, 7, 8, 9]) (by kernel_rfl), hm281.sel [0, 1, 2, 3, 4, 5, 6] _ rfl (by kernel_rfl)⟩
                rintro a282 w283 ⟨hf284, hm285⟩
                refine blkN ?_
                refine thenN ?_
                refine reg [] [0, 3, 5, 6, 7, 8, 9] [(0, .slice A0 x0.length c0), (3, .pointer (some ⟨b21, 0, none⟩)), (5, .slice A66 s65.2.2.2.2.2.length c67), (6, .pointer (some ⟨b51, 0, none⟩)), (7, .int .i64 s65.1), (8, .pointer (some ⟨b86, 0, none⟩)), (9, .int .i64 1)] [] hf284 (by kernel_rfl) trivial fun a286 hf287 => ?_
                exact ⟨(1, (w64 (s105.2.1 + (w64 ((rd x0 s65.1).1)))), s105.2.2.1, s105.2.2.2.1, s105.2.2.2.2.1, (s105.2.2.2.2.2 ++ ([(ofInt ((rd x0 s65.1).1))] : List Nat))), H2, A138, c139, hf287.sel (l := [0, 3, 5, 6, 7, 8, 9]) (by kernel_rfl), hm285.sel [0, 1, 2, 3, 4, 5, 6] _ rfl (by kernel_rfl)⟩
              · rcases ifS_split H2 with ⟨c288, H2⟩ | ⟨c288, H2⟩
                · have hf289 : Fr 126 a115 [(0, .slice A0 x0.length c0), (3, .pointer (some ⟨b21, 0, none⟩)), (5, .slice A66 s65.2.2.2.2.2.length c67), (6, .pointer (some ⟨b51, 0, none⟩)), (7, .int .i64 s65.1), (8, .pointer (some ⟨b86, 0, none⟩)), (9, .int .i64 1), (30, .bool true)] := by have h := hf116.sel (l := [0, 3, 5, 6, 7, 8, 9, 30]) (e' := [(0, .slice A0 x0.length c0), (3, .pointer (some ⟨b21, 0, none⟩)), (5, .slice A66 s65.2.2.2.2.2.length c67), (6, .pointer (some ⟨b51, 0, none⟩)), (7, .int .i64 s65.1), (8, .pointer (some ⟨b86, 0, none⟩)), (9, .int .i64 s105.1), (30, .bool true)]) (by kernel_rfl); rw [c288] at h; first | exact h | (rw [c288]; exact h)
                  obtain ⟨g290, H2⟩ := ifS_guard H2
                  refine midReg (fun (a : Act) (w : World) => ∃ (A308 : Option Addr) (c309 : Nat), Fr 126 a [(0, .slice A0 x0.length c0), (3, .pointer (some ⟨b21, 0, none⟩)), (5, .slice A66 s65.2.2.2.2.2.length c67), (6, .pointer (some ⟨b51, 0, none⟩)), (7, .int .i64 s65.1), (8, .pointer (some ⟨b86, 0, none⟩)), (9, .int .i64 1)] ∧ Mem [] M w0 [.ow Kd.float 44 A308 c309 (s105.2.2.2.2.2 ++ ([(ofInt ((rd x0 s65.1).2.1))] : List Nat)), .bx b86 [.slice (some ⟨b77, 0, none⟩) 2 2, .slice A308 ((s105.2.2.2.2.2 ++ ([(ofInt ((rd x0 s65.1).2.1))] : List Nat)).length) c309] 28, .sl (Kd.int .i64) (some ⟨b77, 0, none⟩) 2 ([2, 2] : List Int), .ow kTensor 28 A66 c67 s65.2.2.2.2.2, .bx b51 [.int .i64 s105.2.1, .int .i64 s105.2.2.1, .int .i64 s105.2.2.2.1, .int .i64 s105.2.2.2.2.1] 47, .bx b21 [.float .f64 b1_0, .float .f64 b1_1, .float .f64 b1_2, .float .f64 b1_3] 46, .sl (Kd.pair (Kd.int .i16) (Kd.pair (Kd.int .i16) (Kd.pair (Kd.int .i16) (Kd.int .i16)))) A0 c0 x0] w) ?_ ?_
                  · refine anyG [10, 12] (by kernel_rfl) fun w324 hg325 => ?_
                    have hm326 := hm113.still hg325
                    have q363 := (hm326.slAt 6 rfl).get s65.1 g117.1 g117.2
                    obtain ⟨us364, hr365, hc366⟩ := q363.2
                    obtain ⟨_, _, rfl, h367, h368⟩ := hr365
                    obtain rfl := h367
                    obtain ⟨_, _, rfl, h369, h370⟩ := h368
                    obtain rfl := h369
                    obtain ⟨_, _, rfl, h371, h372⟩ := h370
                    obtain rfl := h371
                    obtain rfl := h372
                    refine quiet0 [0, 1, 2, 3, 4, 5, 6, 7, 8] [.slice A106 s105.2.2.2.2.2.length c107, .int .i16 ((rd x0 s65.1).2.1)] [0, 3, 5, 6, 7, 8, 9, 34, 41] #[true, true, true, true, true, true, true, true, true, false, false, false, false] [(0, .slice A0 x0.length c0), (3, .pointer (some ⟨b21, 0, none⟩)), (5, .slice A66 s65.2.2.2.2.2.length c67), (6, .pointer (some ⟨b51, 0, none⟩)), (7, .int .i64 s65.1), (8, .pointer (some ⟨b86, 0, none⟩)), (9, .int .i64 1), (34, .slice A106 s105.2.2.2.2.2.length c107), (41, .float .f64 (FloatKind.f64.nearest ((rd x0 s65.1).2.1)))] [.cell ⟨b86, 1, none⟩ (.slice A106 s105.2.2.2.2.2.length c107), .is (Option.isSome A0 = true), .is (0 ≤ s65.1 ∧ s65.1 < (x0.length : Int)), .is ((0 : Int) ≤ 1 ∧ 1 < (4 : Int)), .cell (((ad A0).add ((s65.1).toNat * 4)).add 1) (.int .i16 ((rd x0 s65.1).2.1))] 4 rfl (by kernel_rfl) (fun _ _ _ _ _ h => nomatch h.1) hf289 (by kernel_rfl) ⟨(hm326.cell 1 rfl rfl), q363.1, g117, (okIs (by decide)), (hc366 1 _ rfl), trivial⟩ fun a373 hf374 => ?_
                    refine all1 9 (by kernel_rfl) ?_
                    refine opOf hf374 rfl (by kernel_rfl) (aLit (cs := [.float .f64 (FloatKind.f64.nearest ((rd x0 s65.1).2.1))]) (E := 44) (len := 1) (d := 42) hf374 (by kernel_rfl) (by kernel_rfl) ?_)
                    intro b375 w376 a377 hbb375 hx379 hg380 hf378
                    refine ⟨.inr (Gr.still hg380), ?_⟩
                    have hm326s := hm326.still hg380
                    have hm381 : Mem [] M w0 [.sl Kd.float (some ⟨b375, 0, none⟩) 1 ([(ofInt ((rd x0 s65.1).2.1))] : List Nat), .ow Kd.float 44 A106 c107 s105.2.2.2.2.2, .bx b86 [.slice (some ⟨b77, 0, none⟩) 2 2, .slice A106 s105.2.2.2.2.2.length c107] 28, .sl (Kd.int .i64) (some ⟨b77, 0, none⟩) 2 ([2, 2] : List Int), .ow kTensor 28 A66 c67 s65.2.2.2.2.2, .bx b51 [.int .i64 s105.2.1, .int .i64 s105.2.2.1, .int .i64 s105.2.2.2.1, .int .i64 s105.2.2.2.2.1] 47, .bx b21 [.float .f64 b1_0, .float .f64 b1_1, .float .f64 b1_2, .float .f64 b1_3] 46, .sl (Kd.pair (Kd.int .i16) (Kd.pair (Kd.int .i16) (Kd.pair (Kd.int .i16) (Kd.int .i16)))) A0 c0 x0] w376 := Mem.lit (kd := Kd.float) (xs := ([(ofInt ((rd x0 s65.1).2.1))] : List Nat)) hm326 hbb375 hx379 hg380 (Els.one (kd := Kd.float) (us := [.float .f64 (FloatKind.f64.nearest ((rd x0 s65.1).2.1))]) (x := (ofInt ((rd x0 s65.1).2.1))) ⟨_, rfl, (FR.ofInt ((rd x0 s65.1).2.1))⟩)
                    refine all1 10 (by kernel_rfl) ?_
                    have e390 : s105.2.2.2.2.2.length = s105.2.2.2.2.2.length := rfl
                    have e391 : 1 = ([(ofInt ((rd x0 s65.1).2.1))] : List Nat).length := rfl
                    refine opOf hf378 rfl (by kernel_rfl) (aApp (kd := Kd.float) (base := 0) (E := 44) (A := A106) (B := (some ⟨b375, 0, none⟩)) (c := c107) (c2 := 1) (xs := s105.2.2.2.2.2) (ys := ([(ofInt ((rd x0 s65.1).2.1))] : List Nat)) (k := s105.2.2.2.2.2.length) (m := 1) (sz := 1) (d := 43) hf378 (by kernel_rfl) e390 e391 (by kernel_rfl) rfl (by kernel_rfl) (hm381.at 1 rfl) (hm381.at2 1 0 rfl rfl).2 (hm381.cpAt 0 rfl) (Nat.zero_le _) (by have := g290; omega) ?_)
                    intro A382 c383 w384 a385 ho387 hg388 hr389 hf386
                    refine ⟨.inl (by decide), ?_⟩
                    have hm392 : Mem [] M w0 [.sl Kd.float (some ⟨b375, 0, none⟩) 1 ([(ofInt ((rd x0 s65.1).2.1))] : List Nat), .ow Kd.float 44 A382 c383 (s105.2.2.2.2.2 ++ ([(ofInt ((rd x0 s65.1).2.1))] : List Nat)), .bx b86 [.slice (some ⟨b77, 0, none⟩) 2 2, .slice A106 s105.2.2.2.2.2.length c107] 28, .sl (Kd.int .i64) (some ⟨b77, 0, none⟩) 2 ([2, 2] : List Int), .ow kTensor 28 A66 c67 s65.2.2.2.2.2, .bx b51 [.int .i64 s105.2.1, .int .i64 s105.2.2.1, .int .i64 s105.2.2.2.1, .int .i64 s105.2.2.2.2.1] 47, .bx b21 [.float .f64 b1_0, .float .f64 b1_1, .float .f64 b1_2, .float .f64 b1_3] 46, .sl (Kd.pair (Kd.int .i16) (Kd.pair (Kd.int .i16) (Kd.pair (Kd.int .i16) (Kd.int .i16)))) A0 c0 x0] w384 := hm381.setOwn 1 _ rfl rfl ho387 hg388 hr389
                    refine quiet0 [11] [] [0, 3, 5, 6, 7, 8, 9, 43, 44] #[true, true, true, true, true, true, true, true, true, true, true, true, false] [(0, .slice A0 x0.length c0), (3, .pointer (some ⟨b21, 0, none⟩)), (5, .slice A66 s65.2.2.2.2.2.length c67), (6, .pointer (some ⟨b51, 0, none⟩)), (7, .int .i64 s65.1), (8, .pointer (some ⟨b86, 0, none⟩)), (9, .int .i64 1), (43, .slice A382 ((s105.2.2.2.2.2 ++ ([(ofInt ((rd x0 s65.1).2.1))] : List Nat)).length) c383), (44, .pointer (some ⟨b86, 1, none⟩))] [] 1 rfl (by kernel_rfl) (fun _ _ _ _ _ h => nomatch h.1) hf386 (by kernel_rfl) trivial fun a393 hf394 => ?_
                    refine all1 12 (by kernel_rfl) ?_
                    refine opOf hf394 rfl (by kernel_rfl) (aStoreB (b := b86) (j := 1) (T := 28) (cs := [.slice (some ⟨b77, 0, none⟩) 2 2, .slice A106 s105.2.2.2.2.2.length c107]) (us := [.slice A382 ((s105.2.2.2.2.2 ++ ([(ofInt ((rd x0 s65.1).2.1))] : List Nat)).length) c383]) (cs' := [.slice (some ⟨b77, 0, none⟩) 2 2, .slice A382 ((s105.2.2.2.2.2 ++ ([(ofInt ((rd x0 s65.1).2.1))] : List Nat)).length) c383]) hf394 (by kernel_rfl) (hm392.bxAt 2 rfl) (by kernel_rfl) (by kernel_rfl) (by kernel_rfl) ?_)
                    intro w395 hx396 hg397
                    refine ⟨.inl (by decide), ?_⟩
                    have hm398 := hm392.setBox 2 _ rfl rfl hx396 hg397
                    refine allDone (by kernel_rfl) ⟨rfl, A382, c383, hf394.sel (l := [0, 3, 5, 6, 7, 8, 9]) (by kernel_rfl), hm398.sel [1, 2, 3, 4, 5, 6, 7] _ rfl (by kernel_rfl)⟩
                  rintro a399 w400 ⟨A308, c309, hf401, hm402⟩
                  refine thenN ?_
                  refine midReg (fun (a : Act) (w : World) => Fr 126 a [(0, .slice A0 x0.length c0), (3, .pointer (some ⟨b21, 0, none⟩)), (5, .slice A66 s65.2.2.2.2.2.length c67), (6, .pointer (some ⟨b51, 0, none⟩)), (7, .int .i64 s65.1), (8, .pointer (some ⟨b86, 0, none⟩)), (9, .int .i64 1)] ∧ Mem [] M w0 [.ow Kd.float 44 A308 c309 (s105.2.2.2.2.2 ++ ([(ofInt ((rd x0 s65.1).2.1))] : List Nat)), .bx b86 [.slice (some ⟨b77, 0, none⟩) 2 2, .slice A308 ((s105.2.2.2.2.2 ++ ([(ofInt ((rd x0 s65.1).2.1))] : List Nat)).length) c309] 28, .sl (Kd.int .i64) (some ⟨b77, 0, none⟩) 2 ([2, 2] : List Int), .ow kTensor 28 A66 c67 s65.2.2.2.2.2, .bx b51 [.int .i64 s105.2.1, .int .i64 (w64 (s105.2.2.1 + (w64 ((rd x0 s65.1).2.1)))), .int .i64 s105.2.2.2.1, .int .i64 s105.2.2.2.2.1] 47, .bx b21 [.float .f64 b1_0, .float .f64 b1_1, .float .f64 b1_2, .float .f64 b1_3] 46, .sl (Kd.pair (Kd.int .i16) (Kd.pair (Kd.int .i16) (Kd.pair (Kd.int .i16) (Kd.int .i16)))) A0 c0 x0] w) ?_ ?_
                  · refine anyG [13] (by kernel_rfl) fun w417 hg418 => ?_
                    have hm419 := hm402.still hg418
                    have q436 := (hm419.slAt 6 rfl).get s65.1 g117.1 g117.2
                    obtain ⟨us437, hr438, hc439⟩ := q436.2
                    obtain ⟨_, _, rfl, h440, h441⟩ := hr438
                    obtain rfl := h440
                    obtain ⟨_, _, rfl, h442, h443⟩ := h441
                    obtain rfl := h442
                    obtain ⟨_, _, rfl, h444, h445⟩ := h443
                    obtain rfl := h444
                    obtain rfl := h445
                    refine quiet0 [0, 1, 2, 3, 4, 5, 6, 7, 8, 9, 10, 11, 12] [.int .i64 s105.2.2.1, .int .i16 ((rd x0 s65.1).2.1)] [0, 3, 5, 6, 7, 8, 9, 56, 57] #[true, true, true, true, true, true, true, true, true, true, true, true, true, false] [(0, .slice A0 x0.length c0), (3, .pointer (some ⟨b21, 0, none⟩)), (5, .slice A66 s65.2.2.2.2.2.length c67), (6, .pointer (some ⟨b51, 0, none⟩)), (7, .int .i64 s65.1), (8, .pointer (some ⟨b86, 0, none⟩)), (9, .int .i64 1), (56, .int .i64 (w64 (s105.2.2.1 + (w64 ((rd x0 s65.1).2.1))))), (57, .pointer (some ⟨b51, 1, none⟩))] [.is ((0 : Int) ≤ 1 ∧ 1 < (4 : Int)), .cell ⟨b51, 1, none⟩ (.int .i64 s105.2.2.1), .is (Option.isSome A0 = true), .is (0 ≤ s65.1 ∧ s65.1 < (x0.length : Int)), .is ((0 : Int) ≤ 1 ∧ 1 < (4 : Int)), .cell (((ad A0).add ((s65.1).toNat * 4)).add 1) (.int .i16 ((rd x0 s65.1).2.1)), .is ((0 : Int) ≤ 1 ∧ 1 < (4 : Int))] 1 rfl (by kernel_rfl) (fun _ _ _ _ _ h => nomatch h.1) hf401 (by kernel_rfl) ⟨(okIs (by decide)), (hm419.cell 4 rfl rfl), q436.1, g117, (okIs (by decide)), (hc439 1 _ rfl), (okIs (by decide)), trivial⟩ fun a446 hf447 => ?_
                    refine all1 13 (by kernel_rfl) ?_
                    refine opOf hf447 rfl (by kernel_rfl) (aStoreB (b := b51) (j := 1) (T := 47) (cs := [.int .i64 s105.2.1, .int .i64 s105.2.2.1, .int .i64 s105.2.2.2.1, .int .i64 s105.2.2.2.2.1]) (us := [.int .i64 (w64 (s105.2.2.1 + (w64 ((rd x0 s65.1).2.1))))]) (cs' := [.int .i64 s105.2.1, .int .i64 (w64 (s105.2.2.1 + (w64 ((rd x0 s65.1).2.1)))), .int .i64 s105.2.2.2.1, .int .i64 s105.2.2.2.2.1]) hf447 (by kernel_rfl) (hm419.bxAt 4 rfl) (by kernel_rfl) (by kernel_rfl) (by kernel_rfl) ?_)
                    intro w448 hx449 hg450
                    refine ⟨.inl (by decide), ?_⟩
                    have hm451 := hm419.setBox 4 _ rfl rfl hx449 hg450
                    refine allDone (by kernel_rfl) ⟨rfl, hf447.sel (l := [0, 3, 5, 6, 7, 8, 9]) (by kernel_rfl), hm451.sel [0, 1, 2, 3, 4, 5, 6] _ rfl (by kernel_rfl)⟩
                  rintro a452 w453 ⟨hf454, hm455⟩
                  refine blkN ?_
                  refine thenN ?_
                  refine reg [] [0, 3, 5, 6, 7, 8, 9] [(0, .slice A0 x0.length c0), (3, .pointer (some ⟨b21, 0, none⟩)), (5, .slice A66 s65.2.2.2.2.2.length c67), (6, .pointer (some ⟨b51, 0, none⟩)), (7, .int .i64 s65.1), (8, .pointer (some ⟨b86, 0, none⟩)), (9, .int .i64 2)] [] hf454 (by kernel_rfl) trivial fun a456 hf457 => ?_
                  exact ⟨(2, s105.2.1, (w64 (s105.2.2.1 + (w64 ((rd x0 s65.1).2.1)))), s105.2.2.2.1, s105.2.2.2.2.1, (s105.2.2.2.2.2 ++ ([(ofInt ((rd x0 s65.1).2.1))] : List Nat))), H2, A308, c309, hf457.sel (l := [0, 3, 5, 6, 7, 8, 9]) (by kernel_rfl), hm455.sel [0, 1, 2, 3, 4, 5, 6] _ rfl (by kernel_rfl)⟩
                · rcases ifS_split H2 with ⟨c458, H2⟩ | ⟨c458, H2⟩
                  · have hf459 : Fr 126 a115 [(0, .slice A0 x0.length c0), (3, .pointer (some ⟨b21, 0, none⟩)), (5, .slice A66 s65.2.2.2.2.2.length c67), (6, .pointer (some ⟨b51, 0, none⟩)), (7, .int .i64 s65.1), (8, .pointer (some ⟨b86, 0, none⟩)), (9, .int .i64 2), (30, .bool true)] := by have h := hf116.sel (l := [0, 3, 5, 6, 7, 8, 9, 30]) (e' := [(0, .slice A0 x0.length c0), (3, .pointer (some ⟨b21, 0, none⟩)), (5, .slice A66 s65.2.2.2.2.2.length c67), (6, .pointer (some ⟨b51, 0, none⟩)), (7, .int .i64 s65.1), (8, .pointer (some ⟨b86, 0, none⟩)), (9, .int .i64 s105.1), (30, .bool true)]) (by kernel_rfl); rw [c458] at h; first | exact h | (rw [c458]; exact h)
                    obtain ⟨g460, H2⟩ := ifS_guard H2
                    refine midReg (fun (a : Act) (w : World) => ∃ (A478 : Option Addr) (c479 : Nat), Fr 126 a [(0, .slice A0 x0.length c0), (3, .pointer (some ⟨b21, 0, none⟩)), (5, .slice A66 s65.2.2.2.2.2.length c67), (6, .pointer (some ⟨b51, 0, none⟩)), (7, .int .i64 s65.1), (8, .pointer (some ⟨b86, 0, none⟩)), (9, .int .i64 2)] ∧ Mem [] M w0 [.ow Kd.float 44 A478 c479 (s105.2.2.2.2.2 ++ ([(ofInt ((rd x0 s65.1).2.2.1))] : List Nat)), .bx b86 [.slice (some ⟨b77, 0, none⟩) 2 2, .slice A478 ((s105.2.2.2.2.2 ++ ([(ofInt ((rd x0 s65.1).2.2.1))] : List Nat)).length) c479] 28, .sl (Kd.int .i64) (some ⟨b77, 0, none⟩) 2 ([2, 2] : List Int), .ow kTensor 28 A66 c67 s65.2.2.2.2.2, .bx b51 [.int .i64 s105.2.1, .int .i64 s105.2.2.1, .int .i64 s105.2.2.2.1, .int .i64 s105.2.2.2.2.1] 47, .bx b21 [.float .f64 b1_0, .float .f64 b1_1, .float .f64 b1_2, .float .f64 b1_3] 46, .sl (Kd.pair (Kd.int .i16) (Kd.pair (Kd.int .i16) (Kd.pair (Kd.int .i16) (Kd.int .i16)))) A0 c0 x0] w) ?_ ?_
                    · refine anyG [10, 12] (by kernel_rfl) fun w494 hg495 => ?_
                      have hm496 := hm113.still hg495
                      have q533 := (hm496.slAt 6 rfl).get s65.1 g117.1 g117.2
                      obtain ⟨us534, hr535, hc536⟩ := q533.2
                      obtain ⟨_, _, rfl, h537, h538⟩ := hr535
                      obtain rfl := h537
                      obtain ⟨_, _, rfl, h539, h540⟩ := h538
                      obtain rfl := h539
                      obtain ⟨_, _, rfl, h541, h542⟩ := h540
                      obtain rfl := h541
                      obtain rfl := h542
                      refine quiet0 [0, 1, 2, 3, 4, 5, 6, 7, 8] [.slice A106 s105.2.2.2.2.2.length c107, .int .i16 ((rd x0 s65.1).2.2.1)] [0, 3, 5, 6, 7, 8, 9, 34, 41] #[true, true, true, true, true, true, true, true, true, false, false, false, false] [(0, .slice A0 x0.length c0), (3, .pointer (some ⟨b21, 0, none⟩)), (5, .slice A66 s65.2.2.2.2.2.length c67), (6, .pointer (some ⟨b51, 0, none⟩)), (7, .int .i64 s65.1), (8, .pointer (some ⟨b86, 0, none⟩)), (9, .int .i64 2), (34, .slice A106 s105.2.2.2.2.2.length c107), (41, .float .f64 (FloatKind.f64.nearest ((rd x0 s65.1).2.2.1)))] [.cell ⟨b86, 1, none⟩ (.slice A106 s105.2.2.2.2.2.length c107), .is (Option.isSome A0 = true), .is (0 ≤ s65.1 ∧ s65.1 < (x0.length : Int)), .is ((0 : Int) ≤ 2 ∧ 2 < (4 : Int)), .cell (((ad A0).add ((s65.1).toNat * 4)).add 2) (.int .i16 ((rd x0 s65.1).2.2.1))] 4 rfl (by kernel_rfl) (fun _ _ _ _ _ h => nomatch h.1) hf459 (by kernel_rfl) ⟨(hm496.cell 1 rfl rfl), q533.1, g117, (okIs (by decide)), (hc536 2 _ rfl), trivial⟩ fun a543 hf544 => ?_
                      refine all1 9 (by kernel_rfl) ?_
                      refine opOf hf544 rfl (by kernel_rfl) (aLit (cs := [.float .f64 (FloatKind.f64.nearest ((rd x0 s65.1).2.2.1))]) (E := 44) (len := 1) (d := 42) hf544 (by kernel_rfl) (by kernel_rfl) ?_)
                      intro b545 w546 a547 hbb545 hx549 hg550 hf548
                      refine ⟨.inr (Gr.still hg550), ?_⟩
                      have hm496s := hm496.still hg550
                      have hm551 : Mem [] M w0 [.sl Kd.float (some ⟨b545, 0, none⟩) 1 ([(ofInt ((rd x0 s65.1).2.2.1))] : List Nat), .ow Kd.float 44 A106 c107 s105.2.2.2.2.2, .bx b86 [.slice (some ⟨b77, 0, none⟩) 2 2, .slice A106 s105.2.2.2.2.2.length c107] 28, .sl (Kd.int .i64) (some ⟨b77, 0, none⟩) 2 ([2, 2] : List Int), .ow kTensor 28 A66 c67 s65.2.2.2.2.2, .bx b51 [.int .i64 s105.2.1, .int .i64 s105.2.2.1, .int .i64 s105.2.2.2.1, .int .i64 s105.2.2.2.2.1] 47, .bx b21 [.float .f64 b1_0, .float .f64 b1_1, .float .f64 b1_2, .float .f64 b1_3] 46, .sl (Kd.pair (Kd.int .i16) (Kd.pair (Kd.int .i16) (Kd.pair (Kd.int .i16) (Kd.int .i16)))) A0 c0 x0] w546 := Mem.lit (kd := Kd.float) (xs := ([(ofInt ((rd x0 s65.1).2.2.1))] : List Nat)) hm496 hbb545 hx549 hg550 (Els.one (kd := Kd.float) (us := [.float .f64 (FloatKind.f64.nearest ((rd x0 s65.1).2.2.1))]) (x := (ofInt ((rd x0 s65.1).2.2.1))) ⟨_, rfl, (FR.ofInt ((rd x0 s65.1).2.2.1))⟩)
                      refine all1 10 (by kernel_rfl) ?_
                      have e560 : s105.2.2.2.2.2.length = s105.2.2.2.2.2.length := rfl
                      have e561 : 1 = ([(ofInt ((rd x0 s65.1).2.2.1))] : List Nat).length := rfl
                      refine opOf hf548 rfl (by kernel_rfl) (aApp (kd := Kd.float) (base := 0) (E := 44) (A := A106) (B := (some ⟨b545, 0, none⟩)) (c := c107) (c2 := 1) (xs := s105.2.2.2.2.2) (ys := ([(ofInt ((rd x0 s65.1).2.2.1))] : List Nat)) (k := s105.2.2.2.2.2.length) (m := 1) (sz := 1) (d := 43) hf548 (by kernel_rfl) e560 e561 (by kernel_rfl) rfl (by kernel_rfl) (hm551.at 1 rfl) (hm551.at2 1 0 rfl rfl).2 (hm551.cpAt 0 rfl) (Nat.zero_le _) (by have := g460; omega) ?_)
                      intro A552 c553 w554 a555 ho557 hg558 hr559 hf556
                      refine ⟨.inl (by decide), ?_⟩
                      have hm562 : Mem [] M w0 [.sl Kd.float (some ⟨b545, 0, none⟩) 1 ([(ofInt ((rd x0 s65.1).2.2.1))] : List Nat), .ow Kd.float 44 A552 c553 (s105.2.2.2.2.2 ++ ([(ofInt ((rd x0 s65.1).2.2.1))] : List Nat)), .bx b86 [.slice (some ⟨b77, 0, none⟩) 2 2, .slice A106 s105.2.2.2.2.2.length c107] 28, .sl (Kd.int .i64) (some ⟨b77, 0, none⟩) 2 ([2, 2] : List Int), .ow kTensor 28 A66 c67 s65.2.2.2.2.2, .bx b51 [.int .i64 s105.2.1, .int .i64 s105.2.2.1, .int .i64 s105.2.2.2.1, .int .i64 s105.2.2.2.2.1] 47, .bx b21 [.float .f64 b1_0, .float .f64 b1_1, .float .f64 b1_2, .float .f64 b1_3] 46, .sl (Kd.pair (Kd.int .i16) (Kd.pair (Kd.int .i16) (Kd.pair (Kd.int .i16) (Kd.int .i16)))) A0 c0 x0] w554 := hm551.setOwn 1 _ rfl rfl ho557 hg558 hr559
                      refine quiet0 [11] [] [0, 3, 5, 6, 7, 8, 9, 43, 44] #[true, true, true, true, true, true, true, true, true, true, true, true, false] [(0, .slice A0 x0.length c0), (3, .pointer (some ⟨b21, 0, none⟩)), (5, .slice A66 s65.2.2.2.2.2.length c67), (6, .pointer (some ⟨b51, 0, none⟩)), (7, .int .i64 s65.1), (8, .pointer (some ⟨b86, 0, none⟩)), (9, .int .i64 2), (43, .slice A552 ((s105.2.2.2.2.2 ++ ([(ofInt ((rd x0 s65.1).2.2.1))] : List Nat)).length) c553), (44, .pointer (some ⟨b86, 1, none⟩))] [] 1 rfl (by kernel_rfl) (fun _ _ _ _ _ h => nomatch h.1) hf556 (by kernel_rfl) trivial fun a563 hf564 => ?_
                      refine all1 12 (by kernel_rfl) ?_
                      refine opOf hf564 rfl (by kernel_rfl) (aStoreB (b := b86) (j := 1) (T := 28) (cs := [.slice (some ⟨b77, 0, none⟩) 2 2, .slice A106 s105.2.2.2.2.2.length c107]) (us := [.slice A552 ((s105.2.2.2.2.2 ++ ([(ofInt ((rd x0 s65.1).2.2.1))] : List Nat)).length) c553]) (cs' := [.slice (some ⟨b77, 0, none⟩) 2 2, .slice A552 ((s105.2.2.2.2.2 ++ ([(ofInt ((rd x0 s65.1).2.2.1))] : List Nat)).length) c553]) hf564 (by kernel_rfl) (hm562.bxAt 2 rfl) (by kernel_rfl) (by kernel_rfl) (by kernel_rfl) ?_)
                      intro w565 hx566 hg567
                      refine ⟨.inl (by decide), ?_⟩
                      have hm568 := hm562.setBox 2 _ rfl rfl hx566 hg567
                      refine allDone (by kernel_rfl) ⟨rfl, A552, c553, hf564.sel (l := [0, 3, 5, 6, 7, 8, 9]) (by kernel_rfl), hm568.sel [1, 2, 3, 4, 5, 6, 7] _ rfl (by kernel_rfl)⟩
                    rintro a569 w570 ⟨A478, c479, hf571, hm572⟩
                    refine thenN ?_
                    refine midReg (fun (a : Act) (w : World) => Fr 126 a [(0, .slice A0 x0.length c0), (3, .pointer (some ⟨b21, 0, none⟩)), (5, .slice A66 s65.2.2.2.2.2.length c67), (6, .pointer (some ⟨b51, 0, none⟩)), (7, .int .i64 s65.1), (8, .pointer (some ⟨b86, 0, none⟩)), (9, .int .i64 2)] ∧ Mem [] M w0 [.ow Kd.float 44 A478 c479 (s105.2.2.2.2.2 ++ ([(ofInt ((rd x0 s65.1).2.2.1))] : List Nat)), .bx b86 [.slice (some ⟨b77, 0, none⟩) 2 2, .slice A478 ((s105.2.2.2.2.2 ++ ([(ofInt ((rd x0 s65.1).2.2.1))] : List Nat)).length) c479] 28, .sl (Kd.int .i64) (some ⟨b77, 0, none⟩) 2 ([2, 2] : List Int), .ow kTensor 28 A66 c67 s65.2.2.2.2.2, .bx b51 [.int .i64 s105.2.1, .int .i64 s105.2.2.1, .int .i64 (w64 (s105.2.2.2.1 + (w64 ((rd x0 s65.1).2.2.1)))), .int .i64 s105.2.2.2.2.1] 47, .bx b21 [.float .f64 b1_0, .float .f64 b1_1, .float .f64 b1_2, .float .f64 b1_3] 46, .sl (Kd.pair (Kd.int .i16) (Kd.pair (Kd.int .i16) (Kd.pair (Kd.int .i16) (Kd.int .i16)))) A0 c0 x0] w) ?_ ?_
                    · refine anyG [13] (by kernel_rfl) fun w587 hg588 => ?_
                      have hm589 := hm572.still hg588
                      have q606 := (hm589.slAt 6 rfl).get s65.1 g117.1 g117.2
                      obtain ⟨us607, hr608, hc609⟩ := q606.2
                      obtain ⟨_, _, rfl, h610, h611⟩ := hr608
                      obtain rfl := h610
                      obtain ⟨_, _, rfl, h612, h613⟩ := h611
                      obtain rfl := h612
                      obtain ⟨_, _, rfl, h614, h615⟩ := h613
                      obtain rfl := h614
                      obtain rfl := h615
                      refine quiet0 [0, 1, 2, 3, 4, 5, 6, 7, 8, 9, 10, 11, 12] [.int .i64 s105.2.2.2.1, .int .i16 ((rd x0 s65.1).2.2.1)] [0, 3, 5, 6, 7, 8, 9, 56, 57] #[true, true, true, true, true, true, true, true, true, true, true, true, true, false] [(0, .slice A0 x0.length c0), (3, .pointer (some ⟨b21, 0, none⟩)), (5, .slice A66 s65.2.2.2.2.2.length c67), (6, .pointer (some ⟨b51, 0, none⟩)), (7, .int .i64 s65.1), (8, .pointer (some ⟨b86, 0, none⟩)), (9, .int .i64 2), (56, .int .i64 (w64 (s105.2.2.2.1 + (w64 ((rd x0 s65.1).2.2.1))))), (57, .pointer (some ⟨b51, 2, none⟩))] [.is ((0 : Int) ≤ 2 ∧ 2 < (4 : Int)), .cell ⟨b51, 2, none⟩ (.int .i64 s105.2.2.2.1), .is (Option.isSome A0 = true), .is (0 ≤ s65.1 ∧ s65.1 < (x0.length : Int)), .is ((0 : Int) ≤ 2 ∧ 2 < (4 : Int)), .cell (((ad A0).add ((s65.1).toNat * 4)).add 2) (.int .i16 ((rd x0 s65.1).2.2.1)), .is ((0 : Int) ≤ 2 ∧ 2 < (4 : Int))] 1 rfl (by kernel_rfl) (fun _ _ _ _ _ h => nomatch h.1) hf571 (by kernel_rfl) ⟨(okIs (by decide)), (hm589.cell 4 rfl rfl), q606.1, g117, (okIs (by decide)), (hc609 2 _ rfl), (okIs (by decide)), trivial⟩ fun a616 hf617 => ?_
                      refine all1 13 (by kernel_rfl) ?_
                      refine opOf hf617 rfl (by kernel_rfl) (aStoreB (b := b51) (j := 2) (T := 47) (cs := [.int .i64 s105.2.1, .int .i64 s105.2.2.1, .int .i64 s105.2.2.2.1, .int .i64 s105.2.2.2.2.1]) (us := [.int .i64 (w64 (s105.2.2.2.1 + (w64 ((rd x0 s65.1).2.2.1))))]) (cs' := [.int .i64 s105.2.1, .int .i64 s105.2.2.1, .int .i64 (w64 (s105.2.2.2.1 + (w64 ((rd x0 s65.1).2.2.1)))), .int .i64 s105.2.2.2.2.1]) hf617 (by kernel_rfl) (hm589.bxAt 4 rfl) (by kernel_rfl) (by kernel_rfl) (by kernel_rfl) ?_)
                      intro w618 hx619 hg620
                      refine ⟨.inl (by decide), ?_⟩
                      have hm621 := hm589.setBox 4 _ rfl rfl hx619 hg620
                      refine allDone (by kernel_rfl) ⟨rfl, hf617.sel (l := [0, 3, 5, 6, 7, 8, 9]) (by kernel_rfl), hm621.sel [0, 1, 2, 3, 4, 5, 6] _ rfl (by kernel_rfl)⟩
                    rintro a622 w623 ⟨hf624, hm625⟩
                    refine blkN ?_
                    refine thenN ?_
                    refine reg [] [0, 3, 5, 6, 7, 8, 9] [(0, .slice A0 x0.length c0), (3, .pointer (some ⟨b21, 0, none⟩)), (5, .slice A66 s65.2.2.2.2.2.length c67), (6, .pointer (some ⟨b51, 0, none⟩)), (7, .int .i64 s65.1), (8, .pointer (some ⟨b86, 0, none⟩)), (9, .int .i64 3)] [] hf624 (by kernel_rfl) trivial fun a626 hf627 => ?_
                    exact ⟨(3, s105.2.1, s105.2.2.1, (w64 (s105.2.2.2.1 + (w64 ((rd x0 s65.1).2.2.1)))), s105.2.2.2.2.1, (s105.2.2.2.2.2 ++ ([(ofInt ((rd x0 s65.1).2.2.1))] : List Nat))), H2, A478, c479, hf627.sel (l := [0, 3, 5, 6, 7, 8, 9]) (by kernel_rfl), hm625.sel [0, 1, 2, 3, 4, 5, 6] _ rfl (by kernel_rfl)⟩
                  · rcases ifS_split H2 with ⟨c628, H2⟩ | ⟨c628, H2⟩
                    · have hf629 : Fr 126 a115 [(0, .slice A0 x0.length c0), (3, .pointer (some ⟨b21, 0, none⟩)), (5, .slice A66 s65.2.2.2.2.2.length c67), (6, .pointer (some ⟨b51, 0, none⟩)), (7, .int .i64 s65.1), (8, .pointer (some ⟨b86, 0, none⟩)), (9, .int .i64 3), (30, .bool true)] := by have h := hf116.sel (l := [0, 3, 5, 6, 7, 8, 9, 30]) (e' := [(0, .slice A0 x0.length c0), (3, .pointer (some ⟨b21, 0, none⟩)), (5, .slice A66 s65.2.2.2.2.2.length c67), (6, .pointer (some ⟨b51, 0, none⟩)), (7, .int .i64 s65.1), (8, .pointer (some ⟨b86, 0, none⟩)), (9, .int .i64 s105.1), (30, .bool true)]) (by kernel_rfl); rw [c628] at h; first | exact h | (rw [c628]; exact h)
                      obtain ⟨g630, H2⟩ := ifS_guard H2
                      refine midReg (fun (a : Act) (w : World) => ∃ (A648 : Option Addr) (c649 : Nat), Fr 126 a [(0, .slice A0 x0.length c0), (3, .pointer (some ⟨b21, 0, none⟩)), (5, .slice A66 s65.2.2.2.2.2.length c67), (6, .pointer (some ⟨b51, 0, none⟩)), (7, .int .i64 s65.1), (8, .pointer (some ⟨b86, 0, none⟩)), (9, .int .i64 3)] ∧ Mem [] M w0 [.ow Kd.float 44 A648 c649 (s105.2.2.2.2.2 ++ ([(ofInt ((rd x0 s65.1).2.2.2))] : List Nat)), .bx b86 [.slice (some ⟨b77, 0, none⟩) 2 2, .slice A648 ((s105.2.2.2.2.2 ++ ([(ofInt ((rd x0 s65.1).2.2.2))] : List Nat)).length) c649] 28, .sl (Kd.int .i64) (some ⟨b77, 0, none⟩) 2 ([2, 2] : List Int), .ow kTensor 28 A66 c67 s65.2.2.2.2.2, .bx b51 [.int .i64 s105.2.1, .int .i64 s105.2.2.1, .int .i64 s105.2.2.2.1, .int .i64 s105.2.2.2.2.1] 47, .bx b21 [.float .f64 b1_0, .float .f64 b1_1, .float .f64 b1_2, .float .f64 b1_3] 46, .sl (Kd.pair (Kd.int .i16) (Kd.pair (Kd.int .i16) (Kd.pair (Kd.int .i16) (Kd.int .i16)))) A0 c0 x0] w) ?_ ?_
                      · refine anyG [10, 12] (by kernel_rfl) fun w664 hg665 => ?_
                        have hm666 := hm113.still hg665
                        have q703 := (hm666.slAt 6 rfl).get s65.1 g117.1 g117.2
                        obtain ⟨us704, hr705, hc706⟩ := q703.2
                        obtain ⟨_, _, rfl, h707, h708⟩ := hr705
                        obtain rfl := h707
                        obtain ⟨_, _, rfl, h709, h710⟩ := h708
                        obtain rfl := h709
                        obtain ⟨_, _, rfl, h711, h712⟩ := h710
                        obtain rfl := h711
                        obtain rfl := h712
                        refine quiet0 [0, 1, 2, 3, 4, 5, 6, 7, 8] [.slice A106 s105.2.2.2.2.2.length c107, .int .i16 ((rd x0 s65.1).2.2.2)] [0, 3, 5, 6, 7, 8, 9, 34, 41] #[true, true, true, true, true, true, true, true, true, false, false, false, false] [(0, .slice A0 x0.length c0), (3, .pointer (some ⟨b21, 0, none⟩)), (5, .slice A66 s65.2.2.2.2.2.length c67), (6, .pointer (some ⟨b51, 0, none⟩)), (7, .int .i64 s65.1), (8, .pointer (some ⟨b86, 0, none⟩)), (9, .int .i64 3), (34, .slice A106 s105.2.2.2.2.2.length c107), (41, .float .f64 (FloatKind.f64.nearest ((rd x0 s65.1).2.2.2)))] [.cell ⟨b86, 1, none⟩ (.slice A106 s105.2.2.2.2.2.length c107), .is (Option.isSome A0 = true), .is (0 ≤ s65.1 ∧ s65.1 < (x0.length : Int)), .is ((0 : Int) ≤ 3 ∧ 3 < (4 : Int)), .cell (((ad A0).add ((s65.1).toNat * 4)).add 3) (.int .i16 ((rd x0 s65.1).2.2.2))] 4 rfl (by kernel_rfl) (fun _ _ _ _ _ h => nomatch h.1) hf629 (by kernel_rfl) ⟨(hm666.cell 1 rfl rfl), q703.1, g117, (okIs (by decide)), (hc706 3 _ rfl), trivial⟩ fun a713 hf714 => ?_
                        refine all1 9 (by kernel_rfl) ?_
                        refine opOf hf714 rfl (by kernel_rfl) (aLit (cs := [.float .f64 (FloatKind.f64.nearest ((rd x0 s65.1).2.2.2))]) (E := 44) (len := 1) (d := 42) hf714 (by kernel_rfl) (by kernel_rfl) ?_)
                        intro b715 w716 a717 hbb715 hx719 hg720 hf718
                        refine ⟨.inr (Gr.still hg720), ?_⟩
                        have hm666s := hm666.still hg720
                        have hm721 : Mem [] M w0 [.sl Kd.float (some ⟨b715, 0, none⟩) 1 ([(ofInt ((rd x0 s65.1).2.2.2))] : List Nat), .ow Kd.float 44 A106 c107 s105.2.2.2.2.2, .bx b86 [.slice (some ⟨b77, 0, none⟩) 2 2, .slice A106 s105.2.2.2.2.2.length c107] 28, .sl (Kd.int .i64) (some ⟨b77, 0, none⟩) 2 ([2, 2] : List Int), .ow kTensor 28 A66 c67 s65.2.2.2.2.2, .bx b51 [.int .i64 s105.2.1, .int .i64 s105.2.2.1, .int .i64 s105.2.2.2.1, .int .i64 s105.2.2.2.2.1] 47, .bx b21 [.float .f64 b1_0, .float .f64 b1_1, .float .f64 b1_2, .float .f64 b1_3] 46, .sl (Kd.pair (Kd.int .i16) (Kd.pair (Kd.int .i16) (Kd.pair (Kd.int .i16) (Kd.int .i16)))) A0 c0 x0] w716 := Mem.lit (kd := Kd.float) (xs := ([(ofInt ((rd x0 s65.1).2.2.2))] : List Nat)) hm666 hbb715 hx719 hg720 (Els.one (kd := Kd.float) (us := [.float .f64 (FloatKind.f64.nearest ((rd x0 s65.1).2.2.2))]) (x := (ofInt ((rd x0 s65.1).2.2.2))) ⟨_, rfl, (FR.ofInt ((rd x0 s65.1).2.2.2))⟩)
                        refine all1 10 (by kernel_rfl) ?_
                        have e730 : s105.2.2.2.2.2.length = s105.2.2.2.2.2.length := rfl
                        have e731 : 1 = ([(ofInt ((rd x0 s65.1).2.2.2))] : List Nat).length := rfl
                        refine opOf hf718 rfl (by kernel_rfl) (aApp (kd := Kd.float) (base := 0) (E := 44) (A := A106) (B := (some ⟨b715, 0, none⟩)) (c := c107) (c2 := 1) (xs := s105.2.2.2.2.2) (ys := ([(ofInt ((rd x0 s65.1).2.2.2))] : List Nat)) (k := s105.2.2.2.2.2.length) (m := 1) (sz := 1) (d := 43) hf718 (by kernel_rfl) e730 e731 (by kernel_rfl) rfl (by kernel_rfl) (hm721.at 1 rfl) (hm721.at2 1 0 rfl rfl).2 (hm721.cpAt 0 rfl) (Nat.zero_le _) (by have := g630; omega) ?_)
                        intro A722 c723 w724 a725 ho727 hg728 hr729 hf726
                        refine ⟨.inl (by decide), ?_⟩
                        have hm732 : Mem [] M w0 [.sl Kd.float (some ⟨b715, 0, none⟩) 1 ([(ofInt ((rd x0 s65.1).2.2.2))] : List Nat), .ow Kd.float 44 A722 c723 (s105.2.2.2.2.2 ++ ([(ofInt ((rd x0 s65.1).2.2.2))] : List Nat)), .bx b86 [.slice (some ⟨b77, 0, none⟩) 2 2, .slice A106 s105.2.2.2.2.2.length c107] 28, .sl (Kd.int .i64) (some ⟨b77, 0, none⟩) 2 ([2, 2] : List Int), .ow kTensor 28 A66 c67 s65.2.2.2.2.2, .bx b51 [.int .i64 s105.2.1, .int .i64 s105.2.2.1, .int .i64 s105.2.2.2.1, .int .i64 s105.2.2.2.2.1] 47, .bx b21 [.float .f64 b1_0, .float .f64 b1_1, .float .f64 b1_2, .float .f64 b1_3] 46, .sl (Kd.pair (Kd.int .i16) (Kd.pair (Kd.int .i16) (Kd.pair (Kd.int .i16) (Kd.int .i16)))) A0 c0 x0] w724 := hm721.setOwn 1 _ rfl rfl ho727 hg728 hr729
                        refine quiet0 [11] [] [0, 3, 5, 6, 7, 8, 9, 43, 44] #[true, true, true, true, true, true, true, true, true, true, true, true, false] [(0, .slice A0 x0.length c0), (3, .pointer (some ⟨b21, 0, none⟩)), (5, .slice A66 s65.2.2.2.2.2.length c67), (6, .pointer (some ⟨b51, 0, none⟩)), (7, .int .i64 s65.1), (8, .pointer (some ⟨b86, 0, none⟩)), (9, .int .i64 3), (43, .slice A722 ((s105.2.2.2.2.2 ++ ([(ofInt ((rd x0 s65.1).2.2.2))] : List Nat)).length) c723), (44, .pointer (some ⟨b86, 1, none⟩))] [] 1 rfl (by kernel_rfl) (fun _ _ _ _ _ h => nomatch h.1) hf726 (by kernel_rfl) trivial fun a733 hf734 => ?_
                        refine all1 12 (by kernel_rfl) ?_
                        refine opOf hf734 rfl (by kernel_rfl) (aStoreB (b := b86) (j := 1) (T := 28) (cs := [.slice (some ⟨b77, 0, none⟩) 2 2, .slice A106 s105.2.2.2.2.2.length c107]) (us := [.slice A722 ((s105.2.2.2.2.2 ++ ([(ofInt ((rd x0 s65.1).2.2.2))] : List Nat)).length) c723]) (cs' := [.slice (some ⟨b77, 0, none⟩) 2 2, .slice A722 ((s105.2.2.2.2.2 ++ ([(ofInt ((rd x0 s65.1).2.2.2))] : List Nat)).length) c723]) hf734 (by kernel_rfl) (hm732.bxAt 2 rfl) (by kernel_rfl) (by kernel_rfl) (by kernel_rfl) ?_)
                        intro w735 hx736 hg737
                        refine ⟨.inl (by decide), ?_⟩
                        have hm738 := hm732.setBox 2 _ rfl rfl hx736 hg737
                        refine allDone (by kernel_rfl) ⟨rfl, A722, c723, hf734.sel (l := [0, 3, 5, 6, 7, 8, 9]) (by kernel_rfl), hm738.sel [1, 2, 3, 4, 5, 6, 7] _ rfl (by kernel_rfl)⟩
                      rintro a739 w740 ⟨A648, c649, hf741, hm742⟩
                      refine thenN ?_
                      refine midReg (fun (a : Act) (w : World) => Fr 126 a [(0, .slice A0 x0.length c0), (3, .pointer (some ⟨b21, 0, none⟩)), (5, .slice A66 s65.2.2.2.2.2.length c67), (6, .pointer (some ⟨b51, 0, none⟩)), (7, .int .i64 s65.1), (8, .pointer (some ⟨b86, 0, none⟩)), (9, .int .i64 3)] ∧ Mem [] M w0 [.ow Kd.float 44 A648 c649 (s105.2.2.2.2.2 ++ ([(ofInt ((rd x0 s65.1).2.2.2))] : List Nat)), .bx b86 [.slice (some ⟨b77, 0, none⟩) 2 2, .slice A648 ((s105.2.2.2.2.2 ++ ([(ofInt ((rd x0 s65.1).2.2.2))] : List Nat)).length) c649] 28, .sl (Kd.int .i64) (some ⟨b77, 0, none⟩) 2 ([2, 2] : List Int), .ow kTensor 28 A66 c67 s65.2.2.2.2.2, .bx b51 [.int .i64 s105.2.1, .int .i64 s105.2.2.1, .int .i64 s105.2.2.2.1, .int .i64 (w64 (s105.2.2.2.2.1 + (w64 ((rd x0 s65.1).2.2.2))))] 47, .bx b21 [.float .f64 b1_0, .float .f64 b1_1, .float .f64 b1_2, .float .f64 b1_3] 46, .sl (Kd.pair (Kd.int .i16) (Kd.pair (Kd.int .i16) (Kd.pair (Kd.int .i16) (Kd.int .i16)))) A0 c0 x0] w) ?_ ?_
                      · refine anyG [13] (by kernel_rfl) fun w757 hg758 => ?_
                        have hm759 := hm742.still hg758
                        have q776 := (hm759.slAt 6 rfl).get s65.1 g117.1 g117.2
                        obtain ⟨us777, hr778, hc779⟩ := q776.2
                        obtain ⟨_, _, rfl, h780, h781⟩ := hr778
                        obtain rfl := h780
                        obtain ⟨_, _, rfl, h782, h783⟩ := h781
                        obtain rfl := h782
                        obtain ⟨_, _, rfl, h784, h785⟩ := h783
                        obtain rfl := h784
                        obtain rfl := h785
                        refine quiet0 [0, 1, 2, 3, 4, 5, 6, 7, 8, 9, 10, 11, 12] [.int .i64 s105.2.2.2.2.1, .int .i16 ((rd x0 s65.1).2.2.2)] [0, 3, 5, 6, 7, 8, 9, 56, 57] #[true, true, true, true, true, true, true, true, true, true, true, true, true, false] [(0, .slice A0 x0.length c0), (3, .pointer (some ⟨b21, 0, none⟩)), (5, .slice A66 s65.2.2.2.2.2.length c67), (6, .pointer (some ⟨b51, 0, none⟩)), (7, .int .i64 s65.1), (8, .pointer (some ⟨b86, 0, none⟩)), (9, .int .i64 3), (56, .int .i64 (w64 (s105.2.2.2.2.1 + (w64 ((rd x0 s65.1).2.2.2))))), (57, .pointer (some ⟨b51, 3, none⟩))] [.is ((0 : Int) ≤ 3 ∧ 3 < (4 : Int)), .cell ⟨b51, 3, none⟩ (.int .i64 s105.2.2.2.2.1), .is (Option.isSome A0 = true), .is (0 ≤ s65.1 ∧ s65.1 < (x0.length : Int)), .is ((0 : Int) ≤ 3 ∧ 3 < (4 : Int)), .cell (((ad A0).add ((s65.1).toNat * 4)).add 3) (.int .i16 ((rd x0 s65.1).2.2.2)), .is ((0 : Int) ≤ 3 ∧ 3 < (4 : Int))] 1 rfl (by kernel_rfl) (fun _ _ _ _ _ h => nomatch h.1) hf741 (by kernel_rfl) ⟨(okIs (by decide)), (hm759.cell 4 rfl rfl), q776.1, g117, (okIs (by decide)), (hc779 3 _ rfl), (okIs (by decide)), trivial⟩ fun a786 hf787 => ?_
                        refine all1 13 (by kernel_rfl) ?_
                        refine opOf hf787 rfl (by kernel_rfl) (aStoreB (b := b51) (j := 3) (T := 47) (cs := [.int .i64 s105.2.1, .int .i64 s105.2.2.1, .int .i64 s105.2.2.2.1, .int .i64 s105.2.2.2.2.1]) (us := [.int .i64 (w64 (s105.2.2.2.2.1 + (w64 ((rd x0 s65.1).2.2.2))))]) (cs' := [.int .i64 s105.2.1, .int .i64 s105.2.2.1, .int .i64 s105.2.2.2.1, .int .i64 (w64 (s105.2.2.2.2.1 + (w64 ((rd x0 s65.1).2.2.2))))]) hf787 (by kernel_rfl) (hm759.bxAt 4 rfl) (by kernel_rfl) (by kernel_rfl) (by kernel_rfl) ?_)
                        intro w788 hx789 hg790
                        refine ⟨.inl (by decide), ?_⟩
                        have hm791 := hm759.setBox 4 _ rfl rfl hx789 hg790
                        refine allDone (by kernel_rfl) ⟨rfl, hf787.sel (l := [0, 3, 5, 6, 7, 8, 9]) (by kernel_rfl), hm791.sel [0, 1, 2, 3, 4, 5, 6] _ rfl (by kernel_rfl)⟩
                      rintro a792 w793 ⟨hf794, hm795⟩
                      refine blkN ?_
                      refine thenN ?_
                      refine reg [] [0, 3, 5, 6, 7, 8, 9] [(0, .slice A0 x0.length c0), (3, .pointer (some ⟨b21, 0, none⟩)), (5, .slice A66 s65.2.2.2.2.2.length c67), (6, .pointer (some ⟨b51, 0, none⟩)), (7, .int .i64 s65.1), (8, .pointer (some ⟨b86, 0, none⟩)), (9, .int .i64 4)] [] hf794 (by kernel_rfl) trivial fun a796 hf797 => ?_
                      exact ⟨(4, s105.2.1, s105.2.2.1, s105.2.2.2.1, (w64 (s105.2.2.2.2.1 + (w64 ((rd x0 s65.1).2.2.2)))), (s105.2.2.2.2.2 ++ ([(ofInt ((rd x0 s65.1).2.2.2))] : List Nat))), H2, A648, c649, hf797.sel (l := [0, 3, 5, 6, 7, 8, 9]) (by kernel_rfl), hm795.sel [0, 1, 2, 3, 4, 5, 6] _ rfl (by kernel_rfl)⟩
                    · exact absurd H2 (by simp [Step.go])
            · refine reg [.bool false] [0, 3, 5, 6, 7, 8, 9, 30] [(0, .slice A0 x0.length c0), (3, .pointer (some ⟨b21, 0, none⟩)), (5, .slice A66 s65.2.2.2.2.2.length c67), (6, .pointer (some ⟨b51, 0, none⟩)), (7, .int .i64 s65.1), (8, .pointer (some ⟨b86, 0, none⟩)), (9, .int .i64 s105.1), (30, .bool false)] [.is (decide (s105.1 < 4) = false)] hf112 (by kernel_rfl) ⟨(decide_eq_false c114), trivial⟩ fun a798 hf799 => ?_
              refine thenN ?_
              refine condF hf799 (by kernel_rfl) ?_
              refine wp_exit ?_
              refine thenE ?_
              refine thenE ?_
              obtain rfl := Option.some.inj H2
              exact .inl ⟨rfl, A106, c107, hf799.sel (l := [0, 3, 5, 6, 7, 8, 9]) (by kernel_rfl), hm113.sel [0, 1, 2, 3, 4, 5, 6] _ rfl (by kernel_rfl)⟩
          rintro a800 w801 ⟨A106, c107, hf802, hm803⟩
          refine thenN ?_
          obtain ⟨g804, H1⟩ := ifS_guard H1
          refine inReg ?_
          refine go 2 [.agg #[.slice (some ⟨b77, 0, none⟩) 2 2, .slice A106 r108.2.2.2.2.2.length c107]] [0, 3, 5, 6, 7, 58, 59] [(0, .slice A0 x0.length c0), (3, .pointer (some ⟨b21, 0, none⟩)), (5, .slice A66 s65.2.2.2.2.2.length c67), (6, .pointer (some ⟨b51, 0, none⟩)), (7, .int .i64 s65.1), (58, .slice A66 s65.2.2.2.2.2.length c67), (59, .agg #[.slice (some ⟨b77, 0, none⟩) 2 2, .slice A106 r108.2.2.2.2.2.length c107])] [.cell ⟨b86, 0, none⟩ (.slice (some ⟨b77, 0, none⟩) 2 2), .cell ⟨b86, 1, none⟩ (.slice A106 r108.2.2.2.2.2.length c107)] hf802 (by kernel_rfl) ⟨(hm803.cell 1 rfl rfl), (hm803.cell 1 rfl rfl), trivial⟩ fun a805 hf806 => ?_
          have hm813 := hm803.seal 0 _ rfl rfl
          refine listOf hf806 rfl (by kernel_rfl) (aLit (cs := [.slice (some ⟨b77, 0, none⟩) 2 2, .slice A106 r108.2.2.2.2.2.length c107]) (E := 28) (len := 1) (d := 60) hf806 (by kernel_rfl) (by kernel_rfl) ?_)
          intro b807 w808 a809 hbb807 hx811 hg812 hf810
          have hm813s := hm813.still hg812
          have hm814 : Mem [] M w0 [.sl kTensor (some ⟨b807, 0, none⟩) 1 ([(⟨([2, 2] : List Int), r108.2.2.2.2.2⟩ : Tensor)] : List Tensor), .sl Kd.float A106 c107 r108.2.2.2.2.2, .bx b86 [.slice (some ⟨b77, 0, none⟩) 2 2, .slice A106 r108.2.2.2.2.2.length c107] 28, .sl (Kd.int .i64) (some ⟨b77, 0, none⟩) 2 ([2, 2] : List Int), .ow kTensor 28 A66 c67 s65.2.2.2.2.2, .bx b51 [.int .i64 r108.2.1, .int .i64 r108.2.2.1, .int .i64 r108.2.2.2.1, .int .i64 r108.2.2.2.2.1] 47, .bx b21 [.float .f64 b1_0, .float .f64 b1_1, .float .f64 b1_2, .float .f64 b1_3] 46, .sl (Kd.pair (Kd.int .i16) (Kd.pair (Kd.int .i16) (Kd.pair (Kd.int .i16) (Kd.int .i16)))) A0 c0 x0] w808 := Mem.lit (kd := kTensor) (xs := ([(⟨([2, 2] : List Int), r108.2.2.2.2.2⟩ : Tensor)] : List Tensor)) hm813 hbb807 hx811 hg812 (Els.one (kd := kTensor) (us := [.slice (some ⟨b77, 0, none⟩) 2 2, .slice A106 r108.2.2.2.2.2.length c107]) (x := (⟨([2, 2] : List Int), r108.2.2.2.2.2⟩ : Tensor)) (kTensor.mk (⟨([2, 2] : List Int), r108.2.2.2.2.2⟩ : Tensor) ⟨hm813s.cpAt 2 rfl, (hm813s.slAt 2 rfl)⟩ ⟨hm813s.cpAt 0 rfl, (hm813s.slAt 0 rfl)⟩))
          have e823 : s65.2.2.2.2.2.length = s65.2.2.2.2.2.length := rfl
          have e824 : 1 = ([(⟨([2, 2] : List Int), r108.2.2.2.2.2⟩ : Tensor)] : List Tensor).length := rfl
          refine listOf hf810 rfl (by kernel_rfl) (aApp (kd := kTensor) (base := 0) (E := 28) (A := A66) (B := (some ⟨b807, 0, none⟩)) (c := c67) (c2 := 1) (xs := s65.2.2.2.2.2) (ys := ([(⟨([2, 2] : List Int), r108.2.2.2.2.2⟩ : Tensor)] : List Tensor)) (k := s65.2.2.2.2.2.length) (m := 1) (sz := 2) (d := 61) hf810 (by kernel_rfl) e823 e824 (by kernel_rfl) rfl (by kernel_rfl) (hm814.at 4 rfl) (hm814.at2 4 0 rfl rfl).2 (hm814.cpAt 0 rfl) (Nat.zero_le _) (by have := g804; omega) ?_)
          intro A815 c816 w817 a818 ho820 hg821 hr822 hf819
          have hm825 : Mem [] M w0 [.sl kTensor (some ⟨b807, 0, none⟩) 1 ([(⟨([2, 2] : List Int), r108.2.2.2.2.2⟩ : Tensor)] : List Tensor), .sl Kd.float A106 c107 r108.2.2.2.2.2, .bx b86 [.slice (some ⟨b77, 0, none⟩) 2 2, .slice A106 r108.2.2.2.2.2.length c107] 28, .sl (Kd.int .i64) (some ⟨b77, 0, none⟩) 2 ([2, 2] : List Int), .ow kTensor 28 A815 c816 (s65.2.2.2.2.2 ++ ([(⟨([2, 2] : List Int), r108.2.2.2.2.2⟩ : Tensor)] : List Tensor)), .bx b51 [.int .i64 r108.2.1, .int .i64 r108.2.2.1, .int .i64 r108.2.2.2.1, .int .i64 r108.2.2.2.2.1] 47, .bx b21 [.float .f64 b1_0, .float .f64 b1_1, .float .f64 b1_2, .float .f64 b1_3] 46, .sl (Kd.pair (Kd.int .i16) (Kd.pair (Kd.int .i16) (Kd.pair (Kd.int .i16) (Kd.int .i16)))) A0 c0 x0] w817 := hm814.setOwn 4 _ rfl rfl ho820 hg821 hr822
          refine go 1 [] [0, 3, 5, 6, 7] [(0, .slice A0 x0.length c0), (3, .pointer (some ⟨b21, 0, none⟩)), (5, .slice A815 ((s65.2.2.2.2.2 ++ ([(⟨([2, 2] : List Int), r108.2.2.2.2.2⟩ : Tensor)] : List Tensor)).length) c816), (6, .pointer (some ⟨b51, 0, none⟩)), (7, .int .i64 s65.1)] [] hf819 (by kernel_rfl) trivial fun a826 hf827 => ?_
          refine endL rfl ?_
          have hm828 := hm825.sel [4, 5, 6, 7] _ rfl (by kernel_rfl)
          refine blkN ?_
          refine thenN ?_
          refine reg [] [0, 3, 5, 6, 7] [(0, .slice A0 x0.length c0), (3, .pointer (some ⟨b21, 0, none⟩)), (5, .slice A815 ((s65.2.2.2.2.2 ++ ([(⟨([2, 2] : List Int), r108.2.2.2.2.2⟩ : Tensor)] : List Tensor)).length) c816), (6, .pointer (some ⟨b51, 0, none⟩)), (7, .int .i64 (w64 (s65.1 + 1)))] [] hf827 (by kernel_rfl) trivial fun a829 hf830 => ?_
          exact ⟨((w64 (s65.1 + 1)), r108.2.1, r108.2.2.1, r108.2.2.2.1, r108.2.2.2.2.1, (s65.2.2.2.2.2 ++ ([(⟨([2, 2] : List Int), r108.2.2.2.2.2⟩ : Tensor)] : List Tensor))), H1, A815, c816, hf830.sel (l := [0, 3, 5, 6, 7]) (by kernel_rfl), hm828.sel [0, 1, 2, 3] _ rfl (by kernel_rfl)⟩
        · refine reg [.bool false] [0, 3, 5, 6, 7, 24] [(0, .slice A0 x0.length c0), (3, .pointer (some ⟨b21, 0, none⟩)), (5, .slice A66 s65.2.2.2.2.2.length c67), (6, .pointer (some ⟨b51, 0, none⟩)), (7, .int .i64 s65.1), (24, .bool false)] [.is (decide (s65.1 < (x0.length : Int)) = false)] hf72 (by kernel_rfl) ⟨(decide_eq_false c74), trivial⟩ fun a831 hf832 => ?_
          refine thenN ?_
          refine condF hf832 (by kernel_rfl) ?_
          refine wp_exit ?_
          refine thenE ?_
          refine thenE ?_
          obtain rfl := Option.some.inj H1
          exact .inl ⟨rfl, A66, c67, hf832.sel (l := [0, 3, 5, 6, 7]) (by kernel_rfl), hm73.sel [0, 1, 2, 3] _ rfl (by kernel_rfl)⟩
      rintro a833 w834 ⟨A66, c67, hf835, hm836⟩
      refine thenN ?_
      refine wp_seq ?_
      refine inReg ?_
      refine listOf hf835 rfl (by kernel_rfl) (aLit (cs := [.int .i64 4]) (E := 3) (len := 1) (d := 62) hf835 (by kernel_rfl) (by kernel_rfl) ?_)
      intro b837 w838 a839 hbb837 hx841 hg842 hf840
      have hm836s := hm836.still hg842
      have hm843 : Mem [] M w0 [.sl (Kd.int .i64) (some ⟨b837, 0, none⟩) 1 ([4] : List Int), .ow kTensor 28 A66 c67 r68.2.2.2.2.2, .bx b51 [.int .i64 r68.2.1, .int .i64 r68.2.2.1, .int .i64 r68.2.2.2.1, .int .i64 r68.2.2.2.2.1] 47, .bx b21 [.float .f64 b1_0, .float .f64 b1_1, .float .f64 b1_2, .float .f64 b1_3] 46, .sl (Kd.pair (Kd.int .i16) (Kd.pair (Kd.int .i16) (Kd.pair (Kd.int .i16) (Kd.int .i16)))) A0 c0 x0] w838 := Mem.lit (kd := (Kd.int .i64)) (xs := ([4] : List Int)) hm836 hbb837 hx841 hg842 (Els.one (kd := (Kd.int .i64)) (us := [.int .i64 4]) (x := 4) rfl)
      refine go 8 [.float .f64 b1_0, .float .f64 b1_1, .float .f64 b1_2, .float .f64 b1_3] [0, 5, 6, 62, 64, 66, 68, 70] [(0, .slice A0 x0.length c0), (5, .slice A66 r68.2.2.2.2.2.length c67), (6, .pointer (some ⟨b51, 0, none⟩)), (62, .slice (some ⟨b837, 0, none⟩) 1 1), (64, .float .f64 b1_0), (66, .float .f64 b1_1), (68, .float .f64 b1_2), (70, .float .f64 b1_3)] [.is ((0 : Int) ≤ 0 ∧ 0 < (4 : Int)), .cell ⟨b21, 0, none⟩ (.float .f64 b1_0), .is ((0 : Int) ≤ 1 ∧ 1 < (4 : Int)), .cell ⟨b21, 1, none⟩ (.float .f64 b1_1), .is ((0 : Int) ≤ 2 ∧ 2 < (4 : Int)), .cell ⟨b21, 2, none⟩ (.float .f64 b1_2), .is ((0 : Int) ≤ 3 ∧ 3 < (4 : Int)), .cell ⟨b21, 3, none⟩ (.float .f64 b1_3)] hf840 (by kernel_rfl) ⟨(okIs (by decide)), (hm843.cell 3 rfl rfl), (okIs (by decide)), (hm843.cell 3 rfl rfl), (okIs (by decide)), (hm843.cell 3 rfl rfl), (okIs (by decide)), (hm843.cell 3 rfl rfl), trivial⟩ fun a844 hf845 => ?_
      refine listOf hf845 rfl (by kernel_rfl) (aLit (cs := [.float .f64 b1_0, .float .f64 b1_1, .float .f64 b1_2, .float .f64 b1_3]) (E := 44) (len := 4) (d := 71) hf845 (by kernel_rfl) (by kernel_rfl) ?_)
      intro b846 w847 a848 hbb846 hx850 hg851 hf849
      have hm843s := hm843.still hg851
      have hm852 : Mem [] M w0 [.sl Kd.float (some ⟨b846, 0, none⟩) 4 ([x1.1, x1.2.1, x1.2.2.1, x1.2.2.2] : List Nat), .sl (Kd.int .i64) (some ⟨b837, 0, none⟩) 1 ([4] : List Int), .ow kTensor 28 A66 c67 r68.2.2.2.2.2, .bx b51 [.int .i64 r68.2.1, .int .i64 r68.2.2.1, .int .i64 r68.2.2.2.1, .int .i64 r68.2.2.2.2.1] 47, .bx b21 [.float .f64 b1_0, .float .f64 b1_1, .float .f64 b1_2, .float .f64 b1_3] 46, .sl (Kd.pair (Kd.int .i16) (Kd.pair (Kd.int .i16) (Kd.pair (Kd.int .i16) (Kd.int .i16)))) A0 c0 x0] w847 := Mem.lit (kd := Kd.float) (xs := ([x1.1, x1.2.1, x1.2.2.1, x1.2.2.2] : List Nat)) hm843 hbb846 hx850 hg851 (Els.append (Els.one (kd := Kd.float) (us := [.float .f64 b1_0]) (x := x1.1) ⟨_, rfl, h1_0⟩) (Els.append (Els.one (kd := Kd.float) (us := [.float .f64 b1_1]) (x := x1.2.1) ⟨_, rfl, h1_1⟩) (Els.append (Els.one (kd := Kd.float) (us := [.float .f64 b1_2]) (x := x1.2.2.1) ⟨_, rfl, h1_2⟩) (Els.one (kd := Kd.float) (us := [.float .f64 b1_3]) (x := x1.2.2.2) ⟨_, rfl, h1_3⟩))))
      refine go 1 [] [0, 5, 6, 72] [(0, .slice A0 x0.length c0), (5, .slice A66 r68.2.2.2.2.2.length c67), (6, .pointer (some ⟨b51, 0, none⟩)), (72, .agg #[.slice (some ⟨b837, 0, none⟩) 1 1, .slice (some ⟨b846, 0, none⟩) 4 4])] [] hf849 (by kernel_rfl) trivial fun a853 hf854 => ?_
      refine listOf hf854 rfl (by kernel_rfl) (aNew (cs := [.slice none 0 0, .slice none 0 0]) (T := 28) (d := 10) hf854 (by kernel_rfl) (by kernel_rfl) ?_)
      intro b855 w856 a857 hbb855 hx859 hg860 hf858
      have hm861 := hm852.box hbb855 hx859 hg860
      refine listOf hf858 rfl (by kernel_rfl) (aStoreB (b := b855) (j := 0) (T := 28) (cs := [.slice none 0 0, .slice none 0 0]) (us := [.slice (some ⟨b837, 0, none⟩) 1 1, .slice (some ⟨b846, 0, none⟩) 4 4]) (cs' := [.slice (some ⟨b837, 0, none⟩) 1 1, .slice (some ⟨b846, 0, none⟩) 4 4]) hf858 (by kernel_rfl) (hm861.bxAt 0 rfl) (by kernel_rfl) (by kernel_rfl) (by kernel_rfl) ?_)
      intro w862 hx863 hg864
      have hm865 := hm861.setBox 0 _ rfl rfl hx863 hg864
      refine endL rfl ?_
      have hm866 := hm865.sel [0, 1, 2, 3, 4, 6] _ rfl (by kernel_rfl)
      refine thenN ?_
      refine wp_seq ?_
      obtain ⟨r867, hr867, H0⟩ := ob_split H0
      refine inReg ?_
      refine go 1 [.agg #[.slice (some ⟨b837, 0, none⟩) 1 1, .slice (some ⟨b846, 0, none⟩) 4 4]] [0, 5, 6, 10, 74] [(0, .slice A0 x0.length c0), (5, .slice A66 r68.2.2.2.2.2.length c67), (6, .pointer (some ⟨b51, 0, none⟩)), (10, .pointer (some ⟨b855, 0, none⟩)), (74, .agg #[.slice (some ⟨b837, 0, none⟩) 1 1, .slice (some ⟨b846, 0, none⟩) 4 4])] [.cell ⟨b855, 0, none⟩ (.slice (some ⟨b837, 0, none⟩) 1 1), .cell ⟨b855, 1, none⟩ (.slice (some ⟨b846, 0, none⟩) 4 4)] hf858 (by kernel_rfl) ⟨(hm866.cell 0 rfl rfl), (hm866.cell 0 rfl rfl), trivial⟩ fun a868 hf869 => ?_
      refine listOf hf869 rfl (by kernel_rfl) (aLit (cs := [.slice (some ⟨b837, 0, none⟩) 1 1, .slice (some ⟨b846, 0, none⟩) 4 4]) (E := 28) (len := 1) (d := 75) hf869 (by kernel_rfl) (by kernel_rfl) ?_)
      intro b870 w871 a872 hbb870 hx874 hg875 hf873
      have hm866s := hm866.still hg875
      have hm876 : Mem [] M w0 [.sl kTensor (some ⟨b870, 0, none⟩) 1 ([(⟨([4] : List Int), ([x1.1, x1.2.1, x1.2.2.1, x1.2.2.2] : List Nat)⟩ : Tensor)] : List Tensor), .bx b855 [.slice (some ⟨b837, 0, none⟩) 1 1, .slice (some ⟨b846, 0, none⟩) 4 4] 28, .sl Kd.float (some ⟨b846, 0, none⟩) 4 ([x1.1, x1.2.1, x1.2.2.1, x1.2.2.2] : List Nat), .sl (Kd.int .i64) (some ⟨b837, 0, none⟩) 1 ([4] : List Int), .ow kTensor 28 A66 c67 r68.2.2.2.2.2, .bx b51 [.int .i64 r68.2.1, .int .i64 r68.2.2.1, .int .i64 r68.2.2.2.1, .int .i64 r68.2.2.2.2.1] 47, .sl (Kd.pair (Kd.int .i16) (Kd.pair (Kd.int .i16) (Kd.pair (Kd.int .i16) (Kd.int .i16)))) A0 c0 x0] w871 := Mem.lit (kd := kTensor) (xs := ([(⟨([4] : List Int), ([x1.1, x1.2.1, x1.2.2.1, x1.2.2.2] : List Nat)⟩ : Tensor)] : List Tensor)) hm866 hbb870 hx874 hg875 (Els.one (kd := kTensor) (us := [.slice (some ⟨b837, 0, none⟩) 1 1, .slice (some ⟨b846, 0, none⟩) 4 4]) (x := (⟨([4] : List Int), ([x1.1, x1.2.1, x1.2.2.1, x1.2.2.2] : List Nat)⟩ : Tensor)) (kTensor.mk (⟨([4] : List Int), ([x1.1, x1.2.1, x1.2.2.1, x1.2.2.2] : List Nat)⟩ : Tensor) ⟨hm866s.cpAt 2 rfl, (hm866s.slAt 2 rfl)⟩ ⟨hm866s.cpAt 1 rfl, (hm866s.slAt 1 rfl)⟩))
      refine listOf hf873 rfl (by kernel_rfl) (aCall (fid := 17) (args := [.slice (some ⟨b870, 0, none⟩) 1 1]) (d := 76) hf873 (by kernel_rfl) (by kernel_rfl) callable17 (fold_Tree.calls _ _ ([(⟨([4] : List Int), ([x1.1, x1.2.1, x1.2.2.1, x1.2.2.2] : List Nat)⟩ : Tensor)] : List Tensor) (some ⟨b870, 0, none⟩) 1 1 rfl (hm876.give [0] [.sl kTensor (some ⟨b870, 0, none⟩) 1 ([(⟨([4] : List Int), ([x1.1, x1.2.1, x1.2.2.1, x1.2.2.2] : List Nat)⟩ : Tensor)] : List Tensor)] rfl rfl) r867 hr867) ?_)
      rintro _ w881 a882 ⟨A877, c878, A879, c880, rfl, hk884⟩ hf883
      have hm885 := hm876.back hk884
      have hm886 := hm885.seal 0 _ rfl rfl
      have hm887 := hm886.seal 1 _ rfl rfl
      refine go 3 [] [0, 5, 6, 10, 77, 78] [(0, .slice A0 x0.length c0), (5, .slice A66 r68.2.2.2.2.2.length c67), (6, .pointer (some ⟨b51, 0, none⟩)), (10, .pointer (some ⟨b855, 0, none⟩)), (77, .agg #[.slice A877 r867.1.Shape.length c878, .slice A879 r867.1.Data.length c880]), (78, .int .i64 r867.2)] [] hf883 (by kernel_rfl) trivial fun a888 hf889 => ?_
      refine listOf hf889 rfl (by kernel_rfl) (aNew (cs := [.slice none 0 0, .slice none 0 0]) (T := 28) (d := 11) hf889 (by kernel_rfl) (by kernel_rfl) ?_)
      intro b890 w891 a892 hbb890 hx894 hg895 hf893
      have hm896 := hm887.box hbb890 hx894 hg895
      refine listOf hf893 rfl (by kernel_rfl) (aStoreB (b := b890) (j := 0) (T := 28) (cs := [.slice none 0 0, .slice none 0 0]) (us := [.slice A877 r867.1.Shape.length c878, .slice A879 r867.1.Data.length c880]) (cs' := [.slice A877 r867.1.Shape.length c878, .slice A879 r867.1.Data.length c880]) hf893 (by kernel_rfl) (hm896.bxAt 0 rfl) (by kernel_rfl) (by kernel_rfl) (by kernel_rfl) ?_)
      intro w897 hx898 hg899
      have hm900 := hm896.setBox 0 _ rfl rfl hx898 hg899
      refine go 1 [] [0, 5, 6, 10, 11, 12] [(0, .slice A0 x0.length c0), (5, .slice A66 r68.2.2.2.2.2.length c67), (6, .pointer (some ⟨b51, 0, none⟩)), (10, .pointer (some ⟨b855, 0, none⟩)), (11, .pointer (some ⟨b890, 0, none⟩)), (12, .int .i64 r867.2)] [] hf893 (by kernel_rfl) trivial fun a901 hf902 => ?_
      refine endL rfl ?_
      have hm903 := hm900.sel [0, 1, 2, 4, 5, 6, 7, 8, 9] _ rfl (by kernel_rfl)
      refine thenN ?_
      refine wp_seq ?_
      refine wp_seq ?_
      rcases if_split H0 with ⟨c904, H0⟩ | ⟨c904, H0⟩
      · obtain ⟨r905, hr905, H0⟩ := ob_split H0
        rcases ifb_split H0 with ⟨c906, H0⟩ | ⟨c906, H0⟩
        · rcases if_split H0 with ⟨c907, H0⟩ | ⟨c907, H0⟩
          · refine inReg ?_
            refine go 5 [.bool false, .agg #[.slice A877 r867.1.Shape.length c878, .slice A879 r867.1.Data.length c880], .agg #[.slice (some ⟨b837, 0, none⟩) 1 1, .slice (some ⟨b846, 0, none⟩) 4 4]] [0, 5, 6, 12, 81, 82, 83] [(0, .slice A0 x0.length c0), (5, .slice A66 r68.2.2.2.2.2.length c67), (6, .pointer (some ⟨b51, 0, none⟩)), (12, .int .i64 r867.2), (81, .bool false), (82, .agg #[.slice A877 r867.1.Shape.length c878, .slice A879 r867.1.Data.length c880]), (83, .agg #[.slice (some ⟨b837, 0, none⟩) 1 1, .slice (some ⟨b846, 0, none⟩) 4 4])] [.is (((r867.2 : Int) != 0) = false), .cell ⟨b890, 0, none⟩ (.slice A877 r867.1.Shape.length c878), .cell ⟨b890, 1, none⟩ (.slice A879 r867.1.Data.length c880), .cell ⟨b855, 0, none⟩ (.slice (some ⟨b837, 0, none⟩) 1 1), .cell ⟨b855, 1, none⟩ (.slice (some ⟨b846, 0, none⟩) 4 4)] hf902 (by kernel_rfl) ⟨(neF c904), (hm903.cell 0 rfl rfl), (hm903.cell 0 rfl rfl), (hm903.cell 3 rfl rfl), (hm903.cell 3 rfl rfl), trivial⟩ fun a908 hf909 => ?_
            refine listOf hf909 rfl (by kernel_rfl) (aCall (fid := 19) (args := [.agg #[.slice A877 r867.1.Shape.length c878, .slice A879 r867.1.Data.length c880], .agg #[.slice (some ⟨b837, 0, none⟩) 1 1, .slice (some ⟨b846, 0, none⟩) 4 4]]) (d := 84) hf909 (by kernel_rfl) (by kernel_rfl) callable19 (ref1_SameTensor.calls _ _ r867.1 A877 r867.1.Shape.length c878 rfl A879 r867.1.Data.length c880 rfl (⟨([4] : List Int), ([x1.1, x1.2.1, x1.2.2.1, x1.2.2.2] : List Nat)⟩ : Tensor) (some ⟨b837, 0, none⟩) 1 1 rfl (some ⟨b846, 0, none⟩) 4 4 rfl (hm903.give [1, 2, 5, 4] [.sl (Kd.int .i64) A877 c878 r867.1.Shape, .sl Kd.float A879 c880 r867.1.Data, .sl (Kd.int .i64) (some ⟨b837, 0, none⟩) 1 ([4] : List Int), .sl Kd.float (some ⟨b846, 0, none⟩) 4 ([x1.1, x1.2.1, x1.2.2.1, x1.2.2.2] : List Nat)] rfl rfl) r905 hr905) ?_)
            rintro _ w910 a911 ⟨rfl, hk913⟩ hf912
            have hm914 := hm903.still hk913.cum.none
            rw [c906] at hf912
            refine go 7 [.bool true] [0, 5, 6, 12, 91] [(0, .slice A0 x0.length c0), (5, .slice A66 r68.2.2.2.2.2.length c67), (6, .pointer (some ⟨b51, 0, none⟩)), (12, .int .i64 r867.2), (91, .bool true)] [.is ((((x0.length : Int) : Int) == 0) = true)] hf912 (by kernel_rfl) ⟨(eqT c907), trivial⟩ fun a915 hf916 => ?_
            refine endL rfl ?_
            have hm917 := hm914.sel [6, 7, 8] _ rfl (by kernel_rfl)
            refine thenN ?_
            refine condT hf916 (by kernel_rfl) ?_
            refine wp_seq ?_
            refine reg [.bool true, .bool true] [4] [(4, .bool true)] [.is (((r867.2 : Int) == 0) = true), .is ((((x0.length : Int) : Int) == 0) = true)] hf916 (by kernel_rfl) ⟨(eqT c904), (eqT c907), trivial⟩ fun a918 hf919 => ?_
            have hm920 := hm917.sel [] _ rfl (by kernel_rfl)
            refine thenN ?_
            refine wp_ret ?_
            refine thenR ?_
            have hm921 : Mem [] M w0 [] w910 := hm920.sel [] _ rfl (by kernel_rfl)
            obtain rfl := Option.some.inj H0
            refine ret [] [.bool true] [] hf919 (by kernel_rfl) trivial ?_
            exact ⟨_, rfl, rfl, hm921⟩
          · refine inReg ?_
            refine go 5 [.bool false, .agg #[.slice A877 r867.1.Shape.length c878, .slice A879 r867.1.Data.length c880], .agg #[.slice (some ⟨b837, 0, none⟩) 1 1, .slice (some ⟨b846, 0, none⟩) 4 4]] [0, 5, 6, 12, 81, 82, 83] [(0, .slice A0 x0.length c0), (5, .slice A66 r68.2.2.2.2.2.length c67), (6, .pointer (some ⟨b51, 0, none⟩)), (12, .int .i64 r867.2), (81, .bool false), (82, .agg #[.slice A877 r867.1.Shape.length c878, .slice A879 r867.1.Data.length c880]), (83, .agg #[.slice (some ⟨b837, 0, none⟩) 1 1, .slice (some ⟨b846, 0, none⟩) 4 4])] [.is (((r867.2 : Int) != 0) = false), .cell ⟨b890, 0, none⟩ (.slice A877 r867.1.Shape.length c878), .cell ⟨b890, 1, none⟩ (.slice A879 r867.1.Data.length c880), .cell ⟨b855, 0, none⟩ (.slice (some ⟨b837, 0, none⟩) 1 1), .cell ⟨b855, 1, none⟩ (.slice (some ⟨b846, 0, none⟩) 4 4)] hf902 (by kernel_rfl) ⟨(neF c904), (hm903.cell 0 rfl rfl), (hm903.cell 0 rfl rfl), (hm903.cell 3 rfl rfl), (hm903.cell 3 rfl rfl), trivial⟩ fun a923 hf924 => ?_
            refine listOf hf924 rfl (by kernel_rfl) (aCall (fid := 19) (args := [.agg #[.slice A877 r867.1.Shape.length c878, .slice A879 r867.1.Data.length c880], .agg #[.slice (some ⟨b837, 0, none⟩) 1 1, .slice (some ⟨b846, 0, none⟩) 4 4]]) (d := 84) hf924 (by kernel_rfl) (by kernel_rfl) callable19 (ref1_SameTensor.calls _ _ r867.1 A877 r867.1.Shape.length c878 rfl A879 r867.1.Data.length c880 rfl (⟨([4] : List Int), ([x1.1, x1.2.1, x1.2.2.1, x1.2.2.2] : List Nat)⟩ : Tensor) (some ⟨b837, 0, none⟩) 1 1 rfl (some ⟨b846, 0, none⟩) 4 4 rfl (hm903.give [1, 2, 5, 4] [.sl (Kd.int .i64) A877 c878 r867.1.Shape, .sl Kd.float A879 c880 r867.1.Data, .sl (Kd.int .i64) (some ⟨b837, 0, none⟩) 1 ([4] : List Int), .sl Kd.float (some ⟨b846, 0, none⟩) 4 ([x1.1, x1.2.1, x1.2.2.1, x1.2.2.2] : List Nat)] rfl rfl) r905 hr905) ?_)
            rintro _ w925 a926 ⟨rfl, hk928⟩ hf927
            have hm929 := hm903.still hk928.cum.none
            rw [c906] at hf927
            refine go 7 [.bool false] [0, 5, 6, 12, 91] [(0, .slice A0 x0.length c0), (5, .slice A66 r68.2.2.2.2.2.length c67), (6, .pointer (some ⟨b51, 0, none⟩)), (12, .int .i64 r867.2), (91, .bool false)] [.is ((((x0.length : Int) : Int) == 0) = false)] hf927 (by kernel_rfl) ⟨(eqF c907), trivial⟩ fun a930 hf931 => ?_
            refine endL rfl ?_
            have hm932 := hm929.sel [6, 7, 8] _ rfl (by kernel_rfl)
            refine thenN ?_
            refine condF hf931 (by kernel_rfl) ?_
            refine wp_skip ?_
            refine thenN ?_
            refine wp_seq ?_
            obtain ⟨r933, hr933, H0⟩ := ob_split H0
            refine inReg ?_
            refine go 1 [] [6, 100] [(6, .pointer (some ⟨b51, 0, none⟩)), (100, .slice A66 r68.2.2.2.2.2.length c67)] [] hf931 (by kernel_rfl) trivial fun a934 hf935 => ?_
            have hm936 : Mem [] M w0 [.sl kTensor A66 c67 r68.2.2.2.2.2, .bx b51 [.int .i64 r68.2.1, .int .i64 r68.2.2.1, .int .i64 r68.2.2.2.1, .int .i64 r68.2.2.2.2.1] 47, .sl (Kd.pair (Kd.int .i16) (Kd.pair (Kd.int .i16) (Kd.pair (Kd.int .i16) (Kd.int .i16)))) A0 c0 x0] w925 := hm932.seal 0 _ rfl rfl
            refine listOf hf935 rfl (by kernel_rfl) (aCall (fid := 17) (args := [.slice A66 r68.2.2.2.2.2.length c67]) (d := 101) hf935 (by kernel_rfl) (by kernel_rfl) callable17 (fold_Tree.calls _ _ r68.2.2.2.2.2 A66 r68.2.2.2.2.2.length c67 rfl (hm936.give [0] [.sl kTensor A66 c67 r68.2.2.2.2.2] rfl rfl) r933 hr933) ?_)
            rintro _ w941 a942 ⟨A937, c938, A939, c940, rfl, hk944⟩ hf943
            have hm945 := hm932.backF hk944 ⟨Kd.flat_int _, Kd.flat_float, trivial⟩
            have hm946 := hm945.seal 0 _ rfl rfl
            have hm947 := hm946.seal 1 _ rfl rfl
            refine go 3 [] [6, 102, 103] [(6, .pointer (some ⟨b51, 0, none⟩)), (102, .agg #[.slice A937 r933.1.Shape.length c938, .slice A939 r933.1.Data.length c940]), (103, .int .i64 r933.2)] [] hf943 (by kernel_rfl) trivial fun a948 hf949 => ?_
            refine listOf hf949 rfl (by kernel_rfl) (aNew (cs := [.slice none 0 0, .slice none 0 0]) (T := 28) (d := 13) hf949 (by kernel_rfl) (by kernel_rfl) ?_)
            intro b950 w951 a952 hbb950 hx954 hg955 hf953
            have hm956 := hm947.box hbb950 hx954 hg955
            refine listOf hf953 rfl (by kernel_rfl) (aStoreB (b := b950) (j := 0) (T := 28) (cs := [.slice none 0 0, .slice none 0 0]) (us := [.slice A937 r933.1.Shape.length c938, .slice A939 r933.1.Data.length c940]) (cs' := [.slice A937 r933.1.Shape.length c938, .slice A939 r933.1.Data.length c940]) hf953 (by kernel_rfl) (hm956.bxAt 0 rfl) (by kernel_rfl) (by kernel_rfl) (by kernel_rfl) ?_)
            intro w957 hx958 hg959
            have hm960 := hm956.setBox 0 _ rfl rfl hx958 hg959
            refine go 1 [] [6, 13, 14] [(6, .pointer (some ⟨b51, 0, none⟩)), (13, .pointer (some ⟨b950, 0, none⟩)), (14, .int .i64 r933.2)] [] hf953 (by kernel_rfl) trivial fun a961 hf962 => ?_
            refine endL rfl ?_
            have hm963 := hm960.sel [0, 1, 2, 4] _ rfl (by kernel_rfl)
            refine thenN ?_
            refine wp_seq ?_
            refine wp_seq ?_
            rcases if_split H0 with ⟨c964, H0⟩ | ⟨c964, H0⟩
            · rcases if_split H0 with ⟨c965, H0⟩ | ⟨c965, H0⟩
              · refine reg [.bool false, .slice A939 r933.1.Data.length c940, .bool false] [6, 13, 111] [(6, .pointer (some ⟨b51, 0, none⟩)), (13, .pointer (some ⟨b950, 0, none⟩)), (111, .bool false)] [.is (((r933.2 : Int) != 0) = false), .cell ⟨b950, 1, none⟩ (.slice A939 r933.1.Data.length c940), .is ((((r933.1.Data.length : Int) : Int) != 4) = false)] hf962 (by kernel_rfl) ⟨(neF c964), (hm963.cell 0 rfl rfl), (neF c965), trivial⟩ fun a966 hf967 => ?_
                refine thenN ?_
                refine condF hf967 (by kernel_rfl) ?_
                refine wp_skip ?_
                refine thenN ?_
                refine wp_seq ?_
                refine wp_seq ?_
                refine reg [] [6, 13, 15] [(6, .pointer (some ⟨b51, 0, none⟩)), (13, .pointer (some ⟨b950, 0, none⟩)), (15, .int .i64 0)] [] hf967 (by kernel_rfl) trivial fun a968 hf969 => ?_
                refine thenN ?_
                obtain ⟨r971, hr971, H0⟩ := ob_split H0
                refine wpBlock (Mid := fun (a : Act) (w : World) => ∃ yr971 : Int, r971 = .go yr971 ∧ Fr 126 a [(6, .pointer (some ⟨b51, 0, none⟩)), (13, .pointer (some ⟨b950, 0, none⟩)), (15, .int .i64 yr971)] ∧ Mem [] M w0 [.bx b950 [.slice A937 r933.1.Shape.length c938, .slice A939 r933.1.Data.length c940] 28, .sl (Kd.int .i64) A937 c938 r933.1.Shape, .sl Kd.float A939 c940 r933.1.Data, .bx b51 [.int .i64 r68.2.1, .int .i64 r68.2.2.1, .int .i64 r68.2.2.2.1, .int .i64 r68.2.2.2.2.1] 47] w) ?_ ?_
                · refine wpLoop (law8_FoldWhole.l2 r933 r68) r971 (fun (s970 : Int) (a : Act) (w : World) => Fr 126 a [(6, .pointer (some ⟨b51, 0, none⟩)), (13, .pointer (some ⟨b950, 0, none⟩)), (15, .int .i64 s970)] ∧ Mem [] M w0 [.bx b950 [.slice A937 r933.1.Shape.length c938, .slice A939 r933.1.Data.length c940] 28, .sl (Kd.int .i64) A937 c938 r933.1.Shape, .sl Kd.float A939 c940 r933.1.Data, .bx b51 [.int .i64 r68.2.1, .int .i64 r68.2.2.1, .int .i64 r68.2.2.2.1, .int .i64 r68.2.2.2.2.1] 47] w) 0 hr971 ⟨hf969.sel (l := [6, 13, 15]) (by kernel_rfl), hm963.sel [0, 1, 2, 3] _ rfl (by kernel_rfl)⟩ ?_
                  rintro g972 s970 a973 w974 H1 ⟨hf975, hm976⟩
                  unfold law8_FoldWhole.l2 at H1
                  refine wp_seq ?_
                  refine wp_seq ?_
                  rcases ifS_split H1 with ⟨c977, H1⟩ | ⟨c977, H1⟩
                  · refine reg [.bool true] [6, 13, 15, 113] [(6, .pointer (some ⟨b51, 0, none⟩)), (13, .pointer (some ⟨b950, 0, none⟩)), (15, .int .i64 s970), (113, .bool true)] [.is (decide (s970 < 4) = true)] hf975 (by kernel_rfl) ⟨(decide_eq_true c977), trivial⟩ fun a978 hf979 => ?_
                    refine thenN ?_
                    refine condT hf979 (by kernel_rfl) ?_
                    refine wp_skip ?_
                    refine thenN ?_
                    refine wp_seq ?_
                    refine wp_block ?_
                    refine wp_seq ?_
                    obtain ⟨g980, H1⟩ := ifS_guard H1
                    rcases ifS_split H1 with ⟨c981, H1⟩ | ⟨c981, H1⟩
                    · have hf982 : Fr 126 a978 [(6, .pointer (some ⟨b51, 0, none⟩)), (13, .pointer (some ⟨b950, 0, none⟩)), (15, .int .i64 0), (113, .bool true)] := by have h := hf979.sel (l := [6, 13, 15, 113]) (e' := [(6, .pointer (some ⟨b51, 0, none⟩)), (13, .pointer (some ⟨b950, 0, none⟩)), (15, .int .i64 s970), (113, .bool true)]) (by kernel_rfl); rw [c981] at h; first | exact h | (rw [c981]; exact h)
                      obtain ⟨g983, H1⟩ := ifS_guard H1
                      rcases ifbS_split H1 with ⟨c984, H1⟩ | ⟨c984, H1⟩
                      · have q985 := (hm976.slAt 2 rfl).float 0 g983.1 g983.2
                        obtain ⟨b986, hb986, kb986⟩ := q985.2
                        refine regQ [.slice A939 r933.1.Data.length c940, .float .f64 b986, .int .i64 r68.2.1, .bool true] [6, 13, 15, 125] [(6, .pointer (some ⟨b51, 0, none⟩)), (13, .pointer (some ⟨b950, 0, none⟩)), (15, .int .i64 0), (125, .bool true)] [.cell ⟨b950, 1, none⟩ (.slice A939 r933.1.Data.length c940), .is (Option.isSome A939 = true), .is ((0 : Int) ≤ 0 ∧ 0 < (r933.1.Data.length : Int)), .cell ((ad A939).add ((0 : Int).toNat * 1)) (.float .f64 b986), .is ((0 : Int) ≤ 0 ∧ 0 < (4 : Int)), .cell ⟨b51, 0, none⟩ (.int .i64 r68.2.1), .is ((FloatKind.f64.format.order b986 (FloatKind.f64.nearest r68.2.1) != some .eq) = true)] (by kernel_rfl) (by kernel_rfl) hf982 (by kernel_rfl) ⟨(hm976.cell 0 rfl rfl), q985.1, g983, kb986, (okIs (by decide)), (hm976.cell 3 rfl rfl), (ftNe hb986 (FR.ofInt r68.2.1) c984), trivial⟩ fun a987 w989 hf988 hg990 => ?_
                        have hm991 := hm976.still hg990
                        refine thenN ?_
                        refine condT hf988 (by kernel_rfl) ?_
                        refine wp_seq ?_
                        refine reg [] [4] [(4, .bool false)] [] hf988 (by kernel_rfl) trivial fun a992 hf993 => ?_
                        have hm994 := hm991.sel [] _ rfl (by kernel_rfl)
                        refine thenN ?_
                        refine wp_ret ?_
                        refine blkR ?_
                        refine thenR ?_
                        refine thenR ?_
                        refine .inr ⟨rfl, ?_⟩
                        refine thenR ?_
                        have hm995 : Mem [] M w0 [] w989 := hm994.sel [] _ rfl (by kernel_rfl)
                        obtain rfl := Option.some.inj H1
                        obtain rfl := Option.some.inj H0
                        refine ret [] [.bool false] [] hf993 (by kernel_rfl) trivial ?_
                        exact ⟨_, rfl, rfl, hm995⟩
                      · have q997 := (hm976.slAt 2 rfl).float 0 g983.1 g983.2
                        obtain ⟨b998, hb998, kb998⟩ := q997.2
                        refine regQ [.slice A939 r933.1.Data.length c940, .float .f64 b998, .int .i64 r68.2.1, .bool false] [6, 13, 15, 125] [(6, .pointer (some ⟨b51, 0, none⟩)), (13, .pointer (some ⟨b950, 0, none⟩)), (15, .int .i64 0), (125, .bool false)] [.cell ⟨b950, 1, none⟩ (.slice A939 r933.1.Data.length c940), .is (Option.isSome A939 = true), .is ((0 : Int) ≤ 0 ∧ 0 < (r933.1.Data.length : Int)), .cell ((ad A939).add ((0 : Int).toNat * 1)) (.float .f64 b998), .is ((0 : Int) ≤ 0 ∧ 0 < (4 : Int)), .cell ⟨b51, 0, none⟩ (.int .i64 r68.2.1), .is ((FloatKind.f64.format.order b998 (FloatKind.f64.nearest r68.2.1) != some .eq) = false)] (by kernel_rfl) (by kernel_rfl) hf982 (by kernel_rfl) ⟨(hm976.cell 0 rfl rfl), q997.1, g983, kb998, (okIs (by decide)), (hm976.cell 3 rfl rfl), (ftNe hb998 (FR.ofInt r68.2.1) c984), trivial⟩ fun a999 w1001 hf1000 hg1002 => ?_
                        have hm1003 := hm976.still hg1002
                        refine thenN ?_
                        refine condF hf1000 (by kernel_rfl) ?_
                        refine wp_skip ?_
                        refine blkN ?_
                        refine thenN ?_
                        refine reg [] [6, 13, 15] [(6, .pointer (some ⟨b51, 0, none⟩)), (13, .pointer (some ⟨b950, 0, none⟩)), (15, .int .i64 1)] [] hf1000 (by kernel_rfl) trivial fun a1004 hf1005 => ?_
                        exact ⟨1, H1, hf1005.sel (l := [6, 13, 15]) (by kernel_rfl), hm1003.sel [0, 1, 2, 3] _ rfl (by kernel_rfl)⟩
                    · rcases ifS_split H1 with ⟨c1006, H1⟩ | ⟨c1006, H1⟩
                      · have hf1007 : Fr 126 a978 [(6, .pointer (some ⟨b51, 0, none⟩)), (13, .pointer (some ⟨b950, 0, none⟩)), (15, .int .i64 1), (113, .bool true)] := by have h := hf979.sel (l := [6, 13, 15, 113]) (e' := [(6, .pointer (some ⟨b51, 0, none⟩)), (13, .pointer (some ⟨b950, 0, none⟩)), (15, .int .i64 s970), (113, .bool true)]) (by kernel_rfl); rw [c1006] at h; first | exact h | (rw [c1006]; exact h)
                        obtain ⟨g1008, H1⟩ := ifS_guard H1
                        rcases ifbS_split H1 with ⟨c1009, H1⟩ | ⟨c1009, H1⟩
                        · have q1010 := (hm976.slAt 2 rfl).float 1 g1008.1 g1008.2
                          obtain ⟨b1011, hb1011, kb1011⟩ := q1010.2
                          refine regQ [.slice A939 r933.1.Data.length c940, .float .f64 b1011, .int .i64 r68.2.2.1, .bool true] [6, 13, 15, 125] [(6, .pointer (some ⟨b51, 0, none⟩)), (13, .pointer (some ⟨b950, 0, none⟩)), (15, .int .i64 1), (125, .bool true)] [.cell ⟨b950, 1, none⟩ (.slice A939 r933.1.Data.length c940), .is (Option.isSome A939 = true), .is ((0 : Int) ≤ 1 ∧ 1 < (r933.1.Data.length : Int)), .cell ((ad A939).add ((1 : Int).toNat * 1)) (.float .f64 b1011), .is ((0 : Int) ≤ 1 ∧ 1 < (4 : Int)), .cell ⟨b51, 1, none⟩ (.int .i64 r68.2.2.1), .is ((FloatKind.f64.format.order b1011 (FloatKind.f64.nearest r68.2.2.1) != some .eq) = true)] (by kernel_rfl) (by kernel_rfl) hf1007 (by kernel_rfl) ⟨(hm976.cell 0 rfl rfl), q1010.1, g1008, kb1011, (okIs (by decide)), (hm976.cell 3 rfl rfl), (ftNe hb1011 (FR.ofInt r68.2.2.1) c1009), trivial⟩ fun a1012 w1014 hf1013 hg1015 => ?_
                          have hm1016 := hm976.still hg1015
                          refine thenN ?_
                          refine condT hf1013 (by kernel_rfl) ?_
                          refine wp_seq ?_
                          refine reg [] [4] [(4, .bool false)] [] hf1013 (by kernel_rfl) trivial fun a1017 hf1018 => ?_
                          have hm1019 := hm1016.sel [] _ rfl (by kernel_rfl)
                          refine thenN ?_
                          refine wp_ret ?_
                          refine blkR ?_
                          refine thenR ?_
                          refine thenR ?_
                          refine .inr ⟨rfl, ?_⟩
                          refine thenR ?_
                          have hm1020 : Mem [] M w0 [] w1014 := hm1019.sel [] _ rfl (by kernel_rfl)
                          obtain rfl := Option.some.inj H1
                          obtain rfl := Option.some.inj H0
                          refine ret [] [.bool false] [] hf1018 (by kernel_rfl) trivial ?_
                          exact ⟨_, rfl, rfl, hm1020⟩
                        · have q1022 := (hm976.slAt 2 rfl).float 1 g1008.1 g1008.2
                          obtain ⟨b1023, hb1023, kb1023⟩ := q1022.2
                          refine regQ [.slice A939 r933.1.Data.length c940, .float .f64 b1023, .int .i64 r68.2.2.1, .bool false] [6, 13, 15, 125] [(6, .pointer (some ⟨b51, 0, none⟩)), (13, .pointer (some ⟨b950, 0, none⟩)), (15, .int .i64 1), (125, .bool false)] [.cell ⟨b950, 1, none⟩ (.slice A939 r933.1.Data.length c940), .is (Option.isSome A939 = true), .is ((0 : Int) ≤ 1 ∧ 1 < (r933.1.Data.length : Int)), .cell ((ad A939).add ((1 : Int).toNat * 1)) (.float .f64 b1023), .is ((0 : Int) ≤ 1 ∧ 1 < (4 : Int)), .cell ⟨b51, 1, none⟩ (.int .i64 r68.2.2.1), .is ((FloatKind.f64.format.order b1023 (FloatKind.f64.nearest r68.2.2.1) != some .eq) = false)] (by kernel_rfl) (by kernel_rfl) hf1007 (by kernel_rfl) ⟨(hm976.cell 0 rfl rfl), q1022.1, g1008, kb1023, (okIs (by decide)), (hm976.cell 3 rfl rfl), (ftNe hb1023 (FR.ofInt r68.2.2.1) c1009), trivial⟩ fun a1024 w1026 hf1025 hg1027 => ?_
                          have hm1028 := hm976.still hg1027
                          refine thenN ?_
                          refine condF hf1025 (by kernel_rfl) ?_
                          refine wp_skip ?_
                          refine blkN ?_
                          refine thenN ?_
                          refine reg [] [6, 13, 15] [(6, .pointer (some ⟨b51, 0, none⟩)), (13, .pointer (some ⟨b950, 0, none⟩)), (15, .int .i64 2)] [] hf1025 (by kernel_rfl) trivial fun a1029 hf1030 => ?_
                          exact ⟨2, H1, hf1030.sel (l := [6, 13, 15]) (by kernel_rfl), hm1028.sel [0, 1, 2, 3] _ rfl (by kernel_rfl)⟩
                      · rcases ifS_split H1 with ⟨c1031, H1⟩ | ⟨c1031, H1⟩
                        · have hf1032 : Fr 126 a978 [(6, .pointer (some ⟨b51, 0, none⟩)), (13, .pointer (some ⟨b950, 0, none⟩)), (15, .int .i64 2), (113, .bool true)] := by have h := hf979.sel (l := [6, 13, 15, 113]) (e' := [(6, .pointer (some ⟨b51, 0, none⟩)), (13, .pointer (some ⟨b950, 0, none⟩)), (15, .int .i64 s970), (113, .bool true)]) (by kernel_rfl); rw [c1031] at h; first | exact h | (rw [c1031]; exact h)
                          obtain ⟨g1033, H1⟩ := ifS_guard H1
                          rcases ifbS_split H1 with ⟨c1034, H1⟩ | ⟨c1034, H1⟩
                          · have q1035 := (hm976.slAt 2 rfl).float 2 g1033.1 g1033.2
                            obtain ⟨b1036, hb1036, kb1036⟩ := q1035.2
                            refine regQ [.slice A939 r933.1.Data.length c940, .float .f64 b1036, .int .i64 r68.2.2.2.1, .bool true] [6, 13, 15, 125] [(6, .pointer (some ⟨b51, 0, none⟩)), (13, .pointer (some ⟨b950, 0, none⟩)), (15, .int .i64 2), (125, .bool true)] [.cell ⟨b950, 1, none⟩ (.slice A939 r933.1.Data.length c940), .is (Option.isSome A939 = true), .is ((0 : Int) ≤ 2 ∧ 2 < (r933.1.Data.length : Int)), .cell ((ad A939).add ((2 : Int).toNat * 1)) (.float .f64 b1036), .is ((0 : Int) ≤ 2 ∧ 2 < (4 : Int)), .cell ⟨b51, 2, none⟩ (.int .i64 r68.2.2.2.1), .is ((FloatKind.f64.format.order b1036 (FloatKind.f64.nearest r68.2.2.2.1) != some .eq) = true)] (by kernel_rfl) (by kernel_rfl) hf1032 (by kernel_rfl) ⟨(hm976.cell 0 rfl rfl), q1035.1, g1033, kb1036, (okIs (by decide)), (hm976.cell 3 rfl rfl), (ftNe hb1036 (FR.ofInt r68.2.2.2.1) c1034), trivial⟩ fun a1037 w1039 hf1038 hg1040 => ?_
                            have hm1041 := hm976.still hg1040
                            refine thenN ?_
                            refine condT hf1038 (by kernel_rfl) ?_
                            refine wp_seq ?_
                            refine reg [] [4] [(4, .bool false)] [] hf1038 (by kernel_rfl) trivial fun a1042 hf1043 => ?_
                            have hm1044 := hm1041.sel [] _ rfl (by kernel_rfl)
                            refine thenN ?_
                            refine wp_ret ?_
                            refine blkR ?_
                            refine thenR ?_
                            refine thenR ?_
                            refine .inr ⟨rfl, ?_⟩
                            refine thenR ?_
                            have hm1045 : Mem [] M w0 [] w1039 := hm1044.sel [] _ rfl (by kernel_rfl)
                            obtain rfl := Option.some.inj H1
                            obtain rfl := Option.some.inj H0
                            refine ret [] [.bool false] [] hf1043 (by kernel_rfl) trivial ?_
                            exact ⟨_, rfl, rfl, hm1045⟩
                          · have q1047 := (hm976.slAt 2 rfl).float 2 g1033.1 g1033.2
                            obtain ⟨b1048, hb1048, kb1048⟩ := q1047.2
                            refine regQ [.slice A939 r933.1.Data.length c940, .float .f64 b1048, .int .i64 r68.2.2.2.1, .bool false] [6, 13, 15, 125] [(6, .pointer (some ⟨b51, 0, none⟩)), (13, .pointer (some ⟨b950, 0, none⟩)), (15, .int .i64 2), (125, .bool false)] [.cell ⟨b950, 1, none⟩ (.slice A939 r933.1.Data.length c940), .is (Option.isSome A939 = true), .is ((0 : Int) ≤ 2 ∧ 2 < (r933.1.Data.length : Int)), .cell ((ad A939).add ((2 : Int).toNat * 1)) (.float .f64 b1048), .is ((0 : Int) ≤ 2 ∧ 2 < (4 : Int)), .cell ⟨b51, 2, none⟩ (.int .i64 r68.2.2.2.1), .is ((FloatKind.f64.format.order b1048 (FloatKind.f64.nearest r68.2.2.2.1) != some .eq) = false)] (by kernel_rfl) (by kernel_rfl) hf1032 (by kernel_rfl) ⟨(hm976.cell 0 rfl rfl), q1047.1, g1033, kb1048, (okIs (by decide)), (hm976.cell 3 rfl rfl), (ftNe hb1048 (FR.ofInt r68.2.2.2.1) c1034), trivial⟩ fun a1049 w1051 hf1050 hg1052 => ?_
                            have hm1053 := hm976.still hg1052
                            refine thenN ?_
                            refine condF hf1050 (by kernel_rfl) ?_
                            refine wp_skip ?_
                            refine blkN ?_
                            refine thenN ?_
                            refine reg [] [6, 13, 15] [(6, .pointer (some ⟨b51, 0, none⟩)), (13, .pointer (some ⟨b950, 0, none⟩)), (15, .int .i64 3)] [] hf1050 (by kernel_rfl) trivial fun a1054 hf1055 => ?_
                            exact ⟨3, H1, hf1055.sel (l := [6, 13, 15]) (by kernel_rfl), hm1053.sel [0, 1, 2, 3] _ rfl (by kernel_rfl)⟩
                        · rcases ifS_split H1 with ⟨c1056, H1⟩ | ⟨c1056, H1⟩
                          · have hf1057 : Fr 126 a978 [(6, .pointer (some ⟨b51, 0, none⟩)), (13, .pointer (some ⟨b950, 0, none⟩)), (15, .int .i64 3), (113, .bool true)] := by have h := hf979.sel (l := [6, 13, 15, 113]) (e' := [(6, .pointer (some ⟨b51, 0, none⟩)), (13, .pointer (some ⟨b950, 0, none⟩)), (15, .int .i64 s970), (113, .bool true)]) (by kernel_rfl); rw [c1056] at h; first | exact h | (rw [c1056]; exact h)
                            obtain ⟨g1058, H1⟩ := ifS_guard H1
                            rcases ifbS_split H1 with ⟨c1059, H1⟩ | ⟨c1059, H1⟩
                            · have q1060 := (hm976.slAt 2 rfl).float 3 g1058.1 g1058.2
                              obtain ⟨b1061, hb1061, kb1061⟩ := q1060.2
                              refine regQ [.slice A939 r933.1.Data.length c940, .float .f64 b1061, .int .i64 r68.2.2.2.2.1, .bool true] [6, 13, 15, 125] [(6, .pointer (some ⟨b51, 0, none⟩)), (13, .pointer (some ⟨b950, 0, none⟩)), (15, .int .i64 3), (125, .bool true)] [.cell ⟨b950, 1, none⟩ (.slice A939 r933.1.Data.length c940), .is (Option.isSome A939 = true), .is ((0 : Int) ≤ 3 ∧ 3 < (r933.1.Data.length : Int)), .cell ((ad A939).add ((3 : Int).toNat * 1)) (.float .f64 b1061), .is ((0 : Int) ≤ 3 ∧ 3 < (4 : Int)), .cell ⟨b51, 3, none⟩ (.int .i64 r68.2.2.2.2.1), .is ((FloatKind.f64.format.order b1061 (FloatKind.f64.nearest r68.2.2.2.2.1) != some .eq) = true)] (by kernel_rfl) (by kernel_rfl) hf1057 (by kernel_rfl) ⟨(hm976.cell 0 rfl rfl), q1060.1, g1058, kb1061, (okIs (by decide)), (hm976.cell 3 rfl rfl), (ftNe hb1061 (FR.ofInt r68.2.2.2.2.1) c1059), trivial⟩ fun a1062 w1064 hf1063 hg1065 => ?_
                              have hm1066 := hm976.still hg1065
                              refine thenN ?_
                              refine condT hf1063 (by kernel_rfl) ?_
                              refine wp_seq ?_
                              refine reg [] [4] [(4, .bool false)] [] hf1063 (by kernel_rfl) trivial fun a1067 hf1068 => ?_
                              have hm1069 := hm1066.sel [] _ rfl (by kernel_rfl)
                              refine thenN ?_
                              refine wp_ret ?_
                              refine blkR ?_
                              refine thenR ?_
                              refine thenR ?_
                              refine .inr ⟨rfl, ?_⟩
                              refine thenR ?_
                              have hm1070 : Mem [] M w0 [] w1064 := hm1069.sel [] _ rfl (by kernel_rfl)
                              obtain rfl := Option.some.inj H1
                              obtain rfl := Option.some.inj H0
                              refine ret [] [.bool false] [] hf1068 (by kernel_rfl) trivial ?_
                              exact ⟨_, rfl, rfl, hm1070⟩
                            · have q1072 := (hm976.slAt 2 rfl).float 3 g1058.1 g1058.2
                              obtain ⟨b1073, hb1073, kb1073⟩ := q1072.2
                              refine regQ [.slice A939 r933.1.Data.length c940, .float .f64 b1073, .int .i64 r68.2.2.2.2.1, .bool false] [6, 13, 15, 125] [(6, .pointer (some ⟨b51, 0, none⟩)), (13, .pointer (some ⟨b950, 0, none⟩)), (15, .int .i64 3), (125, .bool false)] [.cell ⟨b950, 1, none⟩ (.slice A939 r933.1.Data.length c940), .is (Option.isSome A939 = true), .is ((0 : Int) ≤ 3 ∧ 3 < (r933.1.Data.length : Int)), .cell ((ad A939).add ((3 : Int).toNat * 1)) (.float .f64 b1073), .is ((0 : Int) ≤ 3 ∧ 3 < (4 : Int)), .cell ⟨b51, 3, none⟩ (.int .i64 r68.2.2.2.2.1), .is ((FloatKind.f64.format.order b1073 (FloatKind.f64.nearest r68.2.2.2.2.1) != some .eq) = false)] (by kernel_rfl) (by kernel_rfl) hf1057 (by kernel_rfl) ⟨(hm976.cell 0 rfl rfl), q1072.1, g1058, kb1073, (okIs (by decide)), (hm976.cell 3 rfl rfl), (ftNe hb1073 (FR.ofInt r68.2.2.2.2.1) c1059), trivial⟩ fun a1074 w1076 hf1075 hg1077 => ?_
                              have hm1078 := hm976.still hg1077
                              refine thenN ?_
                              refine condF hf1075 (by kernel_rfl) ?_
                              refine wp_skip ?_
                              refine blkN ?_
                              refine thenN ?_
                              refine reg [] [6, 13, 15] [(6, .pointer (some ⟨b51, 0, none⟩)), (13, .pointer (some ⟨b950, 0, none⟩)), (15, .int .i64 4)] [] hf1075 (by kernel_rfl) trivial fun a1079 hf1080 => ?_
                              exact ⟨4, H1, hf1080.sel (l := [6, 13, 15]) (by kernel_rfl), hm1078.sel [0, 1, 2, 3] _ rfl (by kernel_rfl)⟩
                          · exact absurd H1 (by simp [Step.go])
                  · refine reg [.bool false] [6, 13, 15, 113] [(6, .pointer (some ⟨b51, 0, none⟩)), (13, .pointer (some ⟨b950, 0, none⟩)), (15, .int .i64 s970), (113, .bool false)] [.is (decide (s970 < 4) = false)] hf975 (by kernel_rfl) ⟨(decide_eq_false c977), trivial⟩ fun a1081 hf1082 => ?_
                    refine thenN ?_
                    refine condF hf1082 (by kernel_rfl) ?_
                    refine wp_exit ?_
                    refine thenE ?_
                    refine thenE ?_
                    obtain rfl := Option.some.inj H1
                    exact .inl ⟨rfl, s970, rfl, hf1082.sel (l := [6, 13, 15]) (by kernel_rfl), hm976.sel [0, 1, 2, 3] _ rfl (by kernel_rfl)⟩
                rintro a1083 w1084 ⟨yr971, rfl, hf1085, hm1086⟩
                refine thenN ?_
                refine wp_seq ?_
                refine reg [] [4] [(4, .bool true)] [] hf1085 (by kernel_rfl) trivial fun a1087 hf1088 => ?_
                have hm1089 := hm1086.sel [] _ rfl (by kernel_rfl)
                refine thenN ?_
                refine wp_ret ?_
                have hm1090 : Mem [] M w0 [] w1084 := hm1089.sel [] _ rfl (by kernel_rfl)
                obtain rfl := Option.some.inj H0
                refine ret [] [.bool true] [] hf1088 (by kernel_rfl) trivial ?_
                exact ⟨_, rfl, rfl, hm1090⟩
              · refine reg [.bool false, .slice A939 r933.1.Data.length c940, .bool true] [6, 13, 111] [(6, .pointer (some ⟨b51, 0, none⟩)), (13, .pointer (some ⟨b950, 0, none⟩)), (111, .bool true)] [.is (((r933.2 : Int) != 0) = false), .cell ⟨b950, 1, none⟩ (.slice A939 r933.1.Data.length c940), .is ((((r933.1.Data.length : Int) : Int) != 4) = true)] hf962 (by kernel_rfl) ⟨(neF c964), (hm963.cell 0 rfl rfl), (neT c965), trivial⟩ fun a1092 hf1093 => ?_
                refine thenN ?_
                refine condT hf1093 (by kernel_rfl) ?_
                refine wp_seq ?_
                refine reg [] [4] [(4, .bool false)] [] hf1093 (by kernel_rfl) trivial fun a1094 hf1095 => ?_
                have hm1096 := hm963.sel [] _ rfl (by kernel_rfl)
                refine thenN ?_
                refine wp_ret ?_
                refine thenR ?_
                have hm1097 : Mem [] M w0 [] w957 := hm1096.sel [] _ rfl (by kernel_rfl)
                obtain rfl := Option.some.inj H0
                refine ret [] [.bool false] [] hf1095 (by kernel_rfl) trivial ?_
                exact ⟨_, rfl, rfl, hm1097⟩
            · refine reg [.bool true] [6, 13, 111] [(6, .pointer (some ⟨b51, 0, none⟩)), (13, .pointer (some ⟨b950, 0, none⟩)), (111, .bool true)] [.is (((r933.2 : Int) != 0) = true)] hf962 (by kernel_rfl) ⟨(neT c964), trivial⟩ fun a1099 hf1100 => ?_
              refine thenN ?_
              refine condT hf1100 (by kernel_rfl) ?_
              refine wp_seq ?_
              refine reg [] [4] [(4, .bool false)] [] hf1100 (by kernel_rfl) trivial fun a1101 hf1102 => ?_
              have hm1103 := hm963.sel [] _ rfl (by kernel_rfl)
              refine thenN ?_
              refine wp_ret ?_
              refine thenR ?_
              have hm1104 : Mem [] M w0 [] w957 := hm1103.sel [] _ rfl (by kernel_rfl)
              obtain rfl := Option.some.inj H0
              refine ret [] [.bool false] [] hf1102 (by kernel_rfl) trivial ?_
              exact ⟨_, rfl, rfl, hm1104⟩
        · refine inReg ?_
          refine go 5 [.bool false, .agg #[.slice A877 r867.1.Shape.length c878, .slice A879 r867.1.Data.length c880], .agg #[.slice (some ⟨b837, 0, none⟩) 1 1, .slice (some ⟨b846, 0, none⟩) 4 4]] [0, 5, 6, 12, 81, 82, 83] [(0, .slice A0 x0.length c0), (5, .slice A66 r68.2.2.2.2.2.length c67), (6, .pointer (some ⟨b51, 0, none⟩)), (12, .int .i64 r867.2), (81, .bool false), (82, .agg #[.slice A877 r867.1.Shape.length c878, .slice A879 r867.1.Data.length c880]), (83, .agg #[.slice (some ⟨b837, 0, none⟩) 1 1, .slice (some ⟨b846, 0, none⟩) 4 4])] [.is (((r867.2 : Int) != 0) = false), .cell ⟨b890, 0, none⟩ (.slice A877 r867.1.Shape.length c878), .cell ⟨b890, 1, none⟩ (.slice A879 r867.1.Data.length c880), .cell ⟨b855, 0, none⟩ (.slice (some ⟨b837, 0, none⟩) 1 1), .cell ⟨b855, 1, none⟩ (.slice (some ⟨b846, 0, none⟩) 4 4)] hf902 (by kernel_rfl) ⟨(neF c904), (hm903.cell 0 rfl rfl), (hm903.cell 0 rfl rfl), (hm903.cell 3 rfl rfl), (hm903.cell 3 rfl rfl), trivial⟩ fun a1106 hf1107 => ?_
          refine listOf hf1107 rfl (by kernel_rfl) (aCall (fid := 19) (args := [.agg #[.slice A877 r867.1.Shape.length c878, .slice A879 r867.1.Data.length c880], .agg #[.slice (some ⟨b837, 0, none⟩) 1 1, .slice (some ⟨b846, 0, none⟩) 4 4]]) (d := 84) hf1107 (by kernel_rfl) (by kernel_rfl) callable19 (ref1_SameTensor.calls _ _ r867.1 A877 r867.1.Shape.length c878 rfl A879 r867.1.Data.length c880 rfl (⟨([4] : List Int), ([x1.1, x1.2.1, x1.2.2.1, x1.2.2.2] : List Nat)⟩ : Tensor) (some ⟨b837, 0, none⟩) 1 1 rfl (some ⟨b846, 0, none⟩) 4 4 rfl (hm903.give [1, 2, 5, 4] [.sl (Kd.int .i64) A877 c878 r867.1.Shape, .sl Kd.float A879 c880 r867.1.Data, .sl (Kd.int .i64) (some ⟨b837, 0, none⟩) 1 ([4] : List Int), .sl Kd.float (some ⟨b846, 0, none⟩) 4 ([x1.1, x1.2.1, x1.2.2.1, x1.2.2.2] : List Nat)] rfl rfl) r905 hr905) ?_)
          rintro _ w1108 a1109 ⟨rfl, hk1111⟩ hf1110
          have hm1112 := hm903.still hk1111.cum.none
          rw [c906] at hf1110
          refine go 7 [] [0, 5, 6, 12, 91] [(0, .slice A0 x0.length c0), (5, .slice A66 r68.2.2.2.2.2.length c67), (6, .pointer (some ⟨b51, 0, none⟩)), (12, .int .i64 r867.2), (91, .bool true)] [] hf1110 (by kernel_rfl) trivial fun a1113 hf1114 => ?_
          refine endL rfl ?_
          have hm1115 := hm1112.sel [6, 7, 8] _ rfl (by kernel_rfl)
          refine thenN ?_
          refine condT hf1114 (by kernel_rfl) ?_
          refine wp_seq ?_
          rcases if_split H0 with ⟨c1116, H0⟩ | ⟨c1116, H0⟩
          · refine reg [.bool true, .bool true] [4] [(4, .bool true)] [.is (((r867.2 : Int) == 0) = true), .is ((((x0.length : Int) : Int) == 0) = true)] hf1114 (by kernel_rfl) ⟨(eqT c904), (eqT c1116), trivial⟩ fun a1117 hf1118 => ?_
            have hm1119 := hm1115.sel [] _ rfl (by kernel_rfl)
            refine thenN ?_
            refine wp_ret ?_
            refine thenR ?_
            have hm1120 : Mem [] M w0 [] w1108 := hm1119.sel [] _ rfl (by kernel_rfl)
            obtain rfl := Option.some.inj H0
            refine ret [] [.bool true] [] hf1118 (by kernel_rfl) trivial ?_
            exact ⟨_, rfl, rfl, hm1120⟩
          · refine reg [.bool true, .bool false] [4] [(4, .bool false)] [.is (((r867.2 : Int) == 0) = true), .is ((((x0.length : Int) : Int) == 0) = false)] hf1114 (by kernel_rfl) ⟨(eqT c904), (eqF c1116), trivial⟩ fun a1122 hf1123 => ?_
            have hm1124 := hm1115.sel [] _ rfl (by kernel_rfl)
            refine thenN ?_
            refine wp_ret ?_
            refine thenR ?_
            have hm1125 : Mem [] M w0 [] w1108 := hm1124.sel [] _ rfl (by kernel_rfl)
            obtain rfl := Option.some.inj H0
            refine ret [] [.bool false] [] hf1123 (by kernel_rfl) trivial ?_
            exact ⟨_, rfl, rfl, hm1125⟩
      · refine reg [.bool true] [0, 5, 6, 12, 91] [(0, .slice A0 x0.length c0), (5, .slice A66 r68.2.2.2.2.2.length c67), (6, .pointer (some ⟨b51, 0, none⟩)), (12, .int .i64 r867.2), (91, .bool true)] [.is (((r867.2 : Int) != 0) = true)] hf902 (by kernel_rfl) ⟨(neT c904), trivial⟩ fun a1127 hf1128 => ?_
        have hm1129 := hm903.sel [6, 7, 8] _ rfl (by kernel_rfl)
        refine thenN ?_
        refine condT hf1128 (by kernel_rfl) ?_
        refine wp_seq ?_
        refine reg [.bool false] [4] [(4, .bool false)] [.is (((r867.2 : Int) == 0) = false)] hf1128 (by kernel_rfl) ⟨(eqF c904), trivial⟩ fun a1130 hf1131 => ?_
        have hm1132 := hm1129.sel [] _ rfl (by kernel_rfl)
        refine thenN ?_
        refine wp_ret ?_
        refine thenR ?_
        have hm1133 : Mem [] M w0 [] w897 := hm1132.sel [] _ rfl (by kernel_rfl)
        obtain rfl := Option.some.inj H0
        refine ret [] [.bool false] [] hf1131 (by kernel_rfl) trivial ?_
        exact ⟨_, rfl, rfl, hm1133⟩
  · refine inReg ?_
    refine listOf hf29 rfl (by kernel_rfl) (aCall (fid := 15) (args := []) (d := 16) hf29 (by kernel_rfl) (by kernel_rfl) callable15 (law8_awake.calls _ _  (hm27.give [] [] rfl rfl) r30 hr30) ?_)
    rintro _ w1135 a1136 ⟨rfl, hk1138⟩ hf1137
    have hm1139 := hm27.still hk1138.cum.none
    rw [c31] at hf1137
    refine go 1 [] [0, 3, 17] [(0, .slice A0 x0.length c0), (3, .pointer (some ⟨b21, 0, none⟩)), (17, .bool true)] [] hf1137 (by kernel_rfl) trivial fun a1140 hf1141 => ?_
    refine endL rfl ?_
    refine thenN ?_
    refine condT hf1141 (by kernel_rfl) ?_
    refine wp_seq ?_
    refine reg [] [4] [(4, .bool false)] [] hf1141 (by kernel_rfl) trivial fun a1142 hf1143 => ?_
    have hm1144 := hm1139.sel [] _ rfl (by kernel_rfl)
    refine thenN ?_
    refine wp_ret ?_
    refine thenR ?_
    have hm1145 : Mem [] M w0 [] w1135 := hm1144.sel [] _ rfl (by kernel_rfl)
    obtain rfl := Option.some.inj H0
    refine ret [] [.bool false] [] hf1143 (by kernel_rfl) trivial ?_
    exact ⟨_, rfl, rfl, hm1145⟩
end Go.Proofs.Ytkcgiolledmbnab
