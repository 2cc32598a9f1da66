/- Printed by gen.py. -/
import Derived.Test.YtkcgiolledmbnaaF1
namespace Go.Proofs.Ytkcgiolledmbnaa
open Go Go.RowKit
set_option linter.unusedSimpArgs false
set_option linter.unusedVariables false
set_option linter.unnecessarySimpa false
/-! ### backstitch/matrix.Turn -/
noncomputable def matrix_Turn.l1 (x0 : Tensor) (s95 : (Int × (List Nat))) (s109 : (Int × (List Nat))) : Step (Int × (List Nat)) (Int × (List Nat)) :=
  if s109.1 < (rd x0.Shape 1) then (if 0 ≤ (w64 ((w64 (s95.1 * (rd x0.Shape 1))) + s109.1)) ∧ (w64 ((w64 (s95.1 * (rd x0.Shape 1))) + s109.1)) < (x0.Data.length : Int) then (if 0 ≤ (w64 ((w64 (s109.1 * (rd x0.Shape 0))) + s95.1)) ∧ (w64 ((w64 (s109.1 * (rd x0.Shape 0))) + s95.1)) < (s109.2.length : Int) then (.next ((w64 (s109.1 + 1)), (put s109.2 (w64 ((w64 (s109.1 * (rd x0.Shape 0))) + s95.1)) (rd x0.Data (w64 ((w64 (s95.1 * (rd x0.Shape 1))) + s109.1))))))
  else .bad)
  else .bad)
  else (.done (s109.1, s109.2))
noncomputable def matrix_Turn.l0 (x0 : Tensor) (s95 : (Int × (List Nat))) : Step (Int × (List Nat)) (Int × (List Nat)) :=
  if s95.1 < (rd x0.Shape 0) then (bindS (loop (matrix_Turn.l1 x0 s95) (0, s95.2)) fun r110 =>
  .next ((w64 (s95.1 + 1)), r110.2))
  else (.done (s95.1, s95.2))
noncomputable def matrix_Turn.f (x0 : Tensor) : Option (Tensor × Int) :=
  (matrix_flat.f x0).bind fun r37 =>
  if r37 = true then (if (0 : Int) ≤ 0 ∧ 0 < (x0.Shape.length : Int) then (if (0 : Int) ≤ 1 ∧ 1 < (x0.Shape.length : Int) then ((tensor_New.f ([(rd x0.Shape 1), (rd x0.Shape 0)] : List Int) 0).bind fun r57 =>
  (loop (matrix_Turn.l0 x0) (0, r57.1.Data)).bind fun r96 =>
  some ((⟨r57.1.Shape, r96.2⟩ : Tensor), 0))
  else none)
  else none)
  else (some ((⟨([] : (List Int)), ([] : (List Nat))⟩ : Tensor), 2))
set_option maxRecDepth 100000 in
set_option maxHeartbeats 4000000 in
theorem matrix_Turn.calls (M : List (Option Nat)) (w0 : World) (x0 : Tensor) (A0_0 : Option Addr) (n0_0 c0_0 : Nat) (e0_0 : n0_0 = x0.Shape.length) (A0_1 : Option Addr) (n0_1 c0_1 : Nat) (e0_1 : n0_1 = x0.Data.length) (hm0 : Mem [] M w0 [.sl (Kd.int .i64) A0_0 c0_0 x0.Shape, .sl Kd.float A0_1 c0_1 x0.Data] w0) (r : (Tensor × Int)) (H0 : matrix_Turn.f x0 = some r) :
    Calls Try.prog 37 [.agg #[.slice A0_0 n0_0 c0_0, .slice A0_1 n0_1 c0_1]].toArray w0 (fun x w' => ∃ v, x = .returned v ∧ ∃ Ar0_0 cr0_0 Ar0_1 cr0_1, v = .tuple #[.agg #[.slice Ar0_0 r.1.Shape.length cr0_0, .slice Ar0_1 r.1.Data.length cr0_1], .int .i64 r.2] ∧ Mem [] M w0 [.ow (Kd.int .i64) 3 Ar0_0 cr0_0 r.1.Shape, .ow Kd.float 47 Ar0_1 cr0_1 r.1.Data] w') := by
  subst e0_0
  subst e0_1
  unfold matrix_Turn.f at H0
  refine enter (n := 57) Try.func37 rfl rfl (by kernel_rfl) fun a0 (hf0 : Fr 57 a0 [(0, .agg #[.slice A0_0 x0.Shape.length c0_0, .slice A0_1 x0.Data.length c0_1])]) => ?_
  refine wp_seq ?_
  refine inReg ?_
  refine listOf hf0 rfl (by kernel_rfl) (aNew (cs := [.slice A0_0 x0.Shape.length c0_0, .slice A0_1 x0.Data.length c0_1]) (T := 42) (d := 1) hf0 (by kernel_rfl) (by kernel_rfl) ?_)
  intro b21 w22 a23 hbb21 hx25 hg26 hf24
  have hm27 : Mem [] M w0 [.bx b21 [.slice A0_0 x0.Shape.length c0_0, .slice A0_1 x0.Data.length c0_1] 42, .sl (Kd.int .i64) A0_0 c0_0 x0.Shape, .sl Kd.float A0_1 c0_1 x0.Data] w22 := hm0.box hbb21 hx25 hg26
  refine listOf hf24 rfl (by kernel_rfl) (aNew (cs := [.slice none 0 0, .slice none 0 0]) (T := 42) (d := 2) hf24 (by kernel_rfl) (by kernel_rfl) ?_)
  intro b28 w29 a30 hbb28 hx32 hg33 hf31
  have hm34 : Mem [] M w0 [.bx b28 [.slice none 0 0, .slice none 0 0] 42, .bx b21 [.slice A0_0 x0.Shape.length c0_0, .slice A0_1 x0.Data.length c0_1] 42, .sl (Kd.int .i64) A0_0 c0_0 x0.Shape, .sl Kd.float A0_1 c0_1 x0.Data] w29 := hm27.box hbb28 hx32 hg33
  refine go 1 [] [1, 2] [(1, .pointer (some ⟨b21, 0, none⟩)), (2, .pointer (some ⟨b28, 0, none⟩))] [] hf31 (by kernel_rfl) trivial fun a35 hf36 => ?_
  refine endL rfl ?_
  refine thenN ?_
  refine wp_seq ?_
  refine wp_seq ?_
  obtain ⟨r37, hr37, H0⟩ := ob_split H0
  rcases ifb_split H0 with ⟨c38, H0⟩ | ⟨c38, H0⟩
  · refine inReg ?_
    refine go 1 [.agg #[.slice A0_0 x0.Shape.length c0_0, .slice A0_1 x0.Data.length c0_1]] [1, 2, 10] [(1, .pointer (some ⟨b21, 0, none⟩)), (2, .pointer (some ⟨b28, 0, none⟩)), (10, .agg #[.slice A0_0 x0.Shape.length c0_0, .slice A0_1 x0.Data.length c0_1])] [.cell ⟨b21, 0, none⟩ (.slice A0_0 x0.Shape.length c0_0), .cell ⟨b21, 1, none⟩ (.slice A0_1 x0.Data.length c0_1)] hf36 (by kernel_rfl) ⟨(hm34.cell 1 rfl rfl), (hm34.cell 1 rfl rfl), trivial⟩ fun a39 hf40 => ?_
    refine listOf hf40 rfl (by kernel_rfl) (aCall (fid := 53) (args := [.agg #[.slice A0_0 x0.Shape.length c0_0, .slice A0_1 x0.Data.length c0_1]]) (d := 11) hf40 (by kernel_rfl) (by kernel_rfl) callable53 (matrix_flat.calls _ _ x0 A0_0 x0.Shape.length c0_0 rfl A0_1 x0.Data.length c0_1 rfl (hm34.give [2, 3] [.sl (Kd.int .i64) A0_0 c0_0 x0.Shape, .sl Kd.float A0_1 c0_1 x0.Data] rfl rfl) r37 hr37) ?_)
    rintro _ w41 a42 ⟨rfl, hk44⟩ hf43
    have hm45 : Mem [] M w0 [.bx b28 [.slice none 0 0, .slice none 0 0] 42, .bx b21 [.slice A0_0 x0.Shape.length c0_0, .slice A0_1 x0.Data.length c0_1] 42, .sl (Kd.int .i64) A0_0 c0_0 x0.Shape, .sl Kd.float A0_1 c0_1 x0.Data] w41 := hm34.still hk44.cum.none
    rw [c38] at hf43
    refine go 1 [] [1, 2, 12] [(1, .pointer (some ⟨b21, 0, none⟩)), (2, .pointer (some ⟨b28, 0, none⟩)), (12, .bool false)] [] hf43 (by kernel_rfl) trivial fun a46 hf47 => ?_
    refine endL rfl ?_
    refine thenN ?_
    refine condF hf47 (by kernel_rfl) ?_
    refine wp_skip ?_
    refine thenN ?_
    refine wp_seq ?_
    obtain ⟨g48, H0⟩ := if_guard H0
    obtain ⟨g49, H0⟩ := if_guard H0
    have q50 := (hm45.slAt 2 rfl).int 0 g48.1 g48.2
    have q51 := (hm45.slAt 2 rfl).int 1 g49.1 g49.2
    refine regQ [.slice A0_0 x0.Shape.length c0_0, .int .i64 (rd x0.Shape 0), .slice A0_0 x0.Shape.length c0_0, .int .i64 (rd x0.Shape 1)] [1, 2, 4, 5] [(1, .pointer (some ⟨b21, 0, none⟩)), (2, .pointer (some ⟨b28, 0, none⟩)), (4, .int .i64 (rd x0.Shape 0)), (5, .int .i64 (rd x0.Shape 1))] [.cell ⟨b21, 0, none⟩ (.slice A0_0 x0.Shape.length c0_0), .is (Option.isSome A0_0 = true), .is ((0 : Int) ≤ 0 ∧ 0 < (x0.Shape.length : Int)), .cell ((ad A0_0).add ((0 : Int).toNat * 1)) (.int .i64 (rd x0.Shape 0)), .cell ⟨b21, 0, none⟩ (.slice A0_0 x0.Shape.length c0_0), .is (Option.isSome A0_0 = true), .is ((0 : Int) ≤ 1 ∧ 1 < (x0.Shape.length : Int)), .cell ((ad A0_0).add ((1 : Int).toNat * 1)) (.int .i64 (rd x0.Shape 1))] (by kernel_rfl) (by kernel_rfl) hf47 (by kernel_rfl) ⟨(hm45.cell 1 rfl rfl), q50.1, g48, q50.2, (hm45.cell 1 rfl rfl), q51.1, g49, q51.2, trivial⟩ fun a52 w54 hf53 hg55 => ?_
    have hm56 : Mem [] M w0 [.bx b28 [.slice none 0 0, .slice none 0 0] 42, .bx b21 [.slice A0_0 x0.Shape.length c0_0, .slice A0_1 x0.Data.length c0_1] 42, .sl (Kd.int .i64) A0_0 c0_0 x0.Shape, .sl Kd.float A0_1 c0_1 x0.Data] w54 := hm45.still hg55
    refine thenN ?_
    refine wp_seq ?_
    obtain ⟨r57, hr57, H0⟩ := ob_split H0
    refine inReg ?_
    refine go 2 [] [1, 2, 4, 5, 23, 24] [(1, .pointer (some ⟨b21, 0, none⟩)), (2, .pointer (some ⟨b28, 0, none⟩)), (4, .int .i64 (rd x0.Shape 0)), (5, .int .i64 (rd x0.Shape 1)), (23, .int .i64 (rd x0.Shape 1)), (24, .int .i64 (rd x0.Shape 0))] [] hf53 (by kernel_rfl) trivial fun a58 hf59 => ?_
    refine listOf hf59 rfl (by kernel_rfl) (aLit (cs := [.int .i64 (rd x0.Shape 1), .int .i64 (rd x0.Shape 0)]) (E := 3) (len := 2) (d := 25) hf59 (by kernel_rfl) (by kernel_rfl) ?_)
    intro b60 w61 a62 hbb60 hx65 hg66 hf63
    have hm56s := hm56.still hg66
    have hm67 : Mem [] M w0 [.sl (Kd.int .i64) (some ⟨b60, 0, none⟩) 2 ([(rd x0.Shape 1), (rd x0.Shape 0)] : List Int), .bx b28 [.slice none 0 0, .slice none 0 0] 42, .bx b21 [.slice A0_0 x0.Shape.length c0_0, .slice A0_1 x0.Data.length c0_1] 42, .sl (Kd.int .i64) A0_0 c0_0 x0.Shape, .sl Kd.float A0_1 c0_1 x0.Data] w61 := Mem.lit (kd := (Kd.int .i64)) (xs := ([(rd x0.Shape 1), (rd x0.Shape 0)] : List Int)) hm56 hbb60 hx65 hg66 (Els.append (Els.one (kd := (Kd.int .i64)) (us := [.int .i64 (rd x0.Shape 1)]) (x := (rd x0.Shape 1)) rfl) (Els.one (kd := (Kd.int .i64)) (us := [.int .i64 (rd x0.Shape 0)]) (x := (rd x0.Shape 0)) rfl))
    refine listOf hf63 rfl (by kernel_rfl) (aCall (fid := 54) (args := [.slice (some ⟨b60, 0, none⟩) 2 2, .float .f64 0]) (d := 26) hf63 (by kernel_rfl) (by kernel_rfl) callable54 (tensor_New.calls _ _ ([(rd x0.Shape 1), (rd x0.Shape 0)] : List Int) (some ⟨b60, 0, none⟩) 2 2 rfl 0 0 ((FR.lit (by kernel_rfl) (by kernel_rfl))) (hm67.give [0] [.sl (Kd.int .i64) (some ⟨b60, 0, none⟩) 2 ([(rd x0.Shape 1), (rd x0.Shape 0)] : List Int)] rfl rfl) r57 hr57) ?_)
    rintro _ w72 a73 ⟨A68, c69, A70, c71, rfl, hk75⟩ hf74
    have hm76 : Mem [] M w0 [.ow (Kd.int .i64) 3 A68 c69 r57.1.Shape, .ow Kd.float 47 A70 c71 r57.1.Data, .sl (Kd.int .i64) (some ⟨b60, 0, none⟩) 2 ([(rd x0.Shape 1), (rd x0.Shape 0)] : List Int), .bx b28 [.slice none 0 0, .slice none 0 0] 42, .bx b21 [.slice A0_0 x0.Shape.length c0_0, .slice A0_1 x0.Data.length c0_1] 42, .sl (Kd.int .i64) A0_0 c0_0 x0.Shape, .sl Kd.float A0_1 c0_1 x0.Data] w72 := hm67.back hk75
    refine go 3 [] [1, 2, 4, 5, 27, 28] [(1, .pointer (some ⟨b21, 0, none⟩)), (2, .pointer (some ⟨b28, 0, none⟩)), (4, .int .i64 (rd x0.Shape 0)), (5, .int .i64 (rd x0.Shape 1)), (27, .agg #[.slice A68 r57.1.Shape.length c69, .slice A70 r57.1.Data.length c71]), (28, .int .i64 r57.2)] [] hf74 (by kernel_rfl) trivial fun a77 hf78 => ?_
    refine listOf hf78 rfl (by kernel_rfl) (aNew (cs := [.slice none 0 0, .slice none 0 0]) (T := 42) (d := 6) hf78 (by kernel_rfl) (by kernel_rfl) ?_)
    intro b79 w80 a81 hbb79 hx83 hg84 hf82
    have hm85 : Mem [] M w0 [.bx b79 [.slice none 0 0, .slice none 0 0] 42, .ow (Kd.int .i64) 3 A68 c69 r57.1.Shape, .ow Kd.float 47 A70 c71 r57.1.Data, .sl (Kd.int .i64) (some ⟨b60, 0, none⟩) 2 ([(rd x0.Shape 1), (rd x0.Shape 0)] : List Int), .bx b28 [.slice none 0 0, .slice none 0 0] 42, .bx b21 [.slice A0_0 x0.Shape.length c0_0, .slice A0_1 x0.Data.length c0_1] 42, .sl (Kd.int .i64) A0_0 c0_0 x0.Shape, .sl Kd.float A0_1 c0_1 x0.Data] w80 := hm76.box hbb79 hx83 hg84
    refine listOf hf82 rfl (by kernel_rfl) (aStoreB (b := b79) (j := 0) (T := 42) (cs := [.slice none 0 0, .slice none 0 0]) (us := [.slice A68 r57.1.Shape.length c69, .slice A70 r57.1.Data.length c71]) (cs' := [.slice A68 r57.1.Shape.length c69, .slice A70 r57.1.Data.length c71]) hf82 (by kernel_rfl) (hm85.bxAt 0 rfl) (by kernel_rfl) (by kernel_rfl) (by kernel_rfl) ?_)
    intro w86 hx87 hg88
    have hm89 : Mem [] M w0 [.bx b79 [.slice A68 r57.1.Shape.length c69, .slice A70 r57.1.Data.length c71] 42, .ow (Kd.int .i64) 3 A68 c69 r57.1.Shape, .ow Kd.float 47 A70 c71 r57.1.Data, .sl (Kd.int .i64) (some ⟨b60, 0, none⟩) 2 ([(rd x0.Shape 1), (rd x0.Shape 0)] : List Int), .bx b28 [.slice none 0 0, .slice none 0 0] 42, .bx b21 [.slice A0_0 x0.Shape.length c0_0, .slice A0_1 x0.Data.length c0_1] 42, .sl (Kd.int .i64) A0_0 c0_0 x0.Shape, .sl Kd.float A0_1 c0_1 x0.Data] w86 := hm85.setBox 0 _ rfl rfl hx87 hg88
    refine go 1 [] [1, 2, 4, 5, 6] [(1, .pointer (some ⟨b21, 0, none⟩)), (2, .pointer (some ⟨b28, 0, none⟩)), (4, .int .i64 (rd x0.Shape 0)), (5, .int .i64 (rd x0.Shape 1)), (6, .pointer (some ⟨b79, 0, none⟩))] [] hf82 (by kernel_rfl) trivial fun a90 hf91 => ?_
    refine endL rfl ?_
    have hm92 : Mem [] M w0 [.bx b79 [.slice A68 r57.1.Shape.length c69, .slice A70 r57.1.Data.length c71] 42, .ow (Kd.int .i64) 3 A68 c69 r57.1.Shape, .ow Kd.float 47 A70 c71 r57.1.Data, .bx b28 [.slice none 0 0, .slice none 0 0] 42, .bx b21 [.slice A0_0 x0.Shape.length c0_0, .slice A0_1 x0.Data.length c0_1] 42, .sl (Kd.int .i64) A0_0 c0_0 x0.Shape, .sl Kd.float A0_1 c0_1 x0.Data] w86 := hm89.sel [0, 1, 2, 4, 5, 6, 7] _ rfl (by kernel_rfl)
    refine thenN ?_
    refine wp_seq ?_
    refine wp_seq ?_
    refine reg [] [1, 2, 4, 5, 6, 29, 30] [(1, .pointer (some ⟨b21, 0, none⟩)), (2, .pointer (some ⟨b28, 0, none⟩)), (4, .int .i64 (rd x0.Shape 0)), (5, .int .i64 (rd x0.Shape 1)), (6, .pointer (some ⟨b79, 0, none⟩)), (29, .int .i64 (rd x0.Shape 0)), (30, .int .i64 0)] [] hf91 (by kernel_rfl) trivial fun a93 hf94 => ?_
    refine thenN ?_
    obtain ⟨r96, hr96, H0⟩ := ob_split H0
    refine wpBlock (Mid := fun (a : Act) (w : World) => Fr 57 a [(1, .pointer (some ⟨b21, 0, none⟩)), (2, .pointer (some ⟨b28, 0, none⟩)), (4, .int .i64 (rd x0.Shape 0)), (5, .int .i64 (rd x0.Shape 1)), (6, .pointer (some ⟨b79, 0, none⟩)), (29, .int .i64 (rd x0.Shape 0)), (30, .int .i64 r96.1)] ∧ Mem [] M w0 [.bx b79 [.slice A68 r57.1.Shape.length c69, .slice A70 r96.2.length c71] 42, .ow (Kd.int .i64) 3 A68 c69 r57.1.Shape, .ow Kd.float 47 A70 c71 r96.2, .bx b28 [.slice none 0 0, .slice none 0 0] 42, .bx b21 [.slice A0_0 x0.Shape.length c0_0, .slice A0_1 x0.Data.length c0_1] 42, .sl (Kd.int .i64) A0_0 c0_0 x0.Shape, .sl Kd.float A0_1 c0_1 x0.Data] w) ?_ ?_
    · refine wpLoop (matrix_Turn.l0 x0) r96 (fun (s95 : (Int × (List Nat))) (a : Act) (w : World) => Fr 57 a [(1, .pointer (some ⟨b21, 0, none⟩)), (2, .pointer (some ⟨b28, 0, none⟩)), (4, .int .i64 (rd x0.Shape 0)), (5, .int .i64 (rd x0.Shape 1)), (6, .pointer (some ⟨b79, 0, none⟩)), (29, .int .i64 (rd x0.Shape 0)), (30, .int .i64 s95.1)] ∧ Mem [] M w0 [.bx b79 [.slice A68 r57.1.Shape.length c69, .slice A70 s95.2.length c71] 42, .ow (Kd.int .i64) 3 A68 c69 r57.1.Shape, .ow Kd.float 47 A70 c71 s95.2, .bx b28 [.slice none 0 0, .slice none 0 0] 42, .bx b21 [.slice A0_0 x0.Shape.length c0_0, .slice A0_1 x0.Data.length c0_1] 42, .sl (Kd.int .i64) A0_0 c0_0 x0.Shape, .sl Kd.float A0_1 c0_1 x0.Data] w) (0, r57.1.Data) hr96 ⟨hf94.sel (l := [1, 2, 4, 5, 6, 29, 30]) (by kernel_rfl), hm92.sel [0, 1, 2, 3, 4, 5, 6] _ rfl (by kernel_rfl)⟩ ?_
      rintro g97 s95 a98 w99 H1 ⟨hf100, hm101⟩
      unfold matrix_Turn.l0 at H1
      refine wp_seq ?_
      rcases ifS_split H1 with ⟨c102, H1⟩ | ⟨c102, H1⟩
      · refine reg [.bool true] [1, 2, 4, 5, 6, 29, 30, 31] [(1, .pointer (some ⟨b21, 0, none⟩)), (2, .pointer (some ⟨b28, 0, none⟩)), (4, .int .i64 (rd x0.Shape 0)), (5, .int .i64 (rd x0.Shape 1)), (6, .pointer (some ⟨b79, 0, none⟩)), (29, .int .i64 (rd x0.Shape 0)), (30, .int .i64 s95.1), (31, .bool true)] [.is (decide (s95.1 < (rd x0.Shape 0)) = true)] hf100 (by kernel_rfl) ⟨(decide_eq_true c102), trivial⟩ fun a103 hf104 => ?_
        refine thenN ?_
        refine wp_seq ?_
        refine condT hf104 (by kernel_rfl) ?_
        refine wp_skip ?_
        refine thenN ?_
        refine wp_seq ?_
        refine wp_block ?_
        refine wp_seq ?_
        refine reg [] [1, 2, 4, 5, 6, 8, 29, 30] [(1, .pointer (some ⟨b21, 0, none⟩)), (2, .pointer (some ⟨b28, 0, none⟩)), (4, .int .i64 (rd x0.Shape 0)), (5, .int .i64 (rd x0.Shape 1)), (6, .pointer (some ⟨b79, 0, none⟩)), (8, .int .i64 s95.1), (29, .int .i64 (rd x0.Shape 0)), (30, .int .i64 s95.1)] [] hf104 (by kernel_rfl) trivial fun a105 hf106 => ?_
        refine thenN ?_
        refine wp_seq ?_
        refine reg [] [1, 2, 4, 5, 6, 8, 29, 30, 33, 34] [(1, .pointer (some ⟨b21, 0, none⟩)), (2, .pointer (some ⟨b28, 0, none⟩)), (4, .int .i64 (rd x0.Shape 0)), (5, .int .i64 (rd x0.Shape 1)), (6, .pointer (some ⟨b79, 0, none⟩)), (8, .int .i64 s95.1), (29, .int .i64 (rd x0.Shape 0)), (30, .int .i64 s95.1), (33, .int .i64 (rd x0.Shape 1)), (34, .int .i64 0)] [] hf106 (by kernel_rfl) trivial fun a107 hf108 => ?_
        refine thenN ?_
        obtain ⟨r110, hr110, H1⟩ := obS_split H1
        refine wpBlock (Mid := fun (a : Act) (w : World) => Fr 57 a [(1, .pointer (some ⟨b21, 0, none⟩)), (2, .pointer (some ⟨b28, 0, none⟩)), (4, .int .i64 (rd x0.Shape 0)), (5, .int .i64 (rd x0.Shape 1)), (6, .pointer (some ⟨b79, 0, none⟩)), (8, .int .i64 s95.1), (29, .int .i64 (rd x0.Shape 0)), (30, .int .i64 s95.1), (33, .int .i64 (rd x0.Shape 1)), (34, .int .i64 r110.1)] ∧ Mem [] M w0 [.bx b79 [.slice A68 r57.1.Shape.length c69, .slice A70 r110.2.length c71] 42, .ow (Kd.int .i64) 3 A68 c69 r57.1.Shape, .ow Kd.float 47 A70 c71 r110.2, .bx b28 [.slice none 0 0, .slice none 0 0] 42, .bx b21 [.slice A0_0 x0.Shape.length c0_0, .slice A0_1 x0.Data.length c0_1] 42, .sl (Kd.int .i64) A0_0 c0_0 x0.Shape, .sl Kd.float A0_1 c0_1 x0.Data] w) ?_ ?_
        · refine wpLoop (matrix_Turn.l1 x0 s95) r110 (fun (s109 : (Int × (List Nat))) (a : Act) (w : World) => Fr 57 a [(1, .pointer (some ⟨b21, 0, none⟩)), (2, .pointer (some ⟨b28, 0, none⟩)), (4, .int .i64 (rd x0.Shape 0)), (5, .int .i64 (rd x0.Shape 1)), (6, .pointer (some ⟨b79, 0, none⟩)), (8, .int .i64 s95.1), (29, .int .i64 (rd x0.Shape 0)), (30, .int .i64 s95.1), (33, .int .i64 (rd x0.Shape 1)), (34, .int .i64 s109.1)] ∧ Mem [] M w0 [.bx b79 [.slice A68 r57.1.Shape.length c69, .slice A70 s109.2.length c71] 42, .ow (Kd.int .i64) 3 A68 c69 r57.1.Shape, .ow Kd.float 47 A70 c71 s109.2, .bx b28 [.slice none 0 0, .slice none 0 0] 42, .bx b21 [.slice A0_0 x0.Shape.length c0_0, .slice A0_1 x0.Data.length c0_1] 42, .sl (Kd.int .i64) A0_0 c0_0 x0.Shape, .sl Kd.float A0_1 c0_1 x0.Data] w) (0, s95.2) hr110 ⟨hf108.sel (l := [1, 2, 4, 5, 6, 8, 29, 30, 33, 34]) (by kernel_rfl), hm101.sel [0, 1, 2, 3, 4, 5, 6] _ rfl (by kernel_rfl)⟩ ?_
          rintro g111 s109 a112 w113 H2 ⟨hf114, hm115⟩
          unfold matrix_Turn.l1 at H2
          refine wp_seq ?_
          rcases ifS_split H2 with ⟨c116, H2⟩ | ⟨c116, H2⟩
          · refine reg [.bool true] [1, 2, 4, 5, 6, 8, 29, 30, 33, 34, 35] [(1, .pointer (some ⟨b21, 0, none⟩)), (2, .pointer (some ⟨b28, 0, none⟩)), (4, .int .i64 (rd x0.Shape 0)), (5, .int .i64 (rd x0.Shape 1)), (6, .pointer (some ⟨b79, 0, none⟩)), (8, .int .i64 s95.1), (29, .int .i64 (rd x0.Shape 0)), (30, .int .i64 s95.1), (33, .int .i64 (rd x0.Shape 1)), (34, .int .i64 s109.1), (35, .bool true)] [.is (decide (s109.1 < (rd x0.Shape 1)) = true)] hf114 (by kernel_rfl) ⟨(decide_eq_true c116), trivial⟩ fun a117 hf118 => ?_
            refine thenN ?_
            refine wp_seq ?_
            refine condT hf118 (by kernel_rfl) ?_
            refine wp_skip ?_
            refine thenN ?_
            refine wp_seq ?_
            refine wp_block ?_
            refine wp_seq ?_
            refine reg [] [1, 2, 4, 5, 6, 8, 9, 29, 30, 33, 34] [(1, .pointer (some ⟨b21, 0, none⟩)), (2, .pointer (some ⟨b28, 0, none⟩)), (4, .int .i64 (rd x0.Shape 0)), (5, .int .i64 (rd x0.Shape 1)), (6, .pointer (some ⟨b79, 0, none⟩)), (8, .int .i64 s95.1), (9, .int .i64 s109.1), (29, .int .i64 (rd x0.Shape 0)), (30, .int .i64 s95.1), (33, .int .i64 (rd x0.Shape 1)), (34, .int .i64 s109.1)] [] hf118 (by kernel_rfl) trivial fun a119 hf120 => ?_
            refine thenN ?_
            obtain ⟨g121, H2⟩ := ifS_guard H2
            obtain ⟨g122, H2⟩ := ifS_guard H2
            refine midReg (fun (a : Act) (w : World) => Fr 57 a [(1, .pointer (some ⟨b21, 0, none⟩)), (2, .pointer (some ⟨b28, 0, none⟩)), (4, .int .i64 (rd x0.Shape 0)), (5, .int .i64 (rd x0.Shape 1)), (6, .pointer (some ⟨b79, 0, none⟩)), (8, .int .i64 s95.1), (29, .int .i64 (rd x0.Shape 0)), (30, .int .i64 s95.1), (33, .int .i64 (rd x0.Shape 1)), (34, .int .i64 s109.1)] ∧ Mem [] M w0 [.bx b79 [.slice A68 r57.1.Shape.length c69, .slice A70 s109.2.length c71] 42, .ow (Kd.int .i64) 3 A68 c69 r57.1.Shape, .ow Kd.float 47 A70 c71 (put s109.2 (w64 ((w64 (s109.1 * (rd x0.Shape 0))) + s95.1)) (rd x0.Data (w64 ((w64 (s95.1 * (rd x0.Shape 1))) + s109.1)))), .bx b28 [.slice none 0 0, .slice none 0 0] 42, .bx b21 [.slice A0_0 x0.Shape.length c0_0, .slice A0_1 x0.Data.length c0_1] 42, .sl (Kd.int .i64) A0_0 c0_0 x0.Shape, .sl Kd.float A0_1 c0_1 x0.Data] w) ?_ ?_
            · refine anyG [17] (by kernel_rfl) fun w131 hg132 => ?_
              have hm133 : Mem [] M w0 [.bx b79 [.slice A68 r57.1.Shape.length c69, .slice A70 s109.2.length c71] 42, .ow (Kd.int .i64) 3 A68 c69 r57.1.Shape, .ow Kd.float 47 A70 c71 s109.2, .bx b28 [.slice none 0 0, .slice none 0 0] 42, .bx b21 [.slice A0_0 x0.Shape.length c0_0, .slice A0_1 x0.Data.length c0_1] 42, .sl (Kd.int .i64) A0_0 c0_0 x0.Shape, .sl Kd.float A0_1 c0_1 x0.Data] w131 := hm115.still hg132
              have q144 := (hm133.slAt 6 rfl).float (w64 ((w64 (s95.1 * (rd x0.Shape 1))) + s109.1)) g121.1 g121.2
              obtain ⟨b145, hb145, kb145⟩ := q144.2
              have q146 := (hm133.owAt 2 rfl).float (w64 ((w64 (s109.1 * (rd x0.Shape 0))) + s95.1)) g122.1 g122.2
              obtain ⟨b147, hb147, kb147⟩ := q146.2
              refine quiet0 [0, 1, 2, 3, 4, 5, 6, 7, 8, 9, 10, 11, 12, 13, 14, 15, 16] [.slice A70 s109.2.length c71, .slice A0_1 x0.Data.length c0_1, .float .f64 b145] [1, 2, 4, 5, 6, 8, 29, 30, 33, 34, 52, 53] #[true, true, true, true, true, true, true, true, true, true, true, true, true, true, true, true, true, false] [(1, .pointer (some ⟨b21, 0, none⟩)), (2, .pointer (some ⟨b28, 0, none⟩)), (4, .int .i64 (rd x0.Shape 0)), (5, .int .i64 (rd x0.Shape 1)), (6, .pointer (some ⟨b79, 0, none⟩)), (8, .int .i64 s95.1), (29, .int .i64 (rd x0.Shape 0)), (30, .int .i64 s95.1), (33, .int .i64 (rd x0.Shape 1)), (34, .int .i64 s109.1), (52, .float .f64 b145), (53, .pointer (some ((ad A70).add (((w64 ((w64 (s109.1 * (rd x0.Shape 0))) + s95.1))).toNat * 1))))] [.cell ⟨b79, 1, none⟩ (.slice A70 s109.2.length c71), .cell ⟨b21, 1, none⟩ (.slice A0_1 x0.Data.length c0_1), .is (Option.isSome A0_1 = true), .is (0 ≤ (w64 ((w64 (s95.1 * (rd x0.Shape 1))) + s109.1)) ∧ (w64 ((w64 (s95.1 * (rd x0.Shape 1))) + s109.1)) < (x0.Data.length : Int)), .cell ((ad A0_1).add (((w64 ((w64 (s95.1 * (rd x0.Shape 1))) + s109.1))).toNat * 1)) (.float .f64 b145), .is (Option.isSome A70 = true), .is (0 ≤ (w64 ((w64 (s109.1 * (rd x0.Shape 0))) + s95.1)) ∧ (w64 ((w64 (s109.1 * (rd x0.Shape 0))) + s95.1)) < (s109.2.length : Int))] 1 rfl (by kernel_rfl) (fun _ _ _ _ _ h => nomatch h.1) hf120 (by kernel_rfl) ⟨(hm133.cell 0 rfl rfl), (hm133.cell 4 rfl rfl), q144.1, g121, kb145, q146.1, g122, trivial⟩ fun a148 hf149 => ?_
              refine all1 17 (by kernel_rfl) ?_
              refine opOf hf149 rfl (by kernel_rfl) (aStoreO (kd := Kd.float) (base := 0) (E := 47) (A := A70) (c := c71) (xs := s109.2) (i := (w64 ((w64 (s109.1 * (rd x0.Shape 0))) + s95.1))) (x := (rd x0.Data (w64 ((w64 (s95.1 * (rd x0.Shape 1))) + s109.1)))) (us := [.float .f64 b145]) (sz := 1) hf149 (by kernel_rfl) rfl (by kernel_rfl) (hm133.at 2 rfl) ⟨_, rfl, hb145⟩ g122.1 g122.2 ?_)
              intro w150 hx151 hg152
              refine ⟨.inl (by decide), ?_⟩
              have hm153 : Mem [] M w0 [.bx b79 [.slice A68 r57.1.Shape.length c69, .slice A70 s109.2.length c71] 42, .ow (Kd.int .i64) 3 A68 c69 r57.1.Shape, .ow Kd.float 47 A70 c71 (put s109.2 (w64 ((w64 (s109.1 * (rd x0.Shape 0))) + s95.1)) (rd x0.Data (w64 ((w64 (s95.1 * (rd x0.Shape 1))) + s109.1)))), .bx b28 [.slice none 0 0, .slice none 0 0] 42, .bx b21 [.slice A0_0 x0.Shape.length c0_0, .slice A0_1 x0.Data.length c0_1] 42, .sl (Kd.int .i64) A0_0 c0_0 x0.Shape, .sl Kd.float A0_1 c0_1 x0.Data] w150 := hm133.setOwn 2 _ rfl rfl hx151 hg152 (.inl rfl)
              refine allDone (by kernel_rfl) ⟨rfl, hf149.sel (l := [1, 2, 4, 5, 6, 8, 29, 30, 33, 34]) (by kernel_rfl), hm153.sel [0, 1, 2, 3, 4, 5, 6] _ rfl (by kernel_rfl)⟩
            rintro a154 w155 ⟨hf156, hm157⟩
            refine blkN ?_
            refine thenN ?_
            refine reg [] [1, 2, 4, 5, 6, 8, 29, 30, 33, 34] [(1, .pointer (some ⟨b21, 0, none⟩)), (2, .pointer (some ⟨b28, 0, none⟩)), (4, .int .i64 (rd x0.Shape 0)), (5, .int .i64 (rd x0.Shape 1)), (6, .pointer (some ⟨b79, 0, none⟩)), (8, .int .i64 s95.1), (29, .int .i64 (rd x0.Shape 0)), (30, .int .i64 s95.1), (33, .int .i64 (rd x0.Shape 1)), (34, .int .i64 (w64 (s109.1 + 1)))] [] hf156 (by kernel_rfl) trivial fun a158 hf159 => ?_
            have hf160 : Fr 57 a158 [(1, .pointer (some ⟨b21, 0, none⟩)), (2, .pointer (some ⟨b28, 0, none⟩)), (4, .int .i64 (rd x0.Shape 0)), (5, .int .i64 (rd x0.Shape 1)), (6, .pointer (some ⟨b79, 0, none⟩)), (8, .int .i64 s95.1), (29, .int .i64 (rd x0.Shape 0)), (30, .int .i64 s95.1), (33, .int .i64 (rd x0.Shape 1)), (34, .int .i64 (w64 (s109.1 + 1)))] := hf159.sel (l := [1, 2, 4, 5, 6, 8, 29, 30, 33, 34]) (by kernel_rfl)
            have hm161 : Mem [] M w0 [.bx b79 [.slice A68 r57.1.Shape.length c69, .slice A70 s109.2.length c71] 42, .ow (Kd.int .i64) 3 A68 c69 r57.1.Shape, .ow Kd.float 47 A70 c71 (put s109.2 (w64 ((w64 (s109.1 * (rd x0.Shape 0))) + s95.1)) (rd x0.Data (w64 ((w64 (s95.1 * (rd x0.Shape 1))) + s109.1)))), .bx b28 [.slice none 0 0, .slice none 0 0] 42, .bx b21 [.slice A0_0 x0.Shape.length c0_0, .slice A0_1 x0.Data.length c0_1] 42, .sl (Kd.int .i64) A0_0 c0_0 x0.Shape, .sl Kd.float A0_1 c0_1 x0.Data] w155 := hm157.sel [0, 1, 2, 3, 4, 5, 6] _ rfl (by kernel_rfl)
            exact ⟨((w64 (s109.1 + 1)), (put s109.2 (w64 ((w64 (s109.1 * (rd x0.Shape 0))) + s95.1)) (rd x0.Data (w64 ((w64 (s95.1 * (rd x0.Shape 1))) + s109.1))))), H2, (by simpa only [put_length, List.length_nil] using hf160), (by simpa only [put_length, List.length_nil] using hm161)⟩
          · refine reg [.bool false] [1, 2, 4, 5, 6, 8, 29, 30, 33, 34, 35] [(1, .pointer (some ⟨b21, 0, none⟩)), (2, .pointer (some ⟨b28, 0, none⟩)), (4, .int .i64 (rd x0.Shape 0)), (5, .int .i64 (rd x0.Shape 1)), (6, .pointer (some ⟨b79, 0, none⟩)), (8, .int .i64 s95.1), (29, .int .i64 (rd x0.Shape 0)), (30, .int .i64 s95.1), (33, .int .i64 (rd x0.Shape 1)), (34, .int .i64 s109.1), (35, .bool false)] [.is (decide (s109.1 < (rd x0.Shape 1)) = false)] hf114 (by kernel_rfl) ⟨(decide_eq_false c116), trivial⟩ fun a162 hf163 => ?_
            refine thenN ?_
            refine wp_seq ?_
            refine condF hf163 (by kernel_rfl) ?_
            refine wp_exit ?_
            refine thenE ?_
            refine thenE ?_
            obtain rfl := Option.some.inj H2
            exact .inl ⟨rfl, hf163.sel (l := [1, 2, 4, 5, 6, 8, 29, 30, 33, 34]) (by kernel_rfl), hm115.sel [0, 1, 2, 3, 4, 5, 6] _ rfl (by kernel_rfl)⟩
        rintro a164 w165 ⟨hf166, hm167⟩
        refine blkN ?_
        refine thenN ?_
        refine reg [] [1, 2, 4, 5, 6, 29, 30] [(1, .pointer (some ⟨b21, 0, none⟩)), (2, .pointer (some ⟨b28, 0, none⟩)), (4, .int .i64 (rd x0.Shape 0)), (5, .int .i64 (rd x0.Shape 1)), (6, .pointer (some ⟨b79, 0, none⟩)), (29, .int .i64 (rd x0.Shape 0)), (30, .int .i64 (w64 (s95.1 + 1)))] [] hf166 (by kernel_rfl) trivial fun a168 hf169 => ?_
        exact ⟨((w64 (s95.1 + 1)), r110.2), H1, hf169.sel (l := [1, 2, 4, 5, 6, 29, 30]) (by kernel_rfl), hm167.sel [0, 1, 2, 3, 4, 5, 6] _ rfl (by kernel_rfl)⟩
      · refine reg [.bool false] [1, 2, 4, 5, 6, 29, 30, 31] [(1, .pointer (some ⟨b21, 0, none⟩)), (2, .pointer (some ⟨b28, 0, none⟩)), (4, .int .i64 (rd x0.Shape 0)), (5, .int .i64 (rd x0.Shape 1)), (6, .pointer (some ⟨b79, 0, none⟩)), (29, .int .i64 (rd x0.Shape 0)), (30, .int .i64 s95.1), (31, .bool false)] [.is (decide (s95.1 < (rd x0.Shape 0)) = false)] hf100 (by kernel_rfl) ⟨(decide_eq_false c102), trivial⟩ fun a170 hf171 => ?_
        refine thenN ?_
        refine wp_seq ?_
        refine condF hf171 (by kernel_rfl) ?_
        refine wp_exit ?_
        refine thenE ?_
        refine thenE ?_
        obtain rfl := Option.some.inj H1
        exact .inl ⟨rfl, hf171.sel (l := [1, 2, 4, 5, 6, 29, 30]) (by kernel_rfl), hm101.sel [0, 1, 2, 3, 4, 5, 6] _ rfl (by kernel_rfl)⟩
    rintro a172 w173 ⟨hf174, hm175⟩
    refine thenN ?_
    refine wp_seq ?_
    refine inReg ?_
    refine go 1 [.agg #[.slice A68 r57.1.Shape.length c69, .slice A70 r96.2.length c71]] [2, 56] [(2, .pointer (some ⟨b28, 0, none⟩)), (56, .agg #[.slice A68 r57.1.Shape.length c69, .slice A70 r96.2.length c71])] [.cell ⟨b79, 0, none⟩ (.slice A68 r57.1.Shape.length c69), .cell ⟨b79, 1, none⟩ (.slice A70 r96.2.length c71)] hf174 (by kernel_rfl) ⟨(hm175.cell 0 rfl rfl), (hm175.cell 0 rfl rfl), trivial⟩ fun a176 hf177 => ?_
    refine listOf hf177 rfl (by kernel_rfl) (aStoreB (b := b28) (j := 0) (T := 42) (cs := [.slice none 0 0, .slice none 0 0]) (us := [.slice A68 r57.1.Shape.length c69, .slice A70 r96.2.length c71]) (cs' := [.slice A68 r57.1.Shape.length c69, .slice A70 r96.2.length c71]) hf177 (by kernel_rfl) (hm175.bxAt 3 rfl) (by kernel_rfl) (by kernel_rfl) (by kernel_rfl) ?_)
    intro w178 hx179 hg180
    have hm181 : Mem [] M w0 [.bx b79 [.slice A68 r57.1.Shape.length c69, .slice A70 r96.2.length c71] 42, .ow (Kd.int .i64) 3 A68 c69 r57.1.Shape, .ow Kd.float 47 A70 c71 r96.2, .bx b28 [.slice A68 r57.1.Shape.length c69, .slice A70 r96.2.length c71] 42, .bx b21 [.slice A0_0 x0.Shape.length c0_0, .slice A0_1 x0.Data.length c0_1] 42, .sl (Kd.int .i64) A0_0 c0_0 x0.Shape, .sl Kd.float A0_1 c0_1 x0.Data] w178 := hm175.setBox 3 _ rfl rfl hx179 hg180
    refine go 1 [] [2, 3] [(2, .pointer (some ⟨b28, 0, none⟩)), (3, .int .i64 0)] [] hf177 (by kernel_rfl) trivial fun a182 hf183 => ?_
    refine endL rfl ?_
    have hm184 : Mem [] M w0 [.ow (Kd.int .i64) 3 A68 c69 r57.1.Shape, .ow Kd.float 47 A70 c71 r96.2, .bx b28 [.slice A68 r57.1.Shape.length c69, .slice A70 r96.2.length c71] 42] w178 := hm181.sel [1, 2, 3] _ rfl (by kernel_rfl)
    refine thenN ?_
    refine wp_ret ?_
    have hm185 : Mem [] M w0 [.ow (Kd.int .i64) 3 A68 c69 r57.1.Shape, .ow Kd.float 47 A70 c71 r96.2] w178 := hm184.sel [0, 1] _ rfl (by kernel_rfl)
    obtain rfl := Option.some.inj H0
    refine ret [.agg #[.slice A68 r57.1.Shape.length c69, .slice A70 r96.2.length c71]] [.agg #[.slice A68 r57.1.Shape.length c69, .slice A70 r96.2.length c71], .int .i64 0] [.cell ⟨b28, 0, none⟩ (.slice A68 r57.1.Shape.length c69), .cell ⟨b28, 1, none⟩ (.slice A70 r96.2.length c71)] hf183 (by kernel_rfl) ⟨(hm184.cell 2 rfl rfl), (hm184.cell 2 rfl rfl), trivial⟩ ?_
    exact ⟨_, rfl, A68, c69, A70, c71, rfl, hm185⟩
  · refine inReg ?_
    refine go 1 [.agg #[.slice A0_0 x0.Shape.length c0_0, .slice A0_1 x0.Data.length c0_1]] [1, 2, 10] [(1, .pointer (some ⟨b21, 0, none⟩)), (2, .pointer (some ⟨b28, 0, none⟩)), (10, .agg #[.slice A0_0 x0.Shape.length c0_0, .slice A0_1 x0.Data.length c0_1])] [.cell ⟨b21, 0, none⟩ (.slice A0_0 x0.Shape.length c0_0), .cell ⟨b21, 1, none⟩ (.slice A0_1 x0.Data.length c0_1)] hf36 (by kernel_rfl) ⟨(hm34.cell 1 rfl rfl), (hm34.cell 1 rfl rfl), trivial⟩ fun a187 hf188 => ?_
    refine listOf hf188 rfl (by kernel_rfl) (aCall (fid := 53) (args := [.agg #[.slice A0_0 x0.Shape.length c0_0, .slice A0_1 x0.Data.length c0_1]]) (d := 11) hf188 (by kernel_rfl) (by kernel_rfl) callable53 (matrix_flat.calls _ _ x0 A0_0 x0.Shape.length c0_0 rfl A0_1 x0.Data.length c0_1 rfl (hm34.give [2, 3] [.sl (Kd.int .i64) A0_0 c0_0 x0.Shape, .sl Kd.float A0_1 c0_1 x0.Data] rfl rfl) r37 hr37) ?_)
    rintro _ w189 a190 ⟨rfl, hk192⟩ hf191
    have hm193 : Mem [] M w0 [.bx b28 [.slice none 0 0, .slice none 0 0] 42, .bx b21 [.slice A0_0 x0.Shape.length c0_0, .slice A0_1 x0.Data.length c0_1] 42, .sl (Kd.int .i64) A0_0 c0_0 x0.Shape, .sl Kd.float A0_1 c0_1 x0.Data] w189 := hm34.still hk192.cum.none
    rw [c38] at hf191
    refine go 1 [] [1, 2, 12] [(1, .pointer (some ⟨b21, 0, none⟩)), (2, .pointer (some ⟨b28, 0, none⟩)), (12, .bool true)] [] hf191 (by kernel_rfl) trivial fun a194 hf195 => ?_
    refine endL rfl ?_
    refine thenN ?_
    refine condT hf195 (by kernel_rfl) ?_
    refine wp_seq ?_
    refine inReg ?_
    refine go 1 [] [2, 13] [(2, .pointer (some ⟨b28, 0, none⟩)), (13, .agg #[.slice none 0 0, .slice none 0 0])] [] hf195 (by kernel_rfl) trivial fun a196 hf197 => ?_
    refine listOf hf197 rfl (by kernel_rfl) (aStoreB (b := b28) (j := 0) (T := 42) (cs := [.slice none 0 0, .slice none 0 0]) (us := [.slice none 0 0, .slice none 0 0]) (cs' := [.slice none 0 0, .slice none 0 0]) hf197 (by kernel_rfl) (hm193.bxAt 0 rfl) (by kernel_rfl) (by kernel_rfl) (by kernel_rfl) ?_)
    intro w198 hx199 hg200
    have hm201 : Mem [] M w0 [.bx b28 [.slice none 0 0, .slice none 0 0] 42, .bx b21 [.slice A0_0 x0.Shape.length c0_0, .slice A0_1 x0.Data.length c0_1] 42, .sl (Kd.int .i64) A0_0 c0_0 x0.Shape, .sl Kd.float A0_1 c0_1 x0.Data] w198 := hm193.setBox 0 _ rfl rfl hx199 hg200
    refine go 1 [] [2, 3] [(2, .pointer (some ⟨b28, 0, none⟩)), (3, .int .i64 2)] [] hf197 (by kernel_rfl) trivial fun a202 hf203 => ?_
    refine endL rfl ?_
    have hm204 : Mem [] M w0 [.bx b28 [.slice none 0 0, .slice none 0 0] 42] w198 := hm201.sel [0] _ rfl (by kernel_rfl)
    refine thenN ?_
    refine wp_ret ?_
    refine thenR ?_
    have hm205 : Mem [] M w0 [.ow (Kd.int .i64) 3 none 0 ([] : (List Int)), .bx b28 [.slice none 0 0, .slice none 0 0] 42] w198 := hm204.nilOw (Kd.int .i64) 3
    have hm206 : Mem [] M w0 [.ow Kd.float 47 none 0 ([] : (List Nat)), .ow (Kd.int .i64) 3 none 0 ([] : (List Int)), .bx b28 [.slice none 0 0, .slice none 0 0] 42] w198 := hm205.nilOw Kd.float 47
    have hm207 : Mem [] M w0 [.ow (Kd.int .i64) 3 none 0 ([] : (List Int)), .ow Kd.float 47 none 0 ([] : (List Nat))] w198 := hm206.sel [1, 0] _ rfl (by kernel_rfl)
    obtain rfl := Option.some.inj H0
    refine ret [.agg #[.slice none 0 0, .slice none 0 0]] [.agg #[.slice none 0 0, .slice none 0 0], .int .i64 2] [.cell ⟨b28, 0, none⟩ (.slice none 0 0), .cell ⟨b28, 1, none⟩ (.slice none 0 0)] hf203 (by kernel_rfl) ⟨(hm204.cell 0 rfl rfl), (hm204.cell 0 rfl rfl), trivial⟩ ?_
    exact ⟨_, rfl, none, 0, none, 0, rfl, hm207⟩

/-! ### backstitch/backstitchref1.SameInts -/
noncomputable def ref1_SameInts.l0 (x0 : (List Int)) (x1 : (List Int)) (s28 : Int) : Step Int (Out2 Int Bool) :=
  if s28 < (x0.length : Int) then (if 0 ≤ s28 ∧ s28 < (x0.length : Int) then (if 0 ≤ s28 ∧ s28 < (x1.length : Int) then (if (rd x0 s28) = (rd x1 s28) then (.next (w64 (s28 + 1)))
  else (.done (.ret false)))
  else .bad)
  else .bad)
  else (.done (.go s28))
noncomputable def ref1_SameInts.f (x0 : (List Int)) (x1 : (List Int)) : Option Bool :=
  if (x0.length : Int) = (x1.length : Int) then ((loop (ref1_SameInts.l0 x0 x1) 0).bind fun r29 =>
  r29.on (fun yr29 =>
  some true) (fun y => some y))
  else (some false)
set_option maxRecDepth 100000 in
set_option maxHeartbeats 4000000 in
theorem ref1_SameInts.calls (M : List (Option Nat)) (w0 : World) (x0 : (List Int)) (A0 : Option Addr) (n0 c0 : Nat) (e0 : n0 = x0.length) (x1 : (List Int)) (A1 : Option Addr) (n1 c1 : Nat) (e1 : n1 = x1.length) (hm0 : Mem [] M w0 [.sl (Kd.int .i64) A0 c0 x0, .sl (Kd.int .i64) A1 c1 x1] w0) (r : Bool) (H0 : ref1_SameInts.f x0 x1 = some r) :
    Calls Try.prog 18 [.slice A0 n0 c0, .slice A1 n1 c1].toArray w0 (fun x w' => ∃ v, x = .returned v ∧ v = .bool r ∧ Mem [] M w0 [] w') := by
  subst e0
  subst e1
  unfold ref1_SameInts.f at H0
  refine enter (n := 26) Try.func18 rfl rfl (by kernel_rfl) fun a0 (hf0 : Fr 26 a0 [(0, .slice A0 x0.length c0), (1, .slice A1 x1.length c1)]) => ?_
  refine wp_seq ?_
  refine reg [] [0, 1] [(0, .slice A0 x0.length c0), (1, .slice A1 x1.length c1)] [] hf0 (by kernel_rfl) trivial fun a21 hf22 => ?_
  refine thenN ?_
  refine wp_seq ?_
  refine wp_seq ?_
  rcases if_split H0 with ⟨c23, H0⟩ | ⟨c23, H0⟩
  · refine reg [.bool false] [0, 1, 10] [(0, .slice A0 x0.length c0), (1, .slice A1 x1.length c1), (10, .bool false)] [.is ((((x0.length : Int) : Int) != (x1.length : Int)) = false)] hf22 (by kernel_rfl) ⟨(neF c23), trivial⟩ fun a24 hf25 => ?_
    refine thenN ?_
    refine condF hf25 (by kernel_rfl) ?_
    refine wp_skip ?_
    refine thenN ?_
    refine wp_seq ?_
    refine wp_seq ?_
    refine reg [] [0, 1, 5] [(0, .slice A0 x0.length c0), (1, .slice A1 x1.length c1), (5, .int .i64 0)] [] hf25 (by kernel_rfl) trivial fun a26 hf27 => ?_
    refine thenN ?_
    obtain ⟨r29, hr29, H0⟩ := ob_split H0
    refine wpBlock (Mid := fun (a : Act) (w : World) => ∃ yr29 : Int, r29 = .go yr29 ∧ Fr 26 a [(0, .slice A0 x0.length c0), (1, .slice A1 x1.length c1), (5, .int .i64 yr29)] ∧ Mem [] M w0 [.sl (Kd.int .i64) A0 c0 x0, .sl (Kd.int .i64) A1 c1 x1] w) ?_ ?_
    · refine wpLoop (ref1_SameInts.l0 x0 x1) r29 (fun (s28 : Int) (a : Act) (w : World) => Fr 26 a [(0, .slice A0 x0.length c0), (1, .slice A1 x1.length c1), (5, .int .i64 s28)] ∧ Mem [] M w0 [.sl (Kd.int .i64) A0 c0 x0, .sl (Kd.int .i64) A1 c1 x1] w) 0 hr29 ⟨hf27.sel (l := [0, 1, 5]) (by kernel_rfl), hm0.sel [0, 1] _ rfl (by kernel_rfl)⟩ ?_
      rintro g30 s28 a31 w32 H1 ⟨hf33, hm34⟩
      unfold ref1_SameInts.l0 at H1
      refine wp_seq ?_
      refine wp_seq ?_
      rcases ifS_split H1 with ⟨c35, H1⟩ | ⟨c35, H1⟩
      · refine reg [.bool true] [0, 1, 5, 14] [(0, .slice A0 x0.length c0), (1, .slice A1 x1.length c1), (5, .int .i64 s28), (14, .bool true)] [.is (decide (s28 < (x0.length : Int)) = true)] hf33 (by kernel_rfl) ⟨(decide_eq_true c35), trivial⟩ fun a36 hf37 => ?_
        refine thenN ?_
        refine condT hf37 (by kernel_rfl) ?_
        refine wp_skip ?_
        refine thenN ?_
        refine wp_seq ?_
        refine wp_block ?_
        refine wp_seq ?_
        obtain ⟨g38, H1⟩ := ifS_guard H1
        obtain ⟨g39, H1⟩ := ifS_guard H1
        rcases ifS_split H1 with ⟨c40, H1⟩ | ⟨c40, H1⟩
        · have q41 := (hm34.slAt 0 rfl).int s28 g38.1 g38.2
          have q42 := (hm34.slAt 1 rfl).int s28 g39.1 g39.2
          refine regQ [.int .i64 (rd x0 s28), .int .i64 (rd x1 s28), .bool false] [0, 1, 5, 25] [(0, .slice A0 x0.length c0), (1, .slice A1 x1.length c1), (5, .int .i64 s28), (25, .bool false)] [.is (Option.isSome A0 = true), .is (0 ≤ s28 ∧ s28 < (x0.length : Int)), .cell ((ad A0).add ((s28).toNat * 1)) (.int .i64 (rd x0 s28)), .is (Option.isSome A1 = true), .is (0 ≤ s28 ∧ s28 < (x1.length : Int)), .cell ((ad A1).add ((s28).toNat * 1)) (.int .i64 (rd x1 s28)), .is ((((rd x0 s28) : Int) != (rd x1 s28)) = false)] (by kernel_rfl) (by kernel_rfl) hf37 (by kernel_rfl) ⟨q41.1, g38, q41.2, q42.1, g39, q42.2, (neF c40), trivial⟩ fun a43 w45 hf44 hg46 => ?_
          have hm47 : Mem [] M w0 [.sl (Kd.int .i64) A0 c0 x0, .sl (Kd.int .i64) A1 c1 x1] w45 := hm34.still hg46
          refine thenN ?_
          refine condF hf44 (by kernel_rfl) ?_
          refine wp_skip ?_
          refine blkN ?_
          refine thenN ?_
          refine reg [] [0, 1, 5] [(0, .slice A0 x0.length c0), (1, .slice A1 x1.length c1), (5, .int .i64 (w64 (s28 + 1)))] [] hf44 (by kernel_rfl) trivial fun a48 hf49 => ?_
          exact ⟨(w64 (s28 + 1)), H1, hf49.sel (l := [0, 1, 5]) (by kernel_rfl), hm47.sel [0, 1] _ rfl (by kernel_rfl)⟩
        · have q50 := (hm34.slAt 0 rfl).int s28 g38.1 g38.2
          have q51 := (hm34.slAt 1 rfl).int s28 g39.1 g39.2
          refine regQ [.int .i64 (rd x0 s28), .int .i64 (rd x1 s28), .bool true] [0, 1, 5, 25] [(0, .slice A0 x0.length c0), (1, .slice A1 x1.length c1), (5, .int .i64 s28), (25, .bool true)] [.is (Option.isSome A0 = true), .is (0 ≤ s28 ∧ s28 < (x0.length : Int)), .cell ((ad A0).add ((s28).toNat * 1)) (.int .i64 (rd x0 s28)), .is (Option.isSome A1 = true), .is (0 ≤ s28 ∧ s28 < (x1.length : Int)), .cell ((ad A1).add ((s28).toNat * 1)) (.int .i64 (rd x1 s28)), .is ((((rd x0 s28) : Int) != (rd x1 s28)) = true)] (by kernel_rfl) (by kernel_rfl) hf37 (by kernel_rfl) ⟨q50.1, g38, q50.2, q51.1, g39, q51.2, (neT c40), trivial⟩ fun a52 w54 hf53 hg55 => ?_
          have hm56 : Mem [] M w0 [.sl (Kd.int .i64) A0 c0 x0, .sl (Kd.int .i64) A1 c1 x1] w54 := hm34.still hg55
          refine thenN ?_
          refine condT hf53 (by kernel_rfl) ?_
          refine wp_seq ?_
          refine reg [] [4] [(4, .bool false)] [] hf53 (by kernel_rfl) trivial fun a57 hf58 => ?_
          have hm59 : Mem [] M w0 [] w54 := hm56.sel [] _ rfl (by kernel_rfl)
          refine thenN ?_
          refine wp_ret ?_
          refine blkR ?_
          refine thenR ?_
          refine thenR ?_
          refine .inr ⟨rfl, ?_⟩
          refine thenR ?_
          have hm60 : Mem [] M w0 [] w54 := hm59.sel [] _ rfl (by kernel_rfl)
          obtain rfl := Option.some.inj H1
          obtain rfl := Option.some.inj H0
          refine ret [] [.bool false] [] hf58 (by kernel_rfl) trivial ?_
          exact ⟨_, rfl, rfl, hm60⟩
      · refine reg [.bool false] [0, 1, 5, 14] [(0, .slice A0 x0.length c0), (1, .slice A1 x1.length c1), (5, .int .i64 s28), (14, .bool false)] [.is (decide (s28 < (x0.length : Int)) = false)] hf33 (by kernel_rfl) ⟨(decide_eq_false c35), trivial⟩ fun a62 hf63 => ?_
        refine thenN ?_
        refine condF hf63 (by kernel_rfl) ?_
        refine wp_exit ?_
        refine thenE ?_
        refine thenE ?_
        obtain rfl := Option.some.inj H1
        exact .inl ⟨rfl, s28, rfl, hf63.sel (l := [0, 1, 5]) (by kernel_rfl), hm34.sel [0, 1] _ rfl (by kernel_rfl)⟩
    rintro a65 w66 ⟨yr29, rfl, hf67, hm68⟩
    refine thenN ?_
    refine wp_seq ?_
    refine reg [] [4] [(4, .bool true)] [] hf67 (by kernel_rfl) trivial fun a69 hf70 => ?_
    have hm71 : Mem [] M w0 [] w66 := hm68.sel [] _ rfl (by kernel_rfl)
    refine thenN ?_
    refine wp_ret ?_
    have hm72 : Mem [] M w0 [] w66 := hm71.sel [] _ rfl (by kernel_rfl)
    obtain rfl := Option.some.inj H0
    refine ret [] [.bool true] [] hf70 (by kernel_rfl) trivial ?_
    exact ⟨_, rfl, rfl, hm72⟩
  · refine reg [.bool true] [0, 1, 10] [(0, .slice A0 x0.length c0), (1, .slice A1 x1.length c1), (10, .bool true)] [.is ((((x0.length : Int) : Int) != (x1.length : Int)) = true)] hf22 (by kernel_rfl) ⟨(neT c23), trivial⟩ fun a74 hf75 => ?_
    refine thenN ?_
    refine condT hf75 (by kernel_rfl) ?_
    refine wp_seq ?_
    refine reg [] [4] [(4, .bool false)] [] hf75 (by kernel_rfl) trivial fun a76 hf77 => ?_
    have hm78 : Mem [] M w0 [] w0 := hm0.sel [] _ rfl (by kernel_rfl)
    refine thenN ?_
    refine wp_ret ?_
    refine thenR ?_
    have hm79 : Mem [] M w0 [] w0 := hm78.sel [] _ rfl (by kernel_rfl)
    obtain rfl := Option.some.inj H0
    refine ret [] [.bool false] [] hf77 (by kernel_rfl) trivial ?_
    exact ⟨_, rfl, rfl, hm79⟩

/-! ### backstitch/backstitchlaw5.equal -/
noncomputable def law5_equal.l0 (x0 : Tensor) (x1 : Tensor) (s51 : Int) : Step Int (Out2 Int Bool) :=
  if s51 < (x0.Data.length : Int) then (if 0 ≤ s51 ∧ s51 < (x0.Data.length : Int) then (if 0 ≤ s51 ∧ s51 < (x1.Data.length : Int) then (if (fne (rd x0.Data s51) (rd x1.Data s51)) = true then (.done (.ret false))
  else (.next (w64 (s51 + 1))))
  else .bad)
  else .bad)
  else (.done (.go s51))
noncomputable def law5_equal.f (x0 : Tensor) (x1 : Tensor) : Option Bool :=
  (ref1_SameInts.f x0.Shape x1.Shape).bind fun r37 =>
  if r37 = true then (if (x0.Data.length : Int) = (x1.Data.length : Int) then ((loop (law5_equal.l0 x0 x1) 0).bind fun r52 =>
  r52.on (fun yr52 =>
  some true) (fun y => some y))
  else (some false))
  else (some false)
set_option maxRecDepth 100000 in
set_option maxHeartbeats 4000000 in
theorem law5_equal.calls (M : List (Option Nat)) (w0 : World) (x0 : Tensor) (A0_0 : Option Addr) (n0_0 c0_0 : Nat) (e0_0 : n0_0 = x0.Shape.length) (A0_1 : Option Addr) (n0_1 c0_1 : Nat) (e0_1 : n0_1 = x0.Data.length) (x1 : Tensor) (A1_0 : Option Addr) (n1_0 c1_0 : Nat) (e1_0 : n1_0 = x1.Shape.length) (A1_1 : Option Addr) (n1_1 c1_1 : Nat) (e1_1 : n1_1 = x1.Data.length) (hm0 : Mem [] M w0 [.sl (Kd.int .i64) A0_0 c0_0 x0.Shape, .sl Kd.float A0_1 c0_1 x0.Data, .sl (Kd.int .i64) A1_0 c1_0 x1.Shape, .sl Kd.float A1_1 c1_1 x1.Data] w0) (r : Bool) (H0 : law5_equal.f x0 x1 = some r) :
    Calls Try.prog 38 [.agg #[.slice A0_0 n0_0 c0_0, .slice A0_1 n0_1 c0_1], .agg #[.slice A1_0 n1_0 c1_0, .slice A1_1 n1_1 c1_1]].toArray w0 (fun x w' => ∃ v, x = .returned v ∧ v = .bool r ∧ Mem [] M w0 [] w') := by
  subst e0_0
  subst e0_1
  subst e1_0
  subst e1_1
  unfold law5_equal.f at H0
  refine enter (n := 39) Try.func38 rfl rfl (by kernel_rfl) fun a0 (hf0 : Fr 39 a0 [(0, .agg #[.slice A0_0 x0.Shape.length c0_0, .slice A0_1 x0.Data.length c0_1]), (1, .agg #[.slice A1_0 x1.Shape.length c1_0, .slice A1_1 x1.Data.length c1_1])]) => ?_
  refine wp_seq ?_
  refine inReg ?_
  refine listOf hf0 rfl (by kernel_rfl) (aNew (cs := [.slice A0_0 x0.Shape.length c0_0, .slice A0_1 x0.Data.length c0_1]) (T := 42) (d := 2) hf0 (by kernel_rfl) (by kernel_rfl) ?_)
  intro b21 w22 a23 hbb21 hx25 hg26 hf24
  have hm27 : Mem [] M w0 [.bx b21 [.slice A0_0 x0.Shape.length c0_0, .slice A0_1 x0.Data.length c0_1] 42, .sl (Kd.int .i64) A0_0 c0_0 x0.Shape, .sl Kd.float A0_1 c0_1 x0.Data, .sl (Kd.int .i64) A1_0 c1_0 x1.Shape, .sl Kd.float A1_1 c1_1 x1.Data] w22 := hm0.box hbb21 hx25 hg26
  refine listOf hf24 rfl (by kernel_rfl) (aNew (cs := [.slice A1_0 x1.Shape.length c1_0, .slice A1_1 x1.Data.length c1_1]) (T := 42) (d := 3) hf24 (by kernel_rfl) (by kernel_rfl) ?_)
  intro b28 w29 a30 hbb28 hx32 hg33 hf31
  have hm34 : Mem [] M w0 [.bx b28 [.slice A1_0 x1.Shape.length c1_0, .slice A1_1 x1.Data.length c1_1] 42, .bx b21 [.slice A0_0 x0.Shape.length c0_0, .slice A0_1 x0.Data.length c0_1] 42, .sl (Kd.int .i64) A0_0 c0_0 x0.Shape, .sl Kd.float A0_1 c0_1 x0.Data, .sl (Kd.int .i64) A1_0 c1_0 x1.Shape, .sl Kd.float A1_1 c1_1 x1.Data] w29 := hm27.box hbb28 hx32 hg33
  refine go 1 [] [2, 3] [(2, .pointer (some ⟨b21, 0, none⟩)), (3, .pointer (some ⟨b28, 0, none⟩))] [] hf31 (by kernel_rfl) trivial fun a35 hf36 => ?_
  refine endL rfl ?_
  refine thenN ?_
  refine wp_seq ?_
  refine wp_seq ?_
  obtain ⟨r37, hr37, H0⟩ := ob_split H0
  rcases ifb_split H0 with ⟨c38, H0⟩ | ⟨c38, H0⟩
  · rcases if_split H0 with ⟨c39, H0⟩ | ⟨c39, H0⟩
    · refine inReg ?_
      refine go 4 [.slice A0_0 x0.Shape.length c0_0, .slice A1_0 x1.Shape.length c1_0] [2, 3, 7, 9] [(2, .pointer (some ⟨b21, 0, none⟩)), (3, .pointer (some ⟨b28, 0, none⟩)), (7, .slice A0_0 x0.Shape.length c0_0), (9, .slice A1_0 x1.Shape.length c1_0)] [.cell ⟨b21, 0, none⟩ (.slice A0_0 x0.Shape.length c0_0), .cell ⟨b28, 0, none⟩ (.slice A1_0 x1.Shape.length c1_0)] hf36 (by kernel_rfl) ⟨(hm34.cell 1 rfl rfl), (hm34.cell 0 rfl rfl), trivial⟩ fun a40 hf41 => ?_
      refine listOf hf41 rfl (by kernel_rfl) (aCall (fid := 18) (args := [.slice A0_0 x0.Shape.length c0_0, .slice A1_0 x1.Shape.length c1_0]) (d := 10) hf41 (by kernel_rfl) (by kernel_rfl) callable18 (ref1_SameInts.calls _ _ x0.Shape A0_0 x0.Shape.length c0_0 rfl x1.Shape A1_0 x1.Shape.length c1_0 rfl (hm34.give [2, 4] [.sl (Kd.int .i64) A0_0 c0_0 x0.Shape, .sl (Kd.int .i64) A1_0 c1_0 x1.Shape] rfl rfl) r37 hr37) ?_)
      rintro _ w42 a43 ⟨rfl, hk45⟩ hf44
      have hm46 : Mem [] M w0 [.bx b28 [.slice A1_0 x1.Shape.length c1_0, .slice A1_1 x1.Data.length c1_1] 42, .bx b21 [.slice A0_0 x0.Shape.length c0_0, .slice A0_1 x0.Data.length c0_1] 42, .sl (Kd.int .i64) A0_0 c0_0 x0.Shape, .sl Kd.float A0_1 c0_1 x0.Data, .sl (Kd.int .i64) A1_0 c1_0 x1.Shape, .sl Kd.float A1_1 c1_1 x1.Data] w42 := hm34.still hk45.cum.none
      rw [c38] at hf44
      refine go 10 [.slice A0_1 x0.Data.length c0_1, .slice A1_1 x1.Data.length c1_1, .bool false] [2, 3, 20] [(2, .pointer (some ⟨b21, 0, none⟩)), (3, .pointer (some ⟨b28, 0, none⟩)), (20, .bool false)] [.cell ⟨b21, 1, none⟩ (.slice A0_1 x0.Data.length c0_1), .cell ⟨b28, 1, none⟩ (.slice A1_1 x1.Data.length c1_1), .is ((((x0.Data.length : Int) : Int) != (x1.Data.length : Int)) = false)] hf44 (by kernel_rfl) ⟨(hm46.cell 1 rfl rfl), (hm46.cell 0 rfl rfl), (neF c39), trivial⟩ fun a47 hf48 => ?_
      refine endL rfl ?_
      refine thenN ?_
      refine condF hf48 (by kernel_rfl) ?_
      refine wp_skip ?_
      refine thenN ?_
      refine wp_seq ?_
      refine wp_seq ?_
      refine reg [] [2, 3, 5] [(2, .pointer (some ⟨b21, 0, none⟩)), (3, .pointer (some ⟨b28, 0, none⟩)), (5, .int .i64 0)] [] hf48 (by kernel_rfl) trivial fun a49 hf50 => ?_
      refine thenN ?_
      obtain ⟨r52, hr52, H0⟩ := ob_split H0
      refine wpBlock (Mid := fun (a : Act) (w : World) => ∃ yr52 : Int, r52 = .go yr52 ∧ Fr 39 a [(2, .pointer (some ⟨b21, 0, none⟩)), (3, .pointer (some ⟨b28, 0, none⟩)), (5, .int .i64 yr52)] ∧ Mem [] M w0 [.bx b28 [.slice A1_0 x1.Shape.length c1_0, .slice A1_1 x1.Data.length c1_1] 42, .bx b21 [.slice A0_0 x0.Shape.length c0_0, .slice A0_1 x0.Data.length c0_1] 42, .sl (Kd.int .i64) A0_0 c0_0 x0.Shape, .sl Kd.float A0_1 c0_1 x0.Data, .sl (Kd.int .i64) A1_0 c1_0 x1.Shape, .sl Kd.float A1_1 c1_1 x1.Data] w) ?_ ?_
      · refine wpLoop (law5_equal.l0 x0 x1) r52 (fun (s51 : Int) (a : Act) (w : World) => Fr 39 a [(2, .pointer (some ⟨b21, 0, none⟩)), (3, .pointer (some ⟨b28, 0, none⟩)), (5, .int .i64 s51)] ∧ Mem [] M w0 [.bx b28 [.slice A1_0 x1.Shape.length c1_0, .slice A1_1 x1.Data.length c1_1] 42, .bx b21 [.slice A0_0 x0.Shape.length c0_0, .slice A0_1 x0.Data.length c0_1] 42, .sl (Kd.int .i64) A0_0 c0_0 x0.Shape, .sl Kd.float A0_1 c0_1 x0.Data, .sl (Kd.int .i64) A1_0 c1_0 x1.Shape, .sl Kd.float A1_1 c1_1 x1.Data] w) 0 hr52 ⟨hf50.sel (l := [2, 3, 5]) (by kernel_rfl), hm46.sel [0, 1, 2, 3, 4, 5] _ rfl (by kernel_rfl)⟩ ?_
        rintro g53 s51 a54 w55 H1 ⟨hf56, hm57⟩
        unfold law5_equal.l0 at H1
        refine wp_seq ?_
        refine wp_seq ?_
        rcases ifS_split H1 with ⟨c58, H1⟩ | ⟨c58, H1⟩
        · refine reg [.slice A0_1 x0.Data.length c0_1, .bool true] [2, 3, 5, 25] [(2, .pointer (some ⟨b21, 0, none⟩)), (3, .pointer (some ⟨b28, 0, none⟩)), (5, .int .i64 s51), (25, .bool true)] [.cell ⟨b21, 1, none⟩ (.slice A0_1 x0.Data.length c0_1), .is (decide (s51 < (x0.Data.length : Int)) = true)] hf56 (by kernel_rfl) ⟨(hm57.cell 1 rfl rfl), (decide_eq_true c58), trivial⟩ fun a59 hf60 => ?_
          refine thenN ?_
          refine condT hf60 (by kernel_rfl) ?_
          refine wp_skip ?_
          refine thenN ?_
          refine wp_seq ?_
          refine wp_block ?_
          refine wp_seq ?_
          obtain ⟨g61, H1⟩ := ifS_guard H1
          obtain ⟨g62, H1⟩ := ifS_guard H1
          rcases ifbS_split H1 with ⟨c63, H1⟩ | ⟨c63, H1⟩
          · have q65 := (hm57.slAt 3 rfl).float s51 g61.1 g61.2
            obtain ⟨b66, hb66, kb66⟩ := q65.2
            have q67 := (hm57.slAt 5 rfl).float s51 g62.1 g62.2
            obtain ⟨b68, hb68, kb68⟩ := q67.2
            refine regQ [.slice A0_1 x0.Data.length c0_1, .float .f64 b66, .slice A1_1 x1.Data.length c1_1, .float .f64 b68, .bool true] [2, 3, 5, 38] [(2, .pointer (some ⟨b21, 0, none⟩)), (3, .pointer (some ⟨b28, 0, none⟩)), (5, .int .i64 s51), (38, .bool true)] [.cell ⟨b21, 1, none⟩ (.slice A0_1 x0.Data.length c0_1), .is (Option.isSome A0_1 = true), .is (0 ≤ s51 ∧ s51 < (x0.Data.length : Int)), .cell ((ad A0_1).add ((s51).toNat * 1)) (.float .f64 b66), .cell ⟨b28, 1, none⟩ (.slice A1_1 x1.Data.length c1_1), .is (Option.isSome A1_1 = true), .is (0 ≤ s51 ∧ s51 < (x1.Data.length : Int)), .cell ((ad A1_1).add ((s51).toNat * 1)) (.float .f64 b68), .is ((FloatKind.f64.format.order b66 b68 != some .eq) = true)] (by kernel_rfl) (by kernel_rfl) hf60 (by kernel_rfl) ⟨(hm57.cell 1 rfl rfl), q65.1, g61, kb66, (hm57.cell 0 rfl rfl), q67.1, g62, kb68, (ftNe hb66 hb68 c63), trivial⟩ fun a69 w71 hf70 hg72 => ?_
            have hm73 : Mem [] M w0 [.bx b28 [.slice A1_0 x1.Shape.length c1_0, .slice A1_1 x1.Data.length c1_1] 42, .bx b21 [.slice A0_0 x0.Shape.length c0_0, .slice A0_1 x0.Data.length c0_1] 42, .sl (Kd.int .i64) A0_0 c0_0 x0.Shape, .sl Kd.float A0_1 c0_1 x0.Data, .sl (Kd.int .i64) A1_0 c1_0 x1.Shape, .sl Kd.float A1_1 c1_1 x1.Data] w71 := hm57.still hg72
            refine thenN ?_
            refine condT hf70 (by kernel_rfl) ?_
            refine wp_seq ?_
            refine reg [] [4] [(4, .bool false)] [] hf70 (by kernel_rfl) trivial fun a74 hf75 => ?_
            have hm76 : Mem [] M w0 [] w71 := hm73.sel [] _ rfl (by kernel_rfl)
            refine thenN ?_
            refine wp_ret ?_
            refine blkR ?_
            refine thenR ?_
            refine thenR ?_
            refine .inr ⟨rfl, ?_⟩
            refine thenR ?_
            have hm77 : Mem [] M w0 [] w71 := hm76.sel [] _ rfl (by kernel_rfl)
            obtain rfl := Option.some.inj H1
            obtain rfl := Option.some.inj H0
            refine ret [] [.bool false] [] hf75 (by kernel_rfl) trivial ?_
            exact ⟨_, rfl, rfl, hm77⟩
          · have q79 := (hm57.slAt 3 rfl).float s51 g61.1 g61.2
            obtain ⟨b80, hb80, kb80⟩ := q79.2
            have q81 := (hm57.slAt 5 rfl).float s51 g62.1 g62.2
            obtain ⟨b82, hb82, kb82⟩ := q81.2
            refine regQ [.slice A0_1 x0.Data.length c0_1, .float .f64 b80, .slice A1_1 x1.Data.length c1_1, .float .f64 b82, .bool false] [2, 3, 5, 38] [(2, .pointer (some ⟨b21, 0, none⟩)), (3, .pointer (some ⟨b28, 0, none⟩)), (5, .int .i64 s51), (38, .bool false)] [.cell ⟨b21, 1, none⟩ (.slice A0_1 x0.Data.length c0_1), .is (Option.isSome A0_1 = true), .is (0 ≤ s51 ∧ s51 < (x0.Data.length : Int)), .cell ((ad A0_1).add ((s51).toNat * 1)) (.float .f64 b80), .cell ⟨b28, 1, none⟩ (.slice A1_1 x1.Data.length c1_1), .is (Option.isSome A1_1 = true), .is (0 ≤ s51 ∧ s51 < (x1.Data.length : Int)), .cell ((ad A1_1).add ((s51).toNat * 1)) (.float .f64 b82), .is ((FloatKind.f64.format.order b80 b82 != some .eq) = false)] (by kernel_rfl) (by kernel_rfl) hf60 (by kernel_rfl) ⟨(hm57.cell 1 rfl rfl), q79.1, g61, kb80, (hm57.cell 0 rfl rfl), q81.1, g62, kb82, (ftNe hb80 hb82 c63), trivial⟩ fun a83 w85 hf84 hg86 => ?_
            have hm87 : Mem [] M w0 [.bx b28 [.slice A1_0 x1.Shape.length c1_0, .slice A1_1 x1.Data.length c1_1] 42, .bx b21 [.slice A0_0 x0.Shape.length c0_0, .slice A0_1 x0.Data.length c0_1] 42, .sl (Kd.int .i64) A0_0 c0_0 x0.Shape, .sl Kd.float A0_1 c0_1 x0.Data, .sl (Kd.int .i64) A1_0 c1_0 x1.Shape, .sl Kd.float A1_1 c1_1 x1.Data] w85 := hm57.still hg86
            refine thenN ?_
            refine condF hf84 (by kernel_rfl) ?_
            refine wp_skip ?_
            refine blkN ?_
            refine thenN ?_
            refine reg [] [2, 3, 5] [(2, .pointer (some ⟨b21, 0, none⟩)), (3, .pointer (some ⟨b28, 0, none⟩)), (5, .int .i64 (w64 (s51 + 1)))] [] hf84 (by kernel_rfl) trivial fun a88 hf89 => ?_
            exact ⟨(w64 (s51 + 1)), H1, hf89.sel (l := [2, 3, 5]) (by kernel_rfl), hm87.sel [0, 1, 2, 3, 4, 5] _ rfl (by kernel_rfl)⟩
        · refine reg [.slice A0_1 x0.Data.length c0_1, .bool false] [2, 3, 5, 25] [(2, .pointer (some ⟨b21, 0, none⟩)), (3, .pointer (some ⟨b28, 0, none⟩)), (5, .int .i64 s51), (25, .bool false)] [.cell ⟨b21, 1, none⟩ (.slice A0_1 x0.Data.length c0_1), .is (decide (s51 < (x0.Data.length : Int)) = false)] hf56 (by kernel_rfl) ⟨(hm57.cell 1 rfl rfl), (decide_eq_false c58), trivial⟩ fun a90 hf91 => ?_
          refine thenN ?_
          refine condF hf91 (by kernel_rfl) ?_
          refine wp_exit ?_
          refine thenE ?_
          refine thenE ?_
          obtain rfl := Option.some.inj H1
          exact .inl ⟨rfl, s51, rfl, hf91.sel (l := [2, 3, 5]) (by kernel_rfl), hm57.sel [0, 1, 2, 3, 4, 5] _ rfl (by kernel_rfl)⟩
      rintro a92 w93 ⟨yr52, rfl, hf94, hm95⟩
      refine thenN ?_
      refine wp_seq ?_
      refine reg [] [4] [(4, .bool true)] [] hf94 (by kernel_rfl) trivial fun a96 hf97 => ?_
      have hm98 : Mem [] M w0 [] w93 := hm95.sel [] _ rfl (by kernel_rfl)
      refine thenN ?_
      refine wp_ret ?_
      have hm99 : Mem [] M w0 [] w93 := hm98.sel [] _ rfl (by kernel_rfl)
      obtain rfl := Option.some.inj H0
      refine ret [] [.bool true] [] hf97 (by kernel_rfl) trivial ?_
      exact ⟨_, rfl, rfl, hm99⟩
    · refine inReg ?_
      refine go 4 [.slice A0_0 x0.Shape.length c0_0, .slice A1_0 x1.Shape.length c1_0] [2, 3, 7, 9] [(2, .pointer (some ⟨b21, 0, none⟩)), (3, .pointer (some ⟨b28, 0, none⟩)), (7, .slice A0_0 x0.Shape.length c0_0), (9, .slice A1_0 x1.Shape.length c1_0)] [.cell ⟨b21, 0, none⟩ (.slice A0_0 x0.Shape.length c0_0), .cell ⟨b28, 0, none⟩ (.slice A1_0 x1.Shape.length c1_0)] hf36 (by kernel_rfl) ⟨(hm34.cell 1 rfl rfl), (hm34.cell 0 rfl rfl), trivial⟩ fun a101 hf102 => ?_
      refine listOf hf102 rfl (by kernel_rfl) (aCall (fid := 18) (args := [.slice A0_0 x0.Shape.length c0_0, .slice A1_0 x1.Shape.length c1_0]) (d := 10) hf102 (by kernel_rfl) (by kernel_rfl) callable18 (ref1_SameInts.calls _ _ x0.Shape A0_0 x0.Shape.length c0_0 rfl x1.Shape A1_0 x1.Shape.length c1_0 rfl (hm34.give [2, 4] [.sl (Kd.int .i64) A0_0 c0_0 x0.Shape, .sl (Kd.int .i64) A1_0 c1_0 x1.Shape] rfl rfl) r37 hr37) ?_)
      rintro _ w103 a104 ⟨rfl, hk106⟩ hf105
      have hm107 : Mem [] M w0 [.bx b28 [.slice A1_0 x1.Shape.length c1_0, .slice A1_1 x1.Data.length c1_1] 42, .bx b21 [.slice A0_0 x0.Shape.length c0_0, .slice A0_1 x0.Data.length c0_1] 42, .sl (Kd.int .i64) A0_0 c0_0 x0.Shape, .sl Kd.float A0_1 c0_1 x0.Data, .sl (Kd.int .i64) A1_0 c1_0 x1.Shape, .sl Kd.float A1_1 c1_1 x1.Data] w103 := hm34.still hk106.cum.none
      rw [c38] at hf105
      refine go 10 [.slice A0_1 x0.Data.length c0_1, .slice A1_1 x1.Data.length c1_1, .bool true] [2, 3, 20] [(2, .pointer (some ⟨b21, 0, none⟩)), (3, .pointer (some ⟨b28, 0, none⟩)), (20, .bool true)] [.cell ⟨b21, 1, none⟩ (.slice A0_1 x0.Data.length c0_1), .cell ⟨b28, 1, none⟩ (.slice A1_1 x1.Data.length c1_1), .is ((((x0.Data.length : Int) : Int) != (x1.Data.length : Int)) = true)] hf105 (by kernel_rfl) ⟨(hm107.cell 1 rfl rfl), (hm107.cell 0 rfl rfl), (neT c39), trivial⟩ fun a108 hf109 => ?_
      refine endL rfl ?_
      refine thenN ?_
      refine condT hf109 (by kernel_rfl) ?_
      refine wp_seq ?_
      refine reg [] [4] [(4, .bool false)] [] hf109 (by kernel_rfl) trivial fun a110 hf111 => ?_
      have hm112 : Mem [] M w0 [] w103 := hm107.sel [] _ rfl (by kernel_rfl)
      refine thenN ?_
      refine wp_ret ?_
      refine thenR ?_
      have hm113 : Mem [] M w0 [] w103 := hm112.sel [] _ rfl (by kernel_rfl)
      obtain rfl := Option.some.inj H0
      refine ret [] [.bool false] [] hf111 (by kernel_rfl) trivial ?_
      exact ⟨_, rfl, rfl, hm113⟩
  · refine inReg ?_
    refine go 4 [.slice A0_0 x0.Shape.length c0_0, .slice A1_0 x1.Shape.length c1_0] [2, 3, 7, 9] [(2, .pointer (some ⟨b21, 0, none⟩)), (3, .pointer (some ⟨b28, 0, none⟩)), (7, .slice A0_0 x0.Shape.length c0_0), (9, .slice A1_0 x1.Shape.length c1_0)] [.cell ⟨b21, 0, none⟩ (.slice A0_0 x0.Shape.length c0_0), .cell ⟨b28, 0, none⟩ (.slice A1_0 x1.Shape.length c1_0)] hf36 (by kernel_rfl) ⟨(hm34.cell 1 rfl rfl), (hm34.cell 0 rfl rfl), trivial⟩ fun a115 hf116 => ?_
    refine listOf hf116 rfl (by kernel_rfl) (aCall (fid := 18) (args := [.slice A0_0 x0.Shape.length c0_0, .slice A1_0 x1.Shape.length c1_0]) (d := 10) hf116 (by kernel_rfl) (by kernel_rfl) callable18 (ref1_SameInts.calls _ _ x0.Shape A0_0 x0.Shape.length c0_0 rfl x1.Shape A1_0 x1.Shape.length c1_0 rfl (hm34.give [2, 4] [.sl (Kd.int .i64) A0_0 c0_0 x0.Shape, .sl (Kd.int .i64) A1_0 c1_0 x1.Shape] rfl rfl) r37 hr37) ?_)
    rintro _ w117 a118 ⟨rfl, hk120⟩ hf119
    have hm121 : Mem [] M w0 [.bx b28 [.slice A1_0 x1.Shape.length c1_0, .slice A1_1 x1.Data.length c1_1] 42, .bx b21 [.slice A0_0 x0.Shape.length c0_0, .slice A0_1 x0.Data.length c0_1] 42, .sl (Kd.int .i64) A0_0 c0_0 x0.Shape, .sl Kd.float A0_1 c0_1 x0.Data, .sl (Kd.int .i64) A1_0 c1_0 x1.Shape, .sl Kd.float A1_1 c1_1 x1.Data] w117 := hm34.still hk120.cum.none
    rw [c38] at hf119
    refine go 10 [] [2, 3, 20] [(2, .pointer (some ⟨b21, 0, none⟩)), (3, .pointer (some ⟨b28, 0, none⟩)), (20, .bool true)] [] hf119 (by kernel_rfl) trivial fun a122 hf123 => ?_
    refine endL rfl ?_
    refine thenN ?_
    refine condT hf123 (by kernel_rfl) ?_
    refine wp_seq ?_
    refine reg [] [4] [(4, .bool false)] [] hf123 (by kernel_rfl) trivial fun a124 hf125 => ?_
    have hm126 : Mem [] M w0 [] w117 := hm121.sel [] _ rfl (by kernel_rfl)
    refine thenN ?_
    refine wp_ret ?_
    refine thenR ?_
    have hm127 : Mem [] M w0 [] w117 := hm126.sel [] _ rfl (by kernel_rfl)
    obtain rfl := Option.some.inj H0
    refine ret [] [.bool false] [] hf125 (by kernel_rfl) trivial ?_
    exact ⟨_, rfl, rfl, hm127⟩

/-! ### backstitch/real.halves -/
noncomputable def real_halves_real_Real_Plus.F : Nat → (List Nat) → Option Nat
  | 0, _ => none
  | k + 1, x0 =>
  if (x0.length : Int) = 1 then (if (0 : Int) ≤ 0 ∧ 0 < (x0.length : Int) then (some (rd x0 0))
  else none)
  else (if 0 ≤ (w64 (Int.tdiv (w64 ((x0.length : Int) + 1)) 2)) ∧ (w64 (Int.tdiv (w64 ((x0.length : Int) + 1)) 2)) ≤ (x0.length : Int) then ((real_halves_real_Real_Plus.F k ((List.take (((w64 (Int.tdiv (w64 ((x0.length : Int) + 1)) 2))).toNat) x0).drop 0)).bind fun r39 =>
  (real_halves_real_Real_Plus.F k ((List.take x0.length x0).drop (((w64 (Int.tdiv (w64 ((x0.length : Int) + 1)) 2))).toNat))).bind fun r40 =>
  (real_Real_Plus.f r39 r40).bind fun r41 =>
  some r41)
  else none)
set_option maxRecDepth 100000 in
set_option maxHeartbeats 4000000 in
theorem real_halves_real_Real_Plus.callsF (k : Nat) : ∀ (M : List (Option Nat)) (w0 : World) (x0 : (List Nat)) (A0 : Option Addr) (n0 c0 : Nat) (e0 : n0 = x0.length) (hm0 : Mem [] M w0 [.sl Kd.float A0 c0 x0] w0) (r : Nat) (H0 : real_halves_real_Real_Plus.F k x0 = some r),
    Calls Try.prog 68 [.slice A0 n0 c0, .func (.func 66) #[] #[]].toArray w0 (fun x w' => ∃ v, x = .returned v ∧ ∃ br0, v = .float .f64 br0 ∧ FR br0 r ∧ Mem [] M w0 [] w') := by
  induction k with
  | zero => intro M w0 x0 A0 n0 c0 e0 hm0 r H0; exact absurd H0 (by simp [real_halves_real_Real_Plus.F])
  | succ k ih =>
  intro M w0 x0 A0 n0 c0 e0 hm0 r H0
  rw [real_halves_real_Real_Plus.F] at H0
  subst e0
  refine enter (n := 28) Try.func68 rfl rfl (by kernel_rfl) fun a0 (hf0 : Fr 28 a0 [(0, .slice A0 x0.length c0), (1, .func (.func 66) #[] #[])]) => ?_
  refine wp_seq ?_
  refine reg [] [0, 1] [(0, .slice A0 x0.length c0), (1, .func (.func 66) #[] #[])] [] hf0 (by kernel_rfl) trivial fun a21 hf22 => ?_
  refine thenN ?_
  refine wp_seq ?_
  refine wp_seq ?_
  rcases if_split H0 with ⟨c23, H0⟩ | ⟨c23, H0⟩
  · refine reg [.bool true] [0, 1, 8] [(0, .slice A0 x0.length c0), (1, .func (.func 66) #[] #[]), (8, .bool true)] [.is ((((x0.length : Int) : Int) == 1) = true)] hf22 (by kernel_rfl) ⟨(eqT c23), trivial⟩ fun a24 hf25 => ?_
    refine thenN ?_
    refine condT hf25 (by kernel_rfl) ?_
    refine wp_seq ?_
    obtain ⟨g26, H0⟩ := if_guard H0
    have q27 := (hm0.slAt 0 rfl).float 0 g26.1 g26.2
    obtain ⟨b28, hb28, kb28⟩ := q27.2
    refine reg [.float .f64 b28] [4] [(4, .float .f64 b28)] [.is (Option.isSome A0 = true), .is ((0 : Int) ≤ 0 ∧ 0 < (x0.length : Int)), .cell ((ad A0).add ((0 : Int).toNat * 1)) (.float .f64 b28)] hf25 (by kernel_rfl) ⟨q27.1, g26, kb28, trivial⟩ fun a29 hf30 => ?_
    have hm31 : Mem [] M w0 [] w0 := hm0.sel [] _ rfl (by kernel_rfl)
    refine thenN ?_
    refine wp_ret ?_
    refine thenR ?_
    have hm32 : Mem [] M w0 [] w0 := hm31.sel [] _ rfl (by kernel_rfl)
    obtain rfl := Option.some.inj H0
    refine ret [] [.float .f64 b28] [] hf30 (by kernel_rfl) trivial ?_
    exact ⟨_, rfl, b28, rfl, hb28, hm32⟩
  · refine reg [.bool false] [0, 1, 8] [(0, .slice A0 x0.length c0), (1, .func (.func 66) #[] #[]), (8, .bool false)] [.is ((((x0.length : Int) : Int) == 1) = false)] hf22 (by kernel_rfl) ⟨(eqF c23), trivial⟩ fun a34 hf35 => ?_
    refine thenN ?_
    refine condF hf35 (by kernel_rfl) ?_
    refine wp_skip ?_
    refine thenN ?_
    refine wp_seq ?_
    refine reg [] [0, 1, 5] [(0, .slice A0 x0.length c0), (1, .func (.func 66) #[] #[]), (5, .int .i64 (w64 (Int.tdiv (w64 ((x0.length : Int) + 1)) 2)))] [.is ((2 : Int) ≠ 0)] hf35 (by kernel_rfl) ⟨(okIs (by decide)), trivial⟩ fun a36 hf37 => ?_
    refine thenN ?_
    refine wp_seq ?_
    obtain ⟨g38, H0⟩ := if_guard H0
    obtain ⟨r39, hr39, H0⟩ := ob_split H0
    obtain ⟨r40, hr40, H0⟩ := ob_split H0
    obtain ⟨r41, hr41, H0⟩ := ob_split H0
    refine midReg (fun (a : Act) (w : World) => ∃ (b58 : Nat), Fr 28 a [(4, .float .f64 b58)] ∧ FR b58 r41 ∧ Mem [] M w0 [] w) ?_ ?_
    · refine anyG [] (by kernel_rfl) fun w66 hg67 => ?_
      have hm68 : Mem [] M w0 [.sl Kd.float A0 c0 x0] w66 := hm0.still hg67
      have e95 : x0.length = x0.length := rfl
      have e95l : 0 ≤ ((w64 (Int.tdiv (w64 ((x0.length : Int) + 1)) 2))).toNat := by omega
      have e95h : ((w64 (Int.tdiv (w64 ((x0.length : Int) + 1)) 2))).toNat ≤ x0.length := by omega
      have hm96 : Mem [] M w0 [.sl Kd.float (sub A0 c0 0 1) (c0 - 0) ((List.take (((w64 (Int.tdiv (w64 ((x0.length : Int) + 1)) 2))).toNat) x0).drop 0), .sl Kd.float A0 c0 x0] w66 := hm68.sub 0 rfl e95l (e95 ▸ e95h)
      have e97 : x0.length = x0.length := rfl
      have e97l : ((w64 (Int.tdiv (w64 ((x0.length : Int) + 1)) 2))).toNat ≤ x0.length := by omega
      have e97h : x0.length ≤ x0.length := by omega
      have hm98 : Mem [] M w0 [.sl Kd.float (sub A0 c0 (((w64 (Int.tdiv (w64 ((x0.length : Int) + 1)) 2))).toNat) 1) (c0 - ((w64 (Int.tdiv (w64 ((x0.length : Int) + 1)) 2))).toNat) ((List.take x0.length x0).drop (((w64 (Int.tdiv (w64 ((x0.length : Int) + 1)) 2))).toNat)), .sl Kd.float (sub A0 c0 0 1) (c0 - 0) ((List.take (((w64 (Int.tdiv (w64 ((x0.length : Int) + 1)) 2))).toNat) x0).drop 0), .sl Kd.float A0 c0 x0] w66 := hm96.sub 1 rfl e97l (e97 ▸ e97h)
      refine quiet0 [0, 1, 2, 3, 4, 6, 7, 8, 9] [] [16, 19, 20, 24, 25] #[true, true, true, true, true, false, true, true, true, true, false, false, false] [(16, .func (.func 66) #[] #[]), (19, .slice (sub A0 c0 0 1) (((w64 (Int.tdiv (w64 ((x0.length : Int) + 1)) 2))).toNat - 0) (c0 - 0)), (20, .func (.func 66) #[] #[]), (24, .slice (sub A0 c0 (((w64 (Int.tdiv (w64 ((x0.length : Int) + 1)) 2))).toNat) 1) (x0.length - ((w64 (Int.tdiv (w64 ((x0.length : Int) + 1)) 2))).toNat) (c0 - ((w64 (Int.tdiv (w64 ((x0.length : Int) + 1)) 2))).toNat)), (25, .func (.func 66) #[] #[])] [.is (0 ≤ (w64 (Int.tdiv (w64 ((x0.length : Int) + 1)) 2)) ∧ (w64 (Int.tdiv (w64 ((x0.length : Int) + 1)) 2)) ≤ (c0 : Int)), .is (0 ≤ (w64 (Int.tdiv (w64 ((x0.length : Int) + 1)) 2)) ∧ (w64 (Int.tdiv (w64 ((x0.length : Int) + 1)) 2)) ≤ (x0.length : Int))] 4 rfl (by kernel_rfl) (fun _ _ _ _ _ h => nomatch h.1) hf37 (by kernel_rfl) ⟨(sub_cap rfl (hm68.cpAt 0 rfl) g38), g38, trivial⟩ fun a99 hf100 => ?_
      refine all1 5 (by kernel_rfl) ?_
      refine opOf hf100 rfl (by kernel_rfl) (aCall (fid := 68) (args := [.slice (sub A0 c0 0 1) (((w64 (Int.tdiv (w64 ((x0.length : Int) + 1)) 2))).toNat - 0) (c0 - 0), .func (.func 66) #[] #[]]) (d := 21) hf100 (by kernel_rfl) (by kernel_rfl) callable68 (ih _ _ ((List.take (((w64 (Int.tdiv (w64 ((x0.length : Int) + 1)) 2))).toNat) x0).drop 0) (sub A0 c0 0 1) (((w64 (Int.tdiv (w64 ((x0.length : Int) + 1)) 2))).toNat - 0) (c0 - 0) (len_sub e95 e95l e95h) (hm98.give [1] [.sl Kd.float (sub A0 c0 0 1) (c0 - 0) ((List.take (((w64 (Int.tdiv (w64 ((x0.length : Int) + 1)) 2))).toNat) x0).drop 0)] rfl rfl) r39 hr39) ?_)
      rintro _ w102 a103 ⟨b101, rfl, hb101, hk105⟩ hf104
      refine ⟨.inr (Gr.still hk105.cum.none), ?_⟩
      have hm106 : Mem [] M w0 [.sl Kd.float (sub A0 c0 (((w64 (Int.tdiv (w64 ((x0.length : Int) + 1)) 2))).toNat) 1) (c0 - ((w64 (Int.tdiv (w64 ((x0.length : Int) + 1)) 2))).toNat) ((List.take x0.length x0).drop (((w64 (Int.tdiv (w64 ((x0.length : Int) + 1)) 2))).toNat)), .sl Kd.float (sub A0 c0 0 1) (c0 - 0) ((List.take (((w64 (Int.tdiv (w64 ((x0.length : Int) + 1)) 2))).toNat) x0).drop 0), .sl Kd.float A0 c0 x0] w102 := hm98.still hk105.cum.none
      refine all1 10 (by kernel_rfl) ?_
      refine opOf hf104 rfl (by kernel_rfl) (aCall (fid := 68) (args := [.slice (sub A0 c0 (((w64 (Int.tdiv (w64 ((x0.length : Int) + 1)) 2))).toNat) 1) (x0.length - ((w64 (Int.tdiv (w64 ((x0.length : Int) + 1)) 2))).toNat) (c0 - ((w64 (Int.tdiv (w64 ((x0.length : Int) + 1)) 2))).toNat), .func (.func 66) #[] #[]]) (d := 26) hf104 (by kernel_rfl) (by kernel_rfl) callable68 (ih _ _ ((List.take x0.length x0).drop (((w64 (Int.tdiv (w64 ((x0.length : Int) + 1)) 2))).toNat)) (sub A0 c0 (((w64 (Int.tdiv (w64 ((x0.length : Int) + 1)) 2))).toNat) 1) (x0.length - ((w64 (Int.tdiv (w64 ((x0.length : Int) + 1)) 2))).toNat) (c0 - ((w64 (Int.tdiv (w64 ((x0.length : Int) + 1)) 2))).toNat) (len_sub e97 e97l e97h) (hm106.give [0] [.sl Kd.float (sub A0 c0 (((w64 (Int.tdiv (w64 ((x0.length : Int) + 1)) 2))).toNat) 1) (c0 - ((w64 (Int.tdiv (w64 ((x0.length : Int) + 1)) 2))).toNat) ((List.take x0.length x0).drop (((w64 (Int.tdiv (w64 ((x0.length : Int) + 1)) 2))).toNat))] rfl rfl) r40 hr40) ?_)
      rintro _ w108 a109 ⟨b107, rfl, hb107, hk111⟩ hf110
      refine ⟨.inr (Gr.still hk111.cum.none), ?_⟩
      have hm112 : Mem [] M w0 [.sl Kd.float (sub A0 c0 (((w64 (Int.tdiv (w64 ((x0.length : Int) + 1)) 2))).toNat) 1) (c0 - ((w64 (Int.tdiv (w64 ((x0.length : Int) + 1)) 2))).toNat) ((List.take x0.length x0).drop (((w64 (Int.tdiv (w64 ((x0.length : Int) + 1)) 2))).toNat)), .sl Kd.float (sub A0 c0 0 1) (c0 - 0) ((List.take (((w64 (Int.tdiv (w64 ((x0.length : Int) + 1)) 2))).toNat) x0).drop 0), .sl Kd.float A0 c0 x0] w108 := hm106.still hk111.cum.none
      refine all1 11 (by kernel_rfl) ?_
      refine opOf hf110 rfl (by kernel_rfl) (aCall (fid := 66) (args := [.float .f64 b101, .float .f64 b107]) (d := 27) hf110 (by kernel_rfl) (by kernel_rfl) callable66 (real_Real_Plus.calls _ _ r39 b101 hb101 r40 b107 hb107 (hm112.give [] [] rfl rfl) r41 hr41) ?_)
      rintro _ w114 a115 ⟨b113, rfl, hb113, hk117⟩ hf116
      refine ⟨.inr (Gr.still hk117.cum.none), ?_⟩
      have hm118 : Mem [] M w0 [.sl Kd.float (sub A0 c0 (((w64 (Int.tdiv (w64 ((x0.length : Int) + 1)) 2))).toNat) 1) (c0 - ((w64 (Int.tdiv (w64 ((x0.length : Int) + 1)) 2))).toNat) ((List.take x0.length x0).drop (((w64 (Int.tdiv (w64 ((x0.length : Int) + 1)) 2))).toNat)), .sl Kd.float (sub A0 c0 0 1) (c0 - 0) ((List.take (((w64 (Int.tdiv (w64 ((x0.length : Int) + 1)) 2))).toNat) x0).drop 0), .sl Kd.float A0 c0 x0] w114 := hm112.still hk117.cum.none
      refine quiet0 [12] [] [4] #[true, true, true, true, true, true, true, true, true, true, true, true, true] [(4, .float .f64 b113)] [] 0 rfl (by kernel_rfl) (fun _ _ _ _ _ h => nomatch h.1) hf116 (by kernel_rfl) trivial fun a119 hf120 => ?_
      refine allDone (by kernel_rfl) ⟨rfl, b113, hf120.sel (l := [4]) (by kernel_rfl), hb113, hm118.sel [] _ rfl (by kernel_rfl)⟩
    rintro a121 w122 ⟨b58, hf123, hb58, hm124⟩
    refine thenN ?_
    refine wp_ret ?_
    have hm125 : Mem [] M w0 [] w122 := hm124.sel [] _ rfl (by kernel_rfl)
    obtain rfl := Option.some.inj H0
    refine ret [] [.float .f64 b58] [] hf123 (by kernel_rfl) trivial ?_
    exact ⟨_, rfl, b58, rfl, hb58, hm125⟩
noncomputable def real_halves_real_Real_Plus.f (x0 : (List Nat)) : Option Nat := recOf (fun k => real_halves_real_Real_Plus.F k x0)
theorem real_halves_real_Real_Plus.calls (M : List (Option Nat)) (w0 : World) (x0 : (List Nat)) (A0 : Option Addr) (n0 c0 : Nat) (e0 : n0 = x0.length) (hm0 : Mem [] M w0 [.sl Kd.float A0 c0 x0] w0) (r : Nat) (H0 : real_halves_real_Real_Plus.f x0 = some r) :
    Calls Try.prog 68 [.slice A0 n0 c0, .func (.func 66) #[] #[]].toArray w0 (fun x w' => ∃ v, x = .returned v ∧ ∃ br0, v = .float .f64 br0 ∧ FR br0 r ∧ Mem [] M w0 [] w') := by
  obtain ⟨k, hk⟩ := recOf_some H0
  exact real_halves_real_Real_Plus.callsF k M w0 x0 A0 n0 c0 e0 hm0 r hk

/-! ### backstitch/real.Fold -/
noncomputable def real_Fold.f (x0 : (List Nat)) : Option Nat :=
  if (x0.length : Int) = 0 then (some 0)
  else ((real_halves_real_Real_Plus.f x0).bind fun r33 =>
  some r33)
set_option maxRecDepth 100000 in
set_option maxHeartbeats 4000000 in
theorem real_Fold.calls (M : List (Option Nat)) (w0 : World) (x0 : (List Nat)) (A0 : Option Addr) (n0 c0 : Nat) (e0 : n0 = x0.length) (hm0 : Mem [] M w0 [.sl Kd.float A0 c0 x0] w0) (r : Nat) (H0 : real_Fold.f x0 = some r) :
    Calls Try.prog 59 [.slice A0 n0 c0].toArray w0 (fun x w' => ∃ v, x = .returned v ∧ ∃ br0, v = .float .f64 br0 ∧ FR br0 r ∧ Mem [] M w0 [] w') := by
  subst e0
  unfold real_Fold.f at H0
  refine enter (n := 8) Try.func59 rfl rfl (by kernel_rfl) fun a0 (hf0 : Fr 8 a0 [(0, .slice A0 x0.length c0)]) => ?_
  refine wp_seq ?_
  refine reg [] [0] [(0, .slice A0 x0.length c0)] [] hf0 (by kernel_rfl) trivial fun a21 hf22 => ?_
  refine thenN ?_
  refine wp_seq ?_
  refine wp_seq ?_
  rcases if_split H0 with ⟨c23, H0⟩ | ⟨c23, H0⟩
  · refine reg [.bool true] [0, 5] [(0, .slice A0 x0.length c0), (5, .bool true)] [.is ((((x0.length : Int) : Int) == 0) = true)] hf22 (by kernel_rfl) ⟨(eqT c23), trivial⟩ fun a24 hf25 => ?_
    refine thenN ?_
    refine condT hf25 (by kernel_rfl) ?_
    refine wp_seq ?_
    refine reg [] [2] [(2, .float .f64 0)] [] hf25 (by kernel_rfl) trivial fun a26 hf27 => ?_
    have hm28 : Mem [] M w0 [] w0 := hm0.sel [] _ rfl (by kernel_rfl)
    refine thenN ?_
    refine wp_ret ?_
    refine thenR ?_
    have hm29 : Mem [] M w0 [] w0 := hm28.sel [] _ rfl (by kernel_rfl)
    obtain rfl := Option.some.inj H0
    refine ret [] [.float .f64 0] [] hf27 (by kernel_rfl) trivial ?_
    exact ⟨_, rfl, 0, rfl, (FR.lit (by kernel_rfl) (by kernel_rfl)), hm29⟩
  · refine reg [.bool false] [0, 5] [(0, .slice A0 x0.length c0), (5, .bool false)] [.is ((((x0.length : Int) : Int) == 0) = false)] hf22 (by kernel_rfl) ⟨(eqF c23), trivial⟩ fun a31 hf32 => ?_
    refine thenN ?_
    refine condF hf32 (by kernel_rfl) ?_
    refine wp_skip ?_
    refine thenN ?_
    refine wp_seq ?_
    obtain ⟨r33, hr33, H0⟩ := ob_split H0
    refine inReg ?_
    refine go 1 [] [6] [(6, .slice A0 x0.length c0)] [] hf32 (by kernel_rfl) trivial fun a34 hf35 => ?_
    refine listOf hf35 rfl (by kernel_rfl) (aCall (fid := 68) (args := [.slice A0 x0.length c0, .func (.func 66) #[] #[]]) (d := 7) hf35 (by kernel_rfl) (by kernel_rfl) callable68 (real_halves_real_Real_Plus.calls _ _ x0 A0 x0.length c0 rfl (hm0.give [0] [.sl Kd.float A0 c0 x0] rfl rfl) r33 hr33) ?_)
    rintro _ w37 a38 ⟨b36, rfl, hb36, hk40⟩ hf39
    have hm41 : Mem [] M w0 [.sl Kd.float A0 c0 x0] w37 := hm0.still hk40.cum.none
    refine go 1 [] [2] [(2, .float .f64 b36)] [] hf39 (by kernel_rfl) trivial fun a42 hf43 => ?_
    refine endL rfl ?_
    have hm44 : Mem [] M w0 [] w37 := hm41.sel [] _ rfl (by kernel_rfl)
    refine thenN ?_
    refine wp_ret ?_
    have hm45 : Mem [] M w0 [] w37 := hm44.sel [] _ rfl (by kernel_rfl)
    obtain rfl := Option.some.inj H0
    refine ret [] [.float .f64 b36] [] hf43 (by kernel_rfl) trivial ?_
    exact ⟨_, rfl, b36, rfl, hb36, hm45⟩

/-! ### backstitch/matrix.Sum -/
noncomputable def matrix_Sum.f (x0 : Tensor) : Option (Tensor × Int) :=
  (tensor_May.f x0).bind fun r37 =>
  if r37 = true then ((real_Fold.f x0.Data).bind fun r48 =>
  (tensor_New.f ([1] : List Int) r48).bind fun r49 =>
  some (r49.1, r49.2))
  else (some ((⟨([] : (List Int)), ([] : (List Nat))⟩ : Tensor), 2))
set_option maxRecDepth 100000 in
set_option maxHeartbeats 4000000 in
theorem matrix_Sum.calls (M : List (Option Nat)) (w0 : World) (x0 : Tensor) (A0_0 : Option Addr) (n0_0 c0_0 : Nat) (e0_0 : n0_0 = x0.Shape.length) (A0_1 : Option Addr) (n0_1 c0_1 : Nat) (e0_1 : n0_1 = x0.Data.length) (hm0 : Mem [] M w0 [.sl (Kd.int .i64) A0_0 c0_0 x0.Shape, .sl Kd.float A0_1 c0_1 x0.Data] w0) (r : (Tensor × Int)) (H0 : matrix_Sum.f x0 = some r) :
    Calls Try.prog 39 [.agg #[.slice A0_0 n0_0 c0_0, .slice A0_1 n0_1 c0_1]].toArray w0 (fun x w' => ∃ v, x = .returned v ∧ ∃ Ar0_0 cr0_0 Ar0_1 cr0_1, v = .tuple #[.agg #[.slice Ar0_0 r.1.Shape.length cr0_0, .slice Ar0_1 r.1.Data.length cr0_1], .int .i64 r.2] ∧ Mem [] M w0 [.ow (Kd.int .i64) 3 Ar0_0 cr0_0 r.1.Shape, .ow Kd.float 47 Ar0_1 cr0_1 r.1.Data] w') := by
  subst e0_0
  subst e0_1
  unfold matrix_Sum.f at H0
  refine enter (n := 15) Try.func39 rfl rfl (by kernel_rfl) fun a0 (hf0 : Fr 15 a0 [(0, .agg #[.slice A0_0 x0.Shape.length c0_0, .slice A0_1 x0.Data.length c0_1])]) => ?_
  refine wp_seq ?_
  refine inReg ?_
  refine listOf hf0 rfl (by kernel_rfl) (aNew (cs := [.slice A0_0 x0.Shape.length c0_0, .slice A0_1 x0.Data.length c0_1]) (T := 42) (d := 1) hf0 (by kernel_rfl) (by kernel_rfl) ?_)
  intro b21 w22 a23 hbb21 hx25 hg26 hf24
  have hm27 : Mem [] M w0 [.bx b21 [.slice A0_0 x0.Shape.length c0_0, .slice A0_1 x0.Data.length c0_1] 42, .sl (Kd.int .i64) A0_0 c0_0 x0.Shape, .sl Kd.float A0_1 c0_1 x0.Data] w22 := hm0.box hbb21 hx25 hg26
  refine listOf hf24 rfl (by kernel_rfl) (aNew (cs := [.slice none 0 0, .slice none 0 0]) (T := 42) (d := 2) hf24 (by kernel_rfl) (by kernel_rfl) ?_)
  intro b28 w29 a30 hbb28 hx32 hg33 hf31
  have hm34 : Mem [] M w0 [.bx b28 [.slice none 0 0, .slice none 0 0] 42, .bx b21 [.slice A0_0 x0.Shape.length c0_0, .slice A0_1 x0.Data.length c0_1] 42, .sl (Kd.int .i64) A0_0 c0_0 x0.Shape, .sl Kd.float A0_1 c0_1 x0.Data] w29 := hm27.box hbb28 hx32 hg33
  refine go 1 [] [1, 2] [(1, .pointer (some ⟨b21, 0, none⟩)), (2, .pointer (some ⟨b28, 0, none⟩))] [] hf31 (by kernel_rfl) trivial fun a35 hf36 => ?_
  refine endL rfl ?_
  refine thenN ?_
  refine wp_seq ?_
  refine wp_seq ?_
  obtain ⟨r37, hr37, H0⟩ := ob_split H0
  rcases ifb_split H0 with ⟨c38, H0⟩ | ⟨c38, H0⟩
  · refine inReg ?_
    refine go 1 [.agg #[.slice A0_0 x0.Shape.length c0_0, .slice A0_1 x0.Data.length c0_1]] [1, 2, 4] [(1, .pointer (some ⟨b21, 0, none⟩)), (2, .pointer (some ⟨b28, 0, none⟩)), (4, .agg #[.slice A0_0 x0.Shape.length c0_0, .slice A0_1 x0.Data.length c0_1])] [.cell ⟨b21, 0, none⟩ (.slice A0_0 x0.Shape.length c0_0), .cell ⟨b21, 1, none⟩ (.slice A0_1 x0.Data.length c0_1)] hf36 (by kernel_rfl) ⟨(hm34.cell 1 rfl rfl), (hm34.cell 1 rfl rfl), trivial⟩ fun a39 hf40 => ?_
    refine listOf hf40 rfl (by kernel_rfl) (aCall (fid := 58) (args := [.agg #[.slice A0_0 x0.Shape.length c0_0, .slice A0_1 x0.Data.length c0_1]]) (d := 5) hf40 (by kernel_rfl) (by kernel_rfl) callable58 (tensor_May.calls _ _ x0 A0_0 x0.Shape.length c0_0 rfl A0_1 x0.Data.length c0_1 rfl (hm34.give [2, 3] [.sl (Kd.int .i64) A0_0 c0_0 x0.Shape, .sl Kd.float A0_1 c0_1 x0.Data] rfl rfl) r37 hr37) ?_)
    rintro _ w41 a42 ⟨rfl, hk44⟩ hf43
    have hm45 : Mem [] M w0 [.bx b28 [.slice none 0 0, .slice none 0 0] 42, .bx b21 [.slice A0_0 x0.Shape.length c0_0, .slice A0_1 x0.Data.length c0_1] 42, .sl (Kd.int .i64) A0_0 c0_0 x0.Shape, .sl Kd.float A0_1 c0_1 x0.Data] w41 := hm34.still hk44.cum.none
    rw [c38] at hf43
    refine go 1 [] [1, 2, 6] [(1, .pointer (some ⟨b21, 0, none⟩)), (2, .pointer (some ⟨b28, 0, none⟩)), (6, .bool false)] [] hf43 (by kernel_rfl) trivial fun a46 hf47 => ?_
    refine endL rfl ?_
    refine thenN ?_
    refine condF hf47 (by kernel_rfl) ?_
    refine wp_skip ?_
    refine thenN ?_
    refine wp_seq ?_
    obtain ⟨r48, hr48, H0⟩ := ob_split H0
    obtain ⟨r49, hr49, H0⟩ := ob_split H0
    refine inReg ?_
    refine listOf hf47 rfl (by kernel_rfl) (aLit (cs := [.int .i64 1]) (E := 3) (len := 1) (d := 8) hf47 (by kernel_rfl) (by kernel_rfl) ?_)
    intro b50 w51 a52 hbb50 hx54 hg55 hf53
    have hm45s := hm45.still hg55
    have hm56 : Mem [] M w0 [.sl (Kd.int .i64) (some ⟨b50, 0, none⟩) 1 ([1] : List Int), .bx b28 [.slice none 0 0, .slice none 0 0] 42, .bx b21 [.slice A0_0 x0.Shape.length c0_0, .slice A0_1 x0.Data.length c0_1] 42, .sl (Kd.int .i64) A0_0 c0_0 x0.Shape, .sl Kd.float A0_1 c0_1 x0.Data] w51 := Mem.lit (kd := (Kd.int .i64)) (xs := ([1] : List Int)) hm45 hbb50 hx54 hg55 (Els.one (kd := (Kd.int .i64)) (us := [.int .i64 1]) (x := 1) rfl)
    refine go 2 [.slice A0_1 x0.Data.length c0_1] [2, 8, 10] [(2, .pointer (some ⟨b28, 0, none⟩)), (8, .slice (some ⟨b50, 0, none⟩) 1 1), (10, .slice A0_1 x0.Data.length c0_1)] [.cell ⟨b21, 1, none⟩ (.slice A0_1 x0.Data.length c0_1)] hf53 (by kernel_rfl) ⟨(hm56.cell 2 rfl rfl), trivial⟩ fun a57 hf58 => ?_
    refine listOf hf58 rfl (by kernel_rfl) (aCall (fid := 59) (args := [.slice A0_1 x0.Data.length c0_1]) (d := 11) hf58 (by kernel_rfl) (by kernel_rfl) callable59 (real_Fold.calls _ _ x0.Data A0_1 x0.Data.length c0_1 rfl (hm56.give [4] [.sl Kd.float A0_1 c0_1 x0.Data] rfl rfl) r48 hr48) ?_)
    rintro _ w60 a61 ⟨b59, rfl, hb59, hk63⟩ hf62
    have hm65 : Mem [] M w0 [.sl (Kd.int .i64) (some ⟨b50, 0, none⟩) 1 ([1] : List Int), .bx b28 [.slice none 0 0, .slice none 0 0] 42, .bx b21 [.slice A0_0 x0.Shape.length c0_0, .slice A0_1 x0.Data.length c0_1] 42, .sl (Kd.int .i64) A0_0 c0_0 x0.Shape, .sl Kd.float A0_1 c0_1 x0.Data] w60 := hm56.still hk63.cum.none
    refine listOf hf62 rfl (by kernel_rfl) (aCall (fid := 54) (args := [.slice (some ⟨b50, 0, none⟩) 1 1, .float .f64 b59]) (d := 12) hf62 (by kernel_rfl) (by kernel_rfl) callable54 (tensor_New.calls _ _ ([1] : List Int) (some ⟨b50, 0, none⟩) 1 1 rfl r48 b59 hb59 (hm65.give [0] [.sl (Kd.int .i64) (some ⟨b50, 0, none⟩) 1 ([1] : List Int)] rfl rfl) r49 hr49) ?_)
    rintro _ w70 a71 ⟨A66, c67, A68, c69, rfl, hk73⟩ hf72
    have hm74 : Mem [] M w0 [.ow (Kd.int .i64) 3 A66 c67 r49.1.Shape, .ow Kd.float 47 A68 c69 r49.1.Data, .sl (Kd.int .i64) (some ⟨b50, 0, none⟩) 1 ([1] : List Int), .bx b28 [.slice none 0 0, .slice none 0 0] 42, .bx b21 [.slice A0_0 x0.Shape.length c0_0, .slice A0_1 x0.Data.length c0_1] 42, .sl (Kd.int .i64) A0_0 c0_0 x0.Shape, .sl Kd.float A0_1 c0_1 x0.Data] w70 := hm65.back hk73
    refine go 2 [] [2, 13, 14] [(2, .pointer (some ⟨b28, 0, none⟩)), (13, .agg #[.slice A66 r49.1.Shape.length c67, .slice A68 r49.1.Data.length c69]), (14, .int .i64 r49.2)] [] hf72 (by kernel_rfl) trivial fun a75 hf76 => ?_
    refine listOf hf76 rfl (by kernel_rfl) (aStoreB (b := b28) (j := 0) (T := 42) (cs := [.slice none 0 0, .slice none 0 0]) (us := [.slice A66 r49.1.Shape.length c67, .slice A68 r49.1.Data.length c69]) (cs' := [.slice A66 r49.1.Shape.length c67, .slice A68 r49.1.Data.length c69]) hf76 (by kernel_rfl) (hm74.bxAt 3 rfl) (by kernel_rfl) (by kernel_rfl) (by kernel_rfl) ?_)
    intro w77 hx78 hg79
    have hm80 : Mem [] M w0 [.ow (Kd.int .i64) 3 A66 c67 r49.1.Shape, .ow Kd.float 47 A68 c69 r49.1.Data, .sl (Kd.int .i64) (some ⟨b50, 0, none⟩) 1 ([1] : List Int), .bx b28 [.slice A66 r49.1.Shape.length c67, .slice A68 r49.1.Data.length c69] 42, .bx b21 [.slice A0_0 x0.Shape.length c0_0, .slice A0_1 x0.Data.length c0_1] 42, .sl (Kd.int .i64) A0_0 c0_0 x0.Shape, .sl Kd.float A0_1 c0_1 x0.Data] w77 := hm74.setBox 3 _ rfl rfl hx78 hg79
    refine go 1 [] [2, 3] [(2, .pointer (some ⟨b28, 0, none⟩)), (3, .int .i64 r49.2)] [] hf76 (by kernel_rfl) trivial fun a81 hf82 => ?_
    refine endL rfl ?_
    have hm83 : Mem [] M w0 [.ow (Kd.int .i64) 3 A66 c67 r49.1.Shape, .ow Kd.float 47 A68 c69 r49.1.Data, .bx b28 [.slice A66 r49.1.Shape.length c67, .slice A68 r49.1.Data.length c69] 42] w77 := hm80.sel [0, 1, 3] _ rfl (by kernel_rfl)
    refine thenN ?_
    refine wp_ret ?_
    have hm84 : Mem [] M w0 [.ow (Kd.int .i64) 3 A66 c67 r49.1.Shape, .ow Kd.float 47 A68 c69 r49.1.Data] w77 := hm83.sel [0, 1] _ rfl (by kernel_rfl)
    obtain rfl := Option.some.inj H0
    refine ret [.agg #[.slice A66 r49.1.Shape.length c67, .slice A68 r49.1.Data.length c69]] [.agg #[.slice A66 r49.1.Shape.length c67, .slice A68 r49.1.Data.length c69], .int .i64 r49.2] [.cell ⟨b28, 0, none⟩ (.slice A66 r49.1.Shape.length c67), .cell ⟨b28, 1, none⟩ (.slice A68 r49.1.Data.length c69)] hf82 (by kernel_rfl) ⟨(hm83.cell 2 rfl rfl), (hm83.cell 2 rfl rfl), trivial⟩ ?_
    exact ⟨_, rfl, A66, c67, A68, c69, rfl, hm84⟩
  · refine inReg ?_
    refine go 1 [.agg #[.slice A0_0 x0.Shape.length c0_0, .slice A0_1 x0.Data.length c0_1]] [1, 2, 4] [(1, .pointer (some ⟨b21, 0, none⟩)), (2, .pointer (some ⟨b28, 0, none⟩)), (4, .agg #[.slice A0_0 x0.Shape.length c0_0, .slice A0_1 x0.Data.length c0_1])] [.cell ⟨b21, 0, none⟩ (.slice A0_0 x0.Shape.length c0_0), .cell ⟨b21, 1, none⟩ (.slice A0_1 x0.Data.length c0_1)] hf36 (by kernel_rfl) ⟨(hm34.cell 1 rfl rfl), (hm34.cell 1 rfl rfl), trivial⟩ fun a86 hf87 => ?_
    refine listOf hf87 rfl (by kernel_rfl) (aCall (fid := 58) (args := [.agg #[.slice A0_0 x0.Shape.length c0_0, .slice A0_1 x0.Data.length c0_1]]) (d := 5) hf87 (by kernel_rfl) (by kernel_rfl) callable58 (tensor_May.calls _ _ x0 A0_0 x0.Shape.length c0_0 rfl A0_1 x0.Data.length c0_1 rfl (hm34.give [2, 3] [.sl (Kd.int .i64) A0_0 c0_0 x0.Shape, .sl Kd.float A0_1 c0_1 x0.Data] rfl rfl) r37 hr37) ?_)
    rintro _ w88 a89 ⟨rfl, hk91⟩ hf90
    have hm92 : Mem [] M w0 [.bx b28 [.slice none 0 0, .slice none 0 0] 42, .bx b21 [.slice A0_0 x0.Shape.length c0_0, .slice A0_1 x0.Data.length c0_1] 42, .sl (Kd.int .i64) A0_0 c0_0 x0.Shape, .sl Kd.float A0_1 c0_1 x0.Data] w88 := hm34.still hk91.cum.none
    rw [c38] at hf90
    refine go 1 [] [1, 2, 6] [(1, .pointer (some ⟨b21, 0, none⟩)), (2, .pointer (some ⟨b28, 0, none⟩)), (6, .bool true)] [] hf90 (by kernel_rfl) trivial fun a93 hf94 => ?_
    refine endL rfl ?_
    refine thenN ?_
    refine condT hf94 (by kernel_rfl) ?_
    refine wp_seq ?_
    refine inReg ?_
    refine go 1 [] [2, 7] [(2, .pointer (some ⟨b28, 0, none⟩)), (7, .agg #[.slice none 0 0, .slice none 0 0])] [] hf94 (by kernel_rfl) trivial fun a95 hf96 => ?_
    refine listOf hf96 rfl (by kernel_rfl) (aStoreB (b := b28) (j := 0) (T := 42) (cs := [.slice none 0 0, .slice none 0 0]) (us := [.slice none 0 0, .slice none 0 0]) (cs' := [.slice none 0 0, .slice none 0 0]) hf96 (by kernel_rfl) (hm92.bxAt 0 rfl) (by kernel_rfl) (by kernel_rfl) (by kernel_rfl) ?_)
    intro w97 hx98 hg99
    have hm100 : Mem [] M w0 [.bx b28 [.slice none 0 0, .slice none 0 0] 42, .bx b21 [.slice A0_0 x0.Shape.length c0_0, .slice A0_1 x0.Data.length c0_1] 42, .sl (Kd.int .i64) A0_0 c0_0 x0.Shape, .sl Kd.float A0_1 c0_1 x0.Data] w97 := hm92.setBox 0 _ rfl rfl hx98 hg99
    refine go 1 [] [2, 3] [(2, .pointer (some ⟨b28, 0, none⟩)), (3, .int .i64 2)] [] hf96 (by kernel_rfl) trivial fun a101 hf102 => ?_
    refine endL rfl ?_
    have hm103 : Mem [] M w0 [.bx b28 [.slice none 0 0, .slice none 0 0] 42] w97 := hm100.sel [0] _ rfl (by kernel_rfl)
    refine thenN ?_
    refine wp_ret ?_
    refine thenR ?_
    have hm104 : Mem [] M w0 [.ow (Kd.int .i64) 3 none 0 ([] : (List Int)), .bx b28 [.slice none 0 0, .slice none 0 0] 42] w97 := hm103.nilOw (Kd.int .i64) 3
    have hm105 : Mem [] M w0 [.ow Kd.float 47 none 0 ([] : (List Nat)), .ow (Kd.int .i64) 3 none 0 ([] : (List Int)), .bx b28 [.slice none 0 0, .slice none 0 0] 42] w97 := hm104.nilOw Kd.float 47
    have hm106 : Mem [] M w0 [.ow (Kd.int .i64) 3 none 0 ([] : (List Int)), .ow Kd.float 47 none 0 ([] : (List Nat))] w97 := hm105.sel [1, 0] _ rfl (by kernel_rfl)
    obtain rfl := Option.some.inj H0
    refine ret [.agg #[.slice none 0 0, .slice none 0 0]] [.agg #[.slice none 0 0, .slice none 0 0], .int .i64 2] [.cell ⟨b28, 0, none⟩ (.slice none 0 0), .cell ⟨b28, 1, none⟩ (.slice none 0 0)] hf102 (by kernel_rfl) ⟨(hm103.cell 0 rfl rfl), (hm103.cell 0 rfl rfl), trivial⟩ ?_
    exact ⟨_, rfl, none, 0, none, 0, rfl, hm106⟩

/-! ### backstitch/backstitchref1.SameTensor -/
noncomputable def ref1_SameTensor.l0 (x0 : Tensor) (x1 : Tensor) (s51 : Int) : Step Int (Out2 Int Bool) :=
  if s51 < (x0.Data.length : Int) then (if 0 ≤ s51 ∧ s51 < (x0.Data.length : Int) then (if 0 ≤ s51 ∧ s51 < (x1.Data.length : Int) then (bindS (ref1_Same.f (rd x0.Data s51) (rd x1.Data s51)) fun r63 =>
  if r63 = true then (.next (w64 (s51 + 1)))
  else (.done (.ret false)))
  else .bad)
  else .bad)
  else (.done (.go s51))
noncomputable def ref1_SameTensor.f (x0 : Tensor) (x1 : Tensor) : Option Bool :=
  (ref1_SameInts.f x0.Shape x1.Shape).bind fun r37 =>
  if r37 = true then (if (x0.Data.length : Int) = (x1.Data.length : Int) then ((loop (ref1_SameTensor.l0 x0 x1) 0).bind fun r52 =>
  r52.on (fun yr52 =>
  some true) (fun y => some y))
  else (some false))
  else (some false)
set_option maxRecDepth 100000 in
set_option maxHeartbeats 4000000 in
theorem ref1_SameTensor.calls (M : List (Option Nat)) (w0 : World) (x0 : Tensor) (A0_0 : Option Addr) (n0_0 c0_0 : Nat) (e0_0 : n0_0 = x0.Shape.length) (A0_1 : Option Addr) (n0_1 c0_1 : Nat) (e0_1 : n0_1 = x0.Data.length) (x1 : Tensor) (A1_0 : Option Addr) (n1_0 c1_0 : Nat) (e1_0 : n1_0 = x1.Shape.length) (A1_1 : Option Addr) (n1_1 c1_1 : Nat) (e1_1 : n1_1 = x1.Data.length) (hm0 : Mem [] M w0 [.sl (Kd.int .i64) A0_0 c0_0 x0.Shape, .sl Kd.float A0_1 c0_1 x0.Data, .sl (Kd.int .i64) A1_0 c1_0 x1.Shape, .sl Kd.float A1_1 c1_1 x1.Data] w0) (r : Bool) (H0 : ref1_SameTensor.f x0 x1 = some r) :
    Calls Try.prog 40 [.agg #[.slice A0_0 n0_0 c0_0, .slice A0_1 n0_1 c0_1], .agg #[.slice A1_0 n1_0 c1_0, .slice A1_1 n1_1 c1_1]].toArray w0 (fun x w' => ∃ v, x = .returned v ∧ v = .bool r ∧ Mem [] M w0 [] w') := by
  subst e0_0
  subst e0_1
  subst e1_0
  subst e1_1
  unfold ref1_SameTensor.f at H0
  refine enter (n := 40) Try.func40 rfl rfl (by kernel_rfl) fun a0 (hf0 : Fr 40 a0 [(0, .agg #[.slice A0_0 x0.Shape.length c0_0, .slice A0_1 x0.Data.length c0_1]), (1, .agg #[.slice A1_0 x1.Shape.length c1_0, .slice A1_1 x1.Data.length c1_1])]) => ?_
  refine wp_seq ?_
  refine inReg ?_
  refine listOf hf0 rfl (by kernel_rfl) (aNew (cs := [.slice A0_0 x0.Shape.length c0_0, .slice A0_1 x0.Data.length c0_1]) (T := 42) (d := 2) hf0 (by kernel_rfl) (by kernel_rfl) ?_)
  intro b21 w22 a23 hbb21 hx25 hg26 hf24
  have hm27 : Mem [] M w0 [.bx b21 [.slice A0_0 x0.Shape.length c0_0, .slice A0_1 x0.Data.length c0_1] 42, .sl (Kd.int .i64) A0_0 c0_0 x0.Shape, .sl Kd.float A0_1 c0_1 x0.Data, .sl (Kd.int .i64) A1_0 c1_0 x1.Shape, .sl Kd.float A1_1 c1_1 x1.Data] w22 := hm0.box hbb21 hx25 hg26
  refine listOf hf24 rfl (by kernel_rfl) (aNew (cs := [.slice A1_0 x1.Shape.length c1_0, .slice A1_1 x1.Data.length c1_1]) (T := 42) (d := 3) hf24 (by kernel_rfl) (by kernel_rfl) ?_)
  intro b28 w29 a30 hbb28 hx32 hg33 hf31
  have hm34 : Mem [] M w0 [.bx b28 [.slice A1_0 x1.Shape.length c1_0, .slice A1_1 x1.Data.length c1_1] 42, .bx b21 [.slice A0_0 x0.Shape.length c0_0, .slice A0_1 x0.Data.length c0_1] 42, .sl (Kd.int .i64) A0_0 c0_0 x0.Shape, .sl Kd.float A0_1 c0_1 x0.Data, .sl (Kd.int .i64) A1_0 c1_0 x1.Shape, .sl Kd.float A1_1 c1_1 x1.Data] w29 := hm27.box hbb28 hx32 hg33
  refine go 1 [] [2, 3] [(2, .pointer (some ⟨b21, 0, none⟩)), (3, .pointer (some ⟨b28, 0, none⟩))] [] hf31 (by kernel_rfl) trivial fun a35 hf36 => ?_
  refine endL rfl ?_
  refine thenN ?_
  refine wp_seq ?_
  refine wp_seq ?_
  obtain ⟨r37, hr37, H0⟩ := ob_split H0
  rcases ifb_split H0 with ⟨c38, H0⟩ | ⟨c38, H0⟩
  · rcases if_split H0 with ⟨c39, H0⟩ | ⟨c39, H0⟩
    · refine inReg ?_
      refine go 4 [.slice A0_0 x0.Shape.length c0_0, .slice A1_0 x1.Shape.length c1_0] [2, 3, 7, 9] [(2, .pointer (some ⟨b21, 0, none⟩)), (3, .pointer (some ⟨b28, 0, none⟩)), (7, .slice A0_0 x0.Shape.length c0_0), (9, .slice A1_0 x1.Shape.length c1_0)] [.cell ⟨b21, 0, none⟩ (.slice A0_0 x0.Shape.length c0_0), .cell ⟨b28, 0, none⟩ (.slice A1_0 x1.Shape.length c1_0)] hf36 (by kernel_rfl) ⟨(hm34.cell 1 rfl rfl), (hm34.cell 0 rfl rfl), trivial⟩ fun a40 hf41 => ?_
      refine listOf hf41 rfl (by kernel_rfl) (aCall (fid := 18) (args := [.slice A0_0 x0.Shape.length c0_0, .slice A1_0 x1.Shape.length c1_0]) (d := 10) hf41 (by kernel_rfl) (by kernel_rfl) callable18 (ref1_SameInts.calls _ _ x0.Shape A0_0 x0.Shape.length c0_0 rfl x1.Shape A1_0 x1.Shape.length c1_0 rfl (hm34.give [2, 4] [.sl (Kd.int .i64) A0_0 c0_0 x0.Shape, .sl (Kd.int .i64) A1_0 c1_0 x1.Shape] rfl rfl) r37 hr37) ?_)
      rintro _ w42 a43 ⟨rfl, hk45⟩ hf44
      have hm46 : Mem [] M w0 [.bx b28 [.slice A1_0 x1.Shape.length c1_0, .slice A1_1 x1.Data.length c1_1] 42, .bx b21 [.slice A0_0 x0.Shape.length c0_0, .slice A0_1 x0.Data.length c0_1] 42, .sl (Kd.int .i64) A0_0 c0_0 x0.Shape, .sl Kd.float A0_1 c0_1 x0.Data, .sl (Kd.int .i64) A1_0 c1_0 x1.Shape, .sl Kd.float A1_1 c1_1 x1.Data] w42 := hm34.still hk45.cum.none
      rw [c38] at hf44
      refine go 10 [.slice A0_1 x0.Data.length c0_1, .slice A1_1 x1.Data.length c1_1, .bool false] [2, 3, 20] [(2, .pointer (some ⟨b21, 0, none⟩)), (3, .pointer (some ⟨b28, 0, none⟩)), (20, .bool false)] [.cell ⟨b21, 1, none⟩ (.slice A0_1 x0.Data.length c0_1), .cell ⟨b28, 1, none⟩ (.slice A1_1 x1.Data.length c1_1), .is ((((x0.Data.length : Int) : Int) != (x1.Data.length : Int)) = false)] hf44 (by kernel_rfl) ⟨(hm46.cell 1 rfl rfl), (hm46.cell 0 rfl rfl), (neF c39), trivial⟩ fun a47 hf48 => ?_
      refine endL rfl ?_
      refine thenN ?_
      refine condF hf48 (by kernel_rfl) ?_
      refine wp_skip ?_
      refine thenN ?_
      refine wp_seq ?_
      refine wp_seq ?_
      refine reg [] [2, 3, 5] [(2, .pointer (some ⟨b21, 0, none⟩)), (3, .pointer (some ⟨b28, 0, none⟩)), (5, .int .i64 0)] [] hf48 (by kernel_rfl) trivial fun a49 hf50 => ?_
      refine thenN ?_
      obtain ⟨r52, hr52, H0⟩ := ob_split H0
      refine wpBlock (Mid := fun (a : Act) (w : World) => ∃ yr52 : Int, r52 = .go yr52 ∧ Fr 40 a [(2, .pointer (some ⟨b21, 0, none⟩)), (3, .pointer (some ⟨b28, 0, none⟩)), (5, .int .i64 yr52)] ∧ Mem [] M w0 [.bx b28 [.slice A1_0 x1.Shape.length c1_0, .slice A1_1 x1.Data.length c1_1] 42, .bx b21 [.slice A0_0 x0.Shape.length c0_0, .slice A0_1 x0.Data.length c0_1] 42, .sl (Kd.int .i64) A0_0 c0_0 x0.Shape, .sl Kd.float A0_1 c0_1 x0.Data, .sl (Kd.int .i64) A1_0 c1_0 x1.Shape, .sl Kd.float A1_1 c1_1 x1.Data] w) ?_ ?_
      · refine wpLoop (ref1_SameTensor.l0 x0 x1) r52 (fun (s51 : Int) (a : Act) (w : World) => Fr 40 a [(2, .pointer (some ⟨b21, 0, none⟩)), (3, .pointer (some ⟨b28, 0, none⟩)), (5, .int .i64 s51)] ∧ Mem [] M w0 [.bx b28 [.slice A1_0 x1.Shape.length c1_0, .slice A1_1 x1.Data.length c1_1] 42, .bx b21 [.slice A0_0 x0.Shape.length c0_0, .slice A0_1 x0.Data.length c0_1] 42, .sl (Kd.int .i64) A0_0 c0_0 x0.Shape, .sl Kd.float A0_1 c0_1 x0.Data, .sl (Kd.int .i64) A1_0 c1_0 x1.Shape, .sl Kd.float A1_1 c1_1 x1.Data] w) 0 hr52 ⟨hf50.sel (l := [2, 3, 5]) (by kernel_rfl), hm46.sel [0, 1, 2, 3, 4, 5] _ rfl (by kernel_rfl)⟩ ?_
        rintro g53 s51 a54 w55 H1 ⟨hf56, hm57⟩
        unfold ref1_SameTensor.l0 at H1
        refine wp_seq ?_
        refine wp_seq ?_
        rcases ifS_split H1 with ⟨c58, H1⟩ | ⟨c58, H1⟩
        · refine reg [.slice A0_1 x0.Data.length c0_1, .bool true] [2, 3, 5, 25] [(2, .pointer (some ⟨b21, 0, none⟩)), (3, .pointer (some ⟨b28, 0, none⟩)), (5, .int .i64 s51), (25, .bool true)] [.cell ⟨b21, 1, none⟩ (.slice A0_1 x0.Data.length c0_1), .is (decide (s51 < (x0.Data.length : Int)) = true)] hf56 (by kernel_rfl) ⟨(hm57.cell 1 rfl rfl), (decide_eq_true c58), trivial⟩ fun a59 hf60 => ?_
          refine thenN ?_
          refine condT hf60 (by kernel_rfl) ?_
          refine wp_skip ?_
          refine thenN ?_
          refine wp_seq ?_
          refine wp_block ?_
          refine wp_seq ?_
          obtain ⟨g61, H1⟩ := ifS_guard H1
          obtain ⟨g62, H1⟩ := ifS_guard H1
          obtain ⟨r63, hr63, H1⟩ := obS_split H1
          rcases ifbS_split H1 with ⟨c65, H1⟩ | ⟨c65, H1⟩
          · refine midReg (fun (a : Act) (w : World) => Fr 40 a [(2, .pointer (some ⟨b21, 0, none⟩)), (3, .pointer (some ⟨b28, 0, none⟩)), (5, .int .i64 s51), (39, .bool false)] ∧ Mem [] M w0 [.bx b28 [.slice A1_0 x1.Shape.length c1_0, .slice A1_1 x1.Data.length c1_1] 42, .bx b21 [.slice A0_0 x0.Shape.length c0_0, .slice A0_1 x0.Data.length c0_1] 42, .sl (Kd.int .i64) A0_0 c0_0 x0.Shape, .sl Kd.float A0_1 c0_1 x0.Data, .sl (Kd.int .i64) A1_0 c1_0 x1.Shape, .sl Kd.float A1_1 c1_1 x1.Data] w) ?_ ?_
            · refine anyG [] (by kernel_rfl) fun w75 hg76 => ?_
              have hm77 : Mem [] M w0 [.bx b28 [.slice A1_0 x1.Shape.length c1_0, .slice A1_1 x1.Data.length c1_1] 42, .bx b21 [.slice A0_0 x0.Shape.length c0_0, .slice A0_1 x0.Data.length c0_1] 42, .sl (Kd.int .i64) A0_0 c0_0 x0.Shape, .sl Kd.float A0_1 c0_1 x0.Data, .sl (Kd.int .i64) A1_0 c1_0 x1.Shape, .sl Kd.float A1_1 c1_1 x1.Data] w75 := hm57.still hg76
              have q91 := (hm77.slAt 3 rfl).float s51 g61.1 g61.2
              obtain ⟨b92, hb92, kb92⟩ := q91.2
              have q93 := (hm77.slAt 5 rfl).float s51 g62.1 g62.2
              obtain ⟨b94, hb94, kb94⟩ := q93.2
              refine quiet0 [0, 1, 2, 3, 4, 5, 6, 7, 8, 9] [.slice A0_1 x0.Data.length c0_1, .float .f64 b92, .slice A1_1 x1.Data.length c1_1, .float .f64 b94] [2, 3, 5, 32, 37] #[true, true, true, true, true, true, true, true, true, true, false, false] [(2, .pointer (some ⟨b21, 0, none⟩)), (3, .pointer (some ⟨b28, 0, none⟩)), (5, .int .i64 s51), (32, .float .f64 b92), (37, .float .f64 b94)] [.cell ⟨b21, 1, none⟩ (.slice A0_1 x0.Data.length c0_1), .is (Option.isSome A0_1 = true), .is (0 ≤ s51 ∧ s51 < (x0.Data.length : Int)), .cell ((ad A0_1).add ((s51).toNat * 1)) (.float .f64 b92), .cell ⟨b28, 1, none⟩ (.slice A1_1 x1.Data.length c1_1), .is (Option.isSome A1_1 = true), .is (0 ≤ s51 ∧ s51 < (x1.Data.length : Int)), .cell ((ad A1_1).add ((s51).toNat * 1)) (.float .f64 b94)] 2 rfl (by kernel_rfl) (fun _ _ _ _ _ h => nomatch h.1) hf60 (by kernel_rfl) ⟨(hm77.cell 1 rfl rfl), q91.1, g61, kb92, (hm77.cell 0 rfl rfl), q93.1, g62, kb94, trivial⟩ fun a95 hf96 => ?_
              refine all1 10 (by kernel_rfl) ?_
              refine opOf hf96 rfl (by kernel_rfl) (aCall (fid := 35) (args := [.float .f64 b92, .float .f64 b94]) (d := 38) hf96 (by kernel_rfl) (by kernel_rfl) callable35 (ref1_Same.calls _ _ (rd x0.Data s51) b92 hb92 (rd x1.Data s51) b94 hb94 (hm77.give [] [] rfl rfl) r63 hr63) ?_)
              rintro _ w97 a98 ⟨rfl, hk100⟩ hf99
              refine ⟨.inr (Gr.still hk100.cum.none), ?_⟩
              have hm101 : Mem [] M w0 [.bx b28 [.slice A1_0 x1.Shape.length c1_0, .slice A1_1 x1.Data.length c1_1] 42, .bx b21 [.slice A0_0 x0.Shape.length c0_0, .slice A0_1 x0.Data.length c0_1] 42, .sl (Kd.int .i64) A0_0 c0_0 x0.Shape, .sl Kd.float A0_1 c0_1 x0.Data, .sl (Kd.int .i64) A1_0 c1_0 x1.Shape, .sl Kd.float A1_1 c1_1 x1.Data] w97 := hm77.still hk100.cum.none
              rw [c65] at hf99
              refine quiet0 [11] [] [2, 3, 5, 39] #[true, true, true, true, true, true, true, true, true, true, true, true] [(2, .pointer (some ⟨b21, 0, none⟩)), (3, .pointer (some ⟨b28, 0, none⟩)), (5, .int .i64 s51), (39, .bool false)] [] 0 rfl (by kernel_rfl) (fun _ _ _ _ _ h => nomatch h.1) hf99 (by kernel_rfl) trivial fun a102 hf103 => ?_
              refine allDone (by kernel_rfl) ⟨rfl, hf103.sel (l := [2, 3, 5, 39]) (by kernel_rfl), hm101.sel [0, 1, 2, 3, 4, 5] _ rfl (by kernel_rfl)⟩
            rintro a104 w105 ⟨hf106, hm107⟩
            refine thenN ?_
            refine condF hf106 (by kernel_rfl) ?_
            refine wp_skip ?_
            refine blkN ?_
            refine thenN ?_
            refine reg [] [2, 3, 5] [(2, .pointer (some ⟨b21, 0, none⟩)), (3, .pointer (some ⟨b28, 0, none⟩)), (5, .int .i64 (w64 (s51 + 1)))] [] hf106 (by kernel_rfl) trivial fun a108 hf109 => ?_
            exact ⟨(w64 (s51 + 1)), H1, hf109.sel (l := [2, 3, 5]) (by kernel_rfl), hm107.sel [0, 1, 2, 3, 4, 5] _ rfl (by kernel_rfl)⟩
          · refine midReg (fun (a : Act) (w : World) => Fr 40 a [(2, .pointer (some ⟨b21, 0, none⟩)), (3, .pointer (some ⟨b28, 0, none⟩)), (5, .int .i64 s51), (39, .bool true)] ∧ Mem [] M w0 [.bx b28 [.slice A1_0 x1.Shape.length c1_0, .slice A1_1 x1.Data.length c1_1] 42, .bx b21 [.slice A0_0 x0.Shape.length c0_0, .slice A0_1 x0.Data.length c0_1] 42, .sl (Kd.int .i64) A0_0 c0_0 x0.Shape, .sl Kd.float A0_1 c0_1 x0.Data, .sl (Kd.int .i64) A1_0 c1_0 x1.Shape, .sl Kd.float A1_1 c1_1 x1.Data] w) ?_ ?_
            · refine anyG [] (by kernel_rfl) fun w119 hg120 => ?_
              have hm121 : Mem [] M w0 [.bx b28 [.slice A1_0 x1.Shape.length c1_0, .slice A1_1 x1.Data.length c1_1] 42, .bx b21 [.slice A0_0 x0.Shape.length c0_0, .slice A0_1 x0.Data.length c0_1] 42, .sl (Kd.int .i64) A0_0 c0_0 x0.Shape, .sl Kd.float A0_1 c0_1 x0.Data, .sl (Kd.int .i64) A1_0 c1_0 x1.Shape, .sl Kd.float A1_1 c1_1 x1.Data] w119 := hm57.still hg120
              have q135 := (hm121.slAt 3 rfl).float s51 g61.1 g61.2
              obtain ⟨b136, hb136, kb136⟩ := q135.2
              have q137 := (hm121.slAt 5 rfl).float s51 g62.1 g62.2
              obtain ⟨b138, hb138, kb138⟩ := q137.2
              refine quiet0 [0, 1, 2, 3, 4, 5, 6, 7, 8, 9] [.slice A0_1 x0.Data.length c0_1, .float .f64 b136, .slice A1_1 x1.Data.length c1_1, .float .f64 b138] [2, 3, 5, 32, 37] #[true, true, true, true, true, true, true, true, true, true, false, false] [(2, .pointer (some ⟨b21, 0, none⟩)), (3, .pointer (some ⟨b28, 0, none⟩)), (5, .int .i64 s51), (32, .float .f64 b136), (37, .float .f64 b138)] [.cell ⟨b21, 1, none⟩ (.slice A0_1 x0.Data.length c0_1), .is (Option.isSome A0_1 = true), .is (0 ≤ s51 ∧ s51 < (x0.Data.length : Int)), .cell ((ad A0_1).add ((s51).toNat * 1)) (.float .f64 b136), .cell ⟨b28, 1, none⟩ (.slice A1_1 x1.Data.length c1_1), .is (Option.isSome A1_1 = true), .is (0 ≤ s51 ∧ s51 < (x1.Data.length : Int)), .cell ((ad A1_1).add ((s51).toNat * 1)) (.float .f64 b138)] 2 rfl (by kernel_rfl) (fun _ _ _ _ _ h => nomatch h.1) hf60 (by kernel_rfl) ⟨(hm121.cell 1 rfl rfl), q135.1, g61, kb136, (hm121.cell 0 rfl rfl), q137.1, g62, kb138, trivial⟩ fun a139 hf140 => ?_
              refine all1 10 (by kernel_rfl) ?_
              refine opOf hf140 rfl (by kernel_rfl) (aCall (fid := 35) (args := [.float .f64 b136, .float .f64 b138]) (d := 38) hf140 (by kernel_rfl) (by kernel_rfl) callable35 (ref1_Same.calls _ _ (rd x0.Data s51) b136 hb136 (rd x1.Data s51) b138 hb138 (hm121.give [] [] rfl rfl) r63 hr63) ?_)
              rintro _ w141 a142 ⟨rfl, hk144⟩ hf143
              refine ⟨.inr (Gr.still hk144.cum.none), ?_⟩
              have hm145 : Mem [] M w0 [.bx b28 [.slice A1_0 x1.Shape.length c1_0, .slice A1_1 x1.Data.length c1_1] 42, .bx b21 [.slice A0_0 x0.Shape.length c0_0, .slice A0_1 x0.Data.length c0_1] 42, .sl (Kd.int .i64) A0_0 c0_0 x0.Shape, .sl Kd.float A0_1 c0_1 x0.Data, .sl (Kd.int .i64) A1_0 c1_0 x1.Shape, .sl Kd.float A1_1 c1_1 x1.Data] w141 := hm121.still hk144.cum.none
              rw [c65] at hf143
              refine quiet0 [11] [] [2, 3, 5, 39] #[true, true, true, true, true, true, true, true, true, true, true, true] [(2, .pointer (some ⟨b21, 0, none⟩)), (3, .pointer (some ⟨b28, 0, none⟩)), (5, .int .i64 s51), (39, .bool true)] [] 0 rfl (by kernel_rfl) (fun _ _ _ _ _ h => nomatch h.1) hf143 (by kernel_rfl) trivial fun a146 hf147 => ?_
              refine allDone (by kernel_rfl) ⟨rfl, hf147.sel (l := [2, 3, 5, 39]) (by kernel_rfl), hm145.sel [0, 1, 2, 3, 4, 5] _ rfl (by kernel_rfl)⟩
            rintro a148 w149 ⟨hf150, hm151⟩
            refine thenN ?_
            refine condT hf150 (by kernel_rfl) ?_
            refine wp_seq ?_
            refine reg [] [4] [(4, .bool false)] [] hf150 (by kernel_rfl) trivial fun a152 hf153 => ?_
            have hm154 : Mem [] M w0 [] w149 := hm151.sel [] _ rfl (by kernel_rfl)
            refine thenN ?_
            refine wp_ret ?_
            refine blkR ?_
            refine thenR ?_
            refine thenR ?_
            refine .inr ⟨rfl, ?_⟩
            refine thenR ?_
            have hm155 : Mem [] M w0 [] w149 := hm154.sel [] _ rfl (by kernel_rfl)
            obtain rfl := Option.some.inj H1
            obtain rfl := Option.some.inj H0
            refine ret [] [.bool false] [] hf153 (by kernel_rfl) trivial ?_
            exact ⟨_, rfl, rfl, hm155⟩
        · refine reg [.slice A0_1 x0.Data.length c0_1, .bool false] [2, 3, 5, 25] [(2, .pointer (some ⟨b21, 0, none⟩)), (3, .pointer (some ⟨b28, 0, none⟩)), (5, .int .i64 s51), (25, .bool false)] [.cell ⟨b21, 1, none⟩ (.slice A0_1 x0.Data.length c0_1), .is (decide (s51 < (x0.Data.length : Int)) = false)] hf56 (by kernel_rfl) ⟨(hm57.cell 1 rfl rfl), (decide_eq_false c58), trivial⟩ fun a157 hf158 => ?_
          refine thenN ?_
          refine condF hf158 (by kernel_rfl) ?_
          refine wp_exit ?_
          refine thenE ?_
          refine thenE ?_
          obtain rfl := Option.some.inj H1
          exact .inl ⟨rfl, s51, rfl, hf158.sel (l := [2, 3, 5]) (by kernel_rfl), hm57.sel [0, 1, 2, 3, 4, 5] _ rfl (by kernel_rfl)⟩
      rintro a159 w160 ⟨yr52, rfl, hf161, hm162⟩
      refine thenN ?_
      refine wp_seq ?_
      refine reg [] [4] [(4, .bool true)] [] hf161 (by kernel_rfl) trivial fun a163 hf164 => ?_
      have hm165 : Mem [] M w0 [] w160 := hm162.sel [] _ rfl (by kernel_rfl)
      refine thenN ?_
      refine wp_ret ?_
      have hm166 : Mem [] M w0 [] w160 := hm165.sel [] _ rfl (by kernel_rfl)
      obtain rfl := Option.some.inj H0
      refine ret [] [.bool true] [] hf164 (by kernel_rfl) trivial ?_
      exact ⟨_, rfl, rfl, hm166⟩
    · refine inReg ?_
      refine go 4 [.slice A0_0 x0.Shape.length c0_0, .slice A1_0 x1.Shape.length c1_0] [2, 3, 7, 9] [(2, .pointer (some ⟨b21, 0, none⟩)), (3, .pointer (some ⟨b28, 0, none⟩)), (7, .slice A0_0 x0.Shape.length c0_0), (9, .slice A1_0 x1.Shape.length c1_0)] [.cell ⟨b21, 0, none⟩ (.slice A0_0 x0.Shape.length c0_0), .cell ⟨b28, 0, none⟩ (.slice A1_0 x1.Shape.length c1_0)] hf36 (by kernel_rfl) ⟨(hm34.cell 1 rfl rfl), (hm34.cell 0 rfl rfl), trivial⟩ fun a168 hf169 => ?_
      refine listOf hf169 rfl (by kernel_rfl) (aCall (fid := 18) (args := [.slice A0_0 x0.Shape.length c0_0, .slice A1_0 x1.Shape.length c1_0]) (d := 10) hf169 (by kernel_rfl) (by kernel_rfl) callable18 (ref1_SameInts.calls _ _ x0.Shape A0_0 x0.Shape.length c0_0 rfl x1.Shape A1_0 x1.Shape.length c1_0 rfl (hm34.give [2, 4] [.sl (Kd.int .i64) A0_0 c0_0 x0.Shape, .sl (Kd.int .i64) A1_0 c1_0 x1.Shape] rfl rfl) r37 hr37) ?_)
      rintro _ w170 a171 ⟨rfl, hk173⟩ hf172
      have hm174 : Mem [] M w0 [.bx b28 [.slice A1_0 x1.Shape.length c1_0, .slice A1_1 x1.Data.length c1_1] 42, .bx b21 [.slice A0_0 x0.Shape.length c0_0, .slice A0_1 x0.Data.length c0_1] 42, .sl (Kd.int .i64) A0_0 c0_0 x0.Shape, .sl Kd.float A0_1 c0_1 x0.Data, .sl (Kd.int .i64) A1_0 c1_0 x1.Shape, .sl Kd.float A1_1 c1_1 x1.Data] w170 := hm34.still hk173.cum.none
      rw [c38] at hf172
      refine go 10 [.slice A0_1 x0.Data.length c0_1, .slice A1_1 x1.Data.length c1_1, .bool true] [2, 3, 20] [(2, .pointer (some ⟨b21, 0, none⟩)), (3, .pointer (some ⟨b28, 0, none⟩)), (20, .bool true)] [.cell ⟨b21, 1, none⟩ (.slice A0_1 x0.Data.length c0_1), .cell ⟨b28, 1, none⟩ (.slice A1_1 x1.Data.length c1_1), .is ((((x0.Data.length : Int) : Int) != (x1.Data.length : Int)) = true)] hf172 (by kernel_rfl) ⟨(hm174.cell 1 rfl rfl), (hm174.cell 0 rfl rfl), (neT c39), trivial⟩ fun a175 hf176 => ?_
      refine endL rfl ?_
      refine thenN ?_
      refine condT hf176 (by kernel_rfl) ?_
      refine wp_seq ?_
      refine reg [] [4] [(4, .bool false)] [] hf176 (by kernel_rfl) trivial fun a177 hf178 => ?_
      have hm179 : Mem [] M w0 [] w170 := hm174.sel [] _ rfl (by kernel_rfl)
      refine thenN ?_
      refine wp_ret ?_
      refine thenR ?_
      have hm180 : Mem [] M w0 [] w170 := hm179.sel [] _ rfl (by kernel_rfl)
      obtain rfl := Option.some.inj H0
      refine ret [] [.bool false] [] hf178 (by kernel_rfl) trivial ?_
      exact ⟨_, rfl, rfl, hm180⟩
  · refine inReg ?_
    refine go 4 [.slice A0_0 x0.Shape.length c0_0, .slice A1_0 x1.Shape.length c1_0] [2, 3, 7, 9] [(2, .pointer (some ⟨b21, 0, none⟩)), (3, .pointer (some ⟨b28, 0, none⟩)), (7, .slice A0_0 x0.Shape.length c0_0), (9, .slice A1_0 x1.Shape.length c1_0)] [.cell ⟨b21, 0, none⟩ (.slice A0_0 x0.Shape.length c0_0), .cell ⟨b28, 0, none⟩ (.slice A1_0 x1.Shape.length c1_0)] hf36 (by kernel_rfl) ⟨(hm34.cell 1 rfl rfl), (hm34.cell 0 rfl rfl), trivial⟩ fun a182 hf183 => ?_
    refine listOf hf183 rfl (by kernel_rfl) (aCall (fid := 18) (args := [.slice A0_0 x0.Shape.length c0_0, .slice A1_0 x1.Shape.length c1_0]) (d := 10) hf183 (by kernel_rfl) (by kernel_rfl) callable18 (ref1_SameInts.calls _ _ x0.Shape A0_0 x0.Shape.length c0_0 rfl x1.Shape A1_0 x1.Shape.length c1_0 rfl (hm34.give [2, 4] [.sl (Kd.int .i64) A0_0 c0_0 x0.Shape, .sl (Kd.int .i64) A1_0 c1_0 x1.Shape] rfl rfl) r37 hr37) ?_)
    rintro _ w184 a185 ⟨rfl, hk187⟩ hf186
    have hm188 : Mem [] M w0 [.bx b28 [.slice A1_0 x1.Shape.length c1_0, .slice A1_1 x1.Data.length c1_1] 42, .bx b21 [.slice A0_0 x0.Shape.length c0_0, .slice A0_1 x0.Data.length c0_1] 42, .sl (Kd.int .i64) A0_0 c0_0 x0.Shape, .sl Kd.float A0_1 c0_1 x0.Data, .sl (Kd.int .i64) A1_0 c1_0 x1.Shape, .sl Kd.float A1_1 c1_1 x1.Data] w184 := hm34.still hk187.cum.none
    rw [c38] at hf186
    refine go 10 [] [2, 3, 20] [(2, .pointer (some ⟨b21, 0, none⟩)), (3, .pointer (some ⟨b28, 0, none⟩)), (20, .bool true)] [] hf186 (by kernel_rfl) trivial fun a189 hf190 => ?_
    refine endL rfl ?_
    refine thenN ?_
    refine condT hf190 (by kernel_rfl) ?_
    refine wp_seq ?_
    refine reg [] [4] [(4, .bool false)] [] hf190 (by kernel_rfl) trivial fun a191 hf192 => ?_
    have hm193 : Mem [] M w0 [] w184 := hm188.sel [] _ rfl (by kernel_rfl)
    refine thenN ?_
    refine wp_ret ?_
    refine thenR ?_
    have hm194 : Mem [] M w0 [] w184 := hm193.sel [] _ rfl (by kernel_rfl)
    obtain rfl := Option.some.inj H0
    refine ret [] [.bool false] [] hf192 (by kernel_rfl) trivial ?_
    exact ⟨_, rfl, rfl, hm194⟩

/-! ### backstitch/backstitchref1.Size -/
noncomputable def ref1_Size.l0 (x0 : (List Int)) (s35 : Int) : Step Int (Out2 Int (Int × Int)) :=
  if s35 < (x0.length : Int) then (if 0 ≤ s35 ∧ s35 < (x0.length : Int) then (if (rd x0 s35) < 1 then (.done (.ret (0, 2)))
  else (.next (w64 (s35 + 1))))
  else .bad)
  else (.done (.go s35))
noncomputable def ref1_Size.l1 (x0 : (List Int)) (s71 : (Int × Int)) : Step (Int × Int) (Out2 (Int × Int) (Int × Int)) :=
  if s71.2 < (x0.length : Int) then (if 0 ≤ s71.2 ∧ s71.2 < (x0.length : Int) then (if s71.1 ≠ 0 then (if (w64 (Int.tdiv 4096 s71.1)) < (rd x0 s71.2) then (.done (.ret (0, 3)))
  else (.next ((w64 (s71.1 * (rd x0 s71.2))), (w64 (s71.2 + 1)))))
  else .bad)
  else .bad)
  else (.done (.go (s71.1, s71.2)))
noncomputable def ref1_Size.f (x0 : (List Int)) : Option (Int × Int) :=
  if 4 < (x0.length : Int) then (some (0, 2))
  else ((loop (ref1_Size.l0 x0) 0).bind fun r36 =>
  r36.on (fun yr36 =>
  (loop (ref1_Size.l1 x0) (1, 0)).bind fun r72 =>
  r72.on (fun yr72 =>
  some (yr72.1, 0)) (fun y => some y)) (fun y => some y))
set_option maxRecDepth 100000 in
set_option maxHeartbeats 4000000 in
theorem ref1_Size.calls (M : List (Option Nat)) (w0 : World) (x0 : (List Int)) (A0 : Option Addr) (n0 c0 : Nat) (e0 : n0 = x0.length) (hm0 : Mem [] M w0 [.sl (Kd.int .i64) A0 c0 x0] w0) (r : (Int × Int)) (H0 : ref1_Size.f x0 = some r) :
    Calls Try.prog 24 [.slice A0 n0 c0].toArray w0 (fun x w' => ∃ v, x = .returned v ∧ v = .tuple #[.int .i64 r.1, .int .i64 r.2] ∧ Mem [] M w0 [] w') := by
  subst e0
  unfold ref1_Size.f at H0
  refine enter (n := 41) Try.func24 rfl rfl (by kernel_rfl) fun a0 (hf0 : Fr 41 a0 [(0, .slice A0 x0.length c0)]) => ?_
  refine wp_seq ?_
  refine reg [] [0] [(0, .slice A0 x0.length c0)] [] hf0 (by kernel_rfl) trivial fun a21 hf22 => ?_
  refine thenN ?_
  refine wp_seq ?_
  refine wp_seq ?_
  rcases if_split H0 with ⟨c23, H0⟩ | ⟨c23, H0⟩
  · refine reg [.bool true] [0, 9] [(0, .slice A0 x0.length c0), (9, .bool true)] [.is (decide (4 < (x0.length : Int)) = true)] hf22 (by kernel_rfl) ⟨(decide_eq_true c23), trivial⟩ fun a24 hf25 => ?_
    refine thenN ?_
    refine condT hf25 (by kernel_rfl) ?_
    refine wp_seq ?_
    refine reg [] [2, 3] [(2, .int .i64 0), (3, .int .i64 2)] [] hf25 (by kernel_rfl) trivial fun a26 hf27 => ?_
    have hm28 : Mem [] M w0 [] w0 := hm0.sel [] _ rfl (by kernel_rfl)
    refine thenN ?_
    refine wp_ret ?_
    refine thenR ?_
    have hm29 : Mem [] M w0 [] w0 := hm28.sel [] _ rfl (by kernel_rfl)
    obtain rfl := Option.some.inj H0
    refine ret [] [.int .i64 0, .int .i64 2] [] hf27 (by kernel_rfl) trivial ?_
    exact ⟨_, rfl, rfl, hm29⟩
  · refine reg [.bool false] [0, 9] [(0, .slice A0 x0.length c0), (9, .bool false)] [.is (decide (4 < (x0.length : Int)) = false)] hf22 (by kernel_rfl) ⟨(decide_eq_false c23), trivial⟩ fun a31 hf32 => ?_
    refine thenN ?_
    refine condF hf32 (by kernel_rfl) ?_
    refine wp_skip ?_
    refine thenN ?_
    refine wp_seq ?_
    refine wp_seq ?_
    refine reg [] [0, 4] [(0, .slice A0 x0.length c0), (4, .int .i64 0)] [] hf32 (by kernel_rfl) trivial fun a33 hf34 => ?_
    refine thenN ?_
    obtain ⟨r36, hr36, H0⟩ := ob_split H0
    refine wpBlock (Mid := fun (a : Act) (w : World) => ∃ yr36 : Int, r36 = .go yr36 ∧ Fr 41 a [(0, .slice A0 x0.length c0), (4, .int .i64 yr36)] ∧ Mem [] M w0 [.sl (Kd.int .i64) A0 c0 x0] w) ?_ ?_
    · refine wpLoop (ref1_Size.l0 x0) r36 (fun (s35 : Int) (a : Act) (w : World) => Fr 41 a [(0, .slice A0 x0.length c0), (4, .int .i64 s35)] ∧ Mem [] M w0 [.sl (Kd.int .i64) A0 c0 x0] w) 0 hr36 ⟨hf34.sel (l := [0, 4]) (by kernel_rfl), hm0.sel [0] _ rfl (by kernel_rfl)⟩ ?_
      rintro g37 s35 a38 w39 H1 ⟨hf40, hm41⟩
      unfold ref1_Size.l0 at H1
      refine wp_seq ?_
      refine wp_seq ?_
      rcases ifS_split H1 with ⟨c42, H1⟩ | ⟨c42, H1⟩
      · refine reg [.bool true] [0, 4, 13] [(0, .slice A0 x0.length c0), (4, .int .i64 s35), (13, .bool true)] [.is (decide (s35 < (x0.length : Int)) = true)] hf40 (by kernel_rfl) ⟨(decide_eq_true c42), trivial⟩ fun a43 hf44 => ?_
        refine thenN ?_
        refine condT hf44 (by kernel_rfl) ?_
        refine wp_skip ?_
        refine thenN ?_
        refine wp_seq ?_
        refine wp_block ?_
        refine wp_seq ?_
        obtain ⟨g45, H1⟩ := ifS_guard H1
        rcases ifS_split H1 with ⟨c46, H1⟩ | ⟨c46, H1⟩
        · have q47 := (hm41.slAt 0 rfl).int s35 g45.1 g45.2
          refine reg [.int .i64 (rd x0 s35), .bool true] [0, 4, 20] [(0, .slice A0 x0.length c0), (4, .int .i64 s35), (20, .bool true)] [.is (Option.isSome A0 = true), .is (0 ≤ s35 ∧ s35 < (x0.length : Int)), .cell ((ad A0).add ((s35).toNat * 1)) (.int .i64 (rd x0 s35)), .is (decide ((rd x0 s35) < 1) = true)] hf44 (by kernel_rfl) ⟨q47.1, g45, q47.2, (decide_eq_true c46), trivial⟩ fun a48 hf49 => ?_
          refine thenN ?_
          refine condT hf49 (by kernel_rfl) ?_
          refine wp_seq ?_
          refine reg [] [2, 3] [(2, .int .i64 0), (3, .int .i64 2)] [] hf49 (by kernel_rfl) trivial fun a50 hf51 => ?_
          have hm52 : Mem [] M w0 [] w39 := hm41.sel [] _ rfl (by kernel_rfl)
          refine thenN ?_
          refine wp_ret ?_
          refine blkR ?_
          refine thenR ?_
          refine thenR ?_
          refine .inr ⟨rfl, ?_⟩
          refine thenR ?_
          have hm53 : Mem [] M w0 [] w39 := hm52.sel [] _ rfl (by kernel_rfl)
          obtain rfl := Option.some.inj H1
          obtain rfl := Option.some.inj H0
          refine ret [] [.int .i64 0, .int .i64 2] [] hf51 (by kernel_rfl) trivial ?_
          exact ⟨_, rfl, rfl, hm53⟩
        · have q55 := (hm41.slAt 0 rfl).int s35 g45.1 g45.2
          refine reg [.int .i64 (rd x0 s35), .bool false] [0, 4, 20] [(0, .slice A0 x0.length c0), (4, .int .i64 s35), (20, .bool false)] [.is (Option.isSome A0 = true), .is (0 ≤ s35 ∧ s35 < (x0.length : Int)), .cell ((ad A0).add ((s35).toNat * 1)) (.int .i64 (rd x0 s35)), .is (decide ((rd x0 s35) < 1) = false)] hf44 (by kernel_rfl) ⟨q55.1, g45, q55.2, (decide_eq_false c46), trivial⟩ fun a56 hf57 => ?_
          refine thenN ?_
          refine condF hf57 (by kernel_rfl) ?_
          refine wp_skip ?_
          refine blkN ?_
          refine thenN ?_
          refine reg [] [0, 4] [(0, .slice A0 x0.length c0), (4, .int .i64 (w64 (s35 + 1)))] [] hf57 (by kernel_rfl) trivial fun a58 hf59 => ?_
          exact ⟨(w64 (s35 + 1)), H1, hf59.sel (l := [0, 4]) (by kernel_rfl), hm41.sel [0] _ rfl (by kernel_rfl)⟩
      · refine reg [.bool false] [0, 4, 13] [(0, .slice A0 x0.length c0), (4, .int .i64 s35), (13, .bool false)] [.is (decide (s35 < (x0.length : Int)) = false)] hf40 (by kernel_rfl) ⟨(decide_eq_false c42), trivial⟩ fun a60 hf61 => ?_
        refine thenN ?_
        refine condF hf61 (by kernel_rfl) ?_
        refine wp_exit ?_
        refine thenE ?_
        refine thenE ?_
        obtain rfl := Option.some.inj H1
        exact .inl ⟨rfl, s35, rfl, hf61.sel (l := [0, 4]) (by kernel_rfl), hm41.sel [0] _ rfl (by kernel_rfl)⟩
    rintro a62 w63 ⟨yr36, rfl, hf65, hm66⟩
    refine thenN ?_
    refine wp_seq ?_
    refine reg [] [0, 5] [(0, .slice A0 x0.length c0), (5, .int .i64 1)] [] hf65 (by kernel_rfl) trivial fun a67 hf68 => ?_
    refine thenN ?_
    refine wp_seq ?_
    refine wp_seq ?_
    refine reg [] [0, 5, 6] [(0, .slice A0 x0.length c0), (5, .int .i64 1), (6, .int .i64 0)] [] hf68 (by kernel_rfl) trivial fun a69 hf70 => ?_
    refine thenN ?_
    obtain ⟨r72, hr72, H0⟩ := ob_split H0
    refine wpBlock (Mid := fun (a : Act) (w : World) => ∃ yr72 : (Int × Int), r72 = .go yr72 ∧ Fr 41 a [(0, .slice A0 x0.length c0), (5, .int .i64 yr72.1), (6, .int .i64 yr72.2)] ∧ Mem [] M w0 [.sl (Kd.int .i64) A0 c0 x0] w) ?_ ?_
    · refine wpLoop (ref1_Size.l1 x0) r72 (fun (s71 : (Int × Int)) (a : Act) (w : World) => Fr 41 a [(0, .slice A0 x0.length c0), (5, .int .i64 s71.1), (6, .int .i64 s71.2)] ∧ Mem [] M w0 [.sl (Kd.int .i64) A0 c0 x0] w) (1, 0) hr72 ⟨hf70.sel (l := [0, 5, 6]) (by kernel_rfl), hm66.sel [0] _ rfl (by kernel_rfl)⟩ ?_
      rintro g73 s71 a74 w75 H1 ⟨hf76, hm77⟩
      unfold ref1_Size.l1 at H1
      refine wp_seq ?_
      refine wp_seq ?_
      rcases ifS_split H1 with ⟨c78, H1⟩ | ⟨c78, H1⟩
      · refine reg [.bool true] [0, 5, 6, 24] [(0, .slice A0 x0.length c0), (5, .int .i64 s71.1), (6, .int .i64 s71.2), (24, .bool true)] [.is (decide (s71.2 < (x0.length : Int)) = true)] hf76 (by kernel_rfl) ⟨(decide_eq_true c78), trivial⟩ fun a79 hf80 => ?_
        refine thenN ?_
        refine condT hf80 (by kernel_rfl) ?_
        refine wp_skip ?_
        refine thenN ?_
        refine wp_seq ?_
        refine wp_block ?_
        refine wp_seq ?_
        refine wp_seq ?_
        obtain ⟨g81, H1⟩ := ifS_guard H1
        obtain ⟨g82, H1⟩ := ifS_guard H1
        rcases ifS_split H1 with ⟨c83, H1⟩ | ⟨c83, H1⟩
        · have q84 := (hm77.slAt 0 rfl).int s71.2 g81.1 g81.2
          refine regQ [.int .i64 (rd x0 s71.2), .bool true] [0, 5, 6, 33] [(0, .slice A0 x0.length c0), (5, .int .i64 s71.1), (6, .int .i64 s71.2), (33, .bool true)] [.is (Option.isSome A0 = true), .is (0 ≤ s71.2 ∧ s71.2 < (x0.length : Int)), .cell ((ad A0).add ((s71.2).toNat * 1)) (.int .i64 (rd x0 s71.2)), .is (s71.1 ≠ 0), .is (decide ((w64 (Int.tdiv 4096 s71.1)) < (rd x0 s71.2)) = true)] (by kernel_rfl) (by kernel_rfl) hf80 (by kernel_rfl) ⟨q84.1, g81, q84.2, g82, (decide_eq_true c83), trivial⟩ fun a85 w87 hf86 hg88 => ?_
          have hm89 : Mem [] M w0 [.sl (Kd.int .i64) A0 c0 x0] w87 := hm77.still hg88
          refine thenN ?_
          refine condT hf86 (by kernel_rfl) ?_
          refine wp_seq ?_
          refine reg [] [2, 3] [(2, .int .i64 0), (3, .int .i64 3)] [] hf86 (by kernel_rfl) trivial fun a90 hf91 => ?_
          have hm92 : Mem [] M w0 [] w87 := hm89.sel [] _ rfl (by kernel_rfl)
          refine thenN ?_
          refine wp_ret ?_
          refine thenR ?_
          refine blkR ?_
          refine thenR ?_
          refine thenR ?_
          refine .inr ⟨rfl, ?_⟩
          refine thenR ?_
          have hm93 : Mem [] M w0 [] w87 := hm92.sel [] _ rfl (by kernel_rfl)
          obtain rfl := Option.some.inj H1
          obtain rfl := Option.some.inj H0
          refine ret [] [.int .i64 0, .int .i64 3] [] hf91 (by kernel_rfl) trivial ?_
          exact ⟨_, rfl, rfl, hm93⟩
        · have q95 := (hm77.slAt 0 rfl).int s71.2 g81.1 g81.2
          refine regQ [.int .i64 (rd x0 s71.2), .bool false] [0, 5, 6, 33] [(0, .slice A0 x0.length c0), (5, .int .i64 s71.1), (6, .int .i64 s71.2), (33, .bool false)] [.is (Option.isSome A0 = true), .is (0 ≤ s71.2 ∧ s71.2 < (x0.length : Int)), .cell ((ad A0).add ((s71.2).toNat * 1)) (.int .i64 (rd x0 s71.2)), .is (s71.1 ≠ 0), .is (decide ((w64 (Int.tdiv 4096 s71.1)) < (rd x0 s71.2)) = false)] (by kernel_rfl) (by kernel_rfl) hf80 (by kernel_rfl) ⟨q95.1, g81, q95.2, g82, (decide_eq_false c83), trivial⟩ fun a96 w98 hf97 hg99 => ?_
          have hm100 : Mem [] M w0 [.sl (Kd.int .i64) A0 c0 x0] w98 := hm77.still hg99
          refine thenN ?_
          refine condF hf97 (by kernel_rfl) ?_
          refine wp_skip ?_
          refine thenN ?_
          have q101 := (hm100.slAt 0 rfl).int s71.2 g81.1 g81.2
          refine reg [.int .i64 (rd x0 s71.2)] [0, 5, 6] [(0, .slice A0 x0.length c0), (5, .int .i64 (w64 (s71.1 * (rd x0 s71.2)))), (6, .int .i64 s71.2)] [.is (Option.isSome A0 = true), .is (0 ≤ s71.2 ∧ s71.2 < (x0.length : Int)), .cell ((ad A0).add ((s71.2).toNat * 1)) (.int .i64 (rd x0 s71.2))] hf97 (by kernel_rfl) ⟨q101.1, g81, q101.2, trivial⟩ fun a102 hf103 => ?_
          refine blkN ?_
          refine thenN ?_
          refine reg [] [0, 5, 6] [(0, .slice A0 x0.length c0), (5, .int .i64 (w64 (s71.1 * (rd x0 s71.2)))), (6, .int .i64 (w64 (s71.2 + 1)))] [] hf103 (by kernel_rfl) trivial fun a104 hf105 => ?_
          exact ⟨((w64 (s71.1 * (rd x0 s71.2))), (w64 (s71.2 + 1))), H1, hf105.sel (l := [0, 5, 6]) (by kernel_rfl), hm100.sel [0] _ rfl (by kernel_rfl)⟩
      · refine reg [.bool false] [0, 5, 6, 24] [(0, .slice A0 x0.length c0), (5, .int .i64 s71.1), (6, .int .i64 s71.2), (24, .bool false)] [.is (decide (s71.2 < (x0.length : Int)) = false)] hf76 (by kernel_rfl) ⟨(decide_eq_false c78), trivial⟩ fun a106 hf107 => ?_
        refine thenN ?_
        refine condF hf107 (by kernel_rfl) ?_
        refine wp_exit ?_
        refine thenE ?_
        refine thenE ?_
        obtain rfl := Option.some.inj H1
        exact .inl ⟨rfl, (s71.1, s71.2), rfl, hf107.sel (l := [0, 5, 6]) (by kernel_rfl), hm77.sel [0] _ rfl (by kernel_rfl)⟩
    rintro a108 w109 ⟨yr72, rfl, hf110, hm111⟩
    refine thenN ?_
    refine wp_seq ?_
    refine reg [] [2, 3] [(2, .int .i64 yr72.1), (3, .int .i64 0)] [] hf110 (by kernel_rfl) trivial fun a112 hf113 => ?_
    have hm114 : Mem [] M w0 [] w109 := hm111.sel [] _ rfl (by kernel_rfl)
    refine thenN ?_
    refine wp_ret ?_
    have hm115 : Mem [] M w0 [] w109 := hm114.sel [] _ rfl (by kernel_rfl)
    obtain rfl := Option.some.inj H0
    refine ret [] [.int .i64 yr72.1, .int .i64 0] [] hf113 (by kernel_rfl) trivial ?_
    exact ⟨_, rfl, rfl, hm115⟩

/-! ### backstitch/backstitchref1.TensorMay -/
noncomputable def ref1_TensorMay.f (x0 : Tensor) : Option Bool :=
  (ref1_Size.f x0.Shape).bind fun r30 =>
  if r30.2 = 0 then (if r30.1 = (x0.Data.length : Int) then (some true)
  else (some false))
  else (some false)
set_option maxRecDepth 100000 in
set_option maxHeartbeats 4000000 in
theorem ref1_TensorMay.calls (M : List (Option Nat)) (w0 : World) (x0 : Tensor) (A0_0 : Option Addr) (n0_0 c0_0 : Nat) (e0_0 : n0_0 = x0.Shape.length) (A0_1 : Option Addr) (n0_1 c0_1 : Nat) (e0_1 : n0_1 = x0.Data.length) (hm0 : Mem [] M w0 [.sl (Kd.int .i64) A0_0 c0_0 x0.Shape, .sl Kd.float A0_1 c0_1 x0.Data] w0) (r : Bool) (H0 : ref1_TensorMay.f x0 = some r) :
    Calls Try.prog 41 [.agg #[.slice A0_0 n0_0 c0_0, .slice A0_1 n0_1 c0_1]].toArray w0 (fun x w' => ∃ v, x = .returned v ∧ v = .bool r ∧ Mem [] M w0 [] w') := by
  subst e0_0
  subst e0_1
  unfold ref1_TensorMay.f at H0
  refine enter (n := 20) Try.func41 rfl rfl (by kernel_rfl) fun a0 (hf0 : Fr 20 a0 [(0, .agg #[.slice A0_0 x0.Shape.length c0_0, .slice A0_1 x0.Data.length c0_1])]) => ?_
  refine wp_seq ?_
  refine inReg ?_
  refine listOf hf0 rfl (by kernel_rfl) (aNew (cs := [.slice A0_0 x0.Shape.length c0_0, .slice A0_1 x0.Data.length c0_1]) (T := 42) (d := 1) hf0 (by kernel_rfl) (by kernel_rfl) ?_)
  intro b21 w22 a23 hbb21 hx25 hg26 hf24
  have hm27 : Mem [] M w0 [.bx b21 [.slice A0_0 x0.Shape.length c0_0, .slice A0_1 x0.Data.length c0_1] 42, .sl (Kd.int .i64) A0_0 c0_0 x0.Shape, .sl Kd.float A0_1 c0_1 x0.Data] w22 := hm0.box hbb21 hx25 hg26
  refine go 1 [] [1] [(1, .pointer (some ⟨b21, 0, none⟩))] [] hf24 (by kernel_rfl) trivial fun a28 hf29 => ?_
  refine endL rfl ?_
  refine thenN ?_
  refine wp_seq ?_
  obtain ⟨r30, hr30, H0⟩ := ob_split H0
  refine inReg ?_
  refine go 2 [.slice A0_0 x0.Shape.length c0_0] [1, 7] [(1, .pointer (some ⟨b21, 0, none⟩)), (7, .slice A0_0 x0.Shape.length c0_0)] [.cell ⟨b21, 0, none⟩ (.slice A0_0 x0.Shape.length c0_0)] hf29 (by kernel_rfl) ⟨(hm27.cell 0 rfl rfl), trivial⟩ fun a31 hf32 => ?_
  refine listOf hf32 rfl (by kernel_rfl) (aCall (fid := 24) (args := [.slice A0_0 x0.Shape.length c0_0]) (d := 8) hf32 (by kernel_rfl) (by kernel_rfl) callable24 (ref1_Size.calls _ _ x0.Shape A0_0 x0.Shape.length c0_0 rfl (hm27.give [1] [.sl (Kd.int .i64) A0_0 c0_0 x0.Shape] rfl rfl) r30 hr30) ?_)
  rintro _ w33 a34 ⟨rfl, hk36⟩ hf35
  have hm37 : Mem [] M w0 [.bx b21 [.slice A0_0 x0.Shape.length c0_0, .slice A0_1 x0.Data.length c0_1] 42, .sl (Kd.int .i64) A0_0 c0_0 x0.Shape, .sl Kd.float A0_1 c0_1 x0.Data] w33 := hm27.still hk36.cum.none
  refine go 5 [] [1, 3, 4] [(1, .pointer (some ⟨b21, 0, none⟩)), (3, .int .i64 r30.1), (4, .int .i64 r30.2)] [] hf35 (by kernel_rfl) trivial fun a38 hf39 => ?_
  refine endL rfl ?_
  refine thenN ?_
  refine wp_seq ?_
  rcases if_split H0 with ⟨c40, H0⟩ | ⟨c40, H0⟩
  · rcases if_split H0 with ⟨c41, H0⟩ | ⟨c41, H0⟩
    · refine reg [.bool true, .slice A0_1 x0.Data.length c0_1, .bool true] [2] [(2, .bool true)] [.is (((r30.2 : Int) == 0) = true), .cell ⟨b21, 1, none⟩ (.slice A0_1 x0.Data.length c0_1), .is (((r30.1 : Int) == (x0.Data.length : Int)) = true)] hf39 (by kernel_rfl) ⟨(eqT c40), (hm37.cell 0 rfl rfl), (eqT c41), trivial⟩ fun a42 hf43 => ?_
      have hm44 : Mem [] M w0 [] w33 := hm37.sel [] _ rfl (by kernel_rfl)
      refine thenN ?_
      refine wp_ret ?_
      have hm45 : Mem [] M w0 [] w33 := hm44.sel [] _ rfl (by kernel_rfl)
      obtain rfl := Option.some.inj H0
      refine ret [] [.bool true] [] hf43 (by kernel_rfl) trivial ?_
      exact ⟨_, rfl, rfl, hm45⟩
    · refine reg [.bool true, .slice A0_1 x0.Data.length c0_1, .bool false] [2] [(2, .bool false)] [.is (((r30.2 : Int) == 0) = true), .cell ⟨b21, 1, none⟩ (.slice A0_1 x0.Data.length c0_1), .is (((r30.1 : Int) == (x0.Data.length : Int)) = false)] hf39 (by kernel_rfl) ⟨(eqT c40), (hm37.cell 0 rfl rfl), (eqF c41), trivial⟩ fun a47 hf48 => ?_
      have hm49 : Mem [] M w0 [] w33 := hm37.sel [] _ rfl (by kernel_rfl)
      refine thenN ?_
      refine wp_ret ?_
      have hm50 : Mem [] M w0 [] w33 := hm49.sel [] _ rfl (by kernel_rfl)
      obtain rfl := Option.some.inj H0
      refine ret [] [.bool false] [] hf48 (by kernel_rfl) trivial ?_
      exact ⟨_, rfl, rfl, hm50⟩
  · refine reg [.bool false] [2] [(2, .bool false)] [.is (((r30.2 : Int) == 0) = false)] hf39 (by kernel_rfl) ⟨(eqF c40), trivial⟩ fun a52 hf53 => ?_
    have hm54 : Mem [] M w0 [] w33 := hm37.sel [] _ rfl (by kernel_rfl)
    refine thenN ?_
    refine wp_ret ?_
    have hm55 : Mem [] M w0 [] w33 := hm54.sel [] _ rfl (by kernel_rfl)
    obtain rfl := Option.some.inj H0
    refine ret [] [.bool false] [] hf53 (by kernel_rfl) trivial ?_
    exact ⟨_, rfl, rfl, hm55⟩
end Go.Proofs.Ytkcgiolledmbnaa
