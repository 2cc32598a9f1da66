/- Printed by gen.py. -/
import Derived.Test.YtkcgiolledmbnaaF0
namespace Go.Proofs.Ytkcgiolledmbnaa
open Go Go.RowKit
set_option linter.unusedSimpArgs false
set_option linter.unusedVariables false
set_option linter.unnecessarySimpa false
/-! ### backstitch/tensor.New -/
noncomputable def tensor_New.f (x0 : (List Int)) (x1 : Nat) : Option (Tensor × Int) :=
  (shape_Size.f x0).bind fun r30 =>
  if r30.2 = 0 then ((slices_Clone_int.f x0).bind fun r43 =>
  (slices_Repeat_float64.f ([x1] : List Nat) r30.1).bind fun r44 =>
  some ((⟨r43, r44⟩ : Tensor), 0))
  else (some ((⟨([] : (List Int)), ([] : (List Nat))⟩ : Tensor), r30.2))
set_option maxRecDepth 100000 in
set_option maxHeartbeats 4000000 in
theorem tensor_New.calls (M : List (Option Nat)) (w0 : World) (x0 : (List Int)) (A0 : Option Addr) (n0 c0 : Nat) (e0 : n0 = x0.length) (x1 : Nat) (b1 : Nat) (h1 : FR b1 x1) (hm0 : Mem [] M w0 [.sl (Kd.int .i64) A0 c0 x0] w0) (r : (Tensor × Int)) (H0 : tensor_New.f x0 x1 = some r) :
    Calls Try.prog 54 [.slice A0 n0 c0, .float .f64 b1].toArray w0 (fun x w' => ∃ v, x = .returned v ∧ ∃ Ar0_0 cr0_0 Ar0_1 cr0_1, v = .tuple #[.agg #[.slice Ar0_0 r.1.Shape.length cr0_0, .slice Ar0_1 r.1.Data.length cr0_1], .int .i64 r.2] ∧ Mem [] M w0 [.ow (Kd.int .i64) 3 Ar0_0 cr0_0 r.1.Shape, .ow Kd.float 47 Ar0_1 cr0_1 r.1.Data] w') := by
  subst e0
  unfold tensor_New.f at H0
  refine enter (n := 24) Try.func54 rfl rfl (by kernel_rfl) fun a0 (hf0 : Fr 24 a0 [(0, .slice A0 x0.length c0), (1, .float .f64 b1)]) => ?_
  refine wp_seq ?_
  refine inReg ?_
  refine listOf hf0 rfl (by kernel_rfl) (aNew (cs := [.slice none 0 0, .slice none 0 0]) (T := 42) (d := 4) hf0 (by kernel_rfl) (by kernel_rfl) ?_)
  intro b21 w22 a23 hbb21 hx25 hg26 hf24
  have hm27 := hm0.box hbb21 hx25 hg26
  refine go 1 [] [0, 1, 4] [(0, .slice A0 x0.length c0), (1, .float .f64 b1), (4, .pointer (some ⟨b21, 0, none⟩))] [] hf24 (by kernel_rfl) trivial fun a28 hf29 => ?_
  refine endL rfl ?_
  refine thenN ?_
  refine wp_seq ?_
  obtain ⟨r30, hr30, H0⟩ := ob_split H0
  refine inReg ?_
  refine go 1 [] [0, 1, 4, 9] [(0, .slice A0 x0.length c0), (1, .float .f64 b1), (4, .pointer (some ⟨b21, 0, none⟩)), (9, .slice A0 x0.length c0)] [] hf29 (by kernel_rfl) trivial fun a31 hf32 => ?_
  refine listOf hf32 rfl (by kernel_rfl) (aCall (fid := 21) (args := [.slice A0 x0.length c0]) (d := 10) hf32 (by kernel_rfl) (by kernel_rfl) callable21 (shape_Size.calls _ _ x0 A0 x0.length c0 rfl (hm27.give [1] [.sl (Kd.int .i64) A0 c0 x0] rfl rfl) r30 hr30) ?_)
  rintro _ w33 a34 ⟨rfl, hk36⟩ hf35
  have hm37 := hm27.still hk36.cum.none
  refine go 5 [] [0, 1, 4, 6, 7] [(0, .slice A0 x0.length c0), (1, .float .f64 b1), (4, .pointer (some ⟨b21, 0, none⟩)), (6, .int .i64 r30.1), (7, .int .i64 r30.2)] [] hf35 (by kernel_rfl) trivial fun a38 hf39 => ?_
  refine endL rfl ?_
  refine thenN ?_
  refine wp_seq ?_
  refine wp_seq ?_
  rcases if_split H0 with ⟨c40, H0⟩ | ⟨c40, H0⟩
  · refine reg [.bool false] [0, 1, 4, 6, 7, 14] [(0, .slice A0 x0.length c0), (1, .float .f64 b1), (4, .pointer (some ⟨b21, 0, none⟩)), (6, .int .i64 r30.1), (7, .int .i64 r30.2), (14, .bool false)] [.is (((r30.2 : Int) != 0) = false)] hf39 (by kernel_rfl) ⟨(neF c40), trivial⟩ fun a41 hf42 => ?_
    refine thenN ?_
    refine condF hf42 (by kernel_rfl) ?_
    refine wp_skip ?_
    refine thenN ?_
    refine wp_seq ?_
    obtain ⟨r43, hr43, H0⟩ := ob_split H0
    obtain ⟨r44, hr44, H0⟩ := ob_split H0
    refine inReg ?_
    refine go 1 [] [1, 4, 6, 17] [(1, .float .f64 b1), (4, .pointer (some ⟨b21, 0, none⟩)), (6, .int .i64 r30.1), (17, .slice A0 x0.length c0)] [] hf42 (by kernel_rfl) trivial fun a45 hf46 => ?_
    refine listOf hf46 rfl (by kernel_rfl) (aCall (fid := 64) (args := [.slice A0 x0.length c0]) (d := 18) hf46 (by kernel_rfl) (by kernel_rfl) callable64 (slices_Clone_int.calls _ _ x0 A0 x0.length c0 rfl (hm37.give [1] [.sl (Kd.int .i64) A0 c0 x0] rfl rfl) r43 hr43) ?_)
    rintro _ w49 a50 ⟨A47, c48, rfl, hk52⟩ hf51
    have hm53 := hm37.back hk52
    refine go 1 [] [4, 6, 18, 19] [(4, .pointer (some ⟨b21, 0, none⟩)), (6, .int .i64 r30.1), (18, .slice A47 r43.length c48), (19, .float .f64 b1)] [] hf51 (by kernel_rfl) trivial fun a54 hf55 => ?_
    refine listOf hf55 rfl (by kernel_rfl) (aLit (cs := [.float .f64 b1]) (E := 47) (len := 1) (d := 20) hf55 (by kernel_rfl) (by kernel_rfl) ?_)
    intro b56 w57 a58 hbb56 hx60 hg61 hf59
    have hm53s := hm53.still hg61
    have hm62 : Mem [] M w0 [.sl Kd.float (some ⟨b56, 0, none⟩) 1 ([x1] : List Nat), .ow (Kd.int .i64) 3 A47 c48 r43, .bx b21 [.slice none 0 0, .slice none 0 0] 42, .sl (Kd.int .i64) A0 c0 x0] w57 := Mem.lit (kd := Kd.float) (xs := ([x1] : List Nat)) hm53 hbb56 hx60 hg61 (Els.one (kd := Kd.float) (us := [.float .f64 b1]) (x := x1) ⟨_, rfl, h1⟩)
    refine go 1 [] [4, 18, 20, 21] [(4, .pointer (some ⟨b21, 0, none⟩)), (18, .slice A47 r43.length c48), (20, .slice (some ⟨b56, 0, none⟩) 1 1), (21, .int .i64 r30.1)] [] hf59 (by kernel_rfl) trivial fun a63 hf65 => ?_
    refine listOf hf65 rfl (by kernel_rfl) (aCall (fid := 65) (args := [.slice (some ⟨b56, 0, none⟩) 1 1, .int .i64 r30.1]) (d := 22) hf65 (by kernel_rfl) (by kernel_rfl) callable65 (slices_Repeat_float64.calls _ _ ([x1] : List Nat) (some ⟨b56, 0, none⟩) 1 1 rfl r30.1 (hm62.give [0] [.sl Kd.float (some ⟨b56, 0, none⟩) 1 ([x1] : List Nat)] rfl rfl) r44 hr44) ?_)
    rintro _ w68 a69 ⟨A66, c67, rfl, hk71⟩ hf70
    have hm72 := hm62.back hk71
    refine go 1 [] [4, 23] [(4, .pointer (some ⟨b21, 0, none⟩)), (23, .agg #[.slice A47 r43.length c48, .slice A66 r44.length c67])] [] hf70 (by kernel_rfl) trivial fun a73 hf74 => ?_
    refine listOf hf74 rfl (by kernel_rfl) (aStoreB (b := b21) (j := 0) (T := 42) (cs := [.slice none 0 0, .slice none 0 0]) (us := [.slice A47 r43.length c48, .slice A66 r44.length c67]) (cs' := [.slice A47 r43.length c48, .slice A66 r44.length c67]) hf74 (by kernel_rfl) (hm72.bxAt 3 rfl) (by kernel_rfl) (by kernel_rfl) (by kernel_rfl) ?_)
    intro w75 hx76 hg77
    have hm78 := hm72.setBox 3 _ rfl rfl hx76 hg77
    refine go 1 [] [4, 5] [(4, .pointer (some ⟨b21, 0, none⟩)), (5, .int .i64 0)] [] hf74 (by kernel_rfl) trivial fun a79 hf80 => ?_
    refine endL rfl ?_
    have hm81 := hm78.sel [0, 2, 3] _ rfl (by kernel_rfl)
    refine thenN ?_
    refine wp_ret ?_
    have hm82 : Mem [] M w0 [.ow (Kd.int .i64) 3 A47 c48 r43, .ow Kd.float 47 A66 c67 r44] w75 := hm81.sel [1, 0] _ rfl (by kernel_rfl)
    obtain rfl := Option.some.inj H0
    refine ret [.agg #[.slice A47 r43.length c48, .slice A66 r44.length c67]] [.agg #[.slice A47 r43.length c48, .slice A66 r44.length c67], .int .i64 0] [.cell ⟨b21, 0, none⟩ (.slice A47 r43.length c48), .cell ⟨b21, 1, none⟩ (.slice A66 r44.length c67)] hf80 (by kernel_rfl) ⟨(hm81.cell 2 rfl rfl), (hm81.cell 2 rfl rfl), trivial⟩ ?_
    exact ⟨_, rfl, A47, c48, A66, c67, rfl, hm82⟩
  · refine reg [.bool true] [0, 1, 4, 6, 7, 14] [(0, .slice A0 x0.length c0), (1, .float .f64 b1), (4, .pointer (some ⟨b21, 0, none⟩)), (6, .int .i64 r30.1), (7, .int .i64 r30.2), (14, .bool true)] [.is (((r30.2 : Int) != 0) = true)] hf39 (by kernel_rfl) ⟨(neT c40), trivial⟩ fun a84 hf85 => ?_
    refine thenN ?_
    refine condT hf85 (by kernel_rfl) ?_
    refine wp_seq ?_
    refine inReg ?_
    refine go 2 [] [4, 15, 16] [(4, .pointer (some ⟨b21, 0, none⟩)), (15, .agg #[.slice none 0 0, .slice none 0 0]), (16, .int .i64 r30.2)] [] hf85 (by kernel_rfl) trivial fun a86 hf87 => ?_
    refine listOf hf87 rfl (by kernel_rfl) (aStoreB (b := b21) (j := 0) (T := 42) (cs := [.slice none 0 0, .slice none 0 0]) (us := [.slice none 0 0, .slice none 0 0]) (cs' := [.slice none 0 0, .slice none 0 0]) hf87 (by kernel_rfl) (hm37.bxAt 0 rfl) (by kernel_rfl) (by kernel_rfl) (by kernel_rfl) ?_)
    intro w88 hx89 hg90
    have hm91 := hm37.setBox 0 _ rfl rfl hx89 hg90
    refine go 1 [] [4, 5] [(4, .pointer (some ⟨b21, 0, none⟩)), (5, .int .i64 r30.2)] [] hf87 (by kernel_rfl) trivial fun a92 hf93 => ?_
    refine endL rfl ?_
    have hm94 := hm91.sel [0] _ rfl (by kernel_rfl)
    refine thenN ?_
    refine wp_ret ?_
    refine thenR ?_
    have hm95 : Mem [] M w0 [.ow (Kd.int .i64) 3 none 0 ([] : (List Int)), .bx b21 [.slice none 0 0, .slice none 0 0] 42] w88 := hm94.nilOw (Kd.int .i64) 3
    have hm96 : Mem [] M w0 [.ow Kd.float 47 none 0 ([] : (List Nat)), .ow (Kd.int .i64) 3 none 0 ([] : (List Int)), .bx b21 [.slice none 0 0, .slice none 0 0] 42] w88 := hm95.nilOw Kd.float 47
    have hm97 : Mem [] M w0 [.ow (Kd.int .i64) 3 none 0 ([] : (List Int)), .ow Kd.float 47 none 0 ([] : (List Nat))] w88 := hm96.sel [1, 0] _ rfl (by kernel_rfl)
    obtain rfl := Option.some.inj H0
    refine ret [.agg #[.slice none 0 0, .slice none 0 0]] [.agg #[.slice none 0 0, .slice none 0 0], .int .i64 r30.2] [.cell ⟨b21, 0, none⟩ (.slice none 0 0), .cell ⟨b21, 1, none⟩ (.slice none 0 0)] hf93 (by kernel_rfl) ⟨(hm94.cell 0 rfl rfl), (hm94.cell 0 rfl rfl), trivial⟩ ?_
    exact ⟨_, rfl, none, 0, none, 0, rfl, hm97⟩

/-! ### (backstitch/real.Real).Times -/
noncomputable def real_Real_Times.f (x0 : Nat) (x1 : Nat) : Option Nat :=
  some (fmul x0 x1)
set_option maxRecDepth 100000 in
set_option maxHeartbeats 4000000 in
theorem real_Real_Times.calls (M : List (Option Nat)) (w0 : World) (x0 : Nat) (b0 : Nat) (h0 : FR b0 x0) (x1 : Nat) (b1 : Nat) (h1 : FR b1 x1) (hm0 : Mem [] M w0 [] w0) (r : Nat) (H0 : real_Real_Times.f x0 x1 = some r) :
    Calls Try.prog 55 [.float .f64 b0, .float .f64 b1].toArray w0 (fun x w' => ∃ v, x = .returned v ∧ ∃ br0, v = .float .f64 br0 ∧ FR br0 r ∧ Mem [] M w0 [] w') := by
  unfold real_Real_Times.f at H0
  refine enter (n := 8) Try.func55 rfl rfl (by kernel_rfl) fun a0 (hf0 : Fr 8 a0 [(0, .float .f64 b0), (1, .float .f64 b1)]) => ?_
  refine wp_seq ?_
  refine reg [] [0, 1] [(0, .float .f64 b0), (1, .float .f64 b1)] [] hf0 (by kernel_rfl) trivial fun a21 hf22 => ?_
  refine thenN ?_
  refine wp_seq ?_
  refine inReg ?_
  refine go 2 [] [5, 6] [(5, .float .f64 b0), (6, .float .f64 b1)] [] hf22 (by kernel_rfl) trivial fun a23 hf24 => ?_
  refine listOf hf24 rfl (by kernel_rfl) (aArith (k := 2) (b := b0) (c := b1) (x := x0) (y := x1) (d := 7) hf24 (by kernel_rfl) (by kernel_rfl) h0 h1 ?_)
  intro b25 w26 a27 hb25 hg29 hf28
  replace hb25 : FR b25 (fmul x0 x1) := hb25
  have hm30 := hm0.still hg29
  refine go 1 [] [4] [(4, .float .f64 b25)] [] hf28 (by kernel_rfl) trivial fun a31 hf32 => ?_
  refine endL rfl ?_
  refine thenN ?_
  refine wp_ret ?_
  have hm33 : Mem [] M w0 [] w26 := hm30.sel [] _ rfl (by kernel_rfl)
  obtain rfl := Option.some.inj H0
  refine ret [] [.float .f64 b25] [] hf32 (by kernel_rfl) trivial ?_
  exact ⟨_, rfl, b25, rfl, hb25, hm33⟩

/-! ### (backstitch/real.Real).Plus -/
noncomputable def real_Real_Plus.f (x0 : Nat) (x1 : Nat) : Option Nat :=
  some (fadd x0 x1)
set_option maxRecDepth 100000 in
set_option maxHeartbeats 4000000 in
theorem real_Real_Plus.calls (M : List (Option Nat)) (w0 : World) (x0 : Nat) (b0 : Nat) (h0 : FR b0 x0) (x1 : Nat) (b1 : Nat) (h1 : FR b1 x1) (hm0 : Mem [] M w0 [] w0) (r : Nat) (H0 : real_Real_Plus.f x0 x1 = some r) :
    Calls Try.prog 66 [.float .f64 b0, .float .f64 b1].toArray w0 (fun x w' => ∃ v, x = .returned v ∧ ∃ br0, v = .float .f64 br0 ∧ FR br0 r ∧ Mem [] M w0 [] w') := by
  unfold real_Real_Plus.f at H0
  refine enter (n := 8) Try.func66 rfl rfl (by kernel_rfl) fun a0 (hf0 : Fr 8 a0 [(0, .float .f64 b0), (1, .float .f64 b1)]) => ?_
  refine wp_seq ?_
  refine reg [] [0, 1] [(0, .float .f64 b0), (1, .float .f64 b1)] [] hf0 (by kernel_rfl) trivial fun a21 hf22 => ?_
  refine thenN ?_
  refine wp_seq ?_
  refine inReg ?_
  refine go 2 [] [5, 6] [(5, .float .f64 b0), (6, .float .f64 b1)] [] hf22 (by kernel_rfl) trivial fun a23 hf24 => ?_
  refine listOf hf24 rfl (by kernel_rfl) (aArith (k := 0) (b := b0) (c := b1) (x := x0) (y := x1) (d := 7) hf24 (by kernel_rfl) (by kernel_rfl) h0 h1 ?_)
  intro b25 w26 a27 hb25 hg29 hf28
  replace hb25 : FR b25 (fadd x0 x1) := hb25
  have hm30 := hm0.still hg29
  refine go 1 [] [4] [(4, .float .f64 b25)] [] hf28 (by kernel_rfl) trivial fun a31 hf32 => ?_
  refine endL rfl ?_
  refine thenN ?_
  refine wp_ret ?_
  have hm33 : Mem [] M w0 [] w26 := hm30.sel [] _ rfl (by kernel_rfl)
  obtain rfl := Option.some.inj H0
  refine ret [] [.float .f64 b25] [] hf32 (by kernel_rfl) trivial ?_
  exact ⟨_, rfl, b25, rfl, hb25, hm33⟩

/-! ### backstitch/real.Row -/
noncomputable def real_Row.l0 (x0 : (List Nat)) (s28 : (Nat × Int)) : Step (Nat × Int) (Nat × Int) :=
  if s28.2 < (x0.length : Int) then (if 0 ≤ s28.2 ∧ s28.2 < (x0.length : Int) then (bindS (real_Real_Plus.f s28.1 (rd x0 s28.2)) fun r44 =>
  .next (r44, (w64 (s28.2 + 1))))
  else .bad)
  else (.done (s28.1, s28.2))
noncomputable def real_Row.f (x0 : (List Nat)) : Option Nat :=
  (loop (real_Row.l0 x0) (0, 0)).bind fun r30 =>
  some r30.1
set_option maxRecDepth 100000 in
set_option maxHeartbeats 4000000 in
theorem real_Row.calls (M : List (Option Nat)) (w0 : World) (x0 : (List Nat)) (A0 : Option Addr) (n0 c0 : Nat) (e0 : n0 = x0.length) (hm0 : Mem [] M w0 [.sl Kd.float A0 c0 x0] w0) (r : Nat) (H0 : real_Row.f x0 = some r) :
    Calls Try.prog 56 [.slice A0 n0 c0].toArray w0 (fun x w' => ∃ v, x = .returned v ∧ ∃ br0, v = .float .f64 br0 ∧ FR br0 r ∧ Mem [] M w0 [] w') := by
  subst e0
  unfold real_Row.f at H0
  refine enter (n := 17) Try.func56 rfl rfl (by kernel_rfl) fun a0 (hf0 : Fr 17 a0 [(0, .slice A0 x0.length c0)]) => ?_
  refine wp_seq ?_
  refine reg [] [0] [(0, .slice A0 x0.length c0)] [] hf0 (by kernel_rfl) trivial fun a21 hf22 => ?_
  refine thenN ?_
  refine wp_seq ?_
  refine reg [] [0, 3] [(0, .slice A0 x0.length c0), (3, .float .f64 0)] [] hf22 (by kernel_rfl) trivial fun a23 hf24 => ?_
  refine thenN ?_
  refine wp_seq ?_
  refine wp_seq ?_
  refine reg [] [3, 6, 7, 8] [(3, .float .f64 0), (6, .slice A0 x0.length c0), (7, .int .i64 (x0.length : Int)), (8, .int .i64 0)] [] hf24 (by kernel_rfl) trivial fun a25 hf26 => ?_
  refine thenN ?_
  obtain ⟨r30, hr30, H0⟩ := ob_split H0
  refine wpBlock (Mid := fun (a : Act) (w : World) => ∃ (b29 : Nat), Fr 17 a [(3, .float .f64 b29), (6, .slice A0 x0.length c0), (7, .int .i64 (x0.length : Int)), (8, .int .i64 r30.2)] ∧ FR b29 r30.1 ∧ Mem [] M w0 [.sl Kd.float A0 c0 x0] w) ?_ ?_
  · refine wpLoop (real_Row.l0 x0) r30 (fun (s28 : (Nat × Int)) (a : Act) (w : World) => ∃ (b29 : Nat), Fr 17 a [(3, .float .f64 b29), (6, .slice A0 x0.length c0), (7, .int .i64 (x0.length : Int)), (8, .int .i64 s28.2)] ∧ FR b29 s28.1 ∧ Mem [] M w0 [.sl Kd.float A0 c0 x0] w) (0, 0) hr30 ⟨0, hf26.sel (l := [3, 6, 7, 8]) (by kernel_rfl), (FR.lit (by kernel_rfl) (by kernel_rfl)), hm0.sel [0] _ rfl (by kernel_rfl)⟩ ?_
    rintro g31 s28 a32 w33 H1 ⟨b29, hf34, hb29, hm35⟩
    unfold real_Row.l0 at H1
    refine wp_seq ?_
    rcases ifS_split H1 with ⟨c36, H1⟩ | ⟨c36, H1⟩
    · refine reg [.bool true] [3, 6, 7, 8, 9] [(3, .float .f64 b29), (6, .slice A0 x0.length c0), (7, .int .i64 (x0.length : Int)), (8, .int .i64 s28.2), (9, .bool true)] [.is (decide (s28.2 < (x0.length : Int)) = true)] hf34 (by kernel_rfl) ⟨(decide_eq_true c36), trivial⟩ fun a37 hf38 => ?_
      refine thenN ?_
      refine wp_seq ?_
      refine condT hf38 (by kernel_rfl) ?_
      refine wp_skip ?_
      refine thenN ?_
      refine wp_seq ?_
      refine wp_block ?_
      refine wp_seq ?_
      obtain ⟨g39, H1⟩ := ifS_guard H1
      have q40 := (hm35.slAt 0 rfl).float s28.2 g39.1 g39.2
      obtain ⟨b41, hb41, kb41⟩ := q40.2
      refine reg [.float .f64 b41] [3, 5, 6, 7, 8] [(3, .float .f64 b29), (5, .float .f64 b41), (6, .slice A0 x0.length c0), (7, .int .i64 (x0.length : Int)), (8, .int .i64 s28.2)] [.is (Option.isSome A0 = true), .is (0 ≤ s28.2 ∧ s28.2 < (x0.length : Int)), .cell ((ad A0).add ((s28.2).toNat * 1)) (.float .f64 b41)] hf38 (by kernel_rfl) ⟨q40.1, g39, kb41, trivial⟩ fun a42 hf43 => ?_
      refine thenN ?_
      obtain ⟨r44, hr44, H1⟩ := obS_split H1
      refine inReg ?_
      refine go 2 [] [3, 6, 7, 8, 12, 13] [(3, .float .f64 b29), (6, .slice A0 x0.length c0), (7, .int .i64 (x0.length : Int)), (8, .int .i64 s28.2), (12, .float .f64 b29), (13, .float .f64 b41)] [] hf43 (by kernel_rfl) trivial fun a45 hf46 => ?_
      refine listOf hf46 rfl (by kernel_rfl) (aCall (fid := 66) (args := [.float .f64 b29, .float .f64 b41]) (d := 14) hf46 (by kernel_rfl) (by kernel_rfl) callable66 (real_Real_Plus.calls _ _ s28.1 b29 hb29 (rd x0 s28.2) b41 hb41 (hm35.give [] [] rfl rfl) r44 hr44) ?_)
      rintro _ w48 a49 ⟨b47, rfl, hb47, hk51⟩ hf50
      have hm52 := hm35.still hk51.cum.none
      refine go 1 [] [3, 6, 7, 8] [(3, .float .f64 b47), (6, .slice A0 x0.length c0), (7, .int .i64 (x0.length : Int)), (8, .int .i64 s28.2)] [] hf50 (by kernel_rfl) trivial fun a53 hf54 => ?_
      refine endL rfl ?_
      refine blkN ?_
      refine thenN ?_
      refine reg [] [3, 6, 7, 8] [(3, .float .f64 b47), (6, .slice A0 x0.length c0), (7, .int .i64 (x0.length : Int)), (8, .int .i64 (w64 (s28.2 + 1)))] [] hf54 (by kernel_rfl) trivial fun a55 hf56 => ?_
      exact ⟨(r44, (w64 (s28.2 + 1))), H1, b47, hf56.sel (l := [3, 6, 7, 8]) (by kernel_rfl), hb47, hm52.sel [0] _ rfl (by kernel_rfl)⟩
    · refine reg [.bool false] [3, 6, 7, 8, 9] [(3, .float .f64 b29), (6, .slice A0 x0.length c0), (7, .int .i64 (x0.length : Int)), (8, .int .i64 s28.2), (9, .bool false)] [.is (decide (s28.2 < (x0.length : Int)) = false)] hf34 (by kernel_rfl) ⟨(decide_eq_false c36), trivial⟩ fun a57 hf58 => ?_
      refine thenN ?_
      refine wp_seq ?_
      refine condF hf58 (by kernel_rfl) ?_
      refine wp_exit ?_
      refine thenE ?_
      refine thenE ?_
      obtain rfl := Option.some.inj H1
      exact .inl ⟨rfl, b29, hf58.sel (l := [3, 6, 7, 8]) (by kernel_rfl), hb29, hm35.sel [0] _ rfl (by kernel_rfl)⟩
  rintro a59 w60 ⟨b29, hf61, hb29, hm62⟩
  refine thenN ?_
  refine wp_seq ?_
  refine reg [] [2] [(2, .float .f64 b29)] [] hf61 (by kernel_rfl) trivial fun a63 hf65 => ?_
  have hm66 := hm62.sel [] _ rfl (by kernel_rfl)
  refine thenN ?_
  refine wp_ret ?_
  have hm67 : Mem [] M w0 [] w60 := hm66.sel [] _ rfl (by kernel_rfl)
  obtain rfl := Option.some.inj H0
  refine ret [] [.float .f64 b29] [] hf65 (by kernel_rfl) trivial ?_
  exact ⟨_, rfl, b29, rfl, hb29, hm67⟩
end Go.Proofs.Ytkcgiolledmbnaa
