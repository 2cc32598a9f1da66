/- Printed by gen.py. -/
import Derived.Test.YtkcgiolledmbnaaF0
import Derived.Test.YtkcgiolledmbnaaF1
import Derived.Test.YtkcgiolledmbnaaF2
namespace Go.Proofs.Ytkcgiolledmbnaa
open Go Go.RowKit
set_option linter.unusedSimpArgs false
set_option linter.unusedVariables false
set_option linter.unnecessarySimpa false
/-! ### backstitch/backstitchlaw5.awake -/
noncomputable def law5_awake.f  : Option Bool :=
  (matrix_Mul.f (⟨([1, 2] : List Int), ([4607182418800017408, 4611686018427387904] : List Nat)⟩ : Tensor) (⟨([2, 1] : List Int), ([4613937818241073152, 4616189618054758400] : List Nat)⟩ : Tensor)).bind fun r23 =>
  if r23.2 = 0 then (if (r23.1.Data.length : Int) = 1 then (if (0 : Int) ≤ 0 ∧ 0 < (r23.1.Data.length : Int) then (if (feq (rd r23.1.Data 0) 4622382067542392832) = true then (some true)
  else (some false))
  else none)
  else (some false))
  else (some false)
set_option maxRecDepth 100000 in
set_option maxHeartbeats 4000000 in
theorem law5_awake.calls (M : List (Option Nat)) (w0 : World)  (hm0 : Mem [] M w0 [] w0) (r : Bool) (H0 : law5_awake.f = some r) :
    Calls Try.prog 32 [].toArray w0 (fun x w' => ∃ v, x = .returned v ∧ v = .bool r ∧ Mem [] M w0 [] w') := by
  unfold law5_awake.f at H0
  refine enter (n := 28) Try.func32 rfl rfl (by kernel_rfl) fun a0 (hf0 : Fr 28 a0 []) => ?_
  refine wp_seq ?_
  refine reg [] [] [] [] hf0 (by kernel_rfl) trivial fun a21 hf22 => ?_
  refine thenN ?_
  refine wp_seq ?_
  obtain ⟨r23, hr23, H0⟩ := ob_split H0
  refine inReg ?_
  refine listOf hf22 rfl (by kernel_rfl) (aLit (cs := [.int .i64 1, .int .i64 2]) (E := 3) (len := 2) (d := 4) hf22 (by kernel_rfl) (by kernel_rfl) ?_)
  intro b24 w25 a26 hbb24 hx28 hg29 hf27
  have hm0s := hm0.still hg29
  have hm30 : Mem [] M w0 [.sl (Kd.int .i64) (some ⟨b24, 0, none⟩) 2 ([1, 2] : List Int)] w25 := Mem.lit (kd := (Kd.int .i64)) (xs := ([1, 2] : List Int)) hm0 hbb24 hx28 hg29 (Els.append (Els.one (kd := (Kd.int .i64)) (us := [.int .i64 1]) (x := 1) rfl) (Els.one (kd := (Kd.int .i64)) (us := [.int .i64 2]) (x := 2) rfl))
  refine listOf hf27 rfl (by kernel_rfl) (aLit (cs := [.float .f64 4607182418800017408, .float .f64 4611686018427387904]) (E := 47) (len := 2) (d := 5) hf27 (by kernel_rfl) (by kernel_rfl) ?_)
  intro b31 w32 a33 hbb31 hx35 hg36 hf34
  have hm30s := hm30.still hg36
  have hm37 : Mem [] M w0 [.sl Kd.float (some ⟨b31, 0, none⟩) 2 ([4607182418800017408, 4611686018427387904] : List Nat), .sl (Kd.int .i64) (some ⟨b24, 0, none⟩) 2 ([1, 2] : List Int)] w32 := Mem.lit (kd := Kd.float) (xs := ([4607182418800017408, 4611686018427387904] : List Nat)) hm30 hbb31 hx35 hg36 (Els.append (Els.one (kd := Kd.float) (us := [.float .f64 4607182418800017408]) (x := 4607182418800017408) ⟨_, rfl, (FR.lit (by kernel_rfl) (by kernel_rfl))⟩) (Els.one (kd := Kd.float) (us := [.float .f64 4611686018427387904]) (x := 4611686018427387904) ⟨_, rfl, (FR.lit (by kernel_rfl) (by kernel_rfl))⟩))
  refine go 1 [] [6] [(6, .agg #[.slice (some ⟨b24, 0, none⟩) 2 2, .slice (some ⟨b31, 0, none⟩) 2 2])] [] hf34 (by kernel_rfl) trivial fun a38 hf39 => ?_
  refine listOf hf39 rfl (by kernel_rfl) (aLit (cs := [.int .i64 2, .int .i64 1]) (E := 3) (len := 2) (d := 7) hf39 (by kernel_rfl) (by kernel_rfl) ?_)
  intro b40 w41 a42 hbb40 hx44 hg45 hf43
  have hm37s := hm37.still hg45
  have hm46 : Mem [] M w0 [.sl (Kd.int .i64) (some ⟨b40, 0, none⟩) 2 ([2, 1] : List Int), .sl Kd.float (some ⟨b31, 0, none⟩) 2 ([4607182418800017408, 4611686018427387904] : List Nat), .sl (Kd.int .i64) (some ⟨b24, 0, none⟩) 2 ([1, 2] : List Int)] w41 := Mem.lit (kd := (Kd.int .i64)) (xs := ([2, 1] : List Int)) hm37 hbb40 hx44 hg45 (Els.append (Els.one (kd := (Kd.int .i64)) (us := [.int .i64 2]) (x := 2) rfl) (Els.one (kd := (Kd.int .i64)) (us := [.int .i64 1]) (x := 1) rfl))
  refine listOf hf43 rfl (by kernel_rfl) (aLit (cs := [.float .f64 4613937818241073152, .float .f64 4616189618054758400]) (E := 47) (len := 2) (d := 8) hf43 (by kernel_rfl) (by kernel_rfl) ?_)
  intro b47 w48 a49 hbb47 hx51 hg52 hf50
  have hm46s := hm46.still hg52
  have hm53 : Mem [] M w0 [.sl Kd.float (some ⟨b47, 0, none⟩) 2 ([4613937818241073152, 4616189618054758400] : List Nat), .sl (Kd.int .i64) (some ⟨b40, 0, none⟩) 2 ([2, 1] : List Int), .sl Kd.float (some ⟨b31, 0, none⟩) 2 ([4607182418800017408, 4611686018427387904] : List Nat), .sl (Kd.int .i64) (some ⟨b24, 0, none⟩) 2 ([1, 2] : List Int)] w48 := Mem.lit (kd := Kd.float) (xs := ([4613937818241073152, 4616189618054758400] : List Nat)) hm46 hbb47 hx51 hg52 (Els.append (Els.one (kd := Kd.float) (us := [.float .f64 4613937818241073152]) (x := 4613937818241073152) ⟨_, rfl, (FR.lit (by kernel_rfl) (by kernel_rfl))⟩) (Els.one (kd := Kd.float) (us := [.float .f64 4616189618054758400]) (x := 4616189618054758400) ⟨_, rfl, (FR.lit (by kernel_rfl) (by kernel_rfl))⟩))
  refine go 1 [] [6, 9] [(6, .agg #[.slice (some ⟨b24, 0, none⟩) 2 2, .slice (some ⟨b31, 0, none⟩) 2 2]), (9, .agg #[.slice (some ⟨b40, 0, none⟩) 2 2, .slice (some ⟨b47, 0, none⟩) 2 2])] [] hf50 (by kernel_rfl) trivial fun a54 hf55 => ?_
  refine listOf hf55 rfl (by kernel_rfl) (aCall (fid := 34) (args := [.agg #[.slice (some ⟨b24, 0, none⟩) 2 2, .slice (some ⟨b31, 0, none⟩) 2 2], .agg #[.slice (some ⟨b40, 0, none⟩) 2 2, .slice (some ⟨b47, 0, none⟩) 2 2]]) (d := 10) hf55 (by kernel_rfl) (by kernel_rfl) callable34 (matrix_Mul.calls _ _ (⟨([1, 2] : List Int), ([4607182418800017408, 4611686018427387904] : List Nat)⟩ : Tensor) (some ⟨b24, 0, none⟩) 2 2 rfl (some ⟨b31, 0, none⟩) 2 2 rfl (⟨([2, 1] : List Int), ([4613937818241073152, 4616189618054758400] : List Nat)⟩ : Tensor) (some ⟨b40, 0, none⟩) 2 2 rfl (some ⟨b47, 0, none⟩) 2 2 rfl (hm53.give [3, 2, 1, 0] [.sl (Kd.int .i64) (some ⟨b24, 0, none⟩) 2 ([1, 2] : List Int), .sl Kd.float (some ⟨b31, 0, none⟩) 2 ([4607182418800017408, 4611686018427387904] : List Nat), .sl (Kd.int .i64) (some ⟨b40, 0, none⟩) 2 ([2, 1] : List Int), .sl Kd.float (some ⟨b47, 0, none⟩) 2 ([4613937818241073152, 4616189618054758400] : List Nat)] rfl rfl) r23 hr23) ?_)
  rintro _ w60 a61 ⟨A56, c57, A58, c59, rfl, hk63⟩ hf62
  have hm65 := hm53.back hk63
  have hm66 := hm65.seal 0 _ rfl rfl
  have hm67 := hm66.seal 1 _ rfl rfl
  refine go 3 [] [11, 12] [(11, .agg #[.slice A56 r23.1.Shape.length c57, .slice A58 r23.1.Data.length c59]), (12, .int .i64 r23.2)] [] hf62 (by kernel_rfl) trivial fun a68 hf69 => ?_
  refine listOf hf69 rfl (by kernel_rfl) (aNew (cs := [.slice none 0 0, .slice none 0 0]) (T := 42) (d := 1) hf69 (by kernel_rfl) (by kernel_rfl) ?_)
  intro b70 w71 a72 hbb70 hx74 hg75 hf73
  have hm76 := hm67.box hbb70 hx74 hg75
  refine listOf hf73 rfl (by kernel_rfl) (aStoreB (b := b70) (j := 0) (T := 42) (cs := [.slice none 0 0, .slice none 0 0]) (us := [.slice A56 r23.1.Shape.length c57, .slice A58 r23.1.Data.length c59]) (cs' := [.slice A56 r23.1.Shape.length c57, .slice A58 r23.1.Data.length c59]) hf73 (by kernel_rfl) (hm76.bxAt 0 rfl) (by kernel_rfl) (by kernel_rfl) (by kernel_rfl) ?_)
  intro w77 hx78 hg79
  have hm80 := hm76.setBox 0 _ rfl rfl hx78 hg79
  refine go 1 [] [1, 2] [(1, .pointer (some ⟨b70, 0, none⟩)), (2, .int .i64 r23.2)] [] hf73 (by kernel_rfl) trivial fun a81 hf82 => ?_
  refine endL rfl ?_
  have hm83 := hm80.sel [0, 1, 2] _ rfl (by kernel_rfl)
  refine thenN ?_
  refine wp_seq ?_
  rcases if_split H0 with ⟨c84, H0⟩ | ⟨c84, H0⟩
  · rcases if_split H0 with ⟨c85, H0⟩ | ⟨c85, H0⟩
    · obtain ⟨g86, H0⟩ := if_guard H0
      rcases ifb_split H0 with ⟨c87, H0⟩ | ⟨c87, H0⟩
      · have q88 := (hm83.slAt 2 rfl).float 0 g86.1 g86.2
        obtain ⟨b89, hb89, kb89⟩ := q88.2
        refine reg [.bool true, .slice A58 r23.1.Data.length c59, .bool true, .slice A58 r23.1.Data.length c59, .float .f64 b89, .bool true] [0] [(0, .bool true)] [.is (((r23.2 : Int) == 0) = true), .cell ⟨b70, 1, none⟩ (.slice A58 r23.1.Data.length c59), .is ((((r23.1.Data.length : Int) : Int) == 1) = true), .cell ⟨b70, 1, none⟩ (.slice A58 r23.1.Data.length c59), .is (Option.isSome A58 = true), .is ((0 : Int) ≤ 0 ∧ 0 < (r23.1.Data.length : Int)), .cell ((ad A58).add ((0 : Int).toNat * 1)) (.float .f64 b89), .is ((FloatKind.f64.format.order b89 4622382067542392832 == some .eq) = true)] hf82 (by kernel_rfl) ⟨(eqT c84), (hm83.cell 0 rfl rfl), (eqT c85), (hm83.cell 0 rfl rfl), q88.1, g86, kb89, (ftEq hb89 (FR.lit (by kernel_rfl) (by kernel_rfl)) c87), trivial⟩ fun a90 hf91 => ?_
        have hm92 := hm83.sel [] _ rfl (by kernel_rfl)
        refine thenN ?_
        refine wp_ret ?_
        have hm93 : Mem [] M w0 [] w77 := hm92.sel [] _ rfl (by kernel_rfl)
        obtain rfl := Option.some.inj H0
        refine ret [] [.bool true] [] hf91 (by kernel_rfl) trivial ?_
        exact ⟨_, rfl, rfl, hm93⟩
      · have q95 := (hm83.slAt 2 rfl).float 0 g86.1 g86.2
        obtain ⟨b96, hb96, kb96⟩ := q95.2
        refine reg [.bool true, .slice A58 r23.1.Data.length c59, .bool true, .slice A58 r23.1.Data.length c59, .float .f64 b96, .bool false] [0] [(0, .bool false)] [.is (((r23.2 : Int) == 0) = true), .cell ⟨b70, 1, none⟩ (.slice A58 r23.1.Data.length c59), .is ((((r23.1.Data.length : Int) : Int) == 1) = true), .cell ⟨b70, 1, none⟩ (.slice A58 r23.1.Data.length c59), .is (Option.isSome A58 = true), .is ((0 : Int) ≤ 0 ∧ 0 < (r23.1.Data.length : Int)), .cell ((ad A58).add ((0 : Int).toNat * 1)) (.float .f64 b96), .is ((FloatKind.f64.format.order b96 4622382067542392832 == some .eq) = false)] hf82 (by kernel_rfl) ⟨(eqT c84), (hm83.cell 0 rfl rfl), (eqT c85), (hm83.cell 0 rfl rfl), q95.1, g86, kb96, (ftEq hb96 (FR.lit (by kernel_rfl) (by kernel_rfl)) c87), trivial⟩ fun a97 hf98 => ?_
        have hm99 := hm83.sel [] _ rfl (by kernel_rfl)
        refine thenN ?_
        refine wp_ret ?_
        have hm100 : Mem [] M w0 [] w77 := hm99.sel [] _ rfl (by kernel_rfl)
        obtain rfl := Option.some.inj H0
        refine ret [] [.bool false] [] hf98 (by kernel_rfl) trivial ?_
        exact ⟨_, rfl, rfl, hm100⟩
    · refine reg [.bool true, .slice A58 r23.1.Data.length c59, .bool false] [0] [(0, .bool false)] [.is (((r23.2 : Int) == 0) = true), .cell ⟨b70, 1, none⟩ (.slice A58 r23.1.Data.length c59), .is ((((r23.1.Data.length : Int) : Int) == 1) = false)] hf82 (by kernel_rfl) ⟨(eqT c84), (hm83.cell 0 rfl rfl), (eqF c85), trivial⟩ fun a102 hf103 => ?_
      have hm104 := hm83.sel [] _ rfl (by kernel_rfl)
      refine thenN ?_
      refine wp_ret ?_
      have hm105 : Mem [] M w0 [] w77 := hm104.sel [] _ rfl (by kernel_rfl)
      obtain rfl := Option.some.inj H0
      refine ret [] [.bool false] [] hf103 (by kernel_rfl) trivial ?_
      exact ⟨_, rfl, rfl, hm105⟩
  · refine reg [.bool false] [0] [(0, .bool false)] [.is (((r23.2 : Int) == 0) = false)] hf82 (by kernel_rfl) ⟨(eqF c84), trivial⟩ fun a107 hf108 => ?_
    have hm109 := hm83.sel [] _ rfl (by kernel_rfl)
    refine thenN ?_
    refine wp_ret ?_
    have hm110 : Mem [] M w0 [] w77 := hm109.sel [] _ rfl (by kernel_rfl)
    obtain rfl := Option.some.inj H0
    refine ret [] [.bool false] [] hf108 (by kernel_rfl) trivial ?_
    exact ⟨_, rfl, rfl, hm110⟩

/-! ### backstitch/backstitchlaw3.Small -/
noncomputable def law3_Small.f (x0 : Tensor) : Option Bool :=
  if (x0.Shape.length : Int) ≤ 40 then (if (x0.Data.length : Int) ≤ 8192 then (some true)
  else (some false))
  else (some false)
set_option maxRecDepth 100000 in
set_option maxHeartbeats 4000000 in
theorem law3_Small.calls (M : List (Option Nat)) (w0 : World) (x0 : Tensor) (A0_0 : Option Addr) (n0_0 c0_0 : Nat) (e0_0 : n0_0 = x0.Shape.length) (A0_1 : Option Addr) (n0_1 c0_1 : Nat) (e0_1 : n0_1 = x0.Data.length) (hm0 : Mem [] M w0 [.sl (Kd.int .i64) A0_0 c0_0 x0.Shape, .sl Kd.float A0_1 c0_1 x0.Data] w0) (r : Bool) (H0 : law3_Small.f x0 = some r) :
    Calls Try.prog 33 [.agg #[.slice A0_0 n0_0 c0_0, .slice A0_1 n0_1 c0_1]].toArray w0 (fun x w' => ∃ v, x = .returned v ∧ v = .bool r ∧ Mem [] M w0 [] w') := by
  subst e0_0
  subst e0_1
  unfold law3_Small.f at H0
  refine enter (n := 13) Try.func33 rfl rfl (by kernel_rfl) fun a0 (hf0 : Fr 13 a0 [(0, .agg #[.slice A0_0 x0.Shape.length c0_0, .slice A0_1 x0.Data.length c0_1])]) => ?_
  refine wp_seq ?_
  refine inReg ?_
  refine listOf hf0 rfl (by kernel_rfl) (aNew (cs := [.slice A0_0 x0.Shape.length c0_0, .slice A0_1 x0.Data.length c0_1]) (T := 42) (d := 1) hf0 (by kernel_rfl) (by kernel_rfl) ?_)
  intro b21 w22 a23 hbb21 hx25 hg26 hf24
  have hm27 := hm0.box hbb21 hx25 hg26
  refine go 1 [] [1] [(1, .pointer (some ⟨b21, 0, none⟩))] [] hf24 (by kernel_rfl) trivial fun a28 hf29 => ?_
  refine endL rfl ?_
  refine thenN ?_
  refine wp_seq ?_
  rcases if_split H0 with ⟨c30, H0⟩ | ⟨c30, H0⟩
  · rcases if_split H0 with ⟨c31, H0⟩ | ⟨c31, H0⟩
    · refine reg [.slice A0_0 x0.Shape.length c0_0, .bool true, .slice A0_1 x0.Data.length c0_1, .bool true] [2] [(2, .bool true)] [.cell ⟨b21, 0, none⟩ (.slice A0_0 x0.Shape.length c0_0), .is (decide ((x0.Shape.length : Int) ≤ 40) = true), .cell ⟨b21, 1, none⟩ (.slice A0_1 x0.Data.length c0_1), .is (decide ((x0.Data.length : Int) ≤ 8192) = true)] hf29 (by kernel_rfl) ⟨(hm27.cell 0 rfl rfl), (decide_eq_true c30), (hm27.cell 0 rfl rfl), (decide_eq_true c31), trivial⟩ fun a32 hf33 => ?_
      have hm34 := hm27.sel [] _ rfl (by kernel_rfl)
      refine thenN ?_
      refine wp_ret ?_
      have hm35 : Mem [] M w0 [] w22 := hm34.sel [] _ rfl (by kernel_rfl)
      obtain rfl := Option.some.inj H0
      refine ret [] [.bool true] [] hf33 (by kernel_rfl) trivial ?_
      exact ⟨_, rfl, rfl, hm35⟩
    · refine reg [.slice A0_0 x0.Shape.length c0_0, .bool true, .slice A0_1 x0.Data.length c0_1, .bool false] [2] [(2, .bool false)] [.cell ⟨b21, 0, none⟩ (.slice A0_0 x0.Shape.length c0_0), .is (decide ((x0.Shape.length : Int) ≤ 40) = true), .cell ⟨b21, 1, none⟩ (.slice A0_1 x0.Data.length c0_1), .is (decide ((x0.Data.length : Int) ≤ 8192) = false)] hf29 (by kernel_rfl) ⟨(hm27.cell 0 rfl rfl), (decide_eq_true c30), (hm27.cell 0 rfl rfl), (decide_eq_false c31), trivial⟩ fun a37 hf38 => ?_
      have hm39 := hm27.sel [] _ rfl (by kernel_rfl)
      refine thenN ?_
      refine wp_ret ?_
      have hm40 : Mem [] M w0 [] w22 := hm39.sel [] _ rfl (by kernel_rfl)
      obtain rfl := Option.some.inj H0
      refine ret [] [.bool false] [] hf38 (by kernel_rfl) trivial ?_
      exact ⟨_, rfl, rfl, hm40⟩
  · refine reg [.slice A0_0 x0.Shape.length c0_0, .bool false] [2] [(2, .bool false)] [.cell ⟨b21, 0, none⟩ (.slice A0_0 x0.Shape.length c0_0), .is (decide ((x0.Shape.length : Int) ≤ 40) = false)] hf29 (by kernel_rfl) ⟨(hm27.cell 0 rfl rfl), (decide_eq_false c30), trivial⟩ fun a42 hf43 => ?_
    have hm44 := hm27.sel [] _ rfl (by kernel_rfl)
    refine thenN ?_
    refine wp_ret ?_
    have hm45 : Mem [] M w0 [] w22 := hm44.sel [] _ rfl (by kernel_rfl)
    obtain rfl := Option.some.inj H0
    refine ret [] [.bool false] [] hf43 (by kernel_rfl) trivial ?_
    exact ⟨_, rfl, rfl, hm45⟩

/-! ### backstitch/backstitchref1.Bits -/
noncomputable def ref1_Bits.f (x0 : Nat) : Option Int :=
  if (fne x0 x0) = true then (some 9221120237041090561)
  else (some (x0 : Int))
set_option maxRecDepth 100000 in
set_option maxHeartbeats 4000000 in
theorem ref1_Bits.calls (M : List (Option Nat)) (w0 : World) (x0 : Nat) (b0 : Nat) (h0 : FR b0 x0) (hm0 : Mem [] M w0 [] w0) (r : Int) (H0 : ref1_Bits.f x0 = some r) :
    Calls Try.prog 57 [.float .f64 b0].toArray w0 (fun x w' => ∃ v, x = .returned v ∧ v = .int .u64 r ∧ Mem [] M w0 [] w') := by
  unfold ref1_Bits.f at H0
  refine enter (n := 8) Try.func57 rfl rfl (by kernel_rfl) fun a0 (hf0 : Fr 8 a0 [(0, .float .f64 b0)]) => ?_
  refine wp_seq ?_
  refine reg [] [0] [(0, .float .f64 b0)] [] hf0 (by kernel_rfl) trivial fun a21 hf22 => ?_
  refine thenN ?_
  refine wp_seq ?_
  refine wp_seq ?_
  rcases ifb_split H0 with ⟨c23, H0⟩ | ⟨c23, H0⟩
  · refine reg [.bool true] [0, 5] [(0, .float .f64 b0), (5, .bool true)] [.is ((FloatKind.f64.format.order b0 b0 != some .eq) = true)] hf22 (by kernel_rfl) ⟨(ftNe h0 h0 c23), trivial⟩ fun a24 hf25 => ?_
    refine thenN ?_
    refine condT hf25 (by kernel_rfl) ?_
    refine wp_seq ?_
    refine reg [] [2] [(2, .int .u64 9221120237041090561)] [] hf25 (by kernel_rfl) trivial fun a26 hf27 => ?_
    refine thenN ?_
    refine wp_ret ?_
    refine thenR ?_
    have hm28 : Mem [] M w0 [] w0 := hm0.sel [] _ rfl (by kernel_rfl)
    obtain rfl := Option.some.inj H0
    refine ret [] [.int .u64 9221120237041090561] [] hf27 (by kernel_rfl) trivial ?_
    exact ⟨_, rfl, rfl, hm28⟩
  · refine reg [.bool false] [0, 5] [(0, .float .f64 b0), (5, .bool false)] [.is ((FloatKind.f64.format.order b0 b0 != some .eq) = false)] hf22 (by kernel_rfl) ⟨(ftNe h0 h0 c23), trivial⟩ fun a30 hf31 => ?_
    refine thenN ?_
    refine condF hf31 (by kernel_rfl) ?_
    refine wp_skip ?_
    refine thenN ?_
    refine wp_seq ?_
    refine inReg ?_
    refine go 1 [] [6] [(6, .float .f64 b0)] [] hf31 (by kernel_rfl) trivial fun a32 hf33 => ?_
    refine listOf hf33 rfl (by kernel_rfl) (aExtern (fid := 67) (args := [.float .f64 b0]) (d := 7) (R := fun v w' => v = .int .u64 (x0 : Int) ∧ w0 = w') hf33 (by kernel_rfl) (by kernel_rfl) ⟨_, Try.func67, rfl, rfl, by kernel_rfl, rfl⟩ ⟨_, _, run_bits _, by rw [FR.bits h0 c23], rfl⟩ ?_)
    rintro _ _ a35 ⟨rfl, rfl⟩ hf36
    refine go 1 [] [2] [(2, .int .u64 (x0 : Int))] [] hf36 (by kernel_rfl) trivial fun a37 hf38 => ?_
    refine endL rfl ?_
    refine thenN ?_
    refine wp_ret ?_
    have hm39 : Mem [] M w0 [] w0 := hm0.sel [] _ rfl (by kernel_rfl)
    obtain rfl := Option.some.inj H0
    refine ret [] [.int .u64 (x0 : Int)] [] hf38 (by kernel_rfl) trivial ?_
    exact ⟨_, rfl, rfl, hm39⟩

/-! ### backstitch/backstitchref1.Same -/
noncomputable def ref1_Same.f (x0 : Nat) (x1 : Nat) : Option Bool :=
  (ref1_Bits.f x0).bind fun r23 =>
  (ref1_Bits.f x1).bind fun r24 =>
  if r23 = r24 then (some true)
  else (some false)
set_option maxRecDepth 100000 in
set_option maxHeartbeats 4000000 in
theorem ref1_Same.calls (M : List (Option Nat)) (w0 : World) (x0 : Nat) (b0 : Nat) (h0 : FR b0 x0) (x1 : Nat) (b1 : Nat) (h1 : FR b1 x1) (hm0 : Mem [] M w0 [] w0) (r : Bool) (H0 : ref1_Same.f x0 x1 = some r) :
    Calls Try.prog 35 [.float .f64 b0, .float .f64 b1].toArray w0 (fun x w' => ∃ v, x = .returned v ∧ v = .bool r ∧ Mem [] M w0 [] w') := by
  unfold ref1_Same.f at H0
  refine enter (n := 10) Try.func35 rfl rfl (by kernel_rfl) fun a0 (hf0 : Fr 10 a0 [(0, .float .f64 b0), (1, .float .f64 b1)]) => ?_
  refine wp_seq ?_
  refine reg [] [0, 1] [(0, .float .f64 b0), (1, .float .f64 b1)] [] hf0 (by kernel_rfl) trivial fun a21 hf22 => ?_
  refine thenN ?_
  refine wp_seq ?_
  obtain ⟨r23, hr23, H0⟩ := ob_split H0
  obtain ⟨r24, hr24, H0⟩ := ob_split H0
  rcases if_split H0 with ⟨c25, H0⟩ | ⟨c25, H0⟩
  · refine inReg ?_
    refine go 1 [] [1, 5] [(1, .float .f64 b1), (5, .float .f64 b0)] [] hf22 (by kernel_rfl) trivial fun a26 hf27 => ?_
    refine listOf hf27 rfl (by kernel_rfl) (aCall (fid := 57) (args := [.float .f64 b0]) (d := 6) hf27 (by kernel_rfl) (by kernel_rfl) callable57 (ref1_Bits.calls _ _ x0 b0 h0 (hm0.give [] [] rfl rfl) r23 hr23) ?_)
    rintro _ w28 a29 ⟨rfl, hk31⟩ hf30
    have hm32 := hm0.still hk31.cum.none
    refine go 1 [] [6, 7] [(6, .int .u64 r23), (7, .float .f64 b1)] [] hf30 (by kernel_rfl) trivial fun a33 hf34 => ?_
    refine listOf hf34 rfl (by kernel_rfl) (aCall (fid := 57) (args := [.float .f64 b1]) (d := 8) hf34 (by kernel_rfl) (by kernel_rfl) callable57 (ref1_Bits.calls _ _ x1 b1 h1 (hm32.give [] [] rfl rfl) r24 hr24) ?_)
    rintro _ w35 a36 ⟨rfl, hk38⟩ hf37
    have hm39 := hm32.still hk38.cum.none
    refine go 2 [.bool true] [4] [(4, .bool true)] [.is (((r23 : Int) == r24) = true)] hf37 (by kernel_rfl) ⟨(eqT c25), trivial⟩ fun a40 hf41 => ?_
    refine endL rfl ?_
    refine thenN ?_
    refine wp_ret ?_
    have hm42 : Mem [] M w0 [] w35 := hm39.sel [] _ rfl (by kernel_rfl)
    obtain rfl := Option.some.inj H0
    refine ret [] [.bool true] [] hf41 (by kernel_rfl) trivial ?_
    exact ⟨_, rfl, rfl, hm42⟩
  · refine inReg ?_
    refine go 1 [] [1, 5] [(1, .float .f64 b1), (5, .float .f64 b0)] [] hf22 (by kernel_rfl) trivial fun a44 hf45 => ?_
    refine listOf hf45 rfl (by kernel_rfl) (aCall (fid := 57) (args := [.float .f64 b0]) (d := 6) hf45 (by kernel_rfl) (by kernel_rfl) callable57 (ref1_Bits.calls _ _ x0 b0 h0 (hm0.give [] [] rfl rfl) r23 hr23) ?_)
    rintro _ w46 a47 ⟨rfl, hk49⟩ hf48
    have hm50 := hm0.still hk49.cum.none
    refine go 1 [] [6, 7] [(6, .int .u64 r23), (7, .float .f64 b1)] [] hf48 (by kernel_rfl) trivial fun a51 hf52 => ?_
    refine listOf hf52 rfl (by kernel_rfl) (aCall (fid := 57) (args := [.float .f64 b1]) (d := 8) hf52 (by kernel_rfl) (by kernel_rfl) callable57 (ref1_Bits.calls _ _ x1 b1 h1 (hm50.give [] [] rfl rfl) r24 hr24) ?_)
    rintro _ w53 a54 ⟨rfl, hk56⟩ hf55
    have hm57 := hm50.still hk56.cum.none
    refine go 2 [.bool false] [4] [(4, .bool false)] [.is (((r23 : Int) == r24) = false)] hf55 (by kernel_rfl) ⟨(eqF c25), trivial⟩ fun a58 hf59 => ?_
    refine endL rfl ?_
    refine thenN ?_
    refine wp_ret ?_
    have hm60 : Mem [] M w0 [] w53 := hm57.sel [] _ rfl (by kernel_rfl)
    obtain rfl := Option.some.inj H0
    refine ret [] [.bool false] [] hf59 (by kernel_rfl) trivial ?_
    exact ⟨_, rfl, rfl, hm60⟩

/-! ### backstitch/backstitchref1.Size -/
noncomputable def ref1_Size.l0 (x0 : (List Int)) (s35 : Int) : Step Int (Out2 Int (Int × Int)) :=
  if s35 < (x0.length : Int) then (if 0 ≤ s35 ∧ s35 < (x0.length : Int) then (if (rd x0 s35) < 1 then (.done (.ret (0, 2)))
  else (.next (w64 (s35 + 1))))
  else .bad)
  else (.done (.go s35))
noncomputable def ref1_Size.l1 (x0 : (List Int)) (s71 : (Int × Int)) : Step (Int × Int) (Out2 (Int × Int) (Int × Int)) :=
  if s71.2 < (x0.length : Int) then (if 0 ≤ s71.2 ∧ s71.2 < (x0.length : Int) then (if s71.1 ≠ 0 then (if (w64 (Int.tdiv 4096 s71.1)) < (rd x0 s71.2) then (.done (.ret (0, 3)))
  else (.next ((w64 (s71.1 * (rd x0 s71.2))), (w64 (s71.2 + 1)))))
  else .bad)
  else .bad)
  else (.done (.go (s71.1, s71.2)))
noncomputable def ref1_Size.f (x0 : (List Int)) : Option (Int × Int) :=
  if 4 < (x0.length : Int) then (some (0, 2))
  else ((loop (ref1_Size.l0 x0) 0).bind fun r36 =>
  r36.on (fun yr36 =>
  (loop (ref1_Size.l1 x0) (1, 0)).bind fun r72 =>
  r72.on (fun yr72 =>
  some (yr72.1, 0)) (fun y => some y)) (fun y => some y))
set_option maxRecDepth 100000 in
set_option maxHeartbeats 4000000 in
theorem ref1_Size.calls (M : List (Option Nat)) (w0 : World) (x0 : (List Int)) (A0 : Option Addr) (n0 c0 : Nat) (e0 : n0 = x0.length) (hm0 : Mem [] M w0 [.sl (Kd.int .i64) A0 c0 x0] w0) (r : (Int × Int)) (H0 : ref1_Size.f x0 = some r) :
    Calls Try.prog 24 [.slice A0 n0 c0].toArray w0 (fun x w' => ∃ v, x = .returned v ∧ v = .tuple #[.int .i64 r.1, .int .i64 r.2] ∧ Mem [] M w0 [] w') := by
  subst e0
  unfold ref1_Size.f at H0
  refine enter (n := 41) Try.func24 rfl rfl (by kernel_rfl) fun a0 (hf0 : Fr 41 a0 [(0, .slice A0 x0.length c0)]) => ?_
  refine wp_seq ?_
  refine reg [] [0] [(0, .slice A0 x0.length c0)] [] hf0 (by kernel_rfl) trivial fun a21 hf22 => ?_
  refine thenN ?_
  refine wp_seq ?_
  refine wp_seq ?_
  rcases if_split H0 with ⟨c23, H0⟩ | ⟨c23, H0⟩
  · refine reg [.bool true] [0, 9] [(0, .slice A0 x0.length c0), (9, .bool true)] [.is (decide (4 < (x0.length : Int)) = true)] hf22 (by kernel_rfl) ⟨(decide_eq_true c23), trivial⟩ fun a24 hf25 => ?_
    refine thenN ?_
    refine condT hf25 (by kernel_rfl) ?_
    refine wp_seq ?_
    refine reg [] [2, 3] [(2, .int .i64 0), (3, .int .i64 2)] [] hf25 (by kernel_rfl) trivial fun a26 hf27 => ?_
    have hm28 := hm0.sel [] _ rfl (by kernel_rfl)
    refine thenN ?_
    refine wp_ret ?_
    refine thenR ?_
    have hm29 : Mem [] M w0 [] w0 := hm28.sel [] _ rfl (by kernel_rfl)
    obtain rfl := Option.some.inj H0
    refine ret [] [.int .i64 0, .int .i64 2] [] hf27 (by kernel_rfl) trivial ?_
    exact ⟨_, rfl, rfl, hm29⟩
  · refine reg [.bool false] [0, 9] [(0, .slice A0 x0.length c0), (9, .bool false)] [.is (decide (4 < (x0.length : Int)) = false)] hf22 (by kernel_rfl) ⟨(decide_eq_false c23), trivial⟩ fun a31 hf32 => ?_
    refine thenN ?_
    refine condF hf32 (by kernel_rfl) ?_
    refine wp_skip ?_
    refine thenN ?_
    refine wp_seq ?_
    refine wp_seq ?_
    refine reg [] [0, 4] [(0, .slice A0 x0.length c0), (4, .int .i64 0)] [] hf32 (by kernel_rfl) trivial fun a33 hf34 => ?_
    refine thenN ?_
    obtain ⟨r36, hr36, H0⟩ := ob_split H0
    refine wpBlock (Mid := fun (a : Act) (w : World) => ∃ yr36 : Int, r36 = .go yr36 ∧ Fr 41 a [(0, .slice A0 x0.length c0), (4, .int .i64 yr36)] ∧ Mem [] M w0 [.sl (Kd.int .i64) A0 c0 x0] w) ?_ ?_
    · refine wpLoop (ref1_Size.l0 x0) r36 (fun (s35 : Int) (a : Act) (w : World) => Fr 41 a [(0, .slice A0 x0.length c0), (4, .int .i64 s35)] ∧ Mem [] M w0 [.sl (Kd.int .i64) A0 c0 x0] w) 0 hr36 ⟨hf34.sel (l := [0, 4]) (by kernel_rfl), hm0.sel [0] _ rfl (by kernel_rfl)⟩ ?_
      rintro g37 s35 a38 w39 H1 ⟨hf40, hm41⟩
      unfold ref1_Size.l0 at H1
      refine wp_seq ?_
      refine wp_seq ?_
      rcases ifS_split H1 with ⟨c42, H1⟩ | ⟨c42, H1⟩
      · refine reg [.bool true] [0, 4, 13] [(0, .slice A0 x0.length c0), (4, .int .i64 s35), (13, .bool true)] [.is (decide (s35 < (x0.length : Int)) = true)] hf40 (by kernel_rfl) ⟨(decide_eq_true c42), trivial⟩ fun a43 hf44 => ?_
        refine thenN ?_
        refine condT hf44 (by kernel_rfl) ?_
        refine wp_skip ?_
        refine thenN ?_
        refine wp_seq ?_
        refine wp_block ?_
        refine wp_seq ?_
        obtain ⟨g45, H1⟩ := ifS_guard H1
        rcases ifS_split H1 with ⟨c46, H1⟩ | ⟨c46, H1⟩
        · have q47 := (hm41.slAt 0 rfl).int s35 g45.1 g45.2
          refine reg [.int .i64 (rd x0 s35), .bool true] [0, 4, 20] [(0, .slice A0 x0.length c0), (4, .int .i64 s35), (20, .bool true)] [.is (Option.isSome A0 = true), .is (0 ≤ s35 ∧ s35 < (x0.length : Int)), .cell ((ad A0).add ((s35).toNat * 1)) (.int .i64 (rd x0 s35)), .is (decide ((rd x0 s35) < 1) = true)] hf44 (by kernel_rfl) ⟨q47.1, g45, q47.2, (decide_eq_true c46), trivial⟩ fun a48 hf49 => ?_
          refine thenN ?_
          refine condT hf49 (by kernel_rfl) ?_
          refine wp_seq ?_
          refine reg [] [2, 3] [(2, .int .i64 0), (3, .int .i64 2)] [] hf49 (by kernel_rfl) trivial fun a50 hf51 => ?_
          have hm52 := hm41.sel [] _ rfl (by kernel_rfl)
          refine thenN ?_
          refine wp_ret ?_
          refine blkR ?_
          refine thenR ?_
          refine thenR ?_
          refine .inr ⟨rfl, ?_⟩
          refine thenR ?_
          have hm53 : Mem [] M w0 [] w39 := hm52.sel [] _ rfl (by kernel_rfl)
          obtain rfl := Option.some.inj H1
          obtain rfl := Option.some.inj H0
          refine ret [] [.int .i64 0, .int .i64 2] [] hf51 (by kernel_rfl) trivial ?_
          exact ⟨_, rfl, rfl, hm53⟩
        · have q55 := (hm41.slAt 0 rfl).int s35 g45.1 g45.2
          refine reg [.int .i64 (rd x0 s35), .bool false] [0, 4, 20] [(0, .slice A0 x0.length c0), (4, .int .i64 s35), (20, .bool false)] [.is (Option.isSome A0 = true), .is (0 ≤ s35 ∧ s35 < (x0.length : Int)), .cell ((ad A0).add ((s35).toNat * 1)) (.int .i64 (rd x0 s35)), .is (decide ((rd x0 s35) < 1) = false)] hf44 (by kernel_rfl) ⟨q55.1, g45, q55.2, (decide_eq_false c46), trivial⟩ fun a56 hf57 => ?_
          refine thenN ?_
          refine condF hf57 (by kernel_rfl) ?_
          refine wp_skip ?_
          refine blkN ?_
          refine thenN ?_
          refine reg [] [0, 4] [(0, .slice A0 x0.length c0), (4, .int .i64 (w64 (s35 + 1)))] [] hf57 (by kernel_rfl) trivial fun a58 hf59 => ?_
          exact ⟨(w64 (s35 + 1)), H1, hf59.sel (l := [0, 4]) (by kernel_rfl), hm41.sel [0] _ rfl (by kernel_rfl)⟩
      · refine reg [.bool false] [0, 4, 13] [(0, .slice A0 x0.length c0), (4, .int .i64 s35), (13, .bool false)] [.is (decide (s35 < (x0.length : Int)) = false)] hf40 (by kernel_rfl) ⟨(decide_eq_false c42), trivial⟩ fun a60 hf61 => ?_
        refine thenN ?_
        refine condF hf61 (by kernel_rfl) ?_
        refine wp_exit ?_
        refine thenE ?_
        refine thenE ?_
        obtain rfl := Option.some.inj H1
        exact .inl ⟨rfl, s35, rfl, hf61.sel (l := [0, 4]) (by kernel_rfl), hm41.sel [0] _ rfl (by kernel_rfl)⟩
    rintro a62 w63 ⟨yr36, rfl, hf65, hm66⟩
    refine thenN ?_
    refine wp_seq ?_
    refine reg [] [0, 5] [(0, .slice A0 x0.length c0), (5, .int .i64 1)] [] hf65 (by kernel_rfl) trivial fun a67 hf68 => ?_
    refine thenN ?_
    refine wp_seq ?_
    refine wp_seq ?_
    refine reg [] [0, 5, 6] [(0, .slice A0 x0.length c0), (5, .int .i64 1), (6, .int .i64 0)] [] hf68 (by kernel_rfl) trivial fun a69 hf70 => ?_
    refine thenN ?_
    obtain ⟨r72, hr72, H0⟩ := ob_split H0
    refine wpBlock (Mid := fun (a : Act) (w : World) => ∃ yr72 : (Int × Int), r72 = .go yr72 ∧ Fr 41 a [(0, .slice A0 x0.length c0), (5, .int .i64 yr72.1), (6, .int .i64 yr72.2)] ∧ Mem [] M w0 [.sl (Kd.int .i64) A0 c0 x0] w) ?_ ?_
    · refine wpLoop (ref1_Size.l1 x0) r72 (fun (s71 : (Int × Int)) (a : Act) (w : World) => Fr 41 a [(0, .slice A0 x0.length c0), (5, .int .i64 s71.1), (6, .int .i64 s71.2)] ∧ Mem [] M w0 [.sl (Kd.int .i64) A0 c0 x0] w) (1, 0) hr72 ⟨hf70.sel (l := [0, 5, 6]) (by kernel_rfl), hm66.sel [0] _ rfl (by kernel_rfl)⟩ ?_
      rintro g73 s71 a74 w75 H1 ⟨hf76, hm77⟩
      unfold ref1_Size.l1 at H1
      refine wp_seq ?_
      refine wp_seq ?_
      rcases ifS_split H1 with ⟨c78, H1⟩ | ⟨c78, H1⟩
      · refine reg [.bool true] [0, 5, 6, 24] [(0, .slice A0 x0.length c0), (5, .int .i64 s71.1), (6, .int .i64 s71.2), (24, .bool true)] [.is (decide (s71.2 < (x0.length : Int)) = true)] hf76 (by kernel_rfl) ⟨(decide_eq_true c78), trivial⟩ fun a79 hf80 => ?_
        refine thenN ?_
        refine condT hf80 (by kernel_rfl) ?_
        refine wp_skip ?_
        refine thenN ?_
        refine wp_seq ?_
        refine wp_block ?_
        refine wp_seq ?_
        refine wp_seq ?_
        obtain ⟨g81, H1⟩ := ifS_guard H1
        obtain ⟨g82, H1⟩ := ifS_guard H1
        rcases ifS_split H1 with ⟨c83, H1⟩ | ⟨c83, H1⟩
        · have q84 := (hm77.slAt 0 rfl).int s71.2 g81.1 g81.2
          refine regQ [.int .i64 (rd x0 s71.2), .bool true] [0, 5, 6, 33] [(0, .slice A0 x0.length c0), (5, .int .i64 s71.1), (6, .int .i64 s71.2), (33, .bool true)] [.is (Option.isSome A0 = true), .is (0 ≤ s71.2 ∧ s71.2 < (x0.length : Int)), .cell ((ad A0).add ((s71.2).toNat * 1)) (.int .i64 (rd x0 s71.2)), .is (s71.1 ≠ 0), .is (decide ((w64 (Int.tdiv 4096 s71.1)) < (rd x0 s71.2)) = true)] (by kernel_rfl) (by kernel_rfl) hf80 (by kernel_rfl) ⟨q84.1, g81, q84.2, g82, (decide_eq_true c83), trivial⟩ fun a85 w87 hf86 hg88 => ?_
          have hm89 := hm77.still hg88
          refine thenN ?_
          refine condT hf86 (by kernel_rfl) ?_
          refine wp_seq ?_
          refine reg [] [2, 3] [(2, .int .i64 0), (3, .int .i64 3)] [] hf86 (by kernel_rfl) trivial fun a90 hf91 => ?_
          have hm92 := hm89.sel [] _ rfl (by kernel_rfl)
          refine thenN ?_
          refine wp_ret ?_
          refine thenR ?_
          refine blkR ?_
          refine thenR ?_
          refine thenR ?_
          refine .inr ⟨rfl, ?_⟩
          refine thenR ?_
          have hm93 : Mem [] M w0 [] w87 := hm92.sel [] _ rfl (by kernel_rfl)
          obtain rfl := Option.some.inj H1
          obtain rfl := Option.some.inj H0
          refine ret [] [.int .i64 0, .int .i64 3] [] hf91 (by kernel_rfl) trivial ?_
          exact ⟨_, rfl, rfl, hm93⟩
        · have q95 := (hm77.slAt 0 rfl).int s71.2 g81.1 g81.2
          refine regQ [.int .i64 (rd x0 s71.2), .bool false] [0, 5, 6, 33] [(0, .slice A0 x0.length c0), (5, .int .i64 s71.1), (6, .int .i64 s71.2), (33, .bool false)] [.is (Option.isSome A0 = true), .is (0 ≤ s71.2 ∧ s71.2 < (x0.length : Int)), .cell ((ad A0).add ((s71.2).toNat * 1)) (.int .i64 (rd x0 s71.2)), .is (s71.1 ≠ 0), .is (decide ((w64 (Int.tdiv 4096 s71.1)) < (rd x0 s71.2)) = false)] (by kernel_rfl) (by kernel_rfl) hf80 (by kernel_rfl) ⟨q95.1, g81, q95.2, g82, (decide_eq_false c83), trivial⟩ fun a96 w98 hf97 hg99 => ?_
          have hm100 := hm77.still hg99
          refine thenN ?_
          refine condF hf97 (by kernel_rfl) ?_
          refine wp_skip ?_
          refine thenN ?_
          have q101 := (hm100.slAt 0 rfl).int s71.2 g81.1 g81.2
          refine reg [.int .i64 (rd x0 s71.2)] [0, 5, 6] [(0, .slice A0 x0.length c0), (5, .int .i64 (w64 (s71.1 * (rd x0 s71.2)))), (6, .int .i64 s71.2)] [.is (Option.isSome A0 = true), .is (0 ≤ s71.2 ∧ s71.2 < (x0.length : Int)), .cell ((ad A0).add ((s71.2).toNat * 1)) (.int .i64 (rd x0 s71.2))] hf97 (by kernel_rfl) ⟨q101.1, g81, q101.2, trivial⟩ fun a102 hf103 => ?_
          refine blkN ?_
          refine thenN ?_
          refine reg [] [0, 5, 6] [(0, .slice A0 x0.length c0), (5, .int .i64 (w64 (s71.1 * (rd x0 s71.2)))), (6, .int .i64 (w64 (s71.2 + 1)))] [] hf103 (by kernel_rfl) trivial fun a104 hf105 => ?_
          exact ⟨((w64 (s71.1 * (rd x0 s71.2))), (w64 (s71.2 + 1))), H1, hf105.sel (l := [0, 5, 6]) (by kernel_rfl), hm100.sel [0] _ rfl (by kernel_rfl)⟩
      · refine reg [.bool false] [0, 5, 6, 24] [(0, .slice A0 x0.length c0), (5, .int .i64 s71.1), (6, .int .i64 s71.2), (24, .bool false)] [.is (decide (s71.2 < (x0.length : Int)) = false)] hf76 (by kernel_rfl) ⟨(decide_eq_false c78), trivial⟩ fun a106 hf107 => ?_
        refine thenN ?_
        refine condF hf107 (by kernel_rfl) ?_
        refine wp_exit ?_
        refine thenE ?_
        refine thenE ?_
        obtain rfl := Option.some.inj H1
        exact .inl ⟨rfl, (s71.1, s71.2), rfl, hf107.sel (l := [0, 5, 6]) (by kernel_rfl), hm77.sel [0] _ rfl (by kernel_rfl)⟩
    rintro a108 w109 ⟨yr72, rfl, hf110, hm111⟩
    refine thenN ?_
    refine wp_seq ?_
    refine reg [] [2, 3] [(2, .int .i64 yr72.1), (3, .int .i64 0)] [] hf110 (by kernel_rfl) trivial fun a112 hf113 => ?_
    have hm114 := hm111.sel [] _ rfl (by kernel_rfl)
    refine thenN ?_
    refine wp_ret ?_
    have hm115 : Mem [] M w0 [] w109 := hm114.sel [] _ rfl (by kernel_rfl)
    obtain rfl := Option.some.inj H0
    refine ret [] [.int .i64 yr72.1, .int .i64 0] [] hf113 (by kernel_rfl) trivial ?_
    exact ⟨_, rfl, rfl, hm115⟩

/-! ### backstitch/backstitchref1.TensorMay -/
noncomputable def ref1_TensorMay.f (x0 : Tensor) : Option Bool :=
  (ref1_Size.f x0.Shape).bind fun r30 =>
  if r30.2 = 0 then (if r30.1 = (x0.Data.length : Int) then (some true)
  else (some false))
  else (some false)
set_option maxRecDepth 100000 in
set_option maxHeartbeats 4000000 in
theorem ref1_TensorMay.calls (M : List (Option Nat)) (w0 : World) (x0 : Tensor) (A0_0 : Option Addr) (n0_0 c0_0 : Nat) (e0_0 : n0_0 = x0.Shape.length) (A0_1 : Option Addr) (n0_1 c0_1 : Nat) (e0_1 : n0_1 = x0.Data.length) (hm0 : Mem [] M w0 [.sl (Kd.int .i64) A0_0 c0_0 x0.Shape, .sl Kd.float A0_1 c0_1 x0.Data] w0) (r : Bool) (H0 : ref1_TensorMay.f x0 = some r) :
    Calls Try.prog 41 [.agg #[.slice A0_0 n0_0 c0_0, .slice A0_1 n0_1 c0_1]].toArray w0 (fun x w' => ∃ v, x = .returned v ∧ v = .bool r ∧ Mem [] M w0 [] w') := by
  subst e0_0
  subst e0_1
  unfold ref1_TensorMay.f at H0
  refine enter (n := 20) Try.func41 rfl rfl (by kernel_rfl) fun a0 (hf0 : Fr 20 a0 [(0, .agg #[.slice A0_0 x0.Shape.length c0_0, .slice A0_1 x0.Data.length c0_1])]) => ?_
  refine wp_seq ?_
  refine inReg ?_
  refine listOf hf0 rfl (by kernel_rfl) (aNew (cs := [.slice A0_0 x0.Shape.length c0_0, .slice A0_1 x0.Data.length c0_1]) (T := 42) (d := 1) hf0 (by kernel_rfl) (by kernel_rfl) ?_)
  intro b21 w22 a23 hbb21 hx25 hg26 hf24
  have hm27 := hm0.box hbb21 hx25 hg26
  refine go 1 [] [1] [(1, .pointer (some ⟨b21, 0, none⟩))] [] hf24 (by kernel_rfl) trivial fun a28 hf29 => ?_
  refine endL rfl ?_
  refine thenN ?_
  refine wp_seq ?_
  obtain ⟨r30, hr30, H0⟩ := ob_split H0
  refine inReg ?_
  refine go 2 [.slice A0_0 x0.Shape.length c0_0] [1, 7] [(1, .pointer (some ⟨b21, 0, none⟩)), (7, .slice A0_0 x0.Shape.length c0_0)] [.cell ⟨b21, 0, none⟩ (.slice A0_0 x0.Shape.length c0_0)] hf29 (by kernel_rfl) ⟨(hm27.cell 0 rfl rfl), trivial⟩ fun a31 hf32 => ?_
  refine listOf hf32 rfl (by kernel_rfl) (aCall (fid := 24) (args := [.slice A0_0 x0.Shape.length c0_0]) (d := 8) hf32 (by kernel_rfl) (by kernel_rfl) callable24 (ref1_Size.calls _ _ x0.Shape A0_0 x0.Shape.length c0_0 rfl (hm27.give [1] [.sl (Kd.int .i64) A0_0 c0_0 x0.Shape] rfl rfl) r30 hr30) ?_)
  rintro _ w33 a34 ⟨rfl, hk36⟩ hf35
  have hm37 := hm27.still hk36.cum.none
  refine go 5 [] [1, 3, 4] [(1, .pointer (some ⟨b21, 0, none⟩)), (3, .int .i64 r30.1), (4, .int .i64 r30.2)] [] hf35 (by kernel_rfl) trivial fun a38 hf39 => ?_
  refine endL rfl ?_
  refine thenN ?_
  refine wp_seq ?_
  rcases if_split H0 with ⟨c40, H0⟩ | ⟨c40, H0⟩
  · rcases if_split H0 with ⟨c41, H0⟩ | ⟨c41, H0⟩
    · refine reg [.bool true, .slice A0_1 x0.Data.length c0_1, .bool true] [2] [(2, .bool true)] [.is (((r30.2 : Int) == 0) = true), .cell ⟨b21, 1, none⟩ (.slice A0_1 x0.Data.length c0_1), .is (((r30.1 : Int) == (x0.Data.length : Int)) = true)] hf39 (by kernel_rfl) ⟨(eqT c40), (hm37.cell 0 rfl rfl), (eqT c41), trivial⟩ fun a42 hf43 => ?_
      have hm44 := hm37.sel [] _ rfl (by kernel_rfl)
      refine thenN ?_
      refine wp_ret ?_
      have hm45 : Mem [] M w0 [] w33 := hm44.sel [] _ rfl (by kernel_rfl)
      obtain rfl := Option.some.inj H0
      refine ret [] [.bool true] [] hf43 (by kernel_rfl) trivial ?_
      exact ⟨_, rfl, rfl, hm45⟩
    · refine reg [.bool true, .slice A0_1 x0.Data.length c0_1, .bool false] [2] [(2, .bool false)] [.is (((r30.2 : Int) == 0) = true), .cell ⟨b21, 1, none⟩ (.slice A0_1 x0.Data.length c0_1), .is (((r30.1 : Int) == (x0.Data.length : Int)) = false)] hf39 (by kernel_rfl) ⟨(eqT c40), (hm37.cell 0 rfl rfl), (eqF c41), trivial⟩ fun a47 hf48 => ?_
      have hm49 := hm37.sel [] _ rfl (by kernel_rfl)
      refine thenN ?_
      refine wp_ret ?_
      have hm50 : Mem [] M w0 [] w33 := hm49.sel [] _ rfl (by kernel_rfl)
      obtain rfl := Option.some.inj H0
      refine ret [] [.bool false] [] hf48 (by kernel_rfl) trivial ?_
      exact ⟨_, rfl, rfl, hm50⟩
  · refine reg [.bool false] [2] [(2, .bool false)] [.is (((r30.2 : Int) == 0) = false)] hf39 (by kernel_rfl) ⟨(eqF c40), trivial⟩ fun a52 hf53 => ?_
    have hm54 := hm37.sel [] _ rfl (by kernel_rfl)
    refine thenN ?_
    refine wp_ret ?_
    have hm55 : Mem [] M w0 [] w33 := hm54.sel [] _ rfl (by kernel_rfl)
    obtain rfl := Option.some.inj H0
    refine ret [] [.bool false] [] hf53 (by kernel_rfl) trivial ?_
    exact ⟨_, rfl, rfl, hm55⟩

/-! ### backstitch/matrix.Turn -/
noncomputable def matrix_Turn.l1 (x0 : Tensor) (s95 : (Int × (List Nat))) (s109 : (Int × (List Nat))) : Step (Int × (List Nat)) (Int × (List Nat)) :=
  if s109.1 < (rd x0.Shape 1) then (if 0 ≤ (w64 ((w64 (s95.1 * (rd x0.Shape 1))) + s109.1)) ∧ (w64 ((w64 (s95.1 * (rd x0.Shape 1))) + s109.1)) < (x0.Data.length : Int) then (if 0 ≤ (w64 ((w64 (s109.1 * (rd x0.Shape 0))) + s95.1)) ∧ (w64 ((w64 (s109.1 * (rd x0.Shape 0))) + s95.1)) < (s109.2.length : Int) then (.next ((w64 (s109.1 + 1)), (put s109.2 (w64 ((w64 (s109.1 * (rd x0.Shape 0))) + s95.1)) (rd x0.Data (w64 ((w64 (s95.1 * (rd x0.Shape 1))) + s109.1))))))
  else .bad)
  else .bad)
  else (.done (s109.1, s109.2))
noncomputable def matrix_Turn.l0 (x0 : Tensor) (s95 : (Int × (List Nat))) : Step (Int × (List Nat)) (Int × (List Nat)) :=
  if s95.1 < (rd x0.Shape 0) then (bindS (loop (matrix_Turn.l1 x0 s95) (0, s95.2)) fun r110 =>
  .next ((w64 (s95.1 + 1)), r110.2))
  else (.done (s95.1, s95.2))
noncomputable def matrix_Turn.f (x0 : Tensor) : Option (Tensor × Int) :=
  (matrix_flat.f x0).bind fun r37 =>
  if r37 = true then (if (0 : Int) ≤ 0 ∧ 0 < (x0.Shape.length : Int) then (if (0 : Int) ≤ 1 ∧ 1 < (x0.Shape.length : Int) then ((tensor_New.f ([(rd x0.Shape 1), (rd x0.Shape 0)] : List Int) 0).bind fun r57 =>
  (loop (matrix_Turn.l0 x0) (0, r57.1.Data)).bind fun r96 =>
  some ((⟨r57.1.Shape, r96.2⟩ : Tensor), 0))
  else none)
  else none)
  else (some ((⟨([] : (List Int)), ([] : (List Nat))⟩ : Tensor), 2))
set_option maxRecDepth 100000 in
set_option maxHeartbeats 4000000 in
theorem matrix_Turn.calls (M : List (Option Nat)) (w0 : World) (x0 : Tensor) (A0_0 : Option Addr) (n0_0 c0_0 : Nat) (e0_0 : n0_0 = x0.Shape.length) (A0_1 : Option Addr) (n0_1 c0_1 : Nat) (e0_1 : n0_1 = x0.Data.length) (hm0 : Mem [] M w0 [.sl (Kd.int .i64) A0_0 c0_0 x0.Shape, .sl Kd.float A0_1 c0_1 x0.Data] w0) (r : (Tensor × Int)) (H0 : matrix_Turn.f x0 = some r) :
    Calls Try.prog 37 [.agg #[.slice A0_0 n0_0 c0_0, .slice A0_1 n0_1 c0_1]].toArray w0 (fun x w' => ∃ v, x = .returned v ∧ ∃ Ar0_0 cr0_0 Ar0_1 cr0_1, v = .tuple #[.agg #[.slice Ar0_0 r.1.Shape.length cr0_0, .slice Ar0_1 r.1.Data.length cr0_1], .int .i64 r.2] ∧ Mem [] M w0 [.ow (Kd.int .i64) 3 Ar0_0 cr0_0 r.1.Shape, .ow Kd.float 47 Ar0_1 cr0_1 r.1.Data] w') := by
  subst e0_0
  subst e0_1
  unfold matrix_Turn.f at H0
  refine enter (n := 57) Try.func37 rfl rfl (by kernel_rfl) fun a0 (hf0 : Fr 57 a0 [(0, .agg #[.slice A0_0 x0.Shape.length c0_0, .slice A0_1 x0.Data.length c0_1])]) => ?_
  refine wp_seq ?_
  refine inReg ?_
  refine listOf hf0 rfl (by kernel_rfl) (aNew (cs := [.slice A0_0 x0.Shape.length c0_0, .slice A0_1 x0.Data.length c0_1]) (T := 42) (d := 1) hf0 (by kernel_rfl) (by kernel_rfl) ?_)
  intro b21 w22 a23 hbb21 hx25 hg26 hf24
  have hm27 := hm0.box hbb21 hx25 hg26
  refine listOf hf24 rfl (by kernel_rfl) (aNew (cs := [.slice none 0 0, .slice none 0 0]) (T := 42) (d := 2) hf24 (by kernel_rfl) (by kernel_rfl) ?_)
  intro b28 w29 a30 hbb28 hx32 hg33 hf31
  have hm34 := hm27.box hbb28 hx32 hg33
  refine go 1 [] [1, 2] [(1, .pointer (some ⟨b21, 0, none⟩)), (2, .pointer (some ⟨b28, 0, none⟩))] [] hf31 (by kernel_rfl) trivial fun a35 hf36 => ?_
  refine endL rfl ?_
  refine thenN ?_
  refine wp_seq ?_
  refine wp_seq ?_
  obtain ⟨r37, hr37, H0⟩ := ob_split H0
  rcases ifb_split H0 with ⟨c38, H0⟩ | ⟨c38, H0⟩
  · refine inReg ?_
    refine go 1 [.agg #[.slice A0_0 x0.Shape.length c0_0, .slice A0_1 x0.Data.length c0_1]] [1, 2, 10] [(1, .pointer (some ⟨b21, 0, none⟩)), (2, .pointer (some ⟨b28, 0, none⟩)), (10, .agg #[.slice A0_0 x0.Shape.length c0_0, .slice A0_1 x0.Data.length c0_1])] [.cell ⟨b21, 0, none⟩ (.slice A0_0 x0.Shape.length c0_0), .cell ⟨b21, 1, none⟩ (.slice A0_1 x0.Data.length c0_1)] hf36 (by kernel_rfl) ⟨(hm34.cell 1 rfl rfl), (hm34.cell 1 rfl rfl), trivial⟩ fun a39 hf40 => ?_
    refine listOf hf40 rfl (by kernel_rfl) (aCall (fid := 53) (args := [.agg #[.slice A0_0 x0.Shape.length c0_0, .slice A0_1 x0.Data.length c0_1]]) (d := 11) hf40 (by kernel_rfl) (by kernel_rfl) callable53 (matrix_flat.calls _ _ x0 A0_0 x0.Shape.length c0_0 rfl A0_1 x0.Data.length c0_1 rfl (hm34.give [2, 3] [.sl (Kd.int .i64) A0_0 c0_0 x0.Shape, .sl Kd.float A0_1 c0_1 x0.Data] rfl rfl) r37 hr37) ?_)
    rintro _ w41 a42 ⟨rfl, hk44⟩ hf43
    have hm45 := hm34.still hk44.cum.none
    rw [c38] at hf43
    refine go 1 [] [1, 2, 12] [(1, .pointer (some ⟨b21, 0, none⟩)), (2, .pointer (some ⟨b28, 0, none⟩)), (12, .bool false)] [] hf43 (by kernel_rfl) trivial fun a46 hf47 => ?_
    refine endL rfl ?_
    refine thenN ?_
    refine condF hf47 (by kernel_rfl) ?_
    refine wp_skip ?_
    refine thenN ?_
    refine wp_seq ?_
    obtain ⟨g48, H0⟩ := if_guard H0
    obtain ⟨g49, H0⟩ := if_guard H0
    have q50 := (hm45.slAt 2 rfl).int 0 g48.1 g48.2
    have q51 := (hm45.slAt 2 rfl).int 1 g49.1 g49.2
    refine regQ [.slice A0_0 x0.Shape.length c0_0, .int .i64 (rd x0.Shape 0), .slice A0_0 x0.Shape.length c0_0, .int .i64 (rd x0.Shape 1)] [1, 2, 4, 5] [(1, .pointer (some ⟨b21, 0, none⟩)), (2, .pointer (some ⟨b28, 0, none⟩)), (4, .int .i64 (rd x0.Shape 0)), (5, .int .i64 (rd x0.Shape 1))] [.cell ⟨b21, 0, none⟩ (.slice A0_0 x0.Shape.length c0_0), .is (Option.isSome A0_0 = true), .is ((0 : Int) ≤ 0 ∧ 0 < (x0.Shape.length : Int)), .cell ((ad A0_0).add ((0 : Int).toNat * 1)) (.int .i64 (rd x0.Shape 0)), .cell ⟨b21, 0, none⟩ (.slice A0_0 x0.Shape.length c0_0), .is (Option.isSome A0_0 = true), .is ((0 : Int) ≤ 1 ∧ 1 < (x0.Shape.length : Int)), .cell ((ad A0_0).add ((1 : Int).toNat * 1)) (.int .i64 (rd x0.Shape 1))] (by kernel_rfl) (by kernel_rfl) hf47 (by kernel_rfl) ⟨(hm45.cell 1 rfl rfl), q50.1, g48, q50.2, (hm45.cell 1 rfl rfl), q51.1, g49, q51.2, trivial⟩ fun a52 w54 hf53 hg55 => ?_
    have hm56 := hm45.still hg55
    refine thenN ?_
    refine wp_seq ?_
    obtain ⟨r57, hr57, H0⟩ := ob_split H0
    refine inReg ?_
    refine go 2 [] [1, 2, 4, 5, 23, 24] [(1, .pointer (some ⟨b21, 0, none⟩)), (2, .pointer (some ⟨b28, 0, none⟩)), (4, .int .i64 (rd x0.Shape 0)), (5, .int .i64 (rd x0.Shape 1)), (23, .int .i64 (rd x0.Shape 1)), (24, .int .i64 (rd x0.Shape 0))] [] hf53 (by kernel_rfl) trivial fun a58 hf59 => ?_
    refine listOf hf59 rfl (by kernel_rfl) (aLit (cs := [.int .i64 (rd x0.Shape 1), .int .i64 (rd x0.Shape 0)]) (E := 3) (len := 2) (d := 25) hf59 (by kernel_rfl) (by kernel_rfl) ?_)
    intro b60 w61 a62 hbb60 hx65 hg66 hf63
    have hm56s := hm56.still hg66
    have hm67 : Mem [] M w0 [.sl (Kd.int .i64) (some ⟨b60, 0, none⟩) 2 ([(rd x0.Shape 1), (rd x0.Shape 0)] : List Int), .bx b28 [.slice none 0 0, .slice none 0 0] 42, .bx b21 [.slice A0_0 x0.Shape.length c0_0, .slice A0_1 x0.Data.length c0_1] 42, .sl (Kd.int .i64) A0_0 c0_0 x0.Shape, .sl Kd.float A0_1 c0_1 x0.Data] w61 := Mem.lit (kd := (Kd.int .i64)) (xs := ([(rd x0.Shape 1), (rd x0.Shape 0)] : List Int)) hm56 hbb60 hx65 hg66 (Els.append (Els.one (kd := (Kd.int .i64)) (us := [.int .i64 (rd x0.Shape 1)]) (x := (rd x0.Shape 1)) rfl) (Els.one (kd := (Kd.int .i64)) (us := [.int .i64 (rd x0.Shape 0)]) (x := (rd x0.Shape 0)) rfl))
    refine listOf hf63 rfl (by kernel_rfl) (aCall (fid := 54) (args := [.slice (some ⟨b60, 0, none⟩) 2 2, .float .f64 0]) (d := 26) hf63 (by kernel_rfl) (by kernel_rfl) callable54 (tensor_New.calls _ _ ([(rd x0.Shape 1), (rd x0.Shape 0)] : List Int) (some ⟨b60, 0, none⟩) 2 2 rfl 0 0 ((FR.lit (by kernel_rfl) (by kernel_rfl))) (hm67.give [0] [.sl (Kd.int .i64) (some ⟨b60, 0, none⟩) 2 ([(rd x0.Shape 1), (rd x0.Shape 0)] : List Int)] rfl rfl) r57 hr57) ?_)
    rintro _ w72 a73 ⟨A68, c69, A70, c71, rfl, hk75⟩ hf74
    have hm76 := hm67.back hk75
    refine go 3 [] [1, 2, 4, 5, 27, 28] [(1, .pointer (some ⟨b21, 0, none⟩)), (2, .pointer (some ⟨b28, 0, none⟩)), (4, .int .i64 (rd x0.Shape 0)), (5, .int .i64 (rd x0.Shape 1)), (27, .agg #[.slice A68 r57.1.Shape.length c69, .slice A70 r57.1.Data.length c71]), (28, .int .i64 r57.2)] [] hf74 (by kernel_rfl) trivial fun a77 hf78 => ?_
    refine listOf hf78 rfl (by kernel_rfl) (aNew (cs := [.slice none 0 0, .slice none 0 0]) (T := 42) (d := 6) hf78 (by kernel_rfl) (by kernel_rfl) ?_)
    intro b79 w80 a81 hbb79 hx83 hg84 hf82
    have hm85 := hm76.box hbb79 hx83 hg84
    refine listOf hf82 rfl (by kernel_rfl) (aStoreB (b := b79) (j := 0) (T := 42) (cs := [.slice none 0 0, .slice none 0 0]) (us := [.slice A68 r57.1.Shape.length c69, .slice A70 r57.1.Data.length c71]) (cs' := [.slice A68 r57.1.Shape.length c69, .slice A70 r57.1.Data.length c71]) hf82 (by kernel_rfl) (hm85.bxAt 0 rfl) (by kernel_rfl) (by kernel_rfl) (by kernel_rfl) ?_)
    intro w86 hx87 hg88
    have hm89 := hm85.setBox 0 _ rfl rfl hx87 hg88
    refine go 1 [] [1, 2, 4, 5, 6] [(1, .pointer (some ⟨b21, 0, none⟩)), (2, .pointer (some ⟨b28, 0, none⟩)), (4, .int .i64 (rd x0.Shape 0)), (5, .int .i64 (rd x0.Shape 1)), (6, .pointer (some ⟨b79, 0, none⟩))] [] hf82 (by kernel_rfl) trivial fun a90 hf91 => ?_
    refine endL rfl ?_
    have hm92 := hm89.sel [0, 1, 2, 4, 5, 6, 7] _ rfl (by kernel_rfl)
    refine thenN ?_
    refine wp_seq ?_
    refine wp_seq ?_
    refine reg [] [1, 2, 4, 5, 6, 29, 30] [(1, .pointer (some ⟨b21, 0, none⟩)), (2, .pointer (some ⟨b28, 0, none⟩)), (4, .int .i64 (rd x0.Shape 0)), (5, .int .i64 (rd x0.Shape 1)), (6, .pointer (some ⟨b79, 0, none⟩)), (29, .int .i64 (rd x0.Shape 0)), (30, .int .i64 0)] [] hf91 (by kernel_rfl) trivial fun a93 hf94 => ?_
    refine thenN ?_
    obtain ⟨r96, hr96, H0⟩ := ob_split H0
    refine wpBlock (Mid := fun (a : Act) (w : World) => Fr 57 a [(1, .pointer (some ⟨b21, 0, none⟩)), (2, .pointer (some ⟨b28, 0, none⟩)), (4, .int .i64 (rd x0.Shape 0)), (5, .int .i64 (rd x0.Shape 1)), (6, .pointer (some ⟨b79, 0, none⟩)), (29, .int .i64 (rd x0.Shape 0)), (30, .int .i64 r96.1)] ∧ Mem [] M w0 [.bx b79 [.slice A68 r57.1.Shape.length c69, .slice A70 r96.2.length c71] 42, .ow (Kd.int .i64) 3 A68 c69 r57.1.Shape, .ow Kd.float 47 A70 c71 r96.2, .bx b28 [.slice none 0 0, .slice none 0 0] 42, .bx b21 [.slice A0_0 x0.Shape.length c0_0, .slice A0_1 x0.Data.length c0_1] 42, .sl (Kd.int .i64) A0_0 c0_0 x0.Shape, .sl Kd.float A0_1 c0_1 x0.Data] w) ?_ ?_
    · refine wpLoop (matrix_Turn.l0 x0) r96 (fun (s95 : (Int × (List Nat))) (a : Act) (w : World) => Fr 57 a [(1, .pointer (some ⟨b21, 0, none⟩)), (2, .pointer (some ⟨b28, 0, none⟩)), (4, .int .i64 (rd x0.Shape 0)), (5, .int .i64 (rd x0.Shape 1)), (6, .pointer (some ⟨b79, 0, none⟩)), (29, .int .i64 (rd x0.Shape 0)), (30, .int .i64 s95.1)] ∧ Mem [] M w0 [.bx b79 [.slice A68 r57.1.Shape.length c69, .slice A70 s95.2.length c71] 42, .ow (Kd.int .i64) 3 A68 c69 r57.1.Shape, .ow Kd.float 47 A70 c71 s95.2, .bx b28 [.slice none 0 0, .slice none 0 0] 42, .bx b21 [.slice A0_0 x0.Shape.length c0_0, .slice A0_1 x0.Data.length c0_1] 42, .sl (Kd.int .i64) A0_0 c0_0 x0.Shape, .sl Kd.float A0_1 c0_1 x0.Data] w) (0, r57.1.Data) hr96 ⟨hf94.sel (l := [1, 2, 4, 5, 6, 29, 30]) (by kernel_rfl), hm92.sel [0, 1, 2, 3, 4, 5, 6] _ rfl (by kernel_rfl)⟩ ?_
      rintro g97 s95 a98 w99 H1 ⟨hf100, hm101⟩
      unfold matrix_Turn.l0 at H1
      refine wp_seq ?_
      rcases ifS_split H1 with ⟨c102, H1⟩ | ⟨c102, H1⟩
      · refine reg [.bool true] [1, 2, 4, 5, 6, 29, 30, 31] [(1, .pointer (some ⟨b21, 0, none⟩)), (2, .pointer (some ⟨b28, 0, none⟩)), (4, .int .i64 (rd x0.Shape 0)), (5, .int .i64 (rd x0.Shape 1)), (6, .pointer (some ⟨b79, 0, none⟩)), (29, .int .i64 (rd x0.Shape 0)), (30, .int .i64 s95.1), (31, .bool true)] [.is (decide (s95.1 < (rd x0.Shape 0)) = true)] hf100 (by kernel_rfl) ⟨(decide_eq_true c102), trivial⟩ fun a103 hf104 => ?_
        refine thenN ?_
        refine wp_seq ?_
        refine condT hf104 (by kernel_rfl) ?_
        refine wp_skip ?_
        refine thenN ?_
        refine wp_seq ?_
        refine wp_block ?_
        refine wp_seq ?_
        refine reg [] [1, 2, 4, 5, 6, 8, 29, 30] [(1, .pointer (some ⟨b21, 0, none⟩)), (2, .pointer (some ⟨b28, 0, none⟩)), (4, .int .i64 (rd x0.Shape 0)), (5, .int .i64 (rd x0.Shape 1)), (6, .pointer (some ⟨b79, 0, none⟩)), (8, .int .i64 s95.1), (29, .int .i64 (rd x0.Shape 0)), (30, .int .i64 s95.1)] [] hf104 (by kernel_rfl) trivial fun a105 hf106 => ?_
        refine thenN ?_
        refine wp_seq ?_
        refine reg [] [1, 2, 4, 5, 6, 8, 29, 30, 33, 34] [(1, .pointer (some ⟨b21, 0, none⟩)), (2, .pointer (some ⟨b28, 0, none⟩)), (4, .int .i64 (rd x0.Shape 0)), (5, .int .i64 (rd x0.Shape 1)), (6, .pointer (some ⟨b79, 0, none⟩)), (8, .int .i64 s95.1), (29, .int .i64 (rd x0.Shape 0)), (30, .int .i64 s95.1), (33, .int .i64 (rd x0.Shape 1)), (34, .int .i64 0)] [] hf106 (by kernel_rfl) trivial fun a107 hf108 => ?_
        refine thenN ?_
        obtain ⟨r110, hr110, H1⟩ := obS_split H1
        refine wpBlock (Mid := fun (a : Act) (w : World) => Fr 57 a [(1, .pointer (some ⟨b21, 0, none⟩)), (2, .pointer (some ⟨b28, 0, none⟩)), (4, .int .i64 (rd x0.Shape 0)), (5, .int .i64 (rd x0.Shape 1)), (6, .pointer (some ⟨b79, 0, none⟩)), (8, .int .i64 s95.1), (29, .int .i64 (rd x0.Shape 0)), (30, .int .i64 s95.1), (33, .int .i64 (rd x0.Shape 1)), (34, .int .i64 r110.1)] ∧ Mem [] M w0 [.bx b79 [.slice A68 r57.1.Shape.length c69, .slice A70 r110.2.length c71] 42, .ow (Kd.int .i64) 3 A68 c69 r57.1.Shape, .ow Kd.float 47 A70 c71 r110.2, .bx b28 [.slice none 0 0, .slice none 0 0] 42, .bx b21 [.slice A0_0 x0.Shape.length c0_0, .slice A0_1 x0.Data.length c0_1] 42, .sl (Kd.int .i64) A0_0 c0_0 x0.Shape, .sl Kd.float A0_1 c0_1 x0.Data] w) ?_ ?_
        · refine wpLoop (matrix_Turn.l1 x0 s95) r110 (fun (s109 : (Int × (List Nat))) (a : Act) (w : World) => Fr 57 a [(1, .pointer (some ⟨b21, 0, none⟩)), (2, .pointer (some ⟨b28, 0, none⟩)), (4, .int .i64 (rd x0.Shape 0)), (5, .int .i64 (rd x0.Shape 1)), (6, .pointer (some ⟨b79, 0, none⟩)), (8, .int .i64 s95.1), (29, .int .i64 (rd x0.Shape 0)), (30, .int .i64 s95.1), (33, .int .i64 (rd x0.Shape 1)), (34, .int .i64 s109.1)] ∧ Mem [] M w0 [.bx b79 [.slice A68 r57.1.Shape.length c69, .slice A70 s109.2.length c71] 42, .ow (Kd.int .i64) 3 A68 c69 r57.1.Shape, .ow Kd.float 47 A70 c71 s109.2, .bx b28 [.slice none 0 0, .slice none 0 0] 42, .bx b21 [.slice A0_0 x0.Shape.length c0_0, .slice A0_1 x0.Data.length c0_1] 42, .sl (Kd.int .i64) A0_0 c0_0 x0.Shape, .sl Kd.float A0_1 c0_1 x0.Data] w) (0, s95.2) hr110 ⟨hf108.sel (l := [1, 2, 4, 5, 6, 8, 29, 30, 33, 34]) (by kernel_rfl), hm101.sel [0, 1, 2, 3, 4, 5, 6] _ rfl (by kernel_rfl)⟩ ?_
          rintro g111 s109 a112 w113 H2 ⟨hf114, hm115⟩
          unfold matrix_Turn.l1 at H2
          refine wp_seq ?_
          rcases ifS_split H2 with ⟨c116, H2⟩ | ⟨c116, H2⟩
          · refine reg [.bool true] [1, 2, 4, 5, 6, 8, 29, 30, 33, 34, 35] [(1, .pointer (some ⟨b21, 0, none⟩)), (2, .pointer (some ⟨b28, 0, none⟩)), (4, .int .i64 (rd x0.Shape 0)), (5, .int .i64 (rd x0.Shape 1)), (6, .pointer (some ⟨b79, 0, none⟩)), (8, .int .i64 s95.1), (29, .int .i64 (rd x0.Shape 0)), (30, .int .i64 s95.1), (33, .int .i64 (rd x0.Shape 1)), (34, .int .i64 s109.1), (35, .bool true)] [.is (decide (s109.1 < (rd x0.Shape 1)) = true)] hf114 (by kernel_rfl) ⟨(decide_eq_true c116), trivial⟩ fun a117 hf118 => ?_
            refine thenN ?_
            refine wp_seq ?_
            refine condT hf118 (by kernel_rfl) ?_
            refine wp_skip ?_
            refine thenN ?_
            refine wp_seq ?_
            refine wp_block ?_
            refine wp_seq ?_
            refine reg [] [1, 2, 4, 5, 6, 8, 9, 29, 30, 33, 34] [(1, .pointer (some ⟨b21, 0, none⟩)), (2, .pointer (some ⟨b28, 0, none⟩)), (4, .int .i64 (rd x0.Shape 0)), (5, .int .i64 (rd x0.Shape 1)), (6, .pointer (some ⟨b79, 0, none⟩)), (8, .int .i64 s95.1), (9, .int .i64 s109.1), (29, .int .i64 (rd x0.Shape 0)), (30, .int .i64 s95.1), (33, .int .i64 (rd x0.Shape 1)), (34, .int .i64 s109.1)] [] hf118 (by kernel_rfl) trivial fun a119 hf120 => ?_
            refine thenN ?_
            obtain ⟨g121, H2⟩ := ifS_guard H2
            obtain ⟨g122, H2⟩ := ifS_guard H2
            refine midReg (fun (a : Act) (w : World) => Fr 57 a [(1, .pointer (some ⟨b21, 0, none⟩)), (2, .pointer (some ⟨b28, 0, none⟩)), (4, .int .i64 (rd x0.Shape 0)), (5, .int .i64 (rd x0.Shape 1)), (6, .pointer (some ⟨b79, 0, none⟩)), (8, .int .i64 s95.1), (29, .int .i64 (rd x0.Shape 0)), (30, .int .i64 s95.1), (33, .int .i64 (rd x0.Shape 1)), (34, .int .i64 s109.1)] ∧ Mem [] M w0 [.bx b79 [.slice A68 r57.1.Shape.length c69, .slice A70 s109.2.length c71] 42, .ow (Kd.int .i64) 3 A68 c69 r57.1.Shape, .ow Kd.float 47 A70 c71 (put s109.2 (w64 ((w64 (s109.1 * (rd x0.Shape 0))) + s95.1)) (rd x0.Data (w64 ((w64 (s95.1 * (rd x0.Shape 1))) + s109.1)))), .bx b28 [.slice none 0 0, .slice none 0 0] 42, .bx b21 [.slice A0_0 x0.Shape.length c0_0, .slice A0_1 x0.Data.length c0_1] 42, .sl (Kd.int .i64) A0_0 c0_0 x0.Shape, .sl Kd.float A0_1 c0_1 x0.Data] w) ?_ ?_
            · refine anyG [17] (by kernel_rfl) fun w131 hg132 => ?_
              have hm133 := hm115.still hg132
              have q144 := (hm133.slAt 6 rfl).float (w64 ((w64 (s95.1 * (rd x0.Shape 1))) + s109.1)) g121.1 g121.2
              obtain ⟨b145, hb145, kb145⟩ := q144.2
              have q146 := (hm133.owAt 2 rfl).float (w64 ((w64 (s109.1 * (rd x0.Shape 0))) + s95.1)) g122.1 g122.2
              obtain ⟨b147, hb147, kb147⟩ := q146.2
              refine quiet0 [0, 1, 2, 3, 4, 5, 6, 7, 8, 9, 10, 11, 12, 13, 14, 15, 16] [.slice A70 s109.2.length c71, .slice A0_1 x0.Data.length c0_1, .float .f64 b145] [1, 2, 4, 5, 6, 8, 29, 30, 33, 34, 52, 53] #[true, true, true, true, true, true, true, true, true, true, true, true, true, true, true, true, true, false] [(1, .pointer (some ⟨b21, 0, none⟩)), (2, .pointer (some ⟨b28, 0, none⟩)), (4, .int .i64 (rd x0.Shape 0)), (5, .int .i64 (rd x0.Shape 1)), (6, .pointer (some ⟨b79, 0, none⟩)), (8, .int .i64 s95.1), (29, .int .i64 (rd x0.Shape 0)), (30, .int .i64 s95.1), (33, .int .i64 (rd x0.Shape 1)), (34, .int .i64 s109.1), (52, .float .f64 b145), (53, .pointer (some ((ad A70).add (((w64 ((w64 (s109.1 * (rd x0.Shape 0))) + s95.1))).toNat * 1))))] [.cell ⟨b79, 1, none⟩ (.slice A70 s109.2.length c71), .cell ⟨b21, 1, none⟩ (.slice A0_1 x0.Data.length c0_1), .is (Option.isSome A0_1 = true), .is (0 ≤ (w64 ((w64 (s95.1 * (rd x0.Shape 1))) + s109.1)) ∧ (w64 ((w64 (s95.1 * (rd x0.Shape 1))) + s109.1)) < (x0.Data.length : Int)), .cell ((ad A0_1).add (((w64 ((w64 (s95.1 * (rd x0.Shape 1))) + s109.1))).toNat * 1)) (.float .f64 b145), .is (Option.isSome A70 = true), .is (0 ≤ (w64 ((w64 (s109.1 * (rd x0.Shape 0))) + s95.1)) ∧ (w64 ((w64 (s109.1 * (rd x0.Shape 0))) + s95.1)) < (s109.2.length : Int))] 1 rfl (by kernel_rfl) (fun _ _ _ _ _ h => nomatch h.1) hf120 (by kernel_rfl) ⟨(hm133.cell 0 rfl rfl), (hm133.cell 4 rfl rfl), q144.1, g121, kb145, q146.1, g122, trivial⟩ fun a148 hf149 => ?_
              refine all1 17 (by kernel_rfl) ?_
              refine opOf hf149 rfl (by kernel_rfl) (aStoreO (kd := Kd.float) (base := 0) (E := 47) (A := A70) (c := c71) (xs := s109.2) (i := (w64 ((w64 (s109.1 * (rd x0.Shape 0))) + s95.1))) (x := (rd x0.Data (w64 ((w64 (s95.1 * (rd x0.Shape 1))) + s109.1)))) (us := [.float .f64 b145]) (sz := 1) hf149 (by kernel_rfl) rfl (by kernel_rfl) (hm133.at 2 rfl) ⟨_, rfl, hb145⟩ g122.1 g122.2 ?_)
              intro w150 hx151 hg152
              refine ⟨.inl (by decide), ?_⟩
              have hm153 : Mem [] M w0 [.bx b79 [.slice A68 r57.1.Shape.length c69, .slice A70 s109.2.length c71] 42, .ow (Kd.int .i64) 3 A68 c69 r57.1.Shape, .ow Kd.float 47 A70 c71 (put s109.2 (w64 ((w64 (s109.1 * (rd x0.Shape 0))) + s95.1)) (rd x0.Data (w64 ((w64 (s95.1 * (rd x0.Shape 1))) + s109.1)))), .bx b28 [.slice none 0 0, .slice none 0 0] 42, .bx b21 [.slice A0_0 x0.Shape.length c0_0, .slice A0_1 x0.Data.length c0_1] 42, .sl (Kd.int .i64) A0_0 c0_0 x0.Shape, .sl Kd.float A0_1 c0_1 x0.Data] w150 := hm133.setOwn 2 _ rfl rfl hx151 hg152 (.inl rfl)
              refine allDone (by kernel_rfl) ⟨rfl, hf149.sel (l := [1, 2, 4, 5, 6, 8, 29, 30, 33, 34]) (by kernel_rfl), hm153.sel [0, 1, 2, 3, 4, 5, 6] _ rfl (by kernel_rfl)⟩
            rintro a154 w155 ⟨hf156, hm157⟩
            refine blkN ?_
            refine thenN ?_
            refine reg [] [1, 2, 4, 5, 6, 8, 29, 30, 33, 34] [(1, .pointer (some ⟨b21, 0, none⟩)), (2, .pointer (some ⟨b28, 0, none⟩)), (4, .int .i64 (rd x0.Shape 0)), (5, .int .i64 (rd x0.Shape 1)), (6, .pointer (some ⟨b79, 0, none⟩)), (8, .int .i64 s95.1), (29, .int .i64 (rd x0.Shape 0)), (30, .int .i64 s95.1), (33, .int .i64 (rd x0.Shape 1)), (34, .int .i64 (w64 (s109.1 + 1)))] [] hf156 (by kernel_rfl) trivial fun a158 hf159 => ?_
            have hf160 : Fr 57 a158 [(1, .pointer (some ⟨b21, 0, none⟩)), (2, .pointer (some ⟨b28, 0, none⟩)), (4, .int .i64 (rd x0.Shape 0)), (5, .int .i64 (rd x0.Shape 1)), (6, .pointer (some ⟨b79, 0, none⟩)), (8, .int .i64 s95.1), (29, .int .i64 (rd x0.Shape 0)), (30, .int .i64 s95.1), (33, .int .i64 (rd x0.Shape 1)), (34, .int .i64 (w64 (s109.1 + 1)))] := hf159.sel (l := [1, 2, 4, 5, 6, 8, 29, 30, 33, 34]) (by kernel_rfl)
            have hm161 : Mem [] M w0 [.bx b79 [.slice A68 r57.1.Shape.length c69, .slice A70 s109.2.length c71] 42, .ow (Kd.int .i64) 3 A68 c69 r57.1.Shape, .ow Kd.float 47 A70 c71 (put s109.2 (w64 ((w64 (s109.1 * (rd x0.Shape 0))) + s95.1)) (rd x0.Data (w64 ((w64 (s95.1 * (rd x0.Shape 1))) + s109.1)))), .bx b28 [.slice none 0 0, .slice none 0 0] 42, .bx b21 [.slice A0_0 x0.Shape.length c0_0, .slice A0_1 x0.Data.length c0_1] 42, .sl (Kd.int .i64) A0_0 c0_0 x0.Shape, .sl Kd.float A0_1 c0_1 x0.Data] w155 := hm157.sel [0, 1, 2, 3, 4, 5, 6] _ rfl (by kernel_rfl)
            exact ⟨((w64 (s109.1 + 1)), (put s109.2 (w64 ((w64 (s109.1 * (rd x0.Shape 0))) + s95.1)) (rd x0.Data (w64 ((w64 (s95.1 * (rd x0.Shape 1))) + s109.1))))), H2, (by simpa only [put_length, List.length_nil] using hf160), (by simpa only [put_length, List.length_nil] using hm161)⟩
          · refine reg [.bool false] [1, 2, 4, 5, 6, 8, 29, 30, 33, 34, 35] [(1, .pointer (some ⟨b21, 0, none⟩)), (2, .pointer (some ⟨b28, 0, none⟩)), (4, .int .i64 (rd x0.Shape 0)), (5, .int .i64 (rd x0.Shape 1)), (6, .pointer (some ⟨b79, 0, none⟩)), (8, .int .i64 s95.1), (29, .int .i64 (rd x0.Shape 0)), (30, .int .i64 s95.1), (33, .int .i64 (rd x0.Shape 1)), (34, .int .i64 s109.1), (35, .bool false)] [.is (decide (s109.1 < (rd x0.Shape 1)) = false)] hf114 (by kernel_rfl) ⟨(decide_eq_false c116), trivial⟩ fun a162 hf163 => ?_
            refine thenN ?_
            refine wp_seq ?_
            refine condF hf163 (by kernel_rfl) ?_
            refine wp_exit ?_
            refine thenE ?_
            refine thenE ?_
            obtain rfl := Option.some.inj H2
            exact .inl ⟨rfl, hf163.sel (l := [1, 2, 4, 5, 6, 8, 29, 30, 33, 34]) (by kernel_rfl), hm115.sel [0, 1, 2, 3, 4, 5, 6] _ rfl (by kernel_rfl)⟩
        rintro a164 w165 ⟨hf166, hm167⟩
        refine blkN ?_
        refine thenN ?_
        refine reg [] [1, 2, 4, 5, 6, 29, 30] [(1, .pointer (some ⟨b21, 0, none⟩)), (2, .pointer (some ⟨b28, 0, none⟩)), (4, .int .i64 (rd x0.Shape 0)), (5, .int .i64 (rd x0.Shape 1)), (6, .pointer (some ⟨b79, 0, none⟩)), (29, .int .i64 (rd x0.Shape 0)), (30, .int .i64 (w64 (s95.1 + 1)))] [] hf166 (by kernel_rfl) trivial fun a168 hf169 => ?_
        exact ⟨((w64 (s95.1 + 1)), r110.2), H1, hf169.sel (l := [1, 2, 4, 5, 6, 29, 30]) (by kernel_rfl), hm167.sel [0, 1, 2, 3, 4, 5, 6] _ rfl (by kernel_rfl)⟩
      · refine reg [.bool false] [1, 2, 4, 5, 6, 29, 30, 31] [(1, .pointer (some ⟨b21, 0, none⟩)), (2, .pointer (some ⟨b28, 0, none⟩)), (4, .int .i64 (rd x0.Shape 0)), (5, .int .i64 (rd x0.Shape 1)), (6, .pointer (some ⟨b79, 0, none⟩)), (29, .int .i64 (rd x0.Shape 0)), (30, .int .i64 s95.1), (31, .bool false)] [.is (decide (s95.1 < (rd x0.Shape 0)) = false)] hf100 (by kernel_rfl) ⟨(decide_eq_false c102), trivial⟩ fun a170 hf171 => ?_
        refine thenN ?_
        refine wp_seq ?_
        refine condF hf171 (by kernel_rfl) ?_
        refine wp_exit ?_
        refine thenE ?_
        refine thenE ?_
        obtain rfl := Option.some.inj H1
        exact .inl ⟨rfl, hf171.sel (l := [1, 2, 4, 5, 6, 29, 30]) (by kernel_rfl), hm101.sel [0, 1, 2, 3, 4, 5, 6] _ rfl (by kernel_rfl)⟩
    rintro a172 w173 ⟨hf174, hm175⟩
    refine thenN ?_
    refine wp_seq ?_
    refine inReg ?_
    refine go 1 [.agg #[.slice A68 r57.1.Shape.length c69, .slice A70 r96.2.length c71]] [2, 56] [(2, .pointer (some ⟨b28, 0, none⟩)), (56, .agg #[.slice A68 r57.1.Shape.length c69, .slice A70 r96.2.length c71])] [.cell ⟨b79, 0, none⟩ (.slice A68 r57.1.Shape.length c69), .cell ⟨b79, 1, none⟩ (.slice A70 r96.2.length c71)] hf174 (by kernel_rfl) ⟨(hm175.cell 0 rfl rfl), (hm175.cell 0 rfl rfl), trivial⟩ fun a176 hf177 => ?_
    refine listOf hf177 rfl (by kernel_rfl) (aStoreB (b := b28) (j := 0) (T := 42) (cs := [.slice none 0 0, .slice none 0 0]) (us := [.slice A68 r57.1.Shape.length c69, .slice A70 r96.2.length c71]) (cs' := [.slice A68 r57.1.Shape.length c69, .slice A70 r96.2.length c71]) hf177 (by kernel_rfl) (hm175.bxAt 3 rfl) (by kernel_rfl) (by kernel_rfl) (by kernel_rfl) ?_)
    intro w178 hx179 hg180
    have hm181 := hm175.setBox 3 _ rfl rfl hx179 hg180
    refine go 1 [] [2, 3] [(2, .pointer (some ⟨b28, 0, none⟩)), (3, .int .i64 0)] [] hf177 (by kernel_rfl) trivial fun a182 hf183 => ?_
    refine endL rfl ?_
    have hm184 := hm181.sel [1, 2, 3] _ rfl (by kernel_rfl)
    refine thenN ?_
    refine wp_ret ?_
    have hm185 : Mem [] M w0 [.ow (Kd.int .i64) 3 A68 c69 r57.1.Shape, .ow Kd.float 47 A70 c71 r96.2] w178 := hm184.sel [0, 1] _ rfl (by kernel_rfl)
    obtain rfl := Option.some.inj H0
    refine ret [.agg #[.slice A68 r57.1.Shape.length c69, .slice A70 r96.2.length c71]] [.agg #[.slice A68 r57.1.Shape.length c69, .slice A70 r96.2.length c71], .int .i64 0] [.cell ⟨b28, 0, none⟩ (.slice A68 r57.1.Shape.length c69), .cell ⟨b28, 1, none⟩ (.slice A70 r96.2.length c71)] hf183 (by kernel_rfl) ⟨(hm184.cell 2 rfl rfl), (hm184.cell 2 rfl rfl), trivial⟩ ?_
    exact ⟨_, rfl, A68, c69, A70, c71, rfl, hm185⟩
  · refine inReg ?_
    refine go 1 [.agg #[.slice A0_0 x0.Shape.length c0_0, .slice A0_1 x0.Data.length c0_1]] [1, 2, 10] [(1, .pointer (some ⟨b21, 0, none⟩)), (2, .pointer (some ⟨b28, 0, none⟩)), (10, .agg #[.slice A0_0 x0.Shape.length c0_0, .slice A0_1 x0.Data.length c0_1])] [.cell ⟨b21, 0, none⟩ (.slice A0_0 x0.Shape.length c0_0), .cell ⟨b21, 1, none⟩ (.slice A0_1 x0.Data.length c0_1)] hf36 (by kernel_rfl) ⟨(hm34.cell 1 rfl rfl), (hm34.cell 1 rfl rfl), trivial⟩ fun a187 hf188 => ?_
    refine listOf hf188 rfl (by kernel_rfl) (aCall (fid := 53) (args := [.agg #[.slice A0_0 x0.Shape.length c0_0, .slice A0_1 x0.Data.length c0_1]]) (d := 11) hf188 (by kernel_rfl) (by kernel_rfl) callable53 (matrix_flat.calls _ _ x0 A0_0 x0.Shape.length c0_0 rfl A0_1 x0.Data.length c0_1 rfl (hm34.give [2, 3] [.sl (Kd.int .i64) A0_0 c0_0 x0.Shape, .sl Kd.float A0_1 c0_1 x0.Data] rfl rfl) r37 hr37) ?_)
    rintro _ w189 a190 ⟨rfl, hk192⟩ hf191
    have hm193 := hm34.still hk192.cum.none
    rw [c38] at hf191
    refine go 1 [] [1, 2, 12] [(1, .pointer (some ⟨b21, 0, none⟩)), (2, .pointer (some ⟨b28, 0, none⟩)), (12, .bool true)] [] hf191 (by kernel_rfl) trivial fun a194 hf195 => ?_
    refine endL rfl ?_
    refine thenN ?_
    refine condT hf195 (by kernel_rfl) ?_
    refine wp_seq ?_
    refine inReg ?_
    refine go 1 [] [2, 13] [(2, .pointer (some ⟨b28, 0, none⟩)), (13, .agg #[.slice none 0 0, .slice none 0 0])] [] hf195 (by kernel_rfl) trivial fun a196 hf197 => ?_
    refine listOf hf197 rfl (by kernel_rfl) (aStoreB (b := b28) (j := 0) (T := 42) (cs := [.slice none 0 0, .slice none 0 0]) (us := [.slice none 0 0, .slice none 0 0]) (cs' := [.slice none 0 0, .slice none 0 0]) hf197 (by kernel_rfl) (hm193.bxAt 0 rfl) (by kernel_rfl) (by kernel_rfl) (by kernel_rfl) ?_)
    intro w198 hx199 hg200
    have hm201 := hm193.setBox 0 _ rfl rfl hx199 hg200
    refine go 1 [] [2, 3] [(2, .pointer (some ⟨b28, 0, none⟩)), (3, .int .i64 2)] [] hf197 (by kernel_rfl) trivial fun a202 hf203 => ?_
    refine endL rfl ?_
    have hm204 := hm201.sel [0] _ rfl (by kernel_rfl)
    refine thenN ?_
    refine wp_ret ?_
    refine thenR ?_
    have hm205 : Mem [] M w0 [.ow (Kd.int .i64) 3 none 0 ([] : (List Int)), .bx b28 [.slice none 0 0, .slice none 0 0] 42] w198 := hm204.nilOw (Kd.int .i64) 3
    have hm206 : Mem [] M w0 [.ow Kd.float 47 none 0 ([] : (List Nat)), .ow (Kd.int .i64) 3 none 0 ([] : (List Int)), .bx b28 [.slice none 0 0, .slice none 0 0] 42] w198 := hm205.nilOw Kd.float 47
    have hm207 : Mem [] M w0 [.ow (Kd.int .i64) 3 none 0 ([] : (List Int)), .ow Kd.float 47 none 0 ([] : (List Nat))] w198 := hm206.sel [1, 0] _ rfl (by kernel_rfl)
    obtain rfl := Option.some.inj H0
    refine ret [.agg #[.slice none 0 0, .slice none 0 0]] [.agg #[.slice none 0 0, .slice none 0 0], .int .i64 2] [.cell ⟨b28, 0, none⟩ (.slice none 0 0), .cell ⟨b28, 1, none⟩ (.slice none 0 0)] hf203 (by kernel_rfl) ⟨(hm204.cell 0 rfl rfl), (hm204.cell 0 rfl rfl), trivial⟩ ?_
    exact ⟨_, rfl, none, 0, none, 0, rfl, hm207⟩
end Go.Proofs.Ytkcgiolledmbnaa
