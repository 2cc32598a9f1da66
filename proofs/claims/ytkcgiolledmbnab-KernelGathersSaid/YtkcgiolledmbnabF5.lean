/- Printed by gen.py. -/
import Derived.Test.YtkcgiolledmbnabF4
namespace Go.Proofs.Ytkcgiolledmbnab
open Go Go.RowKit
set_option linter.unusedSimpArgs false
set_option linter.unusedVariables false
set_option linter.unnecessarySimpa false
/-! ### backstitch/backstitchlaw4.awake -/
noncomputable def law4_awake.f  : Option Bool :=
  (kernel_Two.f 4 (⟨([2] : List Int), ([4607182418800017408, 4611686018427387904] : List Nat)⟩ : Tensor) (⟨([1] : List Int), ([4613937818241073152] : List Nat)⟩ : Tensor)).bind fun r23 =>
  if r23.2 = 0 then (if (r23.1.Data.length : Int) = 2 then (if (0 : Int) ≤ 0 ∧ 0 < (r23.1.Data.length : Int) then (if (feq (rd r23.1.Data 0) 4616189618054758400) = true then (if (0 : Int) ≤ 1 ∧ 1 < (r23.1.Data.length : Int) then (if (feq (rd r23.1.Data 1) 4617315517961601024) = true then (some true)
  else (some false))
  else none)
  else (some false))
  else none)
  else (some false))
  else (some false)
set_option maxRecDepth 100000 in
set_option maxHeartbeats 4000000 in
theorem law4_awake.calls (M : List (Option Nat)) (w0 : World)  (hm0 : Mem [] M w0 [] w0) (r : Bool) (H0 : law4_awake.f = some r) :
    Calls Try.prog 43 [].toArray w0 (fun x w' => ∃ v, x = .returned v ∧ v = .bool r ∧ Mem [] M w0 [] w') := by
  unfold law4_awake.f at H0
  refine enter (n := 35) Try.func43 rfl rfl (by kernel_rfl) fun a0 (hf0 : Fr 35 a0 []) => ?_
  refine wp_seq ?_
  refine reg [] [] [] [] hf0 (by kernel_rfl) trivial fun a21 hf22 => ?_
  refine thenN ?_
  refine wp_seq ?_
  obtain ⟨r23, hr23, H0⟩ := ob_split H0
  refine inReg ?_
  refine listOf hf22 rfl (by kernel_rfl) (aLit (cs := [.int .i64 2]) (E := 3) (len := 1) (d := 4) hf22 (by kernel_rfl) (by kernel_rfl) ?_)
  intro b24 w25 a26 hbb24 hx28 hg29 hf27
  have hm0s := hm0.still hg29
  have hm30 := Mem.lit (kd := (Kd.int .i64)) (xs := ([2] : List Int)) hm0 hbb24 hx28 hg29 (Els.one (kd := (Kd.int .i64)) (us := [.int .i64 2]) (x := 2) rfl)
  refine listOf hf27 rfl (by kernel_rfl) (aLit (cs := [.float .f64 4607182418800017408, .float .f64 4611686018427387904]) (E := 44) (len := 2) (d := 5) hf27 (by kernel_rfl) (by kernel_rfl) ?_)
  intro b31 w32 a33 hbb31 hx35 hg36 hf34
  have hm30s := hm30.still hg36
  have hm37 := Mem.lit (kd := Kd.float) (xs := ([4607182418800017408, 4611686018427387904] : List Nat)) hm30 hbb31 hx35 hg36 (Els.append (Els.one (kd := Kd.float) (us := [.float .f64 4607182418800017408]) (x := 4607182418800017408) ⟨_, rfl, (FR.lit (by kernel_rfl) (by kernel_rfl))⟩) (Els.one (kd := Kd.float) (us := [.float .f64 4611686018427387904]) (x := 4611686018427387904) ⟨_, rfl, (FR.lit (by kernel_rfl) (by kernel_rfl))⟩))
  refine go 1 [] [6] [(6, .agg #[.slice (some ⟨b24, 0, none⟩) 1 1, .slice (some ⟨b31, 0, none⟩) 2 2])] [] hf34 (by kernel_rfl) trivial fun a38 hf39 => ?_
  refine listOf hf39 rfl (by kernel_rfl) (aLit (cs := [.int .i64 1]) (E := 3) (len := 1) (d := 7) hf39 (by kernel_rfl) (by kernel_rfl) ?_)
  intro b40 w41 a42 hbb40 hx44 hg45 hf43
  have hm37s := hm37.still hg45
  have hm46 := Mem.lit (kd := (Kd.int .i64)) (xs := ([1] : List Int)) hm37 hbb40 hx44 hg45 (Els.one (kd := (Kd.int .i64)) (us := [.int .i64 1]) (x := 1) rfl)
  refine listOf hf43 rfl (by kernel_rfl) (aLit (cs := [.float .f64 4613937818241073152]) (E := 44) (len := 1) (d := 8) hf43 (by kernel_rfl) (by kernel_rfl) ?_)
  intro b47 w48 a49 hbb47 hx51 hg52 hf50
  have hm46s := hm46.still hg52
  have hm53 := Mem.lit (kd := Kd.float) (xs := ([4613937818241073152] : List Nat)) hm46 hbb47 hx51 hg52 (Els.one (kd := Kd.float) (us := [.float .f64 4613937818241073152]) (x := 4613937818241073152) ⟨_, rfl, (FR.lit (by kernel_rfl) (by kernel_rfl))⟩)
  refine go 1 [] [6, 9] [(6, .agg #[.slice (some ⟨b24, 0, none⟩) 1 1, .slice (some ⟨b31, 0, none⟩) 2 2]), (9, .agg #[.slice (some ⟨b40, 0, none⟩) 1 1, .slice (some ⟨b47, 0, none⟩) 1 1])] [] hf50 (by kernel_rfl) trivial fun a54 hf55 => ?_
  refine listOf hf55 rfl (by kernel_rfl) (aCall (fid := 45) (args := [.int .i64 4, .agg #[.slice (some ⟨b24, 0, none⟩) 1 1, .slice (some ⟨b31, 0, none⟩) 2 2], .agg #[.slice (some ⟨b40, 0, none⟩) 1 1, .slice (some ⟨b47, 0, none⟩) 1 1]]) (d := 10) hf55 (by kernel_rfl) (by kernel_rfl) callable45 (kernel_Two.calls _ _ 4 (⟨([2] : List Int), ([4607182418800017408, 4611686018427387904] : List Nat)⟩ : Tensor) (some ⟨b24, 0, none⟩) 1 1 rfl (some ⟨b31, 0, none⟩) 2 2 rfl (⟨([1] : List Int), ([4613937818241073152] : List Nat)⟩ : Tensor) (some ⟨b40, 0, none⟩) 1 1 rfl (some ⟨b47, 0, none⟩) 1 1 rfl (hm53.give [3, 2, 1, 0] [.sl (Kd.int .i64) (some ⟨b24, 0, none⟩) 1 ([2] : List Int), .sl Kd.float (some ⟨b31, 0, none⟩) 2 ([4607182418800017408, 4611686018427387904] : List Nat), .sl (Kd.int .i64) (some ⟨b40, 0, none⟩) 1 ([1] : List Int), .sl Kd.float (some ⟨b47, 0, none⟩) 1 ([4613937818241073152] : List Nat)] rfl rfl) r23 hr23) ?_)
  rintro _ w60 a61 ⟨A56, c57, A58, c59, rfl, hk63⟩ hf62
  have hm65 := hm53.back hk63
  have hm66 := hm65.seal 0 _ rfl rfl
  have hm67 := hm66.seal 1 _ rfl rfl
  refine go 3 [] [11, 12] [(11, .agg #[.slice A56 r23.1.Shape.length c57, .slice A58 r23.1.Data.length c59]), (12, .int .i64 r23.2)] [] hf62 (by kernel_rfl) trivial fun a68 hf69 => ?_
  refine listOf hf69 rfl (by kernel_rfl) (aNew (cs := [.slice none 0 0, .slice none 0 0]) (T := 28) (d := 1) hf69 (by kernel_rfl) (by kernel_rfl) ?_)
  intro b70 w71 a72 hbb70 hx74 hg75 hf73
  have hm76 := hm67.box hbb70 hx74 hg75
  refine listOf hf73 rfl (by kernel_rfl) (aStoreB (b := b70) (j := 0) (T := 28) (cs := [.slice none 0 0, .slice none 0 0]) (us := [.slice A56 r23.1.Shape.length c57, .slice A58 r23.1.Data.length c59]) (cs' := [.slice A56 r23.1.Shape.length c57, .slice A58 r23.1.Data.length c59]) hf73 (by kernel_rfl) (hm76.bxAt 0 rfl) (by kernel_rfl) (by kernel_rfl) (by kernel_rfl) ?_)
  intro w77 hx78 hg79
  have hm80 := hm76.setBox 0 _ rfl rfl hx78 hg79
  refine go 1 [] [1, 2] [(1, .pointer (some ⟨b70, 0, none⟩)), (2, .int .i64 r23.2)] [] hf73 (by kernel_rfl) trivial fun a81 hf82 => ?_
  refine endL rfl ?_
  have hm83 := hm80.sel [0, 1, 2] _ rfl (by kernel_rfl)
  refine thenN ?_
  refine wp_seq ?_
  rcases if_split H0 with ⟨c84, H0⟩ | ⟨c84, H0⟩
  rotate_left
  · refine reg [.bool false] [0] [(0, .bool false)] [.is (((r23.2 : Int) == 0) = false)] hf82 (by kernel_rfl) ⟨(eqF c84), trivial⟩ fun a120 hf121 => ?_
    have hm122 := hm83.sel [] _ rfl (by kernel_rfl)
    refine thenN ?_
    refine wp_ret ?_
    have hm123 : Mem [] M w0 [] w77 := hm122.sel [] _ rfl (by kernel_rfl)
    obtain rfl := Option.some.inj H0
    refine ret [] [.bool false] [] hf121 (by kernel_rfl) trivial ?_
    exact ⟨_, rfl, rfl, hm123⟩
  rcases if_split H0 with ⟨c85, H0⟩ | ⟨c85, H0⟩
  rotate_left
  · refine reg [.bool true, .slice A58 r23.1.Data.length c59, .bool false] [0] [(0, .bool false)] [.is (((r23.2 : Int) == 0) = true), .cell ⟨b70, 1, none⟩ (.slice A58 r23.1.Data.length c59), .is ((((r23.1.Data.length : Int) : Int) == 2) = false)] hf82 (by kernel_rfl) ⟨(eqT c84), (hm83.cell 0 rfl rfl), (eqF c85), trivial⟩ fun a115 hf116 => ?_
    have hm117 := hm83.sel [] _ rfl (by kernel_rfl)
    refine thenN ?_
    refine wp_ret ?_
    have hm118 : Mem [] M w0 [] w77 := hm117.sel [] _ rfl (by kernel_rfl)
    obtain rfl := Option.some.inj H0
    refine ret [] [.bool false] [] hf116 (by kernel_rfl) trivial ?_
    exact ⟨_, rfl, rfl, hm118⟩
  obtain ⟨g86, H0⟩ := if_guard H0
  rcases ifb_split H0 with ⟨c87, H0⟩ | ⟨c87, H0⟩
  rotate_left
  · have q108 := (hm83.slAt 2 rfl).float 0 g86.1 g86.2
    obtain ⟨b109, hb109, kb109⟩ := q108.2
    refine reg [.bool true, .slice A58 r23.1.Data.length c59, .bool true, .slice A58 r23.1.Data.length c59, .float .f64 b109, .bool false] [0] [(0, .bool false)] [.is (((r23.2 : Int) == 0) = true), .cell ⟨b70, 1, none⟩ (.slice A58 r23.1.Data.length c59), .is ((((r23.1.Data.length : Int) : Int) == 2) = true), .cell ⟨b70, 1, none⟩ (.slice A58 r23.1.Data.length c59), .is (Option.isSome A58 = true), .is ((0 : Int) ≤ 0 ∧ 0 < (r23.1.Data.length : Int)), .cell ((ad A58).add ((0 : Int).toNat * 1)) (.float .f64 b109), .is ((FloatKind.f64.format.order b109 4616189618054758400 == some .eq) = false)] hf82 (by kernel_rfl) ⟨(eqT c84), (hm83.cell 0 rfl rfl), (eqT c85), (hm83.cell 0 rfl rfl), q108.1, g86, kb109, (ftEq hb109 (FR.lit (by kernel_rfl) (by kernel_rfl)) c87), trivial⟩ fun a110 hf111 => ?_
    have hm112 := hm83.sel [] _ rfl (by kernel_rfl)
    refine thenN ?_
    refine wp_ret ?_
    have hm113 : Mem [] M w0 [] w77 := hm112.sel [] _ rfl (by kernel_rfl)
    obtain rfl := Option.some.inj H0
    refine ret [] [.bool false] [] hf111 (by kernel_rfl) trivial ?_
    exact ⟨_, rfl, rfl, hm113⟩
  obtain ⟨g88, H0⟩ := if_guard H0
  rcases ifb_split H0 with ⟨c89, H0⟩ | ⟨c89, H0⟩
  · have q90 := (hm83.slAt 2 rfl).float 0 g86.1 g86.2
    obtain ⟨b91, hb91, kb91⟩ := q90.2
    have q92 := (hm83.slAt 2 rfl).float 1 g88.1 g88.2
    obtain ⟨b93, hb93, kb93⟩ := q92.2
    refine reg [.bool true, .slice A58 r23.1.Data.length c59, .bool true, .slice A58 r23.1.Data.length c59, .float .f64 b91, .bool true, .slice A58 r23.1.Data.length c59, .float .f64 b93, .bool true] [0] [(0, .bool true)] [.is (((r23.2 : Int) == 0) = true), .cell ⟨b70, 1, none⟩ (.slice A58 r23.1.Data.length c59), .is ((((r23.1.Data.length : Int) : Int) == 2) = true), .cell ⟨b70, 1, none⟩ (.slice A58 r23.1.Data.length c59), .is (Option.isSome A58 = true), .is ((0 : Int) ≤ 0 ∧ 0 < (r23.1.Data.length : Int)), .cell ((ad A58).add ((0 : Int).toNat * 1)) (.float .f64 b91), .is ((FloatKind.f64.format.order b91 4616189618054758400 == some .eq) = true), .cell ⟨b70, 1, none⟩ (.slice A58 r23.1.Data.length c59), .is (Option.isSome A58 = true), .is ((0 : Int) ≤ 1 ∧ 1 < (r23.1.Data.length : Int)), .cell ((ad A58).add ((1 : Int).toNat * 1)) (.float .f64 b93), .is ((FloatKind.f64.format.order b93 4617315517961601024 == some .eq) = true)] hf82 (by kernel_rfl) ⟨(eqT c84), (hm83.cell 0 rfl rfl), (eqT c85), (hm83.cell 0 rfl rfl), q90.1, g86, kb91, (ftEq hb91 (FR.lit (by kernel_rfl) (by kernel_rfl)) c87), (hm83.cell 0 rfl rfl), q92.1, g88, kb93, (ftEq hb93 (FR.lit (by kernel_rfl) (by kernel_rfl)) c89), trivial⟩ fun a94 hf95 => ?_
    have hm96 := hm83.sel [] _ rfl (by kernel_rfl)
    refine thenN ?_
    refine wp_ret ?_
    have hm97 : Mem [] M w0 [] w77 := hm96.sel [] _ rfl (by kernel_rfl)
    obtain rfl := Option.some.inj H0
    refine ret [] [.bool true] [] hf95 (by kernel_rfl) trivial ?_
    exact ⟨_, rfl, rfl, hm97⟩
  have q99 := (hm83.slAt 2 rfl).float 0 g86.1 g86.2
  obtain ⟨b100, hb100, kb100⟩ := q99.2
  have q101 := (hm83.slAt 2 rfl).float 1 g88.1 g88.2
  obtain ⟨b102, hb102, kb102⟩ := q101.2
  refine reg [.bool true, .slice A58 r23.1.Data.length c59, .bool true, .slice A58 r23.1.Data.length c59, .float .f64 b100, .bool true, .slice A58 r23.1.Data.length c59, .float .f64 b102, .bool false] [0] [(0, .bool false)] [.is (((r23.2 : Int) == 0) = true), .cell ⟨b70, 1, none⟩ (.slice A58 r23.1.Data.length c59), .is ((((r23.1.Data.length : Int) : Int) == 2) = true), .cell ⟨b70, 1, none⟩ (.slice A58 r23.1.Data.length c59), .is (Option.isSome A58 = true), .is ((0 : Int) ≤ 0 ∧ 0 < (r23.1.Data.length : Int)), .cell ((ad A58).add ((0 : Int).toNat * 1)) (.float .f64 b100), .is ((FloatKind.f64.format.order b100 4616189618054758400 == some .eq) = true), .cell ⟨b70, 1, none⟩ (.slice A58 r23.1.Data.length c59), .is (Option.isSome A58 = true), .is ((0 : Int) ≤ 1 ∧ 1 < (r23.1.Data.length : Int)), .cell ((ad A58).add ((1 : Int).toNat * 1)) (.float .f64 b102), .is ((FloatKind.f64.format.order b102 4617315517961601024 == some .eq) = false)] hf82 (by kernel_rfl) ⟨(eqT c84), (hm83.cell 0 rfl rfl), (eqT c85), (hm83.cell 0 rfl rfl), q99.1, g86, kb100, (ftEq hb100 (FR.lit (by kernel_rfl) (by kernel_rfl)) c87), (hm83.cell 0 rfl rfl), q101.1, g88, kb102, (ftEq hb102 (FR.lit (by kernel_rfl) (by kernel_rfl)) c89), trivial⟩ fun a103 hf104 => ?_
  have hm105 := hm83.sel [] _ rfl (by kernel_rfl)
  refine thenN ?_
  refine wp_ret ?_
  have hm106 : Mem [] M w0 [] w77 := hm105.sel [] _ rfl (by kernel_rfl)
  obtain rfl := Option.some.inj H0
  refine ret [] [.bool false] [] hf104 (by kernel_rfl) trivial ?_
  exact ⟨_, rfl, rfl, hm106⟩

/-! ### backstitch/backstitchlaw3.Small -/
noncomputable def law3_Small.f (x0 : Tensor) : Option Bool :=
  if (x0.Shape.length : Int) ≤ 40 then (if (x0.Data.length : Int) ≤ 8192 then (some true)
  else (some false))
  else (some false)
set_option maxRecDepth 100000 in
set_option maxHeartbeats 4000000 in
theorem law3_Small.calls (M : List (Option Nat)) (w0 : World) (x0 : Tensor) (A0_0 : Option Addr) (n0_0 c0_0 : Nat) (e0_0 : n0_0 = x0.Shape.length) (A0_1 : Option Addr) (n0_1 c0_1 : Nat) (e0_1 : n0_1 = x0.Data.length) (hm0 : Mem [] M w0 [.sl (Kd.int .i64) A0_0 c0_0 x0.Shape, .sl Kd.float A0_1 c0_1 x0.Data] w0) (r : Bool) (H0 : law3_Small.f x0 = some r) :
    Calls Try.prog 31 [.agg #[.slice A0_0 n0_0 c0_0, .slice A0_1 n0_1 c0_1]].toArray w0 (fun x w' => ∃ v, x = .returned v ∧ v = .bool r ∧ Mem [] M w0 [] w') := by
  subst e0_0
  subst e0_1
  unfold law3_Small.f at H0
  refine enter (n := 13) Try.func31 rfl rfl (by kernel_rfl) fun a0 (hf0 : Fr 13 a0 [(0, .agg #[.slice A0_0 x0.Shape.length c0_0, .slice A0_1 x0.Data.length c0_1])]) => ?_
  refine wp_seq ?_
  refine inReg ?_
  refine listOf hf0 rfl (by kernel_rfl) (aNew (cs := [.slice A0_0 x0.Shape.length c0_0, .slice A0_1 x0.Data.length c0_1]) (T := 28) (d := 1) hf0 (by kernel_rfl) (by kernel_rfl) ?_)
  intro b21 w22 a23 hbb21 hx25 hg26 hf24
  have hm27 := hm0.box hbb21 hx25 hg26
  refine go 1 [] [1] [(1, .pointer (some ⟨b21, 0, none⟩))] [] hf24 (by kernel_rfl) trivial fun a28 hf29 => ?_
  refine endL rfl ?_
  refine thenN ?_
  refine wp_seq ?_
  rcases if_split H0 with ⟨c30, H0⟩ | ⟨c30, H0⟩
  rotate_left
  · refine reg [.slice A0_0 x0.Shape.length c0_0, .bool false] [2] [(2, .bool false)] [.cell ⟨b21, 0, none⟩ (.slice A0_0 x0.Shape.length c0_0), .is (decide ((x0.Shape.length : Int) ≤ 40) = false)] hf29 (by kernel_rfl) ⟨(hm27.cell 0 rfl rfl), (decide_eq_false c30), trivial⟩ fun a42 hf43 => ?_
    have hm44 := hm27.sel [] _ rfl (by kernel_rfl)
    refine thenN ?_
    refine wp_ret ?_
    have hm45 : Mem [] M w0 [] w22 := hm44.sel [] _ rfl (by kernel_rfl)
    obtain rfl := Option.some.inj H0
    refine ret [] [.bool false] [] hf43 (by kernel_rfl) trivial ?_
    exact ⟨_, rfl, rfl, hm45⟩
  rcases if_split H0 with ⟨c31, H0⟩ | ⟨c31, H0⟩
  · refine reg [.slice A0_0 x0.Shape.length c0_0, .bool true, .slice A0_1 x0.Data.length c0_1, .bool true] [2] [(2, .bool true)] [.cell ⟨b21, 0, none⟩ (.slice A0_0 x0.Shape.length c0_0), .is (decide ((x0.Shape.length : Int) ≤ 40) = true), .cell ⟨b21, 1, none⟩ (.slice A0_1 x0.Data.length c0_1), .is (decide ((x0.Data.length : Int) ≤ 8192) = true)] hf29 (by kernel_rfl) ⟨(hm27.cell 0 rfl rfl), (decide_eq_true c30), (hm27.cell 0 rfl rfl), (decide_eq_true c31), trivial⟩ fun a32 hf33 => ?_
    have hm34 := hm27.sel [] _ rfl (by kernel_rfl)
    refine thenN ?_
    refine wp_ret ?_
    have hm35 : Mem [] M w0 [] w22 := hm34.sel [] _ rfl (by kernel_rfl)
    obtain rfl := Option.some.inj H0
    refine ret [] [.bool true] [] hf33 (by kernel_rfl) trivial ?_
    exact ⟨_, rfl, rfl, hm35⟩
  refine reg [.slice A0_0 x0.Shape.length c0_0, .bool true, .slice A0_1 x0.Data.length c0_1, .bool false] [2] [(2, .bool false)] [.cell ⟨b21, 0, none⟩ (.slice A0_0 x0.Shape.length c0_0), .is (decide ((x0.Shape.length : Int) ≤ 40) = true), .cell ⟨b21, 1, none⟩ (.slice A0_1 x0.Data.length c0_1), .is (decide ((x0.Data.length : Int) ≤ 8192) = false)] hf29 (by kernel_rfl) ⟨(hm27.cell 0 rfl rfl), (decide_eq_true c30), (hm27.cell 0 rfl rfl), (decide_eq_false c31), trivial⟩ fun a37 hf38 => ?_
  have hm39 := hm27.sel [] _ rfl (by kernel_rfl)
  refine thenN ?_
  refine wp_ret ?_
  have hm40 : Mem [] M w0 [] w22 := hm39.sel [] _ rfl (by kernel_rfl)
  obtain rfl := Option.some.inj H0
  refine ret [] [.bool false] [] hf38 (by kernel_rfl) trivial ?_
  exact ⟨_, rfl, rfl, hm40⟩

/-! ### backstitch/backstitchref1.Size -/
noncomputable def ref1_Size.l0 (x0 : (List Int)) (s35 : Int) : Step Int (Out2 Int (Int × Int)) :=
  if s35 < (x0.length : Int) then (if 0 ≤ s35 ∧ s35 < (x0.length : Int) then (if (rd x0 s35) < 1 then (.done (.ret (0, 2)))
  else (.next (w64 (s35 + 1))))
  else .bad)
  else (.done (.go s35))
noncomputable def ref1_Size.l1 (x0 : (List Int)) (s71 : (Int × Int)) : Step (Int × Int) (Out2 (Int × Int) (Int × Int)) :=
  if s71.2 < (x0.length : Int) then (if 0 ≤ s71.2 ∧ s71.2 < (x0.length : Int) then (if s71.1 ≠ 0 then (if (w64 (Int.tdiv 4096 s71.1)) < (rd x0 s71.2) then (.done (.ret (0, 3)))
  else (.next ((w64 (s71.1 * (rd x0 s71.2))), (w64 (s71.2 + 1)))))
  else .bad)
  else .bad)
  else (.done (.go (s71.1, s71.2)))
noncomputable def ref1_Size.f (x0 : (List Int)) : Option (Int × Int) :=
  if 4 < (x0.length : Int) then (some (0, 2))
  else ((loop (ref1_Size.l0 x0) 0).bind fun r36 =>
  r36.on (fun yr36 =>
  (loop (ref1_Size.l1 x0) (1, 0)).bind fun r72 =>
  r72.on (fun yr72 =>
  some (yr72.1, 0)) (fun y => some y)) (fun y => some y))
set_option maxRecDepth 100000 in
set_option maxHeartbeats 4000000 in
theorem ref1_Size.calls (M : List (Option Nat)) (w0 : World) (x0 : (List Int)) (A0 : Option Addr) (n0 c0 : Nat) (e0 : n0 = x0.length) (hm0 : Mem [] M w0 [.sl (Kd.int .i64) A0 c0 x0] w0) (r : (Int × Int)) (H0 : ref1_Size.f x0 = some r) :
    Calls Try.prog 30 [.slice A0 n0 c0].toArray w0 (fun x w' => ∃ v, x = .returned v ∧ v = .tuple #[.int .i64 r.1, .int .i64 r.2] ∧ Mem [] M w0 [] w') := by
  subst e0
  unfold ref1_Size.f at H0
  refine enter (n := 41) Try.func30 rfl rfl (by kernel_rfl) fun a0 (hf0 : Fr 41 a0 [(0, .slice A0 x0.length c0)]) => ?_
  refine wp_seq ?_
  refine reg [] [0] [(0, .slice A0 x0.length c0)] [] hf0 (by kernel_rfl) trivial fun a21 hf22 => ?_
  refine thenN ?_
  refine wp_seq ?_
  refine wp_seq ?_
  rcases if_split H0 with ⟨c23, H0⟩ | ⟨c23, H0⟩
  · refine reg [.bool true] [0, 9] [(0, .slice A0 x0.length c0), (9, .bool true)] [.is (decide (4 < (x0.length : Int)) = true)] hf22 (by kernel_rfl) ⟨(decide_eq_true c23), trivial⟩ fun a24 hf25 => ?_
    refine thenN ?_
    refine condT hf25 (by kernel_rfl) ?_
    refine wp_seq ?_
    refine reg [] [2, 3] [(2, .int .i64 0), (3, .int .i64 2)] [] hf25 (by kernel_rfl) trivial fun a26 hf27 => ?_
    have hm28 := hm0.sel [] _ rfl (by kernel_rfl)
    refine thenN ?_
    refine wp_ret ?_
    refine thenR ?_
    have hm29 : Mem [] M w0 [] w0 := hm28.sel [] _ rfl (by kernel_rfl)
    obtain rfl := Option.some.inj H0
    refine ret [] [.int .i64 0, .int .i64 2] [] hf27 (by kernel_rfl) trivial ?_
    exact ⟨_, rfl, rfl, hm29⟩
  refine reg [.bool false] [0, 9] [(0, .slice A0 x0.length c0), (9, .bool false)] [.is (decide (4 < (x0.length : Int)) = false)] hf22 (by kernel_rfl) ⟨(decide_eq_false c23), trivial⟩ fun a31 hf32 => ?_
  refine thenN ?_
  refine condF hf32 (by kernel_rfl) ?_
  refine wp_skip ?_
  refine thenN ?_
  refine wp_seq ?_
  refine wp_seq ?_
  refine reg [] [0, 4] [(0, .slice A0 x0.length c0), (4, .int .i64 0)] [] hf32 (by kernel_rfl) trivial fun a33 hf34 => ?_
  refine thenN ?_
  obtain ⟨r36, hr36, H0⟩ := ob_split H0
  refine wpBlock (Mid := fun (a : Act) (w : World) => ∃ yr36 : Int, r36 = .go yr36 ∧ Fr 41 a [(0, .slice A0 x0.length c0), (4, .int .i64 yr36)] ∧ Mem [] M w0 [.sl (Kd.int .i64) A0 c0 x0] w) ?_ ?_
  · refine wpLoop (ref1_Size.l0 x0) r36 (fun (s35 : Int) (a : Act) (w : World) => Fr 41 a [(0, .slice A0 x0.length c0), (4, .int .i64 s35)] ∧ Mem [] M w0 [.sl (Kd.int .i64) A0 c0 x0] w) 0 hr36 ⟨hf34.sel (l := [0, 4]) (by kernel_rfl), hm0.sel [0] _ rfl (by kernel_rfl)⟩ ?_
    rintro g37 s35 a38 w39 H1 ⟨hf40, hm41⟩
    unfold ref1_Size.l0 at H1
    refine wp_seq ?_
    refine wp_seq ?_
    rcases ifS_split H1 with ⟨c42, H1⟩ | ⟨c42, H1⟩
    rotate_left
    · refine reg [.bool false] [0, 4, 13] [(0, .slice A0 x0.length c0), (4, .int .i64 s35), (13, .bool false)] [.is (decide (s35 < (x0.length : Int)) = false)] hf40 (by kernel_rfl) ⟨(decide_eq_false c42), trivial⟩ fun a60 hf61 => ?_
      refine thenN ?_
      refine condF hf61 (by kernel_rfl) ?_
      refine wp_exit ?_
      refine thenE ?_
      refine thenE ?_
      obtain rfl := Option.some.inj H1
      exact .inl ⟨rfl, s35, rfl, hf61.sel (l := [0, 4]) (by kernel_rfl), hm41.sel [0] _ rfl (by kernel_rfl)⟩
    refine reg [.bool true] [0, 4, 13] [(0, .slice A0 x0.length c0), (4, .int .i64 s35), (13, .bool true)] [.is (decide (s35 < (x0.length : Int)) = true)] hf40 (by kernel_rfl) ⟨(decide_eq_true c42), trivial⟩ fun a43 hf44 => ?_
    refine thenN ?_
    refine condT hf44 (by kernel_rfl) ?_
    refine wp_skip ?_
    refine thenN ?_
    refine wp_seq ?_
    refine wp_block ?_
    refine wp_seq ?_
    obtain ⟨g45, H1⟩ := ifS_guard H1
    rcases ifS_split H1 with ⟨c46, H1⟩ | ⟨c46, H1⟩
    rotate_left
    · have q55 := (hm41.slAt 0 rfl).int s35 g45.1 g45.2
      refine reg [.int .i64 (rd x0 s35), .bool false] [0, 4, 20] [(0, .slice A0 x0.length c0), (4, .int .i64 s35), (20, .bool false)] [.is (Option.isSome A0 = true), .is (0 ≤ s35 ∧ s35 < (x0.length : Int)), .cell ((ad A0).add ((s35).toNat * 1)) (.int .i64 (rd x0 s35)), .is (decide ((rd x0 s35) < 1) = false)] hf44 (by kernel_rfl) ⟨q55.1, g45, q55.2, (decide_eq_false c46), trivial⟩ fun a56 hf57 => ?_
      refine thenN ?_
      refine condF hf57 (by kernel_rfl) ?_
      refine wp_skip ?_
      refine blkN ?_
      refine thenN ?_
      refine reg [] [0, 4] [(0, .slice A0 x0.length c0), (4, .int .i64 (w64 (s35 + 1)))] [] hf57 (by kernel_rfl) trivial fun a58 hf59 => ?_
      exact ⟨(w64 (s35 + 1)), H1, hf59.sel (l := [0, 4]) (by kernel_rfl), hm41.sel [0] _ rfl (by kernel_rfl)⟩
    have q47 := (hm41.slAt 0 rfl).int s35 g45.1 g45.2
    refine reg [.int .i64 (rd x0 s35), .bool true] [0, 4, 20] [(0, .slice A0 x0.length c0), (4, .int .i64 s35), (20, .bool true)] [.is (Option.isSome A0 = true), .is (0 ≤ s35 ∧ s35 < (x0.length : Int)), .cell ((ad A0).add ((s35).toNat * 1)) (.int .i64 (rd x0 s35)), .is (decide ((rd x0 s35) < 1) = true)] hf44 (by kernel_rfl) ⟨q47.1, g45, q47.2, (decide_eq_true c46), trivial⟩ fun a48 hf49 => ?_
    refine thenN ?_
    refine condT hf49 (by kernel_rfl) ?_
    refine wp_seq ?_
    refine reg [] [2, 3] [(2, .int .i64 0), (3, .int .i64 2)] [] hf49 (by kernel_rfl) trivial fun a50 hf51 => ?_
    have hm52 := hm41.sel [] _ rfl (by kernel_rfl)
    refine thenN ?_
    refine wp_ret ?_
    refine blkR ?_
    refine thenR ?_
    refine thenR ?_
    refine .inr ⟨rfl, ?_⟩
    refine thenR ?_
    have hm53 : Mem [] M w0 [] w39 := hm52.sel [] _ rfl (by kernel_rfl)
    obtain rfl := Option.some.inj H1
    obtain rfl := Option.some.inj H0
    refine ret [] [.int .i64 0, .int .i64 2] [] hf51 (by kernel_rfl) trivial ?_
    exact ⟨_, rfl, rfl, hm53⟩
  rintro a62 w63 ⟨yr36, rfl, hf65, hm66⟩
  refine thenN ?_
  refine wp_seq ?_
  refine reg [] [0, 5] [(0, .slice A0 x0.length c0), (5, .int .i64 1)] [] hf65 (by kernel_rfl) trivial fun a67 hf68 => ?_
  refine thenN ?_
  refine wp_seq ?_
  refine wp_seq ?_
  refine reg [] [0, 5, 6] [(0, .slice A0 x0.length c0), (5, .int .i64 1), (6, .int .i64 0)] [] hf68 (by kernel_rfl) trivial fun a69 hf70 => ?_
  refine thenN ?_
  obtain ⟨r72, hr72, H0⟩ := ob_split H0
  refine wpBlock (Mid := fun (a : Act) (w : World) => ∃ yr72 : (Int × Int), r72 = .go yr72 ∧ Fr 41 a [(0, .slice A0 x0.length c0), (5, .int .i64 yr72.1), (6, .int .i64 yr72.2)] ∧ Mem [] M w0 [.sl (Kd.int .i64) A0 c0 x0] w) ?_ ?_
  · refine wpLoop (ref1_Size.l1 x0) r72 (fun (s71 : (Int × Int)) (a : Act) (w : World) => Fr 41 a [(0, .slice A0 x0.length c0), (5, .int .i64 s71.1), (6, .int .i64 s71.2)] ∧ Mem [] M w0 [.sl (Kd.int .i64) A0 c0 x0] w) (1, 0) hr72 ⟨hf70.sel (l := [0, 5, 6]) (by kernel_rfl), hm66.sel [0] _ rfl (by kernel_rfl)⟩ ?_
    rintro g73 s71 a74 w75 H1 ⟨hf76, hm77⟩
    unfold ref1_Size.l1 at H1
    refine wp_seq ?_
    refine wp_seq ?_
    rcases ifS_split H1 with ⟨c78, H1⟩ | ⟨c78, H1⟩
    rotate_left
    · refine reg [.bool false] [0, 5, 6, 24] [(0, .slice A0 x0.length c0), (5, .int .i64 s71.1), (6, .int .i64 s71.2), (24, .bool false)] [.is (decide (s71.2 < (x0.length : Int)) = false)] hf76 (by kernel_rfl) ⟨(decide_eq_false c78), trivial⟩ fun a106 hf107 => ?_
      refine thenN ?_
      refine condF hf107 (by kernel_rfl) ?_
      refine wp_exit ?_
      refine thenE ?_
      refine thenE ?_
      obtain rfl := Option.some.inj H1
      exact .inl ⟨rfl, (s71.1, s71.2), rfl, hf107.sel (l := [0, 5, 6]) (by kernel_rfl), hm77.sel [0] _ rfl (by kernel_rfl)⟩
    refine reg [.bool true] [0, 5, 6, 24] [(0, .slice A0 x0.length c0), (5, .int .i64 s71.1), (6, .int .i64 s71.2), (24, .bool true)] [.is (decide (s71.2 < (x0.length : Int)) = true)] hf76 (by kernel_rfl) ⟨(decide_eq_true c78), trivial⟩ fun a79 hf80 => ?_
    refine thenN ?_
    refine condT hf80 (by kernel_rfl) ?_
    refine wp_skip ?_
    refine thenN ?_
    refine wp_seq ?_
    refine wp_block ?_
    refine wp_seq ?_
    refine wp_seq ?_
    obtain ⟨g81, H1⟩ := ifS_guard H1
    obtain ⟨g82, H1⟩ := ifS_guard H1
    rcases ifS_split H1 with ⟨c83, H1⟩ | ⟨c83, H1⟩
    rotate_left
    · have q95 := (hm77.slAt 0 rfl).int s71.2 g81.1 g81.2
      refine regQ [.int .i64 (rd x0 s71.2), .bool false] [0, 5, 6, 33] [(0, .slice A0 x0.length c0), (5, .int .i64 s71.1), (6, .int .i64 s71.2), (33, .bool false)] [.is (Option.isSome A0 = true), .is (0 ≤ s71.2 ∧ s71.2 < (x0.length : Int)), .cell ((ad A0).add ((s71.2).toNat * 1)) (.int .i64 (rd x0 s71.2)), .is (s71.1 ≠ 0), .is (decide ((w64 (Int.tdiv 4096 s71.1)) < (rd x0 s71.2)) = false)] (by kernel_rfl) (by kernel_rfl) hf80 (by kernel_rfl) ⟨q95.1, g81, q95.2, g82, (decide_eq_false c83), trivial⟩ fun a96 w98 hf97 hg99 => ?_
      have hm100 := hm77.still hg99
      refine thenN ?_
      refine condF hf97 (by kernel_rfl) ?_
      refine wp_skip ?_
      refine thenN ?_
      have q101 := (hm100.slAt 0 rfl).int s71.2 g81.1 g81.2
      refine reg [.int .i64 (rd x0 s71.2)] [0, 5, 6] [(0, .slice A0 x0.length c0), (5, .int .i64 (w64 (s71.1 * (rd x0 s71.2)))), (6, .int .i64 s71.2)] [.is (Option.isSome A0 = true), .is (0 ≤ s71.2 ∧ s71.2 < (x0.length : Int)), .cell ((ad A0).add ((s71.2).toNat * 1)) (.int .i64 (rd x0 s71.2))] hf97 (by kernel_rfl) ⟨q101.1, g81, q101.2, trivial⟩ fun a102 hf103 => ?_
      refine blkN ?_
      refine thenN ?_
      refine reg [] [0, 5, 6] [(0, .slice A0 x0.length c0), (5, .int .i64 (w64 (s71.1 * (rd x0 s71.2)))), (6, .int .i64 (w64 (s71.2 + 1)))] [] hf103 (by kernel_rfl) trivial fun a104 hf105 => ?_
      exact ⟨((w64 (s71.1 * (rd x0 s71.2))), (w64 (s71.2 + 1))), H1, hf105.sel (l := [0, 5, 6]) (by kernel_rfl), hm100.sel [0] _ rfl (by kernel_rfl)⟩
    have q84 := (hm77.slAt 0 rfl).int s71.2 g81.1 g81.2
    refine regQ [.int .i64 (rd x0 s71.2), .bool true] [0, 5, 6, 33] [(0, .slice A0 x0.length c0), (5, .int .i64 s71.1), (6, .int .i64 s71.2), (33, .bool true)] [.is (Option.isSome A0 = true), .is (0 ≤ s71.2 ∧ s71.2 < (x0.length : Int)), .cell ((ad A0).add ((s71.2).toNat * 1)) (.int .i64 (rd x0 s71.2)), .is (s71.1 ≠ 0), .is (decide ((w64 (Int.tdiv 4096 s71.1)) < (rd x0 s71.2)) = true)] (by kernel_rfl) (by kernel_rfl) hf80 (by kernel_rfl) ⟨q84.1, g81, q84.2, g82, (decide_eq_true c83), trivial⟩ fun a85 w87 hf86 hg88 => ?_
    have hm89 := hm77.still hg88
    refine thenN ?_
    refine condT hf86 (by kernel_rfl) ?_
    refine wp_seq ?_
    refine reg [] [2, 3] [(2, .int .i64 0), (3, .int .i64 3)] [] hf86 (by kernel_rfl) trivial fun a90 hf91 => ?_
    have hm92 := hm89.sel [] _ rfl (by kernel_rfl)
    refine thenN ?_
    refine wp_ret ?_
    refine thenR ?_
    refine blkR ?_
    refine thenR ?_
    refine thenR ?_
    refine .inr ⟨rfl, ?_⟩
    refine thenR ?_
    have hm93 : Mem [] M w0 [] w87 := hm92.sel [] _ rfl (by kernel_rfl)
    obtain rfl := Option.some.inj H1
    obtain rfl := Option.some.inj H0
    refine ret [] [.int .i64 0, .int .i64 3] [] hf91 (by kernel_rfl) trivial ?_
    exact ⟨_, rfl, rfl, hm93⟩
  rintro a108 w109 ⟨yr72, rfl, hf110, hm111⟩
  refine thenN ?_
  refine wp_seq ?_
  refine reg [] [2, 3] [(2, .int .i64 yr72.1), (3, .int .i64 0)] [] hf110 (by kernel_rfl) trivial fun a112 hf113 => ?_
  have hm114 := hm111.sel [] _ rfl (by kernel_rfl)
  refine thenN ?_
  refine wp_ret ?_
  have hm115 : Mem [] M w0 [] w109 := hm114.sel [] _ rfl (by kernel_rfl)
  obtain rfl := Option.some.inj H0
  refine ret [] [.int .i64 yr72.1, .int .i64 0] [] hf113 (by kernel_rfl) trivial ?_
  exact ⟨_, rfl, rfl, hm115⟩

/-! ### backstitch/backstitchref1.TensorMay -/
noncomputable def ref1_TensorMay.f (x0 : Tensor) : Option Bool :=
  (ref1_Size.f x0.Shape).bind fun r30 =>
  if r30.2 = 0 then (if r30.1 = (x0.Data.length : Int) then (some true)
  else (some false))
  else (some false)
set_option maxRecDepth 100000 in
set_option maxHeartbeats 4000000 in
theorem ref1_TensorMay.calls (M : List (Option Nat)) (w0 : World) (x0 : Tensor) (A0_0 : Option Addr) (n0_0 c0_0 : Nat) (e0_0 : n0_0 = x0.Shape.length) (A0_1 : Option Addr) (n0_1 c0_1 : Nat) (e0_1 : n0_1 = x0.Data.length) (hm0 : Mem [] M w0 [.sl (Kd.int .i64) A0_0 c0_0 x0.Shape, .sl Kd.float A0_1 c0_1 x0.Data] w0) (r : Bool) (H0 : ref1_TensorMay.f x0 = some r) :
    Calls Try.prog 32 [.agg #[.slice A0_0 n0_0 c0_0, .slice A0_1 n0_1 c0_1]].toArray w0 (fun x w' => ∃ v, x = .returned v ∧ v = .bool r ∧ Mem [] M w0 [] w') := by
  subst e0_0
  subst e0_1
  unfold ref1_TensorMay.f at H0
  refine enter (n := 20) Try.func32 rfl rfl (by kernel_rfl) fun a0 (hf0 : Fr 20 a0 [(0, .agg #[.slice A0_0 x0.Shape.length c0_0, .slice A0_1 x0.Data.length c0_1])]) => ?_
  refine wp_seq ?_
  refine inReg ?_
  refine listOf hf0 rfl (by kernel_rfl) (aNew (cs := [.slice A0_0 x0.Shape.length c0_0, .slice A0_1 x0.Data.length c0_1]) (T := 28) (d := 1) hf0 (by kernel_rfl) (by kernel_rfl) ?_)
  intro b21 w22 a23 hbb21 hx25 hg26 hf24
  have hm27 := hm0.box hbb21 hx25 hg26
  refine go 1 [] [1] [(1, .pointer (some ⟨b21, 0, none⟩))] [] hf24 (by kernel_rfl) trivial fun a28 hf29 => ?_
  refine endL rfl ?_
  refine thenN ?_
  refine wp_seq ?_
  obtain ⟨r30, hr30, H0⟩ := ob_split H0
  refine inReg ?_
  refine go 2 [.slice A0_0 x0.Shape.length c0_0] [1, 7] [(1, .pointer (some ⟨b21, 0, none⟩)), (7, .slice A0_0 x0.Shape.length c0_0)] [.cell ⟨b21, 0, none⟩ (.slice A0_0 x0.Shape.length c0_0)] hf29 (by kernel_rfl) ⟨(hm27.cell 0 rfl rfl), trivial⟩ fun a31 hf32 => ?_
  refine listOf hf32 rfl (by kernel_rfl) (aCall (fid := 30) (args := [.slice A0_0 x0.Shape.length c0_0]) (d := 8) hf32 (by kernel_rfl) (by kernel_rfl) callable30 (ref1_Size.calls _ _ x0.Shape A0_0 x0.Shape.length c0_0 rfl (hm27.give [1] [.sl (Kd.int .i64) A0_0 c0_0 x0.Shape] rfl rfl) r30 hr30) ?_)
  rintro _ w33 a34 ⟨rfl, hk36⟩ hf35
  have hm37 := hm27.still hk36.cum.none
  refine go 5 [] [1, 3, 4] [(1, .pointer (some ⟨b21, 0, none⟩)), (3, .int .i64 r30.1), (4, .int .i64 r30.2)] [] hf35 (by kernel_rfl) trivial fun a38 hf39 => ?_
  refine endL rfl ?_
  refine thenN ?_
  refine wp_seq ?_
  rcases if_split H0 with ⟨c40, H0⟩ | ⟨c40, H0⟩
  rotate_left
  · refine reg [.bool false] [2] [(2, .bool false)] [.is (((r30.2 : Int) == 0) = false)] hf39 (by kernel_rfl) ⟨(eqF c40), trivial⟩ fun a52 hf53 => ?_
    have hm54 := hm37.sel [] _ rfl (by kernel_rfl)
    refine thenN ?_
    refine wp_ret ?_
    have hm55 : Mem [] M w0 [] w33 := hm54.sel [] _ rfl (by kernel_rfl)
    obtain rfl := Option.some.inj H0
    refine ret [] [.bool false] [] hf53 (by kernel_rfl) trivial ?_
    exact ⟨_, rfl, rfl, hm55⟩
  rcases if_split H0 with ⟨c41, H0⟩ | ⟨c41, H0⟩
  · refine reg [.bool true, .slice A0_1 x0.Data.length c0_1, .bool true] [2] [(2, .bool true)] [.is (((r30.2 : Int) == 0) = true), .cell ⟨b21, 1, none⟩ (.slice A0_1 x0.Data.length c0_1), .is (((r30.1 : Int) == (x0.Data.length : Int)) = true)] hf39 (by kernel_rfl) ⟨(eqT c40), (hm37.cell 0 rfl rfl), (eqT c41), trivial⟩ fun a42 hf43 => ?_
    have hm44 := hm37.sel [] _ rfl (by kernel_rfl)
    refine thenN ?_
    refine wp_ret ?_
    have hm45 : Mem [] M w0 [] w33 := hm44.sel [] _ rfl (by kernel_rfl)
    obtain rfl := Option.some.inj H0
    refine ret [] [.bool true] [] hf43 (by kernel_rfl) trivial ?_
    exact ⟨_, rfl, rfl, hm45⟩
  refine reg [.bool true, .slice A0_1 x0.Data.length c0_1, .bool false] [2] [(2, .bool false)] [.is (((r30.2 : Int) == 0) = true), .cell ⟨b21, 1, none⟩ (.slice A0_1 x0.Data.length c0_1), .is (((r30.1 : Int) == (x0.Data.length : Int)) = false)] hf39 (by kernel_rfl) ⟨(eqT c40), (hm37.cell 0 rfl rfl), (eqF c41), trivial⟩ fun a47 hf48 => ?_
  have hm49 := hm37.sel [] _ rfl (by kernel_rfl)
  refine thenN ?_
  refine wp_ret ?_
  have hm50 : Mem [] M w0 [] w33 := hm49.sel [] _ rfl (by kernel_rfl)
  obtain rfl := Option.some.inj H0
  refine ret [] [.bool false] [] hf48 (by kernel_rfl) trivial ?_
  exact ⟨_, rfl, rfl, hm50⟩

/-! ### slices.Equal[[]int,int] -/
noncomputable def slices_Equal_int.l0 (x0 : (List Int)) (x1 : (List Int)) (s28 : Int) : Step Int (Out2 Int Bool) :=
  if s28 < (x0.length : Int) then (if 0 ≤ s28 ∧ s28 < (x0.length : Int) then (if 0 ≤ s28 ∧ s28 < (x1.length : Int) then (if (rd x0 s28) = (rd x1 s28) then (.next (w64 (s28 + 1)))
  else (.done (.ret false)))
  else .bad)
  else .bad)
  else (.done (.go s28))
noncomputable def slices_Equal_int.f (x0 : (List Int)) (x1 : (List Int)) : Option Bool :=
  if (x0.length : Int) = (x1.length : Int) then ((loop (slices_Equal_int.l0 x0 x1) 0).bind fun r29 =>
  r29.on (fun yr29 =>
  some true) (fun y => some y))
  else (some false)
set_option maxRecDepth 100000 in
set_option maxHeartbeats 4000000 in
theorem slices_Equal_int.calls (M : List (Option Nat)) (w0 : World) (x0 : (List Int)) (A0 : Option Addr) (n0 c0 : Nat) (e0 : n0 = x0.length) (x1 : (List Int)) (A1 : Option Addr) (n1 c1 : Nat) (e1 : n1 = x1.length) (hm0 : Mem [] M w0 [.sl (Kd.int .i64) A0 c0 x0, .sl (Kd.int .i64) A1 c1 x1] w0) (r : Bool) (H0 : slices_Equal_int.f x0 x1 = some r) :
    Calls Try.prog 75 [.slice A0 n0 c0, .slice A1 n1 c1].toArray w0 (fun x w' => ∃ v, x = .returned v ∧ v = .bool r ∧ Mem [] M w0 [] w') := by
  subst e0
  subst e1
  unfold slices_Equal_int.f at H0
  refine enter (n := 26) Try.func75 rfl rfl (by kernel_rfl) fun a0 (hf0 : Fr 26 a0 [(0, .slice A0 x0.length c0), (1, .slice A1 x1.length c1)]) => ?_
  refine wp_seq ?_
  refine reg [] [0, 1] [(0, .slice A0 x0.length c0), (1, .slice A1 x1.length c1)] [] hf0 (by kernel_rfl) trivial fun a21 hf22 => ?_
  refine thenN ?_
  refine wp_seq ?_
  refine wp_seq ?_
  rcases if_split H0 with ⟨c23, H0⟩ | ⟨c23, H0⟩
  rotate_left
  · refine reg [.bool true] [0, 1, 10] [(0, .slice A0 x0.length c0), (1, .slice A1 x1.length c1), (10, .bool true)] [.is ((((x0.length : Int) : Int) != (x1.length : Int)) = true)] hf22 (by kernel_rfl) ⟨(neT c23), trivial⟩ fun a76 hf77 => ?_
    refine thenN ?_
    refine condT hf77 (by kernel_rfl) ?_
    refine wp_seq ?_
    refine reg [] [4] [(4, .bool false)] [] hf77 (by kernel_rfl) trivial fun a78 hf79 => ?_
    have hm80 := hm0.sel [] _ rfl (by kernel_rfl)
    refine thenN ?_
    refine wp_ret ?_
    refine thenR ?_
    have hm81 : Mem [] M w0 [] w0 := hm80.sel [] _ rfl (by kernel_rfl)
    obtain rfl := Option.some.inj H0
    refine ret [] [.bool false] [] hf79 (by kernel_rfl) trivial ?_
    exact ⟨_, rfl, rfl, hm81⟩
  refine reg [.bool false] [0, 1, 10] [(0, .slice A0 x0.length c0), (1, .slice A1 x1.length c1), (10, .bool false)] [.is ((((x0.length : Int) : Int) != (x1.length : Int)) = false)] hf22 (by kernel_rfl) ⟨(neF c23), trivial⟩ fun a24 hf25 => ?_
  refine thenN ?_
  refine condF hf25 (by kernel_rfl) ?_
  refine wp_skip ?_
  refine thenN ?_
  refine wp_seq ?_
  refine wp_seq ?_
  refine reg [] [0, 1, 12, 13] [(0, .slice A0 x0.length c0), (1, .slice A1 x1.length c1), (12, .int .i64 (x0.length : Int)), (13, .int .i64 0)] [] hf25 (by kernel_rfl) trivial fun a26 hf27 => ?_
  refine thenN ?_
  obtain ⟨r29, hr29, H0⟩ := ob_split H0
  refine wpBlock (Mid := fun (a : Act) (w : World) => ∃ yr29 : Int, r29 = .go yr29 ∧ Fr 26 a [(0, .slice A0 x0.length c0), (1, .slice A1 x1.length c1), (12, .int .i64 (x0.length : Int)), (13, .int .i64 yr29)] ∧ Mem [] M w0 [.sl (Kd.int .i64) A0 c0 x0, .sl (Kd.int .i64) A1 c1 x1] w) ?_ ?_
  · refine wpLoop (slices_Equal_int.l0 x0 x1) r29 (fun (s28 : Int) (a : Act) (w : World) => Fr 26 a [(0, .slice A0 x0.length c0), (1, .slice A1 x1.length c1), (12, .int .i64 (x0.length : Int)), (13, .int .i64 s28)] ∧ Mem [] M w0 [.sl (Kd.int .i64) A0 c0 x0, .sl (Kd.int .i64) A1 c1 x1] w) 0 hr29 ⟨hf27.sel (l := [0, 1, 12, 13]) (by kernel_rfl), hm0.sel [0, 1] _ rfl (by kernel_rfl)⟩ ?_
    rintro g30 s28 a31 w32 H1 ⟨hf33, hm34⟩
    unfold slices_Equal_int.l0 at H1
    refine wp_seq ?_
    rcases ifS_split H1 with ⟨c35, H1⟩ | ⟨c35, H1⟩
    rotate_left
    · refine reg [.bool false] [0, 1, 12, 13, 14] [(0, .slice A0 x0.length c0), (1, .slice A1 x1.length c1), (12, .int .i64 (x0.length : Int)), (13, .int .i64 s28), (14, .bool false)] [.is (decide (s28 < (x0.length : Int)) = false)] hf33 (by kernel_rfl) ⟨(decide_eq_false c35), trivial⟩ fun a65 hf66 => ?_
      refine thenN ?_
      refine wp_seq ?_
      refine condF hf66 (by kernel_rfl) ?_
      refine wp_exit ?_
      refine thenE ?_
      refine thenE ?_
      obtain rfl := Option.some.inj H1
      exact .inl ⟨rfl, s28, rfl, hf66.sel (l := [0, 1, 12, 13]) (by kernel_rfl), hm34.sel [0, 1] _ rfl (by kernel_rfl)⟩
    refine reg [.bool true] [0, 1, 12, 13, 14] [(0, .slice A0 x0.length c0), (1, .slice A1 x1.length c1), (12, .int .i64 (x0.length : Int)), (13, .int .i64 s28), (14, .bool true)] [.is (decide (s28 < (x0.length : Int)) = true)] hf33 (by kernel_rfl) ⟨(decide_eq_true c35), trivial⟩ fun a36 hf37 => ?_
    refine thenN ?_
    refine wp_seq ?_
    refine condT hf37 (by kernel_rfl) ?_
    refine wp_skip ?_
    refine thenN ?_
    refine wp_seq ?_
    refine wp_block ?_
    refine wp_seq ?_
    refine reg [] [0, 1, 5, 12, 13] [(0, .slice A0 x0.length c0), (1, .slice A1 x1.length c1), (5, .int .i64 s28), (12, .int .i64 (x0.length : Int)), (13, .int .i64 s28)] [] hf37 (by kernel_rfl) trivial fun a38 hf39 => ?_
    refine thenN ?_
    refine wp_seq ?_
    obtain ⟨g40, H1⟩ := ifS_guard H1
    obtain ⟨g41, H1⟩ := ifS_guard H1
    rcases ifS_split H1 with ⟨c42, H1⟩ | ⟨c42, H1⟩
    · have q43 := (hm34.slAt 0 rfl).int s28 g40.1 g40.2
      have q44 := (hm34.slAt 1 rfl).int s28 g41.1 g41.2
      refine regQ [.int .i64 (rd x0 s28), .int .i64 (rd x1 s28), .bool false] [0, 1, 12, 13, 24] [(0, .slice A0 x0.length c0), (1, .slice A1 x1.length c1), (12, .int .i64 (x0.length : Int)), (13, .int .i64 s28), (24, .bool false)] [.is (Option.isSome A0 = true), .is (0 ≤ s28 ∧ s28 < (x0.length : Int)), .cell ((ad A0).add ((s28).toNat * 1)) (.int .i64 (rd x0 s28)), .is (Option.isSome A1 = true), .is (0 ≤ s28 ∧ s28 < (x1.length : Int)), .cell ((ad A1).add ((s28).toNat * 1)) (.int .i64 (rd x1 s28)), .is ((((rd x0 s28) : Int) != (rd x1 s28)) = false)] (by kernel_rfl) (by kernel_rfl) hf39 (by kernel_rfl) ⟨q43.1, g40, q43.2, q44.1, g41, q44.2, (neF c42), trivial⟩ fun a45 w47 hf46 hg48 => ?_
      have hm49 := hm34.still hg48
      refine thenN ?_
      refine condF hf46 (by kernel_rfl) ?_
      refine wp_skip ?_
      refine blkN ?_
      refine thenN ?_
      refine reg [] [0, 1, 12, 13] [(0, .slice A0 x0.length c0), (1, .slice A1 x1.length c1), (12, .int .i64 (x0.length : Int)), (13, .int .i64 (w64 (s28 + 1)))] [] hf46 (by kernel_rfl) trivial fun a50 hf51 => ?_
      exact ⟨(w64 (s28 + 1)), H1, hf51.sel (l := [0, 1, 12, 13]) (by kernel_rfl), hm49.sel [0, 1] _ rfl (by kernel_rfl)⟩
    have q52 := (hm34.slAt 0 rfl).int s28 g40.1 g40.2
    have q53 := (hm34.slAt 1 rfl).int s28 g41.1 g41.2
    refine regQ [.int .i64 (rd x0 s28), .int .i64 (rd x1 s28), .bool true] [0, 1, 12, 13, 24] [(0, .slice A0 x0.length c0), (1, .slice A1 x1.length c1), (12, .int .i64 (x0.length : Int)), (13, .int .i64 s28), (24, .bool true)] [.is (Option.isSome A0 = true), .is (0 ≤ s28 ∧ s28 < (x0.length : Int)), .cell ((ad A0).add ((s28).toNat * 1)) (.int .i64 (rd x0 s28)), .is (Option.isSome A1 = true), .is (0 ≤ s28 ∧ s28 < (x1.length : Int)), .cell ((ad A1).add ((s28).toNat * 1)) (.int .i64 (rd x1 s28)), .is ((((rd x0 s28) : Int) != (rd x1 s28)) = true)] (by kernel_rfl) (by kernel_rfl) hf39 (by kernel_rfl) ⟨q52.1, g40, q52.2, q53.1, g41, q53.2, (neT c42), trivial⟩ fun a54 w56 hf55 hg57 => ?_
    have hm58 := hm34.still hg57
    refine thenN ?_
    refine condT hf55 (by kernel_rfl) ?_
    refine wp_seq ?_
    refine reg [] [4] [(4, .bool false)] [] hf55 (by kernel_rfl) trivial fun a59 hf60 => ?_
    have hm61 := hm58.sel [] _ rfl (by kernel_rfl)
    refine thenN ?_
    refine wp_ret ?_
    refine blkR ?_
    refine thenR ?_
    refine thenR ?_
    refine .inr ⟨rfl, ?_⟩
    refine thenR ?_
    have hm62 : Mem [] M w0 [] w56 := hm61.sel [] _ rfl (by kernel_rfl)
    obtain rfl := Option.some.inj H1
    obtain rfl := Option.some.inj H0
    refine ret [] [.bool false] [] hf60 (by kernel_rfl) trivial ?_
    exact ⟨_, rfl, rfl, hm62⟩
  rintro a67 w68 ⟨yr29, rfl, hf69, hm70⟩
  refine thenN ?_
  refine wp_seq ?_
  refine reg [] [4] [(4, .bool true)] [] hf69 (by kernel_rfl) trivial fun a71 hf72 => ?_
  have hm73 := hm70.sel [] _ rfl (by kernel_rfl)
  refine thenN ?_
  refine wp_ret ?_
  have hm74 : Mem [] M w0 [] w68 := hm73.sel [] _ rfl (by kernel_rfl)
  obtain rfl := Option.some.inj H0
  refine ret [] [.bool true] [] hf72 (by kernel_rfl) trivial ?_
  exact ⟨_, rfl, rfl, hm74⟩

/-! ### backstitch/shape.Same -/
noncomputable def shape_Same.f (x0 : (List Int)) (x1 : (List Int)) : Option Bool :=
  (slices_Equal_int.f x0 x1).bind fun r23 =>
  some r23
set_option maxRecDepth 100000 in
set_option maxHeartbeats 4000000 in
theorem shape_Same.calls (M : List (Option Nat)) (w0 : World) (x0 : (List Int)) (A0 : Option Addr) (n0 c0 : Nat) (e0 : n0 = x0.length) (x1 : (List Int)) (A1 : Option Addr) (n1 c1 : Nat) (e1 : n1 = x1.length) (hm0 : Mem [] M w0 [.sl (Kd.int .i64) A0 c0 x0, .sl (Kd.int .i64) A1 c1 x1] w0) (r : Bool) (H0 : shape_Same.f x0 x1 = some r) :
    Calls Try.prog 48 [.slice A0 n0 c0, .slice A1 n1 c1].toArray w0 (fun x w' => ∃ v, x = .returned v ∧ v = .bool r ∧ Mem [] M w0 [] w') := by
  subst e0
  subst e1
  unfold shape_Same.f at H0
  refine enter (n := 8) Try.func48 rfl rfl (by kernel_rfl) fun a0 (hf0 : Fr 8 a0 [(0, .slice A0 x0.length c0), (1, .slice A1 x1.length c1)]) => ?_
  refine wp_seq ?_
  refine reg [] [0, 1] [(0, .slice A0 x0.length c0), (1, .slice A1 x1.length c1)] [] hf0 (by kernel_rfl) trivial fun a21 hf22 => ?_
  refine thenN ?_
  refine wp_seq ?_
  obtain ⟨r23, hr23, H0⟩ := ob_split H0
  refine inReg ?_
  refine go 2 [] [5, 6] [(5, .slice A0 x0.length c0), (6, .slice A1 x1.length c1)] [] hf22 (by kernel_rfl) trivial fun a24 hf25 => ?_
  refine listOf hf25 rfl (by kernel_rfl) (aCall (fid := 75) (args := [.slice A0 x0.length c0, .slice A1 x1.length c1]) (d := 7) hf25 (by kernel_rfl) (by kernel_rfl) callable75 (slices_Equal_int.calls _ _ x0 A0 x0.length c0 rfl x1 A1 x1.length c1 rfl (hm0.give [0, 1] [.sl (Kd.int .i64) A0 c0 x0, .sl (Kd.int .i64) A1 c1 x1] rfl rfl) r23 hr23) ?_)
  rintro _ w26 a27 ⟨rfl, hk29⟩ hf28
  have hm30 := hm0.still hk29.cum.none
  refine go 1 [] [4] [(4, .bool r23)] [] hf28 (by kernel_rfl) trivial fun a31 hf32 => ?_
  refine endL rfl ?_
  have hm33 := hm30.sel [] _ rfl (by kernel_rfl)
  refine thenN ?_
  refine wp_ret ?_
  have hm34 : Mem [] M w0 [] w26 := hm33.sel [] _ rfl (by kernel_rfl)
  obtain rfl := Option.some.inj H0
  refine ret [] [.bool r23] [] hf32 (by kernel_rfl) trivial ?_
  exact ⟨_, rfl, rfl, hm34⟩
end Go.Proofs.Ytkcgiolledmbnab
