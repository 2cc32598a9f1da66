/- Printed by gen.py. -/
import Derived.Test.YtkcgiolledmbnabF0
import Derived.Test.YtkcgiolledmbnabF2
import Derived.Test.YtkcgiolledmbnabF20
import Derived.Test.YtkcgiolledmbnabF22
namespace Go.Proofs.Ytkcgiolledmbnab
open Go Go.RowKit
set_option linter.unusedSimpArgs false
set_option linter.unusedVariables false
set_option linter.unnecessarySimpa false
/-! ### backstitch/backstitchlaw4.awake -/
noncomputable def law4_awake.f  : Option Bool :=
  (kernel_Two.f 4 (⟨([2] : List Int), ([4607182418800017408, 4611686018427387904] : List Nat)⟩ : Tensor) (⟨([1] : List Int), ([4613937818241073152] : List Nat)⟩ : Tensor)).bind fun r23 =>
  if r23.2 = 0 then (if (r23.1.Data.length : Int) = 2 then (if (0 : Int) ≤ 0 ∧ 0 < (r23.1.Data.length : Int) then (if (feq (rd r23.1.Data 0) 4616189618054758400) = true then (if (0 : Int) ≤ 1 ∧ 1 < (r23.1.Data.length : Int) then (if (feq (rd r23.1.Data 1) 4617315517961601024) = true then (some true)
  else (some false))
  else none)
  else (some false))
  else none)
  else (some false))
  else (some false)
set_option maxRecDepth 100000 in
set_option maxHeartbeats 4000000 in
theorem law4_awake.calls (M : List (Option Nat)) (w0 : World)  (hm0 : Mem [] M w0 [] w0) (r : Bool) (H0 : law4_awake.f = some r) :
    Calls Try.prog 43 [].toArray w0 (fun x w' => ∃ v, x = .returned v ∧ v = .bool r ∧ Mem [] M w0 [] w') := by
  unfold law4_awake.f at H0
  refine enter (n := 35) Try.func43 rfl rfl (by kernel_rfl) fun a0 (hf0 : Fr 35 a0 []) => ?_
  refine wp_seq ?_
  refine reg [] [] [] [] hf0 (by kernel_rfl) trivial fun a21 hf22 => ?_
  refine thenN ?_
  refine wp_seq ?_
  obtain ⟨r23, hr23, H0⟩ := ob_split H0
  refine inReg ?_
  refine listOf hf22 rfl (by kernel_rfl) (aLit (cs := [.int .i64 2]) (E := 3) (len := 1) (d := 4) hf22 (by kernel_rfl) (by kernel_rfl) ?_)
  intro b24 w25 a26 hbb24 hx28 hg29 hf27
  have hm0s := hm0.still hg29
  have hm30 : Mem [] M w0 [.sl (Kd.int .i64) (some ⟨b24, 0, none⟩) 1 ([2] : List Int)] w25 := Mem.lit (kd := (Kd.int .i64)) (xs := ([2] : List Int)) hm0 hbb24 hx28 hg29 (Els.one (kd := (Kd.int .i64)) (us := [.int .i64 2]) (x := 2) rfl)
  refine listOf hf27 rfl (by kernel_rfl) (aLit (cs := [.float .f64 4607182418800017408, .float .f64 4611686018427387904]) (E := 44) (len := 2) (d := 5) hf27 (by kernel_rfl) (by kernel_rfl) ?_)
  intro b31 w32 a33 hbb31 hx35 hg36 hf34
  have hm30s := hm30.still hg36
  have hm37 : Mem [] M w0 [.sl Kd.float (some ⟨b31, 0, none⟩) 2 ([4607182418800017408, 4611686018427387904] : List Nat), .sl (Kd.int .i64) (some ⟨b24, 0, none⟩) 1 ([2] : List Int)] w32 := Mem.lit (kd := Kd.float) (xs := ([4607182418800017408, 4611686018427387904] : List Nat)) hm30 hbb31 hx35 hg36 (Els.append (Els.one (kd := Kd.float) (us := [.float .f64 4607182418800017408]) (x := 4607182418800017408) ⟨_, rfl, (FR.lit (by kernel_rfl) (by kernel_rfl))⟩) (Els.one (kd := Kd.float) (us := [.float .f64 4611686018427387904]) (x := 4611686018427387904) ⟨_, rfl, (FR.lit (by kernel_rfl) (by kernel_rfl))⟩))
  refine go 1 [] [6] [(6, .agg #[.slice (some ⟨b24, 0, none⟩) 1 1, .slice (some ⟨b31, 0, none⟩) 2 2])] [] hf34 (by kernel_rfl) trivial fun a38 hf39 => ?_
  refine listOf hf39 rfl (by kernel_rfl) (aLit (cs := [.int .i64 1]) (E := 3) (len := 1) (d := 7) hf39 (by kernel_rfl) (by kernel_rfl) ?_)
  intro b40 w41 a42 hbb40 hx44 hg45 hf43
  have hm37s := hm37.still hg45
  have hm46 : Mem [] M w0 [.sl (Kd.int .i64) (some ⟨b40, 0, none⟩) 1 ([1] : List Int), .sl Kd.float (some ⟨b31, 0, none⟩) 2 ([4607182418800017408, 4611686018427387904] : List Nat), .sl (Kd.int .i64) (some ⟨b24, 0, none⟩) 1 ([2] : List Int)] w41 := Mem.lit (kd := (Kd.int .i64)) (xs := ([1] : List Int)) hm37 hbb40 hx44 hg45 (Els.one (kd := (Kd.int .i64)) (us := [.int .i64 1]) (x := 1) rfl)
  refine listOf hf43 rfl (by kernel_rfl) (aLit (cs := [.float .f64 4613937818241073152]) (E := 44) (len := 1) (d := 8) hf43 (by kernel_rfl) (by kernel_rfl) ?_)
  intro b47 w48 a49 hbb47 hx51 hg52 hf50
  have hm46s := hm46.still hg52
  have hm53 : Mem [] M w0 [.sl Kd.float (some ⟨b47, 0, none⟩) 1 ([4613937818241073152] : List Nat), .sl (Kd.int .i64) (some ⟨b40, 0, none⟩) 1 ([1] : List Int), .sl Kd.float (some ⟨b31, 0, none⟩) 2 ([4607182418800017408, 4611686018427387904] : List Nat), .sl (Kd.int .i64) (some ⟨b24, 0, none⟩) 1 ([2] : List Int)] w48 := Mem.lit (kd := Kd.float) (xs := ([4613937818241073152] : List Nat)) hm46 hbb47 hx51 hg52 (Els.one (kd := Kd.float) (us := [.float .f64 4613937818241073152]) (x := 4613937818241073152) ⟨_, rfl, (FR.lit (by kernel_rfl) (by kernel_rfl))⟩)
  refine go 1 [] [6, 9] [(6, .agg #[.slice (some ⟨b24, 0, none⟩) 1 1, .slice (some ⟨b31, 0, none⟩) 2 2]), (9, .agg #[.slice (some ⟨b40, 0, none⟩) 1 1, .slice (some ⟨b47, 0, none⟩) 1 1])] [] hf50 (by kernel_rfl) trivial fun a54 hf55 => ?_
  refine listOf hf55 rfl (by kernel_rfl) (aCall (fid := 45) (args := [.int .i64 4, .agg #[.slice (some ⟨b24, 0, none⟩) 1 1, .slice (some ⟨b31, 0, none⟩) 2 2], .agg #[.slice (some ⟨b40, 0, none⟩) 1 1, .slice (some ⟨b47, 0, none⟩) 1 1]]) (d := 10) hf55 (by kernel_rfl) (by kernel_rfl) callable45 (kernel_Two.calls _ _ 4 (⟨([2] : List Int), ([4607182418800017408, 4611686018427387904] : List Nat)⟩ : Tensor) (some ⟨b24, 0, none⟩) 1 1 rfl (some ⟨b31, 0, none⟩) 2 2 rfl (⟨([1] : List Int), ([4613937818241073152] : List Nat)⟩ : Tensor) (some ⟨b40, 0, none⟩) 1 1 rfl (some ⟨b47, 0, none⟩) 1 1 rfl (hm53.give [3, 2, 1, 0] [.sl (Kd.int .i64) (some ⟨b24, 0, none⟩) 1 ([2] : List Int), .sl Kd.float (some ⟨b31, 0, none⟩) 2 ([4607182418800017408, 4611686018427387904] : List Nat), .sl (Kd.int .i64) (some ⟨b40, 0, none⟩) 1 ([1] : List Int), .sl Kd.float (some ⟨b47, 0, none⟩) 1 ([4613937818241073152] : List Nat)] rfl rfl) r23 hr23) ?_)
  rintro _ w60 a61 ⟨A56, c57, A58, c59, rfl, hk63⟩ hf62
  have hm65 := hm53.back hk63
  have hm66 := hm65.seal 0 _ rfl rfl
  have hm67 := hm66.seal 1 _ rfl rfl
  refine go 3 [] [11, 12] [(11, .agg #[.slice A56 r23.1.Shape.length c57, .slice A58 r23.1.Data.length c59]), (12, .int .i64 r23.2)] [] hf62 (by kernel_rfl) trivial fun a68 hf69 => ?_
  refine listOf hf69 rfl (by kernel_rfl) (aNew (cs := [.slice none 0 0, .slice none 0 0]) (T := 28) (d := 1) hf69 (by kernel_rfl) (by kernel_rfl) ?_)
  intro b70 w71 a72 hbb70 hx74 hg75 hf73
  have hm76 := hm67.box hbb70 hx74 hg75
  refine listOf hf73 rfl (by kernel_rfl) (aStoreB (b := b70) (j := 0) (T := 28) (cs := [.slice none 0 0, .slice none 0 0]) (us := [.slice A56 r23.1.Shape.length c57, .slice A58 r23.1.Data.length c59]) (cs' := [.slice A56 r23.1.Shape.length c57, .slice A58 r23.1.Data.length c59]) hf73 (by kernel_rfl) (hm76.bxAt 0 rfl) (by kernel_rfl) (by kernel_rfl) (by kernel_rfl) ?_)
  intro w77 hx78 hg79
  have hm80 := hm76.setBox 0 _ rfl rfl hx78 hg79
  refine go 1 [] [1, 2] [(1, .pointer (some ⟨b70, 0, none⟩)), (2, .int .i64 r23.2)] [] hf73 (by kernel_rfl) trivial fun a81 hf82 => ?_
  refine endL rfl ?_
  have hm83 := hm80.sel [0, 1, 2] _ rfl (by kernel_rfl)
  refine thenN ?_
  refine wp_seq ?_
  rcases if_split H0 with ⟨c84, H0⟩ | ⟨c84, H0⟩
  · rcases if_split H0 with ⟨c85, H0⟩ | ⟨c85, H0⟩
    · obtain ⟨g86, H0⟩ := if_guard H0
      rcases ifb_split H0 with ⟨c87, H0⟩ | ⟨c87, H0⟩
      · obtain ⟨g88, H0⟩ := if_guard H0
        rcases ifb_split H0 with ⟨c89, H0⟩ | ⟨c89, H0⟩
        · have q90 := (hm83.slAt 2 rfl).float 0 g86.1 g86.2
          obtain ⟨b91, hb91, kb91⟩ := q90.2
          have q92 := (hm83.slAt 2 rfl).float 1 g88.1 g88.2
          obtain ⟨b93, hb93, kb93⟩ := q92.2
          refine reg [.bool true, .slice A58 r23.1.Data.length c59, .bool true, .slice A58 r23.1.Data.length c59, .float .f64 b91, .bool true, .slice A58 r23.1.Data.length c59, .float .f64 b93, .bool true] [0] [(0, .bool true)] [.is (((r23.2 : Int) == 0) = true), .cell ⟨b70, 1, none⟩ (.slice A58 r23.1.Data.length c59), .is ((((r23.1.Data.length : Int) : Int) == 2) = true), .cell ⟨b70, 1, none⟩ (.slice A58 r23.1.Data.length c59), .is (Option.isSome A58 = true), .is ((0 : Int) ≤ 0 ∧ 0 < (r23.1.Data.length : Int)), .cell ((ad A58).add ((0 : Int).toNat * 1)) (.float .f64 b91), .is ((FloatKind.f64.format.order b91 4616189618054758400 == some .eq) = true), .cell ⟨b70, 1, none⟩ (.slice A58 r23.1.Data.length c59), .is (Option.isSome A58 = true), .is ((0 : Int) ≤ 1 ∧ 1 < (r23.1.Data.length : Int)), .cell ((ad A58).add ((1 : Int).toNat * 1)) (.float .f64 b93), .is ((FloatKind.f64.format.order b93 4617315517961601024 == some .eq) = true)] hf82 (by kernel_rfl) ⟨(eqT c84), (hm83.cell 0 rfl rfl), (eqT c85), (hm83.cell 0 rfl rfl), q90.1, g86, kb91, (ftEq hb91 (FR.lit (by kernel_rfl) (by kernel_rfl)) c87), (hm83.cell 0 rfl rfl), q92.1, g88, kb93, (ftEq hb93 (FR.lit (by kernel_rfl) (by kernel_rfl)) c89), trivial⟩ fun a94 hf95 => ?_
          have hm96 := hm83.sel [] _ rfl (by kernel_rfl)
          refine thenN ?_
          refine wp_ret ?_
          have hm97 : Mem [] M w0 [] w77 := hm96.sel [] _ rfl (by kernel_rfl)
          obtain rfl := Option.some.inj H0
          refine ret [] [.bool true] [] hf95 (by kernel_rfl) trivial ?_
          exact ⟨_, rfl, rfl, hm97⟩
        · have q99 := (hm83.slAt 2 rfl).float 0 g86.1 g86.2
          obtain ⟨b100, hb100, kb100⟩ := q99.2
          have q101 := (hm83.slAt 2 rfl).float 1 g88.1 g88.2
          obtain ⟨b102, hb102, kb102⟩ := q101.2
          refine reg [.bool true, .slice A58 r23.1.Data.length c59, .bool true, .slice A58 r23.1.Data.length c59, .float .f64 b100, .bool true, .slice A58 r23.1.Data.length c59, .float .f64 b102, .bool false] [0] [(0, .bool false)] [.is (((r23.2 : Int) == 0) = true), .cell ⟨b70, 1, none⟩ (.slice A58 r23.1.Data.length c59), .is ((((r23.1.Data.length : Int) : Int) == 2) = true), .cell ⟨b70, 1, none⟩ (.slice A58 r23.1.Data.length c59), .is (Option.isSome A58 = true), .is ((0 : Int) ≤ 0 ∧ 0 < (r23.1.Data.length : Int)), .cell ((ad A58).add ((0 : Int).toNat * 1)) (.float .f64 b100), .is ((FloatKind.f64.format.order b100 4616189618054758400 == some .eq) = true), .cell ⟨b70, 1, none⟩ (.slice A58 r23.1.Data.length c59), .is (Option.isSome A58 = true), .is ((0 : Int) ≤ 1 ∧ 1 < (r23.1.Data.length : Int)), .cell ((ad A58).add ((1 : Int).toNat * 1)) (.float .f64 b102), .is ((FloatKind.f64.format.order b102 4617315517961601024 == some .eq) = false)] hf82 (by kernel_rfl) ⟨(eqT c84), (hm83.cell 0 rfl rfl), (eqT c85), (hm83.cell 0 rfl rfl), q99.1, g86, kb100, (ftEq hb100 (FR.lit (by kernel_rfl) (by kernel_rfl)) c87), (hm83.cell 0 rfl rfl), q101.1, g88, kb102, (ftEq hb102 (FR.lit (by kernel_rfl) (by kernel_rfl)) c89), trivial⟩ fun a103 hf104 => ?_
          have hm105 := hm83.sel [] _ rfl (by kernel_rfl)
          refine thenN ?_
          refine wp_ret ?_
          have hm106 : Mem [] M w0 [] w77 := hm105.sel [] _ rfl (by kernel_rfl)
          obtain rfl := Option.some.inj H0
          refine ret [] [.bool false] [] hf104 (by kernel_rfl) trivial ?_
          exact ⟨_, rfl, rfl, hm106⟩
      · have q108 := (hm83.slAt 2 rfl).float 0 g86.1 g86.2
        obtain ⟨b109, hb109, kb109⟩ := q108.2
        refine reg [.bool true, .slice A58 r23.1.Data.length c59, .bool true, .slice A58 r23.1.Data.length c59, .float .f64 b109, .bool false] [0] [(0, .bool false)] [.is (((r23.2 : Int) == 0) = true), .cell ⟨b70, 1, none⟩ (.slice A58 r23.1.Data.length c59), .is ((((r23.1.Data.length : Int) : Int) == 2) = true), .cell ⟨b70, 1, none⟩ (.slice A58 r23.1.Data.length c59), .is (Option.isSome A58 = true), .is ((0 : Int) ≤ 0 ∧ 0 < (r23.1.Data.length : Int)), .cell ((ad A58).add ((0 : Int).toNat * 1)) (.float .f64 b109), .is ((FloatKind.f64.format.order b109 4616189618054758400 == some .eq) = false)] hf82 (by kernel_rfl) ⟨(eqT c84), (hm83.cell 0 rfl rfl), (eqT c85), (hm83.cell 0 rfl rfl), q108.1, g86, kb109, (ftEq hb109 (FR.lit (by kernel_rfl) (by kernel_rfl)) c87), trivial⟩ fun a110 hf111 => ?_
        have hm112 := hm83.sel [] _ rfl (by kernel_rfl)
        refine thenN ?_
        refine wp_ret ?_
        have hm113 : Mem [] M w0 [] w77 := hm112.sel [] _ rfl (by kernel_rfl)
        obtain rfl := Option.some.inj H0
        refine ret [] [.bool false] [] hf111 (by kernel_rfl) trivial ?_
        exact ⟨_, rfl, rfl, hm113⟩
    · refine reg [.bool true, .slice A58 r23.1.Data.length c59, .bool false] [0] [(0, .bool false)] [.is (((r23.2 : Int) == 0) = true), .cell ⟨b70, 1, none⟩ (.slice A58 r23.1.Data.length c59), .is ((((r23.1.Data.length : Int) : Int) == 2) = false)] hf82 (by kernel_rfl) ⟨(eqT c84), (hm83.cell 0 rfl rfl), (eqF c85), trivial⟩ fun a115 hf116 => ?_
      have hm117 := hm83.sel [] _ rfl (by kernel_rfl)
      refine thenN ?_
      refine wp_ret ?_
      have hm118 : Mem [] M w0 [] w77 := hm117.sel [] _ rfl (by kernel_rfl)
      obtain rfl := Option.some.inj H0
      refine ret [] [.bool false] [] hf116 (by kernel_rfl) trivial ?_
      exact ⟨_, rfl, rfl, hm118⟩
  · refine reg [.bool false] [0] [(0, .bool false)] [.is (((r23.2 : Int) == 0) = false)] hf82 (by kernel_rfl) ⟨(eqF c84), trivial⟩ fun a120 hf121 => ?_
    have hm122 := hm83.sel [] _ rfl (by kernel_rfl)
    refine thenN ?_
    refine wp_ret ?_
    have hm123 : Mem [] M w0 [] w77 := hm122.sel [] _ rfl (by kernel_rfl)
    obtain rfl := Option.some.inj H0
    refine ret [] [.bool false] [] hf121 (by kernel_rfl) trivial ?_
    exact ⟨_, rfl, rfl, hm123⟩

/-! ### backstitch/kernel.Reshape -/
noncomputable def kernel_Reshape.f (x0 : Tensor) (x1 : (List Int)) : Option (Tensor × Int) :=
  (tensor_May.f x0).bind fun r37 =>
  if r37 = true then ((shape_Size.f x1).bind fun r48 =>
  if r48.2 = 0 then (if r48.1 = (x0.Data.length : Int) then ((tensor_Copy.f (⟨x1, x0.Data⟩ : Tensor)).bind fun r65 =>
  some (r65, 0))
  else (some ((⟨([] : (List Int)), ([] : (List Nat))⟩ : Tensor), 3)))
  else (some ((⟨([] : (List Int)), ([] : (List Nat))⟩ : Tensor), r48.2)))
  else (some ((⟨([] : (List Int)), ([] : (List Nat))⟩ : Tensor), 2))
set_option maxRecDepth 100000 in
set_option maxHeartbeats 4000000 in
theorem kernel_Reshape.calls (M : List (Option Nat)) (w0 : World) (x0 : Tensor) (A0_0 : Option Addr) (n0_0 c0_0 : Nat) (e0_0 : n0_0 = x0.Shape.length) (A0_1 : Option Addr) (n0_1 c0_1 : Nat) (e0_1 : n0_1 = x0.Data.length) (x1 : (List Int)) (A1 : Option Addr) (n1 c1 : Nat) (e1 : n1 = x1.length) (hm0 : Mem [] M w0 [.sl (Kd.int .i64) A0_0 c0_0 x0.Shape, .sl Kd.float A0_1 c0_1 x0.Data, .sl (Kd.int .i64) A1 c1 x1] w0) (r : (Tensor × Int)) (H0 : kernel_Reshape.f x0 x1 = some r) :
    Calls Try.prog 44 [.agg #[.slice A0_0 n0_0 c0_0, .slice A0_1 n0_1 c0_1], .slice A1 n1 c1].toArray w0 (fun x w' => ∃ v, x = .returned v ∧ ∃ Ar0_0 cr0_0 Ar0_1 cr0_1, v = .tuple #[.agg #[.slice Ar0_0 r.1.Shape.length cr0_0, .slice Ar0_1 r.1.Data.length cr0_1], .int .i64 r.2] ∧ Mem [] M w0 [.ow (Kd.int .i64) 3 Ar0_0 cr0_0 r.1.Shape, .ow Kd.float 44 Ar0_1 cr0_1 r.1.Data] w') := by
  subst e0_0
  subst e0_1
  subst e1
  unfold kernel_Reshape.f at H0
  refine enter (n := 34) Try.func44 rfl rfl (by kernel_rfl) fun a0 (hf0 : Fr 34 a0 [(0, .agg #[.slice A0_0 x0.Shape.length c0_0, .slice A0_1 x0.Data.length c0_1]), (1, .slice A1 x1.length c1)]) => ?_
  refine wp_seq ?_
  refine inReg ?_
  refine listOf hf0 rfl (by kernel_rfl) (aNew (cs := [.slice A0_0 x0.Shape.length c0_0, .slice A0_1 x0.Data.length c0_1]) (T := 28) (d := 2) hf0 (by kernel_rfl) (by kernel_rfl) ?_)
  intro b21 w22 a23 hbb21 hx25 hg26 hf24
  have hm27 := hm0.box hbb21 hx25 hg26
  refine listOf hf24 rfl (by kernel_rfl) (aNew (cs := [.slice none 0 0, .slice none 0 0]) (T := 28) (d := 4) hf24 (by kernel_rfl) (by kernel_rfl) ?_)
  intro b28 w29 a30 hbb28 hx32 hg33 hf31
  have hm34 := hm27.box hbb28 hx32 hg33
  refine go 1 [] [1, 2, 4] [(1, .slice A1 x1.length c1), (2, .pointer (some ⟨b21, 0, none⟩)), (4, .pointer (some ⟨b28, 0, none⟩))] [] hf31 (by kernel_rfl) trivial fun a35 hf36 => ?_
  refine endL rfl ?_
  refine thenN ?_
  refine wp_seq ?_
  refine wp_seq ?_
  obtain ⟨r37, hr37, H0⟩ := ob_split H0
  rcases ifb_split H0 with ⟨c38, H0⟩ | ⟨c38, H0⟩
  · refine inReg ?_
    refine go 1 [.agg #[.slice A0_0 x0.Shape.length c0_0, .slice A0_1 x0.Data.length c0_1]] [1, 2, 4, 8] [(1, .slice A1 x1.length c1), (2, .pointer (some ⟨b21, 0, none⟩)), (4, .pointer (some ⟨b28, 0, none⟩)), (8, .agg #[.slice A0_0 x0.Shape.length c0_0, .slice A0_1 x0.Data.length c0_1])] [.cell ⟨b21, 0, none⟩ (.slice A0_0 x0.Shape.length c0_0), .cell ⟨b21, 1, none⟩ (.slice A0_1 x0.Data.length c0_1)] hf36 (by kernel_rfl) ⟨(hm34.cell 1 rfl rfl), (hm34.cell 1 rfl rfl), trivial⟩ fun a39 hf40 => ?_
    refine listOf hf40 rfl (by kernel_rfl) (aCall (fid := 38) (args := [.agg #[.slice A0_0 x0.Shape.length c0_0, .slice A0_1 x0.Data.length c0_1]]) (d := 9) hf40 (by kernel_rfl) (by kernel_rfl) callable38 (tensor_May.calls _ _ x0 A0_0 x0.Shape.length c0_0 rfl A0_1 x0.Data.length c0_1 rfl (hm34.give [2, 3] [.sl (Kd.int .i64) A0_0 c0_0 x0.Shape, .sl Kd.float A0_1 c0_1 x0.Data] rfl rfl) r37 hr37) ?_)
    rintro _ w41 a42 ⟨rfl, hk44⟩ hf43
    have hm45 := hm34.still hk44.cum.none
    rw [c38] at hf43
    refine go 1 [] [1, 2, 4, 10] [(1, .slice A1 x1.length c1), (2, .pointer (some ⟨b21, 0, none⟩)), (4, .pointer (some ⟨b28, 0, none⟩)), (10, .bool false)] [] hf43 (by kernel_rfl) trivial fun a46 hf47 => ?_
    refine endL rfl ?_
    refine thenN ?_
    refine condF hf47 (by kernel_rfl) ?_
    refine wp_skip ?_
    refine thenN ?_
    refine wp_seq ?_
    obtain ⟨r48, hr48, H0⟩ := ob_split H0
    refine inReg ?_
    refine go 1 [] [1, 2, 4, 13] [(1, .slice A1 x1.length c1), (2, .pointer (some ⟨b21, 0, none⟩)), (4, .pointer (some ⟨b28, 0, none⟩)), (13, .slice A1 x1.length c1)] [] hf47 (by kernel_rfl) trivial fun a49 hf50 => ?_
    refine listOf hf50 rfl (by kernel_rfl) (aCall (fid := 53) (args := [.slice A1 x1.length c1]) (d := 14) hf50 (by kernel_rfl) (by kernel_rfl) callable53 (shape_Size.calls _ _ x1 A1 x1.length c1 rfl (hm45.give [4] [.sl (Kd.int .i64) A1 c1 x1] rfl rfl) r48 hr48) ?_)
    rintro _ w51 a52 ⟨rfl, hk54⟩ hf53
    have hm55 := hm45.still hk54.cum.none
    refine go 5 [] [1, 2, 4, 6, 7] [(1, .slice A1 x1.length c1), (2, .pointer (some ⟨b21, 0, none⟩)), (4, .pointer (some ⟨b28, 0, none⟩)), (6, .int .i64 r48.1), (7, .int .i64 r48.2)] [] hf53 (by kernel_rfl) trivial fun a56 hf57 => ?_
    refine endL rfl ?_
    refine thenN ?_
    refine wp_seq ?_
    refine wp_block ?_
    refine wp_seq ?_
    rcases if_split H0 with ⟨c58, H0⟩ | ⟨c58, H0⟩
    · refine reg [.bool false] [1, 2, 4, 6, 7, 17] [(1, .slice A1 x1.length c1), (2, .pointer (some ⟨b21, 0, none⟩)), (4, .pointer (some ⟨b28, 0, none⟩)), (6, .int .i64 r48.1), (7, .int .i64 r48.2), (17, .bool false)] [.is (((r48.2 : Int) != 0) = false)] hf57 (by kernel_rfl) ⟨(neF c58), trivial⟩ fun a59 hf60 => ?_
      refine thenN ?_
      refine condF hf60 (by kernel_rfl) ?_
      refine wp_seq ?_
      rcases if_split H0 with ⟨c61, H0⟩ | ⟨c61, H0⟩
      · refine reg [.slice A0_1 x0.Data.length c0_1, .bool false] [1, 2, 4, 22] [(1, .slice A1 x1.length c1), (2, .pointer (some ⟨b21, 0, none⟩)), (4, .pointer (some ⟨b28, 0, none⟩)), (22, .bool false)] [.cell ⟨b21, 1, none⟩ (.slice A0_1 x0.Data.length c0_1), .is (((r48.1 : Int) != (x0.Data.length : Int)) = false)] hf60 (by kernel_rfl) ⟨(hm55.cell 1 rfl rfl), (neF c61), trivial⟩ fun a62 hf63 => ?_
        refine thenN ?_
        refine condF hf63 (by kernel_rfl) ?_
        refine wp_skip ?_
        refine blkN ?_
        refine thenN ?_
        refine wp_seq ?_
        obtain ⟨r65, hr65, H0⟩ := ob_split H0
        refine inReg ?_
        refine go 4 [.slice A0_1 x0.Data.length c0_1] [4, 32] [(4, .pointer (some ⟨b28, 0, none⟩)), (32, .agg #[.slice A1 x1.length c1, .slice A0_1 x0.Data.length c0_1])] [.cell ⟨b21, 1, none⟩ (.slice A0_1 x0.Data.length c0_1)] hf63 (by kernel_rfl) ⟨(hm55.cell 1 rfl rfl), trivial⟩ fun a66 hf67 => ?_
        refine listOf hf67 rfl (by kernel_rfl) (aCall (fid := 49) (args := [.agg #[.slice A1 x1.length c1, .slice A0_1 x0.Data.length c0_1]]) (d := 33) hf67 (by kernel_rfl) (by kernel_rfl) callable49 (tensor_Copy.calls _ _ (⟨x1, x0.Data⟩ : Tensor) A1 x1.length c1 rfl A0_1 x0.Data.length c0_1 rfl (hm55.give [4, 3] [.sl (Kd.int .i64) A1 c1 x1, .sl Kd.float A0_1 c0_1 x0.Data] rfl rfl) r65 hr65) ?_)
        rintro _ w72 a73 ⟨A68, c69, A70, c71, rfl, hk75⟩ hf74
        have hm76 := hm55.back hk75
        refine listOf hf74 rfl (by kernel_rfl) (aStoreB (b := b28) (j := 0) (T := 28) (cs := [.slice none 0 0, .slice none 0 0]) (us := [.slice A68 r65.Shape.length c69, .slice A70 r65.Data.length c71]) (cs' := [.slice A68 r65.Shape.length c69, .slice A70 r65.Data.length c71]) hf74 (by kernel_rfl) (hm76.bxAt 2 rfl) (by kernel_rfl) (by kernel_rfl) (by kernel_rfl) ?_)
        intro w77 hx78 hg79
        have hm80 := hm76.setBox 2 _ rfl rfl hx78 hg79
        refine go 1 [] [4, 5] [(4, .pointer (some ⟨b28, 0, none⟩)), (5, .int .i64 0)] [] hf74 (by kernel_rfl) trivial fun a81 hf82 => ?_
        refine endL rfl ?_
        have hm83 := hm80.sel [0, 1, 2] _ rfl (by kernel_rfl)
        refine thenN ?_
        refine wp_ret ?_
        have hm84 : Mem [] M w0 [.ow (Kd.int .i64) 3 A68 c69 r65.Shape, .ow Kd.float 44 A70 c71 r65.Data] w77 := hm83.sel [0, 1] _ rfl (by kernel_rfl)
        obtain rfl := Option.some.inj H0
        refine ret [.agg #[.slice A68 r65.Shape.length c69, .slice A70 r65.Data.length c71]] [.agg #[.slice A68 r65.Shape.length c69, .slice A70 r65.Data.length c71], .int .i64 0] [.cell ⟨b28, 0, none⟩ (.slice A68 r65.Shape.length c69), .cell ⟨b28, 1, none⟩ (.slice A70 r65.Data.length c71)] hf82 (by kernel_rfl) ⟨(hm83.cell 2 rfl rfl), (hm83.cell 2 rfl rfl), trivial⟩ ?_
        exact ⟨_, rfl, A68, c69, A70, c71, rfl, hm84⟩
      · refine reg [.slice A0_1 x0.Data.length c0_1, .bool true] [1, 2, 4, 22] [(1, .slice A1 x1.length c1), (2, .pointer (some ⟨b21, 0, none⟩)), (4, .pointer (some ⟨b28, 0, none⟩)), (22, .bool true)] [.cell ⟨b21, 1, none⟩ (.slice A0_1 x0.Data.length c0_1), .is (((r48.1 : Int) != (x0.Data.length : Int)) = true)] hf60 (by kernel_rfl) ⟨(hm55.cell 1 rfl rfl), (neT c61), trivial⟩ fun a86 hf87 => ?_
        refine thenN ?_
        refine condT hf87 (by kernel_rfl) ?_
        refine wp_seq ?_
        refine inReg ?_
        refine go 1 [] [4, 28] [(4, .pointer (some ⟨b28, 0, none⟩)), (28, .agg #[.slice none 0 0, .slice none 0 0])] [] hf87 (by kernel_rfl) trivial fun a88 hf89 => ?_
        refine listOf hf89 rfl (by kernel_rfl) (aStoreB (b := b28) (j := 0) (T := 28) (cs := [.slice none 0 0, .slice none 0 0]) (us := [.slice none 0 0, .slice none 0 0]) (cs' := [.slice none 0 0, .slice none 0 0]) hf89 (by kernel_rfl) (hm55.bxAt 0 rfl) (by kernel_rfl) (by kernel_rfl) (by kernel_rfl) ?_)
        intro w90 hx91 hg92
        have hm93 := hm55.setBox 0 _ rfl rfl hx91 hg92
        refine go 1 [] [4, 5] [(4, .pointer (some ⟨b28, 0, none⟩)), (5, .int .i64 3)] [] hf89 (by kernel_rfl) trivial fun a94 hf95 => ?_
        refine endL rfl ?_
        have hm96 := hm93.sel [0] _ rfl (by kernel_rfl)
        refine thenN ?_
        refine wp_ret ?_
        refine blkR ?_
        refine thenR ?_
        have hm97 : Mem [] M w0 [.ow (Kd.int .i64) 3 none 0 ([] : (List Int)), .bx b28 [.slice none 0 0, .slice none 0 0] 28] w90 := hm96.nilOw (Kd.int .i64) 3
        have hm98 : Mem [] M w0 [.ow Kd.float 44 none 0 ([] : (List Nat)), .ow (Kd.int .i64) 3 none 0 ([] : (List Int)), .bx b28 [.slice none 0 0, .slice none 0 0] 28] w90 := hm97.nilOw Kd.float 44
        have hm99 : Mem [] M w0 [.ow (Kd.int .i64) 3 none 0 ([] : (List Int)), .ow Kd.float 44 none 0 ([] : (List Nat))] w90 := hm98.sel [1, 0] _ rfl (by kernel_rfl)
        obtain rfl := Option.some.inj H0
        refine ret [.agg #[.slice none 0 0, .slice none 0 0]] [.agg #[.slice none 0 0, .slice none 0 0], .int .i64 3] [.cell ⟨b28, 0, none⟩ (.slice none 0 0), .cell ⟨b28, 1, none⟩ (.slice none 0 0)] hf95 (by kernel_rfl) ⟨(hm96.cell 0 rfl rfl), (hm96.cell 0 rfl rfl), trivial⟩ ?_
        exact ⟨_, rfl, none, 0, none, 0, rfl, hm99⟩
    · refine reg [.bool true] [1, 2, 4, 6, 7, 17] [(1, .slice A1 x1.length c1), (2, .pointer (some ⟨b21, 0, none⟩)), (4, .pointer (some ⟨b28, 0, none⟩)), (6, .int .i64 r48.1), (7, .int .i64 r48.2), (17, .bool true)] [.is (((r48.2 : Int) != 0) = true)] hf57 (by kernel_rfl) ⟨(neT c58), trivial⟩ fun a101 hf102 => ?_
      refine thenN ?_
      refine condT hf102 (by kernel_rfl) ?_
      refine wp_seq ?_
      refine inReg ?_
      refine go 2 [] [4, 20, 21] [(4, .pointer (some ⟨b28, 0, none⟩)), (20, .agg #[.slice none 0 0, .slice none 0 0]), (21, .int .i64 r48.2)] [] hf102 (by kernel_rfl) trivial fun a103 hf104 => ?_
      refine listOf hf104 rfl (by kernel_rfl) (aStoreB (b := b28) (j := 0) (T := 28) (cs := [.slice none 0 0, .slice none 0 0]) (us := [.slice none 0 0, .slice none 0 0]) (cs' := [.slice none 0 0, .slice none 0 0]) hf104 (by kernel_rfl) (hm55.bxAt 0 rfl) (by kernel_rfl) (by kernel_rfl) (by kernel_rfl) ?_)
      intro w105 hx106 hg107
      have hm108 := hm55.setBox 0 _ rfl rfl hx106 hg107
      refine go 1 [] [4, 5] [(4, .pointer (some ⟨b28, 0, none⟩)), (5, .int .i64 r48.2)] [] hf104 (by kernel_rfl) trivial fun a109 hf110 => ?_
      refine endL rfl ?_
      have hm111 := hm108.sel [0] _ rfl (by kernel_rfl)
      refine thenN ?_
      refine wp_ret ?_
      refine blkR ?_
      refine thenR ?_
      have hm112 : Mem [] M w0 [.ow (Kd.int .i64) 3 none 0 ([] : (List Int)), .bx b28 [.slice none 0 0, .slice none 0 0] 28] w105 := hm111.nilOw (Kd.int .i64) 3
      have hm113 : Mem [] M w0 [.ow Kd.float 44 none 0 ([] : (List Nat)), .ow (Kd.int .i64) 3 none 0 ([] : (List Int)), .bx b28 [.slice none 0 0, .slice none 0 0] 28] w105 := hm112.nilOw Kd.float 44
      have hm114 : Mem [] M w0 [.ow (Kd.int .i64) 3 none 0 ([] : (List Int)), .ow Kd.float 44 none 0 ([] : (List Nat))] w105 := hm113.sel [1, 0] _ rfl (by kernel_rfl)
      obtain rfl := Option.some.inj H0
      refine ret [.agg #[.slice none 0 0, .slice none 0 0]] [.agg #[.slice none 0 0, .slice none 0 0], .int .i64 r48.2] [.cell ⟨b28, 0, none⟩ (.slice none 0 0), .cell ⟨b28, 1, none⟩ (.slice none 0 0)] hf110 (by kernel_rfl) ⟨(hm111.cell 0 rfl rfl), (hm111.cell 0 rfl rfl), trivial⟩ ?_
      exact ⟨_, rfl, none, 0, none, 0, rfl, hm114⟩
  · refine inReg ?_
    refine go 1 [.agg #[.slice A0_0 x0.Shape.length c0_0, .slice A0_1 x0.Data.length c0_1]] [1, 2, 4, 8] [(1, .slice A1 x1.length c1), (2, .pointer (some ⟨b21, 0, none⟩)), (4, .pointer (some ⟨b28, 0, none⟩)), (8, .agg #[.slice A0_0 x0.Shape.length c0_0, .slice A0_1 x0.Data.length c0_1])] [.cell ⟨b21, 0, none⟩ (.slice A0_0 x0.Shape.length c0_0), .cell ⟨b21, 1, none⟩ (.slice A0_1 x0.Data.length c0_1)] hf36 (by kernel_rfl) ⟨(hm34.cell 1 rfl rfl), (hm34.cell 1 rfl rfl), trivial⟩ fun a116 hf117 => ?_
    refine listOf hf117 rfl (by kernel_rfl) (aCall (fid := 38) (args := [.agg #[.slice A0_0 x0.Shape.length c0_0, .slice A0_1 x0.Data.length c0_1]]) (d := 9) hf117 (by kernel_rfl) (by kernel_rfl) callable38 (tensor_May.calls _ _ x0 A0_0 x0.Shape.length c0_0 rfl A0_1 x0.Data.length c0_1 rfl (hm34.give [2, 3] [.sl (Kd.int .i64) A0_0 c0_0 x0.Shape, .sl Kd.float A0_1 c0_1 x0.Data] rfl rfl) r37 hr37) ?_)
    rintro _ w118 a119 ⟨rfl, hk121⟩ hf120
    have hm122 := hm34.still hk121.cum.none
    rw [c38] at hf120
    refine go 1 [] [1, 2, 4, 10] [(1, .slice A1 x1.length c1), (2, .pointer (some ⟨b21, 0, none⟩)), (4, .pointer (some ⟨b28, 0, none⟩)), (10, .bool true)] [] hf120 (by kernel_rfl) trivial fun a123 hf124 => ?_
    refine endL rfl ?_
    refine thenN ?_
    refine condT hf124 (by kernel_rfl) ?_
    refine wp_seq ?_
    refine inReg ?_
    refine go 1 [] [4, 11] [(4, .pointer (some ⟨b28, 0, none⟩)), (11, .agg #[.slice none 0 0, .slice none 0 0])] [] hf124 (by kernel_rfl) trivial fun a125 hf126 => ?_
    refine listOf hf126 rfl (by kernel_rfl) (aStoreB (b := b28) (j := 0) (T := 28) (cs := [.slice none 0 0, .slice none 0 0]) (us := [.slice none 0 0, .slice none 0 0]) (cs' := [.slice none 0 0, .slice none 0 0]) hf126 (by kernel_rfl) (hm122.bxAt 0 rfl) (by kernel_rfl) (by kernel_rfl) (by kernel_rfl) ?_)
    intro w127 hx128 hg129
    have hm130 := hm122.setBox 0 _ rfl rfl hx128 hg129
    refine go 1 [] [4, 5] [(4, .pointer (some ⟨b28, 0, none⟩)), (5, .int .i64 2)] [] hf126 (by kernel_rfl) trivial fun a131 hf132 => ?_
    refine endL rfl ?_
    have hm133 := hm130.sel [0] _ rfl (by kernel_rfl)
    refine thenN ?_
    refine wp_ret ?_
    refine thenR ?_
    have hm134 : Mem [] M w0 [.ow (Kd.int .i64) 3 none 0 ([] : (List Int)), .bx b28 [.slice none 0 0, .slice none 0 0] 28] w127 := hm133.nilOw (Kd.int .i64) 3
    have hm135 : Mem [] M w0 [.ow Kd.float 44 none 0 ([] : (List Nat)), .ow (Kd.int .i64) 3 none 0 ([] : (List Int)), .bx b28 [.slice none 0 0, .slice none 0 0] 28] w127 := hm134.nilOw Kd.float 44
    have hm136 : Mem [] M w0 [.ow (Kd.int .i64) 3 none 0 ([] : (List Int)), .ow Kd.float 44 none 0 ([] : (List Nat))] w127 := hm135.sel [1, 0] _ rfl (by kernel_rfl)
    obtain rfl := Option.some.inj H0
    refine ret [.agg #[.slice none 0 0, .slice none 0 0]] [.agg #[.slice none 0 0, .slice none 0 0], .int .i64 2] [.cell ⟨b28, 0, none⟩ (.slice none 0 0), .cell ⟨b28, 1, none⟩ (.slice none 0 0)] hf132 (by kernel_rfl) ⟨(hm133.cell 0 rfl rfl), (hm133.cell 0 rfl rfl), trivial⟩ ?_
    exact ⟨_, rfl, none, 0, none, 0, rfl, hm136⟩

/-! ### backstitch/shape.Into -/
noncomputable def shape_Into.f (x0 : (List Int)) (x1 : (List Int)) : Option Bool :=
  (shape_Spread.f x0 x1).bind fun r23 =>
  if r23.2 = 0 then ((shape_Same.f r23.1 x1).bind fun r38 =>
  some r38)
  else (some false)
set_option maxRecDepth 100000 in
set_option maxHeartbeats 4000000 in
theorem shape_Into.calls (M : List (Option Nat)) (w0 : World) (x0 : (List Int)) (A0 : Option Addr) (n0 c0 : Nat) (e0 : n0 = x0.length) (x1 : (List Int)) (A1 : Option Addr) (n1 c1 : Nat) (e1 : n1 = x1.length) (hm0 : Mem [] M w0 [.sl (Kd.int .i64) A0 c0 x0, .sl (Kd.int .i64) A1 c1 x1] w0) (r : Bool) (H0 : shape_Into.f x0 x1 = some r) :
    Calls Try.prog 74 [.slice A0 n0 c0, .slice A1 n1 c1].toArray w0 (fun x w' => ∃ v, x = .returned v ∧ v = .bool r ∧ Mem [] M w0 [] w') := by
  subst e0
  subst e1
  unfold shape_Into.f at H0
  refine enter (n := 20) Try.func74 rfl rfl (by kernel_rfl) fun a0 (hf0 : Fr 20 a0 [(0, .slice A0 x0.length c0), (1, .slice A1 x1.length c1)]) => ?_
  refine wp_seq ?_
  refine reg [] [0, 1] [(0, .slice A0 x0.length c0), (1, .slice A1 x1.length c1)] [] hf0 (by kernel_rfl) trivial fun a21 hf22 => ?_
  refine thenN ?_
  refine wp_seq ?_
  obtain ⟨r23, hr23, H0⟩ := ob_split H0
  refine inReg ?_
  refine go 2 [] [1, 8, 9] [(1, .slice A1 x1.length c1), (8, .slice A0 x0.length c0), (9, .slice A1 x1.length c1)] [] hf22 (by kernel_rfl) trivial fun a24 hf25 => ?_
  refine listOf hf25 rfl (by kernel_rfl) (aCall (fid := 71) (args := [.slice A0 x0.length c0, .slice A1 x1.length c1]) (d := 10) hf25 (by kernel_rfl) (by kernel_rfl) callable71 (shape_Spread.calls _ _ x0 A0 x0.length c0 rfl x1 A1 x1.length c1 rfl (hm0.give [0, 1] [.sl (Kd.int .i64) A0 c0 x0, .sl (Kd.int .i64) A1 c1 x1] rfl rfl) r23 hr23) ?_)
  rintro _ w28 a29 ⟨A26, c27, rfl, hk31⟩ hf30
  have hm32 := hm0.back hk31
  have hm33 := hm32.seal 0 _ rfl rfl
  refine go 5 [] [1, 5, 6] [(1, .slice A1 x1.length c1), (5, .slice A26 r23.1.length c27), (6, .int .i64 r23.2)] [] hf30 (by kernel_rfl) trivial fun a34 hf35 => ?_
  refine endL rfl ?_
  have hm36 := hm33.sel [0, 2] _ rfl (by kernel_rfl)
  refine thenN ?_
  refine wp_seq ?_
  rcases if_split H0 with ⟨c37, H0⟩ | ⟨c37, H0⟩
  · obtain ⟨r38, hr38, H0⟩ := ob_split H0
    refine inReg ?_
    refine go 5 [.bool true] [15, 16, 17] [(15, .bool true), (16, .slice A26 r23.1.length c27), (17, .slice A1 x1.length c1)] [.is (((r23.2 : Int) == 0) = true)] hf35 (by kernel_rfl) ⟨(eqT c37), trivial⟩ fun a39 hf40 => ?_
    refine listOf hf40 rfl (by kernel_rfl) (aCall (fid := 48) (args := [.slice A26 r23.1.length c27, .slice A1 x1.length c1]) (d := 18) hf40 (by kernel_rfl) (by kernel_rfl) callable48 (shape_Same.calls _ _ r23.1 A26 r23.1.length c27 rfl x1 A1 x1.length c1 rfl (hm36.give [0, 1] [.sl (Kd.int .i64) A26 c27 r23.1, .sl (Kd.int .i64) A1 c1 x1] rfl rfl) r38 hr38) ?_)
    rintro _ w41 a42 ⟨rfl, hk44⟩ hf43
    have hm45 := hm36.still hk44.cum.none
    refine go 2 [] [4] [(4, .bool r38)] [] hf43 (by kernel_rfl) trivial fun a46 hf47 => ?_
    refine endL rfl ?_
    have hm48 := hm45.sel [] _ rfl (by kernel_rfl)
    refine thenN ?_
    refine wp_ret ?_
    have hm49 : Mem [] M w0 [] w41 := hm48.sel [] _ rfl (by kernel_rfl)
    obtain rfl := Option.some.inj H0
    refine ret [] [.bool r38] [] hf47 (by kernel_rfl) trivial ?_
    exact ⟨_, rfl, rfl, hm49⟩
  · refine reg [.bool false] [4] [(4, .bool false)] [.is (((r23.2 : Int) == 0) = false)] hf35 (by kernel_rfl) ⟨(eqF c37), trivial⟩ fun a51 hf52 => ?_
    have hm53 := hm36.sel [] _ rfl (by kernel_rfl)
    refine thenN ?_
    refine wp_ret ?_
    have hm54 : Mem [] M w0 [] w28 := hm53.sel [] _ rfl (by kernel_rfl)
    obtain rfl := Option.some.inj H0
    refine ret [] [.bool false] [] hf52 (by kernel_rfl) trivial ?_
    exact ⟨_, rfl, rfl, hm54⟩
end Go.Proofs.Ytkcgiolledmbnab
