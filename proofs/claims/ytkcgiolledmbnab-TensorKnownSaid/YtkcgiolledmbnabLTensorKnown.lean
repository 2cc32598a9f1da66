/- Printed by gen.py. -/
import Derived.Test.YtkcgiolledmbnabF1
import Derived.Test.YtkcgiolledmbnabF12
import Derived.Test.YtkcgiolledmbnabF13
import Derived.Test.YtkcgiolledmbnabF14
import Derived.Test.YtkcgiolledmbnabF3
namespace Go.Proofs.Ytkcgiolledmbnab
open Go Go.RowKit
set_option linter.unusedSimpArgs false
set_option linter.unusedVariables false
set_option linter.unnecessarySimpa false
/-! ### backstitch/backstitchlaw3.TensorKnown -/
noncomputable def law3_TensorKnown.f  : Option Bool :=
  (law3_awake.f).bind fun r23 =>
  if r23 = true then ((tensor_Of.f ([2, 3] : List Int) ([4607182418800017408, 4611686018427387904, 4613937818241073152, 4616189618054758400, 4617315517961601024, 4618441417868443648] : List Nat)).bind fun r50 =>
  if r50.2 = 0 then (if (0 : Int) ≤ 0 ∧ 0 < (6 : Int) then (if (0 : Int) ≤ 0 ∧ 0 < (2 : Int) then ((tensor_At.f r50.1 ([0, 0] : List Int)).bind fun r103 =>
  (tensor_At.f r50.1 ([1, 2] : List Int)).bind fun r122 =>
  (tensor_At.f r50.1 ([2, 0] : List Int)).bind fun r141 =>
  (tensor_At.f r50.1 ([0] : List Int)).bind fun r160 =>
  (tensor_New.f ([0] : List Int) 4607182418800017408).bind fun r179 =>
  (tensor_Of.f ([2] : List Int) ([4607182418800017408] : List Nat)).bind fun r214 =>
  (tensor_Of.f ([100, 100] : List Int) ([] : (List Nat))).bind fun r256 =>
  (tensor_New.f ([] : (List Int)) 4617315517961601024).bind fun r292 =>
  if r103.2 = true then (if (feq r103.1 4607182418800017408) = true then (if r122.2 = true then (if (feq r122.1 4618441417868443648) = true then (if r141.2 = true then (some false)
  else (if r160.2 = true then (some false)
  else (if r179.2 = 2 then (if r214.2 = 1 then (if r256.2 = 3 then (if r292.2 = 0 then (if (r292.1.Data.length : Int) = 1 then ((tensor_May.f r292.1).bind fun r342 =>
  if r342 = true then ((tensor_May.f (⟨([] : (List Int)), ([] : (List Nat))⟩ : Tensor)).bind fun r344 =>
  if r344 = true then (some false)
  else ((math_Inf.f (-1)).bind fun r367 =>
  (tensor_Finite.f (⟨([1] : List Int), ([r367] : List Nat)⟩ : Tensor)).bind fun r368 =>
  if r368 = true then (some false)
  else (some true)))
  else (some false))
  else (some false))
  else (some false))
  else (some false))
  else (some false))
  else (some false))))
  else (some false))
  else (some false))
  else (some false))
  else (some false))
  else none)
  else none)
  else (some false))
  else (some false)
set_option maxRecDepth 100000 in
set_option maxHeartbeats 4000000 in
theorem law3_TensorKnown.calls (M : List (Option Nat)) (w0 : World)  (hm0 : Mem [] M w0 [] w0) (r : Bool) (H0 : law3_TensorKnown.f = some r) :
    Calls Try.prog 10 [].toArray w0 (fun x w' => ∃ v, x = .returned v ∧ v = .bool r ∧ Mem [] M w0 [] w') := by
  unfold law3_TensorKnown.f at H0
  refine enter (n := 140) Try.func10 rfl rfl (by kernel_rfl) fun a0 (hf0 : Fr 140 a0 []) => ?_
  refine wp_seq ?_
  refine reg [] [] [] [] hf0 (by kernel_rfl) trivial fun a21 hf22 => ?_
  refine thenN ?_
  refine wp_seq ?_
  refine wp_seq ?_
  obtain ⟨r23, hr23, H0⟩ := ob_split H0
  rcases ifb_split H0 with ⟨c24, H0⟩ | ⟨c24, H0⟩
  · refine inReg ?_
    refine listOf hf22 rfl (by kernel_rfl) (aCall (fid := 26) (args := []) (d := 21) hf22 (by kernel_rfl) (by kernel_rfl) callable26 (law3_awake.calls _ _  (hm0.give [] [] rfl rfl) r23 hr23) ?_)
    rintro _ w25 a26 ⟨rfl, hk28⟩ hf27
    have hm29 := hm0.still hk28.cum.none
    rw [c24] at hf27
    refine go 1 [] [22] [(22, .bool false)] [] hf27 (by kernel_rfl) trivial fun a30 hf31 => ?_
    refine endL rfl ?_
    refine thenN ?_
    refine condF hf31 (by kernel_rfl) ?_
    refine wp_skip ?_
    refine thenN ?_
    refine wp_seq ?_
    refine inReg ?_
    refine listOf hf31 rfl (by kernel_rfl) (aLit (cs := [.float .f64 4607182418800017408, .float .f64 4611686018427387904, .float .f64 4613937818241073152, .float .f64 4616189618054758400, .float .f64 4617315517961601024, .float .f64 4618441417868443648]) (E := 44) (len := 6) (d := 23) hf31 (by kernel_rfl) (by kernel_rfl) ?_)
    intro b32 w33 a34 hbb32 hx36 hg37 hf35
    have hm38 : Mem [] M w0 [.ow Kd.float 44 (some ⟨b32, 0, none⟩) 6 ([4607182418800017408, 4611686018427387904, 4613937818241073152, 4616189618054758400, 4617315517961601024, 4618441417868443648] : List Nat)] w33 := Mem.litOwn (kd := Kd.float) (xs := ([4607182418800017408, 4611686018427387904, 4613937818241073152, 4616189618054758400, 4617315517961601024, 4618441417868443648] : List Nat)) hm29 hbb32 hx36 hg37 (Els.append (Els.one (kd := Kd.float) (us := [.float .f64 4607182418800017408]) (x := 4607182418800017408) ⟨_, rfl, (FR.lit (by kernel_rfl) (by kernel_rfl))⟩) (Els.append (Els.one (kd := Kd.float) (us := [.float .f64 4611686018427387904]) (x := 4611686018427387904) ⟨_, rfl, (FR.lit (by kernel_rfl) (by kernel_rfl))⟩) (Els.append (Els.one (kd := Kd.float) (us := [.float .f64 4613937818241073152]) (x := 4613937818241073152) ⟨_, rfl, (FR.lit (by kernel_rfl) (by kernel_rfl))⟩) (Els.append (Els.one (kd := Kd.float) (us := [.float .f64 4616189618054758400]) (x := 4616189618054758400) ⟨_, rfl, (FR.lit (by kernel_rfl) (by kernel_rfl))⟩) (Els.append (Els.one (kd := Kd.float) (us := [.float .f64 4617315517961601024]) (x := 4617315517961601024) ⟨_, rfl, (FR.lit (by kernel_rfl) (by kernel_rfl))⟩) (Els.one (kd := Kd.float) (us := [.float .f64 4618441417868443648]) (x := 4618441417868443648) ⟨_, rfl, (FR.lit (by kernel_rfl) (by kernel_rfl))⟩)))))) (by simp [maxLen])
    refine go 1 [] [1] [(1, .slice (some ⟨b32, 0, none⟩) 6 6)] [] hf35 (by kernel_rfl) trivial fun a39 hf40 => ?_
    refine endL rfl ?_
    refine thenN ?_
    refine wp_seq ?_
    refine inReg ?_
    refine listOf hf40 rfl (by kernel_rfl) (aLit (cs := [.int .i64 2, .int .i64 3]) (E := 3) (len := 2) (d := 24) hf40 (by kernel_rfl) (by kernel_rfl) ?_)
    intro b41 w42 a43 hbb41 hx45 hg46 hf44
    have hm47 : Mem [] M w0 [.ow (Kd.int .i64) 3 (some ⟨b41, 0, none⟩) 2 ([2, 3] : List Int), .ow Kd.float 44 (some ⟨b32, 0, none⟩) 6 ([4607182418800017408, 4611686018427387904, 4613937818241073152, 4616189618054758400, 4617315517961601024, 4618441417868443648] : List Nat)] w42 := Mem.litOwn (kd := (Kd.int .i64)) (xs := ([2, 3] : List Int)) hm38 hbb41 hx45 hg46 (Els.append (Els.one (kd := (Kd.int .i64)) (us := [.int .i64 2]) (x := 2) rfl) (Els.one (kd := (Kd.int .i64)) (us := [.int .i64 3]) (x := 3) rfl)) (by simp [maxLen])
    refine go 1 [] [1, 2] [(1, .slice (some ⟨b32, 0, none⟩) 6 6), (2, .slice (some ⟨b41, 0, none⟩) 2 2)] [] hf44 (by kernel_rfl) trivial fun a48 hf49 => ?_
    refine endL rfl ?_
    refine thenN ?_
    refine wp_seq ?_
    obtain ⟨r50, hr50, H0⟩ := ob_split H0
    refine inReg ?_
    refine go 2 [] [1, 2, 26, 27] [(1, .slice (some ⟨b32, 0, none⟩) 6 6), (2, .slice (some ⟨b41, 0, none⟩) 2 2), (26, .slice (some ⟨b41, 0, none⟩) 2 2), (27, .slice (some ⟨b32, 0, none⟩) 6 6)] [] hf49 (by kernel_rfl) trivial fun a51 hf52 => ?_
    have hm53 : Mem [] M w0 [.sl (Kd.int .i64) (some ⟨b41, 0, none⟩) 2 ([2, 3] : List Int), .ow Kd.float 44 (some ⟨b32, 0, none⟩) 6 ([4607182418800017408, 4611686018427387904, 4613937818241073152, 4616189618054758400, 4617315517961601024, 4618441417868443648] : List Nat)] w42 := hm47.seal 0 _ rfl rfl
    have hm54 : Mem [] M w0 [.sl (Kd.int .i64) (some ⟨b41, 0, none⟩) 2 ([2, 3] : List Int), .sl Kd.float (some ⟨b32, 0, none⟩) 6 ([4607182418800017408, 4611686018427387904, 4613937818241073152, 4616189618054758400, 4617315517961601024, 4618441417868443648] : List Nat)] w42 := hm53.seal 1 _ rfl rfl
    refine listOf hf52 rfl (by kernel_rfl) (aCall (fid := 29) (args := [.slice (some ⟨b41, 0, none⟩) 2 2, .slice (some ⟨b32, 0, none⟩) 6 6]) (d := 28) hf52 (by kernel_rfl) (by kernel_rfl) callable29 (tensor_Of.calls _ _ ([2, 3] : List Int) (some ⟨b41, 0, none⟩) 2 2 rfl ([4607182418800017408, 4611686018427387904, 4613937818241073152, 4616189618054758400, 4617315517961601024, 4618441417868443648] : List Nat) (some ⟨b32, 0, none⟩) 6 6 rfl (hm54.give [0, 1] [.sl (Kd.int .i64) (some ⟨b41, 0, none⟩) 2 ([2, 3] : List Int), .sl Kd.float (some ⟨b32, 0, none⟩) 6 ([4607182418800017408, 4611686018427387904, 4613937818241073152, 4616189618054758400, 4617315517961601024, 4618441417868443648] : List Nat)] rfl rfl) r50 hr50) ?_)
    rintro _ w59 a60 ⟨A55, c56, A57, c58, rfl, hk62⟩ hf61
    have hm63 : Mem [] M w0 [.ow (Kd.int .i64) 3 A55 c56 r50.1.Shape, .ow Kd.float 44 A57 c58 r50.1.Data, .ow (Kd.int .i64) 3 (some ⟨b41, 0, none⟩) 2 ([2, 3] : List Int), .ow Kd.float 44 (some ⟨b32, 0, none⟩) 6 ([4607182418800017408, 4611686018427387904, 4613937818241073152, 4616189618054758400, 4617315517961601024, 4618441417868443648] : List Nat)] w59 := hm47.backF hk62 ⟨Kd.flat_int _, Kd.flat_float, trivial⟩
    have hm65 : Mem [] M w0 [.sl (Kd.int .i64) A55 c56 r50.1.Shape, .ow Kd.float 44 A57 c58 r50.1.Data, .ow (Kd.int .i64) 3 (some ⟨b41, 0, none⟩) 2 ([2, 3] : List Int), .ow Kd.float 44 (some ⟨b32, 0, none⟩) 6 ([4607182418800017408, 4611686018427387904, 4613937818241073152, 4616189618054758400, 4617315517961601024, 4618441417868443648] : List Nat)] w59 := hm63.seal 0 _ rfl rfl
    have hm66 : Mem [] M w0 [.sl (Kd.int .i64) A55 c56 r50.1.Shape, .sl Kd.float A57 c58 r50.1.Data, .ow (Kd.int .i64) 3 (some ⟨b41, 0, none⟩) 2 ([2, 3] : List Int), .ow Kd.float 44 (some ⟨b32, 0, none⟩) 6 ([4607182418800017408, 4611686018427387904, 4613937818241073152, 4616189618054758400, 4617315517961601024, 4618441417868443648] : List Nat)] w59 := hm65.seal 1 _ rfl rfl
    refine go 3 [] [1, 2, 29, 30] [(1, .slice (some ⟨b32, 0, none⟩) 6 6), (2, .slice (some ⟨b41, 0, none⟩) 2 2), (29, .agg #[.slice A55 r50.1.Shape.length c56, .slice A57 r50.1.Data.length c58]), (30, .int .i64 r50.2)] [] hf61 (by kernel_rfl) trivial fun a67 hf68 => ?_
    refine listOf hf68 rfl (by kernel_rfl) (aNew (cs := [.slice none 0 0, .slice none 0 0]) (T := 28) (d := 3) hf68 (by kernel_rfl) (by kernel_rfl) ?_)
    intro b69 w70 a71 hbb69 hx73 hg74 hf72
    have hm75 : Mem [] M w0 [.bx b69 [.slice none 0 0, .slice none 0 0] 28, .sl (Kd.int .i64) A55 c56 r50.1.Shape, .sl Kd.float A57 c58 r50.1.Data, .ow (Kd.int .i64) 3 (some ⟨b41, 0, none⟩) 2 ([2, 3] : List Int), .ow Kd.float 44 (some ⟨b32, 0, none⟩) 6 ([4607182418800017408, 4611686018427387904, 4613937818241073152, 4616189618054758400, 4617315517961601024, 4618441417868443648] : List Nat)] w70 := hm66.box hbb69 hx73 hg74
    refine listOf hf72 rfl (by kernel_rfl) (aStoreB (b := b69) (j := 0) (T := 28) (cs := [.slice none 0 0, .slice none 0 0]) (us := [.slice A55 r50.1.Shape.length c56, .slice A57 r50.1.Data.length c58]) (cs' := [.slice A55 r50.1.Shape.length c56, .slice A57 r50.1.Data.length c58]) hf72 (by kernel_rfl) (hm75.bxAt 0 rfl) (by kernel_rfl) (by kernel_rfl) (by kernel_rfl) ?_)
    intro w76 hx77 hg78
    have hm79 : Mem [] M w0 [.bx b69 [.slice A55 r50.1.Shape.length c56, .slice A57 r50.1.Data.length c58] 28, .sl (Kd.int .i64) A55 c56 r50.1.Shape, .sl Kd.float A57 c58 r50.1.Data, .ow (Kd.int .i64) 3 (some ⟨b41, 0, none⟩) 2 ([2, 3] : List Int), .ow Kd.float 44 (some ⟨b32, 0, none⟩) 6 ([4607182418800017408, 4611686018427387904, 4613937818241073152, 4616189618054758400, 4617315517961601024, 4618441417868443648] : List Nat)] w76 := hm75.setBox 0 _ rfl rfl hx77 hg78
    refine go 1 [] [1, 2, 3, 4] [(1, .slice (some ⟨b32, 0, none⟩) 6 6), (2, .slice (some ⟨b41, 0, none⟩) 2 2), (3, .pointer (some ⟨b69, 0, none⟩)), (4, .int .i64 r50.2)] [] hf72 (by kernel_rfl) trivial fun a80 hf81 => ?_
    refine endL rfl ?_
    refine thenN ?_
    refine wp_seq ?_
    refine wp_seq ?_
    rcases if_split H0 with ⟨c82, H0⟩ | ⟨c82, H0⟩
    · refine reg [.bool false] [1, 2, 3, 32] [(1, .slice (some ⟨b32, 0, none⟩) 6 6), (2, .slice (some ⟨b41, 0, none⟩) 2 2), (3, .pointer (some ⟨b69, 0, none⟩)), (32, .bool false)] [.is (((r50.2 : Int) != 0) = false)] hf81 (by kernel_rfl) ⟨(neF c82), trivial⟩ fun a83 hf84 => ?_
      refine thenN ?_
      refine condF hf84 (by kernel_rfl) ?_
      refine wp_skip ?_
      refine thenN ?_
      refine wp_seq ?_
      obtain ⟨g85, H0⟩ := if_guard H0
      obtain ⟨g86, H0⟩ := if_guard H0
      have q87 := (hm79.owAt 4 rfl).float 0 g85.1 g85.2
      obtain ⟨b88, hb88, kb88⟩ := q87.2
      refine inReg ?_
      refine go 3 [] [3, 34, 35] [(3, .pointer (some ⟨b69, 0, none⟩)), (34, .slice (some ⟨b41, 0, none⟩) 2 2), (35, .pointer (some ((ad ((some ⟨b32, 0, none⟩))).add ((0 : Int).toNat * 1))))] [.is (Option.isSome ((some ⟨b32, 0, none⟩) : Option Addr) = true), .is ((0 : Int) ≤ 0 ∧ 0 < (6 : Int))] hf84 (by kernel_rfl) ⟨q87.1, g85, trivial⟩ fun a89 hf90 => ?_
      refine listOf hf90 rfl (by kernel_rfl) (aStoreO (kd := Kd.float) (base := 0) (E := 44) (A := (some ⟨b32, 0, none⟩)) (c := 6) (xs := ([4607182418800017408, 4611686018427387904, 4613937818241073152, 4616189618054758400, 4617315517961601024, 4618441417868443648] : List Nat)) (i := 0) (x := 4621256167635550208) (us := [.float .f64 4621256167635550208]) (sz := 1) hf90 (by kernel_rfl) rfl (by kernel_rfl) (hm79.at 4 rfl) ⟨_, rfl, (FR.lit (by kernel_rfl) (by kernel_rfl))⟩ g85.1 g85.2 ?_)
      intro w91 hx92 hg93
      have hm94 : Mem [] M w0 [.bx b69 [.slice A55 r50.1.Shape.length c56, .slice A57 r50.1.Data.length c58] 28, .sl (Kd.int .i64) A55 c56 r50.1.Shape, .sl Kd.float A57 c58 r50.1.Data, .ow (Kd.int .i64) 3 (some ⟨b41, 0, none⟩) 2 ([2, 3] : List Int), .ow Kd.float 44 (some ⟨b32, 0, none⟩) 6 (put ([4607182418800017408, 4611686018427387904, 4613937818241073152, 4616189618054758400, 4617315517961601024, 4618441417868443648] : List Nat) 0 4621256167635550208)] w91 := hm79.setOwn 4 _ rfl rfl hx92 hg93 (.inl rfl)
      have q95 := (hm94.owAt 3 rfl).int 0 g86.1 g86.2
      refine go 1 [] [3, 36] [(3, .pointer (some ⟨b69, 0, none⟩)), (36, .pointer (some ((ad ((some ⟨b41, 0, none⟩))).add ((0 : Int).toNat * 1))))] [.is (Option.isSome ((some ⟨b41, 0, none⟩) : Option Addr) = true), .is ((0 : Int) ≤ 0 ∧ 0 < (2 : Int))] hf90 (by kernel_rfl) ⟨q95.1, g86, trivial⟩ fun a96 hf97 => ?_
      refine listOf hf97 rfl (by kernel_rfl) (aStoreO (kd := (Kd.int .i64)) (base := 0) (E := 3) (A := (some ⟨b41, 0, none⟩)) (c := 2) (xs := ([2, 3] : List Int)) (i := 0) (x := 9) (us := [.int .i64 9]) (sz := 1) hf97 (by kernel_rfl) rfl (by kernel_rfl) (hm94.at 3 rfl) rfl g86.1 g86.2 ?_)
      intro w98 hx99 hg100
      have hm101 : Mem [] M w0 [.bx b69 [.slice A55 r50.1.Shape.length c56, .slice A57 r50.1.Data.length c58] 28, .sl (Kd.int .i64) A55 c56 r50.1.Shape, .sl Kd.float A57 c58 r50.1.Data, .ow (Kd.int .i64) 3 (some ⟨b41, 0, none⟩) 2 (put ([2, 3] : List Int) 0 9), .ow Kd.float 44 (some ⟨b32, 0, none⟩) 6 (put ([4607182418800017408, 4611686018427387904, 4613937818241073152, 4616189618054758400, 4617315517961601024, 4618441417868443648] : List Nat) 0 4621256167635550208)] w98 := hm94.setOwn 3 _ rfl rfl hx99 hg100 (.inl rfl)
      refine endL rfl ?_
      have hm102 : Mem [] M w0 [.bx b69 [.slice A55 r50.1.Shape.length c56, .slice A57 r50.1.Data.length c58] 28, .sl (Kd.int .i64) A55 c56 r50.1.Shape, .sl Kd.float A57 c58 r50.1.Data] w98 := hm101.sel [0, 1, 2] _ rfl (by kernel_rfl)
      refine thenN ?_
      refine wp_seq ?_
      obtain ⟨r103, hr103, H0⟩ := ob_split H0
      refine inReg ?_
      refine go 1 [.agg #[.slice A55 r50.1.Shape.length c56, .slice A57 r50.1.Data.length c58]] [3, 38] [(3, .pointer (some ⟨b69, 0, none⟩)), (38, .agg #[.slice A55 r50.1.Shape.length c56, .slice A57 r50.1.Data.length c58])] [.cell ⟨b69, 0, none⟩ (.slice A55 r50.1.Shape.length c56), .cell ⟨b69, 1, none⟩ (.slice A57 r50.1.Data.length c58)] hf97 (by kernel_rfl) ⟨(hm102.cell 0 rfl rfl), (hm102.cell 0 rfl rfl), trivial⟩ fun a104 hf105 => ?_
      refine listOf hf105 rfl (by kernel_rfl) (aLit (cs := [.int .i64 0, .int .i64 0]) (E := 3) (len := 2) (d := 39) hf105 (by kernel_rfl) (by kernel_rfl) ?_)
      intro b106 w107 a108 hbb106 hx110 hg111 hf109
      have hm102s := hm102.still hg111
      have hm112 : Mem [] M w0 [.sl (Kd.int .i64) (some ⟨b106, 0, none⟩) 2 ([0, 0] : List Int), .bx b69 [.slice A55 r50.1.Shape.length c56, .slice A57 r50.1.Data.length c58] 28, .sl (Kd.int .i64) A55 c56 r50.1.Shape, .sl Kd.float A57 c58 r50.1.Data] w107 := Mem.lit (kd := (Kd.int .i64)) (xs := ([0, 0] : List Int)) hm102 hbb106 hx110 hg111 (Els.append (Els.one (kd := (Kd.int .i64)) (us := [.int .i64 0]) (x := 0) rfl) (Els.one (kd := (Kd.int .i64)) (us := [.int .i64 0]) (x := 0) rfl))
      refine listOf hf109 rfl (by kernel_rfl) (aCall (fid := 33) (args := [.agg #[.slice A55 r50.1.Shape.length c56, .slice A57 r50.1.Data.length c58], .slice (some ⟨b106, 0, none⟩) 2 2]) (d := 40) hf109 (by kernel_rfl) (by kernel_rfl) callable33 (tensor_At.calls _ _ r50.1 A55 r50.1.Shape.length c56 rfl A57 r50.1.Data.length c58 rfl ([0, 0] : List Int) (some ⟨b106, 0, none⟩) 2 2 rfl (hm112.give [2, 3, 0] [.sl (Kd.int .i64) A55 c56 r50.1.Shape, .sl Kd.float A57 c58 r50.1.Data, .sl (Kd.int .i64) (some ⟨b106, 0, none⟩) 2 ([0, 0] : List Int)] rfl rfl) r103 hr103) ?_)
      rintro _ w114 a115 ⟨b113, rfl, hb113, hk117⟩ hf116
      have hm118 := hm112.still hk117.cum.none
      refine go 5 [] [3, 5, 6] [(3, .pointer (some ⟨b69, 0, none⟩)), (5, .float .f64 b113), (6, .bool r103.2)] [] hf116 (by kernel_rfl) trivial fun a119 hf120 => ?_
      refine endL rfl ?_
      have hm121 : Mem [] M w0 [.bx b69 [.slice A55 r50.1.Shape.length c56, .slice A57 r50.1.Data.length c58] 28, .sl (Kd.int .i64) A55 c56 r50.1.Shape, .sl Kd.float A57 c58 r50.1.Data] w114 := hm118.sel [1, 2, 3] _ rfl (by kernel_rfl)
      refine thenN ?_
      refine wp_seq ?_
      obtain ⟨r122, hr122, H0⟩ := ob_split H0
      refine inReg ?_
      refine go 1 [.agg #[.slice A55 r50.1.Shape.length c56, .slice A57 r50.1.Data.length c58]] [3, 5, 6, 44] [(3, .pointer (some ⟨b69, 0, none⟩)), (5, .float .f64 b113), (6, .bool r103.2), (44, .agg #[.slice A55 r50.1.Shape.length c56, .slice A57 r50.1.Data.length c58])] [.cell ⟨b69, 0, none⟩ (.slice A55 r50.1.Shape.length c56), .cell ⟨b69, 1, none⟩ (.slice A57 r50.1.Data.length c58)] hf120 (by kernel_rfl) ⟨(hm121.cell 0 rfl rfl), (hm121.cell 0 rfl rfl), trivial⟩ fun a123 hf124 => ?_
      refine listOf hf124 rfl (by kernel_rfl) (aLit (cs := [.int .i64 1, .int .i64 2]) (E := 3) (len := 2) (d := 45) hf124 (by kernel_rfl) (by kernel_rfl) ?_)
      intro b125 w126 a127 hbb125 hx129 hg130 hf128
      have hm121s := hm121.still hg130
      have hm131 : Mem [] M w0 [.sl (Kd.int .i64) (some ⟨b125, 0, none⟩) 2 ([1, 2] : List Int), .bx b69 [.slice A55 r50.1.Shape.length c56, .slice A57 r50.1.Data.length c58] 28, .sl (Kd.int .i64) A55 c56 r50.1.Shape, .sl Kd.float A57 c58 r50.1.Data] w126 := Mem.lit (kd := (Kd.int .i64)) (xs := ([1, 2] : List Int)) hm121 hbb125 hx129 hg130 (Els.append (Els.one (kd := (Kd.int .i64)) (us := [.int .i64 1]) (x := 1) rfl) (Els.one (kd := (Kd.int .i64)) (us := [.int .i64 2]) (x := 2) rfl))
      refine listOf hf128 rfl (by kernel_rfl) (aCall (fid := 33) (args := [.agg #[.slice A55 r50.1.Shape.length c56, .slice A57 r50.1.Data.length c58], .slice (some ⟨b125, 0, none⟩) 2 2]) (d := 46) hf128 (by kernel_rfl) (by kernel_rfl) callable33 (tensor_At.calls _ _ r50.1 A55 r50.1.Shape.length c56 rfl A57 r50.1.Data.length c58 rfl ([1, 2] : List Int) (some ⟨b125, 0, none⟩) 2 2 rfl (hm131.give [2, 3, 0] [.sl (Kd.int .i64) A55 c56 r50.1.Shape, .sl Kd.float A57 c58 r50.1.Data, .sl (Kd.int .i64) (some ⟨b125, 0, none⟩) 2 ([1, 2] : List Int)] rfl rfl) r122 hr122) ?_)
      rintro _ w133 a134 ⟨b132, rfl, hb132, hk136⟩ hf135
      have hm137 := hm131.still hk136.cum.none
      refine go 5 [] [3, 5, 6, 7, 8] [(3, .pointer (some ⟨b69, 0, none⟩)), (5, .float .f64 b113), (6, .bool r103.2), (7, .float .f64 b132), (8, .bool r122.2)] [] hf135 (by kernel_rfl) trivial fun a138 hf139 => ?_
      refine endL rfl ?_
      have hm140 : Mem [] M w0 [.bx b69 [.slice A55 r50.1.Shape.length c56, .slice A57 r50.1.Data.length c58] 28, .sl (Kd.int .i64) A55 c56 r50.1.Shape, .sl Kd.float A57 c58 r50.1.Data] w133 := hm137.sel [1, 2, 3] _ rfl (by kernel_rfl)
      refine thenN ?_
      refine wp_seq ?_
      obtain ⟨r141, hr141, H0⟩ := ob_split H0
      refine inReg ?_
      refine go 1 [.agg #[.slice A55 r50.1.Shape.length c56, .slice A57 r50.1.Data.length c58]] [3, 5, 6, 7, 8, 50] [(3, .pointer (some ⟨b69, 0, none⟩)), (5, .float .f64 b113), (6, .bool r103.2), (7, .float .f64 b132), (8, .bool r122.2), (50, .agg #[.slice A55 r50.1.Shape.length c56, .slice A57 r50.1.Data.length c58])] [.cell ⟨b69, 0, none⟩ (.slice A55 r50.1.Shape.length c56), .cell ⟨b69, 1, none⟩ (.slice A57 r50.1.Data.length c58)] hf139 (by kernel_rfl) ⟨(hm140.cell 0 rfl rfl), (hm140.cell 0 rfl rfl), trivial⟩ fun a142 hf143 => ?_
      refine listOf hf143 rfl (by kernel_rfl) (aLit (cs := [.int .i64 2, .int .i64 0]) (E := 3) (len := 2) (d := 51) hf143 (by kernel_rfl) (by kernel_rfl) ?_)
      intro b144 w145 a146 hbb144 hx148 hg149 hf147
      have hm140s := hm140.still hg149
      have hm150 : Mem [] M w0 [.sl (Kd.int .i64) (some ⟨b144, 0, none⟩) 2 ([2, 0] : List Int), .bx b69 [.slice A55 r50.1.Shape.length c56, .slice A57 r50.1.Data.length c58] 28, .sl (Kd.int .i64) A55 c56 r50.1.Shape, .sl Kd.float A57 c58 r50.1.Data] w145 := Mem.lit (kd := (Kd.int .i64)) (xs := ([2, 0] : List Int)) hm140 hbb144 hx148 hg149 (Els.append (Els.one (kd := (Kd.int .i64)) (us := [.int .i64 2]) (x := 2) rfl) (Els.one (kd := (Kd.int .i64)) (us := [.int .i64 0]) (x := 0) rfl))
      refine listOf hf147 rfl (by kernel_rfl) (aCall (fid := 33) (args := [.agg #[.slice A55 r50.1.Shape.length c56, .slice A57 r50.1.Data.length c58], .slice (some ⟨b144, 0, none⟩) 2 2]) (d := 52) hf147 (by kernel_rfl) (by kernel_rfl) callable33 (tensor_At.calls _ _ r50.1 A55 r50.1.Shape.length c56 rfl A57 r50.1.Data.length c58 rfl ([2, 0] : List Int) (some ⟨b144, 0, none⟩) 2 2 rfl (hm150.give [2, 3, 0] [.sl (Kd.int .i64) A55 c56 r50.1.Shape, .sl Kd.float A57 c58 r50.1.Data, .sl (Kd.int .i64) (some ⟨b144, 0, none⟩) 2 ([2, 0] : List Int)] rfl rfl) r141 hr141) ?_)
      rintro _ w152 a153 ⟨b151, rfl, hb151, hk155⟩ hf154
      have hm156 := hm150.still hk155.cum.none
      refine go 5 [] [3, 5, 6, 7, 8, 10] [(3, .pointer (some ⟨b69, 0, none⟩)), (5, .float .f64 b113), (6, .bool r103.2), (7, .float .f64 b132), (8, .bool r122.2), (10, .bool r141.2)] [] hf154 (by kernel_rfl) trivial fun a157 hf158 => ?_
      refine endL rfl ?_
      have hm159 : Mem [] M w0 [.bx b69 [.slice A55 r50.1.Shape.length c56, .slice A57 r50.1.Data.length c58] 28, .sl (Kd.int .i64) A55 c56 r50.1.Shape, .sl Kd.float A57 c58 r50.1.Data] w152 := hm156.sel [1, 2, 3] _ rfl (by kernel_rfl)
      refine thenN ?_
      refine wp_seq ?_
      obtain ⟨r160, hr160, H0⟩ := ob_split H0
      refine inReg ?_
      refine go 1 [.agg #[.slice A55 r50.1.Shape.length c56, .slice A57 r50.1.Data.length c58]] [5, 6, 7, 8, 10, 56] [(5, .float .f64 b113), (6, .bool r103.2), (7, .float .f64 b132), (8, .bool r122.2), (10, .bool r141.2), (56, .agg #[.slice A55 r50.1.Shape.length c56, .slice A57 r50.1.Data.length c58])] [.cell ⟨b69, 0, none⟩ (.slice A55 r50.1.Shape.length c56), .cell ⟨b69, 1, none⟩ (.slice A57 r50.1.Data.length c58)] hf158 (by kernel_rfl) ⟨(hm159.cell 0 rfl rfl), (hm159.cell 0 rfl rfl), trivial⟩ fun a161 hf162 => ?_
      refine listOf hf162 rfl (by kernel_rfl) (aLit (cs := [.int .i64 0]) (E := 3) (len := 1) (d := 57) hf162 (by kernel_rfl) (by kernel_rfl) ?_)
      intro b163 w164 a165 hbb163 hx167 hg168 hf166
      have hm159s := hm159.still hg168
      have hm169 : Mem [] M w0 [.sl (Kd.int .i64) (some ⟨b163, 0, none⟩) 1 ([0] : List Int), .bx b69 [.slice A55 r50.1.Shape.length c56, .slice A57 r50.1.Data.length c58] 28, .sl (Kd.int .i64) A55 c56 r50.1.Shape, .sl Kd.float A57 c58 r50.1.Data] w164 := Mem.lit (kd := (Kd.int .i64)) (xs := ([0] : List Int)) hm159 hbb163 hx167 hg168 (Els.one (kd := (Kd.int .i64)) (us := [.int .i64 0]) (x := 0) rfl)
      refine listOf hf166 rfl (by kernel_rfl) (aCall (fid := 33) (args := [.agg #[.slice A55 r50.1.Shape.length c56, .slice A57 r50.1.Data.length c58], .slice (some ⟨b163, 0, none⟩) 1 1]) (d := 58) hf166 (by kernel_rfl) (by kernel_rfl) callable33 (tensor_At.calls _ _ r50.1 A55 r50.1.Shape.length c56 rfl A57 r50.1.Data.length c58 rfl ([0] : List Int) (some ⟨b163, 0, none⟩) 1 1 rfl (hm169.give [2, 3, 0] [.sl (Kd.int .i64) A55 c56 r50.1.Shape, .sl Kd.float A57 c58 r50.1.Data, .sl (Kd.int .i64) (some ⟨b163, 0, none⟩) 1 ([0] : List Int)] rfl rfl) r160 hr160) ?_)
      rintro _ w171 a172 ⟨b170, rfl, hb170, hk174⟩ hf173
      have hm175 := hm169.still hk174.cum.none
      refine go 5 [] [5, 6, 7, 8, 10, 12] [(5, .float .f64 b113), (6, .bool r103.2), (7, .float .f64 b132), (8, .bool r122.2), (10, .bool r141.2), (12, .bool r160.2)] [] hf173 (by kernel_rfl) trivial fun a176 hf177 => ?_
      refine endL rfl ?_
      have hm178 : Mem [] M w0 [] w171 := hm175.sel [] _ rfl (by kernel_rfl)
      refine thenN ?_
      refine wp_seq ?_
      obtain ⟨r179, hr179, H0⟩ := ob_split H0
      refine inReg ?_
      refine listOf hf177 rfl (by kernel_rfl) (aLit (cs := [.int .i64 0]) (E := 3) (len := 1) (d := 62) hf177 (by kernel_rfl) (by kernel_rfl) ?_)
      intro b180 w181 a182 hbb180 hx184 hg185 hf183
      have hm178s := hm178.still hg185
      have hm186 : Mem [] M w0 [.sl (Kd.int .i64) (some ⟨b180, 0, none⟩) 1 ([0] : List Int)] w181 := Mem.lit (kd := (Kd.int .i64)) (xs := ([0] : List Int)) hm178 hbb180 hx184 hg185 (Els.one (kd := (Kd.int .i64)) (us := [.int .i64 0]) (x := 0) rfl)
      refine listOf hf183 rfl (by kernel_rfl) (aCall (fid := 27) (args := [.slice (some ⟨b180, 0, none⟩) 1 1, .float .f64 4607182418800017408]) (d := 63) hf183 (by kernel_rfl) (by kernel_rfl) callable27 (tensor_New.calls _ _ ([0] : List Int) (some ⟨b180, 0, none⟩) 1 1 rfl 4607182418800017408 4607182418800017408 ((FR.lit (by kernel_rfl) (by kernel_rfl))) (hm186.give [0] [.sl (Kd.int .i64) (some ⟨b180, 0, none⟩) 1 ([0] : List Int)] rfl rfl) r179 hr179) ?_)
      rintro _ w191 a192 ⟨A187, c188, A189, c190, rfl, hk194⟩ hf193
      have hm195 : Mem [] M w0 [.ow (Kd.int .i64) 3 A187 c188 r179.1.Shape, .ow Kd.float 44 A189 c190 r179.1.Data, .sl (Kd.int .i64) (some ⟨b180, 0, none⟩) 1 ([0] : List Int)] w191 := hm186.back hk194
      have hm196 : Mem [] M w0 [.sl (Kd.int .i64) A187 c188 r179.1.Shape, .ow Kd.float 44 A189 c190 r179.1.Data, .sl (Kd.int .i64) (some ⟨b180, 0, none⟩) 1 ([0] : List Int)] w191 := hm195.seal 0 _ rfl rfl
      have hm197 : Mem [] M w0 [.sl (Kd.int .i64) A187 c188 r179.1.Shape, .sl Kd.float A189 c190 r179.1.Data, .sl (Kd.int .i64) (some ⟨b180, 0, none⟩) 1 ([0] : List Int)] w191 := hm196.seal 1 _ rfl rfl
      refine go 3 [] [5, 6, 7, 8, 10, 12, 64, 65] [(5, .float .f64 b113), (6, .bool r103.2), (7, .float .f64 b132), (8, .bool r122.2), (10, .bool r141.2), (12, .bool r160.2), (64, .agg #[.slice A187 r179.1.Shape.length c188, .slice A189 r179.1.Data.length c190]), (65, .int .i64 r179.2)] [] hf193 (by kernel_rfl) trivial fun a198 hf199 => ?_
      refine listOf hf199 rfl (by kernel_rfl) (aNew (cs := [.slice none 0 0, .slice none 0 0]) (T := 28) (d := 13) hf199 (by kernel_rfl) (by kernel_rfl) ?_)
      intro b200 w201 a202 hbb200 hx204 hg205 hf203
      have hm206 : Mem [] M w0 [.bx b200 [.slice none 0 0, .slice none 0 0] 28, .sl (Kd.int .i64) A187 c188 r179.1.Shape, .sl Kd.float A189 c190 r179.1.Data, .sl (Kd.int .i64) (some ⟨b180, 0, none⟩) 1 ([0] : List Int)] w201 := hm197.box hbb200 hx204 hg205
      refine listOf hf203 rfl (by kernel_rfl) (aStoreB (b := b200) (j := 0) (T := 28) (cs := [.slice none 0 0, .slice none 0 0]) (us := [.slice A187 r179.1.Shape.length c188, .slice A189 r179.1.Data.length c190]) (cs' := [.slice A187 r179.1.Shape.length c188, .slice A189 r179.1.Data.length c190]) hf203 (by kernel_rfl) (hm206.bxAt 0 rfl) (by kernel_rfl) (by kernel_rfl) (by kernel_rfl) ?_)
      intro w207 hx208 hg209
      have hm210 : Mem [] M w0 [.bx b200 [.slice A187 r179.1.Shape.length c188, .slice A189 r179.1.Data.length c190] 28, .sl (Kd.int .i64) A187 c188 r179.1.Shape, .sl Kd.float A189 c190 r179.1.Data, .sl (Kd.int .i64) (some ⟨b180, 0, none⟩) 1 ([0] : List Int)] w207 := hm206.setBox 0 _ rfl rfl hx208 hg209
      refine go 1 [] [5, 6, 7, 8, 10, 12, 14] [(5, .float .f64 b113), (6, .bool r103.2), (7, .float .f64 b132), (8, .bool r122.2), (10, .bool r141.2), (12, .bool r160.2), (14, .int .i64 r179.2)] [] hf203 (by kernel_rfl) trivial fun a211 hf212 => ?_
      refine endL rfl ?_
      have hm213 : Mem [] M w0 [] w207 := hm210.sel [] _ rfl (by kernel_rfl)
      refine thenN ?_
      refine wp_seq ?_
      obtain ⟨r214, hr214, H0⟩ := ob_split H0
      refine inReg ?_
      refine listOf hf212 rfl (by kernel_rfl) (aLit (cs := [.int .i64 2]) (E := 3) (len := 1) (d := 67) hf212 (by kernel_rfl) (by kernel_rfl) ?_)
      intro b215 w216 a217 hbb215 hx219 hg220 hf218
      have hm213s := hm213.still hg220
      have hm221 : Mem [] M w0 [.sl (Kd.int .i64) (some ⟨b215, 0, none⟩) 1 ([2] : List Int)] w216 := Mem.lit (kd := (Kd.int .i64)) (xs := ([2] : List Int)) hm213 hbb215 hx219 hg220 (Els.one (kd := (Kd.int .i64)) (us := [.int .i64 2]) (x := 2) rfl)
      refine listOf hf218 rfl (by kernel_rfl) (aLit (cs := [.float .f64 4607182418800017408]) (E := 44) (len := 1) (d := 68) hf218 (by kernel_rfl) (by kernel_rfl) ?_)
      intro b222 w223 a224 hbb222 hx226 hg227 hf225
      have hm221s := hm221.still hg227
      have hm228 : Mem [] M w0 [.sl Kd.float (some ⟨b222, 0, none⟩) 1 ([4607182418800017408] : List Nat), .sl (Kd.int .i64) (some ⟨b215, 0, none⟩) 1 ([2] : List Int)] w223 := Mem.lit (kd := Kd.float) (xs := ([4607182418800017408] : List Nat)) hm221 hbb222 hx226 hg227 (Els.one (kd := Kd.float) (us := [.float .f64 4607182418800017408]) (x := 4607182418800017408) ⟨_, rfl, (FR.lit (by kernel_rfl) (by kernel_rfl))⟩)
      refine listOf hf225 rfl (by kernel_rfl) (aCall (fid := 29) (args := [.slice (some ⟨b215, 0, none⟩) 1 1, .slice (some ⟨b222, 0, none⟩) 1 1]) (d := 69) hf225 (by kernel_rfl) (by kernel_rfl) callable29 (tensor_Of.calls _ _ ([2] : List Int) (some ⟨b215, 0, none⟩) 1 1 rfl ([4607182418800017408] : List Nat) (some ⟨b222, 0, none⟩) 1 1 rfl (hm228.give [1, 0] [.sl (Kd.int .i64) (some ⟨b215, 0, none⟩) 1 ([2] : List Int), .sl Kd.float (some ⟨b222, 0, none⟩) 1 ([4607182418800017408] : List Nat)] rfl rfl) r214 hr214) ?_)
      rintro _ w233 a234 ⟨A229, c230, A231, c232, rfl, hk236⟩ hf235
      have hm237 : Mem [] M w0 [.ow (Kd.int .i64) 3 A229 c230 r214.1.Shape, .ow Kd.float 44 A231 c232 r214.1.Data, .sl Kd.float (some ⟨b222, 0, none⟩) 1 ([4607182418800017408] : List Nat), .sl (Kd.int .i64) (some ⟨b215, 0, none⟩) 1 ([2] : List Int)] w233 := hm228.back hk236
      have hm238 : Mem [] M w0 [.sl (Kd.int .i64) A229 c230 r214.1.Shape, .ow Kd.float 44 A231 c232 r214.1.Data, .sl Kd.float (some ⟨b222, 0, none⟩) 1 ([4607182418800017408] : List Nat), .sl (Kd.int .i64) (some ⟨b215, 0, none⟩) 1 ([2] : List Int)] w233 := hm237.seal 0 _ rfl rfl
      have hm239 : Mem [] M w0 [.sl (Kd.int .i64) A229 c230 r214.1.Shape, .sl Kd.float A231 c232 r214.1.Data, .sl Kd.float (some ⟨b222, 0, none⟩) 1 ([4607182418800017408] : List Nat), .sl (Kd.int .i64) (some ⟨b215, 0, none⟩) 1 ([2] : List Int)] w233 := hm238.seal 1 _ rfl rfl
      refine go 3 [] [5, 6, 7, 8, 10, 12, 14, 70, 71] [(5, .float .f64 b113), (6, .bool r103.2), (7, .float .f64 b132), (8, .bool r122.2), (10, .bool r141.2), (12, .bool r160.2), (14, .int .i64 r179.2), (70, .agg #[.slice A229 r214.1.Shape.length c230, .slice A231 r214.1.Data.length c232]), (71, .int .i64 r214.2)] [] hf235 (by kernel_rfl) trivial fun a240 hf241 => ?_
      refine listOf hf241 rfl (by kernel_rfl) (aNew (cs := [.slice none 0 0, .slice none 0 0]) (T := 28) (d := 15) hf241 (by kernel_rfl) (by kernel_rfl) ?_)
      intro b242 w243 a244 hbb242 hx246 hg247 hf245
      have hm248 : Mem [] M w0 [.bx b242 [.slice none 0 0, .slice none 0 0] 28, .sl (Kd.int .i64) A229 c230 r214.1.Shape, .sl Kd.float A231 c232 r214.1.Data, .sl Kd.float (some ⟨b222, 0, none⟩) 1 ([4607182418800017408] : List Nat), .sl (Kd.int .i64) (some ⟨b215, 0, none⟩) 1 ([2] : List Int)] w243 := hm239.box hbb242 hx246 hg247
      refine listOf hf245 rfl (by kernel_rfl) (aStoreB (b := b242) (j := 0) (T := 28) (cs := [.slice none 0 0, .slice none 0 0]) (us := [.slice A229 r214.1.Shape.length c230, .slice A231 r214.1.Data.length c232]) (cs' := [.slice A229 r214.1.Shape.length c230, .slice A231 r214.1.Data.length c232]) hf245 (by kernel_rfl) (hm248.bxAt 0 rfl) (by kernel_rfl) (by kernel_rfl) (by kernel_rfl) ?_)
      intro w249 hx250 hg251
      have hm252 : Mem [] M w0 [.bx b242 [.slice A229 r214.1.Shape.length c230, .slice A231 r214.1.Data.length c232] 28, .sl (Kd.int .i64) A229 c230 r214.1.Shape, .sl Kd.float A231 c232 r214.1.Data, .sl Kd.float (some ⟨b222, 0, none⟩) 1 ([4607182418800017408] : List Nat), .sl (Kd.int .i64) (some ⟨b215, 0, none⟩) 1 ([2] : List Int)] w249 := hm248.setBox 0 _ rfl rfl hx250 hg251
      refine go 1 [] [5, 6, 7, 8, 10, 12, 14, 16] [(5, .float .f64 b113), (6, .bool r103.2), (7, .float .f64 b132), (8, .bool r122.2), (10, .bool r141.2), (12, .bool r160.2), (14, .int .i64 r179.2), (16, .int .i64 r214.2)] [] hf245 (by kernel_rfl) trivial fun a253 hf254 => ?_
      refine endL rfl ?_
      have hm255 : Mem [] M w0 [] w249 := hm252.sel [] _ rfl (by kernel_rfl)
      refine thenN ?_
      refine wp_seq ?_
      obtain ⟨r256, hr256, H0⟩ := ob_split H0
      refine inReg ?_
      refine listOf hf254 rfl (by kernel_rfl) (aLit (cs := [.int .i64 100, .int .i64 100]) (E := 3) (len := 2) (d := 73) hf254 (by kernel_rfl) (by kernel_rfl) ?_)
      intro b257 w258 a259 hbb257 hx261 hg262 hf260
      have hm255s := hm255.still hg262
      have hm263 : Mem [] M w0 [.sl (Kd.int .i64) (some ⟨b257, 0, none⟩) 2 ([100, 100] : List Int)] w258 := Mem.lit (kd := (Kd.int .i64)) (xs := ([100, 100] : List Int)) hm255 hbb257 hx261 hg262 (Els.append (Els.one (kd := (Kd.int .i64)) (us := [.int .i64 100]) (x := 100) rfl) (Els.one (kd := (Kd.int .i64)) (us := [.int .i64 100]) (x := 100) rfl))
      have hm264 : Mem [] M w0 [.sl Kd.float none 0 ([] : (List Nat)), .sl (Kd.int .i64) (some ⟨b257, 0, none⟩) 2 ([100, 100] : List Int)] w258 := hm263.nilSl Kd.float
      refine listOf hf260 rfl (by kernel_rfl) (aCall (fid := 29) (args := [.slice (some ⟨b257, 0, none⟩) 2 2, .slice none 0 0]) (d := 74) hf260 (by kernel_rfl) (by kernel_rfl) callable29 (tensor_Of.calls _ _ ([100, 100] : List Int) (some ⟨b257, 0, none⟩) 2 2 rfl ([] : (List Nat)) none 0 0 rfl (hm264.give [1, 0] [.sl (Kd.int .i64) (some ⟨b257, 0, none⟩) 2 ([100, 100] : List Int), .sl Kd.float none 0 ([] : (List Nat))] rfl rfl) r256 hr256) ?_)
      rintro _ w269 a270 ⟨A265, c266, A267, c268, rfl, hk272⟩ hf271
      have hm273 : Mem [] M w0 [.ow (Kd.int .i64) 3 A265 c266 r256.1.Shape, .ow Kd.float 44 A267 c268 r256.1.Data, .sl Kd.float none 0 ([] : (List Nat)), .sl (Kd.int .i64) (some ⟨b257, 0, none⟩) 2 ([100, 100] : List Int)] w269 := hm264.back hk272
      have hm274 : Mem [] M w0 [.sl (Kd.int .i64) A265 c266 r256.1.Shape, .ow Kd.float 44 A267 c268 r256.1.Data, .sl Kd.float none 0 ([] : (List Nat)), .sl (Kd.int .i64) (some ⟨b257, 0, none⟩) 2 ([100, 100] : List Int)] w269 := hm273.seal 0 _ rfl rfl
      have hm275 : Mem [] M w0 [.sl (Kd.int .i64) A265 c266 r256.1.Shape, .sl Kd.float A267 c268 r256.1.Data, .sl Kd.float none 0 ([] : (List Nat)), .sl (Kd.int .i64) (some ⟨b257, 0, none⟩) 2 ([100, 100] : List Int)] w269 := hm274.seal 1 _ rfl rfl
      refine go 3 [] [5, 6, 7, 8, 10, 12, 14, 16, 75, 76] [(5, .float .f64 b113), (6, .bool r103.2), (7, .float .f64 b132), (8, .bool r122.2), (10, .bool r141.2), (12, .bool r160.2), (14, .int .i64 r179.2), (16, .int .i64 r214.2), (75, .agg #[.slice A265 r256.1.Shape.length c266, .slice A267 r256.1.Data.length c268]), (76, .int .i64 r256.2)] [] hf271 (by kernel_rfl) trivial fun a276 hf277 => ?_
      refine listOf hf277 rfl (by kernel_rfl) (aNew (cs := [.slice none 0 0, .slice none 0 0]) (T := 28) (d := 17) hf277 (by kernel_rfl) (by kernel_rfl) ?_)
      intro b278 w279 a280 hbb278 hx282 hg283 hf281
      have hm284 : Mem [] M w0 [.bx b278 [.slice none 0 0, .slice none 0 0] 28, .sl (Kd.int .i64) A265 c266 r256.1.Shape, .sl Kd.float A267 c268 r256.1.Data, .sl Kd.float none 0 ([] : (List Nat)), .sl (Kd.int .i64) (some ⟨b257, 0, none⟩) 2 ([100, 100] : List Int)] w279 := hm275.box hbb278 hx282 hg283
      refine listOf hf281 rfl (by kernel_rfl) (aStoreB (b := b278) (j := 0) (T := 28) (cs := [.slice none 0 0, .slice none 0 0]) (us := [.slice A265 r256.1.Shape.length c266, .slice A267 r256.1.Data.length c268]) (cs' := [.slice A265 r256.1.Shape.length c266, .slice A267 r256.1.Data.length c268]) hf281 (by kernel_rfl) (hm284.bxAt 0 rfl) (by kernel_rfl) (by kernel_rfl) (by kernel_rfl) ?_)
      intro w285 hx286 hg287
      have hm288 : Mem [] M w0 [.bx b278 [.slice A265 r256.1.Shape.length c266, .slice A267 r256.1.Data.length c268] 28, .sl (Kd.int .i64) A265 c266 r256.1.Shape, .sl Kd.float A267 c268 r256.1.Data, .sl Kd.float none 0 ([] : (List Nat)), .sl (Kd.int .i64) (some ⟨b257, 0, none⟩) 2 ([100, 100] : List Int)] w285 := hm284.setBox 0 _ rfl rfl hx286 hg287
      refine go 1 [] [5, 6, 7, 8, 10, 12, 14, 16, 18] [(5, .float .f64 b113), (6, .bool r103.2), (7, .float .f64 b132), (8, .bool r122.2), (10, .bool r141.2), (12, .bool r160.2), (14, .int .i64 r179.2), (16, .int .i64 r214.2), (18, .int .i64 r256.2)] [] hf281 (by kernel_rfl) trivial fun a289 hf290 => ?_
      refine endL rfl ?_
      have hm291 : Mem [] M w0 [] w285 := hm288.sel [] _ rfl (by kernel_rfl)
      refine thenN ?_
      refine wp_seq ?_
      obtain ⟨r292, hr292, H0⟩ := ob_split H0
      refine inReg ?_
      have hm293 : Mem [] M w0 [.sl (Kd.int .i64) none 0 ([] : (List Int))] w285 := hm291.nilSl (Kd.int .i64)
      refine listOf hf290 rfl (by kernel_rfl) (aCall (fid := 27) (args := [.slice none 0 0, .float .f64 4617315517961601024]) (d := 78) hf290 (by kernel_rfl) (by kernel_rfl) callable27 (tensor_New.calls _ _ ([] : (List Int)) none 0 0 rfl 4617315517961601024 4617315517961601024 ((FR.lit (by kernel_rfl) (by kernel_rfl))) (hm293.give [0] [.sl (Kd.int .i64) none 0 ([] : (List Int))] rfl rfl) r292 hr292) ?_)
      rintro _ w298 a299 ⟨A294, c295, A296, c297, rfl, hk301⟩ hf300
      have hm302 : Mem [] M w0 [.ow (Kd.int .i64) 3 A294 c295 r292.1.Shape, .ow Kd.float 44 A296 c297 r292.1.Data, .sl (Kd.int .i64) none 0 ([] : (List Int))] w298 := hm293.back hk301
      have hm303 : Mem [] M w0 [.sl (Kd.int .i64) A294 c295 r292.1.Shape, .ow Kd.float 44 A296 c297 r292.1.Data, .sl (Kd.int .i64) none 0 ([] : (List Int))] w298 := hm302.seal 0 _ rfl rfl
      have hm304 : Mem [] M w0 [.sl (Kd.int .i64) A294 c295 r292.1.Shape, .sl Kd.float A296 c297 r292.1.Data, .sl (Kd.int .i64) none 0 ([] : (List Int))] w298 := hm303.seal 1 _ rfl rfl
      refine go 3 [] [5, 6, 7, 8, 10, 12, 14, 16, 18, 79, 80] [(5, .float .f64 b113), (6, .bool r103.2), (7, .float .f64 b132), (8, .bool r122.2), (10, .bool r141.2), (12, .bool r160.2), (14, .int .i64 r179.2), (16, .int .i64 r214.2), (18, .int .i64 r256.2), (79, .agg #[.slice A294 r292.1.Shape.length c295, .slice A296 r292.1.Data.length c297]), (80, .int .i64 r292.2)] [] hf300 (by kernel_rfl) trivial fun a305 hf306 => ?_
      refine listOf hf306 rfl (by kernel_rfl) (aNew (cs := [.slice none 0 0, .slice none 0 0]) (T := 28) (d := 19) hf306 (by kernel_rfl) (by kernel_rfl) ?_)
      intro b307 w308 a309 hbb307 hx311 hg312 hf310
      have hm313 : Mem [] M w0 [.bx b307 [.slice none 0 0, .slice none 0 0] 28, .sl (Kd.int .i64) A294 c295 r292.1.Shape, .sl Kd.float A296 c297 r292.1.Data, .sl (Kd.int .i64) none 0 ([] : (List Int))] w308 := hm304.box hbb307 hx311 hg312
      refine listOf hf310 rfl (by kernel_rfl) (aStoreB (b := b307) (j := 0) (T := 28) (cs := [.slice none 0 0, .slice none 0 0]) (us := [.slice A294 r292.1.Shape.length c295, .slice A296 r292.1.Data.length c297]) (cs' := [.slice A294 r292.1.Shape.length c295, .slice A296 r292.1.Data.length c297]) hf310 (by kernel_rfl) (hm313.bxAt 0 rfl) (by kernel_rfl) (by kernel_rfl) (by kernel_rfl) ?_)
      intro w314 hx315 hg316
      have hm317 : Mem [] M w0 [.bx b307 [.slice A294 r292.1.Shape.length c295, .slice A296 r292.1.Data.length c297] 28, .sl (Kd.int .i64) A294 c295 r292.1.Shape, .sl Kd.float A296 c297 r292.1.Data, .sl (Kd.int .i64) none 0 ([] : (List Int))] w314 := hm313.setBox 0 _ rfl rfl hx315 hg316
      refine go 1 [] [5, 6, 7, 8, 10, 12, 14, 16, 18, 19, 20] [(5, .float .f64 b113), (6, .bool r103.2), (7, .float .f64 b132), (8, .bool r122.2), (10, .bool r141.2), (12, .bool r160.2), (14, .int .i64 r179.2), (16, .int .i64 r214.2), (18, .int .i64 r256.2), (19, .pointer (some ⟨b307, 0, none⟩)), (20, .int .i64 r292.2)] [] hf310 (by kernel_rfl) trivial fun a318 hf319 => ?_
      refine endL rfl ?_
      have hm320 : Mem [] M w0 [.bx b307 [.slice A294 r292.1.Shape.length c295, .slice A296 r292.1.Data.length c297] 28, .sl (Kd.int .i64) A294 c295 r292.1.Shape, .sl Kd.float A296 c297 r292.1.Data] w314 := hm317.sel [0, 1, 2] _ rfl (by kernel_rfl)
      refine thenN ?_
      refine wp_seq ?_
      rcases ifb_split H0 with ⟨c321, H0⟩ | ⟨c321, H0⟩
      · rw [c321] at hf319
        rcases ifb_split H0 with ⟨c322, H0⟩ | ⟨c322, H0⟩
        · rcases ifb_split H0 with ⟨c323, H0⟩ | ⟨c323, H0⟩
          · rw [c323] at hf319
            rcases ifb_split H0 with ⟨c324, H0⟩ | ⟨c324, H0⟩
            · rcases ifb_split H0 with ⟨c325, H0⟩ | ⟨c325, H0⟩
              · rw [c325] at hf319
                refine reg [.bool true, .bool true] [0] [(0, .bool false)] [.is ((FloatKind.f64.format.order b113 4607182418800017408 == some .eq) = true), .is ((FloatKind.f64.format.order b132 4618441417868443648 == some .eq) = true)] hf319 (by kernel_rfl) ⟨(ftEq hb113 (FR.lit (by kernel_rfl) (by kernel_rfl)) c322), (ftEq hb132 (FR.lit (by kernel_rfl) (by kernel_rfl)) c324), trivial⟩ fun a326 hf327 => ?_
                have hm328 : Mem [] M w0 [] w314 := hm320.sel [] _ rfl (by kernel_rfl)
                refine thenN ?_
                refine wp_ret ?_
                have hm329 : Mem [] M w0 [] w314 := hm328.sel [] _ rfl (by kernel_rfl)
                obtain rfl := Option.some.inj H0
                refine ret [] [.bool false] [] hf327 (by kernel_rfl) trivial ?_
                exact ⟨_, rfl, rfl, hm329⟩
              · rw [c325] at hf319
                rcases ifb_split H0 with ⟨c331, H0⟩ | ⟨c331, H0⟩
                · rw [c331] at hf319
                  refine reg [.bool true, .bool true] [0] [(0, .bool false)] [.is ((FloatKind.f64.format.order b113 4607182418800017408 == some .eq) = true), .is ((FloatKind.f64.format.order b132 4618441417868443648 == some .eq) = true)] hf319 (by kernel_rfl) ⟨(ftEq hb113 (FR.lit (by kernel_rfl) (by kernel_rfl)) c322), (ftEq hb132 (FR.lit (by kernel_rfl) (by kernel_rfl)) c324), trivial⟩ fun a332 hf333 => ?_
                  have hm334 : Mem [] M w0 [] w314 := hm320.sel [] _ rfl (by kernel_rfl)
                  refine thenN ?_
                  refine wp_ret ?_
                  have hm335 : Mem [] M w0 [] w314 := hm334.sel [] _ rfl (by kernel_rfl)
                  obtain rfl := Option.some.inj H0
                  refine ret [] [.bool false] [] hf333 (by kernel_rfl) trivial ?_
                  exact ⟨_, rfl, rfl, hm335⟩
                · rw [c331] at hf319
                  rcases if_split H0 with ⟨c337, H0⟩ | ⟨c337, H0⟩
                  · rcases if_split H0 with ⟨c338, H0⟩ | ⟨c338, H0⟩
                    · rcases if_split H0 with ⟨c339, H0⟩ | ⟨c339, H0⟩
                      · rcases if_split H0 with ⟨c340, H0⟩ | ⟨c340, H0⟩
                        · rcases if_split H0 with ⟨c341, H0⟩ | ⟨c341, H0⟩
                          · obtain ⟨r342, hr342, H0⟩ := ob_split H0
                            rcases ifb_split H0 with ⟨c343, H0⟩ | ⟨c343, H0⟩
                            · obtain ⟨r344, hr344, H0⟩ := ob_split H0
                              rcases ifb_split H0 with ⟨c345, H0⟩ | ⟨c345, H0⟩
                              · refine inReg ?_
                                refine go 44 [.bool true, .bool true, .bool true, .bool true, .bool true, .bool true, .slice A296 r292.1.Data.length c297, .bool true, .agg #[.slice A294 r292.1.Shape.length c295, .slice A296 r292.1.Data.length c297]] [123, 124] [(123, .bool true), (124, .agg #[.slice A294 r292.1.Shape.length c295, .slice A296 r292.1.Data.length c297])] [.is ((FloatKind.f64.format.order b113 4607182418800017408 == some .eq) = true), .is ((FloatKind.f64.format.order b132 4618441417868443648 == some .eq) = true), .is (((r179.2 : Int) == 2) = true), .is (((r214.2 : Int) == 1) = true), .is (((r256.2 : Int) == 3) = true), .is (((r292.2 : Int) == 0) = true), .cell ⟨b307, 1, none⟩ (.slice A296 r292.1.Data.length c297), .is ((((r292.1.Data.length : Int) : Int) == 1) = true), .cell ⟨b307, 0, none⟩ (.slice A294 r292.1.Shape.length c295), .cell ⟨b307, 1, none⟩ (.slice A296 r292.1.Data.length c297)] hf319 (by kernel_rfl) ⟨(ftEq hb113 (FR.lit (by kernel_rfl) (by kernel_rfl)) c322), (ftEq hb132 (FR.lit (by kernel_rfl) (by kernel_rfl)) c324), (eqT c337), (eqT c338), (eqT c339), (eqT c340), (hm320.cell 0 rfl rfl), (eqT c341), (hm320.cell 0 rfl rfl), (hm320.cell 0 rfl rfl), trivial⟩ fun a346 hf347 => ?_
                                refine listOf hf347 rfl (by kernel_rfl) (aCall (fid := 38) (args := [.agg #[.slice A294 r292.1.Shape.length c295, .slice A296 r292.1.Data.length c297]]) (d := 125) hf347 (by kernel_rfl) (by kernel_rfl) callable38 (tensor_May.calls _ _ r292.1 A294 r292.1.Shape.length c295 rfl A296 r292.1.Data.length c297 rfl (hm320.give [1, 2] [.sl (Kd.int .i64) A294 c295 r292.1.Shape, .sl Kd.float A296 c297 r292.1.Data] rfl rfl) r342 hr342) ?_)
                                rintro _ w348 a349 ⟨rfl, hk351⟩ hf350
                                have hm352 := hm320.still hk351.cum.none
                                rw [c343] at hf350
                                refine go 3 [] [127, 128] [(127, .bool true), (128, .agg #[.slice none 0 0, .slice none 0 0])] [] hf350 (by kernel_rfl) trivial fun a353 hf354 => ?_
                                have hm355 : Mem [] M w0 [.sl (Kd.int .i64) none 0 ([] : (List Int)), .bx b307 [.slice A294 r292.1.Shape.length c295, .slice A296 r292.1.Data.length c297] 28, .sl (Kd.int .i64) A294 c295 r292.1.Shape, .sl Kd.float A296 c297 r292.1.Data] w348 := hm352.nilSl (Kd.int .i64)
                                have hm356 : Mem [] M w0 [.sl Kd.float none 0 ([] : (List Nat)), .sl (Kd.int .i64) none 0 ([] : (List Int)), .bx b307 [.slice A294 r292.1.Shape.length c295, .slice A296 r292.1.Data.length c297] 28, .sl (Kd.int .i64) A294 c295 r292.1.Shape, .sl Kd.float A296 c297 r292.1.Data] w348 := hm355.nilSl Kd.float
                                refine listOf hf354 rfl (by kernel_rfl) (aCall (fid := 38) (args := [.agg #[.slice none 0 0, .slice none 0 0]]) (d := 129) hf354 (by kernel_rfl) (by kernel_rfl) callable38 (tensor_May.calls _ _ (⟨([] : (List Int)), ([] : (List Nat))⟩ : Tensor) none 0 0 rfl none 0 0 rfl (hm356.give [1, 0] [.sl (Kd.int .i64) none 0 ([] : (List Int)), .sl Kd.float none 0 ([] : (List Nat))] rfl rfl) r344 hr344) ?_)
                                rintro _ w357 a358 ⟨rfl, hk360⟩ hf359
                                have hm361 := hm352.still hk360.cum.none
                                rw [c345] at hf359
                                refine go 11 [] [0] [(0, .bool false)] [] hf359 (by kernel_rfl) trivial fun a362 hf363 => ?_
                                refine endL rfl ?_
                                have hm364 : Mem [] M w0 [] w357 := hm361.sel [] _ rfl (by kernel_rfl)
                                refine thenN ?_
                                refine wp_ret ?_
                                have hm365 : Mem [] M w0 [] w357 := hm364.sel [] _ rfl (by kernel_rfl)
                                obtain rfl := Option.some.inj H0
                                refine ret [] [.bool false] [] hf363 (by kernel_rfl) trivial ?_
                                exact ⟨_, rfl, rfl, hm365⟩
                              · obtain ⟨r367, hr367, H0⟩ := ob_split H0
                                obtain ⟨r368, hr368, H0⟩ := ob_split H0
                                rcases ifb_split H0 with ⟨c369, H0⟩ | ⟨c369, H0⟩
                                · refine inReg ?_
                                  refine go 44 [.bool true, .bool true, .bool true, .bool true, .bool true, .bool true, .slice A296 r292.1.Data.length c297, .bool true, .agg #[.slice A294 r292.1.Shape.length c295, .slice A296 r292.1.Data.length c297]] [123, 124] [(123, .bool true), (124, .agg #[.slice A294 r292.1.Shape.length c295, .slice A296 r292.1.Data.length c297])] [.is ((FloatKind.f64.format.order b113 4607182418800017408 == some .eq) = true), .is ((FloatKind.f64.format.order b132 4618441417868443648 == some .eq) = true), .is (((r179.2 : Int) == 2) = true), .is (((r214.2 : Int) == 1) = true), .is (((r256.2 : Int) == 3) = true), .is (((r292.2 : Int) == 0) = true), .cell ⟨b307, 1, none⟩ (.slice A296 r292.1.Data.length c297), .is ((((r292.1.Data.length : Int) : Int) == 1) = true), .cell ⟨b307, 0, none⟩ (.slice A294 r292.1.Shape.length c295), .cell ⟨b307, 1, none⟩ (.slice A296 r292.1.Data.length c297)] hf319 (by kernel_rfl) ⟨(ftEq hb113 (FR.lit (by kernel_rfl) (by kernel_rfl)) c322), (ftEq hb132 (FR.lit (by kernel_rfl) (by kernel_rfl)) c324), (eqT c337), (eqT c338), (eqT c339), (eqT c340), (hm320.cell 0 rfl rfl), (eqT c341), (hm320.cell 0 rfl rfl), (hm320.cell 0 rfl rfl), trivial⟩ fun a370 hf371 => ?_
                                  refine listOf hf371 rfl (by kernel_rfl) (aCall (fid := 38) (args := [.agg #[.slice A294 r292.1.Shape.length c295, .slice A296 r292.1.Data.length c297]]) (d := 125) hf371 (by kernel_rfl) (by kernel_rfl) callable38 (tensor_May.calls _ _ r292.1 A294 r292.1.Shape.length c295 rfl A296 r292.1.Data.length c297 rfl (hm320.give [1, 2] [.sl (Kd.int .i64) A294 c295 r292.1.Shape, .sl Kd.float A296 c297 r292.1.Data] rfl rfl) r342 hr342) ?_)
                                  rintro _ w372 a373 ⟨rfl, hk375⟩ hf374
                                  have hm376 := hm320.still hk375.cum.none
                                  rw [c343] at hf374
                                  refine go 3 [] [127, 128] [(127, .bool true), (128, .agg #[.slice none 0 0, .slice none 0 0])] [] hf374 (by kernel_rfl) trivial fun a377 hf378 => ?_
                                  have hm379 : Mem [] M w0 [.sl (Kd.int .i64) none 0 ([] : (List Int)), .bx b307 [.slice A294 r292.1.Shape.length c295, .slice A296 r292.1.Data.length c297] 28, .sl (Kd.int .i64) A294 c295 r292.1.Shape, .sl Kd.float A296 c297 r292.1.Data] w372 := hm376.nilSl (Kd.int .i64)
                                  have hm380 : Mem [] M w0 [.sl Kd.float none 0 ([] : (List Nat)), .sl (Kd.int .i64) none 0 ([] : (List Int)), .bx b307 [.slice A294 r292.1.Shape.length c295, .slice A296 r292.1.Data.length c297] 28, .sl (Kd.int .i64) A294 c295 r292.1.Shape, .sl Kd.float A296 c297 r292.1.Data] w372 := hm379.nilSl Kd.float
                                  refine listOf hf378 rfl (by kernel_rfl) (aCall (fid := 38) (args := [.agg #[.slice none 0 0, .slice none 0 0]]) (d := 129) hf378 (by kernel_rfl) (by kernel_rfl) callable38 (tensor_May.calls _ _ (⟨([] : (List Int)), ([] : (List Nat))⟩ : Tensor) none 0 0 rfl none 0 0 rfl (hm380.give [1, 0] [.sl (Kd.int .i64) none 0 ([] : (List Int)), .sl Kd.float none 0 ([] : (List Nat))] rfl rfl) r344 hr344) ?_)
                                  rintro _ w381 a382 ⟨rfl, hk384⟩ hf383
                                  have hm385 := hm376.still hk384.cum.none
                                  rw [c345] at hf383
                                  refine go 3 [] [132] [(132, .bool true)] [] hf383 (by kernel_rfl) trivial fun a386 hf387 => ?_
                                  refine listOf hf387 rfl (by kernel_rfl) (aLit (cs := [.int .i64 1]) (E := 3) (len := 1) (d := 133) hf387 (by kernel_rfl) (by kernel_rfl) ?_)
                                  intro b388 w389 a390 hbb388 hx392 hg393 hf391
                                  have hm385s := hm385.still hg393
                                  have hm394 : Mem [] M w0 [.sl (Kd.int .i64) (some ⟨b388, 0, none⟩) 1 ([1] : List Int), .bx b307 [.slice A294 r292.1.Shape.length c295, .slice A296 r292.1.Data.length c297] 28, .sl (Kd.int .i64) A294 c295 r292.1.Shape, .sl Kd.float A296 c297 r292.1.Data] w389 := Mem.lit (kd := (Kd.int .i64)) (xs := ([1] : List Int)) hm385 hbb388 hx392 hg393 (Els.one (kd := (Kd.int .i64)) (us := [.int .i64 1]) (x := 1) rfl)
                                  refine listOf hf391 rfl (by kernel_rfl) (aCall (fid := 42) (args := [.int .i64 (-1)]) (d := 134) hf391 (by kernel_rfl) (by kernel_rfl) callable42 (math_Inf.calls _ _ (-1) (hm394.give [] [] rfl rfl) r367 hr367) ?_)
                                  rintro _ w396 a397 ⟨b395, rfl, hb395, hk399⟩ hf398
                                  have hm400 := hm394.still hk399.cum.none
                                  refine listOf hf398 rfl (by kernel_rfl) (aLit (cs := [.float .f64 b395]) (E := 44) (len := 1) (d := 135) hf398 (by kernel_rfl) (by kernel_rfl) ?_)
                                  intro b401 w402 a403 hbb401 hx405 hg406 hf404
                                  have hm400s := hm400.still hg406
                                  have hm407 : Mem [] M w0 [.sl Kd.float (some ⟨b401, 0, none⟩) 1 ([r367] : List Nat), .sl (Kd.int .i64) (some ⟨b388, 0, none⟩) 1 ([1] : List Int), .bx b307 [.slice A294 r292.1.Shape.length c295, .slice A296 r292.1.Data.length c297] 28, .sl (Kd.int .i64) A294 c295 r292.1.Shape, .sl Kd.float A296 c297 r292.1.Data] w402 := Mem.lit (kd := Kd.float) (xs := ([r367] : List Nat)) hm400 hbb401 hx405 hg406 (Els.one (kd := Kd.float) (us := [.float .f64 b395]) (x := r367) ⟨_, rfl, hb395⟩)
                                  refine go 1 [] [132, 136] [(132, .bool true), (136, .agg #[.slice (some ⟨b388, 0, none⟩) 1 1, .slice (some ⟨b401, 0, none⟩) 1 1])] [] hf404 (by kernel_rfl) trivial fun a408 hf409 => ?_
                                  refine listOf hf409 rfl (by kernel_rfl) (aCall (fid := 40) (args := [.agg #[.slice (some ⟨b388, 0, none⟩) 1 1, .slice (some ⟨b401, 0, none⟩) 1 1]]) (d := 137) hf409 (by kernel_rfl) (by kernel_rfl) callable40 (tensor_Finite.calls _ _ (⟨([1] : List Int), ([r367] : List Nat)⟩ : Tensor) (some ⟨b388, 0, none⟩) 1 1 rfl (some ⟨b401, 0, none⟩) 1 1 rfl (hm407.give [1, 0] [.sl (Kd.int .i64) (some ⟨b388, 0, none⟩) 1 ([1] : List Int), .sl Kd.float (some ⟨b401, 0, none⟩) 1 ([r367] : List Nat)] rfl rfl) r368 hr368) ?_)
                                  rintro _ w410 a411 ⟨rfl, hk413⟩ hf412
                                  have hm414 := hm407.still hk413.cum.none
                                  rw [c369] at hf412
                                  refine go 3 [] [0] [(0, .bool false)] [] hf412 (by kernel_rfl) trivial fun a415 hf416 => ?_
                                  refine endL rfl ?_
                                  have hm417 : Mem [] M w0 [] w410 := hm414.sel [] _ rfl (by kernel_rfl)
                                  refine thenN ?_
                                  refine wp_ret ?_
                                  have hm418 : Mem [] M w0 [] w410 := hm417.sel [] _ rfl (by kernel_rfl)
                                  obtain rfl := Option.some.inj H0
                                  refine ret [] [.bool false] [] hf416 (by kernel_rfl) trivial ?_
                                  exact ⟨_, rfl, rfl, hm418⟩
                                · refine inReg ?_
                                  refine go 44 [.bool true, .bool true, .bool true, .bool true, .bool true, .bool true, .slice A296 r292.1.Data.length c297, .bool true, .agg #[.slice A294 r292.1.Shape.length c295, .slice A296 r292.1.Data.length c297]] [123, 124] [(123, .bool true), (124, .agg #[.slice A294 r292.1.Shape.length c295, .slice A296 r292.1.Data.length c297])] [.is ((FloatKind.f64.format.order b113 4607182418800017408 == some .eq) = true), .is ((FloatKind.f64.format.order b132 4618441417868443648 == some .eq) = true), .is (((r179.2 : Int) == 2) = true), .is (((r214.2 : Int) == 1) = true), .is (((r256.2 : Int) == 3) = true), .is (((r292.2 : Int) == 0) = true), .cell ⟨b307, 1, none⟩ (.slice A296 r292.1.Data.length c297), .is ((((r292.1.Data.length : Int) : Int) == 1) = true), .cell ⟨b307, 0, none⟩ (.slice A294 r292.1.Shape.length c295), .cell ⟨b307, 1, none⟩ (.slice A296 r292.1.Data.length c297)] hf319 (by kernel_rfl) ⟨(ftEq hb113 (FR.lit (by kernel_rfl) (by kernel_rfl)) c322), (ftEq hb132 (FR.lit (by kernel_rfl) (by kernel_rfl)) c324), (eqT c337), (eqT c338), (eqT c339), (eqT c340), (hm320.cell 0 rfl rfl), (eqT c341), (hm320.cell 0 rfl rfl), (hm320.cell 0 rfl rfl), trivial⟩ fun a420 hf421 => ?_
                                  refine listOf hf421 rfl (by kernel_rfl) (aCall (fid := 38) (args := [.agg #[.slice A294 r292.1.Shape.length c295, .slice A296 r292.1.Data.length c297]]) (d := 125) hf421 (by kernel_rfl) (by kernel_rfl) callable38 (tensor_May.calls _ _ r292.1 A294 r292.1.Shape.length c295 rfl A296 r292.1.Data.length c297 rfl (hm320.give [1, 2] [.sl (Kd.int .i64) A294 c295 r292.1.Shape, .sl Kd.float A296 c297 r292.1.Data] rfl rfl) r342 hr342) ?_)
                                  rintro _ w422 a423 ⟨rfl, hk425⟩ hf424
                                  have hm426 := hm320.still hk425.cum.none
                                  rw [c343] at hf424
                                  refine go 3 [] [127, 128] [(127, .bool true), (128, .agg #[.slice none 0 0, .slice none 0 0])] [] hf424 (by kernel_rfl) trivial fun a427 hf428 => ?_
                                  have hm429 : Mem [] M w0 [.sl (Kd.int .i64) none 0 ([] : (List Int)), .bx b307 [.slice A294 r292.1.Shape.length c295, .slice A296 r292.1.Data.length c297] 28, .sl (Kd.int .i64) A294 c295 r292.1.Shape, .sl Kd.float A296 c297 r292.1.Data] w422 := hm426.nilSl (Kd.int .i64)
                                  have hm430 : Mem [] M w0 [.sl Kd.float none 0 ([] : (List Nat)), .sl (Kd.int .i64) none 0 ([] : (List Int)), .bx b307 [.slice A294 r292.1.Shape.length c295, .slice A296 r292.1.Data.length c297] 28, .sl (Kd.int .i64) A294 c295 r292.1.Shape, .sl Kd.float A296 c297 r292.1.Data] w422 := hm429.nilSl Kd.float
                                  refine listOf hf428 rfl (by kernel_rfl) (aCall (fid := 38) (args := [.agg #[.slice none 0 0, .slice none 0 0]]) (d := 129) hf428 (by kernel_rfl) (by kernel_rfl) callable38 (tensor_May.calls _ _ (⟨([] : (List Int)), ([] : (List Nat))⟩ : Tensor) none 0 0 rfl none 0 0 rfl (hm430.give [1, 0] [.sl (Kd.int .i64) none 0 ([] : (List Int)), .sl Kd.float none 0 ([] : (List Nat))] rfl rfl) r344 hr344) ?_)
                                  rintro _ w431 a432 ⟨rfl, hk434⟩ hf433
                                  have hm435 := hm426.still hk434.cum.none
                                  rw [c345] at hf433
                                  refine go 3 [] [132] [(132, .bool true)] [] hf433 (by kernel_rfl) trivial fun a436 hf437 => ?_
                                  refine listOf hf437 rfl (by kernel_rfl) (aLit (cs := [.int .i64 1]) (E := 3) (len := 1) (d := 133) hf437 (by kernel_rfl) (by kernel_rfl) ?_)
                                  intro b438 w439 a440 hbb438 hx442 hg443 hf441
                                  have hm435s := hm435.still hg443
                                  have hm444 : Mem [] M w0 [.sl (Kd.int .i64) (some ⟨b438, 0, none⟩) 1 ([1] : List Int), .bx b307 [.slice A294 r292.1.Shape.length c295, .slice A296 r292.1.Data.length c297] 28, .sl (Kd.int .i64) A294 c295 r292.1.Shape, .sl Kd.float A296 c297 r292.1.Data] w439 := Mem.lit (kd := (Kd.int .i64)) (xs := ([1] : List Int)) hm435 hbb438 hx442 hg443 (Els.one (kd := (Kd.int .i64)) (us := [.int .i64 1]) (x := 1) rfl)
                                  refine listOf hf441 rfl (by kernel_rfl) (aCall (fid := 42) (args := [.int .i64 (-1)]) (d := 134) hf441 (by kernel_rfl) (by kernel_rfl) callable42 (math_Inf.calls _ _ (-1) (hm444.give [] [] rfl rfl) r367 hr367) ?_)
                                  rintro _ w446 a447 ⟨b445, rfl, hb445, hk449⟩ hf448
                                  have hm450 := hm444.still hk449.cum.none
                                  refine listOf hf448 rfl (by kernel_rfl) (aLit (cs := [.float .f64 b445]) (E := 44) (len := 1) (d := 135) hf448 (by kernel_rfl) (by kernel_rfl) ?_)
                                  intro b451 w452 a453 hbb451 hx455 hg456 hf454
                                  have hm450s := hm450.still hg456
                                  have hm457 : Mem [] M w0 [.sl Kd.float (some ⟨b451, 0, none⟩) 1 ([r367] : List Nat), .sl (Kd.int .i64) (some ⟨b438, 0, none⟩) 1 ([1] : List Int), .bx b307 [.slice A294 r292.1.Shape.length c295, .slice A296 r292.1.Data.length c297] 28, .sl (Kd.int .i64) A294 c295 r292.1.Shape, .sl Kd.float A296 c297 r292.1.Data] w452 := Mem.lit (kd := Kd.float) (xs := ([r367] : List Nat)) hm450 hbb451 hx455 hg456 (Els.one (kd := Kd.float) (us := [.float .f64 b445]) (x := r367) ⟨_, rfl, hb445⟩)
                                  refine go 1 [] [132, 136] [(132, .bool true), (136, .agg #[.slice (some ⟨b438, 0, none⟩) 1 1, .slice (some ⟨b451, 0, none⟩) 1 1])] [] hf454 (by kernel_rfl) trivial fun a458 hf459 => ?_
                                  refine listOf hf459 rfl (by kernel_rfl) (aCall (fid := 40) (args := [.agg #[.slice (some ⟨b438, 0, none⟩) 1 1, .slice (some ⟨b451, 0, none⟩) 1 1]]) (d := 137) hf459 (by kernel_rfl) (by kernel_rfl) callable40 (tensor_Finite.calls _ _ (⟨([1] : List Int), ([r367] : List Nat)⟩ : Tensor) (some ⟨b438, 0, none⟩) 1 1 rfl (some ⟨b451, 0, none⟩) 1 1 rfl (hm457.give [1, 0] [.sl (Kd.int .i64) (some ⟨b438, 0, none⟩) 1 ([1] : List Int), .sl Kd.float (some ⟨b451, 0, none⟩) 1 ([r367] : List Nat)] rfl rfl) r368 hr368) ?_)
                                  rintro _ w460 a461 ⟨rfl, hk463⟩ hf462
                                  have hm464 := hm457.still hk463.cum.none
                                  rw [c369] at hf462
                                  refine go 3 [] [0] [(0, .bool true)] [] hf462 (by kernel_rfl) trivial fun a465 hf466 => ?_
                                  refine endL rfl ?_
                                  have hm467 : Mem [] M w0 [] w460 := hm464.sel [] _ rfl (by kernel_rfl)
                                  refine thenN ?_
                                  refine wp_ret ?_
                                  have hm468 : Mem [] M w0 [] w460 := hm467.sel [] _ rfl (by kernel_rfl)
                                  obtain rfl := Option.some.inj H0
                                  refine ret [] [.bool true] [] hf466 (by kernel_rfl) trivial ?_
                                  exact ⟨_, rfl, rfl, hm468⟩
                            · refine inReg ?_
                              refine go 44 [.bool true, .bool true, .bool true, .bool true, .bool true, .bool true, .slice A296 r292.1.Data.length c297, .bool true, .agg #[.slice A294 r292.1.Shape.length c295, .slice A296 r292.1.Data.length c297]] [123, 124] [(123, .bool true), (124, .agg #[.slice A294 r292.1.Shape.length c295, .slice A296 r292.1.Data.length c297])] [.is ((FloatKind.f64.format.order b113 4607182418800017408 == some .eq) = true), .is ((FloatKind.f64.format.order b132 4618441417868443648 == some .eq) = true), .is (((r179.2 : Int) == 2) = true), .is (((r214.2 : Int) == 1) = true), .is (((r256.2 : Int) == 3) = true), .is (((r292.2 : Int) == 0) = true), .cell ⟨b307, 1, none⟩ (.slice A296 r292.1.Data.length c297), .is ((((r292.1.Data.length : Int) : Int) == 1) = true), .cell ⟨b307, 0, none⟩ (.slice A294 r292.1.Shape.length c295), .cell ⟨b307, 1, none⟩ (.slice A296 r292.1.Data.length c297)] hf319 (by kernel_rfl) ⟨(ftEq hb113 (FR.lit (by kernel_rfl) (by kernel_rfl)) c322), (ftEq hb132 (FR.lit (by kernel_rfl) (by kernel_rfl)) c324), (eqT c337), (eqT c338), (eqT c339), (eqT c340), (hm320.cell 0 rfl rfl), (eqT c341), (hm320.cell 0 rfl rfl), (hm320.cell 0 rfl rfl), trivial⟩ fun a470 hf471 => ?_
                              refine listOf hf471 rfl (by kernel_rfl) (aCall (fid := 38) (args := [.agg #[.slice A294 r292.1.Shape.length c295, .slice A296 r292.1.Data.length c297]]) (d := 125) hf471 (by kernel_rfl) (by kernel_rfl) callable38 (tensor_May.calls _ _ r292.1 A294 r292.1.Shape.length c295 rfl A296 r292.1.Data.length c297 rfl (hm320.give [1, 2] [.sl (Kd.int .i64) A294 c295 r292.1.Shape, .sl Kd.float A296 c297 r292.1.Data] rfl rfl) r342 hr342) ?_)
                              rintro _ w472 a473 ⟨rfl, hk475⟩ hf474
                              have hm476 := hm320.still hk475.cum.none
                              rw [c343] at hf474
                              refine go 15 [] [0] [(0, .bool false)] [] hf474 (by kernel_rfl) trivial fun a477 hf478 => ?_
                              refine endL rfl ?_
                              have hm479 : Mem [] M w0 [] w472 := hm476.sel [] _ rfl (by kernel_rfl)
                              refine thenN ?_
                              refine wp_ret ?_
                              have hm480 : Mem [] M w0 [] w472 := hm479.sel [] _ rfl (by kernel_rfl)
                              obtain rfl := Option.some.inj H0
                              refine ret [] [.bool false] [] hf478 (by kernel_rfl) trivial ?_
                              exact ⟨_, rfl, rfl, hm480⟩
                          · refine reg [.bool true, .bool true, .bool true, .bool true, .bool true, .bool true, .slice A296 r292.1.Data.length c297, .bool false] [0] [(0, .bool false)] [.is ((FloatKind.f64.format.order b113 4607182418800017408 == some .eq) = true), .is ((FloatKind.f64.format.order b132 4618441417868443648 == some .eq) = true), .is (((r179.2 : Int) == 2) = true), .is (((r214.2 : Int) == 1) = true), .is (((r256.2 : Int) == 3) = true), .is (((r292.2 : Int) == 0) = true), .cell ⟨b307, 1, none⟩ (.slice A296 r292.1.Data.length c297), .is ((((r292.1.Data.length : Int) : Int) == 1) = false)] hf319 (by kernel_rfl) ⟨(ftEq hb113 (FR.lit (by kernel_rfl) (by kernel_rfl)) c322), (ftEq hb132 (FR.lit (by kernel_rfl) (by kernel_rfl)) c324), (eqT c337), (eqT c338), (eqT c339), (eqT c340), (hm320.cell 0 rfl rfl), (eqF c341), trivial⟩ fun a482 hf483 => ?_
                            have hm484 : Mem [] M w0 [] w314 := hm320.sel [] _ rfl (by kernel_rfl)
                            refine thenN ?_
                            refine wp_ret ?_
                            have hm485 : Mem [] M w0 [] w314 := hm484.sel [] _ rfl (by kernel_rfl)
                            obtain rfl := Option.some.inj H0
                            refine ret [] [.bool false] [] hf483 (by kernel_rfl) trivial ?_
                            exact ⟨_, rfl, rfl, hm485⟩
                        · refine reg [.bool true, .bool true, .bool true, .bool true, .bool true, .bool false] [0] [(0, .bool false)] [.is ((FloatKind.f64.format.order b113 4607182418800017408 == some .eq) = true), .is ((FloatKind.f64.format.order b132 4618441417868443648 == some .eq) = true), .is (((r179.2 : Int) == 2) = true), .is (((r214.2 : Int) == 1) = true), .is (((r256.2 : Int) == 3) = true), .is (((r292.2 : Int) == 0) = false)] hf319 (by kernel_rfl) ⟨(ftEq hb113 (FR.lit (by kernel_rfl) (by kernel_rfl)) c322), (ftEq hb132 (FR.lit (by kernel_rfl) (by kernel_rfl)) c324), (eqT c337), (eqT c338), (eqT c339), (eqF c340), trivial⟩ fun a487 hf488 => ?_
                          have hm489 : Mem [] M w0 [] w314 := hm320.sel [] _ rfl (by kernel_rfl)
                          refine thenN ?_
                          refine wp_ret ?_
                          have hm490 : Mem [] M w0 [] w314 := hm489.sel [] _ rfl (by kernel_rfl)
                          obtain rfl := Option.some.inj H0
                          refine ret [] [.bool false] [] hf488 (by kernel_rfl) trivial ?_
                          exact ⟨_, rfl, rfl, hm490⟩
                      · refine reg [.bool true, .bool true, .bool true, .bool true, .bool false] [0] [(0, .bool false)] [.is ((FloatKind.f64.format.order b113 4607182418800017408 == some .eq) = true), .is ((FloatKind.f64.format.order b132 4618441417868443648 == some .eq) = true), .is (((r179.2 : Int) == 2) = true), .is (((r214.2 : Int) == 1) = true), .is (((r256.2 : Int) == 3) = false)] hf319 (by kernel_rfl) ⟨(ftEq hb113 (FR.lit (by kernel_rfl) (by kernel_rfl)) c322), (ftEq hb132 (FR.lit (by kernel_rfl) (by kernel_rfl)) c324), (eqT c337), (eqT c338), (eqF c339), trivial⟩ fun a492 hf493 => ?_
                        have hm494 : Mem [] M w0 [] w314 := hm320.sel [] _ rfl (by kernel_rfl)
                        refine thenN ?_
                        refine wp_ret ?_
                        have hm495 : Mem [] M w0 [] w314 := hm494.sel [] _ rfl (by kernel_rfl)
                        obtain rfl := Option.some.inj H0
                        refine ret [] [.bool false] [] hf493 (by kernel_rfl) trivial ?_
                        exact ⟨_, rfl, rfl, hm495⟩
                    · refine reg [.bool true, .bool true, .bool true, .bool false] [0] [(0, .bool false)] [.is ((FloatKind.f64.format.order b113 4607182418800017408 == some .eq) = true), .is ((FloatKind.f64.format.order b132 4618441417868443648 == some .eq) = true), .is (((r179.2 : Int) == 2) = true), .is (((r214.2 : Int) == 1) = false)] hf319 (by kernel_rfl) ⟨(ftEq hb113 (FR.lit (by kernel_rfl) (by kernel_rfl)) c322), (ftEq hb132 (FR.lit (by kernel_rfl) (by kernel_rfl)) c324), (eqT c337), (eqF c338), trivial⟩ fun a497 hf498 => ?_
                      have hm499 : Mem [] M w0 [] w314 := hm320.sel [] _ rfl (by kernel_rfl)
                      refine thenN ?_
                      refine wp_ret ?_
                      have hm500 : Mem [] M w0 [] w314 := hm499.sel [] _ rfl (by kernel_rfl)
                      obtain rfl := Option.some.inj H0
                      refine ret [] [.bool false] [] hf498 (by kernel_rfl) trivial ?_
                      exact ⟨_, rfl, rfl, hm500⟩
                  · refine reg [.bool true, .bool true, .bool false] [0] [(0, .bool false)] [.is ((FloatKind.f64.format.order b113 4607182418800017408 == some .eq) = true), .is ((FloatKind.f64.format.order b132 4618441417868443648 == some .eq) = true), .is (((r179.2 : Int) == 2) = false)] hf319 (by kernel_rfl) ⟨(ftEq hb113 (FR.lit (by kernel_rfl) (by kernel_rfl)) c322), (ftEq hb132 (FR.lit (by kernel_rfl) (by kernel_rfl)) c324), (eqF c337), trivial⟩ fun a502 hf503 => ?_
                    have hm504 : Mem [] M w0 [] w314 := hm320.sel [] _ rfl (by kernel_rfl)
                    refine thenN ?_
                    refine wp_ret ?_
                    have hm505 : Mem [] M w0 [] w314 := hm504.sel [] _ rfl (by kernel_rfl)
                    obtain rfl := Option.some.inj H0
                    refine ret [] [.bool false] [] hf503 (by kernel_rfl) trivial ?_
                    exact ⟨_, rfl, rfl, hm505⟩
            · refine reg [.bool true, .bool false] [0] [(0, .bool false)] [.is ((FloatKind.f64.format.order b113 4607182418800017408 == some .eq) = true), .is ((FloatKind.f64.format.order b132 4618441417868443648 == some .eq) = false)] hf319 (by kernel_rfl) ⟨(ftEq hb113 (FR.lit (by kernel_rfl) (by kernel_rfl)) c322), (ftEq hb132 (FR.lit (by kernel_rfl) (by kernel_rfl)) c324), trivial⟩ fun a507 hf508 => ?_
              have hm509 : Mem [] M w0 [] w314 := hm320.sel [] _ rfl (by kernel_rfl)
              refine thenN ?_
              refine wp_ret ?_
              have hm510 : Mem [] M w0 [] w314 := hm509.sel [] _ rfl (by kernel_rfl)
              obtain rfl := Option.some.inj H0
              refine ret [] [.bool false] [] hf508 (by kernel_rfl) trivial ?_
              exact ⟨_, rfl, rfl, hm510⟩
          · rw [c323] at hf319
            refine reg [.bool true] [0] [(0, .bool false)] [.is ((FloatKind.f64.format.order b113 4607182418800017408 == some .eq) = true)] hf319 (by kernel_rfl) ⟨(ftEq hb113 (FR.lit (by kernel_rfl) (by kernel_rfl)) c322), trivial⟩ fun a512 hf513 => ?_
            have hm514 : Mem [] M w0 [] w314 := hm320.sel [] _ rfl (by kernel_rfl)
            refine thenN ?_
            refine wp_ret ?_
            have hm515 : Mem [] M w0 [] w314 := hm514.sel [] _ rfl (by kernel_rfl)
            obtain rfl := Option.some.inj H0
            refine ret [] [.bool false] [] hf513 (by kernel_rfl) trivial ?_
            exact ⟨_, rfl, rfl, hm515⟩
        · refine reg [.bool false] [0] [(0, .bool false)] [.is ((FloatKind.f64.format.order b113 4607182418800017408 == some .eq) = false)] hf319 (by kernel_rfl) ⟨(ftEq hb113 (FR.lit (by kernel_rfl) (by kernel_rfl)) c322), trivial⟩ fun a517 hf518 => ?_
          have hm519 : Mem [] M w0 [] w314 := hm320.sel [] _ rfl (by kernel_rfl)
          refine thenN ?_
          refine wp_ret ?_
          have hm520 : Mem [] M w0 [] w314 := hm519.sel [] _ rfl (by kernel_rfl)
          obtain rfl := Option.some.inj H0
          refine ret [] [.bool false] [] hf518 (by kernel_rfl) trivial ?_
          exact ⟨_, rfl, rfl, hm520⟩
      · rw [c321] at hf319
        refine reg [] [0] [(0, .bool false)] [] hf319 (by kernel_rfl) trivial fun a522 hf523 => ?_
        have hm524 : Mem [] M w0 [] w314 := hm320.sel [] _ rfl (by kernel_rfl)
        refine thenN ?_
        refine wp_ret ?_
        have hm525 : Mem [] M w0 [] w314 := hm524.sel [] _ rfl (by kernel_rfl)
        obtain rfl := Option.some.inj H0
        refine ret [] [.bool false] [] hf523 (by kernel_rfl) trivial ?_
        exact ⟨_, rfl, rfl, hm525⟩
    · refine reg [.bool true] [1, 2, 3, 32] [(1, .slice (some ⟨b32, 0, none⟩) 6 6), (2, .slice (some ⟨b41, 0, none⟩) 2 2), (3, .pointer (some ⟨b69, 0, none⟩)), (32, .bool true)] [.is (((r50.2 : Int) != 0) = true)] hf81 (by kernel_rfl) ⟨(neT c82), trivial⟩ fun a527 hf528 => ?_
      refine thenN ?_
      refine condT hf528 (by kernel_rfl) ?_
      refine wp_seq ?_
      refine reg [] [0] [(0, .bool false)] [] hf528 (by kernel_rfl) trivial fun a529 hf530 => ?_
      have hm531 : Mem [] M w0 [] w76 := hm79.sel [] _ rfl (by kernel_rfl)
      refine thenN ?_
      refine wp_ret ?_
      refine thenR ?_
      have hm532 : Mem [] M w0 [] w76 := hm531.sel [] _ rfl (by kernel_rfl)
      obtain rfl := Option.some.inj H0
      refine ret [] [.bool false] [] hf530 (by kernel_rfl) trivial ?_
      exact ⟨_, rfl, rfl, hm532⟩
  · refine inReg ?_
    refine listOf hf22 rfl (by kernel_rfl) (aCall (fid := 26) (args := []) (d := 21) hf22 (by kernel_rfl) (by kernel_rfl) callable26 (law3_awake.calls _ _  (hm0.give [] [] rfl rfl) r23 hr23) ?_)
    rintro _ w534 a535 ⟨rfl, hk537⟩ hf536
    have hm538 := hm0.still hk537.cum.none
    rw [c24] at hf536
    refine go 1 [] [22] [(22, .bool true)] [] hf536 (by kernel_rfl) trivial fun a539 hf540 => ?_
    refine endL rfl ?_
    refine thenN ?_
    refine condT hf540 (by kernel_rfl) ?_
    refine wp_seq ?_
    refine reg [] [0] [(0, .bool false)] [] hf540 (by kernel_rfl) trivial fun a541 hf542 => ?_
    refine thenN ?_
    refine wp_ret ?_
    refine thenR ?_
    have hm543 : Mem [] M w0 [] w534 := hm538.sel [] _ rfl (by kernel_rfl)
    obtain rfl := Option.some.inj H0
    refine ret [] [.bool false] [] hf542 (by kernel_rfl) trivial ?_
    exact ⟨_, rfl, rfl, hm543⟩
end Go.Proofs.Ytkcgiolledmbnab
