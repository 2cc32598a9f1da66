/- Printed by gen.py. -/
import Derived.Test.YtkcgiolledmbnabF1
import Derived.Test.YtkcgiolledmbnabF2
import Derived.Test.YtkcgiolledmbnabF4
namespace Go.Proofs.Ytkcgiolledmbnab
open Go Go.RowKit
set_option linter.unusedSimpArgs false
set_option linter.unusedVariables false
set_option linter.unnecessarySimpa false
/-! ### (*backstitch/fold.Slots).Left -/
noncomputable def fold_Slots_Left.f (x0 : Slots) : Option Int :=
  some x0.left
set_option maxRecDepth 100000 in
set_option maxHeartbeats 4000000 in
theorem fold_Slots_Left.calls (B0 : List (Option Nat)) (M : List (Option Nat)) (w0 : World) (x0 : Slots) (b0 : Nat) (A0_0 : Option Addr) (n0_0 c0_0 : Nat) (e0_0 : n0_0 = x0.s.length) (A0_1 : Option Addr) (n0_1 c0_1 : Nat) (e0_1 : n0_1 = x0.l.length) (A0_2 : Option Addr) (n0_2 c0_2 : Nat) (e0_2 : n0_2 = x0.filled.length) (hm0 : Mem B0 M w0 [.bx b0 [.slice A0_0 n0_0 c0_0, .slice A0_1 n0_1 c0_1, .slice A0_2 n0_2 c0_2, .int .i64 x0.left] 80, .ow kTensor 28 A0_1 c0_1 x0.l, .ow Kd.bool 4 A0_2 c0_2 x0.filled, .sl (Kd.int .i64) A0_0 c0_0 x0.s] w0) (r : Int) (H0 : fold_Slots_Left.f x0 = some r) :
    Calls Try.prog 22 [.pointer (some ⟨b0, 0, none⟩)].toArray w0 (fun x w' => ∃ v, x = .returned v ∧ v = .int .i64 r ∧ Mem B0 M w0 [.bx b0 [.slice A0_0 x0.s.length c0_0, .slice A0_1 x0.l.length c0_1, .slice A0_2 x0.filled.length c0_2, .int .i64 x0.left] 80, .ow kTensor 28 A0_1 c0_1 x0.l, .ow Kd.bool 4 A0_2 c0_2 x0.filled] w') := by
  subst e0_0
  subst e0_1
  subst e0_2
  unfold fold_Slots_Left.f at H0
  refine enter (n := 9) Try.func22 rfl rfl (by kernel_rfl) fun a0 (hf0 : Fr 9 a0 [(0, .pointer (some ⟨b0, 0, none⟩))]) => ?_
  refine wp_seq ?_
  refine reg [] [0] [(0, .pointer (some ⟨b0, 0, none⟩))] [] hf0 (by kernel_rfl) trivial fun a21 hf22 => ?_
  refine thenN ?_
  refine wp_seq ?_
  refine wp_seq ?_
  refine reg [] [0, 4] [(0, .pointer (some ⟨b0, 0, none⟩)), (4, .bool false)] [] hf22 (by kernel_rfl) trivial fun a23 hf24 => ?_
  refine thenN ?_
  refine condF hf24 (by kernel_rfl) ?_
  refine wp_skip ?_
  refine thenN ?_
  refine wp_seq ?_
  refine reg [.int .i64 x0.left] [2] [(2, .int .i64 x0.left)] [.cell ⟨b0, 3, none⟩ (.int .i64 x0.left)] hf24 (by kernel_rfl) ⟨(hm0.cell 0 rfl rfl), trivial⟩ fun a25 hf26 => ?_
  refine thenN ?_
  refine wp_ret ?_
  have hm27 : Mem B0 M w0 [.bx b0 [.slice A0_0 x0.s.length c0_0, .slice A0_1 x0.l.length c0_1, .slice A0_2 x0.filled.length c0_2, .int .i64 x0.left] 80, .ow kTensor 28 A0_1 c0_1 x0.l, .ow Kd.bool 4 A0_2 c0_2 x0.filled] w0 := hm0.sel [0, 1, 2] _ rfl (by kernel_rfl)
  obtain rfl := Option.some.inj H0
  refine ret [] [.int .i64 x0.left] [] hf26 (by kernel_rfl) trivial ?_
  exact ⟨_, rfl, rfl, hm27⟩

/-! ### backstitch/backstitchlaw8.awake -/
noncomputable def law8_awake.f  : Option Bool :=
  (fold_New.f ([1] : List Int) 2).bind fun r23 =>
  onPtr r23.1 (fun y25 =>
  if r23.2 = 0 then ((fold_Slots_Put.f y25 1 (⟨([1] : List Int), ([4611686018427387904] : List Nat)⟩ : Tensor)).bind fun r80 =>
  (fold_Slots_Put.f (⟨y25.s, r80.1, r80.2.1, r80.2.2.1⟩ : Slots) 0 (⟨([1] : List Int), ([4607182418800017408] : List Nat)⟩ : Tensor)).bind fun r111 =>
  (fold_Slots_Value.f (⟨y25.s, r111.1, r111.2.1, r111.2.2.1⟩ : Slots)).bind fun r142 =>
  if r80.2.2.2 = 0 then (if r111.2.2.2 = 0 then (if r142.2 = 0 then ((fold_Slots_Left.f (⟨y25.s, r111.1, r111.2.1, r111.2.2.1⟩ : Slots)).bind fun r174 =>
  if r174 = 0 then (if (r142.1.Data.length : Int) = 1 then (if (0 : Int) ≤ 0 ∧ 0 < (r142.1.Data.length : Int) then (if (feq (rd r142.1.Data 0) 4613937818241073152) = true then (some true)
  else (some false))
  else none)
  else (some false))
  else (some false))
  else (some false))
  else (some false))
  else (some false))
  else (some false)) (if r23.2 = 0 then (some false)
  else (some false))
set_option maxRecDepth 100000 in
set_option maxHeartbeats 4000000 in
theorem law8_awake.calls (M : List (Option Nat)) (w0 : World)  (hm0 : Mem [] M w0 [] w0) (r : Bool) (H0 : law8_awake.f = some r) :
    Calls Try.prog 15 [].toArray w0 (fun x w' => ∃ v, x = .returned v ∧ v = .bool r ∧ Mem [] M w0 [] w') := by
  unfold law8_awake.f at H0
  refine enter (n := 61) Try.func15 rfl rfl (by kernel_rfl) fun a0 (hf0 : Fr 61 a0 []) => ?_
  refine wp_seq ?_
  refine reg [] [] [] [] hf0 (by kernel_rfl) trivial fun a21 hf22 => ?_
  refine thenN ?_
  refine wp_seq ?_
  obtain ⟨r23, hr23, H0⟩ := ob_split H0
  rcases ptr_split H0 with ⟨c24, H0⟩ | ⟨y25, c24, H0⟩
  · refine inReg ?_
    refine listOf hf22 rfl (by kernel_rfl) (aLit (cs := [.int .i64 1]) (E := 3) (len := 1) (d := 8) hf22 (by kernel_rfl) (by kernel_rfl) ?_)
    intro b26 w27 a28 hbb26 hx30 hg31 hf29
    have hm0s := hm0.still hg31
    have hm32 : Mem [] M w0 [.sl (Kd.int .i64) (some ⟨b26, 0, none⟩) 1 ([1] : List Int)] w27 := Mem.lit (kd := (Kd.int .i64)) (xs := ([1] : List Int)) hm0 hbb26 hx30 hg31 (Els.one (kd := (Kd.int .i64)) (us := [.int .i64 1]) (x := 1) rfl)
    refine listOf hf29 rfl (by kernel_rfl) (aCall (fid := 20) (args := [.slice (some ⟨b26, 0, none⟩) 1 1, .int .i64 2]) (d := 9) hf29 (by kernel_rfl) (by kernel_rfl) callable20 (fold_New.calls_n _ _ ([1] : List Int) (some ⟨b26, 0, none⟩) 1 1 rfl 2 (hm32.give [0] [.sl (Kd.int .i64) (some ⟨b26, 0, none⟩) 1 ([1] : List Int)] rfl rfl) r23 c24 hr23) ?_)
    rintro _ w33 a34 ⟨rfl, hk36⟩ hf35
    have hm37 := hm32.still hk36.cum.none
    refine go 5 [] [1, 2] [(1, .pointer none), (2, .int .i64 r23.2)] [] hf35 (by kernel_rfl) trivial fun a38 hf39 => ?_
    refine endL rfl ?_
    have hm40 := hm37.sel [] _ rfl (by kernel_rfl)
    refine thenN ?_
    refine wp_seq ?_
    refine wp_seq ?_
    rcases if_split H0 with ⟨c41, H0⟩ | ⟨c41, H0⟩
    · refine reg [.bool false] [1, 17] [(1, .pointer none), (17, .bool true)] [.is (((r23.2 : Int) != 0) = false)] hf39 (by kernel_rfl) ⟨(neF c41), trivial⟩ fun a42 hf43 => ?_
      refine thenN ?_
      refine condT hf43 (by kernel_rfl) ?_
      refine wp_seq ?_
      refine reg [] [0] [(0, .bool false)] [] hf43 (by kernel_rfl) trivial fun a44 hf45 => ?_
      refine thenN ?_
      refine wp_ret ?_
      refine thenR ?_
      have hm46 : Mem [] M w0 [] w33 := hm40.sel [] _ rfl (by kernel_rfl)
      obtain rfl := Option.some.inj H0
      refine ret [] [.bool false] [] hf45 (by kernel_rfl) trivial ?_
      exact ⟨_, rfl, rfl, hm46⟩
    · refine reg [.bool true] [1, 17] [(1, .pointer none), (17, .bool true)] [.is (((r23.2 : Int) != 0) = true)] hf39 (by kernel_rfl) ⟨(neT c41), trivial⟩ fun a48 hf49 => ?_
      refine thenN ?_
      refine condT hf49 (by kernel_rfl) ?_
      refine wp_seq ?_
      refine reg [] [0] [(0, .bool false)] [] hf49 (by kernel_rfl) trivial fun a50 hf51 => ?_
      refine thenN ?_
      refine wp_ret ?_
      refine thenR ?_
      have hm52 : Mem [] M w0 [] w33 := hm40.sel [] _ rfl (by kernel_rfl)
      obtain rfl := Option.some.inj H0
      refine ret [] [.bool false] [] hf51 (by kernel_rfl) trivial ?_
      exact ⟨_, rfl, rfl, hm52⟩
  · refine inReg ?_
    refine listOf hf22 rfl (by kernel_rfl) (aLit (cs := [.int .i64 1]) (E := 3) (len := 1) (d := 8) hf22 (by kernel_rfl) (by kernel_rfl) ?_)
    intro b54 w55 a56 hbb54 hx58 hg59 hf57
    have hm0s := hm0.still hg59
    have hm60 : Mem [] M w0 [.sl (Kd.int .i64) (some ⟨b54, 0, none⟩) 1 ([1] : List Int)] w55 := Mem.lit (kd := (Kd.int .i64)) (xs := ([1] : List Int)) hm0 hbb54 hx58 hg59 (Els.one (kd := (Kd.int .i64)) (us := [.int .i64 1]) (x := 1) rfl)
    refine listOf hf57 rfl (by kernel_rfl) (aCall (fid := 20) (args := [.slice (some ⟨b54, 0, none⟩) 1 1, .int .i64 2]) (d := 9) hf57 (by kernel_rfl) (by kernel_rfl) callable20 (fold_New.calls_s _ _ ([1] : List Int) (some ⟨b54, 0, none⟩) 1 1 rfl 2 (hm60.give [0] [.sl (Kd.int .i64) (some ⟨b54, 0, none⟩) 1 ([1] : List Int)] rfl rfl) r23 y25 c24 hr23) ?_)
    rintro _ w69 a70 ⟨b61, A62, c63, A65, c66, A67, c68, rfl, hk72⟩ hf71
    have hm73 := hm60.back hk72
    refine go 5 [] [1, 2] [(1, .pointer (some ⟨b61, 0, none⟩)), (2, .int .i64 r23.2)] [] hf71 (by kernel_rfl) trivial fun a74 hf75 => ?_
    refine endL rfl ?_
    have hm76 := hm73.sel [0, 1, 2, 3] _ rfl (by kernel_rfl)
    refine thenN ?_
    refine wp_seq ?_
    refine wp_seq ?_
    rcases if_split H0 with ⟨c77, H0⟩ | ⟨c77, H0⟩
    · refine reg [.bool false] [1, 17] [(1, .pointer (some ⟨b61, 0, none⟩)), (17, .bool false)] [.is (((r23.2 : Int) != 0) = false)] hf75 (by kernel_rfl) ⟨(neF c77), trivial⟩ fun a78 hf79 => ?_
      refine thenN ?_
      refine condF hf79 (by kernel_rfl) ?_
      refine wp_skip ?_
      refine thenN ?_
      refine wp_seq ?_
      obtain ⟨r80, hr80, H0⟩ := ob_split H0
      refine inReg ?_
      refine go 1 [] [1, 18] [(1, .pointer (some ⟨b61, 0, none⟩)), (18, .pointer (some ⟨b61, 0, none⟩))] [] hf79 (by kernel_rfl) trivial fun a81 hf82 => ?_
      refine listOf hf82 rfl (by kernel_rfl) (aLit (cs := [.int .i64 1]) (E := 3) (len := 1) (d := 19) hf82 (by kernel_rfl) (by kernel_rfl) ?_)
      intro b83 w84 a85 hbb83 hx87 hg88 hf86
      have hm76s := hm76.still hg88
      have hm89 : Mem [] M w0 [.sl (Kd.int .i64) (some ⟨b83, 0, none⟩) 1 ([1] : List Int), .bx b61 [.slice A62 y25.s.length c63, .slice A65 y25.l.length c66, .slice A67 y25.filled.length c68, .int .i64 y25.left] 80, .sl (Kd.int .i64) A62 c63 y25.s, .ow kTensor 28 A65 c66 y25.l, .ow Kd.bool 4 A67 c68 y25.filled] w84 := Mem.lit (kd := (Kd.int .i64)) (xs := ([1] : List Int)) hm76 hbb83 hx87 hg88 (Els.one (kd := (Kd.int .i64)) (us := [.int .i64 1]) (x := 1) rfl)
      refine listOf hf86 rfl (by kernel_rfl) (aLit (cs := [.float .f64 4611686018427387904]) (E := 44) (len := 1) (d := 20) hf86 (by kernel_rfl) (by kernel_rfl) ?_)
      intro b90 w91 a92 hbb90 hx94 hg95 hf93
      have hm89s := hm89.still hg95
      have hm96 : Mem [] M w0 [.sl Kd.float (some ⟨b90, 0, none⟩) 1 ([4611686018427387904] : List Nat), .sl (Kd.int .i64) (some ⟨b83, 0, none⟩) 1 ([1] : List Int), .bx b61 [.slice A62 y25.s.length c63, .slice A65 y25.l.length c66, .slice A67 y25.filled.length c68, .int .i64 y25.left] 80, .sl (Kd.int .i64) A62 c63 y25.s, .ow kTensor 28 A65 c66 y25.l, .ow Kd.bool 4 A67 c68 y25.filled] w91 := Mem.lit (kd := Kd.float) (xs := ([4611686018427387904] : List Nat)) hm89 hbb90 hx94 hg95 (Els.one (kd := Kd.float) (us := [.float .f64 4611686018427387904]) (x := 4611686018427387904) ⟨_, rfl, (FR.lit (by kernel_rfl) (by kernel_rfl))⟩)
      refine go 1 [] [1, 18, 21] [(1, .pointer (some ⟨b61, 0, none⟩)), (18, .pointer (some ⟨b61, 0, none⟩)), (21, .agg #[.slice (some ⟨b83, 0, none⟩) 1 1, .slice (some ⟨b90, 0, none⟩) 1 1])] [] hf93 (by kernel_rfl) trivial fun a97 hf98 => ?_
      refine listOf hf98 rfl (by kernel_rfl) (aCall (fid := 23) (args := [.pointer (some ⟨b61, 0, none⟩), .int .i64 1, .agg #[.slice (some ⟨b83, 0, none⟩) 1 1, .slice (some ⟨b90, 0, none⟩) 1 1]]) (d := 22) hf98 (by kernel_rfl) (by kernel_rfl) callable23 (fold_Slots_Put.calls _ _ _ y25 b61 A62 y25.s.length c63 rfl A65 y25.l.length c66 rfl A67 y25.filled.length c68 rfl 1 (⟨([1] : List Int), ([4611686018427387904] : List Nat)⟩ : Tensor) (some ⟨b83, 0, none⟩) 1 1 rfl (some ⟨b90, 0, none⟩) 1 1 rfl (hm96.giveO [2, 4, 5] [0, 1, 3] [3, 1, 0] [.bx b61 [.slice A62 y25.s.length c63, .slice A65 y25.l.length c66, .slice A67 y25.filled.length c68, .int .i64 y25.left] 80, .ow kTensor 28 A65 c66 y25.l, .ow Kd.bool 4 A67 c68 y25.filled] _ [.sl (Kd.int .i64) A62 c63 y25.s, .sl (Kd.int .i64) (some ⟨b83, 0, none⟩) 1 ([1] : List Int), .sl Kd.float (some ⟨b90, 0, none⟩) 1 ([4611686018427387904] : List Nat)] rfl rfl rfl (by kernel_rfl) rfl) r80 hr80) ?_)
      rintro _ w103 a104 ⟨A99, c100, A101, c102, rfl, hk106⟩ hf105
      have hm107 : Mem [] M w0 [.bx b61 [.slice A62 y25.s.length c63, .slice A99 r80.1.length c100, .slice A101 r80.2.1.length c102, .int .i64 r80.2.2.1] 80, .ow kTensor 28 A99 c100 r80.1, .ow Kd.bool 4 A101 c102 r80.2.1, .sl Kd.float (some ⟨b90, 0, none⟩) 1 ([4611686018427387904] : List Nat), .sl (Kd.int .i64) (some ⟨b83, 0, none⟩) 1 ([1] : List Int), .sl (Kd.int .i64) A62 c63 y25.s] w103 := hm96.backO [2, 4, 5] [0, 1, 3] _ _ rfl rfl (by kernel_rfl) hk106
      refine go 1 [] [1, 3] [(1, .pointer (some ⟨b61, 0, none⟩)), (3, .int .i64 r80.2.2.2)] [] hf105 (by kernel_rfl) trivial fun a108 hf109 => ?_
      refine endL rfl ?_
      have hm110 := hm107.sel [0, 1, 2, 5] _ rfl (by kernel_rfl)
      refine thenN ?_
      refine wp_seq ?_
      obtain ⟨r111, hr111, H0⟩ := ob_split H0
      refine inReg ?_
      refine go 1 [] [1, 3, 23] [(1, .pointer (some ⟨b61, 0, none⟩)), (3, .int .i64 r80.2.2.2), (23, .pointer (some ⟨b61, 0, none⟩))] [] hf109 (by kernel_rfl) trivial fun a112 hf113 => ?_
      refine listOf hf113 rfl (by kernel_rfl) (aLit (cs := [.int .i64 1]) (E := 3) (len := 1) (d := 24) hf113 (by kernel_rfl) (by kernel_rfl) ?_)
      intro b114 w115 a116 hbb114 hx118 hg119 hf117
      have hm110s := hm110.still hg119
      have hm120 : Mem [] M w0 [.sl (Kd.int .i64) (some ⟨b114, 0, none⟩) 1 ([1] : List Int), .bx b61 [.slice A62 y25.s.length c63, .slice A99 r80.1.length c100, .slice A101 r80.2.1.length c102, .int .i64 r80.2.2.1] 80, .ow kTensor 28 A99 c100 r80.1, .ow Kd.bool 4 A101 c102 r80.2.1, .sl (Kd.int .i64) A62 c63 y25.s] w115 := Mem.lit (kd := (Kd.int .i64)) (xs := ([1] : List Int)) hm110 hbb114 hx118 hg119 (Els.one (kd := (Kd.int .i64)) (us := [.int .i64 1]) (x := 1) rfl)
      refine listOf hf117 rfl (by kernel_rfl) (aLit (cs := [.float .f64 4607182418800017408]) (E := 44) (len := 1) (d := 25) hf117 (by kernel_rfl) (by kernel_rfl) ?_)
      intro b121 w122 a123 hbb121 hx125 hg126 hf124
      have hm120s := hm120.still hg126
      have hm127 : Mem [] M w0 [.sl Kd.float (some ⟨b121, 0, none⟩) 1 ([4607182418800017408] : List Nat), .sl (Kd.int .i64) (some ⟨b114, 0, none⟩) 1 ([1] : List Int), .bx b61 [.slice A62 y25.s.length c63, .slice A99 r80.1.length c100, .slice A101 r80.2.1.length c102, .int .i64 r80.2.2.1] 80, .ow kTensor 28 A99 c100 r80.1, .ow Kd.bool 4 A101 c102 r80.2.1, .sl (Kd.int .i64) A62 c63 y25.s] w122 := Mem.lit (kd := Kd.float) (xs := ([4607182418800017408] : List Nat)) hm120 hbb121 hx125 hg126 (Els.one (kd := Kd.float) (us := [.float .f64 4607182418800017408]) (x := 4607182418800017408) ⟨_, rfl, (FR.lit (by kernel_rfl) (by kernel_rfl))⟩)
      refine go 1 [] [1, 3, 23, 26] [(1, .pointer (some ⟨b61, 0, none⟩)), (3, .int .i64 r80.2.2.2), (23, .pointer (some ⟨b61, 0, none⟩)), (26, .agg #[.slice (some ⟨b114, 0, none⟩) 1 1, .slice (some ⟨b121, 0, none⟩) 1 1])] [] hf124 (by kernel_rfl) trivial fun a128 hf129 => ?_
      refine listOf hf129 rfl (by kernel_rfl) (aCall (fid := 23) (args := [.pointer (some ⟨b61, 0, none⟩), .int .i64 0, .agg #[.slice (some ⟨b114, 0, none⟩) 1 1, .slice (some ⟨b121, 0, none⟩) 1 1]]) (d := 27) hf129 (by kernel_rfl) (by kernel_rfl) callable23 (fold_Slots_Put.calls _ _ _ (⟨y25.s, r80.1, r80.2.1, r80.2.2.1⟩ : Slots) b61 A62 y25.s.length c63 rfl A99 r80.1.length c100 rfl A101 r80.2.1.length c102 rfl 0 (⟨([1] : List Int), ([4607182418800017408] : List Nat)⟩ : Tensor) (some ⟨b114, 0, none⟩) 1 1 rfl (some ⟨b121, 0, none⟩) 1 1 rfl (hm127.giveO [2, 3, 4] [0, 1, 5] [5, 1, 0] [.bx b61 [.slice A62 y25.s.length c63, .slice A99 r80.1.length c100, .slice A101 r80.2.1.length c102, .int .i64 r80.2.2.1] 80, .ow kTensor 28 A99 c100 r80.1, .ow Kd.bool 4 A101 c102 r80.2.1] _ [.sl (Kd.int .i64) A62 c63 y25.s, .sl (Kd.int .i64) (some ⟨b114, 0, none⟩) 1 ([1] : List Int), .sl Kd.float (some ⟨b121, 0, none⟩) 1 ([4607182418800017408] : List Nat)] rfl rfl rfl (by kernel_rfl) rfl) r111 hr111) ?_)
      rintro _ w134 a135 ⟨A130, c131, A132, c133, rfl, hk137⟩ hf136
      have hm138 : Mem [] M w0 [.bx b61 [.slice A62 y25.s.length c63, .slice A130 r111.1.length c131, .slice A132 r111.2.1.length c133, .int .i64 r111.2.2.1] 80, .ow kTensor 28 A130 c131 r111.1, .ow Kd.bool 4 A132 c133 r111.2.1, .sl Kd.float (some ⟨b121, 0, none⟩) 1 ([4607182418800017408] : List Nat), .sl (Kd.int .i64) (some ⟨b114, 0, none⟩) 1 ([1] : List Int), .sl (Kd.int .i64) A62 c63 y25.s] w134 := hm127.backO [2, 3, 4] [0, 1, 5] _ _ rfl rfl (by kernel_rfl) hk137
      refine go 1 [] [1, 3, 4] [(1, .pointer (some ⟨b61, 0, none⟩)), (3, .int .i64 r80.2.2.2), (4, .int .i64 r111.2.2.2)] [] hf136 (by kernel_rfl) trivial fun a139 hf140 => ?_
      refine endL rfl ?_
      have hm141 := hm138.sel [0, 1, 2, 5] _ rfl (by kernel_rfl)
      refine thenN ?_
      refine wp_seq ?_
      obtain ⟨r142, hr142, H0⟩ := ob_split H0
      refine inReg ?_
      refine go 1 [] [1, 3, 4, 29] [(1, .pointer (some ⟨b61, 0, none⟩)), (3, .int .i64 r80.2.2.2), (4, .int .i64 r111.2.2.2), (29, .pointer (some ⟨b61, 0, none⟩))] [] hf140 (by kernel_rfl) trivial fun a143 hf144 => ?_
      refine listOf hf144 rfl (by kernel_rfl) (aCall (fid := 21) (args := [.pointer (some ⟨b61, 0, none⟩)]) (d := 30) hf144 (by kernel_rfl) (by kernel_rfl) callable21 (fold_Slots_Value.calls _ _ _ (⟨y25.s, r111.1, r111.2.1, r111.2.2.1⟩ : Slots) b61 A62 y25.s.length c63 rfl A130 r111.1.length c131 rfl A132 r111.2.1.length c133 rfl (hm141.giveO [0, 1, 2] [3] [3] [.bx b61 [.slice A62 y25.s.length c63, .slice A130 r111.1.length c131, .slice A132 r111.2.1.length c133, .int .i64 r111.2.2.1] 80, .ow kTensor 28 A130 c131 r111.1, .ow Kd.bool 4 A132 c133 r111.2.1] _ [.sl (Kd.int .i64) A62 c63 y25.s] rfl rfl rfl (by kernel_rfl) rfl) r142 hr142) ?_)
      rintro _ w149 a150 ⟨A145, c146, A147, c148, rfl, hk152⟩ hf151
      have hm153 : Mem [] M w0 [.bx b61 [.slice A62 y25.s.length c63, .slice A130 r111.1.length c131, .slice A132 r111.2.1.length c133, .int .i64 r111.2.2.1] 80, .ow kTensor 28 A130 c131 r111.1, .ow Kd.bool 4 A132 c133 r111.2.1, .ow (Kd.int .i64) 3 A145 c146 r142.1.Shape, .ow Kd.float 44 A147 c148 r142.1.Data, .sl (Kd.int .i64) A62 c63 y25.s] w149 := hm141.backO [0, 1, 2] [3] _ _ rfl rfl (by kernel_rfl) hk152
      have hm154 := hm153.seal 3 _ rfl rfl
      have hm155 := hm154.seal 4 _ rfl rfl
      refine go 3 [] [1, 3, 4, 31, 32] [(1, .pointer (some ⟨b61, 0, none⟩)), (3, .int .i64 r80.2.2.2), (4, .int .i64 r111.2.2.2), (31, .agg #[.slice A145 r142.1.Shape.length c146, .slice A147 r142.1.Data.length c148]), (32, .int .i64 r142.2)] [] hf151 (by kernel_rfl) trivial fun a156 hf157 => ?_
      refine listOf hf157 rfl (by kernel_rfl) (aNew (cs := [.slice none 0 0, .slice none 0 0]) (T := 28) (d := 5) hf157 (by kernel_rfl) (by kernel_rfl) ?_)
      intro b158 w159 a160 hbb158 hx162 hg163 hf161
      have hm164 := hm155.box hbb158 hx162 hg163
      refine listOf hf161 rfl (by kernel_rfl) (aStoreB (b := b158) (j := 0) (T := 28) (cs := [.slice none 0 0, .slice none 0 0]) (us := [.slice A145 r142.1.Shape.length c146, .slice A147 r142.1.Data.length c148]) (cs' := [.slice A145 r142.1.Shape.length c146, .slice A147 r142.1.Data.length c148]) hf161 (by kernel_rfl) (hm164.bxAt 0 rfl) (by kernel_rfl) (by kernel_rfl) (by kernel_rfl) ?_)
      intro w165 hx166 hg167
      have hm168 := hm164.setBox 0 _ rfl rfl hx166 hg167
      refine go 1 [] [1, 3, 4, 5, 6] [(1, .pointer (some ⟨b61, 0, none⟩)), (3, .int .i64 r80.2.2.2), (4, .int .i64 r111.2.2.2), (5, .pointer (some ⟨b158, 0, none⟩)), (6, .int .i64 r142.2)] [] hf161 (by kernel_rfl) trivial fun a169 hf170 => ?_
      refine endL rfl ?_
      refine thenN ?_
      refine wp_seq ?_
      rcases if_split H0 with ⟨c171, H0⟩ | ⟨c171, H0⟩
      · rcases if_split H0 with ⟨c172, H0⟩ | ⟨c172, H0⟩
        · rcases if_split H0 with ⟨c173, H0⟩ | ⟨c173, H0⟩
          · obtain ⟨r174, hr174, H0⟩ := ob_split H0
            rcases if_split H0 with ⟨c175, H0⟩ | ⟨c175, H0⟩
            · rcases if_split H0 with ⟨c176, H0⟩ | ⟨c176, H0⟩
              · obtain ⟨g177, H0⟩ := if_guard H0
                rcases ifb_split H0 with ⟨c178, H0⟩ | ⟨c178, H0⟩
                · refine inReg ?_
                  refine go 12 [.bool true, .bool true, .bool true] [5, 43, 44] [(5, .pointer (some ⟨b158, 0, none⟩)), (43, .bool true), (44, .pointer (some ⟨b61, 0, none⟩))] [.is (((r80.2.2.2 : Int) == 0) = true), .is (((r111.2.2.2 : Int) == 0) = true), .is (((r142.2 : Int) == 0) = true)] hf170 (by kernel_rfl) ⟨(eqT c171), (eqT c172), (eqT c173), trivial⟩ fun a179 hf180 => ?_
                  refine listOf hf180 rfl (by kernel_rfl) (aCall (fid := 22) (args := [.pointer (some ⟨b61, 0, none⟩)]) (d := 45) hf180 (by kernel_rfl) (by kernel_rfl) callable22 (fold_Slots_Left.calls _ _ _ (⟨y25.s, r111.1, r111.2.1, r111.2.2.1⟩ : Slots) b61 A62 y25.s.length c63 rfl A130 r111.1.length c131 rfl A132 r111.2.1.length c133 rfl (hm168.giveO [1, 2, 3] [0, 4, 5, 6] [6] [.bx b61 [.slice A62 y25.s.length c63, .slice A130 r111.1.length c131, .slice A132 r111.2.1.length c133, .int .i64 r111.2.2.1] 80, .ow kTensor 28 A130 c131 r111.1, .ow Kd.bool 4 A132 c133 r111.2.1] _ [.sl (Kd.int .i64) A62 c63 y25.s] rfl rfl rfl (by kernel_rfl) rfl) r174 hr174) ?_)
                  rintro _ w181 a182 ⟨rfl, hk184⟩ hf183
                  have hm185 : Mem [] M w0 [.bx b61 [.slice A62 y25.s.length c63, .slice A130 r111.1.length c131, .slice A132 r111.2.1.length c133, .int .i64 r111.2.2.1] 80, .ow kTensor 28 A130 c131 r111.1, .ow Kd.bool 4 A132 c133 r111.2.1, .bx b158 [.slice A145 r142.1.Shape.length c146, .slice A147 r142.1.Data.length c148] 28, .sl (Kd.int .i64) A145 c146 r142.1.Shape, .sl Kd.float A147 c148 r142.1.Data, .sl (Kd.int .i64) A62 c63 y25.s] w181 := hm168.backO [1, 2, 3] [0, 4, 5, 6] _ _ rfl rfl (by kernel_rfl) hk184
                  have q186 := (hm185.slAt 5 rfl).float 0 g177.1 g177.2
                  obtain ⟨b187, hb187, kb187⟩ := q186.2
                  refine go 16 [.bool true, .slice A147 r142.1.Data.length c148, .bool true, .slice A147 r142.1.Data.length c148, .float .f64 b187, .bool true] [0] [(0, .bool true)] [.is (((r174 : Int) == 0) = true), .cell ⟨b158, 1, none⟩ (.slice A147 r142.1.Data.length c148), .is ((((r142.1.Data.length : Int) : Int) == 1) = true), .cell ⟨b158, 1, none⟩ (.slice A147 r142.1.Data.length c148), .is (Option.isSome A147 = true), .is ((0 : Int) ≤ 0 ∧ 0 < (r142.1.Data.length : Int)), .cell ((ad A147).add ((0 : Int).toNat * 1)) (.float .f64 b187), .is ((FloatKind.f64.format.order b187 4613937818241073152 == some .eq) = true)] hf183 (by kernel_rfl) ⟨(eqT c175), (hm185.cell 3 rfl rfl), (eqT c176), (hm185.cell 3 rfl rfl), q186.1, g177, kb187, (ftEq hb187 (FR.lit (by kernel_rfl) (by kernel_rfl)) c178), trivial⟩ fun a188 hf189 => ?_
                  refine endL rfl ?_
                  have hm190 := hm185.sel [] _ rfl (by kernel_rfl)
                  refine thenN ?_
                  refine wp_ret ?_
                  have hm191 : Mem [] M w0 [] w181 := hm190.sel [] _ rfl (by kernel_rfl)
                  obtain rfl := Option.some.inj H0
                  refine ret [] [.bool true] [] hf189 (by kernel_rfl) trivial ?_
                  exact ⟨_, rfl, rfl, hm191⟩
                · refine inReg ?_
                  refine go 12 [.bool true, .bool true, .bool true] [5, 43, 44] [(5, .pointer (some ⟨b158, 0, none⟩)), (43, .bool true), (44, .pointer (some ⟨b61, 0, none⟩))] [.is (((r80.2.2.2 : Int) == 0) = true), .is (((r111.2.2.2 : Int) == 0) = true), .is (((r142.2 : Int) == 0) = true)] hf170 (by kernel_rfl) ⟨(eqT c171), (eqT c172), (eqT c173), trivial⟩ fun a193 hf194 => ?_
                  refine listOf hf194 rfl (by kernel_rfl) (aCall (fid := 22) (args := [.pointer (some ⟨b61, 0, none⟩)]) (d := 45) hf194 (by kernel_rfl) (by kernel_rfl) callable22 (fold_Slots_Left.calls _ _ _ (⟨y25.s, r111.1, r111.2.1, r111.2.2.1⟩ : Slots) b61 A62 y25.s.length c63 rfl A130 r111.1.length c131 rfl A132 r111.2.1.length c133 rfl (hm168.giveO [1, 2, 3] [0, 4, 5, 6] [6] [.bx b61 [.slice A62 y25.s.length c63, .slice A130 r111.1.length c131, .slice A132 r111.2.1.length c133, .int .i64 r111.2.2.1] 80, .ow kTensor 28 A130 c131 r111.1, .ow Kd.bool 4 A132 c133 r111.2.1] _ [.sl (Kd.int .i64) A62 c63 y25.s] rfl rfl rfl (by kernel_rfl) rfl) r174 hr174) ?_)
                  rintro _ w195 a196 ⟨rfl, hk198⟩ hf197
                  have hm199 : Mem [] M w0 [.bx b61 [.slice A62 y25.s.length c63, .slice A130 r111.1.length c131, .slice A132 r111.2.1.length c133, .int .i64 r111.2.2.1] 80, .ow kTensor 28 A130 c131 r111.1, .ow Kd.bool 4 A132 c133 r111.2.1, .bx b158 [.slice A145 r142.1.Shape.length c146, .slice A147 r142.1.Data.length c148] 28, .sl (Kd.int .i64) A145 c146 r142.1.Shape, .sl Kd.float A147 c148 r142.1.Data, .sl (Kd.int .i64) A62 c63 y25.s] w195 := hm168.backO [1, 2, 3] [0, 4, 5, 6] _ _ rfl rfl (by kernel_rfl) hk198
                  have q200 := (hm199.slAt 5 rfl).float 0 g177.1 g177.2
                  obtain ⟨b201, hb201, kb201⟩ := q200.2
                  refine go 16 [.bool true, .slice A147 r142.1.Data.length c148, .bool true, .slice A147 r142.1.Data.length c148, .float .f64 b201, .bool false] [0] [(0, .bool false)] [.is (((r174 : Int) == 0) = true), .cell ⟨b158, 1, none⟩ (.slice A147 r142.1.Data.length c148), .is ((((r142.1.Data.length : Int) : Int) == 1) = true), .cell ⟨b158, 1, none⟩ (.slice A147 r142.1.Data.length c148), .is (Option.isSome A147 = true), .is ((0 : Int) ≤ 0 ∧ 0 < (r142.1.Data.length : Int)), .cell ((ad A147).add ((0 : Int).toNat * 1)) (.float .f64 b201), .is ((FloatKind.f64.format.order b201 4613937818241073152 == some .eq) = false)] hf197 (by kernel_rfl) ⟨(eqT c175), (hm199.cell 3 rfl rfl), (eqT c176), (hm199.cell 3 rfl rfl), q200.1, g177, kb201, (ftEq hb201 (FR.lit (by kernel_rfl) (by kernel_rfl)) c178), trivial⟩ fun a202 hf203 => ?_
                  refine endL rfl ?_
                  have hm204 := hm199.sel [] _ rfl (by kernel_rfl)
                  refine thenN ?_
                  refine wp_ret ?_
                  have hm205 : Mem [] M w0 [] w195 := hm204.sel [] _ rfl (by kernel_rfl)
                  obtain rfl := Option.some.inj H0
                  refine ret [] [.bool false] [] hf203 (by kernel_rfl) trivial ?_
                  exact ⟨_, rfl, rfl, hm205⟩
              · refine inReg ?_
                refine go 12 [.bool true, .bool true, .bool true] [5, 43, 44] [(5, .pointer (some ⟨b158, 0, none⟩)), (43, .bool true), (44, .pointer (some ⟨b61, 0, none⟩))] [.is (((r80.2.2.2 : Int) == 0) = true), .is (((r111.2.2.2 : Int) == 0) = true), .is (((r142.2 : Int) == 0) = true)] hf170 (by kernel_rfl) ⟨(eqT c171), (eqT c172), (eqT c173), trivial⟩ fun a207 hf208 => ?_
                refine listOf hf208 rfl (by kernel_rfl) (aCall (fid := 22) (args := [.pointer (some ⟨b61, 0, none⟩)]) (d := 45) hf208 (by kernel_rfl) (by kernel_rfl) callable22 (fold_Slots_Left.calls _ _ _ (⟨y25.s, r111.1, r111.2.1, r111.2.2.1⟩ : Slots) b61 A62 y25.s.length c63 rfl A130 r111.1.length c131 rfl A132 r111.2.1.length c133 rfl (hm168.giveO [1, 2, 3] [0, 4, 5, 6] [6] [.bx b61 [.slice A62 y25.s.length c63, .slice A130 r111.1.length c131, .slice A132 r111.2.1.length c133, .int .i64 r111.2.2.1] 80, .ow kTensor 28 A130 c131 r111.1, .ow Kd.bool 4 A132 c133 r111.2.1] _ [.sl (Kd.int .i64) A62 c63 y25.s] rfl rfl rfl (by kernel_rfl) rfl) r174 hr174) ?_)
                rintro _ w209 a210 ⟨rfl, hk212⟩ hf211
                have hm213 : Mem [] M w0 [.bx b61 [.slice A62 y25.s.length c63, .slice A130 r111.1.length c131, .slice A132 r111.2.1.length c133, .int .i64 r111.2.2.1] 80, .ow kTensor 28 A130 c131 r111.1, .ow Kd.bool 4 A132 c133 r111.2.1, .bx b158 [.slice A145 r142.1.Shape.length c146, .slice A147 r142.1.Data.length c148] 28, .sl (Kd.int .i64) A145 c146 r142.1.Shape, .sl Kd.float A147 c148 r142.1.Data, .sl (Kd.int .i64) A62 c63 y25.s] w209 := hm168.backO [1, 2, 3] [0, 4, 5, 6] _ _ rfl rfl (by kernel_rfl) hk212
                refine go 16 [.bool true, .slice A147 r142.1.Data.length c148, .bool false] [0] [(0, .bool false)] [.is (((r174 : Int) == 0) = true), .cell ⟨b158, 1, none⟩ (.slice A147 r142.1.Data.length c148), .is ((((r142.1.Data.length : Int) : Int) == 1) = false)] hf211 (by kernel_rfl) ⟨(eqT c175), (hm213.cell 3 rfl rfl), (eqF c176), trivial⟩ fun a214 hf215 => ?_
                refine endL rfl ?_
                have hm216 := hm213.sel [] _ rfl (by kernel_rfl)
                refine thenN ?_
                refine wp_ret ?_
                have hm217 : Mem [] M w0 [] w209 := hm216.sel [] _ rfl (by kernel_rfl)
                obtain rfl := Option.some.inj H0
                refine ret [] [.bool false] [] hf215 (by kernel_rfl) trivial ?_
                exact ⟨_, rfl, rfl, hm217⟩
            · refine inReg ?_
              refine go 12 [.bool true, .bool true, .bool true] [5, 43, 44] [(5, .pointer (some ⟨b158, 0, none⟩)), (43, .bool true), (44, .pointer (some ⟨b61, 0, none⟩))] [.is (((r80.2.2.2 : Int) == 0) = true), .is (((r111.2.2.2 : Int) == 0) = true), .is (((r142.2 : Int) == 0) = true)] hf170 (by kernel_rfl) ⟨(eqT c171), (eqT c172), (eqT c173), trivial⟩ fun a219 hf220 => ?_
              refine listOf hf220 rfl (by kernel_rfl) (aCall (fid := 22) (args := [.pointer (some ⟨b61, 0, none⟩)]) (d := 45) hf220 (by kernel_rfl) (by kernel_rfl) callable22 (fold_Slots_Left.calls _ _ _ (⟨y25.s, r111.1, r111.2.1, r111.2.2.1⟩ : Slots) b61 A62 y25.s.length c63 rfl A130 r111.1.length c131 rfl A132 r111.2.1.length c133 rfl (hm168.giveO [1, 2, 3] [0, 4, 5, 6] [6] [.bx b61 [.slice A62 y25.s.length c63, .slice A130 r111.1.length c131, .slice A132 r111.2.1.length c133, .int .i64 r111.2.2.1] 80, .ow kTensor 28 A130 c131 r111.1, .ow Kd.bool 4 A132 c133 r111.2.1] _ [.sl (Kd.int .i64) A62 c63 y25.s] rfl rfl rfl (by kernel_rfl) rfl) r174 hr174) ?_)
              rintro _ w221 a222 ⟨rfl, hk224⟩ hf223
              have hm225 : Mem [] M w0 [.bx b61 [.slice A62 y25.s.length c63, .slice A130 r111.1.length c131, .slice A132 r111.2.1.length c133, .int .i64 r111.2.2.1] 80, .ow kTensor 28 A130 c131 r111.1, .ow Kd.bool 4 A132 c133 r111.2.1, .bx b158 [.slice A145 r142.1.Shape.length c146, .slice A147 r142.1.Data.length c148] 28, .sl (Kd.int .i64) A145 c146 r142.1.Shape, .sl Kd.float A147 c148 r142.1.Data, .sl (Kd.int .i64) A62 c63 y25.s] w221 := hm168.backO [1, 2, 3] [0, 4, 5, 6] _ _ rfl rfl (by kernel_rfl) hk224
              refine go 16 [.bool false] [0] [(0, .bool false)] [.is (((r174 : Int) == 0) = false)] hf223 (by kernel_rfl) ⟨(eqF c175), trivial⟩ fun a226 hf227 => ?_
              refine endL rfl ?_
              have hm228 := hm225.sel [] _ rfl (by kernel_rfl)
              refine thenN ?_
              refine wp_ret ?_
              have hm229 : Mem [] M w0 [] w221 := hm228.sel [] _ rfl (by kernel_rfl)
              obtain rfl := Option.some.inj H0
              refine ret [] [.bool false] [] hf227 (by kernel_rfl) trivial ?_
              exact ⟨_, rfl, rfl, hm229⟩
          · refine reg [.bool true, .bool true, .bool false] [0] [(0, .bool false)] [.is (((r80.2.2.2 : Int) == 0) = true), .is (((r111.2.2.2 : Int) == 0) = true), .is (((r142.2 : Int) == 0) = false)] hf170 (by kernel_rfl) ⟨(eqT c171), (eqT c172), (eqF c173), trivial⟩ fun a231 hf232 => ?_
            have hm233 := hm168.sel [] _ rfl (by kernel_rfl)
            refine thenN ?_
            refine wp_ret ?_
            have hm234 : Mem [] M w0 [] w165 := hm233.sel [] _ rfl (by kernel_rfl)
            obtain rfl := Option.some.inj H0
            refine ret [] [.bool false] [] hf232 (by kernel_rfl) trivial ?_
            exact ⟨_, rfl, rfl, hm234⟩
        · refine reg [.bool true, .bool false] [0] [(0, .bool false)] [.is (((r80.2.2.2 : Int) == 0) = true), .is (((r111.2.2.2 : Int) == 0) = false)] hf170 (by kernel_rfl) ⟨(eqT c171), (eqF c172), trivial⟩ fun a236 hf237 => ?_
          have hm238 := hm168.sel [] _ rfl (by kernel_rfl)
          refine thenN ?_
          refine wp_ret ?_
          have hm239 : Mem [] M w0 [] w165 := hm238.sel [] _ rfl (by kernel_rfl)
          obtain rfl := Option.some.inj H0
          refine ret [] [.bool false] [] hf237 (by kernel_rfl) trivial ?_
          exact ⟨_, rfl, rfl, hm239⟩
      · refine reg [.bool false] [0] [(0, .bool false)] [.is (((r80.2.2.2 : Int) == 0) = false)] hf170 (by kernel_rfl) ⟨(eqF c171), trivial⟩ fun a241 hf242 => ?_
        have hm243 := hm168.sel [] _ rfl (by kernel_rfl)
        refine thenN ?_
        refine wp_ret ?_
        have hm244 : Mem [] M w0 [] w165 := hm243.sel [] _ rfl (by kernel_rfl)
        obtain rfl := Option.some.inj H0
        refine ret [] [.bool false] [] hf242 (by kernel_rfl) trivial ?_
        exact ⟨_, rfl, rfl, hm244⟩
    · refine reg [.bool true] [1, 17] [(1, .pointer (some ⟨b61, 0, none⟩)), (17, .bool true)] [.is (((r23.2 : Int) != 0) = true)] hf75 (by kernel_rfl) ⟨(neT c77), trivial⟩ fun a246 hf247 => ?_
      refine thenN ?_
      refine condT hf247 (by kernel_rfl) ?_
      refine wp_seq ?_
      refine reg [] [0] [(0, .bool false)] [] hf247 (by kernel_rfl) trivial fun a248 hf249 => ?_
      have hm250 := hm76.sel [] _ rfl (by kernel_rfl)
      refine thenN ?_
      refine wp_ret ?_
      refine thenR ?_
      have hm251 : Mem [] M w0 [] w69 := hm250.sel [] _ rfl (by kernel_rfl)
      obtain rfl := Option.some.inj H0
      refine ret [] [.bool false] [] hf249 (by kernel_rfl) trivial ?_
      exact ⟨_, rfl, rfl, hm251⟩

/-! ### backstitch/backstitchlaw3.Small -/
noncomputable def law3_Small.f (x0 : Tensor) : Option Bool :=
  if (x0.Shape.length : Int) ≤ 40 then (if (x0.Data.length : Int) ≤ 8192 then (some true)
  else (some false))
  else (some false)
set_option maxRecDepth 100000 in
set_option maxHeartbeats 4000000 in
theorem law3_Small.calls (M : List (Option Nat)) (w0 : World) (x0 : Tensor) (A0_0 : Option Addr) (n0_0 c0_0 : Nat) (e0_0 : n0_0 = x0.Shape.length) (A0_1 : Option Addr) (n0_1 c0_1 : Nat) (e0_1 : n0_1 = x0.Data.length) (hm0 : Mem [] M w0 [.sl (Kd.int .i64) A0_0 c0_0 x0.Shape, .sl Kd.float A0_1 c0_1 x0.Data] w0) (r : Bool) (H0 : law3_Small.f x0 = some r) :
    Calls Try.prog 31 [.agg #[.slice A0_0 n0_0 c0_0, .slice A0_1 n0_1 c0_1]].toArray w0 (fun x w' => ∃ v, x = .returned v ∧ v = .bool r ∧ Mem [] M w0 [] w') := by
  subst e0_0
  subst e0_1
  unfold law3_Small.f at H0
  refine enter (n := 13) Try.func31 rfl rfl (by kernel_rfl) fun a0 (hf0 : Fr 13 a0 [(0, .agg #[.slice A0_0 x0.Shape.length c0_0, .slice A0_1 x0.Data.length c0_1])]) => ?_
  refine wp_seq ?_
  refine inReg ?_
  refine listOf hf0 rfl (by kernel_rfl) (aNew (cs := [.slice A0_0 x0.Shape.length c0_0, .slice A0_1 x0.Data.length c0_1]) (T := 28) (d := 1) hf0 (by kernel_rfl) (by kernel_rfl) ?_)
  intro b21 w22 a23 hbb21 hx25 hg26 hf24
  have hm27 := hm0.box hbb21 hx25 hg26
  refine go 1 [] [1] [(1, .pointer (some ⟨b21, 0, none⟩))] [] hf24 (by kernel_rfl) trivial fun a28 hf29 => ?_
  refine endL rfl ?_
  refine thenN ?_
  refine wp_seq ?_
  rcases if_split H0 with ⟨c30, H0⟩ | ⟨c30, H0⟩
  · rcases if_split H0 with ⟨c31, H0⟩ | ⟨c31, H0⟩
    · refine reg [.slice A0_0 x0.Shape.length c0_0, .bool true, .slice A0_1 x0.Data.length c0_1, .bool true] [2] [(2, .bool true)] [.cell ⟨b21, 0, none⟩ (.slice A0_0 x0.Shape.length c0_0), .is (decide ((x0.Shape.length : Int) ≤ 40) = true), .cell ⟨b21, 1, none⟩ (.slice A0_1 x0.Data.length c0_1), .is (decide ((x0.Data.length : Int) ≤ 8192) = true)] hf29 (by kernel_rfl) ⟨(hm27.cell 0 rfl rfl), (decide_eq_true c30), (hm27.cell 0 rfl rfl), (decide_eq_true c31), trivial⟩ fun a32 hf33 => ?_
      have hm34 := hm27.sel [] _ rfl (by kernel_rfl)
      refine thenN ?_
      refine wp_ret ?_
      have hm35 : Mem [] M w0 [] w22 := hm34.sel [] _ rfl (by kernel_rfl)
      obtain rfl := Option.some.inj H0
      refine ret [] [.bool true] [] hf33 (by kernel_rfl) trivial ?_
      exact ⟨_, rfl, rfl, hm35⟩
    · refine reg [.slice A0_0 x0.Shape.length c0_0, .bool true, .slice A0_1 x0.Data.length c0_1, .bool false] [2] [(2, .bool false)] [.cell ⟨b21, 0, none⟩ (.slice A0_0 x0.Shape.length c0_0), .is (decide ((x0.Shape.length : Int) ≤ 40) = true), .cell ⟨b21, 1, none⟩ (.slice A0_1 x0.Data.length c0_1), .is (decide ((x0.Data.length : Int) ≤ 8192) = false)] hf29 (by kernel_rfl) ⟨(hm27.cell 0 rfl rfl), (decide_eq_true c30), (hm27.cell 0 rfl rfl), (decide_eq_false c31), trivial⟩ fun a37 hf38 => ?_
      have hm39 := hm27.sel [] _ rfl (by kernel_rfl)
      refine thenN ?_
      refine wp_ret ?_
      have hm40 : Mem [] M w0 [] w22 := hm39.sel [] _ rfl (by kernel_rfl)
      obtain rfl := Option.some.inj H0
      refine ret [] [.bool false] [] hf38 (by kernel_rfl) trivial ?_
      exact ⟨_, rfl, rfl, hm40⟩
  · refine reg [.slice A0_0 x0.Shape.length c0_0, .bool false] [2] [(2, .bool false)] [.cell ⟨b21, 0, none⟩ (.slice A0_0 x0.Shape.length c0_0), .is (decide ((x0.Shape.length : Int) ≤ 40) = false)] hf29 (by kernel_rfl) ⟨(hm27.cell 0 rfl rfl), (decide_eq_false c30), trivial⟩ fun a42 hf43 => ?_
    have hm44 := hm27.sel [] _ rfl (by kernel_rfl)
    refine thenN ?_
    refine wp_ret ?_
    have hm45 : Mem [] M w0 [] w22 := hm44.sel [] _ rfl (by kernel_rfl)
    obtain rfl := Option.some.inj H0
    refine ret [] [.bool false] [] hf43 (by kernel_rfl) trivial ?_
    exact ⟨_, rfl, rfl, hm45⟩

/-! ### backstitch/backstitchlaw8.Few -/
noncomputable def law8_Few.l0 (x0 : (List Tensor)) (s27 : (Int × Int)) : Step (Int × Int) (Out2 (Int × Int) Bool) :=
  if s27.2 < (x0.length : Int) then (if 0 ≤ s27.2 ∧ s27.2 < (x0.length : Int) then (bindS (law3_Small.f (⟨((rd x0 s27.2).Shape), ((rd x0 s27.2).Data)⟩ : Tensor)) fun r51 =>
  if r51 = true then (.next ((w64 (s27.1 + ((((rd x0 s27.2).Data).length : Nat) : Int))), (w64 (s27.2 + 1))))
  else (.done (.ret false)))
  else .bad)
  else (.done (.go (s27.1, s27.2)))
noncomputable def law8_Few.f (x0 : (List Tensor)) : Option Bool :=
  (loop (law8_Few.l0 x0) (0, 0)).bind fun r28 =>
  r28.on (fun yr28 =>
  if (x0.length : Int) ≤ 40 then (if yr28.1 ≤ 20000 then (some true)
  else (some false))
  else (some false)) (fun y => some y)
set_option maxRecDepth 100000 in
set_option maxHeartbeats 4000000 in
theorem law8_Few.calls (M : List (Option Nat)) (w0 : World) (x0 : (List Tensor)) (A0 : Option Addr) (n0 c0 : Nat) (e0 : n0 = x0.length) (hm0 : Mem [] M w0 [.sl kTensor A0 c0 x0] w0) (r : Bool) (H0 : law8_Few.f x0 = some r) :
    Calls Try.prog 16 [.slice A0 n0 c0].toArray w0 (fun x w' => ∃ v, x = .returned v ∧ v = .bool r ∧ Mem [] M w0 [] w') := by
  subst e0
  unfold law8_Few.f at H0
  refine enter (n := 32) Try.func16 rfl rfl (by kernel_rfl) fun a0 (hf0 : Fr 32 a0 [(0, .slice A0 x0.length c0)]) => ?_
  refine wp_seq ?_
  refine reg [] [0] [(0, .slice A0 x0.length c0)] [] hf0 (by kernel_rfl) trivial fun a21 hf22 => ?_
  refine thenN ?_
  refine wp_seq ?_
  refine reg [] [0, 3] [(0, .slice A0 x0.length c0), (3, .int .i64 0)] [] hf22 (by kernel_rfl) trivial fun a23 hf24 => ?_
  refine thenN ?_
  refine wp_seq ?_
  refine wp_seq ?_
  refine reg [] [0, 3, 4] [(0, .slice A0 x0.length c0), (3, .int .i64 0), (4, .int .i64 0)] [] hf24 (by kernel_rfl) trivial fun a25 hf26 => ?_
  refine thenN ?_
  obtain ⟨r28, hr28, H0⟩ := ob_split H0
  refine wpBlock (Mid := fun (a : Act) (w : World) => ∃ yr28 : (Int × Int), r28 = .go yr28 ∧ Fr 32 a [(0, .slice A0 x0.length c0), (3, .int .i64 yr28.1), (4, .int .i64 yr28.2)] ∧ Mem [] M w0 [.sl kTensor A0 c0 x0] w) ?_ ?_
  · refine wpLoop (law8_Few.l0 x0) r28 (fun (s27 : (Int × Int)) (a : Act) (w : World) => Fr 32 a [(0, .slice A0 x0.length c0), (3, .int .i64 s27.1), (4, .int .i64 s27.2)] ∧ Mem [] M w0 [.sl kTensor A0 c0 x0] w) (0, 0) hr28 ⟨hf26.sel (l := [0, 3, 4]) (by kernel_rfl), hm0.sel [0] _ rfl (by kernel_rfl)⟩ ?_
    rintro g29 s27 a30 w31 H1 ⟨hf32, hm33⟩
    unfold law8_Few.l0 at H1
    refine wp_seq ?_
    refine wp_seq ?_
    rcases ifS_split H1 with ⟨c34, H1⟩ | ⟨c34, H1⟩
    · refine reg [.bool true] [0, 3, 4, 8] [(0, .slice A0 x0.length c0), (3, .int .i64 s27.1), (4, .int .i64 s27.2), (8, .bool true)] [.is (decide (s27.2 < (x0.length : Int)) = true)] hf32 (by kernel_rfl) ⟨(decide_eq_true c34), trivial⟩ fun a35 hf36 => ?_
      refine thenN ?_
      refine condT hf36 (by kernel_rfl) ?_
      refine wp_skip ?_
      refine thenN ?_
      refine wp_seq ?_
      refine wp_block ?_
      refine wp_seq ?_
      obtain ⟨g37, H1⟩ := ifS_guard H1
      have q38 := (hm33.slAt 0 rfl).get s27.2 g37.1 g37.2
      obtain ⟨us39, hr40, hc41⟩ := q38.2
      obtain ⟨A42, c43, A44, c45, rfl, ⟨pA42, sA42⟩, ⟨pA44, sA44⟩⟩ := kTensor.open hr40
      have hm46 : Mem [] M w0 [.sl (Kd.int .i64) A42 c43 ((rd x0 s27.2).Shape), .sl kTensor A0 c0 x0] w31 := hm33.elem pA42 sA42
      have hm47 : Mem [] M w0 [.sl Kd.float A44 c45 ((rd x0 s27.2).Data), .sl (Kd.int .i64) A42 c43 ((rd x0 s27.2).Shape), .sl kTensor A0 c0 x0] w31 := hm46.elem pA44 sA44
      refine reg [.slice A44 (((rd x0 s27.2).Data).length) c45] [0, 3, 4] [(0, .slice A0 x0.length c0), (3, .int .i64 (w64 (s27.1 + ((((rd x0 s27.2).Data).length : Nat) : Int)))), (4, .int .i64 s27.2)] [.is (Option.isSome A0 = true), .is (0 ≤ s27.2 ∧ s27.2 < (x0.length : Int)), .cell (((ad A0).add ((s27.2).toNat * 2)).add 1) (.slice A44 (((rd x0 s27.2).Data).length) c45)] hf36 (by kernel_rfl) ⟨q38.1, g37, (hc41 1 _ rfl), trivial⟩ fun a48 hf49 => ?_
      have hm50 := hm47.sel [2] _ rfl (by kernel_rfl)
      refine thenN ?_
      refine wp_seq ?_
      obtain ⟨r51, hr51, H1⟩ := obS_split H1
      rcases ifbS_split H1 with ⟨c52, H1⟩ | ⟨c52, H1⟩
      · have q53 := (hm50.slAt 0 rfl).get s27.2 g37.1 g37.2
        obtain ⟨us54, hr55, hc56⟩ := q53.2
        obtain ⟨A57, c58, A59, c60, rfl, ⟨pA57, sA57⟩, ⟨pA59, sA59⟩⟩ := kTensor.open hr55
        have hm61 : Mem [] M w0 [.sl (Kd.int .i64) A57 c58 ((rd x0 s27.2).Shape), .sl kTensor A0 c0 x0] w31 := hm50.elem pA57 sA57
        have hm62 : Mem [] M w0 [.sl Kd.float A59 c60 ((rd x0 s27.2).Data), .sl (Kd.int .i64) A57 c58 ((rd x0 s27.2).Shape), .sl kTensor A0 c0 x0] w31 := hm61.elem pA59 sA59
        refine inReg ?_
        refine go 4 [.agg #[.slice A57 (((rd x0 s27.2).Shape).length) c58, .slice A59 (((rd x0 s27.2).Data).length) c60]] [0, 3, 4, 22] [(0, .slice A0 x0.length c0), (3, .int .i64 (w64 (s27.1 + ((((rd x0 s27.2).Data).length : Nat) : Int)))), (4, .int .i64 s27.2), (22, .agg #[.slice A57 (((rd x0 s27.2).Shape).length) c58, .slice A59 (((rd x0 s27.2).Data).length) c60])] [.is (Option.isSome A0 = true), .is (0 ≤ s27.2 ∧ s27.2 < (x0.length : Int)), .cell ((ad A0).add ((s27.2).toNat * 2)) (.slice A57 (((rd x0 s27.2).Shape).length) c58), .cell (((ad A0).add ((s27.2).toNat * 2)).add 1) (.slice A59 (((rd x0 s27.2).Data).length) c60)] hf49 (by kernel_rfl) ⟨q53.1, g37, (hc56 0 _ rfl), (hc56 1 _ rfl), trivial⟩ fun a63 hf65 => ?_
        refine listOf hf65 rfl (by kernel_rfl) (aCall (fid := 31) (args := [.agg #[.slice A57 (((rd x0 s27.2).Shape).length) c58, .slice A59 (((rd x0 s27.2).Data).length) c60]]) (d := 23) hf65 (by kernel_rfl) (by kernel_rfl) callable31 (law3_Small.calls _ _ (⟨((rd x0 s27.2).Shape), ((rd x0 s27.2).Data)⟩ : Tensor) A57 (((rd x0 s27.2).Shape).length) c58 rfl A59 (((rd x0 s27.2).Data).length) c60 rfl (hm62.give [1, 0] [.sl (Kd.int .i64) A57 c58 ((rd x0 s27.2).Shape), .sl Kd.float A59 c60 ((rd x0 s27.2).Data)] rfl rfl) r51 hr51) ?_)
        rintro _ w66 a67 ⟨rfl, hk69⟩ hf68
        have hm70 := hm62.still hk69.cum.none
        rw [c52] at hf68
        refine go 1 [] [0, 3, 4, 24] [(0, .slice A0 x0.length c0), (3, .int .i64 (w64 (s27.1 + ((((rd x0 s27.2).Data).length : Nat) : Int)))), (4, .int .i64 s27.2), (24, .bool false)] [] hf68 (by kernel_rfl) trivial fun a71 hf72 => ?_
        refine endL rfl ?_
        have hm73 := hm70.sel [2] _ rfl (by kernel_rfl)
        refine thenN ?_
        refine condF hf72 (by kernel_rfl) ?_
        refine wp_skip ?_
        refine blkN ?_
        refine thenN ?_
        refine reg [] [0, 3, 4] [(0, .slice A0 x0.length c0), (3, .int .i64 (w64 (s27.1 + ((((rd x0 s27.2).Data).length : Nat) : Int)))), (4, .int .i64 (w64 (s27.2 + 1)))] [] hf72 (by kernel_rfl) trivial fun a74 hf75 => ?_
        exact ⟨((w64 (s27.1 + ((((rd x0 s27.2).Data).length : Nat) : Int))), (w64 (s27.2 + 1))), H1, hf75.sel (l := [0, 3, 4]) (by kernel_rfl), hm73.sel [0] _ rfl (by kernel_rfl)⟩
      · have q76 := (hm50.slAt 0 rfl).get s27.2 g37.1 g37.2
        obtain ⟨us77, hr78, hc79⟩ := q76.2
        obtain ⟨A80, c81, A82, c83, rfl, ⟨pA80, sA80⟩, ⟨pA82, sA82⟩⟩ := kTensor.open hr78
        have hm84 : Mem [] M w0 [.sl (Kd.int .i64) A80 c81 ((rd x0 s27.2).Shape), .sl kTensor A0 c0 x0] w31 := hm50.elem pA80 sA80
        have hm85 : Mem [] M w0 [.sl Kd.float A82 c83 ((rd x0 s27.2).Data), .sl (Kd.int .i64) A80 c81 ((rd x0 s27.2).Shape), .sl kTensor A0 c0 x0] w31 := hm84.elem pA82 sA82
        refine inReg ?_
        refine go 4 [.agg #[.slice A80 (((rd x0 s27.2).Shape).length) c81, .slice A82 (((rd x0 s27.2).Data).length) c83]] [0, 3, 4, 22] [(0, .slice A0 x0.length c0), (3, .int .i64 (w64 (s27.1 + ((((rd x0 s27.2).Data).length : Nat) : Int)))), (4, .int .i64 s27.2), (22, .agg #[.slice A80 (((rd x0 s27.2).Shape).length) c81, .slice A82 (((rd x0 s27.2).Data).length) c83])] [.is (Option.isSome A0 = true), .is (0 ≤ s27.2 ∧ s27.2 < (x0.length : Int)), .cell ((ad A0).add ((s27.2).toNat * 2)) (.slice A80 (((rd x0 s27.2).Shape).length) c81), .cell (((ad A0).add ((s27.2).toNat * 2)).add 1) (.slice A82 (((rd x0 s27.2).Data).length) c83)] hf49 (by kernel_rfl) ⟨q76.1, g37, (hc79 0 _ rfl), (hc79 1 _ rfl), trivial⟩ fun a86 hf87 => ?_
        refine listOf hf87 rfl (by kernel_rfl) (aCall (fid := 31) (args := [.agg #[.slice A80 (((rd x0 s27.2).Shape).length) c81, .slice A82 (((rd x0 s27.2).Data).length) c83]]) (d := 23) hf87 (by kernel_rfl) (by kernel_rfl) callable31 (law3_Small.calls _ _ (⟨((rd x0 s27.2).Shape), ((rd x0 s27.2).Data)⟩ : Tensor) A80 (((rd x0 s27.2).Shape).length) c81 rfl A82 (((rd x0 s27.2).Data).length) c83 rfl (hm85.give [1, 0] [.sl (Kd.int .i64) A80 c81 ((rd x0 s27.2).Shape), .sl Kd.float A82 c83 ((rd x0 s27.2).Data)] rfl rfl) r51 hr51) ?_)
        rintro _ w88 a89 ⟨rfl, hk91⟩ hf90
        have hm92 := hm85.still hk91.cum.none
        rw [c52] at hf90
        refine go 1 [] [0, 3, 4, 24] [(0, .slice A0 x0.length c0), (3, .int .i64 (w64 (s27.1 + ((((rd x0 s27.2).Data).length : Nat) : Int)))), (4, .int .i64 s27.2), (24, .bool true)] [] hf90 (by kernel_rfl) trivial fun a93 hf94 => ?_
        refine endL rfl ?_
        have hm95 := hm92.sel [2] _ rfl (by kernel_rfl)
        refine thenN ?_
        refine condT hf94 (by kernel_rfl) ?_
        refine wp_seq ?_
        refine reg [] [2] [(2, .bool false)] [] hf94 (by kernel_rfl) trivial fun a96 hf97 => ?_
        have hm98 := hm95.sel [] _ rfl (by kernel_rfl)
        refine thenN ?_
        refine wp_ret ?_
        refine blkR ?_
        refine thenR ?_
        refine thenR ?_
        refine .inr ⟨rfl, ?_⟩
        refine thenR ?_
        have hm99 : Mem [] M w0 [] w88 := hm98.sel [] _ rfl (by kernel_rfl)
        obtain rfl := Option.some.inj H1
        obtain rfl := Option.some.inj H0
        refine ret [] [.bool false] [] hf97 (by kernel_rfl) trivial ?_
        exact ⟨_, rfl, rfl, hm99⟩
    · refine reg [.bool false] [0, 3, 4, 8] [(0, .slice A0 x0.length c0), (3, .int .i64 s27.1), (4, .int .i64 s27.2), (8, .bool false)] [.is (decide (s27.2 < (x0.length : Int)) = false)] hf32 (by kernel_rfl) ⟨(decide_eq_false c34), trivial⟩ fun a101 hf102 => ?_
      refine thenN ?_
      refine condF hf102 (by kernel_rfl) ?_
      refine wp_exit ?_
      refine thenE ?_
      refine thenE ?_
      obtain rfl := Option.some.inj H1
      exact .inl ⟨rfl, (s27.1, s27.2), rfl, hf102.sel (l := [0, 3, 4]) (by kernel_rfl), hm33.sel [0] _ rfl (by kernel_rfl)⟩
  rintro a103 w104 ⟨yr28, rfl, hf105, hm106⟩
  refine thenN ?_
  refine wp_seq ?_
  rcases if_split H0 with ⟨c107, H0⟩ | ⟨c107, H0⟩
  · rcases if_split H0 with ⟨c108, H0⟩ | ⟨c108, H0⟩
    · refine reg [.bool true, .bool true] [2] [(2, .bool true)] [.is (decide ((x0.length : Int) ≤ 40) = true), .is (decide (yr28.1 ≤ 20000) = true)] hf105 (by kernel_rfl) ⟨(decide_eq_true c107), (decide_eq_true c108), trivial⟩ fun a109 hf110 => ?_
      have hm111 := hm106.sel [] _ rfl (by kernel_rfl)
      refine thenN ?_
      refine wp_ret ?_
      have hm112 : Mem [] M w0 [] w104 := hm111.sel [] _ rfl (by kernel_rfl)
      obtain rfl := Option.some.inj H0
      refine ret [] [.bool true] [] hf110 (by kernel_rfl) trivial ?_
      exact ⟨_, rfl, rfl, hm112⟩
    · refine reg [.bool true, .bool false] [2] [(2, .bool false)] [.is (decide ((x0.length : Int) ≤ 40) = true), .is (decide (yr28.1 ≤ 20000) = false)] hf105 (by kernel_rfl) ⟨(decide_eq_true c107), (decide_eq_false c108), trivial⟩ fun a114 hf115 => ?_
      have hm116 := hm106.sel [] _ rfl (by kernel_rfl)
      refine thenN ?_
      refine wp_ret ?_
      have hm117 : Mem [] M w0 [] w104 := hm116.sel [] _ rfl (by kernel_rfl)
      obtain rfl := Option.some.inj H0
      refine ret [] [.bool false] [] hf115 (by kernel_rfl) trivial ?_
      exact ⟨_, rfl, rfl, hm117⟩
  · refine reg [.bool false] [2] [(2, .bool false)] [.is (decide ((x0.length : Int) ≤ 40) = false)] hf105 (by kernel_rfl) ⟨(decide_eq_false c107), trivial⟩ fun a119 hf120 => ?_
    have hm121 := hm106.sel [] _ rfl (by kernel_rfl)
    refine thenN ?_
    refine wp_ret ?_
    have hm122 : Mem [] M w0 [] w104 := hm121.sel [] _ rfl (by kernel_rfl)
    obtain rfl := Option.some.inj H0
    refine ret [] [.bool false] [] hf120 (by kernel_rfl) trivial ?_
    exact ⟨_, rfl, rfl, hm122⟩

/-! ### backstitch/backstitchref1.Size -/
noncomputable def ref1_Size.l0 (x0 : (List Int)) (s35 : Int) : Step Int (Out2 Int (Int × Int)) :=
  if s35 < (x0.length : Int) then (if 0 ≤ s35 ∧ s35 < (x0.length : Int) then (if (rd x0 s35) < 1 then (.done (.ret (0, 2)))
  else (.next (w64 (s35 + 1))))
  else .bad)
  else (.done (.go s35))
noncomputable def ref1_Size.l1 (x0 : (List Int)) (s71 : (Int × Int)) : Step (Int × Int) (Out2 (Int × Int) (Int × Int)) :=
  if s71.2 < (x0.length : Int) then (if 0 ≤ s71.2 ∧ s71.2 < (x0.length : Int) then (if s71.1 ≠ 0 then (if (w64 (Int.tdiv 4096 s71.1)) < (rd x0 s71.2) then (.done (.ret (0, 3)))
  else (.next ((w64 (s71.1 * (rd x0 s71.2))), (w64 (s71.2 + 1)))))
  else .bad)
  else .bad)
  else (.done (.go (s71.1, s71.2)))
noncomputable def ref1_Size.f (x0 : (List Int)) : Option (Int × Int) :=
  if 4 < (x0.length : Int) then (some (0, 2))
  else ((loop (ref1_Size.l0 x0) 0).bind fun r36 =>
  r36.on (fun yr36 =>
  (loop (ref1_Size.l1 x0) (1, 0)).bind fun r72 =>
  r72.on (fun yr72 =>
  some (yr72.1, 0)) (fun y => some y)) (fun y => some y))
set_option maxRecDepth 100000 in
set_option maxHeartbeats 4000000 in
theorem ref1_Size.calls (M : List (Option Nat)) (w0 : World) (x0 : (List Int)) (A0 : Option Addr) (n0 c0 : Nat) (e0 : n0 = x0.length) (hm0 : Mem [] M w0 [.sl (Kd.int .i64) A0 c0 x0] w0) (r : (Int × Int)) (H0 : ref1_Size.f x0 = some r) :
    Calls Try.prog 30 [.slice A0 n0 c0].toArray w0 (fun x w' => ∃ v, x = .returned v ∧ v = .tuple #[.int .i64 r.1, .int .i64 r.2] ∧ Mem [] M w0 [] w') := by
  subst e0
  unfold ref1_Size.f at H0
  refine enter (n := 41) Try.func30 rfl rfl (by kernel_rfl) fun a0 (hf0 : Fr 41 a0 [(0, .slice A0 x0.length c0)]) => ?_
  refine wp_seq ?_
  refine reg [] [0] [(0, .slice A0 x0.length c0)] [] hf0 (by kernel_rfl) trivial fun a21 hf22 => ?_
  refine thenN ?_
  refine wp_seq ?_
  refine wp_seq ?_
  rcases if_split H0 with ⟨c23, H0⟩ | ⟨c23, H0⟩
  · refine reg [.bool true] [0, 9] [(0, .slice A0 x0.length c0), (9, .bool true)] [.is (decide (4 < (x0.length : Int)) = true)] hf22 (by kernel_rfl) ⟨(decide_eq_true c23), trivial⟩ fun a24 hf25 => ?_
    refine thenN ?_
    refine condT hf25 (by kernel_rfl) ?_
    refine wp_seq ?_
    refine reg [] [2, 3] [(2, .int .i64 0), (3, .int .i64 2)] [] hf25 (by kernel_rfl) trivial fun a26 hf27 => ?_
    have hm28 := hm0.sel [] _ rfl (by kernel_rfl)
    refine thenN ?_
    refine wp_ret ?_
    refine thenR ?_
    have hm29 : Mem [] M w0 [] w0 := hm28.sel [] _ rfl (by kernel_rfl)
    obtain rfl := Option.some.inj H0
    refine ret [] [.int .i64 0, .int .i64 2] [] hf27 (by kernel_rfl) trivial ?_
    exact ⟨_, rfl, rfl, hm29⟩
  · refine reg [.bool false] [0, 9] [(0, .slice A0 x0.length c0), (9, .bool false)] [.is (decide (4 < (x0.length : Int)) = false)] hf22 (by kernel_rfl) ⟨(decide_eq_false c23), trivial⟩ fun a31 hf32 => ?_
    refine thenN ?_
    refine condF hf32 (by kernel_rfl) ?_
    refine wp_skip ?_
    refine thenN ?_
    refine wp_seq ?_
    refine wp_seq ?_
    refine reg [] [0, 4] [(0, .slice A0 x0.length c0), (4, .int .i64 0)] [] hf32 (by kernel_rfl) trivial fun a33 hf34 => ?_
    refine thenN ?_
    obtain ⟨r36, hr36, H0⟩ := ob_split H0
    refine wpBlock (Mid := fun (a : Act) (w : World) => ∃ yr36 : Int, r36 = .go yr36 ∧ Fr 41 a [(0, .slice A0 x0.length c0), (4, .int .i64 yr36)] ∧ Mem [] M w0 [.sl (Kd.int .i64) A0 c0 x0] w) ?_ ?_
    · refine wpLoop (ref1_Size.l0 x0) r36 (fun (s35 : Int) (a : Act) (w : World) => Fr 41 a [(0, .slice A0 x0.length c0), (4, .int .i64 s35)] ∧ Mem [] M w0 [.sl (Kd.int .i64) A0 c0 x0] w) 0 hr36 ⟨hf34.sel (l := [0, 4]) (by kernel_rfl), hm0.sel [0] _ rfl (by kernel_rfl)⟩ ?_
      rintro g37 s35 a38 w39 H1 ⟨hf40, hm41⟩
      unfold ref1_Size.l0 at H1
      refine wp_seq ?_
      refine wp_seq ?_
      rcases ifS_split H1 with ⟨c42, H1⟩ | ⟨c42, H1⟩
      · refine reg [.bool true] [0, 4, 13] [(0, .slice A0 x0.length c0), (4, .int .i64 s35), (13, .bool true)] [.is (decide (s35 < (x0.length : Int)) = true)] hf40 (by kernel_rfl) ⟨(decide_eq_true c42), trivial⟩ fun a43 hf44 => ?_
        refine thenN ?_
        refine condT hf44 (by kernel_rfl) ?_
        refine wp_skip ?_
        refine thenN ?_
        refine wp_seq ?_
        refine wp_block ?_
        refine wp_seq ?_
        obtain ⟨g45, H1⟩ := ifS_guard H1
        rcases ifS_split H1 with ⟨c46, H1⟩ | ⟨c46, H1⟩
        · have q47 := (hm41.slAt 0 rfl).int s35 g45.1 g45.2
          refine reg [.int .i64 (rd x0 s35), .bool true] [0, 4, 20] [(0, .slice A0 x0.length c0), (4, .int .i64 s35), (20, .bool true)] [.is (Option.isSome A0 = true), .is (0 ≤ s35 ∧ s35 < (x0.length : Int)), .cell ((ad A0).add ((s35).toNat * 1)) (.int .i64 (rd x0 s35)), .is (decide ((rd x0 s35) < 1) = true)] hf44 (by kernel_rfl) ⟨q47.1, g45, q47.2, (decide_eq_true c46), trivial⟩ fun a48 hf49 => ?_
          refine thenN ?_
          refine condT hf49 (by kernel_rfl) ?_
          refine wp_seq ?_
          refine reg [] [2, 3] [(2, .int .i64 0), (3, .int .i64 2)] [] hf49 (by kernel_rfl) trivial fun a50 hf51 => ?_
          have hm52 := hm41.sel [] _ rfl (by kernel_rfl)
          refine thenN ?_
          refine wp_ret ?_
          refine blkR ?_
          refine thenR ?_
          refine thenR ?_
          refine .inr ⟨rfl, ?_⟩
          refine thenR ?_
          have hm53 : Mem [] M w0 [] w39 := hm52.sel [] _ rfl (by kernel_rfl)
          obtain rfl := Option.some.inj H1
          obtain rfl := Option.some.inj H0
          refine ret [] [.int .i64 0, .int .i64 2] [] hf51 (by kernel_rfl) trivial ?_
          exact ⟨_, rfl, rfl, hm53⟩
        · have q55 := (hm41.slAt 0 rfl).int s35 g45.1 g45.2
          refine reg [.int .i64 (rd x0 s35), .bool false] [0, 4, 20] [(0, .slice A0 x0.length c0), (4, .int .i64 s35), (20, .bool false)] [.is (Option.isSome A0 = true), .is (0 ≤ s35 ∧ s35 < (x0.length : Int)), .cell ((ad A0).add ((s35).toNat * 1)) (.int .i64 (rd x0 s35)), .is (decide ((rd x0 s35) < 1) = false)] hf44 (by kernel_rfl) ⟨q55.1, g45, q55.2, (decide_eq_false c46), trivial⟩ fun a56 hf57 => ?_
          refine thenN ?_
          refine condF hf57 (by kernel_rfl) ?_
          refine wp_skip ?_
          refine blkN ?_
          refine thenN ?_
          refine reg [] [0, 4] [(0, .slice A0 x0.length c0), (4, .int .i64 (w64 (s35 + 1)))] [] hf57 (by kernel_rfl) trivial fun a58 hf59 => ?_
          exact ⟨(w64 (s35 + 1)), H1, hf59.sel (l := [0, 4]) (by kernel_rfl), hm41.sel [0] _ rfl (by kernel_rfl)⟩
      · refine reg [.bool false] [0, 4, 13] [(0, .slice A0 x0.length c0), (4, .int .i64 s35), (13, .bool false)] [.is (decide (s35 < (x0.length : Int)) = false)] hf40 (by kernel_rfl) ⟨(decide_eq_false c42), trivial⟩ fun a60 hf61 => ?_
        refine thenN ?_
        refine condF hf61 (by kernel_rfl) ?_
        refine wp_exit ?_
        refine thenE ?_
        refine thenE ?_
        obtain rfl := Option.some.inj H1
        exact .inl ⟨rfl, s35, rfl, hf61.sel (l := [0, 4]) (by kernel_rfl), hm41.sel [0] _ rfl (by kernel_rfl)⟩
    rintro a62 w63 ⟨yr36, rfl, hf65, hm66⟩
    refine thenN ?_
    refine wp_seq ?_
    refine reg [] [0, 5] [(0, .slice A0 x0.length c0), (5, .int .i64 1)] [] hf65 (by kernel_rfl) trivial fun a67 hf68 => ?_
    refine thenN ?_
    refine wp_seq ?_
    refine wp_seq ?_
    refine reg [] [0, 5, 6] [(0, .slice A0 x0.length c0), (5, .int .i64 1), (6, .int .i64 0)] [] hf68 (by kernel_rfl) trivial fun a69 hf70 => ?_
    refine thenN ?_
    obtain ⟨r72, hr72, H0⟩ := ob_split H0
    refine wpBlock (Mid := fun (a : Act) (w : World) => ∃ yr72 : (Int × Int), r72 = .go yr72 ∧ Fr 41 a [(0, .slice A0 x0.length c0), (5, .int .i64 yr72.1), (6, .int .i64 yr72.2)] ∧ Mem [] M w0 [.sl (Kd.int .i64) A0 c0 x0] w) ?_ ?_
    · refine wpLoop (ref1_Size.l1 x0) r72 (fun (s71 : (Int × Int)) (a : Act) (w : World) => Fr 41 a [(0, .slice A0 x0.length c0), (5, .int .i64 s71.1), (6, .int .i64 s71.2)] ∧ Mem [] M w0 [.sl (Kd.int .i64) A0 c0 x0] w) (1, 0) hr72 ⟨hf70.sel (l := [0, 5, 6]) (by kernel_rfl), hm66.sel [0] _ rfl (by kernel_rfl)⟩ ?_
      rintro g73 s71 a74 w75 H1 ⟨hf76, hm77⟩
      unfold ref1_Size.l1 at H1
      refine wp_seq ?_
      refine wp_seq ?_
      rcases ifS_split H1 with ⟨c78, H1⟩ | ⟨c78, H1⟩
      · refine reg [.bool true] [0, 5, 6, 24] [(0, .slice A0 x0.length c0), (5, .int .i64 s71.1), (6, .int .i64 s71.2), (24, .bool true)] [.is (decide (s71.2 < (x0.length : Int)) = true)] hf76 (by kernel_rfl) ⟨(decide_eq_true c78), trivial⟩ fun a79 hf80 => ?_
        refine thenN ?_
        refine condT hf80 (by kernel_rfl) ?_
        refine wp_skip ?_
        refine thenN ?_
        refine wp_seq ?_
        refine wp_block ?_
        refine wp_seq ?_
        refine wp_seq ?_
        obtain ⟨g81, H1⟩ := ifS_guard H1
        obtain ⟨g82, H1⟩ := ifS_guard H1
        rcases ifS_split H1 with ⟨c83, H1⟩ | ⟨c83, H1⟩
        · have q84 := (hm77.slAt 0 rfl).int s71.2 g81.1 g81.2
          refine regQ [.int .i64 (rd x0 s71.2), .bool true] [0, 5, 6, 33] [(0, .slice A0 x0.length c0), (5, .int .i64 s71.1), (6, .int .i64 s71.2), (33, .bool true)] [.is (Option.isSome A0 = true), .is (0 ≤ s71.2 ∧ s71.2 < (x0.length : Int)), .cell ((ad A0).add ((s71.2).toNat * 1)) (.int .i64 (rd x0 s71.2)), .is (s71.1 ≠ 0), .is (decide ((w64 (Int.tdiv 4096 s71.1)) < (rd x0 s71.2)) = true)] (by kernel_rfl) (by kernel_rfl) hf80 (by kernel_rfl) ⟨q84.1, g81, q84.2, g82, (decide_eq_true c83), trivial⟩ fun a85 w87 hf86 hg88 => ?_
          have hm89 := hm77.still hg88
          refine thenN ?_
          refine condT hf86 (by kernel_rfl) ?_
          refine wp_seq ?_
          refine reg [] [2, 3] [(2, .int .i64 0), (3, .int .i64 3)] [] hf86 (by kernel_rfl) trivial fun a90 hf91 => ?_
          have hm92 := hm89.sel [] _ rfl (by kernel_rfl)
          refine thenN ?_
          refine wp_ret ?_
          refine thenR ?_
          refine blkR ?_
          refine thenR ?_
          refine thenR ?_
          refine .inr ⟨rfl, ?_⟩
          refine thenR ?_
          have hm93 : Mem [] M w0 [] w87 := hm92.sel [] _ rfl (by kernel_rfl)
          obtain rfl := Option.some.inj H1
          obtain rfl := Option.some.inj H0
          refine ret [] [.int .i64 0, .int .i64 3] [] hf91 (by kernel_rfl) trivial ?_
          exact ⟨_, rfl, rfl, hm93⟩
        · have q95 := (hm77.slAt 0 rfl).int s71.2 g81.1 g81.2
          refine regQ [.int .i64 (rd x0 s71.2), .bool false] [0, 5, 6, 33] [(0, .slice A0 x0.length c0), (5, .int .i64 s71.1), (6, .int .i64 s71.2), (33, .bool false)] [.is (Option.isSome A0 = true), .is (0 ≤ s71.2 ∧ s71.2 < (x0.length : Int)), .cell ((ad A0).add ((s71.2).toNat * 1)) (.int .i64 (rd x0 s71.2)), .is (s71.1 ≠ 0), .is (decide ((w64 (Int.tdiv 4096 s71.1)) < (rd x0 s71.2)) = false)] (by kernel_rfl) (by kernel_rfl) hf80 (by kernel_rfl) ⟨q95.1, g81, q95.2, g82, (decide_eq_false c83), trivial⟩ fun a96 w98 hf97 hg99 => ?_
          have hm100 := hm77.still hg99
          refine thenN ?_
          refine condF hf97 (by kernel_rfl) ?_
          refine wp_skip ?_
          refine thenN ?_
          have q101 := (hm100.slAt 0 rfl).int s71.2 g81.1 g81.2
          refine reg [.int .i64 (rd x0 s71.2)] [0, 5, 6] [(0, .slice A0 x0.length c0), (5, .int .i64 (w64 (s71.1 * (rd x0 s71.2)))), (6, .int .i64 s71.2)] [.is (Option.isSome A0 = true), .is (0 ≤ s71.2 ∧ s71.2 < (x0.length : Int)), .cell ((ad A0).add ((s71.2).toNat * 1)) (.int .i64 (rd x0 s71.2))] hf97 (by kernel_rfl) ⟨q101.1, g81, q101.2, trivial⟩ fun a102 hf103 => ?_
          refine blkN ?_
          refine thenN ?_
          refine reg [] [0, 5, 6] [(0, .slice A0 x0.length c0), (5, .int .i64 (w64 (s71.1 * (rd x0 s71.2)))), (6, .int .i64 (w64 (s71.2 + 1)))] [] hf103 (by kernel_rfl) trivial fun a104 hf105 => ?_
          exact ⟨((w64 (s71.1 * (rd x0 s71.2))), (w64 (s71.2 + 1))), H1, hf105.sel (l := [0, 5, 6]) (by kernel_rfl), hm100.sel [0] _ rfl (by kernel_rfl)⟩
      · refine reg [.bool false] [0, 5, 6, 24] [(0, .slice A0 x0.length c0), (5, .int .i64 s71.1), (6, .int .i64 s71.2), (24, .bool false)] [.is (decide (s71.2 < (x0.length : Int)) = false)] hf76 (by kernel_rfl) ⟨(decide_eq_false c78), trivial⟩ fun a106 hf107 => ?_
        refine thenN ?_
        refine condF hf107 (by kernel_rfl) ?_
        refine wp_exit ?_
        refine thenE ?_
        refine thenE ?_
        obtain rfl := Option.some.inj H1
        exact .inl ⟨rfl, (s71.1, s71.2), rfl, hf107.sel (l := [0, 5, 6]) (by kernel_rfl), hm77.sel [0] _ rfl (by kernel_rfl)⟩
    rintro a108 w109 ⟨yr72, rfl, hf110, hm111⟩
    refine thenN ?_
    refine wp_seq ?_
    refine reg [] [2, 3] [(2, .int .i64 yr72.1), (3, .int .i64 0)] [] hf110 (by kernel_rfl) trivial fun a112 hf113 => ?_
    have hm114 := hm111.sel [] _ rfl (by kernel_rfl)
    refine thenN ?_
    refine wp_ret ?_
    have hm115 : Mem [] M w0 [] w109 := hm114.sel [] _ rfl (by kernel_rfl)
    obtain rfl := Option.some.inj H0
    refine ret [] [.int .i64 yr72.1, .int .i64 0] [] hf113 (by kernel_rfl) trivial ?_
    exact ⟨_, rfl, rfl, hm115⟩

/-! ### backstitch/backstitchref1.TensorMay -/
noncomputable def ref1_TensorMay.f (x0 : Tensor) : Option Bool :=
  (ref1_Size.f x0.Shape).bind fun r30 =>
  if r30.2 = 0 then (if r30.1 = (x0.Data.length : Int) then (some true)
  else (some false))
  else (some false)
set_option maxRecDepth 100000 in
set_option maxHeartbeats 4000000 in
theorem ref1_TensorMay.calls (M : List (Option Nat)) (w0 : World) (x0 : Tensor) (A0_0 : Option Addr) (n0_0 c0_0 : Nat) (e0_0 : n0_0 = x0.Shape.length) (A0_1 : Option Addr) (n0_1 c0_1 : Nat) (e0_1 : n0_1 = x0.Data.length) (hm0 : Mem [] M w0 [.sl (Kd.int .i64) A0_0 c0_0 x0.Shape, .sl Kd.float A0_1 c0_1 x0.Data] w0) (r : Bool) (H0 : ref1_TensorMay.f x0 = some r) :
    Calls Try.prog 32 [.agg #[.slice A0_0 n0_0 c0_0, .slice A0_1 n0_1 c0_1]].toArray w0 (fun x w' => ∃ v, x = .returned v ∧ v = .bool r ∧ Mem [] M w0 [] w') := by
  subst e0_0
  subst e0_1
  unfold ref1_TensorMay.f at H0
  refine enter (n := 20) Try.func32 rfl rfl (by kernel_rfl) fun a0 (hf0 : Fr 20 a0 [(0, .agg #[.slice A0_0 x0.Shape.length c0_0, .slice A0_1 x0.Data.length c0_1])]) => ?_
  refine wp_seq ?_
  refine inReg ?_
  refine listOf hf0 rfl (by kernel_rfl) (aNew (cs := [.slice A0_0 x0.Shape.length c0_0, .slice A0_1 x0.Data.length c0_1]) (T := 28) (d := 1) hf0 (by kernel_rfl) (by kernel_rfl) ?_)
  intro b21 w22 a23 hbb21 hx25 hg26 hf24
  have hm27 := hm0.box hbb21 hx25 hg26
  refine go 1 [] [1] [(1, .pointer (some ⟨b21, 0, none⟩))] [] hf24 (by kernel_rfl) trivial fun a28 hf29 => ?_
  refine endL rfl ?_
  refine thenN ?_
  refine wp_seq ?_
  obtain ⟨r30, hr30, H0⟩ := ob_split H0
  refine inReg ?_
  refine go 2 [.slice A0_0 x0.Shape.length c0_0] [1, 7] [(1, .pointer (some ⟨b21, 0, none⟩)), (7, .slice A0_0 x0.Shape.length c0_0)] [.cell ⟨b21, 0, none⟩ (.slice A0_0 x0.Shape.length c0_0)] hf29 (by kernel_rfl) ⟨(hm27.cell 0 rfl rfl), trivial⟩ fun a31 hf32 => ?_
  refine listOf hf32 rfl (by kernel_rfl) (aCall (fid := 30) (args := [.slice A0_0 x0.Shape.length c0_0]) (d := 8) hf32 (by kernel_rfl) (by kernel_rfl) callable30 (ref1_Size.calls _ _ x0.Shape A0_0 x0.Shape.length c0_0 rfl (hm27.give [1] [.sl (Kd.int .i64) A0_0 c0_0 x0.Shape] rfl rfl) r30 hr30) ?_)
  rintro _ w33 a34 ⟨rfl, hk36⟩ hf35
  have hm37 := hm27.still hk36.cum.none
  refine go 5 [] [1, 3, 4] [(1, .pointer (some ⟨b21, 0, none⟩)), (3, .int .i64 r30.1), (4, .int .i64 r30.2)] [] hf35 (by kernel_rfl) trivial fun a38 hf39 => ?_
  refine endL rfl ?_
  refine thenN ?_
  refine wp_seq ?_
  rcases if_split H0 with ⟨c40, H0⟩ | ⟨c40, H0⟩
  · rcases if_split H0 with ⟨c41, H0⟩ | ⟨c41, H0⟩
    · refine reg [.bool true, .slice A0_1 x0.Data.length c0_1, .bool true] [2] [(2, .bool true)] [.is (((r30.2 : Int) == 0) = true), .cell ⟨b21, 1, none⟩ (.slice A0_1 x0.Data.length c0_1), .is (((r30.1 : Int) == (x0.Data.length : Int)) = true)] hf39 (by kernel_rfl) ⟨(eqT c40), (hm37.cell 0 rfl rfl), (eqT c41), trivial⟩ fun a42 hf43 => ?_
      have hm44 := hm37.sel [] _ rfl (by kernel_rfl)
      refine thenN ?_
      refine wp_ret ?_
      have hm45 : Mem [] M w0 [] w33 := hm44.sel [] _ rfl (by kernel_rfl)
      obtain rfl := Option.some.inj H0
      refine ret [] [.bool true] [] hf43 (by kernel_rfl) trivial ?_
      exact ⟨_, rfl, rfl, hm45⟩
    · refine reg [.bool true, .slice A0_1 x0.Data.length c0_1, .bool false] [2] [(2, .bool false)] [.is (((r30.2 : Int) == 0) = true), .cell ⟨b21, 1, none⟩ (.slice A0_1 x0.Data.length c0_1), .is (((r30.1 : Int) == (x0.Data.length : Int)) = false)] hf39 (by kernel_rfl) ⟨(eqT c40), (hm37.cell 0 rfl rfl), (eqF c41), trivial⟩ fun a47 hf48 => ?_
      have hm49 := hm37.sel [] _ rfl (by kernel_rfl)
      refine thenN ?_
      refine wp_ret ?_
      have hm50 : Mem [] M w0 [] w33 := hm49.sel [] _ rfl (by kernel_rfl)
      obtain rfl := Option.some.inj H0
      refine ret [] [.bool false] [] hf48 (by kernel_rfl) trivial ?_
      exact ⟨_, rfl, rfl, hm50⟩
  · refine reg [.bool false] [2] [(2, .bool false)] [.is (((r30.2 : Int) == 0) = false)] hf39 (by kernel_rfl) ⟨(eqF c40), trivial⟩ fun a52 hf53 => ?_
    have hm54 := hm37.sel [] _ rfl (by kernel_rfl)
    refine thenN ?_
    refine wp_ret ?_
    have hm55 : Mem [] M w0 [] w33 := hm54.sel [] _ rfl (by kernel_rfl)
    obtain rfl := Option.some.inj H0
    refine ret [] [.bool false] [] hf53 (by kernel_rfl) trivial ?_
    exact ⟨_, rfl, rfl, hm55⟩
end Go.Proofs.Ytkcgiolledmbnab
