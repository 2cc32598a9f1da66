/- Printed by gen.py. -/
import Derived.Test.YtolhkamfpfjodaaF10
import Derived.Test.YtolhkamfpfjodaaF14
import Derived.Test.YtolhkamfpfjodaaF15
import Derived.Test.YtolhkamfpfjodaaF17
import Derived.Test.YtolhkamfpfjodaaF3
import Derived.Test.YtolhkamfpfjodaaF8
import Derived.Test.YtolhkamfpfjodaaF9
namespace Go.Proofs.Ytolhkamfpfjodaa
open Go Go.RowKit
set_option linter.unusedSimpArgs false
set_option linter.unusedVariables false
set_option linter.unnecessarySimpa false
/-! ### backstitch/backstitchlaw19.ShelfKnown -/
noncomputable def law19_ShelfKnown.f  : Option Bool :=
  (law19_awake.f).bind fun r23 =>
  if r23 = true then ((shelf_New.f (List.replicate (33 : Int).toNat (⟨([] : (List Int)), ([] : (List Nat))⟩ : Tensor))).bind fun r34 =>
  (shelf_New.f ([(⟨([] : (List Int)), ([] : (List Nat))⟩ : Tensor)] : List Tensor)).bind fun r54 =>
  (law19_ShelfKnown_1.f ([4607182418800017408, 4611686018427387904] : List Nat)).bind fun r74 =>
  (law19_ShelfKnown_1.f ([4613937818241073152] : List Nat)).bind fun r75 =>
  (shelf_New.f ([r74, r75] : List Tensor)).bind fun r76 =>
  onPtr r76.1 (fun y78 =>
  if r76.2 = 0 then ((law19_ShelfKnown_1.f ([4607182418800017408] : List Nat)).bind fun r208 =>
  (shelf_Shelf_Set.f y78 2 r208).bind fun r209 =>
  (law19_ShelfKnown_1.f ([4607182418800017408] : List Nat)).bind fun r241 =>
  (shelf_Shelf_Set.f (⟨r209.1, r209.2.1, y78.grads⟩ : Shelf) 0 r241).bind fun r242 =>
  (law19_ShelfKnown_1.f ([4607182418800017408, 4611686018427387904] : List Nat)).bind fun r274 =>
  (shelf_Shelf_Set.f (⟨r242.1, r242.2.1, y78.grads⟩ : Shelf) 0 r274).bind fun r275 =>
  (law19_ShelfKnown_1.f ([4607182418800017408, 4607182418800017408] : List Nat)).bind fun r307 =>
  (shelf_Shelf_Commit.f (⟨r275.1, r275.2.1, y78.grads⟩ : Shelf) ([r307] : List Tensor)).bind fun r308 =>
  (law19_ShelfKnown_1.f ([4607182418800017408, 4607182418800017408] : List Nat)).bind fun r345 =>
  (law19_ShelfKnown_1.f ([4607182418800017408, 4607182418800017408] : List Nat)).bind fun r346 =>
  (shelf_Shelf_Commit.f (⟨r275.1, r275.2.1, r308.1⟩ : Shelf) ([r345, r346] : List Tensor)).bind fun r347 =>
  (law19_ShelfKnown_1.f ([4607182418800017408, 4607182418800017408] : List Nat)).bind fun r403 =>
  (law19_ShelfKnown_1.f ([4617315517961601024] : List Nat)).bind fun r404 =>
  (shelf_Shelf_Commit.f (⟨r275.1, r275.2.1, r347.1⟩ : Shelf) ([r403, r404] : List Tensor)).bind fun r405 =>
  (shelf_Shelf_Grad.f (⟨r275.1, r275.2.1, r405.1⟩ : Shelf) 0).bind fun r461 =>
  (shelf_Shelf_Get.f (⟨r275.1, r275.2.1, r405.1⟩ : Shelf) 0).bind fun r490 =>
  (shelf_Shelf_Zero.f (⟨r275.1, r275.2.1, r405.1⟩ : Shelf) 0).bind fun r520 =>
  (shelf_Shelf_Grad.f (⟨r275.1, r275.2.1, r520.1⟩ : Shelf) 0).bind fun r532 =>
  (shelf_Shelf_Grad.f (⟨r275.1, r275.2.1, r520.1⟩ : Shelf) 1).bind fun r561 =>
  (shelf_Shelf_Zero.f (⟨r275.1, r275.2.1, r520.1⟩ : Shelf) (-1)).bind fun r590 =>
  if r34.2 = 13 then (if r54.2 = 2 then (if r209.2.2 = 7 then (if r242.2.2 = 2 then (if r275.2.2 = 0 then (if r308.2 = 1 then (if r347.2 = 2 then (if r405.2 = 0 then ((law19_ShelfKnown_1.f ([4607182418800017408, 4607182418800017408] : List Nat)).bind fun r611 =>
  (ref1_SameTensor.f r461.1 r611).bind fun r612 =>
  if r612 = true then (if r490.2.2 = 0 then (if r490.2.1 = 1 then (if r520.2 = 0 then ((law19_ShelfKnown_1.f ([0, 0] : List Nat)).bind fun r617 =>
  (ref1_SameTensor.f r532.1 r617).bind fun r618 =>
  if r618 = true then ((law19_ShelfKnown_1.f ([4617315517961601024] : List Nat)).bind fun r620 =>
  (ref1_SameTensor.f r561.1 r620).bind fun r621 =>
  if r621 = true then (if r590.2 = 7 then (some true)
  else (some false))
  else (some false))
  else (some false))
  else (some false))
  else (some false))
  else (some false))
  else (some false))
  else (some false))
  else (some false))
  else (some false))
  else (some false))
  else (some false))
  else (some false))
  else (some false))
  else (some false))
  else (some false)) (if r76.2 = 0 then (some false)
  else (some false)))
  else (some false)
set_option maxRecDepth 100000 in
set_option maxHeartbeats 4000000 in
theorem law19_ShelfKnown.calls (M : List (Option Nat)) (w0 : World)  (hm0 : Mem [] M w0 [] w0) (r : Bool) (H0 : law19_ShelfKnown.f = some r) :
    Calls Try.prog 7 [].toArray w0 (fun x w' => ∃ v, x = .returned v ∧ v = .bool r ∧ Mem [] M w0 [] w') := by
  unfold law19_ShelfKnown.f at H0
  refine enter (n := 186) Try.func7 rfl rfl (by kernel_rfl) fun a0 (hf0 : Fr 186 a0 []) => ?_
  refine wp_seq ?_
  refine reg [] [] [] [] hf0 (by kernel_rfl) trivial fun a21 hf22 => ?_
  refine thenN ?_
  refine wp_seq ?_
  refine wp_seq ?_
  obtain ⟨r23, hr23, H0⟩ := ob_split H0
  rcases ifb_split H0 with ⟨c24, H0⟩ | ⟨c24, H0⟩
  rotate_left
  · refine inReg ?_
    refine listOf hf22 rfl (by kernel_rfl) (aCall (fid := 9) (args := []) (d := 25) hf22 (by kernel_rfl) (by kernel_rfl) callable9 (law19_awake.calls _ _  (hm0.give [] [] rfl rfl) r23 hr23) ?_)
    rintro _ w1857 a1858 ⟨rfl, hk1860⟩ hf1859
    have hm1861 := hm0.still hk1860.cum.none
    rw [c24] at hf1859
    refine go 1 [] [26] [(26, .bool true)] [] hf1859 (by kernel_rfl) trivial fun a1862 hf1863 => ?_
    refine endL rfl ?_
    refine thenN ?_
    refine condT hf1863 (by kernel_rfl) ?_
    refine wp_seq ?_
    refine reg [] [0] [(0, .bool false)] [] hf1863 (by kernel_rfl) trivial fun a1864 hf1865 => ?_
    refine thenN ?_
    refine wp_ret ?_
    refine thenR ?_
    have hm1866 : Mem [] M w0 [] w1857 := hm1861.sel [] _ rfl (by kernel_rfl)
    obtain rfl := Option.some.inj H0
    refine ret [] [.bool false] [] hf1865 (by kernel_rfl) trivial ?_
    exact ⟨_, rfl, rfl, hm1866⟩
  refine inReg ?_
  refine listOf hf22 rfl (by kernel_rfl) (aCall (fid := 9) (args := []) (d := 25) hf22 (by kernel_rfl) (by kernel_rfl) callable9 (law19_awake.calls _ _  (hm0.give [] [] rfl rfl) r23 hr23) ?_)
  rintro _ w25 a26 ⟨rfl, hk28⟩ hf27
  have hm29 := hm0.still hk28.cum.none
  rw [c24] at hf27
  refine go 1 [] [26] [(26, .bool false)] [] hf27 (by kernel_rfl) trivial fun a30 hf31 => ?_
  refine endL rfl ?_
  refine thenN ?_
  refine condF hf31 (by kernel_rfl) ?_
  refine wp_skip ?_
  refine thenN ?_
  refine wp_seq ?_
  refine reg [] [1] [(1, .func (.func 23) #[] #[])] [] hf31 (by kernel_rfl) trivial fun a32 hf33 => ?_
  refine thenN ?_
  refine wp_seq ?_
  obtain ⟨r34, hr34, H0⟩ := ob_split H0
  refine inReg ?_
  refine listOf hf33 rfl (by kernel_rfl) (aMake (kd := kTensor) (x := (⟨([] : (List Int)), ([] : (List Nat))⟩ : Tensor)) (E := 29) (L := 33) (z := [.slice none 0 0, .slice none 0 0]) (sz := 2) (d := 28) hf33 (by kernel_rfl) (by kernel_rfl) rfl (kTensor.zero) (by decide) (by decide) ?_)
  intro A35 c36 w37 a38 ho40 hb42 hg41 hf39
  have hm43 : Mem [] M w0 [.ow kTensor 29 A35 c36 (List.replicate (33 : Int).toNat (⟨([] : (List Int)), ([] : (List Nat))⟩ : Tensor))] w37 := hm29.own (ho40 _) hg41
  have hm44 := hm43.seal 0 _ rfl rfl
  refine listOf hf39 rfl (by kernel_rfl) (aCall (fid := 10) (args := [.slice A35 ((List.replicate (33 : Int).toNat (⟨([] : (List Int)), ([] : (List Nat))⟩ : Tensor)).length) c36]) (d := 29) hf39 (by kernel_rfl) (by kernel_rfl) callable10 (shelf_New.calls_d _ _ (List.replicate (33 : Int).toNat (⟨([] : (List Int)), ([] : (List Nat))⟩ : Tensor)) A35 ((List.replicate (33 : Int).toNat (⟨([] : (List Int)), ([] : (List Nat))⟩ : Tensor)).length) c36 rfl (hm44.give [0] [.sl kTensor A35 c36 (List.replicate (33 : Int).toNat (⟨([] : (List Int)), ([] : (List Nat))⟩ : Tensor))] rfl rfl) r34 hr34) ?_)
  rintro _ w46 a47 ⟨p45, rfl, hk49⟩ hf48
  have hm50 := hm44.still hk49.cum.none
  refine go 5 [] [1, 3] [(1, .func (.func 23) #[] #[]), (3, .int .i64 r34.2)] [] hf48 (by kernel_rfl) trivial fun a51 hf52 => ?_
  refine endL rfl ?_
  have hm53 := hm50.sel [] _ rfl (by kernel_rfl)
  refine thenN ?_
  refine wp_seq ?_
  obtain ⟨r54, hr54, H0⟩ := ob_split H0
  refine inReg ?_
  refine go 1 [] [1, 3, 33] [(1, .func (.func 23) #[] #[]), (3, .int .i64 r34.2), (33, .agg #[.slice none 0 0, .slice none 0 0])] [] hf52 (by kernel_rfl) trivial fun a55 hf56 => ?_
  refine listOf hf56 rfl (by kernel_rfl) (aLit (cs := [.slice none 0 0, .slice none 0 0]) (E := 29) (len := 1) (d := 34) hf56 (by kernel_rfl) (by kernel_rfl) ?_)
  intro b57 w58 a59 hbb57 hx61 hg62 hf60
  have hm53s := hm53.still hg62
  have hm63 := Mem.lit (kd := kTensor) (xs := ([(⟨([] : (List Int)), ([] : (List Nat))⟩ : Tensor)] : List Tensor)) hm53 hbb57 hx61 hg62 (Els.one (kd := kTensor) (us := [.slice none 0 0, .slice none 0 0]) (x := (⟨([] : (List Int)), ([] : (List Nat))⟩ : Tensor)) (kTensor.mk (⟨([] : (List Int)), ([] : (List Nat))⟩ : Tensor) ⟨⟨Nat.le_refl _, fun _ => rfl⟩, .inl rfl⟩ ⟨⟨Nat.le_refl _, fun _ => rfl⟩, .inl rfl⟩))
  refine listOf hf60 rfl (by kernel_rfl) (aCall (fid := 10) (args := [.slice (some ⟨b57, 0, none⟩) 1 1]) (d := 35) hf60 (by kernel_rfl) (by kernel_rfl) callable10 (shelf_New.calls_d _ _ ([(⟨([] : (List Int)), ([] : (List Nat))⟩ : Tensor)] : List Tensor) (some ⟨b57, 0, none⟩) 1 1 rfl (hm63.give [0] [.sl kTensor (some ⟨b57, 0, none⟩) 1 ([(⟨([] : (List Int)), ([] : (List Nat))⟩ : Tensor)] : List Tensor)] rfl rfl) r54 hr54) ?_)
  rintro _ w66 a67 ⟨p65, rfl, hk69⟩ hf68
  have hm70 := hm63.still hk69.cum.none
  refine go 5 [] [1, 3, 5] [(1, .func (.func 23) #[] #[]), (3, .int .i64 r34.2), (5, .int .i64 r54.2)] [] hf68 (by kernel_rfl) trivial fun a71 hf72 => ?_
  refine endL rfl ?_
  have hm73 := hm70.sel [] _ rfl (by kernel_rfl)
  refine thenN ?_
  refine wp_seq ?_
  obtain ⟨r74, hr74, H0⟩ := ob_split H0
  obtain ⟨r75, hr75, H0⟩ := ob_split H0
  obtain ⟨r76, hr76, H0⟩ := ob_split H0
  rcases ptr_split H0 with ⟨c77, H0⟩ | ⟨y78, c77, H0⟩
  · refine inReg ?_
    refine go 1 [] [1, 3, 5, 39] [(1, .func (.func 23) #[] #[]), (3, .int .i64 r34.2), (5, .int .i64 r54.2), (39, .func (.func 23) #[] #[])] [] hf72 (by kernel_rfl) trivial fun a79 hf80 => ?_
    refine listOf hf80 rfl (by kernel_rfl) (aLit (cs := [.float .f64 4607182418800017408, .float .f64 4611686018427387904]) (E := 26) (len := 2) (d := 40) hf80 (by kernel_rfl) (by kernel_rfl) ?_)
    intro b81 w82 a83 hbb81 hx85 hg86 hf84
    have hm73s := hm73.still hg86
    have hm87 := Mem.lit (kd := Kd.float) (xs := ([4607182418800017408, 4611686018427387904] : List Nat)) hm73 hbb81 hx85 hg86 (Els.append (Els.one (kd := Kd.float) (us := [.float .f64 4607182418800017408]) (x := 4607182418800017408) ⟨_, rfl, (FR.lit (by kernel_rfl) (by kernel_rfl))⟩) (Els.one (kd := Kd.float) (us := [.float .f64 4611686018427387904]) (x := 4611686018427387904) ⟨_, rfl, (FR.lit (by kernel_rfl) (by kernel_rfl))⟩))
    refine listOf hf84 rfl (by kernel_rfl) (aCall (fid := 23) (args := [.slice (some ⟨b81, 0, none⟩) 2 2]) (d := 41) hf84 (by kernel_rfl) (by kernel_rfl) callable23 (law19_ShelfKnown_1.calls _ _ ([4607182418800017408, 4611686018427387904] : List Nat) (some ⟨b81, 0, none⟩) 2 2 rfl (hm87.give [0] [.sl Kd.float (some ⟨b81, 0, none⟩) 2 ([4607182418800017408, 4611686018427387904] : List Nat)] rfl rfl) r74 hr74) ?_)
    rintro _ w92 a93 ⟨A88, c89, A90, c91, rfl, hk95⟩ hf94
    have hm96 := hm87.back hk95
    have hm97 := hm96.seal 0 _ rfl rfl
    refine go 1 [] [1, 3, 5, 41, 42] [(1, .func (.func 23) #[] #[]), (3, .int .i64 r34.2), (5, .int .i64 r54.2), (41, .agg #[.slice A88 r74.Shape.length c89, .slice A90 r74.Data.length c91]), (42, .func (.func 23) #[] #[])] [] hf94 (by kernel_rfl) trivial fun a98 hf99 => ?_
    refine listOf hf99 rfl (by kernel_rfl) (aLit (cs := [.float .f64 4613937818241073152]) (E := 26) (len := 1) (d := 43) hf99 (by kernel_rfl) (by kernel_rfl) ?_)
    intro b100 w101 a102 hbb100 hx104 hg105 hf103
    have hm97s := hm97.still hg105
    have hm106 := Mem.lit (kd := Kd.float) (xs := ([4613937818241073152] : List Nat)) hm97 hbb100 hx104 hg105 (Els.one (kd := Kd.float) (us := [.float .f64 4613937818241073152]) (x := 4613937818241073152) ⟨_, rfl, (FR.lit (by kernel_rfl) (by kernel_rfl))⟩)
    refine listOf hf103 rfl (by kernel_rfl) (aCall (fid := 23) (args := [.slice (some ⟨b100, 0, none⟩) 1 1]) (d := 44) hf103 (by kernel_rfl) (by kernel_rfl) callable23 (law19_ShelfKnown_1.calls _ _ ([4613937818241073152] : List Nat) (some ⟨b100, 0, none⟩) 1 1 rfl (hm106.give [0] [.sl Kd.float (some ⟨b100, 0, none⟩) 1 ([4613937818241073152] : List Nat)] rfl rfl) r75 hr75) ?_)
    rintro _ w111 a112 ⟨A107, c108, A109, c110, rfl, hk114⟩ hf113
    have hm115 := hm106.back hk114
    have hm116 := hm115.seal 0 _ rfl rfl
    refine listOf hf113 rfl (by kernel_rfl) (aLit (cs := [.slice A88 r74.Shape.length c89, .slice A90 r74.Data.length c91, .slice A107 r75.Shape.length c108, .slice A109 r75.Data.length c110]) (E := 29) (len := 2) (d := 45) hf113 (by kernel_rfl) (by kernel_rfl) ?_)
    intro b117 w118 a119 hbb117 hx121 hg122 hf120
    have hm116s := hm116.still hg122
    have hm123 := Mem.lit (kd := kTensor) (xs := ([r74, r75] : List Tensor)) hm116 hbb117 hx121 hg122 (Els.append (Els.one (kd := kTensor) (us := [.slice A88 r74.Shape.length c89, .slice A90 r74.Data.length c91]) (x := r74) (kTensor.mk r74 ⟨hm116s.cpAt 3 rfl, (hm116s.slAt 3 rfl)⟩ ⟨hm116s.cpAt 4 rfl, (hm116s.slAt 4 rfl)⟩)) (Els.one (kd := kTensor) (us := [.slice A107 r75.Shape.length c108, .slice A109 r75.Data.length c110]) (x := r75) (kTensor.mk r75 ⟨hm116s.cpAt 0 rfl, (hm116s.slAt 0 rfl)⟩ ⟨hm116s.cpAt 1 rfl, (hm116s.slAt 1 rfl)⟩)))
    refine listOf hf120 rfl (by kernel_rfl) (aCall (fid := 10) (args := [.slice (some ⟨b117, 0, none⟩) 2 2]) (d := 46) hf120 (by kernel_rfl) (by kernel_rfl) callable10 (shelf_New.calls_n _ _ ([r74, r75] : List Tensor) (some ⟨b117, 0, none⟩) 2 2 rfl (hm123.give [0] [.sl kTensor (some ⟨b117, 0, none⟩) 2 ([r74, r75] : List Tensor)] rfl rfl) r76 c77 hr76) ?_)
    rintro _ w124 a125 ⟨rfl, hk127⟩ hf126
    have hm128 := hm123.still hk127.cum.none
    refine go 5 [] [1, 3, 5, 6, 7] [(1, .func (.func 23) #[] #[]), (3, .int .i64 r34.2), (5, .int .i64 r54.2), (6, .pointer none), (7, .int .i64 r76.2)] [] hf126 (by kernel_rfl) trivial fun a129 hf130 => ?_
    refine endL rfl ?_
    have hm131 := hm128.sel [] _ rfl (by kernel_rfl)
    refine thenN ?_
    refine wp_seq ?_
    refine wp_seq ?_
    rcases if_split H0 with ⟨c132, H0⟩ | ⟨c132, H0⟩
    · refine reg [.bool false] [1, 3, 5, 6, 54] [(1, .func (.func 23) #[] #[]), (3, .int .i64 r34.2), (5, .int .i64 r54.2), (6, .pointer none), (54, .bool true)] [.is (((r76.2 : Int) != 0) = false)] hf130 (by kernel_rfl) ⟨(neF c132), trivial⟩ fun a133 hf134 => ?_
      refine thenN ?_
      refine condT hf134 (by kernel_rfl) ?_
      refine wp_seq ?_
      refine reg [] [0] [(0, .bool false)] [] hf134 (by kernel_rfl) trivial fun a135 hf136 => ?_
      refine thenN ?_
      refine wp_ret ?_
      refine thenR ?_
      have hm137 : Mem [] M w0 [] w124 := hm131.sel [] _ rfl (by kernel_rfl)
      obtain rfl := Option.some.inj H0
      refine ret [] [.bool false] [] hf136 (by kernel_rfl) trivial ?_
      exact ⟨_, rfl, rfl, hm137⟩
    refine reg [.bool true] [1, 3, 5, 6, 54] [(1, .func (.func 23) #[] #[]), (3, .int .i64 r34.2), (5, .int .i64 r54.2), (6, .pointer none), (54, .bool true)] [.is (((r76.2 : Int) != 0) = true)] hf130 (by kernel_rfl) ⟨(neT c132), trivial⟩ fun a139 hf140 => ?_
    refine thenN ?_
    refine condT hf140 (by kernel_rfl) ?_
    refine wp_seq ?_
    refine reg [] [0] [(0, .bool false)] [] hf140 (by kernel_rfl) trivial fun a141 hf142 => ?_
    refine thenN ?_
    refine wp_ret ?_
    refine thenR ?_
    have hm143 : Mem [] M w0 [] w124 := hm131.sel [] _ rfl (by kernel_rfl)
    obtain rfl := Option.some.inj H0
    refine ret [] [.bool false] [] hf142 (by kernel_rfl) trivial ?_
    exact ⟨_, rfl, rfl, hm143⟩
  · refine inReg ?_
    refine go 1 [] [1, 3, 5, 39] [(1, .func (.func 23) #[] #[]), (3, .int .i64 r34.2), (5, .int .i64 r54.2), (39, .func (.func 23) #[] #[])] [] hf72 (by kernel_rfl) trivial fun a145 hf146 => ?_
    refine listOf hf146 rfl (by kernel_rfl) (aLit (cs := [.float .f64 4607182418800017408, .float .f64 4611686018427387904]) (E := 26) (len := 2) (d := 40) hf146 (by kernel_rfl) (by kernel_rfl) ?_)
    intro b147 w148 a149 hbb147 hx151 hg152 hf150
    have hm73s := hm73.still hg152
    have hm153 := Mem.lit (kd := Kd.float) (xs := ([4607182418800017408, 4611686018427387904] : List Nat)) hm73 hbb147 hx151 hg152 (Els.append (Els.one (kd := Kd.float) (us := [.float .f64 4607182418800017408]) (x := 4607182418800017408) ⟨_, rfl, (FR.lit (by kernel_rfl) (by kernel_rfl))⟩) (Els.one (kd := Kd.float) (us := [.float .f64 4611686018427387904]) (x := 4611686018427387904) ⟨_, rfl, (FR.lit (by kernel_rfl) (by kernel_rfl))⟩))
    refine listOf hf150 rfl (by kernel_rfl) (aCall (fid := 23) (args := [.slice (some ⟨b147, 0, none⟩) 2 2]) (d := 41) hf150 (by kernel_rfl) (by kernel_rfl) callable23 (law19_ShelfKnown_1.calls _ _ ([4607182418800017408, 4611686018427387904] : List Nat) (some ⟨b147, 0, none⟩) 2 2 rfl (hm153.give [0] [.sl Kd.float (some ⟨b147, 0, none⟩) 2 ([4607182418800017408, 4611686018427387904] : List Nat)] rfl rfl) r74 hr74) ?_)
    rintro _ w158 a159 ⟨A154, c155, A156, c157, rfl, hk161⟩ hf160
    have hm162 := hm153.back hk161
    have hm163 := hm162.seal 0 _ rfl rfl
    refine go 1 [] [1, 3, 5, 41, 42] [(1, .func (.func 23) #[] #[]), (3, .int .i64 r34.2), (5, .int .i64 r54.2), (41, .agg #[.slice A154 r74.Shape.length c155, .slice A156 r74.Data.length c157]), (42, .func (.func 23) #[] #[])] [] hf160 (by kernel_rfl) trivial fun a164 hf165 => ?_
    refine listOf hf165 rfl (by kernel_rfl) (aLit (cs := [.float .f64 4613937818241073152]) (E := 26) (len := 1) (d := 43) hf165 (by kernel_rfl) (by kernel_rfl) ?_)
    intro b166 w167 a168 hbb166 hx170 hg171 hf169
    have hm163s := hm163.still hg171
    have hm172 := Mem.lit (kd := Kd.float) (xs := ([4613937818241073152] : List Nat)) hm163 hbb166 hx170 hg171 (Els.one (kd := Kd.float) (us := [.float .f64 4613937818241073152]) (x := 4613937818241073152) ⟨_, rfl, (FR.lit (by kernel_rfl) (by kernel_rfl))⟩)
    refine listOf hf169 rfl (by kernel_rfl) (aCall (fid := 23) (args := [.slice (some ⟨b166, 0, none⟩) 1 1]) (d := 44) hf169 (by kernel_rfl) (by kernel_rfl) callable23 (law19_ShelfKnown_1.calls _ _ ([4613937818241073152] : List Nat) (some ⟨b166, 0, none⟩) 1 1 rfl (hm172.give [0] [.sl Kd.float (some ⟨b166, 0, none⟩) 1 ([4613937818241073152] : List Nat)] rfl rfl) r75 hr75) ?_)
    rintro _ w177 a178 ⟨A173, c174, A175, c176, rfl, hk180⟩ hf179
    have hm181 := hm172.back hk180
    have hm182 := hm181.seal 0 _ rfl rfl
    refine listOf hf179 rfl (by kernel_rfl) (aLit (cs := [.slice A154 r74.Shape.length c155, .slice A156 r74.Data.length c157, .slice A173 r75.Shape.length c174, .slice A175 r75.Data.length c176]) (E := 29) (len := 2) (d := 45) hf179 (by kernel_rfl) (by kernel_rfl) ?_)
    intro b183 w184 a185 hbb183 hx187 hg188 hf186
    have hm182s := hm182.still hg188
    have hm189 := Mem.lit (kd := kTensor) (xs := ([r74, r75] : List Tensor)) hm182 hbb183 hx187 hg188 (Els.append (Els.one (kd := kTensor) (us := [.slice A154 r74.Shape.length c155, .slice A156 r74.Data.length c157]) (x := r74) (kTensor.mk r74 ⟨hm182s.cpAt 3 rfl, (hm182s.slAt 3 rfl)⟩ ⟨hm182s.cpAt 4 rfl, (hm182s.slAt 4 rfl)⟩)) (Els.one (kd := kTensor) (us := [.slice A173 r75.Shape.length c174, .slice A175 r75.Data.length c176]) (x := r75) (kTensor.mk r75 ⟨hm182s.cpAt 0 rfl, (hm182s.slAt 0 rfl)⟩ ⟨hm182s.cpAt 1 rfl, (hm182s.slAt 1 rfl)⟩)))
    refine listOf hf186 rfl (by kernel_rfl) (aCall (fid := 10) (args := [.slice (some ⟨b183, 0, none⟩) 2 2]) (d := 46) hf186 (by kernel_rfl) (by kernel_rfl) callable10 (shelf_New.calls_s _ _ ([r74, r75] : List Tensor) (some ⟨b183, 0, none⟩) 2 2 rfl (hm189.give [0] [.sl kTensor (some ⟨b183, 0, none⟩) 2 ([r74, r75] : List Tensor)] rfl rfl) r76 y78 c77 hr76) ?_)
    rintro _ w197 a198 ⟨b190, A191, c192, A193, c194, A195, c196, rfl, hk200⟩ hf199
    have hm201 := hm189.back hk200
    refine go 5 [] [1, 3, 5, 6, 7] [(1, .func (.func 23) #[] #[]), (3, .int .i64 r34.2), (5, .int .i64 r54.2), (6, .pointer (some ⟨b190, 0, none⟩)), (7, .int .i64 r76.2)] [] hf199 (by kernel_rfl) trivial fun a202 hf203 => ?_
    refine endL rfl ?_
    have hm204 := hm201.sel [0, 1, 2, 3] _ rfl (by kernel_rfl)
    refine thenN ?_
    refine wp_seq ?_
    refine wp_seq ?_
    rcases if_split H0 with ⟨c205, H0⟩ | ⟨c205, H0⟩
    rotate_left
    · refine reg [.bool true] [1, 3, 5, 6, 54] [(1, .func (.func 23) #[] #[]), (3, .int .i64 r34.2), (5, .int .i64 r54.2), (6, .pointer (some ⟨b190, 0, none⟩)), (54, .bool true)] [.is (((r76.2 : Int) != 0) = true)] hf203 (by kernel_rfl) ⟨(neT c205), trivial⟩ fun a1850 hf1851 => ?_
      refine thenN ?_
      refine condT hf1851 (by kernel_rfl) ?_
      refine wp_seq ?_
      refine reg [] [0] [(0, .bool false)] [] hf1851 (by kernel_rfl) trivial fun a1852 hf1853 => ?_
      have hm1854 := hm204.sel [] _ rfl (by kernel_rfl)
      refine thenN ?_
      refine wp_ret ?_
      refine thenR ?_
      have hm1855 : Mem [] M w0 [] w197 := hm1854.sel [] _ rfl (by kernel_rfl)
      obtain rfl := Option.some.inj H0
      refine ret [] [.bool false] [] hf1853 (by kernel_rfl) trivial ?_
      exact ⟨_, rfl, rfl, hm1855⟩
    refine reg [.bool false] [1, 3, 5, 6, 54] [(1, .func (.func 23) #[] #[]), (3, .int .i64 r34.2), (5, .int .i64 r54.2), (6, .pointer (some ⟨b190, 0, none⟩)), (54, .bool false)] [.is (((r76.2 : Int) != 0) = false)] hf203 (by kernel_rfl) ⟨(neF c205), trivial⟩ fun a206 hf207 => ?_
    refine thenN ?_
    refine condF hf207 (by kernel_rfl) ?_
    refine wp_skip ?_
    refine thenN ?_
    refine wp_seq ?_
    obtain ⟨r208, hr208, H0⟩ := ob_split H0
    obtain ⟨r209, hr209, H0⟩ := ob_split H0
    refine inReg ?_
    refine go 2 [] [1, 3, 5, 6, 55, 56] [(1, .func (.func 23) #[] #[]), (3, .int .i64 r34.2), (5, .int .i64 r54.2), (6, .pointer (some ⟨b190, 0, none⟩)), (55, .pointer (some ⟨b190, 0, none⟩)), (56, .func (.func 23) #[] #[])] [] hf207 (by kernel_rfl) trivial fun a210 hf211 => ?_
    refine listOf hf211 rfl (by kernel_rfl) (aLit (cs := [.float .f64 4607182418800017408]) (E := 26) (len := 1) (d := 57) hf211 (by kernel_rfl) (by kernel_rfl) ?_)
    intro b212 w213 a214 hbb212 hx216 hg217 hf215
    have hm204s := hm204.still hg217
    have hm218 := Mem.lit (kd := Kd.float) (xs := ([4607182418800017408] : List Nat)) hm204 hbb212 hx216 hg217 (Els.one (kd := Kd.float) (us := [.float .f64 4607182418800017408]) (x := 4607182418800017408) ⟨_, rfl, (FR.lit (by kernel_rfl) (by kernel_rfl))⟩)
    refine listOf hf215 rfl (by kernel_rfl) (aCall (fid := 23) (args := [.slice (some ⟨b212, 0, none⟩) 1 1]) (d := 58) hf215 (by kernel_rfl) (by kernel_rfl) callable23 (law19_ShelfKnown_1.calls _ _ ([4607182418800017408] : List Nat) (some ⟨b212, 0, none⟩) 1 1 rfl (hm218.give [0] [.sl Kd.float (some ⟨b212, 0, none⟩) 1 ([4607182418800017408] : List Nat)] rfl rfl) r208 hr208) ?_)
    rintro _ w223 a224 ⟨A219, c220, A221, c222, rfl, hk226⟩ hf225
    have hm227 := hm218.back hk226
    have hm228 := hm227.seal 0 _ rfl rfl
    refine listOf hf225 rfl (by kernel_rfl) (aCall (fid := 19) (args := [.pointer (some ⟨b190, 0, none⟩), .int .i64 2, .agg #[.slice A219 r208.Shape.length c220, .slice A221 r208.Data.length c222]]) (d := 59) hf225 (by kernel_rfl) (by kernel_rfl) callable19 (shelf_Shelf_Set.calls _ _ _ y78 b190 A191 y78.l.length c192 rfl A193 y78.vers.length c194 rfl A195 y78.grads.length c196 rfl 2 r208 A219 r208.Shape.length c220 rfl A221 r208.Data.length c222 rfl (hm228.giveO [3, 4, 5, 6] [0, 1, 2] [0, 1] [.bx b190 [.slice A191 y78.l.length c192, .slice A193 y78.vers.length c194, .slice A195 y78.grads.length c196] 72, .ow kTensor 29 A191 c192 y78.l, .ow (Kd.int .i64) 3 A193 c194 y78.vers, .ow kTensor 29 A195 c196 y78.grads] _ [.sl (Kd.int .i64) A219 c220 r208.Shape, .sl Kd.float A221 c222 r208.Data] rfl rfl rfl (by kernel_rfl) rfl) r209 hr209) ?_)
    rintro _ w233 a234 ⟨A229, c230, A231, c232, rfl, hk236⟩ hf235
    have hm237 := hm228.backO [3, 4, 5, 6] [0, 1, 2] _ _ rfl rfl (by kernel_rfl) hk236
    refine go 1 [] [1, 3, 5, 6, 8] [(1, .func (.func 23) #[] #[]), (3, .int .i64 r34.2), (5, .int .i64 r54.2), (6, .pointer (some ⟨b190, 0, none⟩)), (8, .int .i64 r209.2.2)] [] hf235 (by kernel_rfl) trivial fun a238 hf239 => ?_
    refine endL rfl ?_
    have hm240 := hm237.sel [0, 1, 2, 3] _ rfl (by kernel_rfl)
    refine thenN ?_
    refine wp_seq ?_
    obtain ⟨r241, hr241, H0⟩ := ob_split H0
    obtain ⟨r242, hr242, H0⟩ := ob_split H0
    refine inReg ?_
    refine go 2 [] [1, 3, 5, 6, 8, 60, 61] [(1, .func (.func 23) #[] #[]), (3, .int .i64 r34.2), (5, .int .i64 r54.2), (6, .pointer (some ⟨b190, 0, none⟩)), (8, .int .i64 r209.2.2), (60, .pointer (some ⟨b190, 0, none⟩)), (61, .func (.func 23) #[] #[])] [] hf239 (by kernel_rfl) trivial fun a243 hf244 => ?_
    refine listOf hf244 rfl (by kernel_rfl) (aLit (cs := [.float .f64 4607182418800017408]) (E := 26) (len := 1) (d := 62) hf244 (by kernel_rfl) (by kernel_rfl) ?_)
    intro b245 w246 a247 hbb245 hx249 hg250 hf248
    have hm240s := hm240.still hg250
    have hm251 := Mem.lit (kd := Kd.float) (xs := ([4607182418800017408] : List Nat)) hm240 hbb245 hx249 hg250 (Els.one (kd := Kd.float) (us := [.float .f64 4607182418800017408]) (x := 4607182418800017408) ⟨_, rfl, (FR.lit (by kernel_rfl) (by kernel_rfl))⟩)
    refine listOf hf248 rfl (by kernel_rfl) (aCall (fid := 23) (args := [.slice (some ⟨b245, 0, none⟩) 1 1]) (d := 63) hf248 (by kernel_rfl) (by kernel_rfl) callable23 (law19_ShelfKnown_1.calls _ _ ([4607182418800017408] : List Nat) (some ⟨b245, 0, none⟩) 1 1 rfl (hm251.give [0] [.sl Kd.float (some ⟨b245, 0, none⟩) 1 ([4607182418800017408] : List Nat)] rfl rfl) r241 hr241) ?_)
    rintro _ w256 a257 ⟨A252, c253, A254, c255, rfl, hk259⟩ hf258
    have hm260 := hm251.back hk259
    have hm261 := hm260.seal 0 _ rfl rfl
    refine listOf hf258 rfl (by kernel_rfl) (aCall (fid := 19) (args := [.pointer (some ⟨b190, 0, none⟩), .int .i64 0, .agg #[.slice A252 r241.Shape.length c253, .slice A254 r241.Data.length c255]]) (d := 64) hf258 (by kernel_rfl) (by kernel_rfl) callable19 (shelf_Shelf_Set.calls _ _ _ (⟨r209.1, r209.2.1, y78.grads⟩ : Shelf) b190 A229 r209.1.length c230 rfl A231 r209.2.1.length c232 rfl A195 y78.grads.length c196 rfl 0 r241 A252 r241.Shape.length c253 rfl A254 r241.Data.length c255 rfl (hm261.giveO [3, 4, 5, 6] [0, 1, 2] [0, 1] [.bx b190 [.slice A229 r209.1.length c230, .slice A231 r209.2.1.length c232, .slice A195 y78.grads.length c196] 72, .ow kTensor 29 A229 c230 r209.1, .ow (Kd.int .i64) 3 A231 c232 r209.2.1, .ow kTensor 29 A195 c196 y78.grads] _ [.sl (Kd.int .i64) A252 c253 r241.Shape, .sl Kd.float A254 c255 r241.Data] rfl rfl rfl (by kernel_rfl) rfl) r242 hr242) ?_)
    rintro _ w266 a267 ⟨A262, c263, A264, c265, rfl, hk269⟩ hf268
    have hm270 := hm261.backO [3, 4, 5, 6] [0, 1, 2] _ _ rfl rfl (by kernel_rfl) hk269
    refine go 1 [] [1, 3, 5, 6, 8, 9] [(1, .func (.func 23) #[] #[]), (3, .int .i64 r34.2), (5, .int .i64 r54.2), (6, .pointer (some ⟨b190, 0, none⟩)), (8, .int .i64 r209.2.2), (9, .int .i64 r242.2.2)] [] hf268 (by kernel_rfl) trivial fun a271 hf272 => ?_
    refine endL rfl ?_
    have hm273 := hm270.sel [0, 1, 2, 3] _ rfl (by kernel_rfl)
    refine thenN ?_
    refine wp_seq ?_
    obtain ⟨r274, hr274, H0⟩ := ob_split H0
    obtain ⟨r275, hr275, H0⟩ := ob_split H0
    refine inReg ?_
    refine go 2 [] [1, 3, 5, 6, 8, 9, 65, 66] [(1, .func (.func 23) #[] #[]), (3, .int .i64 r34.2), (5, .int .i64 r54.2), (6, .pointer (some ⟨b190, 0, none⟩)), (8, .int .i64 r209.2.2), (9, .int .i64 r242.2.2), (65, .pointer (some ⟨b190, 0, none⟩)), (66, .func (.func 23) #[] #[])] [] hf272 (by kernel_rfl) trivial fun a276 hf277 => ?_
    refine listOf hf277 rfl (by kernel_rfl) (aLit (cs := [.float .f64 4607182418800017408, .float .f64 4611686018427387904]) (E := 26) (len := 2) (d := 67) hf277 (by kernel_rfl) (by kernel_rfl) ?_)
    intro b278 w279 a280 hbb278 hx282 hg283 hf281
    have hm273s := hm273.still hg283
    have hm284 := Mem.lit (kd := Kd.float) (xs := ([4607182418800017408, 4611686018427387904] : List Nat)) hm273 hbb278 hx282 hg283 (Els.append (Els.one (kd := Kd.float) (us := [.float .f64 4607182418800017408]) (x := 4607182418800017408) ⟨_, rfl, (FR.lit (by kernel_rfl) (by kernel_rfl))⟩) (Els.one (kd := Kd.float) (us := [.float .f64 4611686018427387904]) (x := 4611686018427387904) ⟨_, rfl, (FR.lit (by kernel_rfl) (by kernel_rfl))⟩))
    refine listOf hf281 rfl (by kernel_rfl) (aCall (fid := 23) (args := [.slice (some ⟨b278, 0, none⟩) 2 2]) (d := 68) hf281 (by kernel_rfl) (by kernel_rfl) callable23 (law19_ShelfKnown_1.calls _ _ ([4607182418800017408, 4611686018427387904] : List Nat) (some ⟨b278, 0, none⟩) 2 2 rfl (hm284.give [0] [.sl Kd.float (some ⟨b278, 0, none⟩) 2 ([4607182418800017408, 4611686018427387904] : List Nat)] rfl rfl) r274 hr274) ?_)
    rintro _ w289 a290 ⟨A285, c286, A287, c288, rfl, hk292⟩ hf291
    have hm293 := hm284.back hk292
    have hm294 := hm293.seal 0 _ rfl rfl
    refine listOf hf291 rfl (by kernel_rfl) (aCall (fid := 19) (args := [.pointer (some ⟨b190, 0, none⟩), .int .i64 0, .agg #[.slice A285 r274.Shape.length c286, .slice A287 r274.Data.length c288]]) (d := 69) hf291 (by kernel_rfl) (by kernel_rfl) callable19 (shelf_Shelf_Set.calls _ _ _ (⟨r242.1, r242.2.1, y78.grads⟩ : Shelf) b190 A262 r242.1.length c263 rfl A264 r242.2.1.length c265 rfl A195 y78.grads.length c196 rfl 0 r274 A285 r274.Shape.length c286 rfl A287 r274.Data.length c288 rfl (hm294.giveO [3, 4, 5, 6] [0, 1, 2] [0, 1] [.bx b190 [.slice A262 r242.1.length c263, .slice A264 r242.2.1.length c265, .slice A195 y78.grads.length c196] 72, .ow kTensor 29 A262 c263 r242.1, .ow (Kd.int .i64) 3 A264 c265 r242.2.1, .ow kTensor 29 A195 c196 y78.grads] _ [.sl (Kd.int .i64) A285 c286 r274.Shape, .sl Kd.float A287 c288 r274.Data] rfl rfl rfl (by kernel_rfl) rfl) r275 hr275) ?_)
    rintro _ w299 a300 ⟨A295, c296, A297, c298, rfl, hk302⟩ hf301
    have hm303 := hm294.backO [3, 4, 5, 6] [0, 1, 2] _ _ rfl rfl (by kernel_rfl) hk302
    refine go 1 [] [1, 3, 5, 6, 8, 9, 10] [(1, .func (.func 23) #[] #[]), (3, .int .i64 r34.2), (5, .int .i64 r54.2), (6, .pointer (some ⟨b190, 0, none⟩)), (8, .int .i64 r209.2.2), (9, .int .i64 r242.2.2), (10, .int .i64 r275.2.2)] [] hf301 (by kernel_rfl) trivial fun a304 hf305 => ?_
    refine endL rfl ?_
    have hm306 := hm303.sel [0, 1, 2, 3] _ rfl (by kernel_rfl)
    refine thenN ?_
    refine wp_seq ?_
    obtain ⟨r307, hr307, H0⟩ := ob_split H0
    obtain ⟨r308, hr308, H0⟩ := ob_split H0
    refine inReg ?_
    refine go 2 [] [1, 3, 5, 6, 8, 9, 10, 70, 71] [(1, .func (.func 23) #[] #[]), (3, .int .i64 r34.2), (5, .int .i64 r54.2), (6, .pointer (some ⟨b190, 0, none⟩)), (8, .int .i64 r209.2.2), (9, .int .i64 r242.2.2), (10, .int .i64 r275.2.2), (70, .pointer (some ⟨b190, 0, none⟩)), (71, .func (.func 23) #[] #[])] [] hf305 (by kernel_rfl) trivial fun a309 hf310 => ?_
    refine listOf hf310 rfl (by kernel_rfl) (aLit (cs := [.float .f64 4607182418800017408, .float .f64 4607182418800017408]) (E := 26) (len := 2) (d := 72) hf310 (by kernel_rfl) (by kernel_rfl) ?_)
    intro b311 w312 a313 hbb311 hx315 hg316 hf314
    have hm306s := hm306.still hg316
    have hm317 := Mem.lit (kd := Kd.float) (xs := ([4607182418800017408, 4607182418800017408] : List Nat)) hm306 hbb311 hx315 hg316 (Els.append (Els.one (kd := Kd.float) (us := [.float .f64 4607182418800017408]) (x := 4607182418800017408) ⟨_, rfl, (FR.lit (by kernel_rfl) (by kernel_rfl))⟩) (Els.one (kd := Kd.float) (us := [.float .f64 4607182418800017408]) (x := 4607182418800017408) ⟨_, rfl, (FR.lit (by kernel_rfl) (by kernel_rfl))⟩))
    refine listOf hf314 rfl (by kernel_rfl) (aCall (fid := 23) (args := [.slice (some ⟨b311, 0, none⟩) 2 2]) (d := 73) hf314 (by kernel_rfl) (by kernel_rfl) callable23 (law19_ShelfKnown_1.calls _ _ ([4607182418800017408, 4607182418800017408] : List Nat) (some ⟨b311, 0, none⟩) 2 2 rfl (hm317.give [0] [.sl Kd.float (some ⟨b311, 0, none⟩) 2 ([4607182418800017408, 4607182418800017408] : List Nat)] rfl rfl) r307 hr307) ?_)
    rintro _ w322 a323 ⟨A318, c319, A320, c321, rfl, hk325⟩ hf324
    have hm326 := hm317.back hk325
    have hm327 := hm326.seal 0 _ rfl rfl
    refine listOf hf324 rfl (by kernel_rfl) (aLit (cs := [.slice A318 r307.Shape.length c319, .slice A320 r307.Data.length c321]) (E := 29) (len := 1) (d := 74) hf324 (by kernel_rfl) (by kernel_rfl) ?_)
    intro b328 w329 a330 hbb328 hx332 hg333 hf331
    have hm327s := hm327.still hg333
    have hm334 := Mem.lit (kd := kTensor) (xs := ([r307] : List Tensor)) hm327 hbb328 hx332 hg333 (Els.one (kd := kTensor) (us := [.slice A318 r307.Shape.length c319, .slice A320 r307.Data.length c321]) (x := r307) (kTensor.mk r307 ⟨hm327s.cpAt 0 rfl, (hm327s.slAt 0 rfl)⟩ ⟨hm327s.cpAt 1 rfl, (hm327s.slAt 1 rfl)⟩))
    refine listOf hf331 rfl (by kernel_rfl) (aCall (fid := 11) (args := [.pointer (some ⟨b190, 0, none⟩), .slice (some ⟨b328, 0, none⟩) 1 1]) (d := 75) hf331 (by kernel_rfl) (by kernel_rfl) callable11 (shelf_Shelf_Commit.calls _ _ _ (⟨r275.1, r275.2.1, y78.grads⟩ : Shelf) b190 A295 r275.1.length c296 rfl A297 r275.2.1.length c298 rfl A195 y78.grads.length c196 rfl ([r307] : List Tensor) (some ⟨b328, 0, none⟩) 1 1 rfl (hm334.giveO [4, 5, 6, 7] [0, 1, 2, 3] [0] [.bx b190 [.slice A295 r275.1.length c296, .slice A297 r275.2.1.length c298, .slice A195 y78.grads.length c196] 72, .ow kTensor 29 A295 c296 r275.1, .ow (Kd.int .i64) 3 A297 c298 r275.2.1, .ow kTensor 29 A195 c196 y78.grads] _ [.sl kTensor (some ⟨b328, 0, none⟩) 1 ([r307] : List Tensor)] rfl rfl rfl (by kernel_rfl) rfl) r308 hr308) ?_)
    rintro _ w337 a338 ⟨A335, c336, rfl, hk340⟩ hf339
    have hm341 := hm334.backO [4, 5, 6, 7] [0, 1, 2, 3] _ _ rfl rfl (by kernel_rfl) hk340
    refine go 1 [] [1, 3, 5, 6, 8, 9, 10, 11] [(1, .func (.func 23) #[] #[]), (3, .int .i64 r34.2), (5, .int .i64 r54.2), (6, .pointer (some ⟨b190, 0, none⟩)), (8, .int .i64 r209.2.2), (9, .int .i64 r242.2.2), (10, .int .i64 r275.2.2), (11, .int .i64 r308.2)] [] hf339 (by kernel_rfl) trivial fun a342 hf343 => ?_
    refine endL rfl ?_
    have hm344 := hm341.sel [0, 1, 2, 3] _ rfl (by kernel_rfl)
    refine thenN ?_
    refine wp_seq ?_
    obtain ⟨r345, hr345, H0⟩ := ob_split H0
    obtain ⟨r346, hr346, H0⟩ := ob_split H0
    obtain ⟨r347, hr347, H0⟩ := ob_split H0
    refine inReg ?_
    refine go 2 [] [1, 3, 5, 6, 8, 9, 10, 11, 76, 77] [(1, .func (.func 23) #[] #[]), (3, .int .i64 r34.2), (5, .int .i64 r54.2), (6, .pointer (some ⟨b190, 0, none⟩)), (8, .int .i64 r209.2.2), (9, .int .i64 r242.2.2), (10, .int .i64 r275.2.2), (11, .int .i64 r308.2), (76, .pointer (some ⟨b190, 0, none⟩)), (77, .func (.func 23) #[] #[])] [] hf343 (by kernel_rfl) trivial fun a348 hf349 => ?_
    refine listOf hf349 rfl (by kernel_rfl) (aLit (cs := [.float .f64 4607182418800017408, .float .f64 4607182418800017408]) (E := 26) (len := 2) (d := 78) hf349 (by kernel_rfl) (by kernel_rfl) ?_)
    intro b350 w351 a352 hbb350 hx354 hg355 hf353
    have hm344s := hm344.still hg355
    have hm356 := Mem.lit (kd := Kd.float) (xs := ([4607182418800017408, 4607182418800017408] : List Nat)) hm344 hbb350 hx354 hg355 (Els.append (Els.one (kd := Kd.float) (us := [.float .f64 4607182418800017408]) (x := 4607182418800017408) ⟨_, rfl, (FR.lit (by kernel_rfl) (by kernel_rfl))⟩) (Els.one (kd := Kd.float) (us := [.float .f64 4607182418800017408]) (x := 4607182418800017408) ⟨_, rfl, (FR.lit (by kernel_rfl) (by kernel_rfl))⟩))
    refine listOf hf353 rfl (by kernel_rfl) (aCall (fid := 23) (args := [.slice (some ⟨b350, 0, none⟩) 2 2]) (d := 79) hf353 (by kernel_rfl) (by kernel_rfl) callable23 (law19_ShelfKnown_1.calls _ _ ([4607182418800017408, 4607182418800017408] : List Nat) (some ⟨b350, 0, none⟩) 2 2 rfl (hm356.give [0] [.sl Kd.float (some ⟨b350, 0, none⟩) 2 ([4607182418800017408, 4607182418800017408] : List Nat)] rfl rfl) r345 hr345) ?_)
    rintro _ w361 a362 ⟨A357, c358, A359, c360, rfl, hk364⟩ hf363
    have hm365 := hm356.back hk364
    have hm366 := hm365.seal 0 _ rfl rfl
    refine go 1 [] [1, 3, 5, 6, 8, 9, 10, 11, 76, 79, 80] [(1, .func (.func 23) #[] #[]), (3, .int .i64 r34.2), (5, .int .i64 r54.2), (6, .pointer (some ⟨b190, 0, none⟩)), (8, .int .i64 r209.2.2), (9, .int .i64 r242.2.2), (10, .int .i64 r275.2.2), (11, .int .i64 r308.2), (76, .pointer (some ⟨b190, 0, none⟩)), (79, .agg #[.slice A357 r345.Shape.length c358, .slice A359 r345.Data.length c360]), (80, .func (.func 23) #[] #[])] [] hf363 (by kernel_rfl) trivial fun a367 hf368 => ?_
    refine listOf hf368 rfl (by kernel_rfl) (aLit (cs := [.float .f64 4607182418800017408, .float .f64 4607182418800017408]) (E := 26) (len := 2) (d := 81) hf368 (by kernel_rfl) (by kernel_rfl) ?_)
    intro b369 w370 a371 hbb369 hx373 hg374 hf372
    have hm366s := hm366.still hg374
    have hm375 := Mem.lit (kd := Kd.float) (xs := ([4607182418800017408, 4607182418800017408] : List Nat)) hm366 hbb369 hx373 hg374 (Els.append (Els.one (kd := Kd.float) (us := [.float .f64 4607182418800017408]) (x := 4607182418800017408) ⟨_, rfl, (FR.lit (by kernel_rfl) (by kernel_rfl))⟩) (Els.one (kd := Kd.float) (us := [.float .f64 4607182418800017408]) (x := 4607182418800017408) ⟨_, rfl, (FR.lit (by kernel_rfl) (by kernel_rfl))⟩))
    refine listOf hf372 rfl (by kernel_rfl) (aCall (fid := 23) (args := [.slice (some ⟨b369, 0, none⟩) 2 2]) (d := 82) hf372 (by kernel_rfl) (by kernel_rfl) callable23 (law19_ShelfKnown_1.calls _ _ ([4607182418800017408, 4607182418800017408] : List Nat) (some ⟨b369, 0, none⟩) 2 2 rfl (hm375.give [0] [.sl Kd.float (some ⟨b369, 0, none⟩) 2 ([4607182418800017408, 4607182418800017408] : List Nat)] rfl rfl) r346 hr346) ?_)
    rintro _ w380 a381 ⟨A376, c377, A378, c379, rfl, hk383⟩ hf382
    have hm384 := hm375.back hk383
    have hm385 := hm384.seal 0 _ rfl rfl
    refine listOf hf382 rfl (by kernel_rfl) (aLit (cs := [.slice A357 r345.Shape.length c358, .slice A359 r345.Data.length c360, .slice A376 r346.Shape.length c377, .slice A378 r346.Data.length c379]) (E := 29) (len := 2) (d := 83) hf382 (by kernel_rfl) (by kernel_rfl) ?_)
    intro b386 w387 a388 hbb386 hx390 hg391 hf389
    have hm385s := hm385.still hg391
    have hm392 := Mem.lit (kd := kTensor) (xs := ([r345, r346] : List Tensor)) hm385 hbb386 hx390 hg391 (Els.append (Els.one (kd := kTensor) (us := [.slice A357 r345.Shape.length c358, .slice A359 r345.Data.length c360]) (x := r345) (kTensor.mk r345 ⟨hm385s.cpAt 3 rfl, (hm385s.slAt 3 rfl)⟩ ⟨hm385s.cpAt 4 rfl, (hm385s.slAt 4 rfl)⟩)) (Els.one (kd := kTensor) (us := [.slice A376 r346.Shape.length c377, .slice A378 r346.Data.length c379]) (x := r346) (kTensor.mk r346 ⟨hm385s.cpAt 0 rfl, (hm385s.slAt 0 rfl)⟩ ⟨hm385s.cpAt 1 rfl, (hm385s.slAt 1 rfl)⟩)))
    refine listOf hf389 rfl (by kernel_rfl) (aCall (fid := 11) (args := [.pointer (some ⟨b190, 0, none⟩), .slice (some ⟨b386, 0, none⟩) 2 2]) (d := 84) hf389 (by kernel_rfl) (by kernel_rfl) callable11 (shelf_Shelf_Commit.calls _ _ _ (⟨r275.1, r275.2.1, r308.1⟩ : Shelf) b190 A295 r275.1.length c296 rfl A297 r275.2.1.length c298 rfl A335 r308.1.length c336 rfl ([r345, r346] : List Tensor) (some ⟨b386, 0, none⟩) 2 2 rfl (hm392.giveO [7, 8, 9, 10] [0, 1, 2, 3, 4, 5, 6] [0] [.bx b190 [.slice A295 r275.1.length c296, .slice A297 r275.2.1.length c298, .slice A335 r308.1.length c336] 72, .ow kTensor 29 A295 c296 r275.1, .ow (Kd.int .i64) 3 A297 c298 r275.2.1, .ow kTensor 29 A335 c336 r308.1] _ [.sl kTensor (some ⟨b386, 0, none⟩) 2 ([r345, r346] : List Tensor)] rfl rfl rfl (by kernel_rfl) rfl) r347 hr347) ?_)
    rintro _ w395 a396 ⟨A393, c394, rfl, hk398⟩ hf397
    have hm399 := hm392.backO [7, 8, 9, 10] [0, 1, 2, 3, 4, 5, 6] _ _ rfl rfl (by kernel_rfl) hk398
    refine go 1 [] [1, 3, 5, 6, 8, 9, 10, 11, 12] [(1, .func (.func 23) #[] #[]), (3, .int .i64 r34.2), (5, .int .i64 r54.2), (6, .pointer (some ⟨b190, 0, none⟩)), (8, .int .i64 r209.2.2), (9, .int .i64 r242.2.2), (10, .int .i64 r275.2.2), (11, .int .i64 r308.2), (12, .int .i64 r347.2)] [] hf397 (by kernel_rfl) trivial fun a400 hf401 => ?_
    refine endL rfl ?_
    have hm402 := hm399.sel [0, 1, 2, 3] _ rfl (by kernel_rfl)
    refine thenN ?_
    refine wp_seq ?_
    obtain ⟨r403, hr403, H0⟩ := ob_split H0
    obtain ⟨r404, hr404, H0⟩ := ob_split H0
    obtain ⟨r405, hr405, H0⟩ := ob_split H0
    refine inReg ?_
    refine go 2 [] [1, 3, 5, 6, 8, 9, 10, 11, 12, 85, 86] [(1, .func (.func 23) #[] #[]), (3, .int .i64 r34.2), (5, .int .i64 r54.2), (6, .pointer (some ⟨b190, 0, none⟩)), (8, .int .i64 r209.2.2), (9, .int .i64 r242.2.2), (10, .int .i64 r275.2.2), (11, .int .i64 r308.2), (12, .int .i64 r347.2), (85, .pointer (some ⟨b190, 0, none⟩)), (86, .func (.func 23) #[] #[])] [] hf401 (by kernel_rfl) trivial fun a406 hf407 => ?_
    refine listOf hf407 rfl (by kernel_rfl) (aLit (cs := [.float .f64 4607182418800017408, .float .f64 4607182418800017408]) (E := 26) (len := 2) (d := 87) hf407 (by kernel_rfl) (by kernel_rfl) ?_)
    intro b408 w409 a410 hbb408 hx412 hg413 hf411
    have hm402s := hm402.still hg413
    have hm414 := Mem.lit (kd := Kd.float) (xs := ([4607182418800017408, 4607182418800017408] : List Nat)) hm402 hbb408 hx412 hg413 (Els.append (Els.one (kd := Kd.float) (us := [.float .f64 4607182418800017408]) (x := 4607182418800017408) ⟨_, rfl, (FR.lit (by kernel_rfl) (by kernel_rfl))⟩) (Els.one (kd := Kd.float) (us := [.float .f64 4607182418800017408]) (x := 4607182418800017408) ⟨_, rfl, (FR.lit (by kernel_rfl) (by kernel_rfl))⟩))
    refine listOf hf411 rfl (by kernel_rfl) (aCall (fid := 23) (args := [.slice (some ⟨b408, 0, none⟩) 2 2]) (d := 88) hf411 (by kernel_rfl) (by kernel_rfl) callable23 (law19_ShelfKnown_1.calls _ _ ([4607182418800017408, 4607182418800017408] : List Nat) (some ⟨b408, 0, none⟩) 2 2 rfl (hm414.give [0] [.sl Kd.float (some ⟨b408, 0, none⟩) 2 ([4607182418800017408, 4607182418800017408] : List Nat)] rfl rfl) r403 hr403) ?_)
    rintro _ w419 a420 ⟨A415, c416, A417, c418, rfl, hk422⟩ hf421
    have hm423 := hm414.back hk422
    have hm424 := hm423.seal 0 _ rfl rfl
    refine go 1 [] [1, 3, 5, 6, 8, 9, 10, 11, 12, 85, 88, 89] [(1, .func (.func 23) #[] #[]), (3, .int .i64 r34.2), (5, .int .i64 r54.2), (6, .pointer (some ⟨b190, 0, none⟩)), (8, .int .i64 r209.2.2), (9, .int .i64 r242.2.2), (10, .int .i64 r275.2.2), (11, .int .i64 r308.2), (12, .int .i64 r347.2), (85, .pointer (some ⟨b190, 0, none⟩)), (88, .agg #[.slice A415 r403.Shape.length c416, .slice A417 r403.Data.length c418]), (89, .func (.func 23) #[] #[])] [] hf421 (by kernel_rfl) trivial fun a425 hf426 => ?_
    refine listOf hf426 rfl (by kernel_rfl) (aLit (cs := [.float .f64 4617315517961601024]) (E := 26) (len := 1) (d := 90) hf426 (by kernel_rfl) (by kernel_rfl) ?_)
    intro b427 w428 a429 hbb427 hx431 hg432 hf430
    have hm424s := hm424.still hg432
    have hm433 := Mem.lit (kd := Kd.float) (xs := ([4617315517961601024] : List Nat)) hm424 hbb427 hx431 hg432 (Els.one (kd := Kd.float) (us := [.float .f64 4617315517961601024]) (x := 4617315517961601024) ⟨_, rfl, (FR.lit (by kernel_rfl) (by kernel_rfl))⟩)
    refine listOf hf430 rfl (by kernel_rfl) (aCall (fid := 23) (args := [.slice (some ⟨b427, 0, none⟩) 1 1]) (d := 91) hf430 (by kernel_rfl) (by kernel_rfl) callable23 (law19_ShelfKnown_1.calls _ _ ([4617315517961601024] : List Nat) (some ⟨b427, 0, none⟩) 1 1 rfl (hm433.give [0] [.sl Kd.float (some ⟨b427, 0, none⟩) 1 ([4617315517961601024] : List Nat)] rfl rfl) r404 hr404) ?_)
    rintro _ w438 a439 ⟨A434, c435, A436, c437, rfl, hk441⟩ hf440
    have hm442 := hm433.back hk441
    have hm443 := hm442.seal 0 _ rfl rfl
    refine listOf hf440 rfl (by kernel_rfl) (aLit (cs := [.slice A415 r403.Shape.length c416, .slice A417 r403.Data.length c418, .slice A434 r404.Shape.length c435, .slice A436 r404.Data.length c437]) (E := 29) (len := 2) (d := 92) hf440 (by kernel_rfl) (by kernel_rfl) ?_)
    intro b444 w445 a446 hbb444 hx448 hg449 hf447
    have hm443s := hm443.still hg449
    have hm450 := Mem.lit (kd := kTensor) (xs := ([r403, r404] : List Tensor)) hm443 hbb444 hx448 hg449 (Els.append (Els.one (kd := kTensor) (us := [.slice A415 r403.Shape.length c416, .slice A417 r403.Data.length c418]) (x := r403) (kTensor.mk r403 ⟨hm443s.cpAt 3 rfl, (hm443s.slAt 3 rfl)⟩ ⟨hm443s.cpAt 4 rfl, (hm443s.slAt 4 rfl)⟩)) (Els.one (kd := kTensor) (us := [.slice A434 r404.Shape.length c435, .slice A436 r404.Data.length c437]) (x := r404) (kTensor.mk r404 ⟨hm443s.cpAt 0 rfl, (hm443s.slAt 0 rfl)⟩ ⟨hm443s.cpAt 1 rfl, (hm443s.slAt 1 rfl)⟩)))
    refine listOf hf447 rfl (by kernel_rfl) (aCall (fid := 11) (args := [.pointer (some ⟨b190, 0, none⟩), .slice (some ⟨b444, 0, none⟩) 2 2]) (d := 93) hf447 (by kernel_rfl) (by kernel_rfl) callable11 (shelf_Shelf_Commit.calls _ _ _ (⟨r275.1, r275.2.1, r347.1⟩ : Shelf) b190 A295 r275.1.length c296 rfl A297 r275.2.1.length c298 rfl A393 r347.1.length c394 rfl ([r403, r404] : List Tensor) (some ⟨b444, 0, none⟩) 2 2 rfl (hm450.giveO [7, 8, 9, 10] [0, 1, 2, 3, 4, 5, 6] [0] [.bx b190 [.slice A295 r275.1.length c296, .slice A297 r275.2.1.length c298, .slice A393 r347.1.length c394] 72, .ow kTensor 29 A295 c296 r275.1, .ow (Kd.int .i64) 3 A297 c298 r275.2.1, .ow kTensor 29 A393 c394 r347.1] _ [.sl kTensor (some ⟨b444, 0, none⟩) 2 ([r403, r404] : List Tensor)] rfl rfl rfl (by kernel_rfl) rfl) r405 hr405) ?_)
    rintro _ w453 a454 ⟨A451, c452, rfl, hk456⟩ hf455
    have hm457 := hm450.backO [7, 8, 9, 10] [0, 1, 2, 3, 4, 5, 6] _ _ rfl rfl (by kernel_rfl) hk456
    refine go 1 [] [1, 3, 5, 6, 8, 9, 10, 11, 12, 13] [(1, .func (.func 23) #[] #[]), (3, .int .i64 r34.2), (5, .int .i64 r54.2), (6, .pointer (some ⟨b190, 0, none⟩)), (8, .int .i64 r209.2.2), (9, .int .i64 r242.2.2), (10, .int .i64 r275.2.2), (11, .int .i64 r308.2), (12, .int .i64 r347.2), (13, .int .i64 r405.2)] [] hf455 (by kernel_rfl) trivial fun a458 hf459 => ?_
    refine endL rfl ?_
    have hm460 := hm457.sel [0, 1, 2, 3] _ rfl (by kernel_rfl)
    refine thenN ?_
    refine wp_seq ?_
    obtain ⟨r461, hr461, H0⟩ := ob_split H0
    refine inReg ?_
    refine go 1 [] [1, 3, 5, 6, 8, 9, 10, 11, 12, 13, 95] [(1, .func (.func 23) #[] #[]), (3, .int .i64 r34.2), (5, .int .i64 r54.2), (6, .pointer (some ⟨b190, 0, none⟩)), (8, .int .i64 r209.2.2), (9, .int .i64 r242.2.2), (10, .int .i64 r275.2.2), (11, .int .i64 r308.2), (12, .int .i64 r347.2), (13, .int .i64 r405.2), (95, .pointer (some ⟨b190, 0, none⟩))] [] hf459 (by kernel_rfl) trivial fun a462 hf463 => ?_
    refine listOf hf463 rfl (by kernel_rfl) (aCall (fid := 13) (args := [.pointer (some ⟨b190, 0, none⟩), .int .i64 0]) (d := 96) hf463 (by kernel_rfl) (by kernel_rfl) callable13 (shelf_Shelf_Grad.calls _ _ _ (⟨r275.1, r275.2.1, r405.1⟩ : Shelf) b190 A295 r275.1.length c296 rfl A297 r275.2.1.length c298 rfl A451 r405.1.length c452 rfl 0 (hm460.giveO [0, 1, 2, 3] [] [] [.bx b190 [.slice A295 r275.1.length c296, .slice A297 r275.2.1.length c298, .slice A451 r405.1.length c452] 72, .ow kTensor 29 A295 c296 r275.1, .ow (Kd.int .i64) 3 A297 c298 r275.2.1, .ow kTensor 29 A451 c452 r405.1] _ [] rfl rfl rfl (by kernel_rfl) rfl) r461 hr461) ?_)
    rintro _ w468 a469 ⟨A464, c465, A466, c467, rfl, hk471⟩ hf470
    have hm472 := hm460.backO [0, 1, 2, 3] [] _ _ rfl rfl (by kernel_rfl) hk471
    have hm473 := hm472.seal 4 _ rfl rfl
    have hm474 := hm473.seal 5 _ rfl rfl
    refine go 3 [] [1, 3, 5, 6, 8, 9, 10, 11, 12, 13, 97, 98] [(1, .func (.func 23) #[] #[]), (3, .int .i64 r34.2), (5, .int .i64 r54.2), (6, .pointer (some ⟨b190, 0, none⟩)), (8, .int .i64 r209.2.2), (9, .int .i64 r242.2.2), (10, .int .i64 r275.2.2), (11, .int .i64 r308.2), (12, .int .i64 r347.2), (13, .int .i64 r405.2), (97, .agg #[.slice A464 r461.1.Shape.length c465, .slice A466 r461.1.Data.length c467]), (98, .int .i64 r461.2)] [] hf470 (by kernel_rfl) trivial fun a475 hf476 => ?_
    refine listOf hf476 rfl (by kernel_rfl) (aNew (cs := [.slice none 0 0, .slice none 0 0]) (T := 29) (d := 14) hf476 (by kernel_rfl) (by kernel_rfl) ?_)
    intro b477 w478 a479 hbb477 hx481 hg482 hf480
    have hm483 := hm474.box hbb477 hx481 hg482
    refine listOf hf480 rfl (by kernel_rfl) (aStoreB (b := b477) (j := 0) (T := 29) (cs := [.slice none 0 0, .slice none 0 0]) (us := [.slice A464 r461.1.Shape.length c465, .slice A466 r461.1.Data.length c467]) (cs' := [.slice A464 r461.1.Shape.length c465, .slice A466 r461.1.Data.length c467]) hf480 (by kernel_rfl) (hm483.bxAt 0 rfl) (by kernel_rfl) (by kernel_rfl) (by kernel_rfl) ?_)
    intro w484 hx485 hg486
    have hm487 := hm483.setBox 0 _ rfl rfl hx485 hg486
    refine go 1 [] [1, 3, 5, 6, 8, 9, 10, 11, 12, 13, 14] [(1, .func (.func 23) #[] #[]), (3, .int .i64 r34.2), (5, .int .i64 r54.2), (6, .pointer (some ⟨b190, 0, none⟩)), (8, .int .i64 r209.2.2), (9, .int .i64 r242.2.2), (10, .int .i64 r275.2.2), (11, .int .i64 r308.2), (12, .int .i64 r347.2), (13, .int .i64 r405.2), (14, .pointer (some ⟨b477, 0, none⟩))] [] hf480 (by kernel_rfl) trivial fun a488 hf489 => ?_
    refine endL rfl ?_
    refine thenN ?_
    refine wp_seq ?_
    obtain ⟨r490, hr490, H0⟩ := ob_split H0
    refine inReg ?_
    refine go 1 [] [1, 3, 5, 6, 8, 9, 10, 11, 12, 13, 14, 100] [(1, .func (.func 23) #[] #[]), (3, .int .i64 r34.2), (5, .int .i64 r54.2), (6, .pointer (some ⟨b190, 0, none⟩)), (8, .int .i64 r209.2.2), (9, .int .i64 r242.2.2), (10, .int .i64 r275.2.2), (11, .int .i64 r308.2), (12, .int .i64 r347.2), (13, .int .i64 r405.2), (14, .pointer (some ⟨b477, 0, none⟩)), (100, .pointer (some ⟨b190, 0, none⟩))] [] hf489 (by kernel_rfl) trivial fun a491 hf492 => ?_
    refine listOf hf492 rfl (by kernel_rfl) (aCall (fid := 14) (args := [.pointer (some ⟨b190, 0, none⟩), .int .i64 0]) (d := 101) hf492 (by kernel_rfl) (by kernel_rfl) callable14 (shelf_Shelf_Get.calls _ _ _ (⟨r275.1, r275.2.1, r405.1⟩ : Shelf) b190 A295 r275.1.length c296 rfl A297 r275.2.1.length c298 rfl A451 r405.1.length c452 rfl 0 (hm487.giveO [1, 2, 3, 4] [0, 5, 6] [] [.bx b190 [.slice A295 r275.1.length c296, .slice A297 r275.2.1.length c298, .slice A451 r405.1.length c452] 72, .ow kTensor 29 A295 c296 r275.1, .ow (Kd.int .i64) 3 A297 c298 r275.2.1, .ow kTensor 29 A451 c452 r405.1] _ [] rfl rfl rfl (by kernel_rfl) rfl) r490 hr490) ?_)
    rintro _ w497 a498 ⟨A493, c494, A495, c496, rfl, hk500⟩ hf499
    have hm501 := hm487.backO [1, 2, 3, 4] [0, 5, 6] _ _ rfl rfl (by kernel_rfl) hk500
    have hm502 := hm501.seal 4 _ rfl rfl
    have hm503 := hm502.seal 5 _ rfl rfl
    refine go 4 [] [1, 3, 5, 6, 8, 9, 10, 11, 12, 13, 14, 102, 103, 104] [(1, .func (.func 23) #[] #[]), (3, .int .i64 r34.2), (5, .int .i64 r54.2), (6, .pointer (some ⟨b190, 0, none⟩)), (8, .int .i64 r209.2.2), (9, .int .i64 r242.2.2), (10, .int .i64 r275.2.2), (11, .int .i64 r308.2), (12, .int .i64 r347.2), (13, .int .i64 r405.2), (14, .pointer (some ⟨b477, 0, none⟩)), (102, .agg #[.slice A493 r490.1.Shape.length c494, .slice A495 r490.1.Data.length c496]), (103, .int .i64 r490.2.1), (104, .int .i64 r490.2.2)] [] hf499 (by kernel_rfl) trivial fun a504 hf505 => ?_
    refine listOf hf505 rfl (by kernel_rfl) (aNew (cs := [.slice none 0 0, .slice none 0 0]) (T := 29) (d := 16) hf505 (by kernel_rfl) (by kernel_rfl) ?_)
    intro b506 w507 a508 hbb506 hx510 hg511 hf509
    have hm512 := hm503.box hbb506 hx510 hg511
    refine listOf hf509 rfl (by kernel_rfl) (aStoreB (b := b506) (j := 0) (T := 29) (cs := [.slice none 0 0, .slice none 0 0]) (us := [.slice A493 r490.1.Shape.length c494, .slice A495 r490.1.Data.length c496]) (cs' := [.slice A493 r490.1.Shape.length c494, .slice A495 r490.1.Data.length c496]) hf509 (by kernel_rfl) (hm512.bxAt 0 rfl) (by kernel_rfl) (by kernel_rfl) (by kernel_rfl) ?_)
    intro w513 hx514 hg515
    have hm516 := hm512.setBox 0 _ rfl rfl hx514 hg515
    refine go 2 [] [1, 3, 5, 6, 8, 9, 10, 11, 12, 13, 14, 17, 18] [(1, .func (.func 23) #[] #[]), (3, .int .i64 r34.2), (5, .int .i64 r54.2), (6, .pointer (some ⟨b190, 0, none⟩)), (8, .int .i64 r209.2.2), (9, .int .i64 r242.2.2), (10, .int .i64 r275.2.2), (11, .int .i64 r308.2), (12, .int .i64 r347.2), (13, .int .i64 r405.2), (14, .pointer (some ⟨b477, 0, none⟩)), (17, .int .i64 r490.2.1), (18, .int .i64 r490.2.2)] [] hf509 (by kernel_rfl) trivial fun a517 hf518 => ?_
    refine endL rfl ?_
    have hm519 := hm516.sel [1, 2, 3, 4, 7, 8, 9] _ rfl (by kernel_rfl)
    refine thenN ?_
    refine wp_seq ?_
    obtain ⟨r520, hr520, H0⟩ := ob_split H0
    refine inReg ?_
    refine go 1 [] [1, 3, 5, 6, 8, 9, 10, 11, 12, 13, 14, 17, 18, 105] [(1, .func (.func 23) #[] #[]), (3, .int .i64 r34.2), (5, .int .i64 r54.2), (6, .pointer (some ⟨b190, 0, none⟩)), (8, .int .i64 r209.2.2), (9, .int .i64 r242.2.2), (10, .int .i64 r275.2.2), (11, .int .i64 r308.2), (12, .int .i64 r347.2), (13, .int .i64 r405.2), (14, .pointer (some ⟨b477, 0, none⟩)), (17, .int .i64 r490.2.1), (18, .int .i64 r490.2.2), (105, .pointer (some ⟨b190, 0, none⟩))] [] hf518 (by kernel_rfl) trivial fun a521 hf522 => ?_
    refine listOf hf522 rfl (by kernel_rfl) (aCall (fid := 12) (args := [.pointer (some ⟨b190, 0, none⟩), .int .i64 0]) (d := 106) hf522 (by kernel_rfl) (by kernel_rfl) callable12 (shelf_Shelf_Zero.calls _ _ _ (⟨r275.1, r275.2.1, r405.1⟩ : Shelf) b190 A295 r275.1.length c296 rfl A297 r275.2.1.length c298 rfl A451 r405.1.length c452 rfl 0 (hm519.giveO [0, 1, 2, 3] [4, 5, 6] [] [.bx b190 [.slice A295 r275.1.length c296, .slice A297 r275.2.1.length c298, .slice A451 r405.1.length c452] 72, .ow kTensor 29 A295 c296 r275.1, .ow (Kd.int .i64) 3 A297 c298 r275.2.1, .ow kTensor 29 A451 c452 r405.1] _ [] rfl rfl rfl (by kernel_rfl) rfl) r520 hr520) ?_)
    rintro _ w525 a526 ⟨A523, c524, rfl, hk528⟩ hf527
    have hm529 := hm519.backO [0, 1, 2, 3] [4, 5, 6] _ _ rfl rfl (by kernel_rfl) hk528
    refine go 1 [] [1, 3, 5, 6, 8, 9, 10, 11, 12, 13, 14, 17, 18, 19] [(1, .func (.func 23) #[] #[]), (3, .int .i64 r34.2), (5, .int .i64 r54.2), (6, .pointer (some ⟨b190, 0, none⟩)), (8, .int .i64 r209.2.2), (9, .int .i64 r242.2.2), (10, .int .i64 r275.2.2), (11, .int .i64 r308.2), (12, .int .i64 r347.2), (13, .int .i64 r405.2), (14, .pointer (some ⟨b477, 0, none⟩)), (17, .int .i64 r490.2.1), (18, .int .i64 r490.2.2), (19, .int .i64 r520.2)] [] hf527 (by kernel_rfl) trivial fun a530 hf531 => ?_
    refine endL rfl ?_
    refine thenN ?_
    refine wp_seq ?_
    obtain ⟨r532, hr532, H0⟩ := ob_split H0
    refine inReg ?_
    refine go 1 [] [1, 3, 5, 6, 8, 9, 10, 11, 12, 13, 14, 17, 18, 19, 108] [(1, .func (.func 23) #[] #[]), (3, .int .i64 r34.2), (5, .int .i64 r54.2), (6, .pointer (some ⟨b190, 0, none⟩)), (8, .int .i64 r209.2.2), (9, .int .i64 r242.2.2), (10, .int .i64 r275.2.2), (11, .int .i64 r308.2), (12, .int .i64 r347.2), (13, .int .i64 r405.2), (14, .pointer (some ⟨b477, 0, none⟩)), (17, .int .i64 r490.2.1), (18, .int .i64 r490.2.2), (19, .int .i64 r520.2), (108, .pointer (some ⟨b190, 0, none⟩))] [] hf531 (by kernel_rfl) trivial fun a533 hf534 => ?_
    refine listOf hf534 rfl (by kernel_rfl) (aCall (fid := 13) (args := [.pointer (some ⟨b190, 0, none⟩), .int .i64 0]) (d := 109) hf534 (by kernel_rfl) (by kernel_rfl) callable13 (shelf_Shelf_Grad.calls _ _ _ (⟨r275.1, r275.2.1, r520.1⟩ : Shelf) b190 A295 r275.1.length c296 rfl A297 r275.2.1.length c298 rfl A523 r520.1.length c524 rfl 0 (hm529.giveO [0, 1, 2, 3] [4, 5, 6] [] [.bx b190 [.slice A295 r275.1.length c296, .slice A297 r275.2.1.length c298, .slice A523 r520.1.length c524] 72, .ow kTensor 29 A295 c296 r275.1, .ow (Kd.int .i64) 3 A297 c298 r275.2.1, .ow kTensor 29 A523 c524 r520.1] _ [] rfl rfl rfl (by kernel_rfl) rfl) r532 hr532) ?_)
    rintro _ w539 a540 ⟨A535, c536, A537, c538, rfl, hk542⟩ hf541
    have hm543 := hm529.backO [0, 1, 2, 3] [4, 5, 6] _ _ rfl rfl (by kernel_rfl) hk542
    have hm544 := hm543.seal 4 _ rfl rfl
    have hm545 := hm544.seal 5 _ rfl rfl
    refine go 3 [] [1, 3, 5, 6, 8, 9, 10, 11, 12, 13, 14, 17, 18, 19, 110, 111] [(1, .func (.func 23) #[] #[]), (3, .int .i64 r34.2), (5, .int .i64 r54.2), (6, .pointer (some ⟨b190, 0, none⟩)), (8, .int .i64 r209.2.2), (9, .int .i64 r242.2.2), (10, .int .i64 r275.2.2), (11, .int .i64 r308.2), (12, .int .i64 r347.2), (13, .int .i64 r405.2), (14, .pointer (some ⟨b477, 0, none⟩)), (17, .int .i64 r490.2.1), (18, .int .i64 r490.2.2), (19, .int .i64 r520.2), (110, .agg #[.slice A535 r532.1.Shape.length c536, .slice A537 r532.1.Data.length c538]), (111, .int .i64 r532.2)] [] hf541 (by kernel_rfl) trivial fun a546 hf547 => ?_
    refine listOf hf547 rfl (by kernel_rfl) (aNew (cs := [.slice none 0 0, .slice none 0 0]) (T := 29) (d := 20) hf547 (by kernel_rfl) (by kernel_rfl) ?_)
    intro b548 w549 a550 hbb548 hx552 hg553 hf551
    have hm554 := hm545.box hbb548 hx552 hg553
    refine listOf hf551 rfl (by kernel_rfl) (aStoreB (b := b548) (j := 0) (T := 29) (cs := [.slice none 0 0, .slice none 0 0]) (us := [.slice A535 r532.1.Shape.length c536, .slice A537 r532.1.Data.length c538]) (cs' := [.slice A535 r532.1.Shape.length c536, .slice A537 r532.1.Data.length c538]) hf551 (by kernel_rfl) (hm554.bxAt 0 rfl) (by kernel_rfl) (by kernel_rfl) (by kernel_rfl) ?_)
    intro w555 hx556 hg557
    have hm558 := hm554.setBox 0 _ rfl rfl hx556 hg557
    refine go 1 [] [1, 3, 5, 6, 8, 9, 10, 11, 12, 13, 14, 17, 18, 19, 20] [(1, .func (.func 23) #[] #[]), (3, .int .i64 r34.2), (5, .int .i64 r54.2), (6, .pointer (some ⟨b190, 0, none⟩)), (8, .int .i64 r209.2.2), (9, .int .i64 r242.2.2), (10, .int .i64 r275.2.2), (11, .int .i64 r308.2), (12, .int .i64 r347.2), (13, .int .i64 r405.2), (14, .pointer (some ⟨b477, 0, none⟩)), (17, .int .i64 r490.2.1), (18, .int .i64 r490.2.2), (19, .int .i64 r520.2), (20, .pointer (some ⟨b548, 0, none⟩))] [] hf551 (by kernel_rfl) trivial fun a559 hf560 => ?_
    refine endL rfl ?_
    refine thenN ?_
    refine wp_seq ?_
    obtain ⟨r561, hr561, H0⟩ := ob_split H0
    refine inReg ?_
    refine go 1 [] [1, 3, 5, 6, 8, 9, 10, 11, 12, 13, 14, 17, 18, 19, 20, 113] [(1, .func (.func 23) #[] #[]), (3, .int .i64 r34.2), (5, .int .i64 r54.2), (6, .pointer (some ⟨b190, 0, none⟩)), (8, .int .i64 r209.2.2), (9, .int .i64 r242.2.2), (10, .int .i64 r275.2.2), (11, .int .i64 r308.2), (12, .int .i64 r347.2), (13, .int .i64 r405.2), (14, .pointer (some ⟨b477, 0, none⟩)), (17, .int .i64 r490.2.1), (18, .int .i64 r490.2.2), (19, .int .i64 r520.2), (20, .pointer (some ⟨b548, 0, none⟩)), (113, .pointer (some ⟨b190, 0, none⟩))] [] hf560 (by kernel_rfl) trivial fun a562 hf563 => ?_
    refine listOf hf563 rfl (by kernel_rfl) (aCall (fid := 13) (args := [.pointer (some ⟨b190, 0, none⟩), .int .i64 1]) (d := 114) hf563 (by kernel_rfl) (by kernel_rfl) callable13 (shelf_Shelf_Grad.calls _ _ _ (⟨r275.1, r275.2.1, r520.1⟩ : Shelf) b190 A295 r275.1.length c296 rfl A297 r275.2.1.length c298 rfl A523 r520.1.length c524 rfl 1 (hm558.giveO [1, 2, 3, 4] [0, 5, 6, 7, 8, 9] [] [.bx b190 [.slice A295 r275.1.length c296, .slice A297 r275.2.1.length c298, .slice A523 r520.1.length c524] 72, .ow kTensor 29 A295 c296 r275.1, .ow (Kd.int .i64) 3 A297 c298 r275.2.1, .ow kTensor 29 A523 c524 r520.1] _ [] rfl rfl rfl (by kernel_rfl) rfl) r561 hr561) ?_)
    rintro _ w568 a569 ⟨A564, c565, A566, c567, rfl, hk571⟩ hf570
    have hm572 := hm558.backO [1, 2, 3, 4] [0, 5, 6, 7, 8, 9] _ _ rfl rfl (by kernel_rfl) hk571
    have hm573 := hm572.seal 4 _ rfl rfl
    have hm574 := hm573.seal 5 _ rfl rfl
    refine go 3 [] [1, 3, 5, 6, 8, 9, 10, 11, 12, 13, 14, 17, 18, 19, 20, 115, 116] [(1, .func (.func 23) #[] #[]), (3, .int .i64 r34.2), (5, .int .i64 r54.2), (6, .pointer (some ⟨b190, 0, none⟩)), (8, .int .i64 r209.2.2), (9, .int .i64 r242.2.2), (10, .int .i64 r275.2.2), (11, .int .i64 r308.2), (12, .int .i64 r347.2), (13, .int .i64 r405.2), (14, .pointer (some ⟨b477, 0, none⟩)), (17, .int .i64 r490.2.1), (18, .int .i64 r490.2.2), (19, .int .i64 r520.2), (20, .pointer (some ⟨b548, 0, none⟩)), (115, .agg #[.slice A564 r561.1.Shape.length c565, .slice A566 r561.1.Data.length c567]), (116, .int .i64 r561.2)] [] hf570 (by kernel_rfl) trivial fun a575 hf576 => ?_
    refine listOf hf576 rfl (by kernel_rfl) (aNew (cs := [.slice none 0 0, .slice none 0 0]) (T := 29) (d := 22) hf576 (by kernel_rfl) (by kernel_rfl) ?_)
    intro b577 w578 a579 hbb577 hx581 hg582 hf580
    have hm583 := hm574.box hbb577 hx581 hg582
    refine listOf hf580 rfl (by kernel_rfl) (aStoreB (b := b577) (j := 0) (T := 29) (cs := [.slice none 0 0, .slice none 0 0]) (us := [.slice A564 r561.1.Shape.length c565, .slice A566 r561.1.Data.length c567]) (cs' := [.slice A564 r561.1.Shape.length c565, .slice A566 r561.1.Data.length c567]) hf580 (by kernel_rfl) (hm583.bxAt 0 rfl) (by kernel_rfl) (by kernel_rfl) (by kernel_rfl) ?_)
    intro w584 hx585 hg586
    have hm587 := hm583.setBox 0 _ rfl rfl hx585 hg586
    refine go 1 [] [1, 3, 5, 6, 8, 9, 10, 11, 12, 13, 14, 17, 18, 19, 20, 22] [(1, .func (.func 23) #[] #[]), (3, .int .i64 r34.2), (5, .int .i64 r54.2), (6, .pointer (some ⟨b190, 0, none⟩)), (8, .int .i64 r209.2.2), (9, .int .i64 r242.2.2), (10, .int .i64 r275.2.2), (11, .int .i64 r308.2), (12, .int .i64 r347.2), (13, .int .i64 r405.2), (14, .pointer (some ⟨b477, 0, none⟩)), (17, .int .i64 r490.2.1), (18, .int .i64 r490.2.2), (19, .int .i64 r520.2), (20, .pointer (some ⟨b548, 0, none⟩)), (22, .pointer (some ⟨b577, 0, none⟩))] [] hf580 (by kernel_rfl) trivial fun a588 hf589 => ?_
    refine endL rfl ?_
    refine thenN ?_
    refine wp_seq ?_
    obtain ⟨r590, hr590, H0⟩ := ob_split H0
    refine inReg ?_
    refine go 1 [] [1, 3, 5, 8, 9, 10, 11, 12, 13, 14, 17, 18, 19, 20, 22, 117] [(1, .func (.func 23) #[] #[]), (3, .int .i64 r34.2), (5, .int .i64 r54.2), (8, .int .i64 r209.2.2), (9, .int .i64 r242.2.2), (10, .int .i64 r275.2.2), (11, .int .i64 r308.2), (12, .int .i64 r347.2), (13, .int .i64 r405.2), (14, .pointer (some ⟨b477, 0, none⟩)), (17, .int .i64 r490.2.1), (18, .int .i64 r490.2.2), (19, .int .i64 r520.2), (20, .pointer (some ⟨b548, 0, none⟩)), (22, .pointer (some ⟨b577, 0, none⟩)), (117, .pointer (some ⟨b190, 0, none⟩))] [] hf589 (by kernel_rfl) trivial fun a591 hf592 => ?_
    refine listOf hf592 rfl (by kernel_rfl) (aCall (fid := 12) (args := [.pointer (some ⟨b190, 0, none⟩), .int .i64 (-1)]) (d := 118) hf592 (by kernel_rfl) (by kernel_rfl) callable12 (shelf_Shelf_Zero.calls _ _ _ (⟨r275.1, r275.2.1, r520.1⟩ : Shelf) b190 A295 r275.1.length c296 rfl A297 r275.2.1.length c298 rfl A523 r520.1.length c524 rfl (-1) (hm587.giveO [1, 2, 3, 4] [0, 5, 6, 7, 8, 9, 10, 11, 12] [] [.bx b190 [.slice A295 r275.1.length c296, .slice A297 r275.2.1.length c298, .slice A523 r520.1.length c524] 72, .ow kTensor 29 A295 c296 r275.1, .ow (Kd.int .i64) 3 A297 c298 r275.2.1, .ow kTensor 29 A523 c524 r520.1] _ [] rfl rfl rfl (by kernel_rfl) rfl) r590 hr590) ?_)
    rintro _ w595 a596 ⟨A593, c594, rfl, hk598⟩ hf597
    have hm599 := hm587.backO [1, 2, 3, 4] [0, 5, 6, 7, 8, 9, 10, 11, 12] _ _ rfl rfl (by kernel_rfl) hk598
    refine go 1 [] [1, 3, 5, 8, 9, 10, 11, 12, 13, 14, 17, 18, 19, 20, 22, 24] [(1, .func (.func 23) #[] #[]), (3, .int .i64 r34.2), (5, .int .i64 r54.2), (8, .int .i64 r209.2.2), (9, .int .i64 r242.2.2), (10, .int .i64 r275.2.2), (11, .int .i64 r308.2), (12, .int .i64 r347.2), (13, .int .i64 r405.2), (14, .pointer (some ⟨b477, 0, none⟩)), (17, .int .i64 r490.2.1), (18, .int .i64 r490.2.2), (19, .int .i64 r520.2), (20, .pointer (some ⟨b548, 0, none⟩)), (22, .pointer (some ⟨b577, 0, none⟩)), (24, .int .i64 r590.2)] [] hf597 (by kernel_rfl) trivial fun a600 hf601 => ?_
    refine endL rfl ?_
    have hm602 := hm599.sel [4, 5, 6, 7, 8, 9, 10, 11, 12] _ rfl (by kernel_rfl)
    refine thenN ?_
    refine wp_seq ?_
    rcases if_split H0 with ⟨c603, H0⟩ | ⟨c603, H0⟩
    rotate_left
    · refine regQ [.bool false] [0] [(0, .bool false)] [.is (((r34.2 : Int) == 13) = false)] (by kernel_rfl) (by kernel_rfl) hf601 (by kernel_rfl) ⟨(eqF c603), trivial⟩ fun a1842 w1844 hf1843 hg1845 => ?_
      have hm1846 := hm602.still hg1845
      have hm1847 := hm1846.sel [] _ rfl (by kernel_rfl)
      refine thenN ?_
      refine wp_ret ?_
      have hm1848 : Mem [] M w0 [] w1844 := hm1847.sel [] _ rfl (by kernel_rfl)
      obtain rfl := Option.some.inj H0
      refine ret [] [.bool false] [] hf1843 (by kernel_rfl) trivial ?_
      exact ⟨_, rfl, rfl, hm1848⟩
    rcases if_split H0 with ⟨c604, H0⟩ | ⟨c604, H0⟩
    rotate_left
    · refine regQ [.bool true, .bool false] [0] [(0, .bool false)] [.is (((r34.2 : Int) == 13) = true), .is (((r54.2 : Int) == 2) = false)] (by kernel_rfl) (by kernel_rfl) hf601 (by kernel_rfl) ⟨(eqT c603), (eqF c604), trivial⟩ fun a1834 w1836 hf1835 hg1837 => ?_
      have hm1838 := hm602.still hg1837
      have hm1839 := hm1838.sel [] _ rfl (by kernel_rfl)
      refine thenN ?_
      refine wp_ret ?_
      have hm1840 : Mem [] M w0 [] w1836 := hm1839.sel [] _ rfl (by kernel_rfl)
      obtain rfl := Option.some.inj H0
      refine ret [] [.bool false] [] hf1835 (by kernel_rfl) trivial ?_
      exact ⟨_, rfl, rfl, hm1840⟩
    rcases if_split H0 with ⟨c605, H0⟩ | ⟨c605, H0⟩
    rotate_left
    · refine regQ [.bool true, .bool true, .bool false] [0] [(0, .bool false)] [.is (((r34.2 : Int) == 13) = true), .is (((r54.2 : Int) == 2) = true), .is (((r209.2.2 : Int) == 7) = false)] (by kernel_rfl) (by kernel_rfl) hf601 (by kernel_rfl) ⟨(eqT c603), (eqT c604), (eqF c605), trivial⟩ fun a1826 w1828 hf1827 hg1829 => ?_
      have hm1830 := hm602.still hg1829
      have hm1831 := hm1830.sel [] _ rfl (by kernel_rfl)
      refine thenN ?_
      refine wp_ret ?_
      have hm1832 : Mem [] M w0 [] w1828 := hm1831.sel [] _ rfl (by kernel_rfl)
      obtain rfl := Option.some.inj H0
      refine ret [] [.bool false] [] hf1827 (by kernel_rfl) trivial ?_
      exact ⟨_, rfl, rfl, hm1832⟩
    rcases if_split H0 with ⟨c606, H0⟩ | ⟨c606, H0⟩
    rotate_left
    · refine regQ [.bool true, .bool true, .bool true, .bool false] [0] [(0, .bool false)] [.is (((r34.2 : Int) == 13) = true), .is (((r54.2 : Int) == 2) = true), .is (((r209.2.2 : Int) == 7) = true), .is (((r242.2.2 : Int) == 2) = false)] (by kernel_rfl) (by kernel_rfl) hf601 (by kernel_rfl) ⟨(eqT c603), (eqT c604), (eqT c605), (eqF c606), trivial⟩ fun a1818 w1820 hf1819 hg1821 => ?_
      have hm1822 := hm602.still hg1821
      have hm1823 := hm1822.sel [] _ rfl (by kernel_rfl)
      refine thenN ?_
      refine wp_ret ?_
      have hm1824 : Mem [] M w0 [] w1820 := hm1823.sel [] _ rfl (by kernel_rfl)
      obtain rfl := Option.some.inj H0
      refine ret [] [.bool false] [] hf1819 (by kernel_rfl) trivial ?_
      exact ⟨_, rfl, rfl, hm1824⟩
    rcases if_split H0 with ⟨c607, H0⟩ | ⟨c607, H0⟩
    rotate_left
    · refine regQ [.bool true, .bool true, .bool true, .bool true, .bool false] [0] [(0, .bool false)] [.is (((r34.2 : Int) == 13) = true), .is (((r54.2 : Int) == 2) = true), .is (((r209.2.2 : Int) == 7) = true), .is (((r242.2.2 : Int) == 2) = true), .is (((r275.2.2 : Int) == 0) = false)] (by kernel_rfl) (by kernel_rfl) hf601 (by kernel_rfl) ⟨(eqT c603), (eqT c604), (eqT c605), (eqT c606), (eqF c607), trivial⟩ fun a1810 w1812 hf1811 hg1813 => ?_
      have hm1814 := hm602.still hg1813
      have hm1815 := hm1814.sel [] _ rfl (by kernel_rfl)
      refine thenN ?_
      refine wp_ret ?_
      have hm1816 : Mem [] M w0 [] w1812 := hm1815.sel [] _ rfl (by kernel_rfl)
      obtain rfl := Option.some.inj H0
      refine ret [] [.bool false] [] hf1811 (by kernel_rfl) trivial ?_
      exact ⟨_, rfl, rfl, hm1816⟩
    rcases if_split H0 with ⟨c608, H0⟩ | ⟨c608, H0⟩
    rotate_left
    · refine regQ [.bool true, .bool true, .bool true, .bool true, .bool true, .bool false] [0] [(0, .bool false)] [.is (((r34.2 : Int) == 13) = true), .is (((r54.2 : Int) == 2) = true), .is (((r209.2.2 : Int) == 7) = true), .is (((r242.2.2 : Int) == 2) = true), .is (((r275.2.2 : Int) == 0) = true), .is (((r308.2 : Int) == 1) = false)] (by kernel_rfl) (by kernel_rfl) hf601 (by kernel_rfl) ⟨(eqT c603), (eqT c604), (eqT c605), (eqT c606), (eqT c607), (eqF c608), trivial⟩ fun a1802 w1804 hf1803 hg1805 => ?_
      have hm1806 := hm602.still hg1805
      have hm1807 := hm1806.sel [] _ rfl (by kernel_rfl)
      refine thenN ?_
      refine wp_ret ?_
      have hm1808 : Mem [] M w0 [] w1804 := hm1807.sel [] _ rfl (by kernel_rfl)
      obtain rfl := Option.some.inj H0
      refine ret [] [.bool false] [] hf1803 (by kernel_rfl) trivial ?_
      exact ⟨_, rfl, rfl, hm1808⟩
    rcases if_split H0 with ⟨c609, H0⟩ | ⟨c609, H0⟩
    rotate_left
    · refine regQ [.bool true, .bool true, .bool true, .bool true, .bool true, .bool true, .bool false] [0] [(0, .bool false)] [.is (((r34.2 : Int) == 13) = true), .is (((r54.2 : Int) == 2) = true), .is (((r209.2.2 : Int) == 7) = true), .is (((r242.2.2 : Int) == 2) = true), .is (((r275.2.2 : Int) == 0) = true), .is (((r308.2 : Int) == 1) = true), .is (((r347.2 : Int) == 2) = false)] (by kernel_rfl) (by kernel_rfl) hf601 (by kernel_rfl) ⟨(eqT c603), (eqT c604), (eqT c605), (eqT c606), (eqT c607), (eqT c608), (eqF c609), trivial⟩ fun a1794 w1796 hf1795 hg1797 => ?_
      have hm1798 := hm602.still hg1797
      have hm1799 := hm1798.sel [] _ rfl (by kernel_rfl)
      refine thenN ?_
      refine wp_ret ?_
      have hm1800 : Mem [] M w0 [] w1796 := hm1799.sel [] _ rfl (by kernel_rfl)
      obtain rfl := Option.some.inj H0
      refine ret [] [.bool false] [] hf1795 (by kernel_rfl) trivial ?_
      exact ⟨_, rfl, rfl, hm1800⟩
    rcases if_split H0 with ⟨c610, H0⟩ | ⟨c610, H0⟩
    rotate_left
    · refine regQ [.bool true, .bool true, .bool true, .bool true, .bool true, .bool true, .bool true, .bool false] [0] [(0, .bool false)] [.is (((r34.2 : Int) == 13) = true), .is (((r54.2 : Int) == 2) = true), .is (((r209.2.2 : Int) == 7) = true), .is (((r242.2.2 : Int) == 2) = true), .is (((r275.2.2 : Int) == 0) = true), .is (((r308.2 : Int) == 1) = true), .is (((r347.2 : Int) == 2) = true), .is (((r405.2 : Int) == 0) = false)] (by kernel_rfl) (by kernel_rfl) hf601 (by kernel_rfl) ⟨(eqT c603), (eqT c604), (eqT c605), (eqT c606), (eqT c607), (eqT c608), (eqT c609), (eqF c610), trivial⟩ fun a1786 w1788 hf1787 hg1789 => ?_
      have hm1790 := hm602.still hg1789
      have hm1791 := hm1790.sel [] _ rfl (by kernel_rfl)
      refine thenN ?_
      refine wp_ret ?_
      have hm1792 : Mem [] M w0 [] w1788 := hm1791.sel [] _ rfl (by kernel_rfl)
      obtain rfl := Option.some.inj H0
      refine ret [] [.bool false] [] hf1787 (by kernel_rfl) trivial ?_
      exact ⟨_, rfl, rfl, hm1792⟩
    obtain ⟨r611, hr611, H0⟩ := ob_split H0
    obtain ⟨r612, hr612, H0⟩ := ob_split H0
    rcases ifb_split H0 with ⟨c613, H0⟩ | ⟨c613, H0⟩
    rotate_left
    · refine midReg (fun (a : Act) (w : World) => Fr 186 a [(0, .bool false)] ∧ Mem [] M w0 [] w) ?_ ?_
      · refine anyG [] (by kernel_rfl) fun w1725 hg1726 => ?_
        have hm1727 := hm602.still hg1726
        refine quiet0 [0, 1, 2, 3, 4, 5, 6, 7, 8, 9, 10, 11, 12, 13, 14, 15, 16, 17, 18, 19, 20, 21, 22, 23, 24, 25, 26, 27, 28, 29, 30, 31, 32] [.bool true, .bool true, .bool true, .bool true, .bool true, .bool true, .bool true, .bool true, .agg #[.slice A464 r461.1.Shape.length c465, .slice A466 r461.1.Data.length c467]] [1, 17, 18, 19, 20, 22, 24, 149, 150, 151] #[true, true, true, true, true, true, true, true, true, true, true, true, true, true, true, true, true, true, true, true, true, true, true, true, true, true, true, true, true, true, true, true, true, false, false, false, false, false, false, false, false, false, false, false, false, false, false, false, false, false, false, false, false, false, false, false, false, false, false, false, false, false, false, false, false, false, false, false] [(1, .func (.func 23) #[] #[]), (17, .int .i64 r490.2.1), (18, .int .i64 r490.2.2), (19, .int .i64 r520.2), (20, .pointer (some ⟨b548, 0, none⟩)), (22, .pointer (some ⟨b577, 0, none⟩)), (24, .int .i64 r590.2), (149, .bool true), (150, .agg #[.slice A464 r461.1.Shape.length c465, .slice A466 r461.1.Data.length c467]), (151, .func (.func 23) #[] #[])] [.is (((r34.2 : Int) == 13) = true), .is (((r54.2 : Int) == 2) = true), .is (((r209.2.2 : Int) == 7) = true), .is (((r242.2.2 : Int) == 2) = true), .is (((r275.2.2 : Int) == 0) = true), .is (((r308.2 : Int) == 1) = true), .is (((r347.2 : Int) == 2) = true), .is (((r405.2 : Int) == 0) = true), .cell ⟨b477, 0, none⟩ (.slice A464 r461.1.Shape.length c465), .cell ⟨b477, 1, none⟩ (.slice A466 r461.1.Data.length c467)] 35 rfl (by kernel_rfl) (fun _ _ _ _ _ h => nomatch h.1) hf601 (by kernel_rfl) ⟨(eqT c603), (eqT c604), (eqT c605), (eqT c606), (eqT c607), (eqT c608), (eqT c609), (eqT c610), (hm1727.cell 6 rfl rfl), (hm1727.cell 6 rfl rfl), trivial⟩ fun a1754 hf1755 => ?_
        refine all1 33 (by kernel_rfl) ?_
        refine opOf hf1755 rfl (by kernel_rfl) (aLit (cs := [.float .f64 4607182418800017408, .float .f64 4607182418800017408]) (E := 26) (len := 2) (d := 152) hf1755 (by kernel_rfl) (by kernel_rfl) ?_)
        intro b1756 w1757 a1758 hbb1756 hx1760 hg1761 hf1759
        refine ⟨.inr (Gr.still hg1761), ?_⟩
        have hm1727s := hm1727.still hg1761
        have hm1762 := Mem.lit (kd := Kd.float) (xs := ([4607182418800017408, 4607182418800017408] : List Nat)) hm1727 hbb1756 hx1760 hg1761 (Els.append (Els.one (kd := Kd.float) (us := [.float .f64 4607182418800017408]) (x := 4607182418800017408) ⟨_, rfl, (FR.lit (by kernel_rfl) (by kernel_rfl))⟩) (Els.one (kd := Kd.float) (us := [.float .f64 4607182418800017408]) (x := 4607182418800017408) ⟨_, rfl, (FR.lit (by kernel_rfl) (by kernel_rfl))⟩))
        refine all1 34 (by kernel_rfl) ?_
        refine opOf hf1759 rfl (by kernel_rfl) (aCall (fid := 23) (args := [.slice (some ⟨b1756, 0, none⟩) 2 2]) (d := 153) hf1759 (by kernel_rfl) (by kernel_rfl) callable23 (law19_ShelfKnown_1.calls _ _ ([4607182418800017408, 4607182418800017408] : List Nat) (some ⟨b1756, 0, none⟩) 2 2 rfl (hm1762.give [0] [.sl Kd.float (some ⟨b1756, 0, none⟩) 2 ([4607182418800017408, 4607182418800017408] : List Nat)] rfl rfl) r611 hr611) ?_)
        rintro _ w1767 a1768 ⟨A1763, c1764, A1765, c1766, rfl, hk1770⟩ hf1769
        refine ⟨.inr (Gr.still hk1770.cum.none), ?_⟩
        have hm1771 := hm1762.back hk1770
        have hm1772 := hm1771.seal 0 _ rfl rfl
        refine all1 35 (by kernel_rfl) ?_
        refine opOf hf1769 rfl (by kernel_rfl) (aCall (fid := 24) (args := [.agg #[.slice A464 r461.1.Shape.length c465, .slice A466 r461.1.Data.length c467], .agg #[.slice A1763 r611.Shape.length c1764, .slice A1765 r611.Data.length c1766]]) (d := 154) hf1769 (by kernel_rfl) (by kernel_rfl) callable24 (ref1_SameTensor.calls _ _ r461.1 A464 r461.1.Shape.length c465 rfl A466 r461.1.Data.length c467 rfl r611 A1763 r611.Shape.length c1764 rfl A1765 r611.Data.length c1766 rfl (hm1772.give [10, 11, 0, 1] [.sl (Kd.int .i64) A464 c465 r461.1.Shape, .sl Kd.float A466 c467 r461.1.Data, .sl (Kd.int .i64) A1763 c1764 r611.Shape, .sl Kd.float A1765 c1766 r611.Data] rfl rfl) r612 hr612) ?_)
        rintro _ w1773 a1774 ⟨rfl, hk1776⟩ hf1775
        refine ⟨.inr (Gr.still hk1776.cum.none), ?_⟩
        have hm1777 := hm1772.still hk1776.cum.none
        rw [c613] at hf1775
        refine quiet0 [36, 37, 38, 39, 40, 41, 42, 43, 44, 45, 46, 47, 48, 49, 50, 51, 52, 53, 54, 55, 56, 57, 58, 59, 60, 61, 62, 63, 64, 65, 66, 67] [] [0] #[true, true, true, true, true, true, true, true, true, true, true, true, true, true, true, true, true, true, true, true, true, true, true, true, true, true, true, true, true, true, true, true, true, true, true, true, true, true, true, true, true, true, true, true, true, true, true, true, true, true, true, true, true, true, true, true, true, true, true, true, true, true, true, true, true, true, true, true] [(0, .bool false)] [] 0 rfl (by kernel_rfl) (fun _ _ _ _ _ h => nomatch h.1) hf1775 (by kernel_rfl) trivial fun a1778 hf1779 => ?_
        refine allDone (by kernel_rfl) ⟨rfl, hf1779.sel (l := [0]) (by kernel_rfl), hm1777.sel [] _ rfl (by kernel_rfl)⟩
      rintro a1780 w1781 ⟨hf1782, hm1783⟩
      refine thenN ?_
      refine wp_ret ?_
      have hm1784 : Mem [] M w0 [] w1781 := hm1783.sel [] _ rfl (by kernel_rfl)
      obtain rfl := Option.some.inj H0
      refine ret [] [.bool false] [] hf1782 (by kernel_rfl) trivial ?_
      exact ⟨_, rfl, rfl, hm1784⟩
    rcases if_split H0 with ⟨c614, H0⟩ | ⟨c614, H0⟩
    rotate_left
    · refine midReg (fun (a : Act) (w : World) => Fr 186 a [(0, .bool false)] ∧ Mem [] M w0 [] w) ?_ ?_
      · refine anyG [] (by kernel_rfl) fun w1641 hg1642 => ?_
        have hm1643 := hm602.still hg1642
        refine quiet0 [0, 1, 2, 3, 4, 5, 6, 7, 8, 9, 10, 11, 12, 13, 14, 15, 16, 17, 18, 19, 20, 21, 22, 23, 24, 25, 26, 27, 28, 29, 30, 31, 32] [.bool true, .bool true, .bool true, .bool true, .bool true, .bool true, .bool true, .bool true, .agg #[.slice A464 r461.1.Shape.length c465, .slice A466 r461.1.Data.length c467]] [1, 17, 18, 19, 20, 22, 24, 149, 150, 151] #[true, true, true, true, true, true, true, true, true, true, true, true, true, true, true, true, true, true, true, true, true, true, true, true, true, true, true, true, true, true, true, true, true, false, false, false, false, false, false, false, false, false, false, false, false, false, false, false, false, false, false, false, false, false, false, false, false, false, false, false, false, false, false, false, false, false, false, false] [(1, .func (.func 23) #[] #[]), (17, .int .i64 r490.2.1), (18, .int .i64 r490.2.2), (19, .int .i64 r520.2), (20, .pointer (some ⟨b548, 0, none⟩)), (22, .pointer (some ⟨b577, 0, none⟩)), (24, .int .i64 r590.2), (149, .bool true), (150, .agg #[.slice A464 r461.1.Shape.length c465, .slice A466 r461.1.Data.length c467]), (151, .func (.func 23) #[] #[])] [.is (((r34.2 : Int) == 13) = true), .is (((r54.2 : Int) == 2) = true), .is (((r209.2.2 : Int) == 7) = true), .is (((r242.2.2 : Int) == 2) = true), .is (((r275.2.2 : Int) == 0) = true), .is (((r308.2 : Int) == 1) = true), .is (((r347.2 : Int) == 2) = true), .is (((r405.2 : Int) == 0) = true), .cell ⟨b477, 0, none⟩ (.slice A464 r461.1.Shape.length c465), .cell ⟨b477, 1, none⟩ (.slice A466 r461.1.Data.length c467)] 35 rfl (by kernel_rfl) (fun _ _ _ _ _ h => nomatch h.1) hf601 (by kernel_rfl) ⟨(eqT c603), (eqT c604), (eqT c605), (eqT c606), (eqT c607), (eqT c608), (eqT c609), (eqT c610), (hm1643.cell 6 rfl rfl), (hm1643.cell 6 rfl rfl), trivial⟩ fun a1670 hf1671 => ?_
        refine all1 33 (by kernel_rfl) ?_
        refine opOf hf1671 rfl (by kernel_rfl) (aLit (cs := [.float .f64 4607182418800017408, .float .f64 4607182418800017408]) (E := 26) (len := 2) (d := 152) hf1671 (by kernel_rfl) (by kernel_rfl) ?_)
        intro b1672 w1673 a1674 hbb1672 hx1676 hg1677 hf1675
        refine ⟨.inr (Gr.still hg1677), ?_⟩
        have hm1643s := hm1643.still hg1677
        have hm1678 := Mem.lit (kd := Kd.float) (xs := ([4607182418800017408, 4607182418800017408] : List Nat)) hm1643 hbb1672 hx1676 hg1677 (Els.append (Els.one (kd := Kd.float) (us := [.float .f64 4607182418800017408]) (x := 4607182418800017408) ⟨_, rfl, (FR.lit (by kernel_rfl) (by kernel_rfl))⟩) (Els.one (kd := Kd.float) (us := [.float .f64 4607182418800017408]) (x := 4607182418800017408) ⟨_, rfl, (FR.lit (by kernel_rfl) (by kernel_rfl))⟩))
        refine all1 34 (by kernel_rfl) ?_
        refine opOf hf1675 rfl (by kernel_rfl) (aCall (fid := 23) (args := [.slice (some ⟨b1672, 0, none⟩) 2 2]) (d := 153) hf1675 (by kernel_rfl) (by kernel_rfl) callable23 (law19_ShelfKnown_1.calls _ _ ([4607182418800017408, 4607182418800017408] : List Nat) (some ⟨b1672, 0, none⟩) 2 2 rfl (hm1678.give [0] [.sl Kd.float (some ⟨b1672, 0, none⟩) 2 ([4607182418800017408, 4607182418800017408] : List Nat)] rfl rfl) r611 hr611) ?_)
        rintro _ w1683 a1684 ⟨A1679, c1680, A1681, c1682, rfl, hk1686⟩ hf1685
        refine ⟨.inr (Gr.still hk1686.cum.none), ?_⟩
        have hm1687 := hm1678.back hk1686
        have hm1688 := hm1687.seal 0 _ rfl rfl
        refine all1 35 (by kernel_rfl) ?_
        refine opOf hf1685 rfl (by kernel_rfl) (aCall (fid := 24) (args := [.agg #[.slice A464 r461.1.Shape.length c465, .slice A466 r461.1.Data.length c467], .agg #[.slice A1679 r611.Shape.length c1680, .slice A1681 r611.Data.length c1682]]) (d := 154) hf1685 (by kernel_rfl) (by kernel_rfl) callable24 (ref1_SameTensor.calls _ _ r461.1 A464 r461.1.Shape.length c465 rfl A466 r461.1.Data.length c467 rfl r611 A1679 r611.Shape.length c1680 rfl A1681 r611.Data.length c1682 rfl (hm1688.give [10, 11, 0, 1] [.sl (Kd.int .i64) A464 c465 r461.1.Shape, .sl Kd.float A466 c467 r461.1.Data, .sl (Kd.int .i64) A1679 c1680 r611.Shape, .sl Kd.float A1681 c1682 r611.Data] rfl rfl) r612 hr612) ?_)
        rintro _ w1689 a1690 ⟨rfl, hk1692⟩ hf1691
        refine ⟨.inr (Gr.still hk1692.cum.none), ?_⟩
        have hm1693 := hm1688.still hk1692.cum.none
        rw [c613] at hf1691
        refine quiet0 [36, 37, 38, 39, 40, 41, 42, 43, 44, 45, 46, 47, 48, 49, 50, 51, 52, 53, 54, 55, 56, 57, 58, 59, 60, 61, 62, 63, 64, 65, 66, 67] [.bool false] [0] #[true, true, true, true, true, true, true, true, true, true, true, true, true, true, true, true, true, true, true, true, true, true, true, true, true, true, true, true, true, true, true, true, true, true, true, true, true, true, true, true, true, true, true, true, true, true, true, true, true, true, true, true, true, true, true, true, true, true, true, true, true, true, true, true, true, true, true, true] [(0, .bool false)] [.is (((r490.2.2 : Int) == 0) = false)] 0 rfl (by kernel_rfl) (fun _ _ _ _ _ h => nomatch h.1) hf1691 (by kernel_rfl) ⟨(eqF c614), trivial⟩ fun a1694 hf1695 => ?_
        refine allDone (by kernel_rfl) ⟨rfl, hf1695.sel (l := [0]) (by kernel_rfl), hm1693.sel [] _ rfl (by kernel_rfl)⟩
      rintro a1696 w1697 ⟨hf1698, hm1699⟩
      refine thenN ?_
      refine wp_ret ?_
      have hm1700 : Mem [] M w0 [] w1697 := hm1699.sel [] _ rfl (by kernel_rfl)
      obtain rfl := Option.some.inj H0
      refine ret [] [.bool false] [] hf1698 (by kernel_rfl) trivial ?_
      exact ⟨_, rfl, rfl, hm1700⟩
    rcases if_split H0 with ⟨c615, H0⟩ | ⟨c615, H0⟩
    rotate_left
    · refine midReg (fun (a : Act) (w : World) => Fr 186 a [(0, .bool false)] ∧ Mem [] M w0 [] w) ?_ ?_
      · refine anyG [] (by kernel_rfl) fun w1557 hg1558 => ?_
        have hm1559 := hm602.still hg1558
        refine quiet0 [0, 1, 2, 3, 4, 5, 6, 7, 8, 9, 10, 11, 12, 13, 14, 15, 16, 17, 18, 19, 20, 21, 22, 23, 24, 25, 26, 27, 28, 29, 30, 31, 32] [.bool true, .bool true, .bool true, .bool true, .bool true, .bool true, .bool true, .bool true, .agg #[.slice A464 r461.1.Shape.length c465, .slice A466 r461.1.Data.length c467]] [1, 17, 18, 19, 20, 22, 24, 149, 150, 151] #[true, true, true, true, true, true, true, true, true, true, true, true, true, true, true, true, true, true, true, true, true, true, true, true, true, true, true, true, true, true, true, true, true, false, false, false, false, false, false, false, false, false, false, false, false, false, false, false, false, false, false, false, false, false, false, false, false, false, false, false, false, false, false, false, false, false, false, false] [(1, .func (.func 23) #[] #[]), (17, .int .i64 r490.2.1), (18, .int .i64 r490.2.2), (19, .int .i64 r520.2), (20, .pointer (some ⟨b548, 0, none⟩)), (22, .pointer (some ⟨b577, 0, none⟩)), (24, .int .i64 r590.2), (149, .bool true), (150, .agg #[.slice A464 r461.1.Shape.length c465, .slice A466 r461.1.Data.length c467]), (151, .func (.func 23) #[] #[])] [.is (((r34.2 : Int) == 13) = true), .is (((r54.2 : Int) == 2) = true), .is (((r209.2.2 : Int) == 7) = true), .is (((r242.2.2 : Int) == 2) = true), .is (((r275.2.2 : Int) == 0) = true), .is (((r308.2 : Int) == 1) = true), .is (((r347.2 : Int) == 2) = true), .is (((r405.2 : Int) == 0) = true), .cell ⟨b477, 0, none⟩ (.slice A464 r461.1.Shape.length c465), .cell ⟨b477, 1, none⟩ (.slice A466 r461.1.Data.length c467)] 35 rfl (by kernel_rfl) (fun _ _ _ _ _ h => nomatch h.1) hf601 (by kernel_rfl) ⟨(eqT c603), (eqT c604), (eqT c605), (eqT c606), (eqT c607), (eqT c608), (eqT c609), (eqT c610), (hm1559.cell 6 rfl rfl), (hm1559.cell 6 rfl rfl), trivial⟩ fun a1586 hf1587 => ?_
        refine all1 33 (by kernel_rfl) ?_
        refine opOf hf1587 rfl (by kernel_rfl) (aLit (cs := [.float .f64 4607182418800017408, .float .f64 4607182418800017408]) (E := 26) (len := 2) (d := 152) hf1587 (by kernel_rfl) (by kernel_rfl) ?_)
        intro b1588 w1589 a1590 hbb1588 hx1592 hg1593 hf1591
        refine ⟨.inr (Gr.still hg1593), ?_⟩
        have hm1559s := hm1559.still hg1593
        have hm1594 := Mem.lit (kd := Kd.float) (xs := ([4607182418800017408, 4607182418800017408] : List Nat)) hm1559 hbb1588 hx1592 hg1593 (Els.append (Els.one (kd := Kd.float) (us := [.float .f64 4607182418800017408]) (x := 4607182418800017408) ⟨_, rfl, (FR.lit (by kernel_rfl) (by kernel_rfl))⟩) (Els.one (kd := Kd.float) (us := [.float .f64 4607182418800017408]) (x := 4607182418800017408) ⟨_, rfl, (FR.lit (by kernel_rfl) (by kernel_rfl))⟩))
        refine all1 34 (by kernel_rfl) ?_
        refine opOf hf1591 rfl (by kernel_rfl) (aCall (fid := 23) (args := [.slice (some ⟨b1588, 0, none⟩) 2 2]) (d := 153) hf1591 (by kernel_rfl) (by kernel_rfl) callable23 (law19_ShelfKnown_1.calls _ _ ([4607182418800017408, 4607182418800017408] : List Nat) (some ⟨b1588, 0, none⟩) 2 2 rfl (hm1594.give [0] [.sl Kd.float (some ⟨b1588, 0, none⟩) 2 ([4607182418800017408, 4607182418800017408] : List Nat)] rfl rfl) r611 hr611) ?_)
        rintro _ w1599 a1600 ⟨A1595, c1596, A1597, c1598, rfl, hk1602⟩ hf1601
        refine ⟨.inr (Gr.still hk1602.cum.none), ?_⟩
        have hm1603 := hm1594.back hk1602
        have hm1604 := hm1603.seal 0 _ rfl rfl
        refine all1 35 (by kernel_rfl) ?_
        refine opOf hf1601 rfl (by kernel_rfl) (aCall (fid := 24) (args := [.agg #[.slice A464 r461.1.Shape.length c465, .slice A466 r461.1.Data.length c467], .agg #[.slice A1595 r611.Shape.length c1596, .slice A1597 r611.Data.length c1598]]) (d := 154) hf1601 (by kernel_rfl) (by kernel_rfl) callable24 (ref1_SameTensor.calls _ _ r461.1 A464 r461.1.Shape.length c465 rfl A466 r461.1.Data.length c467 rfl r611 A1595 r611.Shape.length c1596 rfl A1597 r611.Data.length c1598 rfl (hm1604.give [10, 11, 0, 1] [.sl (Kd.int .i64) A464 c465 r461.1.Shape, .sl Kd.float A466 c467 r461.1.Data, .sl (Kd.int .i64) A1595 c1596 r611.Shape, .sl Kd.float A1597 c1598 r611.Data] rfl rfl) r612 hr612) ?_)
        rintro _ w1605 a1606 ⟨rfl, hk1608⟩ hf1607
        refine ⟨.inr (Gr.still hk1608.cum.none), ?_⟩
        have hm1609 := hm1604.still hk1608.cum.none
        rw [c613] at hf1607
        refine quiet0 [36, 37, 38, 39, 40, 41, 42, 43, 44, 45, 46, 47, 48, 49, 50, 51, 52, 53, 54, 55, 56, 57, 58, 59, 60, 61, 62, 63, 64, 65, 66, 67] [.bool true, .bool false] [0] #[true, true, true, true, true, true, true, true, true, true, true, true, true, true, true, true, true, true, true, true, true, true, true, true, true, true, true, true, true, true, true, true, true, true, true, true, true, true, true, true, true, true, true, true, true, true, true, true, true, true, true, true, true, true, true, true, true, true, true, true, true, true, true, true, true, true, true, true] [(0, .bool false)] [.is (((r490.2.2 : Int) == 0) = true), .is (((r490.2.1 : Int) == 1) = false)] 0 rfl (by kernel_rfl) (fun _ _ _ _ _ h => nomatch h.1) hf1607 (by kernel_rfl) ⟨(eqT c614), (eqF c615), trivial⟩ fun a1610 hf1611 => ?_
        refine allDone (by kernel_rfl) ⟨rfl, hf1611.sel (l := [0]) (by kernel_rfl), hm1609.sel [] _ rfl (by kernel_rfl)⟩
      rintro a1612 w1613 ⟨hf1614, hm1615⟩
      refine thenN ?_
      refine wp_ret ?_
      have hm1616 : Mem [] M w0 [] w1613 := hm1615.sel [] _ rfl (by kernel_rfl)
      obtain rfl := Option.some.inj H0
      refine ret [] [.bool false] [] hf1614 (by kernel_rfl) trivial ?_
      exact ⟨_, rfl, rfl, hm1616⟩
    rcases if_split H0 with ⟨c616, H0⟩ | ⟨c616, H0⟩
    rotate_left
    · refine midReg (fun (a : Act) (w : World) => Fr 186 a [(0, .bool false)] ∧ Mem [] M w0 [] w) ?_ ?_
      · refine anyG [] (by kernel_rfl) fun w1473 hg1474 => ?_
        have hm1475 := hm602.still hg1474
        refine quiet0 [0, 1, 2, 3, 4, 5, 6, 7, 8, 9, 10, 11, 12, 13, 14, 15, 16, 17, 18, 19, 20, 21, 22, 23, 24, 25, 26, 27, 28, 29, 30, 31, 32] [.bool true, .bool true, .bool true, .bool true, .bool true, .bool true, .bool true, .bool true, .agg #[.slice A464 r461.1.Shape.length c465, .slice A466 r461.1.Data.length c467]] [1, 17, 18, 19, 20, 22, 24, 149, 150, 151] #[true, true, true, true, true, true, true, true, true, true, true, true, true, true, true, true, true, true, true, true, true, true, true, true, true, true, true, true, true, true, true, true, true, false, false, false, false, false, false, false, false, false, false, false, false, false, false, false, false, false, false, false, false, false, false, false, false, false, false, false, false, false, false, false, false, false, false, false] [(1, .func (.func 23) #[] #[]), (17, .int .i64 r490.2.1), (18, .int .i64 r490.2.2), (19, .int .i64 r520.2), (20, .pointer (some ⟨b548, 0, none⟩)), (22, .pointer (some ⟨b577, 0, none⟩)), (24, .int .i64 r590.2), (149, .bool true), (150, .agg #[.slice A464 r461.1.Shape.length c465, .slice A466 r461.1.Data.length c467]), (151, .func (.func 23) #[] #[])] [.is (((r34.2 : Int) == 13) = true), .is (((r54.2 : Int) == 2) = true), .is (((r209.2.2 : Int) == 7) = true), .is (((r242.2.2 : Int) == 2) = true), .is (((r275.2.2 : Int) == 0) = true), .is (((r308.2 : Int) == 1) = true), .is (((r347.2 : Int) == 2) = true), .is (((r405.2 : Int) == 0) = true), .cell ⟨b477, 0, none⟩ (.slice A464 r461.1.Shape.length c465), .cell ⟨b477, 1, none⟩ (.slice A466 r461.1.Data.length c467)] 35 rfl (by kernel_rfl) (fun _ _ _ _ _ h => nomatch h.1) hf601 (by kernel_rfl) ⟨(eqT c603), (eqT c604), (eqT c605), (eqT c606), (eqT c607), (eqT c608), (eqT c609), (eqT c610), (hm1475.cell 6 rfl rfl), (hm1475.cell 6 rfl rfl), trivial⟩ fun a1502 hf1503 => ?_
        refine all1 33 (by kernel_rfl) ?_
        refine opOf hf1503 rfl (by kernel_rfl) (aLit (cs := [.float .f64 4607182418800017408, .float .f64 4607182418800017408]) (E := 26) (len := 2) (d := 152) hf1503 (by kernel_rfl) (by kernel_rfl) ?_)
        intro b1504 w1505 a1506 hbb1504 hx1508 hg1509 hf1507
        refine ⟨.inr (Gr.still hg1509), ?_⟩
        have hm1475s := hm1475.still hg1509
        have hm1510 := Mem.lit (kd := Kd.float) (xs := ([4607182418800017408, 4607182418800017408] : List Nat)) hm1475 hbb1504 hx1508 hg1509 (Els.append (Els.one (kd := Kd.float) (us := [.float .f64 4607182418800017408]) (x := 4607182418800017408) ⟨_, rfl, (FR.lit (by kernel_rfl) (by kernel_rfl))⟩) (Els.one (kd := Kd.float) (us := [.float .f64 4607182418800017408]) (x := 4607182418800017408) ⟨_, rfl, (FR.lit (by kernel_rfl) (by kernel_rfl))⟩))
        refine all1 34 (by kernel_rfl) ?_
        refine opOf hf1507 rfl (by kernel_rfl) (aCall (fid := 23) (args := [.slice (some ⟨b1504, 0, none⟩) 2 2]) (d := 153) hf1507 (by kernel_rfl) (by kernel_rfl) callable23 (law19_ShelfKnown_1.calls _ _ ([4607182418800017408, 4607182418800017408] : List Nat) (some ⟨b1504, 0, none⟩) 2 2 rfl (hm1510.give [0] [.sl Kd.float (some ⟨b1504, 0, none⟩) 2 ([4607182418800017408, 4607182418800017408] : List Nat)] rfl rfl) r611 hr611) ?_)
        rintro _ w1515 a1516 ⟨A1511, c1512, A1513, c1514, rfl, hk1518⟩ hf1517
        refine ⟨.inr (Gr.still hk1518.cum.none), ?_⟩
        have hm1519 := hm1510.back hk1518
        have hm1520 := hm1519.seal 0 _ rfl rfl
        refine all1 35 (by kernel_rfl) ?_
        refine opOf hf1517 rfl (by kernel_rfl) (aCall (fid := 24) (args := [.agg #[.slice A464 r461.1.Shape.length c465, .slice A466 r461.1.Data.length c467], .agg #[.slice A1511 r611.Shape.length c1512, .slice A1513 r611.Data.length c1514]]) (d := 154) hf1517 (by kernel_rfl) (by kernel_rfl) callable24 (ref1_SameTensor.calls _ _ r461.1 A464 r461.1.Shape.length c465 rfl A466 r461.1.Data.length c467 rfl r611 A1511 r611.Shape.length c1512 rfl A1513 r611.Data.length c1514 rfl (hm1520.give [10, 11, 0, 1] [.sl (Kd.int .i64) A464 c465 r461.1.Shape, .sl Kd.float A466 c467 r461.1.Data, .sl (Kd.int .i64) A1511 c1512 r611.Shape, .sl Kd.float A1513 c1514 r611.Data] rfl rfl) r612 hr612) ?_)
        rintro _ w1521 a1522 ⟨rfl, hk1524⟩ hf1523
        refine ⟨.inr (Gr.still hk1524.cum.none), ?_⟩
        have hm1525 := hm1520.still hk1524.cum.none
        rw [c613] at hf1523
        refine quiet0 [36, 37, 38, 39, 40, 41, 42, 43, 44, 45, 46, 47, 48, 49, 50, 51, 52, 53, 54, 55, 56, 57, 58, 59, 60, 61, 62, 63, 64, 65, 66, 67] [.bool true, .bool true, .bool false] [0] #[true, true, true, true, true, true, true, true, true, true, true, true, true, true, true, true, true, true, true, true, true, true, true, true, true, true, true, true, true, true, true, true, true, true, true, true, true, true, true, true, true, true, true, true, true, true, true, true, true, true, true, true, true, true, true, true, true, true, true, true, true, true, true, true, true, true, true, true] [(0, .bool false)] [.is (((r490.2.2 : Int) == 0) = true), .is (((r490.2.1 : Int) == 1) = true), .is (((r520.2 : Int) == 0) = false)] 0 rfl (by kernel_rfl) (fun _ _ _ _ _ h => nomatch h.1) hf1523 (by kernel_rfl) ⟨(eqT c614), (eqT c615), (eqF c616), trivial⟩ fun a1526 hf1527 => ?_
        refine allDone (by kernel_rfl) ⟨rfl, hf1527.sel (l := [0]) (by kernel_rfl), hm1525.sel [] _ rfl (by kernel_rfl)⟩
      rintro a1528 w1529 ⟨hf1530, hm1531⟩
      refine thenN ?_
      refine wp_ret ?_
      have hm1532 : Mem [] M w0 [] w1529 := hm1531.sel [] _ rfl (by kernel_rfl)
      obtain rfl := Option.some.inj H0
      refine ret [] [.bool false] [] hf1530 (by kernel_rfl) trivial ?_
      exact ⟨_, rfl, rfl, hm1532⟩
    obtain ⟨r617, hr617, H0⟩ := ob_split H0
    obtain ⟨r618, hr618, H0⟩ := ob_split H0
    rcases ifb_split H0 with ⟨c619, H0⟩ | ⟨c619, H0⟩
    rotate_left
    · refine midReg (fun (a : Act) (w : World) => Fr 186 a [(0, .bool false)] ∧ Mem [] M w0 [] w) ?_ ?_
      · refine anyG [] (by kernel_rfl) fun w1341 hg1342 => ?_
        have hm1343 := hm602.still hg1342
        refine quiet0 [0, 1, 2, 3, 4, 5, 6, 7, 8, 9, 10, 11, 12, 13, 14, 15, 16, 17, 18, 19, 20, 21, 22, 23, 24, 25, 26, 27, 28, 29, 30, 31, 32] [.bool true, .bool true, .bool true, .bool true, .bool true, .bool true, .bool true, .bool true, .agg #[.slice A464 r461.1.Shape.length c465, .slice A466 r461.1.Data.length c467]] [1, 17, 18, 19, 20, 22, 24, 149, 150, 151] #[true, true, true, true, true, true, true, true, true, true, true, true, true, true, true, true, true, true, true, true, true, true, true, true, true, true, true, true, true, true, true, true, true, false, false, false, false, false, false, false, false, false, false, false, false, false, false, false, false, false, false, false, false, false, false, false, false, false, false, false, false, false, false, false, false, false, false, false] [(1, .func (.func 23) #[] #[]), (17, .int .i64 r490.2.1), (18, .int .i64 r490.2.2), (19, .int .i64 r520.2), (20, .pointer (some ⟨b548, 0, none⟩)), (22, .pointer (some ⟨b577, 0, none⟩)), (24, .int .i64 r590.2), (149, .bool true), (150, .agg #[.slice A464 r461.1.Shape.length c465, .slice A466 r461.1.Data.length c467]), (151, .func (.func 23) #[] #[])] [.is (((r34.2 : Int) == 13) = true), .is (((r54.2 : Int) == 2) = true), .is (((r209.2.2 : Int) == 7) = true), .is (((r242.2.2 : Int) == 2) = true), .is (((r275.2.2 : Int) == 0) = true), .is (((r308.2 : Int) == 1) = true), .is (((r347.2 : Int) == 2) = true), .is (((r405.2 : Int) == 0) = true), .cell ⟨b477, 0, none⟩ (.slice A464 r461.1.Shape.length c465), .cell ⟨b477, 1, none⟩ (.slice A466 r461.1.Data.length c467)] 35 rfl (by kernel_rfl) (fun _ _ _ _ _ h => nomatch h.1) hf601 (by kernel_rfl) ⟨(eqT c603), (eqT c604), (eqT c605), (eqT c606), (eqT c607), (eqT c608), (eqT c609), (eqT c610), (hm1343.cell 6 rfl rfl), (hm1343.cell 6 rfl rfl), trivial⟩ fun a1394 hf1395 => ?_
        refine all1 33 (by kernel_rfl) ?_
        refine opOf hf1395 rfl (by kernel_rfl) (aLit (cs := [.float .f64 4607182418800017408, .float .f64 4607182418800017408]) (E := 26) (len := 2) (d := 152) hf1395 (by kernel_rfl) (by kernel_rfl) ?_)
        intro b1396 w1397 a1398 hbb1396 hx1400 hg1401 hf1399
        refine ⟨.inr (Gr.still hg1401), ?_⟩
        have hm1343s := hm1343.still hg1401
        have hm1402 := Mem.lit (kd := Kd.float) (xs := ([4607182418800017408, 4607182418800017408] : List Nat)) hm1343 hbb1396 hx1400 hg1401 (Els.append (Els.one (kd := Kd.float) (us := [.float .f64 4607182418800017408]) (x := 4607182418800017408) ⟨_, rfl, (FR.lit (by kernel_rfl) (by kernel_rfl))⟩) (Els.one (kd := Kd.float) (us := [.float .f64 4607182418800017408]) (x := 4607182418800017408) ⟨_, rfl, (FR.lit (by kernel_rfl) (by kernel_rfl))⟩))
        refine all1 34 (by kernel_rfl) ?_
        refine opOf hf1399 rfl (by kernel_rfl) (aCall (fid := 23) (args := [.slice (some ⟨b1396, 0, none⟩) 2 2]) (d := 153) hf1399 (by kernel_rfl) (by kernel_rfl) callable23 (law19_ShelfKnown_1.calls _ _ ([4607182418800017408, 4607182418800017408] : List Nat) (some ⟨b1396, 0, none⟩) 2 2 rfl (hm1402.give [0] [.sl Kd.float (some ⟨b1396, 0, none⟩) 2 ([4607182418800017408, 4607182418800017408] : List Nat)] rfl rfl) r611 hr611) ?_)
        rintro _ w1407 a1408 ⟨A1403, c1404, A1405, c1406, rfl, hk1410⟩ hf1409
        refine ⟨.inr (Gr.still hk1410.cum.none), ?_⟩
        have hm1411 := hm1402.back hk1410
        have hm1412 := hm1411.seal 0 _ rfl rfl
        refine all1 35 (by kernel_rfl) ?_
        refine opOf hf1409 rfl (by kernel_rfl) (aCall (fid := 24) (args := [.agg #[.slice A464 r461.1.Shape.length c465, .slice A466 r461.1.Data.length c467], .agg #[.slice A1403 r611.Shape.length c1404, .slice A1405 r611.Data.length c1406]]) (d := 154) hf1409 (by kernel_rfl) (by kernel_rfl) callable24 (ref1_SameTensor.calls _ _ r461.1 A464 r461.1.Shape.length c465 rfl A466 r461.1.Data.length c467 rfl r611 A1403 r611.Shape.length c1404 rfl A1405 r611.Data.length c1406 rfl (hm1412.give [10, 11, 0, 1] [.sl (Kd.int .i64) A464 c465 r461.1.Shape, .sl Kd.float A466 c467 r461.1.Data, .sl (Kd.int .i64) A1403 c1404 r611.Shape, .sl Kd.float A1405 c1406 r611.Data] rfl rfl) r612 hr612) ?_)
        rintro _ w1413 a1414 ⟨rfl, hk1416⟩ hf1415
        refine ⟨.inr (Gr.still hk1416.cum.none), ?_⟩
        have hm1417 := hm1412.still hk1416.cum.none
        rw [c613] at hf1415
        refine quiet0 [36, 37, 38, 39, 40, 41, 42, 43, 44, 45, 46, 47, 48, 49, 50, 51] [.bool true, .bool true, .bool true, .agg #[.slice A535 r532.1.Shape.length c536, .slice A537 r532.1.Data.length c538]] [1, 22, 24, 168, 169, 170] #[true, true, true, true, true, true, true, true, true, true, true, true, true, true, true, true, true, true, true, true, true, true, true, true, true, true, true, true, true, true, true, true, true, true, true, true, true, true, true, true, true, true, true, true, true, true, true, true, true, true, true, true, false, false, false, false, false, false, false, false, false, false, false, false, false, false, false, false] [(1, .func (.func 23) #[] #[]), (22, .pointer (some ⟨b577, 0, none⟩)), (24, .int .i64 r590.2), (168, .bool true), (169, .agg #[.slice A535 r532.1.Shape.length c536, .slice A537 r532.1.Data.length c538]), (170, .func (.func 23) #[] #[])] [.is (((r490.2.2 : Int) == 0) = true), .is (((r490.2.1 : Int) == 1) = true), .is (((r520.2 : Int) == 0) = true), .cell ⟨b548, 0, none⟩ (.slice A535 r532.1.Shape.length c536), .cell ⟨b548, 1, none⟩ (.slice A537 r532.1.Data.length c538)] 16 rfl (by kernel_rfl) (fun _ _ _ _ _ h => nomatch h.1) hf1415 (by kernel_rfl) ⟨(eqT c614), (eqT c615), (eqT c616), (hm1417.cell 6 rfl rfl), (hm1417.cell 6 rfl rfl), trivial⟩ fun a1418 hf1419 => ?_
        refine all1 52 (by kernel_rfl) ?_
        refine opOf hf1419 rfl (by kernel_rfl) (aLit (cs := [.float .f64 0, .float .f64 0]) (E := 26) (len := 2) (d := 171) hf1419 (by kernel_rfl) (by kernel_rfl) ?_)
        intro b1420 w1421 a1422 hbb1420 hx1424 hg1425 hf1423
        refine ⟨.inr (Gr.still hg1425), ?_⟩
        have hm1417s := hm1417.still hg1425
        have hm1426 := Mem.lit (kd := Kd.float) (xs := ([0, 0] : List Nat)) hm1417 hbb1420 hx1424 hg1425 (Els.append (Els.one (kd := Kd.float) (us := [.float .f64 0]) (x := 0) ⟨_, rfl, (FR.lit (by kernel_rfl) (by kernel_rfl))⟩) (Els.one (kd := Kd.float) (us := [.float .f64 0]) (x := 0) ⟨_, rfl, (FR.lit (by kernel_rfl) (by kernel_rfl))⟩))
        refine all1 53 (by kernel_rfl) ?_
        refine opOf hf1423 rfl (by kernel_rfl) (aCall (fid := 23) (args := [.slice (some ⟨b1420, 0, none⟩) 2 2]) (d := 172) hf1423 (by kernel_rfl) (by kernel_rfl) callable23 (law19_ShelfKnown_1.calls _ _ ([0, 0] : List Nat) (some ⟨b1420, 0, none⟩) 2 2 rfl (hm1426.give [0] [.sl Kd.float (some ⟨b1420, 0, none⟩) 2 ([0, 0] : List Nat)] rfl rfl) r617 hr617) ?_)
        rintro _ w1431 a1432 ⟨A1427, c1428, A1429, c1430, rfl, hk1434⟩ hf1433
        refine ⟨.inr (Gr.still hk1434.cum.none), ?_⟩
        have hm1435 := hm1426.back hk1434
        have hm1436 := hm1435.seal 0 _ rfl rfl
        refine all1 54 (by kernel_rfl) ?_
        refine opOf hf1433 rfl (by kernel_rfl) (aCall (fid := 24) (args := [.agg #[.slice A535 r532.1.Shape.length c536, .slice A537 r532.1.Data.length c538], .agg #[.slice A1427 r617.Shape.length c1428, .slice A1429 r617.Data.length c1430]]) (d := 173) hf1433 (by kernel_rfl) (by kernel_rfl) callable24 (ref1_SameTensor.calls _ _ r532.1 A535 r532.1.Shape.length c536 rfl A537 r532.1.Data.length c538 rfl r617 A1427 r617.Shape.length c1428 rfl A1429 r617.Data.length c1430 rfl (hm1436.give [10, 11, 0, 1] [.sl (Kd.int .i64) A535 c536 r532.1.Shape, .sl Kd.float A537 c538 r532.1.Data, .sl (Kd.int .i64) A1427 c1428 r617.Shape, .sl Kd.float A1429 c1430 r617.Data] rfl rfl) r618 hr618) ?_)
        rintro _ w1437 a1438 ⟨rfl, hk1440⟩ hf1439
        refine ⟨.inr (Gr.still hk1440.cum.none), ?_⟩
        have hm1441 := hm1436.still hk1440.cum.none
        rw [c619] at hf1439
        refine quiet0 [55, 56, 57, 58, 59, 60, 61, 62, 63, 64, 65, 66, 67] [] [0] #[true, true, true, true, true, true, true, true, true, true, true, true, true, true, true, true, true, true, true, true, true, true, true, true, true, true, true, true, true, true, true, true, true, true, true, true, true, true, true, true, true, true, true, true, true, true, true, true, true, true, true, true, true, true, true, true, true, true, true, true, true, true, true, true, true, true, true, true] [(0, .bool false)] [] 0 rfl (by kernel_rfl) (fun _ _ _ _ _ h => nomatch h.1) hf1439 (by kernel_rfl) trivial fun a1442 hf1443 => ?_
        refine allDone (by kernel_rfl) ⟨rfl, hf1443.sel (l := [0]) (by kernel_rfl), hm1441.sel [] _ rfl (by kernel_rfl)⟩
      rintro a1444 w1445 ⟨hf1446, hm1447⟩
      refine thenN ?_
      refine wp_ret ?_
      have hm1448 : Mem [] M w0 [] w1445 := hm1447.sel [] _ rfl (by kernel_rfl)
      obtain rfl := Option.some.inj H0
      refine ret [] [.bool false] [] hf1446 (by kernel_rfl) trivial ?_
      exact ⟨_, rfl, rfl, hm1448⟩
    obtain ⟨r620, hr620, H0⟩ := ob_split H0
    obtain ⟨r621, hr621, H0⟩ := ob_split H0
    rcases ifb_split H0 with ⟨c622, H0⟩ | ⟨c622, H0⟩
    rotate_left
    · refine midReg (fun (a : Act) (w : World) => Fr 186 a [(0, .bool false)] ∧ Mem [] M w0 [] w) ?_ ?_
      · refine anyG [] (by kernel_rfl) fun w1139 hg1140 => ?_
        have hm1141 := hm602.still hg1140
        refine quiet0 [0, 1, 2, 3, 4, 5, 6, 7, 8, 9, 10, 11, 12, 13, 14, 15, 16, 17, 18, 19, 20, 21, 22, 23, 24, 25, 26, 27, 28, 29, 30, 31, 32] [.bool true, .bool true, .bool true, .bool true, .bool true, .bool true, .bool true, .bool true, .agg #[.slice A464 r461.1.Shape.length c465, .slice A466 r461.1.Data.length c467]] [1, 17, 18, 19, 20, 22, 24, 149, 150, 151] #[true, true, true, true, true, true, true, true, true, true, true, true, true, true, true, true, true, true, true, true, true, true, true, true, true, true, true, true, true, true, true, true, true, false, false, false, false, false, false, false, false, false, false, false, false, false, false, false, false, false, false, false, false, false, false, false, false, false, false, false, false, false, false, false, false, false, false, false] [(1, .func (.func 23) #[] #[]), (17, .int .i64 r490.2.1), (18, .int .i64 r490.2.2), (19, .int .i64 r520.2), (20, .pointer (some ⟨b548, 0, none⟩)), (22, .pointer (some ⟨b577, 0, none⟩)), (24, .int .i64 r590.2), (149, .bool true), (150, .agg #[.slice A464 r461.1.Shape.length c465, .slice A466 r461.1.Data.length c467]), (151, .func (.func 23) #[] #[])] [.is (((r34.2 : Int) == 13) = true), .is (((r54.2 : Int) == 2) = true), .is (((r209.2.2 : Int) == 7) = true), .is (((r242.2.2 : Int) == 2) = true), .is (((r275.2.2 : Int) == 0) = true), .is (((r308.2 : Int) == 1) = true), .is (((r347.2 : Int) == 2) = true), .is (((r405.2 : Int) == 0) = true), .cell ⟨b477, 0, none⟩ (.slice A464 r461.1.Shape.length c465), .cell ⟨b477, 1, none⟩ (.slice A466 r461.1.Data.length c467)] 35 rfl (by kernel_rfl) (fun _ _ _ _ _ h => nomatch h.1) hf601 (by kernel_rfl) ⟨(eqT c603), (eqT c604), (eqT c605), (eqT c606), (eqT c607), (eqT c608), (eqT c609), (eqT c610), (hm1141.cell 6 rfl rfl), (hm1141.cell 6 rfl rfl), trivial⟩ fun a1216 hf1217 => ?_
        refine all1 33 (by kernel_rfl) ?_
        refine opOf hf1217 rfl (by kernel_rfl) (aLit (cs := [.float .f64 4607182418800017408, .float .f64 4607182418800017408]) (E := 26) (len := 2) (d := 152) hf1217 (by kernel_rfl) (by kernel_rfl) ?_)
        intro b1218 w1219 a1220 hbb1218 hx1222 hg1223 hf1221
        refine ⟨.inr (Gr.still hg1223), ?_⟩
        have hm1141s := hm1141.still hg1223
        have hm1224 := Mem.lit (kd := Kd.float) (xs := ([4607182418800017408, 4607182418800017408] : List Nat)) hm1141 hbb1218 hx1222 hg1223 (Els.append (Els.one (kd := Kd.float) (us := [.float .f64 4607182418800017408]) (x := 4607182418800017408) ⟨_, rfl, (FR.lit (by kernel_rfl) (by kernel_rfl))⟩) (Els.one (kd := Kd.float) (us := [.float .f64 4607182418800017408]) (x := 4607182418800017408) ⟨_, rfl, (FR.lit (by kernel_rfl) (by kernel_rfl))⟩))
        refine all1 34 (by kernel_rfl) ?_
        refine opOf hf1221 rfl (by kernel_rfl) (aCall (fid := 23) (args := [.slice (some ⟨b1218, 0, none⟩) 2 2]) (d := 153) hf1221 (by kernel_rfl) (by kernel_rfl) callable23 (law19_ShelfKnown_1.calls _ _ ([4607182418800017408, 4607182418800017408] : List Nat) (some ⟨b1218, 0, none⟩) 2 2 rfl (hm1224.give [0] [.sl Kd.float (some ⟨b1218, 0, none⟩) 2 ([4607182418800017408, 4607182418800017408] : List Nat)] rfl rfl) r611 hr611) ?_)
        rintro _ w1229 a1230 ⟨A1225, c1226, A1227, c1228, rfl, hk1232⟩ hf1231
        refine ⟨.inr (Gr.still hk1232.cum.none), ?_⟩
        have hm1233 := hm1224.back hk1232
        have hm1234 := hm1233.seal 0 _ rfl rfl
        refine all1 35 (by kernel_rfl) ?_
        refine opOf hf1231 rfl (by kernel_rfl) (aCall (fid := 24) (args := [.agg #[.slice A464 r461.1.Shape.length c465, .slice A466 r461.1.Data.length c467], .agg #[.slice A1225 r611.Shape.length c1226, .slice A1227 r611.Data.length c1228]]) (d := 154) hf1231 (by kernel_rfl) (by kernel_rfl) callable24 (ref1_SameTensor.calls _ _ r461.1 A464 r461.1.Shape.length c465 rfl A466 r461.1.Data.length c467 rfl r611 A1225 r611.Shape.length c1226 rfl A1227 r611.Data.length c1228 rfl (hm1234.give [10, 11, 0, 1] [.sl (Kd.int .i64) A464 c465 r461.1.Shape, .sl Kd.float A466 c467 r461.1.Data, .sl (Kd.int .i64) A1225 c1226 r611.Shape, .sl Kd.float A1227 c1228 r611.Data] rfl rfl) r612 hr612) ?_)
        rintro _ w1235 a1236 ⟨rfl, hk1238⟩ hf1237
        refine ⟨.inr (Gr.still hk1238.cum.none), ?_⟩
        have hm1239 := hm1234.still hk1238.cum.none
        rw [c613] at hf1237
        refine quiet0 [36, 37, 38, 39, 40, 41, 42, 43, 44, 45, 46, 47, 48, 49, 50, 51] [.bool true, .bool true, .bool true, .agg #[.slice A535 r532.1.Shape.length c536, .slice A537 r532.1.Data.length c538]] [1, 22, 24, 168, 169, 170] #[true, true, true, true, true, true, true, true, true, true, true, true, true, true, true, true, true, true, true, true, true, true, true, true, true, true, true, true, true, true, true, true, true, true, true, true, true, true, true, true, true, true, true, true, true, true, true, true, true, true, true, true, false, false, false, false, false, false, false, false, false, false, false, false, false, false, false, false] [(1, .func (.func 23) #[] #[]), (22, .pointer (some ⟨b577, 0, none⟩)), (24, .int .i64 r590.2), (168, .bool true), (169, .agg #[.slice A535 r532.1.Shape.length c536, .slice A537 r532.1.Data.length c538]), (170, .func (.func 23) #[] #[])] [.is (((r490.2.2 : Int) == 0) = true), .is (((r490.2.1 : Int) == 1) = true), .is (((r520.2 : Int) == 0) = true), .cell ⟨b548, 0, none⟩ (.slice A535 r532.1.Shape.length c536), .cell ⟨b548, 1, none⟩ (.slice A537 r532.1.Data.length c538)] 16 rfl (by kernel_rfl) (fun _ _ _ _ _ h => nomatch h.1) hf1237 (by kernel_rfl) ⟨(eqT c614), (eqT c615), (eqT c616), (hm1239.cell 6 rfl rfl), (hm1239.cell 6 rfl rfl), trivial⟩ fun a1240 hf1241 => ?_
        refine all1 52 (by kernel_rfl) ?_
        refine opOf hf1241 rfl (by kernel_rfl) (aLit (cs := [.float .f64 0, .float .f64 0]) (E := 26) (len := 2) (d := 171) hf1241 (by kernel_rfl) (by kernel_rfl) ?_)
        intro b1242 w1243 a1244 hbb1242 hx1246 hg1247 hf1245
        refine ⟨.inr (Gr.still hg1247), ?_⟩
        have hm1239s := hm1239.still hg1247
        have hm1248 := Mem.lit (kd := Kd.float) (xs := ([0, 0] : List Nat)) hm1239 hbb1242 hx1246 hg1247 (Els.append (Els.one (kd := Kd.float) (us := [.float .f64 0]) (x := 0) ⟨_, rfl, (FR.lit (by kernel_rfl) (by kernel_rfl))⟩) (Els.one (kd := Kd.float) (us := [.float .f64 0]) (x := 0) ⟨_, rfl, (FR.lit (by kernel_rfl) (by kernel_rfl))⟩))
        refine all1 53 (by kernel_rfl) ?_
        refine opOf hf1245 rfl (by kernel_rfl) (aCall (fid := 23) (args := [.slice (some ⟨b1242, 0, none⟩) 2 2]) (d := 172) hf1245 (by kernel_rfl) (by kernel_rfl) callable23 (law19_ShelfKnown_1.calls _ _ ([0, 0] : List Nat) (some ⟨b1242, 0, none⟩) 2 2 rfl (hm1248.give [0] [.sl Kd.float (some ⟨b1242, 0, none⟩) 2 ([0, 0] : List Nat)] rfl rfl) r617 hr617) ?_)
        rintro _ w1253 a1254 ⟨A1249, c1250, A1251, c1252, rfl, hk1256⟩ hf1255
        refine ⟨.inr (Gr.still hk1256.cum.none), ?_⟩
        have hm1257 := hm1248.back hk1256
        have hm1258 := hm1257.seal 0 _ rfl rfl
        refine all1 54 (by kernel_rfl) ?_
        refine opOf hf1255 rfl (by kernel_rfl) (aCall (fid := 24) (args := [.agg #[.slice A535 r532.1.Shape.length c536, .slice A537 r532.1.Data.length c538], .agg #[.slice A1249 r617.Shape.length c1250, .slice A1251 r617.Data.length c1252]]) (d := 173) hf1255 (by kernel_rfl) (by kernel_rfl) callable24 (ref1_SameTensor.calls _ _ r532.1 A535 r532.1.Shape.length c536 rfl A537 r532.1.Data.length c538 rfl r617 A1249 r617.Shape.length c1250 rfl A1251 r617.Data.length c1252 rfl (hm1258.give [10, 11, 0, 1] [.sl (Kd.int .i64) A535 c536 r532.1.Shape, .sl Kd.float A537 c538 r532.1.Data, .sl (Kd.int .i64) A1249 c1250 r617.Shape, .sl Kd.float A1251 c1252 r617.Data] rfl rfl) r618 hr618) ?_)
        rintro _ w1259 a1260 ⟨rfl, hk1262⟩ hf1261
        refine ⟨.inr (Gr.still hk1262.cum.none), ?_⟩
        have hm1263 := hm1258.still hk1262.cum.none
        rw [c619] at hf1261
        refine quiet0 [55, 56, 57, 58] [.agg #[.slice A564 r561.1.Shape.length c565, .slice A566 r561.1.Data.length c567]] [24, 175, 176, 177] #[true, true, true, true, true, true, true, true, true, true, true, true, true, true, true, true, true, true, true, true, true, true, true, true, true, true, true, true, true, true, true, true, true, true, true, true, true, true, true, true, true, true, true, true, true, true, true, true, true, true, true, true, true, true, true, true, true, true, true, false, false, false, false, false, false, false, false, false] [(24, .int .i64 r590.2), (175, .bool true), (176, .agg #[.slice A564 r561.1.Shape.length c565, .slice A566 r561.1.Data.length c567]), (177, .func (.func 23) #[] #[])] [.cell ⟨b577, 0, none⟩ (.slice A564 r561.1.Shape.length c565), .cell ⟨b577, 1, none⟩ (.slice A566 r561.1.Data.length c567)] 9 rfl (by kernel_rfl) (fun _ _ _ _ _ h => nomatch h.1) hf1261 (by kernel_rfl) ⟨(hm1263.cell 6 rfl rfl), (hm1263.cell 6 rfl rfl), trivial⟩ fun a1264 hf1265 => ?_
        refine all1 59 (by kernel_rfl) ?_
        refine opOf hf1265 rfl (by kernel_rfl) (aLit (cs := [.float .f64 4617315517961601024]) (E := 26) (len := 1) (d := 178) hf1265 (by kernel_rfl) (by kernel_rfl) ?_)
        intro b1266 w1267 a1268 hbb1266 hx1270 hg1271 hf1269
        refine ⟨.inr (Gr.still hg1271), ?_⟩
        have hm1263s := hm1263.still hg1271
        have hm1272 := Mem.lit (kd := Kd.float) (xs := ([4617315517961601024] : List Nat)) hm1263 hbb1266 hx1270 hg1271 (Els.one (kd := Kd.float) (us := [.float .f64 4617315517961601024]) (x := 4617315517961601024) ⟨_, rfl, (FR.lit (by kernel_rfl) (by kernel_rfl))⟩)
        refine all1 60 (by kernel_rfl) ?_
        refine opOf hf1269 rfl (by kernel_rfl) (aCall (fid := 23) (args := [.slice (some ⟨b1266, 0, none⟩) 1 1]) (d := 179) hf1269 (by kernel_rfl) (by kernel_rfl) callable23 (law19_ShelfKnown_1.calls _ _ ([4617315517961601024] : List Nat) (some ⟨b1266, 0, none⟩) 1 1 rfl (hm1272.give [0] [.sl Kd.float (some ⟨b1266, 0, none⟩) 1 ([4617315517961601024] : List Nat)] rfl rfl) r620 hr620) ?_)
        rintro _ w1277 a1278 ⟨A1273, c1274, A1275, c1276, rfl, hk1280⟩ hf1279
        refine ⟨.inr (Gr.still hk1280.cum.none), ?_⟩
        have hm1281 := hm1272.back hk1280
        have hm1282 := hm1281.seal 0 _ rfl rfl
        refine all1 61 (by kernel_rfl) ?_
        refine opOf hf1279 rfl (by kernel_rfl) (aCall (fid := 24) (args := [.agg #[.slice A564 r561.1.Shape.length c565, .slice A566 r561.1.Data.length c567], .agg #[.slice A1273 r620.Shape.length c1274, .slice A1275 r620.Data.length c1276]]) (d := 180) hf1279 (by kernel_rfl) (by kernel_rfl) callable24 (ref1_SameTensor.calls _ _ r561.1 A564 r561.1.Shape.length c565 rfl A566 r561.1.Data.length c567 rfl r620 A1273 r620.Shape.length c1274 rfl A1275 r620.Data.length c1276 rfl (hm1282.give [10, 11, 0, 1] [.sl (Kd.int .i64) A564 c565 r561.1.Shape, .sl Kd.float A566 c567 r561.1.Data, .sl (Kd.int .i64) A1273 c1274 r620.Shape, .sl Kd.float A1275 c1276 r620.Data] rfl rfl) r621 hr621) ?_)
        rintro _ w1283 a1284 ⟨rfl, hk1286⟩ hf1285
        refine ⟨.inr (Gr.still hk1286.cum.none), ?_⟩
        have hm1287 := hm1282.still hk1286.cum.none
        rw [c622] at hf1285
        refine quiet0 [62, 63, 64, 65, 66, 67] [] [0] #[true, true, true, true, true, true, true, true, true, true, true, true, true, true, true, true, true, true, true, true, true, true, true, true, true, true, true, true, true, true, true, true, true, true, true, true, true, true, true, true, true, true, true, true, true, true, true, true, true, true, true, true, true, true, true, true, true, true, true, true, true, true, true, true, true, true, true, true] [(0, .bool false)] [] 0 rfl (by kernel_rfl) (fun _ _ _ _ _ h => nomatch h.1) hf1285 (by kernel_rfl) trivial fun a1288 hf1289 => ?_
        refine allDone (by kernel_rfl) ⟨rfl, hf1289.sel (l := [0]) (by kernel_rfl), hm1287.sel [] _ rfl (by kernel_rfl)⟩
      rintro a1290 w1291 ⟨hf1292, hm1293⟩
      refine thenN ?_
      refine wp_ret ?_
      have hm1294 : Mem [] M w0 [] w1291 := hm1293.sel [] _ rfl (by kernel_rfl)
      obtain rfl := Option.some.inj H0
      refine ret [] [.bool false] [] hf1292 (by kernel_rfl) trivial ?_
      exact ⟨_, rfl, rfl, hm1294⟩
    rcases if_split H0 with ⟨c623, H0⟩ | ⟨c623, H0⟩
    · refine midReg (fun (a : Act) (w : World) => Fr 186 a [(0, .bool true)] ∧ Mem [] M w0 [] w) ?_ ?_
      · refine anyG [] (by kernel_rfl) fun w691 hg692 => ?_
        have hm693 := hm602.still hg692
        refine quiet0 [0, 1, 2, 3, 4, 5, 6, 7, 8, 9, 10, 11, 12, 13, 14, 15, 16, 17, 18, 19, 20, 21, 22, 23, 24, 25, 26, 27, 28, 29, 30, 31, 32] [.bool true, .bool true, .bool true, .bool true, .bool true, .bool true, .bool true, .bool true, .agg #[.slice A464 r461.1.Shape.length c465, .slice A466 r461.1.Data.length c467]] [1, 17, 18, 19, 20, 22, 24, 149, 150, 151] #[true, true, true, true, true, true, true, true, true, true, true, true, true, true, true, true, true, true, true, true, true, true, true, true, true, true, true, true, true, true, true, true, true, false, false, false, false, false, false, false, false, false, false, false, false, false, false, false, false, false, false, false, false, false, false, false, false, false, false, false, false, false, false, false, false, false, false, false] [(1, .func (.func 23) #[] #[]), (17, .int .i64 r490.2.1), (18, .int .i64 r490.2.2), (19, .int .i64 r520.2), (20, .pointer (some ⟨b548, 0, none⟩)), (22, .pointer (some ⟨b577, 0, none⟩)), (24, .int .i64 r590.2), (149, .bool true), (150, .agg #[.slice A464 r461.1.Shape.length c465, .slice A466 r461.1.Data.length c467]), (151, .func (.func 23) #[] #[])] [.is (((r34.2 : Int) == 13) = true), .is (((r54.2 : Int) == 2) = true), .is (((r209.2.2 : Int) == 7) = true), .is (((r242.2.2 : Int) == 2) = true), .is (((r275.2.2 : Int) == 0) = true), .is (((r308.2 : Int) == 1) = true), .is (((r347.2 : Int) == 2) = true), .is (((r405.2 : Int) == 0) = true), .cell ⟨b477, 0, none⟩ (.slice A464 r461.1.Shape.length c465), .cell ⟨b477, 1, none⟩ (.slice A466 r461.1.Data.length c467)] 35 rfl (by kernel_rfl) (fun _ _ _ _ _ h => nomatch h.1) hf601 (by kernel_rfl) ⟨(eqT c603), (eqT c604), (eqT c605), (eqT c606), (eqT c607), (eqT c608), (eqT c609), (eqT c610), (hm693.cell 6 rfl rfl), (hm693.cell 6 rfl rfl), trivial⟩ fun a768 hf769 => ?_
        refine all1 33 (by kernel_rfl) ?_
        refine opOf hf769 rfl (by kernel_rfl) (aLit (cs := [.float .f64 4607182418800017408, .float .f64 4607182418800017408]) (E := 26) (len := 2) (d := 152) hf769 (by kernel_rfl) (by kernel_rfl) ?_)
        intro b770 w771 a772 hbb770 hx774 hg775 hf773
        refine ⟨.inr (Gr.still hg775), ?_⟩
        have hm693s := hm693.still hg775
        have hm776 := Mem.lit (kd := Kd.float) (xs := ([4607182418800017408, 4607182418800017408] : List Nat)) hm693 hbb770 hx774 hg775 (Els.append (Els.one (kd := Kd.float) (us := [.float .f64 4607182418800017408]) (x := 4607182418800017408) ⟨_, rfl, (FR.lit (by kernel_rfl) (by kernel_rfl))⟩) (Els.one (kd := Kd.float) (us := [.float .f64 4607182418800017408]) (x := 4607182418800017408) ⟨_, rfl, (FR.lit (by kernel_rfl) (by kernel_rfl))⟩))
        refine all1 34 (by kernel_rfl) ?_
        refine opOf hf773 rfl (by kernel_rfl) (aCall (fid := 23) (args := [.slice (some ⟨b770, 0, none⟩) 2 2]) (d := 153) hf773 (by kernel_rfl) (by kernel_rfl) callable23 (law19_ShelfKnown_1.calls _ _ ([4607182418800017408, 4607182418800017408] : List Nat) (some ⟨b770, 0, none⟩) 2 2 rfl (hm776.give [0] [.sl Kd.float (some ⟨b770, 0, none⟩) 2 ([4607182418800017408, 4607182418800017408] : List Nat)] rfl rfl) r611 hr611) ?_)
        rintro _ w781 a782 ⟨A777, c778, A779, c780, rfl, hk784⟩ hf783
        refine ⟨.inr (Gr.still hk784.cum.none), ?_⟩
        have hm785 := hm776.back hk784
        have hm786 := hm785.seal 0 _ rfl rfl
        refine all1 35 (by kernel_rfl) ?_
        refine opOf hf783 rfl (by kernel_rfl) (aCall (fid := 24) (args := [.agg #[.slice A464 r461.1.Shape.length c465, .slice A466 r461.1.Data.length c467], .agg #[.slice A777 r611.Shape.length c778, .slice A779 r611.Data.length c780]]) (d := 154) hf783 (by kernel_rfl) (by kernel_rfl) callable24 (ref1_SameTensor.calls _ _ r461.1 A464 r461.1.Shape.length c465 rfl A466 r461.1.Data.length c467 rfl r611 A777 r611.Shape.length c778 rfl A779 r611.Data.length c780 rfl (hm786.give [10, 11, 0, 1] [.sl (Kd.int .i64) A464 c465 r461.1.Shape, .sl Kd.float A466 c467 r461.1.Data, .sl (Kd.int .i64) A777 c778 r611.Shape, .sl Kd.float A779 c780 r611.Data] rfl rfl) r612 hr612) ?_)
        rintro _ w787 a788 ⟨rfl, hk790⟩ hf789
        refine ⟨.inr (Gr.still hk790.cum.none), ?_⟩
        have hm791 := hm786.still hk790.cum.none
        rw [c613] at hf789
        refine quiet0 [36, 37, 38, 39, 40, 41, 42, 43, 44, 45, 46, 47, 48, 49, 50, 51] [.bool true, .bool true, .bool true, .agg #[.slice A535 r532.1.Shape.length c536, .slice A537 r532.1.Data.length c538]] [1, 22, 24, 168, 169, 170] #[true, true, true, true, true, true, true, true, true, true, true, true, true, true, true, true, true, true, true, true, true, true, true, true, true, true, true, true, true, true, true, true, true, true, true, true, true, true, true, true, true, true, true, true, true, true, true, true, true, true, true, true, false, false, false, false, false, false, false, false, false, false, false, false, false, false, false, false] [(1, .func (.func 23) #[] #[]), (22, .pointer (some ⟨b577, 0, none⟩)), (24, .int .i64 r590.2), (168, .bool true), (169, .agg #[.slice A535 r532.1.Shape.length c536, .slice A537 r532.1.Data.length c538]), (170, .func (.func 23) #[] #[])] [.is (((r490.2.2 : Int) == 0) = true), .is (((r490.2.1 : Int) == 1) = true), .is (((r520.2 : Int) == 0) = true), .cell ⟨b548, 0, none⟩ (.slice A535 r532.1.Shape.length c536), .cell ⟨b548, 1, none⟩ (.slice A537 r532.1.Data.length c538)] 16 rfl (by kernel_rfl) (fun _ _ _ _ _ h => nomatch h.1) hf789 (by kernel_rfl) ⟨(eqT c614), (eqT c615), (eqT c616), (hm791.cell 6 rfl rfl), (hm791.cell 6 rfl rfl), trivial⟩ fun a792 hf793 => ?_
        refine all1 52 (by kernel_rfl) ?_
        refine opOf hf793 rfl (by kernel_rfl) (aLit (cs := [.float .f64 0, .float .f64 0]) (E := 26) (len := 2) (d := 171) hf793 (by kernel_rfl) (by kernel_rfl) ?_)
        intro b794 w795 a796 hbb794 hx798 hg799 hf797
        refine ⟨.inr (Gr.still hg799), ?_⟩
        have hm791s := hm791.still hg799
        have hm800 := Mem.lit (kd := Kd.float) (xs := ([0, 0] : List Nat)) hm791 hbb794 hx798 hg799 (Els.append (Els.one (kd := Kd.float) (us := [.float .f64 0]) (x := 0) ⟨_, rfl, (FR.lit (by kernel_rfl) (by kernel_rfl))⟩) (Els.one (kd := Kd.float) (us := [.float .f64 0]) (x := 0) ⟨_, rfl, (FR.lit (by kernel_rfl) (by kernel_rfl))⟩))
        refine all1 53 (by kernel_rfl) ?_
        refine opOf hf797 rfl (by kernel_rfl) (aCall (fid := 23) (args := [.slice (some ⟨b794, 0, none⟩) 2 2]) (d := 172) hf797 (by kernel_rfl) (by kernel_rfl) callable23 (law19_ShelfKnown_1.calls _ _ ([0, 0] : List Nat) (some ⟨b794, 0, none⟩) 2 2 rfl (hm800.give [0] [.sl Kd.float (some ⟨b794, 0, none⟩) 2 ([0, 0] : List Nat)] rfl rfl) r617 hr617) ?_)
        rintro _ w805 a806 ⟨A801, c802, A803, c804, rfl, hk808⟩ hf807
        refine ⟨.inr (Gr.still hk808.cum.none), ?_⟩
        have hm809 := hm800.back hk808
        have hm810 := hm809.seal 0 _ rfl rfl
        refine all1 54 (by kernel_rfl) ?_
        refine opOf hf807 rfl (by kernel_rfl) (aCall (fid := 24) (args := [.agg #[.slice A535 r532.1.Shape.length c536, .slice A537 r532.1.Data.length c538], .agg #[.slice A801 r617.Shape.length c802, .slice A803 r617.Data.length c804]]) (d := 173) hf807 (by kernel_rfl) (by kernel_rfl) callable24 (ref1_SameTensor.calls _ _ r532.1 A535 r532.1.Shape.length c536 rfl A537 r532.1.Data.length c538 rfl r617 A801 r617.Shape.length c802 rfl A803 r617.Data.length c804 rfl (hm810.give [10, 11, 0, 1] [.sl (Kd.int .i64) A535 c536 r532.1.Shape, .sl Kd.float A537 c538 r532.1.Data, .sl (Kd.int .i64) A801 c802 r617.Shape, .sl Kd.float A803 c804 r617.Data] rfl rfl) r618 hr618) ?_)
        rintro _ w811 a812 ⟨rfl, hk814⟩ hf813
        refine ⟨.inr (Gr.still hk814.cum.none), ?_⟩
        have hm815 := hm810.still hk814.cum.none
        rw [c619] at hf813
        refine quiet0 [55, 56, 57, 58] [.agg #[.slice A564 r561.1.Shape.length c565, .slice A566 r561.1.Data.length c567]] [24, 175, 176, 177] #[true, true, true, true, true, true, true, true, true, true, true, true, true, true, true, true, true, true, true, true, true, true, true, true, true, true, true, true, true, true, true, true, true, true, true, true, true, true, true, true, true, true, true, true, true, true, true, true, true, true, true, true, true, true, true, true, true, true, true, false, false, false, false, false, false, false, false, false] [(24, .int .i64 r590.2), (175, .bool true), (176, .agg #[.slice A564 r561.1.Shape.length c565, .slice A566 r561.1.Data.length c567]), (177, .func (.func 23) #[] #[])] [.cell ⟨b577, 0, none⟩ (.slice A564 r561.1.Shape.length c565), .cell ⟨b577, 1, none⟩ (.slice A566 r561.1.Data.length c567)] 9 rfl (by kernel_rfl) (fun _ _ _ _ _ h => nomatch h.1) hf813 (by kernel_rfl) ⟨(hm815.cell 6 rfl rfl), (hm815.cell 6 rfl rfl), trivial⟩ fun a816 hf817 => ?_
        refine all1 59 (by kernel_rfl) ?_
        refine opOf hf817 rfl (by kernel_rfl) (aLit (cs := [.float .f64 4617315517961601024]) (E := 26) (len := 1) (d := 178) hf817 (by kernel_rfl) (by kernel_rfl) ?_)
        intro b818 w819 a820 hbb818 hx822 hg823 hf821
        refine ⟨.inr (Gr.still hg823), ?_⟩
        have hm815s := hm815.still hg823
        have hm824 := Mem.lit (kd := Kd.float) (xs := ([4617315517961601024] : List Nat)) hm815 hbb818 hx822 hg823 (Els.one (kd := Kd.float) (us := [.float .f64 4617315517961601024]) (x := 4617315517961601024) ⟨_, rfl, (FR.lit (by kernel_rfl) (by kernel_rfl))⟩)
        refine all1 60 (by kernel_rfl) ?_
        refine opOf hf821 rfl (by kernel_rfl) (aCall (fid := 23) (args := [.slice (some ⟨b818, 0, none⟩) 1 1]) (d := 179) hf821 (by kernel_rfl) (by kernel_rfl) callable23 (law19_ShelfKnown_1.calls _ _ ([4617315517961601024] : List Nat) (some ⟨b818, 0, none⟩) 1 1 rfl (hm824.give [0] [.sl Kd.float (some ⟨b818, 0, none⟩) 1 ([4617315517961601024] : List Nat)] rfl rfl) r620 hr620) ?_)
        rintro _ w829 a830 ⟨A825, c826, A827, c828, rfl, hk832⟩ hf831
        refine ⟨.inr (Gr.still hk832.cum.none), ?_⟩
        have hm833 := hm824.back hk832
        have hm834 := hm833.seal 0 _ rfl rfl
        refine all1 61 (by kernel_rfl) ?_
        refine opOf hf831 rfl (by kernel_rfl) (aCall (fid := 24) (args := [.agg #[.slice A564 r561.1.Shape.length c565, .slice A566 r561.1.Data.length c567], .agg #[.slice A825 r620.Shape.length c826, .slice A827 r620.Data.length c828]]) (d := 180) hf831 (by kernel_rfl) (by kernel_rfl) callable24 (ref1_SameTensor.calls _ _ r561.1 A564 r561.1.Shape.length c565 rfl A566 r561.1.Data.length c567 rfl r620 A825 r620.Shape.length c826 rfl A827 r620.Data.length c828 rfl (hm834.give [10, 11, 0, 1] [.sl (Kd.int .i64) A564 c565 r561.1.Shape, .sl Kd.float A566 c567 r561.1.Data, .sl (Kd.int .i64) A825 c826 r620.Shape, .sl Kd.float A827 c828 r620.Data] rfl rfl) r621 hr621) ?_)
        rintro _ w835 a836 ⟨rfl, hk838⟩ hf837
        refine ⟨.inr (Gr.still hk838.cum.none), ?_⟩
        have hm839 := hm834.still hk838.cum.none
        rw [c622] at hf837
        refine quiet0 [62, 63, 64, 65, 66, 67] [.bool true] [0] #[true, true, true, true, true, true, true, true, true, true, true, true, true, true, true, true, true, true, true, true, true, true, true, true, true, true, true, true, true, true, true, true, true, true, true, true, true, true, true, true, true, true, true, true, true, true, true, true, true, true, true, true, true, true, true, true, true, true, true, true, true, true, true, true, true, true, true, true] [(0, .bool true)] [.is (((r590.2 : Int) == 7) = true)] 0 rfl (by kernel_rfl) (fun _ _ _ _ _ h => nomatch h.1) hf837 (by kernel_rfl) ⟨(eqT c623), trivial⟩ fun a840 hf841 => ?_
        refine allDone (by kernel_rfl) ⟨rfl, hf841.sel (l := [0]) (by kernel_rfl), hm839.sel [] _ rfl (by kernel_rfl)⟩
      rintro a842 w843 ⟨hf844, hm845⟩
      refine thenN ?_
      refine wp_ret ?_
      have hm846 : Mem [] M w0 [] w843 := hm845.sel [] _ rfl (by kernel_rfl)
      obtain rfl := Option.some.inj H0
      refine ret [] [.bool true] [] hf844 (by kernel_rfl) trivial ?_
      exact ⟨_, rfl, rfl, hm846⟩
    refine midReg (fun (a : Act) (w : World) => Fr 186 a [(0, .bool false)] ∧ Mem [] M w0 [] w) ?_ ?_
    · refine anyG [] (by kernel_rfl) fun w915 hg916 => ?_
      have hm917 := hm602.still hg916
      refine quiet0 [0, 1, 2, 3, 4, 5, 6, 7, 8, 9, 10, 11, 12, 13, 14, 15, 16, 17, 18, 19, 20, 21, 22, 23, 24, 25, 26, 27, 28, 29, 30, 31, 32] [.bool true, .bool true, .bool true, .bool true, .bool true, .bool true, .bool true, .bool true, .agg #[.slice A464 r461.1.Shape.length c465, .slice A466 r461.1.Data.length c467]] [1, 17, 18, 19, 20, 22, 24, 149, 150, 151] #[true, true, true, true, true, true, true, true, true, true, true, true, true, true, true, true, true, true, true, true, true, true, true, true, true, true, true, true, true, true, true, true, true, false, false, false, false, false, false, false, false, false, false, false, false, false, false, false, false, false, false, false, false, false, false, false, false, false, false, false, false, false, false, false, false, false, false, false] [(1, .func (.func 23) #[] #[]), (17, .int .i64 r490.2.1), (18, .int .i64 r490.2.2), (19, .int .i64 r520.2), (20, .pointer (some ⟨b548, 0, none⟩)), (22, .pointer (some ⟨b577, 0, none⟩)), (24, .int .i64 r590.2), (149, .bool true), (150, .agg #[.slice A464 r461.1.Shape.length c465, .slice A466 r461.1.Data.length c467]), (151, .func (.func 23) #[] #[])] [.is (((r34.2 : Int) == 13) = true), .is (((r54.2 : Int) == 2) = true), .is (((r209.2.2 : Int) == 7) = true), .is (((r242.2.2 : Int) == 2) = true), .is (((r275.2.2 : Int) == 0) = true), .is (((r308.2 : Int) == 1) = true), .is (((r347.2 : Int) == 2) = true), .is (((r405.2 : Int) == 0) = true), .cell ⟨b477, 0, none⟩ (.slice A464 r461.1.Shape.length c465), .cell ⟨b477, 1, none⟩ (.slice A466 r461.1.Data.length c467)] 35 rfl (by kernel_rfl) (fun _ _ _ _ _ h => nomatch h.1) hf601 (by kernel_rfl) ⟨(eqT c603), (eqT c604), (eqT c605), (eqT c606), (eqT c607), (eqT c608), (eqT c609), (eqT c610), (hm917.cell 6 rfl rfl), (hm917.cell 6 rfl rfl), trivial⟩ fun a992 hf993 => ?_
      refine all1 33 (by kernel_rfl) ?_
      refine opOf hf993 rfl (by kernel_rfl) (aLit (cs := [.float .f64 4607182418800017408, .float .f64 4607182418800017408]) (E := 26) (len := 2) (d := 152) hf993 (by kernel_rfl) (by kernel_rfl) ?_)
      intro b994 w995 a996 hbb994 hx998 hg999 hf997
      refine ⟨.inr (Gr.still hg999), ?_⟩
      have hm917s := hm917.still hg999
      have hm1000 := Mem.lit (kd := Kd.float) (xs := ([4607182418800017408, 4607182418800017408] : List Nat)) hm917 hbb994 hx998 hg999 (Els.append (Els.one (kd := Kd.float) (us := [.float .f64 4607182418800017408]) (x := 4607182418800017408) ⟨_, rfl, (FR.lit (by kernel_rfl) (by kernel_rfl))⟩) (Els.one (kd := Kd.float) (us := [.float .f64 4607182418800017408]) (x := 4607182418800017408) ⟨_, rfl, (FR.lit (by kernel_rfl) (by kernel_rfl))⟩))
      refine all1 34 (by kernel_rfl) ?_
      refine opOf hf997 rfl (by kernel_rfl) (aCall (fid := 23) (args := [.slice (some ⟨b994, 0, none⟩) 2 2]) (d := 153) hf997 (by kernel_rfl) (by kernel_rfl) callable23 (law19_ShelfKnown_1.calls _ _ ([4607182418800017408, 4607182418800017408] : List Nat) (some ⟨b994, 0, none⟩) 2 2 rfl (hm1000.give [0] [.sl Kd.float (some ⟨b994, 0, none⟩) 2 ([4607182418800017408, 4607182418800017408] : List Nat)] rfl rfl) r611 hr611) ?_)
      rintro _ w1005 a1006 ⟨A1001, c1002, A1003, c1004, rfl, hk1008⟩ hf1007
      refine ⟨.inr (Gr.still hk1008.cum.none), ?_⟩
      have hm1009 := hm1000.back hk1008
      have hm1010 := hm1009.seal 0 _ rfl rfl
      refine all1 35 (by kernel_rfl) ?_
      refine opOf hf1007 rfl (by kernel_rfl) (aCall (fid := 24) (args := [.agg #[.slice A464 r461.1.Shape.length c465, .slice A466 r461.1.Data.length c467], .agg #[.slice A1001 r611.Shape.length c1002, .slice A1003 r611.Data.length c1004]]) (d := 154) hf1007 (by kernel_rfl) (by kernel_rfl) callable24 (ref1_SameTensor.calls _ _ r461.1 A464 r461.1.Shape.length c465 rfl A466 r461.1.Data.length c467 rfl r611 A1001 r611.Shape.length c1002 rfl A1003 r611.Data.length c1004 rfl (hm1010.give [10, 11, 0, 1] [.sl (Kd.int .i64) A464 c465 r461.1.Shape, .sl Kd.float A466 c467 r461.1.Data, .sl (Kd.int .i64) A1001 c1002 r611.Shape, .sl Kd.float A1003 c1004 r611.Data] rfl rfl) r612 hr612) ?_)
      rintro _ w1011 a1012 ⟨rfl, hk1014⟩ hf1013
      refine ⟨.inr (Gr.still hk1014.cum.none), ?_⟩
      have hm1015 := hm1010.still hk1014.cum.none
      rw [c613] at hf1013
      refine quiet0 [36, 37, 38, 39, 40, 41, 42, 43, 44, 45, 46, 47, 48, 49, 50, 51] [.bool true, .bool true, .bool true, .agg #[.slice A535 r532.1.Shape.length c536, .slice A537 r532.1.Data.length c538]] [1, 22, 24, 168, 169, 170] #[true, true, true, true, true, true, true, true, true, true, true, true, true, true, true, true, true, true, true, true, true, true, true, true, true, true, true, true, true, true, true, true, true, true, true, true, true, true, true, true, true, true, true, true, true, true, true, true, true, true, true, true, false, false, false, false, false, false, false, false, false, false, false, false, false, false, false, false] [(1, .func (.func 23) #[] #[]), (22, .pointer (some ⟨b577, 0, none⟩)), (24, .int .i64 r590.2), (168, .bool true), (169, .agg #[.slice A535 r532.1.Shape.length c536, .slice A537 r532.1.Data.length c538]), (170, .func (.func 23) #[] #[])] [.is (((r490.2.2 : Int) == 0) = true), .is (((r490.2.1 : Int) == 1) = true), .is (((r520.2 : Int) == 0) = true), .cell ⟨b548, 0, none⟩ (.slice A535 r532.1.Shape.length c536), .cell ⟨b548, 1, none⟩ (.slice A537 r532.1.Data.length c538)] 16 rfl (by kernel_rfl) (fun _ _ _ _ _ h => nomatch h.1) hf1013 (by kernel_rfl) ⟨(eqT c614), (eqT c615), (eqT c616), (hm1015.cell 6 rfl rfl), (hm1015.cell 6 rfl rfl), trivial⟩ fun a1016 hf1017 => ?_
      refine all1 52 (by kernel_rfl) ?_
      refine opOf hf1017 rfl (by kernel_rfl) (aLit (cs := [.float .f64 0, .float .f64 0]) (E := 26) (len := 2) (d := 171) hf1017 (by kernel_rfl) (by kernel_rfl) ?_)
      intro b1018 w1019 a1020 hbb1018 hx1022 hg1023 hf1021
      refine ⟨.inr (Gr.still hg1023), ?_⟩
      have hm1015s := hm1015.still hg1023
      have hm1024 := Mem.lit (kd := Kd.float) (xs := ([0, 0] : List Nat)) hm1015 hbb1018 hx1022 hg1023 (Els.append (Els.one (kd := Kd.float) (us := [.float .f64 0]) (x := 0) ⟨_, rfl, (FR.lit (by kernel_rfl) (by kernel_rfl))⟩) (Els.one (kd := Kd.float) (us := [.float .f64 0]) (x := 0) ⟨_, rfl, (FR.lit (by kernel_rfl) (by kernel_rfl))⟩))
      refine all1 53 (by kernel_rfl) ?_
      refine opOf hf1021 rfl (by kernel_rfl) (aCall (fid := 23) (args := [.slice (some ⟨b1018, 0, none⟩) 2 2]) (d := 172) hf1021 (by kernel_rfl) (by kernel_rfl) callable23 (law19_ShelfKnown_1.calls _ _ ([0, 0] : List Nat) (some ⟨b1018, 0, none⟩) 2 2 rfl (hm1024.give [0] [.sl Kd.float (some ⟨b1018, 0, none⟩) 2 ([0, 0] : List Nat)] rfl rfl) r617 hr617) ?_)
      rintro _ w1029 a1030 ⟨A1025, c1026, A1027, c1028, rfl, hk1032⟩ hf1031
      refine ⟨.inr (Gr.still hk1032.cum.none), ?_⟩
      have hm1033 := hm1024.back hk1032
      have hm1034 := hm1033.seal 0 _ rfl rfl
      refine all1 54 (by kernel_rfl) ?_
      refine opOf hf1031 rfl (by kernel_rfl) (aCall (fid := 24) (args := [.agg #[.slice A535 r532.1.Shape.length c536, .slice A537 r532.1.Data.length c538], .agg #[.slice A1025 r617.Shape.length c1026, .slice A1027 r617.Data.length c1028]]) (d := 173) hf1031 (by kernel_rfl) (by kernel_rfl) callable24 (ref1_SameTensor.calls _ _ r532.1 A535 r532.1.Shape.length c536 rfl A537 r532.1.Data.length c538 rfl r617 A1025 r617.Shape.length c1026 rfl A1027 r617.Data.length c1028 rfl (hm1034.give [10, 11, 0, 1] [.sl (Kd.int .i64) A535 c536 r532.1.Shape, .sl Kd.float A537 c538 r532.1.Data, .sl (Kd.int .i64) A1025 c1026 r617.Shape, .sl Kd.float A1027 c1028 r617.Data] rfl rfl) r618 hr618) ?_)
      rintro _ w1035 a1036 ⟨rfl, hk1038⟩ hf1037
      refine ⟨.inr (Gr.still hk1038.cum.none), ?_⟩
      have hm1039 := hm1034.still hk1038.cum.none
      rw [c619] at hf1037
      refine quiet0 [55, 56, 57, 58] [.agg #[.slice A564 r561.1.Shape.length c565, .slice A566 r561.1.Data.length c567]] [24, 175, 176, 177] #[true, true, true, true, true, true, true, true, true, true, true, true, true, true, true, true, true, true, true, true, true, true, true, true, true, true, true, true, true, true, true, true, true, true, true, true, true, true, true, true, true, true, true, true, true, true, true, true, true, true, true, true, true, true, true, true, true, true, true, false, false, false, false, false, false, false, false, false] [(24, .int .i64 r590.2), (175, .bool true), (176, .agg #[.slice A564 r561.1.Shape.length c565, .slice A566 r561.1.Data.length c567]), (177, .func (.func 23) #[] #[])] [.cell ⟨b577, 0, none⟩ (.slice A564 r561.1.Shape.length c565), .cell ⟨b577, 1, none⟩ (.slice A566 r561.1.Data.length c567)] 9 rfl (by kernel_rfl) (fun _ _ _ _ _ h => nomatch h.1) hf1037 (by kernel_rfl) ⟨(hm1039.cell 6 rfl rfl), (hm1039.cell 6 rfl rfl), trivial⟩ fun a1040 hf1041 => ?_
      refine all1 59 (by kernel_rfl) ?_
      refine opOf hf1041 rfl (by kernel_rfl) (aLit (cs := [.float .f64 4617315517961601024]) (E := 26) (len := 1) (d := 178) hf1041 (by kernel_rfl) (by kernel_rfl) ?_)
      intro b1042 w1043 a1044 hbb1042 hx1046 hg1047 hf1045
      refine ⟨.inr (Gr.still hg1047), ?_⟩
      have hm1039s := hm1039.still hg1047
      have hm1048 := Mem.lit (kd := Kd.float) (xs := ([4617315517961601024] : List Nat)) hm1039 hbb1042 hx1046 hg1047 (Els.one (kd := Kd.float) (us := [.float .f64 4617315517961601024]) (x := 4617315517961601024) ⟨_, rfl, (FR.lit (by kernel_rfl) (by kernel_rfl))⟩)
      refine all1 60 (by kernel_rfl) ?_
      refine opOf hf1045 rfl (by kernel_rfl) (aCall (fid := 23) (args := [.slice (some ⟨b1042, 0, none⟩) 1 1]) (d := 179) hf1045 (by kernel_rfl) (by kernel_rfl) callable23 (law19_ShelfKnown_1.calls _ _ ([4617315517961601024] : List Nat) (some ⟨b1042, 0, none⟩) 1 1 rfl (hm1048.give [0] [.sl Kd.float (some ⟨b1042, 0, none⟩) 1 ([4617315517961601024] : List Nat)] rfl rfl) r620 hr620) ?_)
      rintro _ w1053 a1054 ⟨A1049, c1050, A1051, c1052, rfl, hk1056⟩ hf1055
      refine ⟨.inr (Gr.still hk1056.cum.none), ?_⟩
      have hm1057 := hm1048.back hk1056
      have hm1058 := hm1057.seal 0 _ rfl rfl
      refine all1 61 (by kernel_rfl) ?_
      refine opOf hf1055 rfl (by kernel_rfl) (aCall (fid := 24) (args := [.agg #[.slice A564 r561.1.Shape.length c565, .slice A566 r561.1.Data.length c567], .agg #[.slice A1049 r620.Shape.length c1050, .slice A1051 r620.Data.length c1052]]) (d := 180) hf1055 (by kernel_rfl) (by kernel_rfl) callable24 (ref1_SameTensor.calls _ _ r561.1 A564 r561.1.Shape.length c565 rfl A566 r561.1.Data.length c567 rfl r620 A1049 r620.Shape.length c1050 rfl A1051 r620.Data.length c1052 rfl (hm1058.give [10, 11, 0, 1] [.sl (Kd.int .i64) A564 c565 r561.1.Shape, .sl Kd.float A566 c567 r561.1.Data, .sl (Kd.int .i64) A1049 c1050 r620.Shape, .sl Kd.float A1051 c1052 r620.Data] rfl rfl) r621 hr621) ?_)
      rintro _ w1059 a1060 ⟨rfl, hk1062⟩ hf1061
      refine ⟨.inr (Gr.still hk1062.cum.none), ?_⟩
      have hm1063 := hm1058.still hk1062.cum.none
      rw [c622] at hf1061
      refine quiet0 [62, 63, 64, 65, 66, 67] [.bool false] [0] #[true, true, true, true, true, true, true, true, true, true, true, true, true, true, true, true, true, true, true, true, true, true, true, true, true, true, true, true, true, true, true, true, true, true, true, true, true, true, true, true, true, true, true, true, true, true, true, true, true, true, true, true, true, true, true, true, true, true, true, true, true, true, true, true, true, true, true, true] [(0, .bool false)] [.is (((r590.2 : Int) == 7) = false)] 0 rfl (by kernel_rfl) (fun _ _ _ _ _ h => nomatch h.1) hf1061 (by kernel_rfl) ⟨(eqF c623), trivial⟩ fun a1064 hf1065 => ?_
      refine allDone (by kernel_rfl) ⟨rfl, hf1065.sel (l := [0]) (by kernel_rfl), hm1063.sel [] _ rfl (by kernel_rfl)⟩
    rintro a1066 w1067 ⟨hf1068, hm1069⟩
    refine thenN ?_
    refine wp_ret ?_
    have hm1070 : Mem [] M w0 [] w1067 := hm1069.sel [] _ rfl (by kernel_rfl)
    obtain rfl := Option.some.inj H0
    refine ret [] [.bool false] [] hf1068 (by kernel_rfl) trivial ?_
    exact ⟨_, rfl, rfl, hm1070⟩
end Go.Proofs.Ytolhkamfpfjodaa
