/- Printed by gen.py. -/
import Derived.Test.YtolhkamfpfjodaaF10
import Derived.Test.YtolhkamfpfjodaaF11
import Derived.Test.YtolhkamfpfjodaaF3
import Derived.Test.YtolhkamfpfjodaaF8
import Derived.Test.YtolhkamfpfjodaaF9
namespace Go.Proofs.Ytolhkamfpfjodaa
open Go Go.RowKit
set_option linter.unusedSimpArgs false
set_option linter.unusedVariables false
set_option linter.unnecessarySimpa false
/-! ### backstitch/backstitchlaw19.ShelfSums -/
noncomputable def law19_ShelfSums.l0 (x0 : (List (Int × Int))) (s143 : (Int × Int × Int × Int × (List Tensor) × (List Int) × (List Tensor))) : Step (Int × Int × Int × Int × (List Tensor) × (List Int) × (List Tensor)) (Out2 (Int × Int × Int × Int × (List Tensor) × (List Int) × (List Tensor)) Bool) :=
  if s143.2.2.2.1 < (x0.length : Int) then (if 0 ≤ s143.2.2.2.1 ∧ s143.2.2.2.1 < (x0.length : Int) then (bindS (shelf_Shelf_Commit.f (⟨s143.2.2.2.2.1, s143.2.2.2.2.2.1, s143.2.2.2.2.2.2⟩ : Shelf) ([(⟨([2] : List Int), ([(ofInt ((rd x0 s143.2.2.2.1).1)), (ofInt ((rd x0 s143.2.2.2.1).2))] : List Nat)⟩ : Tensor)] : List Tensor)) fun r534 =>
  if r534.2 = 0 then (if (bits .and .i16 ((rd x0 s143.2.2.2.1).1) 1) = 0 then (bindS (shelf_Shelf_Set.f (⟨s143.2.2.2.2.1, s143.2.2.2.2.2.1, r534.1⟩ : Shelf) 0 (⟨([2] : List Int), ([(ofInt ((rd x0 s143.2.2.2.1).1)), (ofInt ((rd x0 s143.2.2.2.1).2))] : List Nat)⟩ : Tensor)) fun r583 =>
  if r583.2.2 = 0 then (bindS (shelf_Shelf_Grad.f (⟨r583.1, r583.2.1, r534.1⟩ : Shelf) 0) fun r599 =>
  bindS (shelf_Shelf_Get.f (⟨r583.1, r583.2.1, r534.1⟩ : Shelf) 0) fun r628 =>
  if r599.2 = 0 then (if r628.2.2 = 0 then (if (r599.1.Data.length : Int) = 2 then (if (0 : Int) ≤ 0 ∧ 0 < (r599.1.Data.length : Int) then (if (fne (rd r599.1.Data 0) (ofInt (w64 (s143.1 + (w64 ((rd x0 s143.2.2.2.1).1)))))) = true then (.done (.ret false))
  else (if (0 : Int) ≤ 1 ∧ 1 < (r599.1.Data.length : Int) then (if (fne (rd r599.1.Data 1) (ofInt (w64 (s143.2.1 + (w64 ((rd x0 s143.2.2.2.1).2)))))) = true then (.done (.ret false))
  else (if r628.2.1 = (w64 (s143.2.2.1 + 1)) then (.next ((w64 (s143.1 + (w64 ((rd x0 s143.2.2.2.1).1)))), (w64 (s143.2.1 + (w64 ((rd x0 s143.2.2.2.1).2)))), (w64 (s143.2.2.1 + 1)), (w64 (s143.2.2.2.1 + 1)), r583.1, r583.2.1, r534.1))
  else (.done (.ret false))))
  else .bad))
  else .bad)
  else (.done (.ret false)))
  else (.done (.ret false)))
  else (.done (.ret false)))
  else (.done (.ret false)))
  else (bindS (shelf_Shelf_Grad.f (⟨s143.2.2.2.2.1, s143.2.2.2.2.2.1, r534.1⟩ : Shelf) 0) fun r760 =>
  bindS (shelf_Shelf_Get.f (⟨s143.2.2.2.2.1, s143.2.2.2.2.2.1, r534.1⟩ : Shelf) 0) fun r790 =>
  if r760.2 = 0 then (if r790.2.2 = 0 then (if (r760.1.Data.length : Int) = 2 then (if (0 : Int) ≤ 0 ∧ 0 < (r760.1.Data.length : Int) then (if (fne (rd r760.1.Data 0) (ofInt (w64 (s143.1 + (w64 ((rd x0 s143.2.2.2.1).1)))))) = true then (.done (.ret false))
  else (if (0 : Int) ≤ 1 ∧ 1 < (r760.1.Data.length : Int) then (if (fne (rd r760.1.Data 1) (ofInt (w64 (s143.2.1 + (w64 ((rd x0 s143.2.2.2.1).2)))))) = true then (.done (.ret false))
  else (if r790.2.1 = s143.2.2.1 then (.next ((w64 (s143.1 + (w64 ((rd x0 s143.2.2.2.1).1)))), (w64 (s143.2.1 + (w64 ((rd x0 s143.2.2.2.1).2)))), s143.2.2.1, (w64 (s143.2.2.2.1 + 1)), s143.2.2.2.2.1, s143.2.2.2.2.2.1, r534.1))
  else (.done (.ret false))))
  else .bad))
  else .bad)
  else (.done (.ret false)))
  else (.done (.ret false)))
  else (.done (.ret false))))
  else (.done (.ret false)))
  else .bad)
  else (.done (.go (s143.1, s143.2.1, s143.2.2.1, s143.2.2.2.1, s143.2.2.2.2.1, s143.2.2.2.2.2.1, s143.2.2.2.2.2.2)))
noncomputable def law19_ShelfSums.f (x0 : (List (Int × Int))) : Option Bool :=
  (law19_awake.f).bind fun r23 =>
  if r23 = true then (if 100 < (x0.length : Int) then (some true)
  else ((shelf_New.f ([(⟨([2] : List Int), ([0, 0] : List Nat)⟩ : Tensor)] : List Tensor)).bind fun r42 =>
  onPtr r42.1 (fun y44 =>
  if r42.2 = 0 then ((loop (law19_ShelfSums.l0 x0) (0, 0, 0, 0, y44.l, y44.vers, y44.grads)).bind fun r150 =>
  r150.on (fun yr150 =>
  some true) (fun y => some y))
  else (some false)) (if r42.2 = 0 then (some false)
  else (some false))))
  else (some false)
set_option maxRecDepth 100000 in
set_option maxHeartbeats 4000000 in
theorem law19_ShelfSums.calls (M : List (Option Nat)) (w0 : World) (x0 : (List (Int × Int))) (A0 : Option Addr) (n0 c0 : Nat) (e0 : n0 = x0.length) (hm0 : Mem [] M w0 [.sl (Kd.pair (Kd.int .i16) (Kd.int .i16)) A0 c0 x0] w0) (r : Bool) (H0 : law19_ShelfSums.f x0 = some r) :
    Calls Try.prog 5 [.slice A0 n0 c0].toArray w0 (fun x w' => ∃ v, x = .returned v ∧ v = .bool r ∧ Mem [] M w0 [] w') := by
  subst e0
  unfold law19_ShelfSums.f at H0
  refine enter (n := 135) Try.func5 rfl rfl (by kernel_rfl) fun a0 (hf0 : Fr 135 a0 [(0, .slice A0 x0.length c0)]) => ?_
  refine wp_seq ?_
  refine reg [] [0] [(0, .slice A0 x0.length c0)] [] hf0 (by kernel_rfl) trivial fun a21 hf22 => ?_
  refine thenN ?_
  refine wp_seq ?_
  refine wp_seq ?_
  obtain ⟨r23, hr23, H0⟩ := ob_split H0
  rcases ifb_split H0 with ⟨c24, H0⟩ | ⟨c24, H0⟩
  rotate_left
  · refine inReg ?_
    refine listOf hf22 rfl (by kernel_rfl) (aCall (fid := 9) (args := []) (d := 15) hf22 (by kernel_rfl) (by kernel_rfl) callable9 (law19_awake.calls _ _  (hm0.give [] [] rfl rfl) r23 hr23) ?_)
    rintro _ w937 a938 ⟨rfl, hk940⟩ hf939
    have hm941 := hm0.still hk940.cum.none
    rw [c24] at hf939
    refine go 1 [] [0, 16] [(0, .slice A0 x0.length c0), (16, .bool true)] [] hf939 (by kernel_rfl) trivial fun a942 hf943 => ?_
    refine endL rfl ?_
    refine thenN ?_
    refine condT hf943 (by kernel_rfl) ?_
    refine wp_seq ?_
    refine reg [] [2] [(2, .bool false)] [] hf943 (by kernel_rfl) trivial fun a944 hf945 => ?_
    have hm946 := hm941.sel [] _ rfl (by kernel_rfl)
    refine thenN ?_
    refine wp_ret ?_
    refine thenR ?_
    have hm947 : Mem [] M w0 [] w937 := hm946.sel [] _ rfl (by kernel_rfl)
    obtain rfl := Option.some.inj H0
    refine ret [] [.bool false] [] hf945 (by kernel_rfl) trivial ?_
    exact ⟨_, rfl, rfl, hm947⟩
  refine inReg ?_
  refine listOf hf22 rfl (by kernel_rfl) (aCall (fid := 9) (args := []) (d := 15) hf22 (by kernel_rfl) (by kernel_rfl) callable9 (law19_awake.calls _ _  (hm0.give [] [] rfl rfl) r23 hr23) ?_)
  rintro _ w25 a26 ⟨rfl, hk28⟩ hf27
  have hm29 := hm0.still hk28.cum.none
  rw [c24] at hf27
  refine go 1 [] [0, 16] [(0, .slice A0 x0.length c0), (16, .bool false)] [] hf27 (by kernel_rfl) trivial fun a30 hf31 => ?_
  refine endL rfl ?_
  refine thenN ?_
  refine condF hf31 (by kernel_rfl) ?_
  refine wp_skip ?_
  refine thenN ?_
  refine wp_seq ?_
  refine wp_seq ?_
  rcases if_split H0 with ⟨c32, H0⟩ | ⟨c32, H0⟩
  · refine reg [.bool true] [0, 19] [(0, .slice A0 x0.length c0), (19, .bool true)] [.is (decide (100 < (x0.length : Int)) = true)] hf31 (by kernel_rfl) ⟨(decide_eq_true c32), trivial⟩ fun a33 hf34 => ?_
    refine thenN ?_
    refine condT hf34 (by kernel_rfl) ?_
    refine wp_seq ?_
    refine reg [] [2] [(2, .bool true)] [] hf34 (by kernel_rfl) trivial fun a35 hf36 => ?_
    have hm37 := hm29.sel [] _ rfl (by kernel_rfl)
    refine thenN ?_
    refine wp_ret ?_
    refine thenR ?_
    have hm38 : Mem [] M w0 [] w25 := hm37.sel [] _ rfl (by kernel_rfl)
    obtain rfl := Option.some.inj H0
    refine ret [] [.bool true] [] hf36 (by kernel_rfl) trivial ?_
    exact ⟨_, rfl, rfl, hm38⟩
  refine reg [.bool false] [0, 19] [(0, .slice A0 x0.length c0), (19, .bool false)] [.is (decide (100 < (x0.length : Int)) = false)] hf31 (by kernel_rfl) ⟨(decide_eq_false c32), trivial⟩ fun a40 hf41 => ?_
  refine thenN ?_
  refine condF hf41 (by kernel_rfl) ?_
  refine wp_skip ?_
  refine thenN ?_
  refine wp_seq ?_
  obtain ⟨r42, hr42, H0⟩ := ob_split H0
  rcases ptr_split H0 with ⟨c43, H0⟩ | ⟨y44, c43, H0⟩
  · refine inReg ?_
    refine listOf hf41 rfl (by kernel_rfl) (aLit (cs := [.int .i64 2]) (E := 3) (len := 1) (d := 21) hf41 (by kernel_rfl) (by kernel_rfl) ?_)
    intro b45 w46 a47 hbb45 hx49 hg50 hf48
    have hm29s := hm29.still hg50
    have hm51 := Mem.lit (kd := (Kd.int .i64)) (xs := ([2] : List Int)) hm29 hbb45 hx49 hg50 (Els.one (kd := (Kd.int .i64)) (us := [.int .i64 2]) (x := 2) rfl)
    refine listOf hf48 rfl (by kernel_rfl) (aLit (cs := [.float .f64 0, .float .f64 0]) (E := 26) (len := 2) (d := 22) hf48 (by kernel_rfl) (by kernel_rfl) ?_)
    intro b52 w53 a54 hbb52 hx56 hg57 hf55
    have hm51s := hm51.still hg57
    have hm58 := Mem.lit (kd := Kd.float) (xs := ([0, 0] : List Nat)) hm51 hbb52 hx56 hg57 (Els.append (Els.one (kd := Kd.float) (us := [.float .f64 0]) (x := 0) ⟨_, rfl, (FR.lit (by kernel_rfl) (by kernel_rfl))⟩) (Els.one (kd := Kd.float) (us := [.float .f64 0]) (x := 0) ⟨_, rfl, (FR.lit (by kernel_rfl) (by kernel_rfl))⟩))
    refine go 1 [] [0, 23] [(0, .slice A0 x0.length c0), (23, .agg #[.slice (some ⟨b45, 0, none⟩) 1 1, .slice (some ⟨b52, 0, none⟩) 2 2])] [] hf55 (by kernel_rfl) trivial fun a59 hf60 => ?_
    refine listOf hf60 rfl (by kernel_rfl) (aLit (cs := [.slice (some ⟨b45, 0, none⟩) 1 1, .slice (some ⟨b52, 0, none⟩) 2 2]) (E := 29) (len := 1) (d := 24) hf60 (by kernel_rfl) (by kernel_rfl) ?_)
    intro b61 w62 a63 hbb61 hx66 hg67 hf65
    have hm58s := hm58.still hg67
    have hm68 := Mem.lit (kd := kTensor) (xs := ([(⟨([2] : List Int), ([0, 0] : List Nat)⟩ : Tensor)] : List Tensor)) hm58 hbb61 hx66 hg67 (Els.one (kd := kTensor) (us := [.slice (some ⟨b45, 0, none⟩) 1 1, .slice (some ⟨b52, 0, none⟩) 2 2]) (x := (⟨([2] : List Int), ([0, 0] : List Nat)⟩ : Tensor)) (kTensor.mk (⟨([2] : List Int), ([0, 0] : List Nat)⟩ : Tensor) ⟨hm58s.cpAt 1 rfl, (hm58s.slAt 1 rfl)⟩ ⟨hm58s.cpAt 0 rfl, (hm58s.slAt 0 rfl)⟩))
    refine listOf hf65 rfl (by kernel_rfl) (aCall (fid := 10) (args := [.slice (some ⟨b61, 0, none⟩) 1 1]) (d := 25) hf65 (by kernel_rfl) (by kernel_rfl) callable10 (shelf_New.calls_n _ _ ([(⟨([2] : List Int), ([0, 0] : List Nat)⟩ : Tensor)] : List Tensor) (some ⟨b61, 0, none⟩) 1 1 rfl (hm68.give [0] [.sl kTensor (some ⟨b61, 0, none⟩) 1 ([(⟨([2] : List Int), ([0, 0] : List Nat)⟩ : Tensor)] : List Tensor)] rfl rfl) r42 c43 hr42) ?_)
    rintro _ w69 a70 ⟨rfl, hk72⟩ hf71
    have hm73 := hm68.still hk72.cum.none
    refine go 5 [] [0, 3, 4] [(0, .slice A0 x0.length c0), (3, .pointer none), (4, .int .i64 r42.2)] [] hf71 (by kernel_rfl) trivial fun a74 hf75 => ?_
    refine endL rfl ?_
    have hm76 := hm73.sel [3] _ rfl (by kernel_rfl)
    refine thenN ?_
    refine wp_seq ?_
    refine wp_seq ?_
    rcases if_split H0 with ⟨c77, H0⟩ | ⟨c77, H0⟩
    · refine reg [.bool false] [0, 3, 33] [(0, .slice A0 x0.length c0), (3, .pointer none), (33, .bool true)] [.is (((r42.2 : Int) != 0) = false)] hf75 (by kernel_rfl) ⟨(neF c77), trivial⟩ fun a78 hf79 => ?_
      refine thenN ?_
      refine condT hf79 (by kernel_rfl) ?_
      refine wp_seq ?_
      refine reg [] [2] [(2, .bool false)] [] hf79 (by kernel_rfl) trivial fun a80 hf81 => ?_
      have hm82 := hm76.sel [] _ rfl (by kernel_rfl)
      refine thenN ?_
      refine wp_ret ?_
      refine thenR ?_
      have hm83 : Mem [] M w0 [] w69 := hm82.sel [] _ rfl (by kernel_rfl)
      obtain rfl := Option.some.inj H0
      refine ret [] [.bool false] [] hf81 (by kernel_rfl) trivial ?_
      exact ⟨_, rfl, rfl, hm83⟩
    refine reg [.bool true] [0, 3, 33] [(0, .slice A0 x0.length c0), (3, .pointer none), (33, .bool true)] [.is (((r42.2 : Int) != 0) = true)] hf75 (by kernel_rfl) ⟨(neT c77), trivial⟩ fun a85 hf86 => ?_
    refine thenN ?_
    refine condT hf86 (by kernel_rfl) ?_
    refine wp_seq ?_
    refine reg [] [2] [(2, .bool false)] [] hf86 (by kernel_rfl) trivial fun a87 hf88 => ?_
    have hm89 := hm76.sel [] _ rfl (by kernel_rfl)
    refine thenN ?_
    refine wp_ret ?_
    refine thenR ?_
    have hm90 : Mem [] M w0 [] w69 := hm89.sel [] _ rfl (by kernel_rfl)
    obtain rfl := Option.some.inj H0
    refine ret [] [.bool false] [] hf88 (by kernel_rfl) trivial ?_
    exact ⟨_, rfl, rfl, hm90⟩
  · refine inReg ?_
    refine listOf hf41 rfl (by kernel_rfl) (aLit (cs := [.int .i64 2]) (E := 3) (len := 1) (d := 21) hf41 (by kernel_rfl) (by kernel_rfl) ?_)
    intro b92 w93 a94 hbb92 hx96 hg97 hf95
    have hm29s := hm29.still hg97
    have hm98 := Mem.lit (kd := (Kd.int .i64)) (xs := ([2] : List Int)) hm29 hbb92 hx96 hg97 (Els.one (kd := (Kd.int .i64)) (us := [.int .i64 2]) (x := 2) rfl)
    refine listOf hf95 rfl (by kernel_rfl) (aLit (cs := [.float .f64 0, .float .f64 0]) (E := 26) (len := 2) (d := 22) hf95 (by kernel_rfl) (by kernel_rfl) ?_)
    intro b99 w100 a101 hbb99 hx103 hg104 hf102
    have hm98s := hm98.still hg104
    have hm105 := Mem.lit (kd := Kd.float) (xs := ([0, 0] : List Nat)) hm98 hbb99 hx103 hg104 (Els.append (Els.one (kd := Kd.float) (us := [.float .f64 0]) (x := 0) ⟨_, rfl, (FR.lit (by kernel_rfl) (by kernel_rfl))⟩) (Els.one (kd := Kd.float) (us := [.float .f64 0]) (x := 0) ⟨_, rfl, (FR.lit (by kernel_rfl) (by kernel_rfl))⟩))
    refine go 1 [] [0, 23] [(0, .slice A0 x0.length c0), (23, .agg #[.slice (some ⟨b92, 0, none⟩) 1 1, .slice (some ⟨b99, 0, none⟩) 2 2])] [] hf102 (by kernel_rfl) trivial fun a106 hf107 => ?_
    refine listOf hf107 rfl (by kernel_rfl) (aLit (cs := [.slice (some ⟨b92, 0, none⟩) 1 1, .slice (some ⟨b99, 0, none⟩) 2 2]) (E := 29) (len := 1) (d := 24) hf107 (by kernel_rfl) (by kernel_rfl) ?_)
    intro b108 w109 a110 hbb108 hx112 hg113 hf111
    have hm105s := hm105.still hg113
    have hm114 := Mem.lit (kd := kTensor) (xs := ([(⟨([2] : List Int), ([0, 0] : List Nat)⟩ : Tensor)] : List Tensor)) hm105 hbb108 hx112 hg113 (Els.one (kd := kTensor) (us := [.slice (some ⟨b92, 0, none⟩) 1 1, .slice (some ⟨b99, 0, none⟩) 2 2]) (x := (⟨([2] : List Int), ([0, 0] : List Nat)⟩ : Tensor)) (kTensor.mk (⟨([2] : List Int), ([0, 0] : List Nat)⟩ : Tensor) ⟨hm105s.cpAt 1 rfl, (hm105s.slAt 1 rfl)⟩ ⟨hm105s.cpAt 0 rfl, (hm105s.slAt 0 rfl)⟩))
    refine listOf hf111 rfl (by kernel_rfl) (aCall (fid := 10) (args := [.slice (some ⟨b108, 0, none⟩) 1 1]) (d := 25) hf111 (by kernel_rfl) (by kernel_rfl) callable10 (shelf_New.calls_s _ _ ([(⟨([2] : List Int), ([0, 0] : List Nat)⟩ : Tensor)] : List Tensor) (some ⟨b108, 0, none⟩) 1 1 rfl (hm114.give [0] [.sl kTensor (some ⟨b108, 0, none⟩) 1 ([(⟨([2] : List Int), ([0, 0] : List Nat)⟩ : Tensor)] : List Tensor)] rfl rfl) r42 y44 c43 hr42) ?_)
    rintro _ w122 a123 ⟨b115, A116, c117, A118, c119, A120, c121, rfl, hk125⟩ hf124
    have hm126 := hm114.back hk125
    refine go 5 [] [0, 3, 4] [(0, .slice A0 x0.length c0), (3, .pointer (some ⟨b115, 0, none⟩)), (4, .int .i64 r42.2)] [] hf124 (by kernel_rfl) trivial fun a127 hf128 => ?_
    refine endL rfl ?_
    have hm129 := hm126.sel [0, 1, 2, 3, 7] _ rfl (by kernel_rfl)
    refine thenN ?_
    refine wp_seq ?_
    refine wp_seq ?_
    rcases if_split H0 with ⟨c130, H0⟩ | ⟨c130, H0⟩
    rotate_left
    · refine reg [.bool true] [0, 3, 33] [(0, .slice A0 x0.length c0), (3, .pointer (some ⟨b115, 0, none⟩)), (33, .bool true)] [.is (((r42.2 : Int) != 0) = true)] hf128 (by kernel_rfl) ⟨(neT c130), trivial⟩ fun a930 hf931 => ?_
      refine thenN ?_
      refine condT hf931 (by kernel_rfl) ?_
      refine wp_seq ?_
      refine reg [] [2] [(2, .bool false)] [] hf931 (by kernel_rfl) trivial fun a932 hf933 => ?_
      have hm934 := hm129.sel [] _ rfl (by kernel_rfl)
      refine thenN ?_
      refine wp_ret ?_
      refine thenR ?_
      have hm935 : Mem [] M w0 [] w122 := hm934.sel [] _ rfl (by kernel_rfl)
      obtain rfl := Option.some.inj H0
      refine ret [] [.bool false] [] hf933 (by kernel_rfl) trivial ?_
      exact ⟨_, rfl, rfl, hm935⟩
    refine reg [.bool false] [0, 3, 33] [(0, .slice A0 x0.length c0), (3, .pointer (some ⟨b115, 0, none⟩)), (33, .bool false)] [.is (((r42.2 : Int) != 0) = false)] hf128 (by kernel_rfl) ⟨(neF c130), trivial⟩ fun a131 hf132 => ?_
    refine thenN ?_
    refine condF hf132 (by kernel_rfl) ?_
    refine wp_skip ?_
    refine thenN ?_
    refine wp_seq ?_
    refine reg [] [0, 3, 5, 6, 7] [(0, .slice A0 x0.length c0), (3, .pointer (some ⟨b115, 0, none⟩)), (5, .int .i64 0), (6, .int .i64 0), (7, .int .i64 0)] [] hf132 (by kernel_rfl) trivial fun a133 hf134 => ?_
    refine thenN ?_
    refine wp_seq ?_
    refine wp_seq ?_
    refine reg [] [0, 3, 5, 6, 7, 8] [(0, .slice A0 x0.length c0), (3, .pointer (some ⟨b115, 0, none⟩)), (5, .int .i64 0), (6, .int .i64 0), (7, .int .i64 0), (8, .int .i64 0)] [] hf134 (by kernel_rfl) trivial fun a135 hf136 => ?_
    refine thenN ?_
    obtain ⟨r150, hr150, H0⟩ := ob_split H0
    refine wpBlock (Mid := fun (a : Act) (w : World) => ∃ yr150 : (Int × Int × Int × Int × (List Tensor) × (List Int) × (List Tensor)), r150 = .go yr150 ∧ ∃ (A144 : Option Addr) (c145 : Nat) (A146 : Option Addr) (c147 : Nat) (A148 : Option Addr) (c149 : Nat), Fr 135 a [(0, .slice A0 x0.length c0), (3, .pointer (some ⟨b115, 0, none⟩)), (5, .int .i64 yr150.1), (6, .int .i64 yr150.2.1), (7, .int .i64 yr150.2.2.1), (8, .int .i64 yr150.2.2.2.1)] ∧ Mem [] M w0 [.bx b115 [.slice A144 yr150.2.2.2.2.1.length c145, .slice A146 yr150.2.2.2.2.2.1.length c147, .slice A148 yr150.2.2.2.2.2.2.length c149] 72, .ow kTensor 29 A144 c145 yr150.2.2.2.2.1, .ow (Kd.int .i64) 3 A146 c147 yr150.2.2.2.2.2.1, .ow kTensor 29 A148 c149 yr150.2.2.2.2.2.2, .sl (Kd.pair (Kd.int .i16) (Kd.int .i16)) A0 c0 x0] w) ?_ ?_
    · refine wpLoop (law19_ShelfSums.l0 x0) r150 (fun (s143 : (Int × Int × Int × Int × (List Tensor) × (List Int) × (List Tensor))) (a : Act) (w : World) => ∃ (A144 : Option Addr) (c145 : Nat) (A146 : Option Addr) (c147 : Nat) (A148 : Option Addr) (c149 : Nat), Fr 135 a [(0, .slice A0 x0.length c0), (3, .pointer (some ⟨b115, 0, none⟩)), (5, .int .i64 s143.1), (6, .int .i64 s143.2.1), (7, .int .i64 s143.2.2.1), (8, .int .i64 s143.2.2.2.1)] ∧ Mem [] M w0 [.bx b115 [.slice A144 s143.2.2.2.2.1.length c145, .slice A146 s143.2.2.2.2.2.1.length c147, .slice A148 s143.2.2.2.2.2.2.length c149] 72, .ow kTensor 29 A144 c145 s143.2.2.2.2.1, .ow (Kd.int .i64) 3 A146 c147 s143.2.2.2.2.2.1, .ow kTensor 29 A148 c149 s143.2.2.2.2.2.2, .sl (Kd.pair (Kd.int .i16) (Kd.int .i16)) A0 c0 x0] w) (0, 0, 0, 0, y44.l, y44.vers, y44.grads) hr150 ⟨A116, c117, A118, c119, A120, c121, hf136.sel (l := [0, 3, 5, 6, 7, 8]) (by kernel_rfl), hm129.sel [0, 1, 2, 3, 4] _ rfl (by kernel_rfl)⟩ ?_
      rintro g151 s143 a152 w153 H1 ⟨A144, c145, A146, c147, A148, c149, hf154, hm155⟩
      unfold law19_ShelfSums.l0 at H1
      refine wp_seq ?_
      refine wp_seq ?_
      rcases ifS_split H1 with ⟨c156, H1⟩ | ⟨c156, H1⟩
      rotate_left
      · refine reg [.bool false] [0, 3, 5, 6, 7, 8, 37] [(0, .slice A0 x0.length c0), (3, .pointer (some ⟨b115, 0, none⟩)), (5, .int .i64 s143.1), (6, .int .i64 s143.2.1), (7, .int .i64 s143.2.2.1), (8, .int .i64 s143.2.2.2.1), (37, .bool false)] [.is (decide (s143.2.2.2.1 < (x0.length : Int)) = false)] hf154 (by kernel_rfl) ⟨(decide_eq_false c156), trivial⟩ fun a919 hf920 => ?_
        refine thenN ?_
        refine condF hf920 (by kernel_rfl) ?_
        refine wp_exit ?_
        refine thenE ?_
        refine thenE ?_
        obtain rfl := Option.some.inj H1
        exact .inl ⟨rfl, (s143.1, s143.2.1, s143.2.2.1, s143.2.2.2.1, s143.2.2.2.2.1, s143.2.2.2.2.2.1, s143.2.2.2.2.2.2), rfl, A144, c145, A146, c147, A148, c149, hf920.sel (l := [0, 3, 5, 6, 7, 8]) (by kernel_rfl), hm155.sel [0, 1, 2, 3, 4] _ rfl (by kernel_rfl)⟩
      refine reg [.bool true] [0, 3, 5, 6, 7, 8, 37] [(0, .slice A0 x0.length c0), (3, .pointer (some ⟨b115, 0, none⟩)), (5, .int .i64 s143.1), (6, .int .i64 s143.2.1), (7, .int .i64 s143.2.2.1), (8, .int .i64 s143.2.2.2.1), (37, .bool true)] [.is (decide (s143.2.2.2.1 < (x0.length : Int)) = true)] hf154 (by kernel_rfl) ⟨(decide_eq_true c156), trivial⟩ fun a157 hf158 => ?_
      refine thenN ?_
      refine condT hf158 (by kernel_rfl) ?_
      refine wp_skip ?_
      refine thenN ?_
      refine wp_seq ?_
      refine wp_block ?_
      refine wp_seq ?_
      obtain ⟨g159, H1⟩ := ifS_guard H1
      refine midReg (fun (a : Act) (w : World) => ∃ (b186 : Nat) (b160 : Nat) (b179 : Nat), Fr 135 a [(0, .slice A0 x0.length c0), (3, .pointer (some ⟨b115, 0, none⟩)), (5, .int .i64 s143.1), (6, .int .i64 s143.2.1), (7, .int .i64 s143.2.2.1), (8, .int .i64 s143.2.2.2.1), (9, .pointer (some ⟨b186, 0, none⟩))] ∧ Mem [] M w0 [.bx b186 [.slice (some ⟨b160, 0, none⟩) 1 1, .slice (some ⟨b179, 0, none⟩) 2 2] 29, .sl Kd.float (some ⟨b179, 0, none⟩) 2 ([(ofInt ((rd x0 s143.2.2.2.1).1)), (ofInt ((rd x0 s143.2.2.2.1).2))] : List Nat), .sl (Kd.int .i64) (some ⟨b160, 0, none⟩) 1 ([2] : List Int), .bx b115 [.slice A144 s143.2.2.2.2.1.length c145, .slice A146 s143.2.2.2.2.2.1.length c147, .slice A148 s143.2.2.2.2.2.2.length c149] 72, .ow kTensor 29 A144 c145 s143.2.2.2.2.1, .ow (Kd.int .i64) 3 A146 c147 s143.2.2.2.2.2.1, .ow kTensor 29 A148 c149 s143.2.2.2.2.2.2, .sl (Kd.pair (Kd.int .i16) (Kd.int .i16)) A0 c0 x0] w) ?_ ?_
      · refine anyG [16] (by kernel_rfl) fun w197 hg198 => ?_
        have hm199 := hm155.still hg198
        refine memoStep (R := fun (a : Act) (w : World) => ∃ (b214 : Nat), Fr 135 a [(0, .slice A0 x0.length c0), (3, .pointer (some ⟨b115, 0, none⟩)), (5, .int .i64 s143.1), (6, .int .i64 s143.2.1), (7, .int .i64 s143.2.2.1), (8, .int .i64 s143.2.2.2.1), (40, .slice (some ⟨b214, 0, none⟩) 1 1), (46, .float .f64 (FloatKind.f64.nearest ((rd x0 s143.2.2.2.1).1))), (52, .float .f64 (FloatKind.f64.nearest ((rd x0 s143.2.2.2.1).2)))] ∧ Mem [] M w0 [.sl (Kd.int .i64) (some ⟨b214, 0, none⟩) 1 ([2] : List Int), .bx b115 [.slice A144 s143.2.2.2.2.1.length c145, .slice A146 s143.2.2.2.2.2.1.length c147, .slice A148 s143.2.2.2.2.2.2.length c149] 72, .ow kTensor 29 A144 c145 s143.2.2.2.2.1, .ow (Kd.int .i64) 3 A146 c147 s143.2.2.2.2.2.1, .ow kTensor 29 A148 c149 s143.2.2.2.2.2.2, .sl (Kd.pair (Kd.int .i16) (Kd.int .i16)) A0 c0 x0] w) #[true, true, true, true, true, true, true, true, true, true, true, true, true, false, false, false, false] 4 ?_ fun L355 => ?_
        · rintro a356 w357 ⟨b214, hf358, hm359⟩
          refine all2 13 15 (by kernel_rfl) ?_ ?_
          · refine opOf hf358 rfl (by kernel_rfl) (aLit (cs := [.float .f64 (FloatKind.f64.nearest ((rd x0 s143.2.2.2.1).1)), .float .f64 (FloatKind.f64.nearest ((rd x0 s143.2.2.2.1).2))]) (E := 26) (len := 2) (d := 53) hf358 (by kernel_rfl) (by kernel_rfl) ?_)
            intro b360 w361 a362 hbb360 hx364 hg365 hf363
            refine ⟨.inr (Gr.still hg365), ?_⟩
            have hm359s := hm359.still hg365
            have hm366 := Mem.lit (kd := Kd.float) (xs := ([(ofInt ((rd x0 s143.2.2.2.1).1)), (ofInt ((rd x0 s143.2.2.2.1).2))] : List Nat)) hm359 hbb360 hx364 hg365 (Els.append (Els.one (kd := Kd.float) (us := [.float .f64 (FloatKind.f64.nearest ((rd x0 s143.2.2.2.1).1))]) (x := (ofInt ((rd x0 s143.2.2.2.1).1))) ⟨_, rfl, (FR.ofInt ((rd x0 s143.2.2.2.1).1))⟩) (Els.one (kd := Kd.float) (us := [.float .f64 (FloatKind.f64.nearest ((rd x0 s143.2.2.2.1).2))]) (x := (ofInt ((rd x0 s143.2.2.2.1).2))) ⟨_, rfl, (FR.ofInt ((rd x0 s143.2.2.2.1).2))⟩))
            refine quiet0 [14] [] [0, 3, 5, 6, 7, 8, 54] #[true, true, true, true, true, true, true, true, true, true, true, true, true, true, true, false, false] [(0, .slice A0 x0.length c0), (3, .pointer (some ⟨b115, 0, none⟩)), (5, .int .i64 s143.1), (6, .int .i64 s143.2.1), (7, .int .i64 s143.2.2.1), (8, .int .i64 s143.2.2.2.1), (54, .agg #[.slice (some ⟨b214, 0, none⟩) 1 1, .slice (some ⟨b360, 0, none⟩) 2 2])] [] 2 rfl (by kernel_rfl) (fun _ _ _ _ _ h => nomatch h.1) hf363 (by kernel_rfl) trivial fun a367 hf368 => ?_
            refine all1 15 (by kernel_rfl) ?_
            refine opOf hf368 rfl (by kernel_rfl) (aNew (cs := [.slice none 0 0, .slice none 0 0]) (T := 29) (d := 9) hf368 (by kernel_rfl) (by kernel_rfl) ?_)
            intro b369 w370 a371 hbb369 hx373 hg374 hf372
            refine ⟨.inr (Gr.still hg374), ?_⟩
            have hm375 := hm366.box hbb369 hx373 hg374
            refine all1 16 (by kernel_rfl) ?_
            refine opOf hf372 rfl (by kernel_rfl) (aStoreB (b := b369) (j := 0) (T := 29) (cs := [.slice none 0 0, .slice none 0 0]) (us := [.slice (some ⟨b214, 0, none⟩) 1 1, .slice (some ⟨b360, 0, none⟩) 2 2]) (cs' := [.slice (some ⟨b214, 0, none⟩) 1 1, .slice (some ⟨b360, 0, none⟩) 2 2]) hf372 (by kernel_rfl) (hm375.bxAt 0 rfl) (by kernel_rfl) (by kernel_rfl) (by kernel_rfl) ?_)
            intro w376 hx377 hg378
            refine ⟨.inl (by decide), ?_⟩
            have hm379 := hm375.setBox 0 _ rfl rfl hx377 hg378
            refine allDone (by kernel_rfl) ⟨rfl, b369, b214, b360, hf372.sel (l := [0, 3, 5, 6, 7, 8, 9]) (by kernel_rfl), hm379.sel [0, 1, 2, 3, 4, 5, 6, 7] _ rfl (by kernel_rfl)⟩
          · refine opOf hf358 rfl (by kernel_rfl) (aNew (cs := [.slice none 0 0, .slice none 0 0]) (T := 29) (d := 9) hf358 (by kernel_rfl) (by kernel_rfl) ?_)
            intro b380 w381 a382 hbb380 hx384 hg385 hf383
            refine ⟨.inr (Gr.still hg385), ?_⟩
            have hm386 := hm359.box hbb380 hx384 hg385
            refine all1 13 (by kernel_rfl) ?_
            refine opOf hf383 rfl (by kernel_rfl) (aLit (cs := [.float .f64 (FloatKind.f64.nearest ((rd x0 s143.2.2.2.1).1)), .float .f64 (FloatKind.f64.nearest ((rd x0 s143.2.2.2.1).2))]) (E := 26) (len := 2) (d := 53) hf383 (by kernel_rfl) (by kernel_rfl) ?_)
            intro b387 w388 a389 hbb387 hx391 hg392 hf390
            refine ⟨.inr (Gr.still hg392), ?_⟩
            have hm386s := hm386.still hg392
            have hm393 := Mem.lit (kd := Kd.float) (xs := ([(ofInt ((rd x0 s143.2.2.2.1).1)), (ofInt ((rd x0 s143.2.2.2.1).2))] : List Nat)) hm386 hbb387 hx391 hg392 (Els.append (Els.one (kd := Kd.float) (us := [.float .f64 (FloatKind.f64.nearest ((rd x0 s143.2.2.2.1).1))]) (x := (ofInt ((rd x0 s143.2.2.2.1).1))) ⟨_, rfl, (FR.ofInt ((rd x0 s143.2.2.2.1).1))⟩) (Els.one (kd := Kd.float) (us := [.float .f64 (FloatKind.f64.nearest ((rd x0 s143.2.2.2.1).2))]) (x := (ofInt ((rd x0 s143.2.2.2.1).2))) ⟨_, rfl, (FR.ofInt ((rd x0 s143.2.2.2.1).2))⟩))
            refine quiet0 [14] [] [0, 3, 5, 6, 7, 8, 9, 54] #[true, true, true, true, true, true, true, true, true, true, true, true, true, true, true, true, false] [(0, .slice A0 x0.length c0), (3, .pointer (some ⟨b115, 0, none⟩)), (5, .int .i64 s143.1), (6, .int .i64 s143.2.1), (7, .int .i64 s143.2.2.1), (8, .int .i64 s143.2.2.2.1), (9, .pointer (some ⟨b380, 0, none⟩)), (54, .agg #[.slice (some ⟨b214, 0, none⟩) 1 1, .slice (some ⟨b387, 0, none⟩) 2 2])] [] 1 rfl (by kernel_rfl) (fun _ _ _ _ _ h => nomatch h.1) hf390 (by kernel_rfl) trivial fun a394 hf395 => ?_
            refine all1 16 (by kernel_rfl) ?_
            refine opOf hf395 rfl (by kernel_rfl) (aStoreB (b := b380) (j := 0) (T := 29) (cs := [.slice none 0 0, .slice none 0 0]) (us := [.slice (some ⟨b214, 0, none⟩) 1 1, .slice (some ⟨b387, 0, none⟩) 2 2]) (cs' := [.slice (some ⟨b214, 0, none⟩) 1 1, .slice (some ⟨b387, 0, none⟩) 2 2]) hf395 (by kernel_rfl) (hm393.bxAt 1 rfl) (by kernel_rfl) (by kernel_rfl) (by kernel_rfl) ?_)
            intro w396 hx397 hg398
            refine ⟨.inl (by decide), ?_⟩
            have hm399 := hm393.setBox 1 _ rfl rfl hx397 hg398
            refine allDone (by kernel_rfl) ⟨rfl, b380, b214, b387, hf395.sel (l := [0, 3, 5, 6, 7, 8, 9]) (by kernel_rfl), hm399.sel [1, 0, 2, 3, 4, 5, 6, 7] _ rfl (by kernel_rfl)⟩
        refine memoStep (R := fun (a : Act) (w : World) => ∃ (b261 : Nat), Fr 135 a [(0, .slice A0 x0.length c0), (3, .pointer (some ⟨b115, 0, none⟩)), (5, .int .i64 s143.1), (6, .int .i64 s143.2.1), (7, .int .i64 s143.2.2.1), (8, .int .i64 s143.2.2.2.1), (46, .float .f64 (FloatKind.f64.nearest ((rd x0 s143.2.2.2.1).1))), (52, .float .f64 (FloatKind.f64.nearest ((rd x0 s143.2.2.2.1).2))), (53, .slice (some ⟨b261, 0, none⟩) 2 2)] ∧ Mem [] M w0 [.sl Kd.float (some ⟨b261, 0, none⟩) 2 ([(ofInt ((rd x0 s143.2.2.2.1).1)), (ofInt ((rd x0 s143.2.2.2.1).2))] : List Nat), .bx b115 [.slice A144 s143.2.2.2.2.1.length c145, .slice A146 s143.2.2.2.2.2.1.length c147, .slice A148 s143.2.2.2.2.2.2.length c149] 72, .ow kTensor 29 A144 c145 s143.2.2.2.2.1, .ow (Kd.int .i64) 3 A146 c147 s143.2.2.2.2.2.1, .ow kTensor 29 A148 c149 s143.2.2.2.2.2.2, .sl (Kd.pair (Kd.int .i16) (Kd.int .i16)) A0 c0 x0] w) #[false, true, true, true, true, true, true, true, true, true, true, true, true, true, false, false, false] 4 ?_ fun L400 => ?_
        · rintro a401 w402 ⟨b261, hf403, hm404⟩
          refine all2 0 15 (by kernel_rfl) ?_ ?_
          · refine opOf hf403 rfl (by kernel_rfl) (aLit (cs := [.int .i64 2]) (E := 3) (len := 1) (d := 40) hf403 (by kernel_rfl) (by kernel_rfl) ?_)
            intro b405 w406 a407 hbb405 hx409 hg410 hf408
            refine ⟨.inr (Gr.still hg410), ?_⟩
            have hm404s := hm404.still hg410
            have hm411 := Mem.lit (kd := (Kd.int .i64)) (xs := ([2] : List Int)) hm404 hbb405 hx409 hg410 (Els.one (kd := (Kd.int .i64)) (us := [.int .i64 2]) (x := 2) rfl)
            refine quiet0 [14] [] [0, 3, 5, 6, 7, 8, 54] #[true, true, true, true, true, true, true, true, true, true, true, true, true, true, true, false, false] [(0, .slice A0 x0.length c0), (3, .pointer (some ⟨b115, 0, none⟩)), (5, .int .i64 s143.1), (6, .int .i64 s143.2.1), (7, .int .i64 s143.2.2.1), (8, .int .i64 s143.2.2.2.1), (54, .agg #[.slice (some ⟨b405, 0, none⟩) 1 1, .slice (some ⟨b261, 0, none⟩) 2 2])] [] 2 rfl (by kernel_rfl) (fun _ _ _ _ _ h => nomatch h.1) hf408 (by kernel_rfl) trivial fun a412 hf413 => ?_
            refine all1 15 (by kernel_rfl) ?_
            refine opOf hf413 rfl (by kernel_rfl) (aNew (cs := [.slice none 0 0, .slice none 0 0]) (T := 29) (d := 9) hf413 (by kernel_rfl) (by kernel_rfl) ?_)
            intro b414 w415 a416 hbb414 hx418 hg419 hf417
            refine ⟨.inr (Gr.still hg419), ?_⟩
            have hm420 := hm411.box hbb414 hx418 hg419
            refine all1 16 (by kernel_rfl) ?_
            refine opOf hf417 rfl (by kernel_rfl) (aStoreB (b := b414) (j := 0) (T := 29) (cs := [.slice none 0 0, .slice none 0 0]) (us := [.slice (some ⟨b405, 0, none⟩) 1 1, .slice (some ⟨b261, 0, none⟩) 2 2]) (cs' := [.slice (some ⟨b405, 0, none⟩) 1 1, .slice (some ⟨b261, 0, none⟩) 2 2]) hf417 (by kernel_rfl) (hm420.bxAt 0 rfl) (by kernel_rfl) (by kernel_rfl) (by kernel_rfl) ?_)
            intro w421 hx422 hg423
            refine ⟨.inl (by decide), ?_⟩
            have hm424 := hm420.setBox 0 _ rfl rfl hx422 hg423
            refine allDone (by kernel_rfl) ⟨rfl, b414, b405, b261, hf417.sel (l := [0, 3, 5, 6, 7, 8, 9]) (by kernel_rfl), hm424.sel [0, 2, 1, 3, 4, 5, 6, 7] _ rfl (by kernel_rfl)⟩
          · refine opOf hf403 rfl (by kernel_rfl) (aNew (cs := [.slice none 0 0, .slice none 0 0]) (T := 29) (d := 9) hf403 (by kernel_rfl) (by kernel_rfl) ?_)
            intro b425 w426 a427 hbb425 hx429 hg430 hf428
            refine ⟨.inr (Gr.still hg430), ?_⟩
            have hm431 := hm404.box hbb425 hx429 hg430
            refine all1 0 (by kernel_rfl) ?_
            refine opOf hf428 rfl (by kernel_rfl) (aLit (cs := [.int .i64 2]) (E := 3) (len := 1) (d := 40) hf428 (by kernel_rfl) (by kernel_rfl) ?_)
            intro b432 w433 a434 hbb432 hx436 hg437 hf435
            refine ⟨.inr (Gr.still hg437), ?_⟩
            have hm431s := hm431.still hg437
            have hm438 := Mem.lit (kd := (Kd.int .i64)) (xs := ([2] : List Int)) hm431 hbb432 hx436 hg437 (Els.one (kd := (Kd.int .i64)) (us := [.int .i64 2]) (x := 2) rfl)
            refine quiet0 [14] [] [0, 3, 5, 6, 7, 8, 9, 54] #[true, true, true, true, true, true, true, true, true, true, true, true, true, true, true, true, false] [(0, .slice A0 x0.length c0), (3, .pointer (some ⟨b115, 0, none⟩)), (5, .int .i64 s143.1), (6, .int .i64 s143.2.1), (7, .int .i64 s143.2.2.1), (8, .int .i64 s143.2.2.2.1), (9, .pointer (some ⟨b425, 0, none⟩)), (54, .agg #[.slice (some ⟨b432, 0, none⟩) 1 1, .slice (some ⟨b261, 0, none⟩) 2 2])] [] 1 rfl (by kernel_rfl) (fun _ _ _ _ _ h => nomatch h.1) hf435 (by kernel_rfl) trivial fun a439 hf440 => ?_
            refine all1 16 (by kernel_rfl) ?_
            refine opOf hf440 rfl (by kernel_rfl) (aStoreB (b := b425) (j := 0) (T := 29) (cs := [.slice none 0 0, .slice none 0 0]) (us := [.slice (some ⟨b432, 0, none⟩) 1 1, .slice (some ⟨b261, 0, none⟩) 2 2]) (cs' := [.slice (some ⟨b432, 0, none⟩) 1 1, .slice (some ⟨b261, 0, none⟩) 2 2]) hf440 (by kernel_rfl) (hm438.bxAt 1 rfl) (by kernel_rfl) (by kernel_rfl) (by kernel_rfl) ?_)
            intro w441 hx442 hg443
            refine ⟨.inl (by decide), ?_⟩
            have hm444 := hm438.setBox 1 _ rfl rfl hx442 hg443
            refine allDone (by kernel_rfl) ⟨rfl, b425, b432, b261, hf440.sel (l := [0, 3, 5, 6, 7, 8, 9]) (by kernel_rfl), hm444.sel [1, 2, 0, 3, 4, 5, 6, 7] _ rfl (by kernel_rfl)⟩
        refine memoStep (R := fun (a : Act) (w : World) => ∃ (b308 : Nat), Fr 135 a [(0, .slice A0 x0.length c0), (3, .pointer (some ⟨b115, 0, none⟩)), (5, .int .i64 s143.1), (6, .int .i64 s143.2.1), (7, .int .i64 s143.2.2.1), (8, .int .i64 s143.2.2.2.1), (9, .pointer (some ⟨b308, 0, none⟩)), (46, .float .f64 (FloatKind.f64.nearest ((rd x0 s143.2.2.2.1).1))), (52, .float .f64 (FloatKind.f64.nearest ((rd x0 s143.2.2.2.1).2)))] ∧ Mem [] M w0 [.bx b308 [.slice none 0 0, .slice none 0 0] 29, .bx b115 [.slice A144 s143.2.2.2.2.1.length c145, .slice A146 s143.2.2.2.2.2.1.length c147, .slice A148 s143.2.2.2.2.2.2.length c149] 72, .ow kTensor 29 A144 c145 s143.2.2.2.2.1, .ow (Kd.int .i64) 3 A146 c147 s143.2.2.2.2.2.1, .ow kTensor 29 A148 c149 s143.2.2.2.2.2.2, .sl (Kd.pair (Kd.int .i16) (Kd.int .i16)) A0 c0 x0] w) #[false, true, true, true, true, true, true, true, true, true, true, true, true, false, false, true, false] 4 ?_ fun L445 => ?_
        · rintro a446 w447 ⟨b308, hf448, hm449⟩
          refine all2 0 13 (by kernel_rfl) ?_ ?_
          · refine opOf hf448 rfl (by kernel_rfl) (aLit (cs := [.int .i64 2]) (E := 3) (len := 1) (d := 40) hf448 (by kernel_rfl) (by kernel_rfl) ?_)
            intro b450 w451 a452 hbb450 hx454 hg455 hf453
            refine ⟨.inr (Gr.still hg455), ?_⟩
            have hm449s := hm449.still hg455
            have hm456 := Mem.lit (kd := (Kd.int .i64)) (xs := ([2] : List Int)) hm449 hbb450 hx454 hg455 (Els.one (kd := (Kd.int .i64)) (us := [.int .i64 2]) (x := 2) rfl)
            refine all1 13 (by kernel_rfl) ?_
            refine opOf hf453 rfl (by kernel_rfl) (aLit (cs := [.float .f64 (FloatKind.f64.nearest ((rd x0 s143.2.2.2.1).1)), .float .f64 (FloatKind.f64.nearest ((rd x0 s143.2.2.2.1).2))]) (E := 26) (len := 2) (d := 53) hf453 (by kernel_rfl) (by kernel_rfl) ?_)
            intro b457 w458 a459 hbb457 hx461 hg462 hf460
            refine ⟨.inr (Gr.still hg462), ?_⟩
            have hm456s := hm456.still hg462
            have hm463 := Mem.lit (kd := Kd.float) (xs := ([(ofInt ((rd x0 s143.2.2.2.1).1)), (ofInt ((rd x0 s143.2.2.2.1).2))] : List Nat)) hm456 hbb457 hx461 hg462 (Els.append (Els.one (kd := Kd.float) (us := [.float .f64 (FloatKind.f64.nearest ((rd x0 s143.2.2.2.1).1))]) (x := (ofInt ((rd x0 s143.2.2.2.1).1))) ⟨_, rfl, (FR.ofInt ((rd x0 s143.2.2.2.1).1))⟩) (Els.one (kd := Kd.float) (us := [.float .f64 (FloatKind.f64.nearest ((rd x0 s143.2.2.2.1).2))]) (x := (ofInt ((rd x0 s143.2.2.2.1).2))) ⟨_, rfl, (FR.ofInt ((rd x0 s143.2.2.2.1).2))⟩))
            refine quiet0 [14] [] [0, 3, 5, 6, 7, 8, 9, 54] #[true, true, true, true, true, true, true, true, true, true, true, true, true, true, true, true, false] [(0, .slice A0 x0.length c0), (3, .pointer (some ⟨b115, 0, none⟩)), (5, .int .i64 s143.1), (6, .int .i64 s143.2.1), (7, .int .i64 s143.2.2.1), (8, .int .i64 s143.2.2.2.1), (9, .pointer (some ⟨b308, 0, none⟩)), (54, .agg #[.slice (some ⟨b450, 0, none⟩) 1 1, .slice (some ⟨b457, 0, none⟩) 2 2])] [] 1 rfl (by kernel_rfl) (fun _ _ _ _ _ h => nomatch h.1) hf460 (by kernel_rfl) trivial fun a464 hf465 => ?_
            refine all1 16 (by kernel_rfl) ?_
            refine opOf hf465 rfl (by kernel_rfl) (aStoreB (b := b308) (j := 0) (T := 29) (cs := [.slice none 0 0, .slice none 0 0]) (us := [.slice (some ⟨b450, 0, none⟩) 1 1, .slice (some ⟨b457, 0, none⟩) 2 2]) (cs' := [.slice (some ⟨b450, 0, none⟩) 1 1, .slice (some ⟨b457, 0, none⟩) 2 2]) hf465 (by kernel_rfl) (hm463.bxAt 2 rfl) (by kernel_rfl) (by kernel_rfl) (by kernel_rfl) ?_)
            intro w466 hx467 hg468
            refine ⟨.inl (by decide), ?_⟩
            have hm469 := hm463.setBox 2 _ rfl rfl hx467 hg468
            refine allDone (by kernel_rfl) ⟨rfl, b308, b450, b457, hf465.sel (l := [0, 3, 5, 6, 7, 8, 9]) (by kernel_rfl), hm469.sel [2, 0, 1, 3, 4, 5, 6, 7] _ rfl (by kernel_rfl)⟩
          · refine opOf hf448 rfl (by kernel_rfl) (aLit (cs := [.float .f64 (FloatKind.f64.nearest ((rd x0 s143.2.2.2.1).1)), .float .f64 (FloatKind.f64.nearest ((rd x0 s143.2.2.2.1).2))]) (E := 26) (len := 2) (d := 53) hf448 (by kernel_rfl) (by kernel_rfl) ?_)
            intro b470 w471 a472 hbb470 hx474 hg475 hf473
            refine ⟨.inr (Gr.still hg475), ?_⟩
            have hm449s := hm449.still hg475
            have hm476 := Mem.lit (kd := Kd.float) (xs := ([(ofInt ((rd x0 s143.2.2.2.1).1)), (ofInt ((rd x0 s143.2.2.2.1).2))] : List Nat)) hm449 hbb470 hx474 hg475 (Els.append (Els.one (kd := Kd.float) (us := [.float .f64 (FloatKind.f64.nearest ((rd x0 s143.2.2.2.1).1))]) (x := (ofInt ((rd x0 s143.2.2.2.1).1))) ⟨_, rfl, (FR.ofInt ((rd x0 s143.2.2.2.1).1))⟩) (Els.one (kd := Kd.float) (us := [.float .f64 (FloatKind.f64.nearest ((rd x0 s143.2.2.2.1).2))]) (x := (ofInt ((rd x0 s143.2.2.2.1).2))) ⟨_, rfl, (FR.ofInt ((rd x0 s143.2.2.2.1).2))⟩))
            refine all1 0 (by kernel_rfl) ?_
            refine opOf hf473 rfl (by kernel_rfl) (aLit (cs := [.int .i64 2]) (E := 3) (len := 1) (d := 40) hf473 (by kernel_rfl) (by kernel_rfl) ?_)
            intro b477 w478 a479 hbb477 hx481 hg482 hf480
            refine ⟨.inr (Gr.still hg482), ?_⟩
            have hm476s := hm476.still hg482
            have hm483 := Mem.lit (kd := (Kd.int .i64)) (xs := ([2] : List Int)) hm476 hbb477 hx481 hg482 (Els.one (kd := (Kd.int .i64)) (us := [.int .i64 2]) (x := 2) rfl)
            refine quiet0 [14] [] [0, 3, 5, 6, 7, 8, 9, 54] #[true, true, true, true, true, true, true, true, true, true, true, true, true, true, true, true, false] [(0, .slice A0 x0.length c0), (3, .pointer (some ⟨b115, 0, none⟩)), (5, .int .i64 s143.1), (6, .int .i64 s143.2.1), (7, .int .i64 s143.2.2.1), (8, .int .i64 s143.2.2.2.1), (9, .pointer (some ⟨b308, 0, none⟩)), (54, .agg #[.slice (some ⟨b477, 0, none⟩) 1 1, .slice (some ⟨b470, 0, none⟩) 2 2])] [] 1 rfl (by kernel_rfl) (fun _ _ _ _ _ h => nomatch h.1) hf480 (by kernel_rfl) trivial fun a484 hf485 => ?_
            refine all1 16 (by kernel_rfl) ?_
            refine opOf hf485 rfl (by kernel_rfl) (aStoreB (b := b308) (j := 0) (T := 29) (cs := [.slice none 0 0, .slice none 0 0]) (us := [.slice (some ⟨b477, 0, none⟩) 1 1, .slice (some ⟨b470, 0, none⟩) 2 2]) (cs' := [.slice (some ⟨b477, 0, none⟩) 1 1, .slice (some ⟨b470, 0, none⟩) 2 2]) hf485 (by kernel_rfl) (hm483.bxAt 2 rfl) (by kernel_rfl) (by kernel_rfl) (by kernel_rfl) ?_)
            intro w486 hx487 hg488
            refine ⟨.inl (by decide), ?_⟩
            have hm489 := hm483.setBox 2 _ rfl rfl hx487 hg488
            refine allDone (by kernel_rfl) ⟨rfl, b308, b477, b470, hf485.sel (l := [0, 3, 5, 6, 7, 8, 9]) (by kernel_rfl), hm489.sel [2, 1, 0, 3, 4, 5, 6, 7] _ rfl (by kernel_rfl)⟩
        refine memoStep (R := fun (a : Act) (w : World) => Fr 135 a [(0, .slice A0 x0.length c0), (3, .pointer (some ⟨b115, 0, none⟩)), (5, .int .i64 s143.1), (6, .int .i64 s143.2.1), (7, .int .i64 s143.2.2.1), (8, .int .i64 s143.2.2.2.1), (46, .float .f64 (FloatKind.f64.nearest ((rd x0 s143.2.2.2.1).1))), (52, .float .f64 (FloatKind.f64.nearest ((rd x0 s143.2.2.2.1).2)))] ∧ Mem [] M w0 [.bx b115 [.slice A144 s143.2.2.2.2.1.length c145, .slice A146 s143.2.2.2.2.2.1.length c147, .slice A148 s143.2.2.2.2.2.2.length c149] 72, .ow kTensor 29 A144 c145 s143.2.2.2.2.1, .ow (Kd.int .i64) 3 A146 c147 s143.2.2.2.2.2.1, .ow kTensor 29 A148 c149 s143.2.2.2.2.2.2, .sl (Kd.pair (Kd.int .i16) (Kd.int .i16)) A0 c0 x0] w) #[false, true, true, true, true, true, true, true, true, true, true, true, true, false, false, false, false] 5 ?_ fun L490 => ?_
        · rintro a491 w492 ⟨hf493, hm494⟩
          refine all3 0 13 15 (by kernel_rfl) ?_ ?_ ?_
          · refine opOf hf493 rfl (by kernel_rfl) (aLit (cs := [.int .i64 2]) (E := 3) (len := 1) (d := 40) hf493 (by kernel_rfl) (by kernel_rfl) ?_)
            intro b495 w496 a497 hbb495 hx499 hg500 hf498
            refine ⟨.inr (Gr.still hg500), ?_⟩
            have hm494s := hm494.still hg500
            have hm501 := Mem.lit (kd := (Kd.int .i64)) (xs := ([2] : List Int)) hm494 hbb495 hx499 hg500 (Els.one (kd := (Kd.int .i64)) (us := [.int .i64 2]) (x := 2) rfl)
            exact L355 _ _ ⟨b495, hf498.sel (l := [0, 3, 5, 6, 7, 8, 40, 46, 52]) (by kernel_rfl), hm501.sel [0, 1, 2, 3, 4, 5] _ rfl (by kernel_rfl)⟩
          · refine opOf hf493 rfl (by kernel_rfl) (aLit (cs := [.float .f64 (FloatKind.f64.nearest ((rd x0 s143.2.2.2.1).1)), .float .f64 (FloatKind.f64.nearest ((rd x0 s143.2.2.2.1).2))]) (E := 26) (len := 2) (d := 53) hf493 (by kernel_rfl) (by kernel_rfl) ?_)
            intro b502 w503 a504 hbb502 hx506 hg507 hf505
            refine ⟨.inr (Gr.still hg507), ?_⟩
            have hm494s := hm494.still hg507
            have hm508 := Mem.lit (kd := Kd.float) (xs := ([(ofInt ((rd x0 s143.2.2.2.1).1)), (ofInt ((rd x0 s143.2.2.2.1).2))] : List Nat)) hm494 hbb502 hx506 hg507 (Els.append (Els.one (kd := Kd.float) (us := [.float .f64 (FloatKind.f64.nearest ((rd x0 s143.2.2.2.1).1))]) (x := (ofInt ((rd x0 s143.2.2.2.1).1))) ⟨_, rfl, (FR.ofInt ((rd x0 s143.2.2.2.1).1))⟩) (Els.one (kd := Kd.float) (us := [.float .f64 (FloatKind.f64.nearest ((rd x0 s143.2.2.2.1).2))]) (x := (ofInt ((rd x0 s143.2.2.2.1).2))) ⟨_, rfl, (FR.ofInt ((rd x0 s143.2.2.2.1).2))⟩))
            exact L400 _ _ ⟨b502, hf505.sel (l := [0, 3, 5, 6, 7, 8, 46, 52, 53]) (by kernel_rfl), hm508.sel [0, 1, 2, 3, 4, 5] _ rfl (by kernel_rfl)⟩
          · refine opOf hf493 rfl (by kernel_rfl) (aNew (cs := [.slice none 0 0, .slice none 0 0]) (T := 29) (d := 9) hf493 (by kernel_rfl) (by kernel_rfl) ?_)
            intro b509 w510 a511 hbb509 hx513 hg514 hf512
            refine ⟨.inr (Gr.still hg514), ?_⟩
            have hm515 := hm494.box hbb509 hx513 hg514
            exact L445 _ _ ⟨b509, hf512.sel (l := [0, 3, 5, 6, 7, 8, 9, 46, 52]) (by kernel_rfl), hm515.sel [0, 1, 2, 3, 4, 5] _ rfl (by kernel_rfl)⟩
        have q516 := (hm199.slAt 4 rfl).get s143.2.2.2.1 g159.1 g159.2
        obtain ⟨us517, hr518, hc519⟩ := q516.2
        obtain ⟨_, _, rfl, h520, h521⟩ := hr518
        obtain rfl := h520
        obtain rfl := h521
        have q522 := (hm199.slAt 4 rfl).get s143.2.2.2.1 g159.1 g159.2
        obtain ⟨us523, hr524, hc525⟩ := q522.2
        obtain ⟨_, _, rfl, h526, h527⟩ := hr524
        obtain rfl := h526
        obtain rfl := h527
        refine quiet0 [1, 2, 3, 4, 5, 6, 7, 8, 9, 10, 11, 12] [.int .i16 ((rd x0 s143.2.2.2.1).1), .int .i16 ((rd x0 s143.2.2.2.1).2)] [0, 3, 5, 6, 7, 8, 46, 52] #[false, true, true, true, true, true, true, true, true, true, true, true, true, false, false, false, false] [(0, .slice A0 x0.length c0), (3, .pointer (some ⟨b115, 0, none⟩)), (5, .int .i64 s143.1), (6, .int .i64 s143.2.1), (7, .int .i64 s143.2.2.1), (8, .int .i64 s143.2.2.2.1), (46, .float .f64 (FloatKind.f64.nearest ((rd x0 s143.2.2.2.1).1))), (52, .float .f64 (FloatKind.f64.nearest ((rd x0 s143.2.2.2.1).2)))] [.is (Option.isSome A0 = true), .is (0 ≤ s143.2.2.2.1 ∧ s143.2.2.2.1 < (x0.length : Int)), .is ((0 : Int) ≤ 0 ∧ 0 < (2 : Int)), .cell ((ad A0).add ((s143.2.2.2.1).toNat * 2)) (.int .i16 ((rd x0 s143.2.2.2.1).1)), .is (Option.isSome A0 = true), .is (0 ≤ s143.2.2.2.1 ∧ s143.2.2.2.1 < (x0.length : Int)), .is ((0 : Int) ≤ 1 ∧ 1 < (2 : Int)), .cell (((ad A0).add ((s143.2.2.2.1).toNat * 2)).add 1) (.int .i16 ((rd x0 s143.2.2.2.1).2))] 5 rfl (by kernel_rfl) (fun _ _ _ _ _ h => nomatch h.1) hf158 (by kernel_rfl) ⟨q516.1, g159, (okIs (by decide)), (hc519 0 _ rfl), q522.1, g159, (okIs (by decide)), (hc525 1 _ rfl), trivial⟩ fun a528 hf529 => ?_
        exact L490 _ _ ⟨hf529.sel (l := [0, 3, 5, 6, 7, 8, 46, 52]) (by kernel_rfl), hm199.sel [0, 1, 2, 3, 4] _ rfl (by kernel_rfl)⟩
      rintro a530 w531 ⟨b186, b160, b179, hf532, hm533⟩
      refine thenN ?_
      refine wp_seq ?_
      refine wp_seq ?_
      obtain ⟨r534, hr534, H1⟩ := obS_split H1
      rcases ifS_split H1 with ⟨c535, H1⟩ | ⟨c535, H1⟩
      rotate_left
      · refine inReg ?_
        refine go 2 [.agg #[.slice (some ⟨b160, 0, none⟩) 1 1, .slice (some ⟨b179, 0, none⟩) 2 2]] [0, 3, 5, 6, 7, 8, 9, 55, 56] [(0, .slice A0 x0.length c0), (3, .pointer (some ⟨b115, 0, none⟩)), (5, .int .i64 s143.1), (6, .int .i64 s143.2.1), (7, .int .i64 s143.2.2.1), (8, .int .i64 s143.2.2.2.1), (9, .pointer (some ⟨b186, 0, none⟩)), (55, .pointer (some ⟨b115, 0, none⟩)), (56, .agg #[.slice (some ⟨b160, 0, none⟩) 1 1, .slice (some ⟨b179, 0, none⟩) 2 2])] [.cell ⟨b186, 0, none⟩ (.slice (some ⟨b160, 0, none⟩) 1 1), .cell ⟨b186, 1, none⟩ (.slice (some ⟨b179, 0, none⟩) 2 2)] hf532 (by kernel_rfl) ⟨(hm533.cell 0 rfl rfl), (hm533.cell 0 rfl rfl), trivial⟩ fun a895 hf896 => ?_
        refine listOf hf896 rfl (by kernel_rfl) (aLit (cs := [.slice (some ⟨b160, 0, none⟩) 1 1, .slice (some ⟨b179, 0, none⟩) 2 2]) (E := 29) (len := 1) (d := 57) hf896 (by kernel_rfl) (by kernel_rfl) ?_)
        intro b897 w898 a899 hbb897 hx901 hg902 hf900
        have hm533s := hm533.still hg902
        have hm903 := Mem.lit (kd := kTensor) (xs := ([(⟨([2] : List Int), ([(ofInt ((rd x0 s143.2.2.2.1).1)), (ofInt ((rd x0 s143.2.2.2.1).2))] : List Nat)⟩ : Tensor)] : List Tensor)) hm533 hbb897 hx901 hg902 (Els.one (kd := kTensor) (us := [.slice (some ⟨b160, 0, none⟩) 1 1, .slice (some ⟨b179, 0, none⟩) 2 2]) (x := (⟨([2] : List Int), ([(ofInt ((rd x0 s143.2.2.2.1).1)), (ofInt ((rd x0 s143.2.2.2.1).2))] : List Nat)⟩ : Tensor)) (kTensor.mk (⟨([2] : List Int), ([(ofInt ((rd x0 s143.2.2.2.1).1)), (ofInt ((rd x0 s143.2.2.2.1).2))] : List Nat)⟩ : Tensor) ⟨hm533s.cpAt 2 rfl, (hm533s.slAt 2 rfl)⟩ ⟨hm533s.cpAt 1 rfl, (hm533s.slAt 1 rfl)⟩))
        refine listOf hf900 rfl (by kernel_rfl) (aCall (fid := 11) (args := [.pointer (some ⟨b115, 0, none⟩), .slice (some ⟨b897, 0, none⟩) 1 1]) (d := 58) hf900 (by kernel_rfl) (by kernel_rfl) callable11 (shelf_Shelf_Commit.calls _ _ _ (⟨s143.2.2.2.2.1, s143.2.2.2.2.2.1, s143.2.2.2.2.2.2⟩ : Shelf) b115 A144 s143.2.2.2.2.1.length c145 rfl A146 s143.2.2.2.2.2.1.length c147 rfl A148 s143.2.2.2.2.2.2.length c149 rfl ([(⟨([2] : List Int), ([(ofInt ((rd x0 s143.2.2.2.1).1)), (ofInt ((rd x0 s143.2.2.2.1).2))] : List Nat)⟩ : Tensor)] : List Tensor) (some ⟨b897, 0, none⟩) 1 1 rfl (hm903.giveO [4, 5, 6, 7] [0, 1, 2, 3, 8] [0] [.bx b115 [.slice A144 s143.2.2.2.2.1.length c145, .slice A146 s143.2.2.2.2.2.1.length c147, .slice A148 s143.2.2.2.2.2.2.length c149] 72, .ow kTensor 29 A144 c145 s143.2.2.2.2.1, .ow (Kd.int .i64) 3 A146 c147 s143.2.2.2.2.2.1, .ow kTensor 29 A148 c149 s143.2.2.2.2.2.2] _ [.sl kTensor (some ⟨b897, 0, none⟩) 1 ([(⟨([2] : List Int), ([(ofInt ((rd x0 s143.2.2.2.1).1)), (ofInt ((rd x0 s143.2.2.2.1).2))] : List Nat)⟩ : Tensor)] : List Tensor)] rfl rfl rfl (by kernel_rfl) rfl) r534 hr534) ?_)
        rintro _ w906 a907 ⟨A904, c905, rfl, hk909⟩ hf908
        have hm910 := hm903.backO [4, 5, 6, 7] [0, 1, 2, 3, 8] _ _ rfl rfl (by kernel_rfl) hk909
        refine go 1 [.bool true] [0, 3, 5, 6, 7, 8, 9, 59] [(0, .slice A0 x0.length c0), (3, .pointer (some ⟨b115, 0, none⟩)), (5, .int .i64 s143.1), (6, .int .i64 s143.2.1), (7, .int .i64 s143.2.2.1), (8, .int .i64 s143.2.2.2.1), (9, .pointer (some ⟨b186, 0, none⟩)), (59, .bool true)] [.is (((r534.2 : Int) != 0) = true)] hf908 (by kernel_rfl) ⟨(neT c535), trivial⟩ fun a911 hf912 => ?_
        refine endL rfl ?_
        have hm913 := hm910.sel [0, 1, 2, 3, 5, 6, 7, 8] _ rfl (by kernel_rfl)
        refine thenN ?_
        refine condT hf912 (by kernel_rfl) ?_
        refine wp_seq ?_
        refine reg [] [2] [(2, .bool false)] [] hf912 (by kernel_rfl) trivial fun a914 hf915 => ?_
        have hm916 := hm913.sel [] _ rfl (by kernel_rfl)
        refine thenN ?_
        refine wp_ret ?_
        refine thenR ?_
        refine blkR ?_
        refine thenR ?_
        refine thenR ?_
        refine .inr ⟨rfl, ?_⟩
        refine thenR ?_
        have hm917 : Mem [] M w0 [] w906 := hm916.sel [] _ rfl (by kernel_rfl)
        obtain rfl := Option.some.inj H1
        obtain rfl := Option.some.inj H0
        refine ret [] [.bool false] [] hf915 (by kernel_rfl) trivial ?_
        exact ⟨_, rfl, rfl, hm917⟩
      refine inReg ?_
      refine go 2 [.agg #[.slice (some ⟨b160, 0, none⟩) 1 1, .slice (some ⟨b179, 0, none⟩) 2 2]] [0, 3, 5, 6, 7, 8, 9, 55, 56] [(0, .slice A0 x0.length c0), (3, .pointer (some ⟨b115, 0, none⟩)), (5, .int .i64 s143.1), (6, .int .i64 s143.2.1), (7, .int .i64 s143.2.2.1), (8, .int .i64 s143.2.2.2.1), (9, .pointer (some ⟨b186, 0, none⟩)), (55, .pointer (some ⟨b115, 0, none⟩)), (56, .agg #[.slice (some ⟨b160, 0, none⟩) 1 1, .slice (some ⟨b179, 0, none⟩) 2 2])] [.cell ⟨b186, 0, none⟩ (.slice (some ⟨b160, 0, none⟩) 1 1), .cell ⟨b186, 1, none⟩ (.slice (some ⟨b179, 0, none⟩) 2 2)] hf532 (by kernel_rfl) ⟨(hm533.cell 0 rfl rfl), (hm533.cell 0 rfl rfl), trivial⟩ fun a536 hf537 => ?_
      refine listOf hf537 rfl (by kernel_rfl) (aLit (cs := [.slice (some ⟨b160, 0, none⟩) 1 1, .slice (some ⟨b179, 0, none⟩) 2 2]) (E := 29) (len := 1) (d := 57) hf537 (by kernel_rfl) (by kernel_rfl) ?_)
      intro b538 w539 a540 hbb538 hx542 hg543 hf541
      have hm533s := hm533.still hg543
      have hm544 := Mem.lit (kd := kTensor) (xs := ([(⟨([2] : List Int), ([(ofInt ((rd x0 s143.2.2.2.1).1)), (ofInt ((rd x0 s143.2.2.2.1).2))] : List Nat)⟩ : Tensor)] : List Tensor)) hm533 hbb538 hx542 hg543 (Els.one (kd := kTensor) (us := [.slice (some ⟨b160, 0, none⟩) 1 1, .slice (some ⟨b179, 0, none⟩) 2 2]) (x := (⟨([2] : List Int), ([(ofInt ((rd x0 s143.2.2.2.1).1)), (ofInt ((rd x0 s143.2.2.2.1).2))] : List Nat)⟩ : Tensor)) (kTensor.mk (⟨([2] : List Int), ([(ofInt ((rd x0 s143.2.2.2.1).1)), (ofInt ((rd x0 s143.2.2.2.1).2))] : List Nat)⟩ : Tensor) ⟨hm533s.cpAt 2 rfl, (hm533s.slAt 2 rfl)⟩ ⟨hm533s.cpAt 1 rfl, (hm533s.slAt 1 rfl)⟩))
      refine listOf hf541 rfl (by kernel_rfl) (aCall (fid := 11) (args := [.pointer (some ⟨b115, 0, none⟩), .slice (some ⟨b538, 0, none⟩) 1 1]) (d := 58) hf541 (by kernel_rfl) (by kernel_rfl) callable11 (shelf_Shelf_Commit.calls _ _ _ (⟨s143.2.2.2.2.1, s143.2.2.2.2.2.1, s143.2.2.2.2.2.2⟩ : Shelf) b115 A144 s143.2.2.2.2.1.length c145 rfl A146 s143.2.2.2.2.2.1.length c147 rfl A148 s143.2.2.2.2.2.2.length c149 rfl ([(⟨([2] : List Int), ([(ofInt ((rd x0 s143.2.2.2.1).1)), (ofInt ((rd x0 s143.2.2.2.1).2))] : List Nat)⟩ : Tensor)] : List Tensor) (some ⟨b538, 0, none⟩) 1 1 rfl (hm544.giveO [4, 5, 6, 7] [0, 1, 2, 3, 8] [0] [.bx b115 [.slice A144 s143.2.2.2.2.1.length c145, .slice A146 s143.2.2.2.2.2.1.length c147, .slice A148 s143.2.2.2.2.2.2.length c149] 72, .ow kTensor 29 A144 c145 s143.2.2.2.2.1, .ow (Kd.int .i64) 3 A146 c147 s143.2.2.2.2.2.1, .ow kTensor 29 A148 c149 s143.2.2.2.2.2.2] _ [.sl kTensor (some ⟨b538, 0, none⟩) 1 ([(⟨([2] : List Int), ([(ofInt ((rd x0 s143.2.2.2.1).1)), (ofInt ((rd x0 s143.2.2.2.1).2))] : List Nat)⟩ : Tensor)] : List Tensor)] rfl rfl rfl (by kernel_rfl) rfl) r534 hr534) ?_)
      rintro _ w547 a548 ⟨A545, c546, rfl, hk550⟩ hf549
      have hm551 := hm544.backO [4, 5, 6, 7] [0, 1, 2, 3, 8] _ _ rfl rfl (by kernel_rfl) hk550
      refine go 1 [.bool false] [0, 3, 5, 6, 7, 8, 9, 59] [(0, .slice A0 x0.length c0), (3, .pointer (some ⟨b115, 0, none⟩)), (5, .int .i64 s143.1), (6, .int .i64 s143.2.1), (7, .int .i64 s143.2.2.1), (8, .int .i64 s143.2.2.2.1), (9, .pointer (some ⟨b186, 0, none⟩)), (59, .bool false)] [.is (((r534.2 : Int) != 0) = false)] hf549 (by kernel_rfl) ⟨(neF c535), trivial⟩ fun a552 hf553 => ?_
      refine endL rfl ?_
      have hm554 := hm551.sel [0, 1, 2, 3, 5, 6, 7, 8] _ rfl (by kernel_rfl)
      refine thenN ?_
      refine condF hf553 (by kernel_rfl) ?_
      refine wp_skip ?_
      refine thenN ?_
      refine wp_seq ?_
      have q555 := (hm554.slAt 7 rfl).get s143.2.2.2.1 g159.1 g159.2
      obtain ⟨us556, hr557, hc558⟩ := q555.2
      obtain ⟨_, _, rfl, h559, h560⟩ := hr557
      obtain rfl := h559
      obtain rfl := h560
      have q561 := (hm554.slAt 7 rfl).get s143.2.2.2.1 g159.1 g159.2
      obtain ⟨us562, hr563, hc564⟩ := q561.2
      obtain ⟨_, _, rfl, h565, h566⟩ := hr563
      obtain rfl := h565
      obtain rfl := h566
      refine regQ [.int .i16 ((rd x0 s143.2.2.2.1).1), .int .i16 ((rd x0 s143.2.2.2.1).2)] [0, 3, 5, 6, 7, 8, 9] [(0, .slice A0 x0.length c0), (3, .pointer (some ⟨b115, 0, none⟩)), (5, .int .i64 (w64 (s143.1 + (w64 ((rd x0 s143.2.2.2.1).1))))), (6, .int .i64 (w64 (s143.2.1 + (w64 ((rd x0 s143.2.2.2.1).2))))), (7, .int .i64 s143.2.2.1), (8, .int .i64 s143.2.2.2.1), (9, .pointer (some ⟨b186, 0, none⟩))] [.is (Option.isSome A0 = true), .is (0 ≤ s143.2.2.2.1 ∧ s143.2.2.2.1 < (x0.length : Int)), .is ((0 : Int) ≤ 0 ∧ 0 < (2 : Int)), .cell ((ad A0).add ((s143.2.2.2.1).toNat * 2)) (.int .i16 ((rd x0 s143.2.2.2.1).1)), .is (Option.isSome A0 = true), .is (0 ≤ s143.2.2.2.1 ∧ s143.2.2.2.1 < (x0.length : Int)), .is ((0 : Int) ≤ 1 ∧ 1 < (2 : Int)), .cell (((ad A0).add ((s143.2.2.2.1).toNat * 2)).add 1) (.int .i16 ((rd x0 s143.2.2.2.1).2))] (by kernel_rfl) (by kernel_rfl) hf553 (by kernel_rfl) ⟨q555.1, g159, (okIs (by decide)), (hc558 0 _ rfl), q561.1, g159, (okIs (by decide)), (hc564 1 _ rfl), trivial⟩ fun a567 w569 hf568 hg570 => ?_
      have hm571 := hm554.still hg570
      refine thenN ?_
      refine wp_seq ?_
      refine wp_seq ?_
      rcases ifS_split H1 with ⟨c572, H1⟩ | ⟨c572, H1⟩
      rotate_left
      · have q752 := (hm571.slAt 7 rfl).get s143.2.2.2.1 g159.1 g159.2
        obtain ⟨us753, hr754, hc755⟩ := q752.2
        obtain ⟨_, _, rfl, h756, h757⟩ := hr754
        obtain rfl := h756
        obtain rfl := h757
        refine reg [.int .i16 ((rd x0 s143.2.2.2.1).1), .bool false] [0, 3, 5, 6, 7, 8, 9, 82] [(0, .slice A0 x0.length c0), (3, .pointer (some ⟨b115, 0, none⟩)), (5, .int .i64 (w64 (s143.1 + (w64 ((rd x0 s143.2.2.2.1).1))))), (6, .int .i64 (w64 (s143.2.1 + (w64 ((rd x0 s143.2.2.2.1).2))))), (7, .int .i64 s143.2.2.1), (8, .int .i64 s143.2.2.2.1), (9, .pointer (some ⟨b186, 0, none⟩)), (82, .bool false)] [.is (Option.isSome A0 = true), .is (0 ≤ s143.2.2.2.1 ∧ s143.2.2.2.1 < (x0.length : Int)), .is ((0 : Int) ≤ 0 ∧ 0 < (2 : Int)), .cell ((ad A0).add ((s143.2.2.2.1).toNat * 2)) (.int .i16 ((rd x0 s143.2.2.2.1).1)), .is ((((bits .and .i16 ((rd x0 s143.2.2.2.1).1) 1) : Int) == 0) = false)] hf568 (by kernel_rfl) ⟨q752.1, g159, (okIs (by decide)), (hc755 0 _ rfl), (eqF c572), trivial⟩ fun a758 hf759 => ?_
        refine thenN ?_
        refine condF hf759 (by kernel_rfl) ?_
        refine wp_skip ?_
        refine thenN ?_
        refine wp_seq ?_
        obtain ⟨r760, hr760, H1⟩ := obS_split H1
        refine inReg ?_
        refine go 1 [] [0, 3, 5, 6, 7, 8, 90] [(0, .slice A0 x0.length c0), (3, .pointer (some ⟨b115, 0, none⟩)), (5, .int .i64 (w64 (s143.1 + (w64 ((rd x0 s143.2.2.2.1).1))))), (6, .int .i64 (w64 (s143.2.1 + (w64 ((rd x0 s143.2.2.2.1).2))))), (7, .int .i64 s143.2.2.1), (8, .int .i64 s143.2.2.2.1), (90, .pointer (some ⟨b115, 0, none⟩))] [] hf759 (by kernel_rfl) trivial fun a761 hf762 => ?_
        refine listOf hf762 rfl (by kernel_rfl) (aCall (fid := 13) (args := [.pointer (some ⟨b115, 0, none⟩), .int .i64 0]) (d := 91) hf762 (by kernel_rfl) (by kernel_rfl) callable13 (shelf_Shelf_Grad.calls _ _ _ (⟨s143.2.2.2.2.1, s143.2.2.2.2.2.1, r534.1⟩ : Shelf) b115 A144 s143.2.2.2.2.1.length c145 rfl A146 s143.2.2.2.2.2.1.length c147 rfl A545 r534.1.length c546 rfl 0 (hm571.giveO [0, 1, 2, 3] [4, 5, 6, 7] [] [.bx b115 [.slice A144 s143.2.2.2.2.1.length c145, .slice A146 s143.2.2.2.2.2.1.length c147, .slice A545 r534.1.length c546] 72, .ow kTensor 29 A144 c145 s143.2.2.2.2.1, .ow (Kd.int .i64) 3 A146 c147 s143.2.2.2.2.2.1, .ow kTensor 29 A545 c546 r534.1] _ [] rfl rfl rfl (by kernel_rfl) rfl) r760 hr760) ?_)
        rintro _ w767 a768 ⟨A763, c764, A765, c766, rfl, hk770⟩ hf769
        have hm771 := hm571.backO [0, 1, 2, 3] [4, 5, 6, 7] _ _ rfl rfl (by kernel_rfl) hk770
        have hm772 := hm771.seal 4 _ rfl rfl
        have hm773 := hm772.seal 5 _ rfl rfl
        refine go 3 [] [0, 3, 5, 6, 7, 8, 92, 93] [(0, .slice A0 x0.length c0), (3, .pointer (some ⟨b115, 0, none⟩)), (5, .int .i64 (w64 (s143.1 + (w64 ((rd x0 s143.2.2.2.1).1))))), (6, .int .i64 (w64 (s143.2.1 + (w64 ((rd x0 s143.2.2.2.1).2))))), (7, .int .i64 s143.2.2.1), (8, .int .i64 s143.2.2.2.1), (92, .agg #[.slice A763 r760.1.Shape.length c764, .slice A765 r760.1.Data.length c766]), (93, .int .i64 r760.2)] [] hf769 (by kernel_rfl) trivial fun a774 hf775 => ?_
        refine listOf hf775 rfl (by kernel_rfl) (aNew (cs := [.slice none 0 0, .slice none 0 0]) (T := 29) (d := 10) hf775 (by kernel_rfl) (by kernel_rfl) ?_)
        intro b776 w777 a778 hbb776 hx780 hg781 hf779
        have hm782 := hm773.box hbb776 hx780 hg781
        refine listOf hf779 rfl (by kernel_rfl) (aStoreB (b := b776) (j := 0) (T := 29) (cs := [.slice none 0 0, .slice none 0 0]) (us := [.slice A763 r760.1.Shape.length c764, .slice A765 r760.1.Data.length c766]) (cs' := [.slice A763 r760.1.Shape.length c764, .slice A765 r760.1.Data.length c766]) hf779 (by kernel_rfl) (hm782.bxAt 0 rfl) (by kernel_rfl) (by kernel_rfl) (by kernel_rfl) ?_)
        intro w783 hx784 hg785
        have hm786 := hm782.setBox 0 _ rfl rfl hx784 hg785
        refine go 1 [] [0, 3, 5, 6, 7, 8, 10, 11] [(0, .slice A0 x0.length c0), (3, .pointer (some ⟨b115, 0, none⟩)), (5, .int .i64 (w64 (s143.1 + (w64 ((rd x0 s143.2.2.2.1).1))))), (6, .int .i64 (w64 (s143.2.1 + (w64 ((rd x0 s143.2.2.2.1).2))))), (7, .int .i64 s143.2.2.1), (8, .int .i64 s143.2.2.2.1), (10, .pointer (some ⟨b776, 0, none⟩)), (11, .int .i64 r760.2)] [] hf779 (by kernel_rfl) trivial fun a787 hf788 => ?_
        refine endL rfl ?_
        have hm789 := hm786.sel [0, 1, 2, 3, 4, 5, 6, 10] _ rfl (by kernel_rfl)
        refine thenN ?_
        refine wp_seq ?_
        obtain ⟨r790, hr790, H1⟩ := obS_split H1
        refine inReg ?_
        refine go 1 [] [0, 3, 5, 6, 7, 8, 10, 11, 95] [(0, .slice A0 x0.length c0), (3, .pointer (some ⟨b115, 0, none⟩)), (5, .int .i64 (w64 (s143.1 + (w64 ((rd x0 s143.2.2.2.1).1))))), (6, .int .i64 (w64 (s143.2.1 + (w64 ((rd x0 s143.2.2.2.1).2))))), (7, .int .i64 s143.2.2.1), (8, .int .i64 s143.2.2.2.1), (10, .pointer (some ⟨b776, 0, none⟩)), (11, .int .i64 r760.2), (95, .pointer (some ⟨b115, 0, none⟩))] [] hf788 (by kernel_rfl) trivial fun a791 hf792 => ?_
        refine listOf hf792 rfl (by kernel_rfl) (aCall (fid := 14) (args := [.pointer (some ⟨b115, 0, none⟩), .int .i64 0]) (d := 96) hf792 (by kernel_rfl) (by kernel_rfl) callable14 (shelf_Shelf_Get.calls _ _ _ (⟨s143.2.2.2.2.1, s143.2.2.2.2.2.1, r534.1⟩ : Shelf) b115 A144 s143.2.2.2.2.1.length c145 rfl A146 s143.2.2.2.2.2.1.length c147 rfl A545 r534.1.length c546 rfl 0 (hm789.giveO [1, 2, 3, 4] [0, 5, 6, 7] [] [.bx b115 [.slice A144 s143.2.2.2.2.1.length c145, .slice A146 s143.2.2.2.2.2.1.length c147, .slice A545 r534.1.length c546] 72, .ow kTensor 29 A144 c145 s143.2.2.2.2.1, .ow (Kd.int .i64) 3 A146 c147 s143.2.2.2.2.2.1, .ow kTensor 29 A545 c546 r534.1] _ [] rfl rfl rfl (by kernel_rfl) rfl) r790 hr790) ?_)
        rintro _ w797 a798 ⟨A793, c794, A795, c796, rfl, hk800⟩ hf799
        have hm801 := hm789.backO [1, 2, 3, 4] [0, 5, 6, 7] _ _ rfl rfl (by kernel_rfl) hk800
        have hm802 := hm801.seal 4 _ rfl rfl
        have hm803 := hm802.seal 5 _ rfl rfl
        refine go 4 [] [0, 3, 5, 6, 7, 8, 10, 11, 97, 98, 99] [(0, .slice A0 x0.length c0), (3, .pointer (some ⟨b115, 0, none⟩)), (5, .int .i64 (w64 (s143.1 + (w64 ((rd x0 s143.2.2.2.1).1))))), (6, .int .i64 (w64 (s143.2.1 + (w64 ((rd x0 s143.2.2.2.1).2))))), (7, .int .i64 s143.2.2.1), (8, .int .i64 s143.2.2.2.1), (10, .pointer (some ⟨b776, 0, none⟩)), (11, .int .i64 r760.2), (97, .agg #[.slice A793 r790.1.Shape.length c794, .slice A795 r790.1.Data.length c796]), (98, .int .i64 r790.2.1), (99, .int .i64 r790.2.2)] [] hf799 (by kernel_rfl) trivial fun a804 hf805 => ?_
        refine listOf hf805 rfl (by kernel_rfl) (aNew (cs := [.slice none 0 0, .slice none 0 0]) (T := 29) (d := 12) hf805 (by kernel_rfl) (by kernel_rfl) ?_)
        intro b806 w807 a808 hbb806 hx810 hg811 hf809
        have hm812 := hm803.box hbb806 hx810 hg811
        refine listOf hf809 rfl (by kernel_rfl) (aStoreB (b := b806) (j := 0) (T := 29) (cs := [.slice none 0 0, .slice none 0 0]) (us := [.slice A793 r790.1.Shape.length c794, .slice A795 r790.1.Data.length c796]) (cs' := [.slice A793 r790.1.Shape.length c794, .slice A795 r790.1.Data.length c796]) hf809 (by kernel_rfl) (hm812.bxAt 0 rfl) (by kernel_rfl) (by kernel_rfl) (by kernel_rfl) ?_)
        intro w813 hx814 hg815
        have hm816 := hm812.setBox 0 _ rfl rfl hx814 hg815
        refine go 2 [] [0, 3, 5, 6, 7, 8, 10, 11, 13, 14] [(0, .slice A0 x0.length c0), (3, .pointer (some ⟨b115, 0, none⟩)), (5, .int .i64 (w64 (s143.1 + (w64 ((rd x0 s143.2.2.2.1).1))))), (6, .int .i64 (w64 (s143.2.1 + (w64 ((rd x0 s143.2.2.2.1).2))))), (7, .int .i64 s143.2.2.1), (8, .int .i64 s143.2.2.2.1), (10, .pointer (some ⟨b776, 0, none⟩)), (11, .int .i64 r760.2), (13, .int .i64 r790.2.1), (14, .int .i64 r790.2.2)] [] hf809 (by kernel_rfl) trivial fun a817 hf818 => ?_
        refine endL rfl ?_
        have hm819 := hm816.sel [1, 2, 3, 4, 7, 8, 9, 10] _ rfl (by kernel_rfl)
        refine thenN ?_
        refine wp_seq ?_
        rcases ifS_split H1 with ⟨c820, H1⟩ | ⟨c820, H1⟩
        rotate_left
        · refine reg [.bool true] [0, 3, 5, 6, 7, 8, 134] [(0, .slice A0 x0.length c0), (3, .pointer (some ⟨b115, 0, none⟩)), (5, .int .i64 (w64 (s143.1 + (w64 ((rd x0 s143.2.2.2.1).1))))), (6, .int .i64 (w64 (s143.2.1 + (w64 ((rd x0 s143.2.2.2.1).2))))), (7, .int .i64 s143.2.2.1), (8, .int .i64 s143.2.2.2.1), (134, .bool true)] [.is (((r760.2 : Int) != 0) = true)] hf818 (by kernel_rfl) ⟨(neT c820), trivial⟩ fun a887 hf888 => ?_
          have hm889 := hm819.sel [0, 1, 2, 3, 7] _ rfl (by kernel_rfl)
          refine thenN ?_
          refine condT hf888 (by kernel_rfl) ?_
          refine wp_seq ?_
          refine reg [] [2] [(2, .bool false)] [] hf888 (by kernel_rfl) trivial fun a890 hf891 => ?_
          have hm892 := hm889.sel [] _ rfl (by kernel_rfl)
          refine thenN ?_
          refine wp_ret ?_
          refine blkR ?_
          refine thenR ?_
          refine thenR ?_
          refine .inr ⟨rfl, ?_⟩
          refine thenR ?_
          have hm893 : Mem [] M w0 [] w813 := hm892.sel [] _ rfl (by kernel_rfl)
          obtain rfl := Option.some.inj H1
          obtain rfl := Option.some.inj H0
          refine ret [] [.bool false] [] hf891 (by kernel_rfl) trivial ?_
          exact ⟨_, rfl, rfl, hm893⟩
        rcases ifS_split H1 with ⟨c821, H1⟩ | ⟨c821, H1⟩
        rotate_left
        · refine reg [.bool false, .bool true] [0, 3, 5, 6, 7, 8, 134] [(0, .slice A0 x0.length c0), (3, .pointer (some ⟨b115, 0, none⟩)), (5, .int .i64 (w64 (s143.1 + (w64 ((rd x0 s143.2.2.2.1).1))))), (6, .int .i64 (w64 (s143.2.1 + (w64 ((rd x0 s143.2.2.2.1).2))))), (7, .int .i64 s143.2.2.1), (8, .int .i64 s143.2.2.2.1), (134, .bool true)] [.is (((r760.2 : Int) != 0) = false), .is (((r790.2.2 : Int) != 0) = true)] hf818 (by kernel_rfl) ⟨(neF c820), (neT c821), trivial⟩ fun a879 hf880 => ?_
          have hm881 := hm819.sel [0, 1, 2, 3, 7] _ rfl (by kernel_rfl)
          refine thenN ?_
          refine condT hf880 (by kernel_rfl) ?_
          refine wp_seq ?_
          refine reg [] [2] [(2, .bool false)] [] hf880 (by kernel_rfl) trivial fun a882 hf883 => ?_
          have hm884 := hm881.sel [] _ rfl (by kernel_rfl)
          refine thenN ?_
          refine wp_ret ?_
          refine blkR ?_
          refine thenR ?_
          refine thenR ?_
          refine .inr ⟨rfl, ?_⟩
          refine thenR ?_
          have hm885 : Mem [] M w0 [] w813 := hm884.sel [] _ rfl (by kernel_rfl)
          obtain rfl := Option.some.inj H1
          obtain rfl := Option.some.inj H0
          refine ret [] [.bool false] [] hf883 (by kernel_rfl) trivial ?_
          exact ⟨_, rfl, rfl, hm885⟩
        rcases ifS_split H1 with ⟨c822, H1⟩ | ⟨c822, H1⟩
        rotate_left
        · refine reg [.bool false, .bool false, .slice A765 r760.1.Data.length c766, .bool true] [0, 3, 5, 6, 7, 8, 134] [(0, .slice A0 x0.length c0), (3, .pointer (some ⟨b115, 0, none⟩)), (5, .int .i64 (w64 (s143.1 + (w64 ((rd x0 s143.2.2.2.1).1))))), (6, .int .i64 (w64 (s143.2.1 + (w64 ((rd x0 s143.2.2.2.1).2))))), (7, .int .i64 s143.2.2.1), (8, .int .i64 s143.2.2.2.1), (134, .bool true)] [.is (((r760.2 : Int) != 0) = false), .is (((r790.2.2 : Int) != 0) = false), .cell ⟨b776, 1, none⟩ (.slice A765 r760.1.Data.length c766), .is ((((r760.1.Data.length : Int) : Int) != 2) = true)] hf818 (by kernel_rfl) ⟨(neF c820), (neF c821), (hm819.cell 4 rfl rfl), (neT c822), trivial⟩ fun a871 hf872 => ?_
          have hm873 := hm819.sel [0, 1, 2, 3, 7] _ rfl (by kernel_rfl)
          refine thenN ?_
          refine condT hf872 (by kernel_rfl) ?_
          refine wp_seq ?_
          refine reg [] [2] [(2, .bool false)] [] hf872 (by kernel_rfl) trivial fun a874 hf875 => ?_
          have hm876 := hm873.sel [] _ rfl (by kernel_rfl)
          refine thenN ?_
          refine wp_ret ?_
          refine blkR ?_
          refine thenR ?_
          refine thenR ?_
          refine .inr ⟨rfl, ?_⟩
          refine thenR ?_
          have hm877 : Mem [] M w0 [] w813 := hm876.sel [] _ rfl (by kernel_rfl)
          obtain rfl := Option.some.inj H1
          obtain rfl := Option.some.inj H0
          refine ret [] [.bool false] [] hf875 (by kernel_rfl) trivial ?_
          exact ⟨_, rfl, rfl, hm877⟩
        obtain ⟨g823, H1⟩ := ifS_guard H1
        rcases ifbS_split H1 with ⟨c824, H1⟩ | ⟨c824, H1⟩
        · have q825 := (hm819.slAt 6 rfl).float 0 g823.1 g823.2
          obtain ⟨b826, hb826, kb826⟩ := q825.2
          refine reg [.bool false, .bool false, .slice A765 r760.1.Data.length c766, .bool false, .slice A765 r760.1.Data.length c766, .float .f64 b826, .bool true] [0, 3, 5, 6, 7, 8, 134] [(0, .slice A0 x0.length c0), (3, .pointer (some ⟨b115, 0, none⟩)), (5, .int .i64 (w64 (s143.1 + (w64 ((rd x0 s143.2.2.2.1).1))))), (6, .int .i64 (w64 (s143.2.1 + (w64 ((rd x0 s143.2.2.2.1).2))))), (7, .int .i64 s143.2.2.1), (8, .int .i64 s143.2.2.2.1), (134, .bool true)] [.is (((r760.2 : Int) != 0) = false), .is (((r790.2.2 : Int) != 0) = false), .cell ⟨b776, 1, none⟩ (.slice A765 r760.1.Data.length c766), .is ((((r760.1.Data.length : Int) : Int) != 2) = false), .cell ⟨b776, 1, none⟩ (.slice A765 r760.1.Data.length c766), .is (Option.isSome A765 = true), .is ((0 : Int) ≤ 0 ∧ 0 < (r760.1.Data.length : Int)), .cell ((ad A765).add ((0 : Int).toNat * 1)) (.float .f64 b826), .is ((FloatKind.f64.format.order b826 (FloatKind.f64.nearest (w64 (s143.1 + (w64 ((rd x0 s143.2.2.2.1).1))))) != some .eq) = true)] hf818 (by kernel_rfl) ⟨(neF c820), (neF c821), (hm819.cell 4 rfl rfl), (neF c822), (hm819.cell 4 rfl rfl), q825.1, g823, kb826, (ftNe hb826 (FR.ofInt (w64 (s143.1 + (w64 ((rd x0 s143.2.2.2.1).1))))) c824), trivial⟩ fun a827 hf828 => ?_
          have hm829 := hm819.sel [0, 1, 2, 3, 7] _ rfl (by kernel_rfl)
          refine thenN ?_
          refine condT hf828 (by kernel_rfl) ?_
          refine wp_seq ?_
          refine reg [] [2] [(2, .bool false)] [] hf828 (by kernel_rfl) trivial fun a830 hf831 => ?_
          have hm832 := hm829.sel [] _ rfl (by kernel_rfl)
          refine thenN ?_
          refine wp_ret ?_
          refine blkR ?_
          refine thenR ?_
          refine thenR ?_
          refine .inr ⟨rfl, ?_⟩
          refine thenR ?_
          have hm833 : Mem [] M w0 [] w813 := hm832.sel [] _ rfl (by kernel_rfl)
          obtain rfl := Option.some.inj H1
          obtain rfl := Option.some.inj H0
          refine ret [] [.bool false] [] hf831 (by kernel_rfl) trivial ?_
          exact ⟨_, rfl, rfl, hm833⟩
        obtain ⟨g835, H1⟩ := ifS_guard H1
        rcases ifbS_split H1 with ⟨c836, H1⟩ | ⟨c836, H1⟩
        · have q837 := (hm819.slAt 6 rfl).float 0 g823.1 g823.2
          obtain ⟨b838, hb838, kb838⟩ := q837.2
          have q839 := (hm819.slAt 6 rfl).float 1 g835.1 g835.2
          obtain ⟨b840, hb840, kb840⟩ := q839.2
          refine reg [.bool false, .bool false, .slice A765 r760.1.Data.length c766, .bool false, .slice A765 r760.1.Data.length c766, .float .f64 b838, .bool false, .slice A765 r760.1.Data.length c766, .float .f64 b840, .bool true] [0, 3, 5, 6, 7, 8, 134] [(0, .slice A0 x0.length c0), (3, .pointer (some ⟨b115, 0, none⟩)), (5, .int .i64 (w64 (s143.1 + (w64 ((rd x0 s143.2.2.2.1).1))))), (6, .int .i64 (w64 (s143.2.1 + (w64 ((rd x0 s143.2.2.2.1).2))))), (7, .int .i64 s143.2.2.1), (8, .int .i64 s143.2.2.2.1), (134, .bool true)] [.is (((r760.2 : Int) != 0) = false), .is (((r790.2.2 : Int) != 0) = false), .cell ⟨b776, 1, none⟩ (.slice A765 r760.1.Data.length c766), .is ((((r760.1.Data.length : Int) : Int) != 2) = false), .cell ⟨b776, 1, none⟩ (.slice A765 r760.1.Data.length c766), .is (Option.isSome A765 = true), .is ((0 : Int) ≤ 0 ∧ 0 < (r760.1.Data.length : Int)), .cell ((ad A765).add ((0 : Int).toNat * 1)) (.float .f64 b838), .is ((FloatKind.f64.format.order b838 (FloatKind.f64.nearest (w64 (s143.1 + (w64 ((rd x0 s143.2.2.2.1).1))))) != some .eq) = false), .cell ⟨b776, 1, none⟩ (.slice A765 r760.1.Data.length c766), .is (Option.isSome A765 = true), .is ((0 : Int) ≤ 1 ∧ 1 < (r760.1.Data.length : Int)), .cell ((ad A765).add ((1 : Int).toNat * 1)) (.float .f64 b840), .is ((FloatKind.f64.format.order b840 (FloatKind.f64.nearest (w64 (s143.2.1 + (w64 ((rd x0 s143.2.2.2.1).2))))) != some .eq) = true)] hf818 (by kernel_rfl) ⟨(neF c820), (neF c821), (hm819.cell 4 rfl rfl), (neF c822), (hm819.cell 4 rfl rfl), q837.1, g823, kb838, (ftNe hb838 (FR.ofInt (w64 (s143.1 + (w64 ((rd x0 s143.2.2.2.1).1))))) c824), (hm819.cell 4 rfl rfl), q839.1, g835, kb840, (ftNe hb840 (FR.ofInt (w64 (s143.2.1 + (w64 ((rd x0 s143.2.2.2.1).2))))) c836), trivial⟩ fun a841 hf842 => ?_
          have hm843 := hm819.sel [0, 1, 2, 3, 7] _ rfl (by kernel_rfl)
          refine thenN ?_
          refine condT hf842 (by kernel_rfl) ?_
          refine wp_seq ?_
          refine reg [] [2] [(2, .bool false)] [] hf842 (by kernel_rfl) trivial fun a844 hf845 => ?_
          have hm846 := hm843.sel [] _ rfl (by kernel_rfl)
          refine thenN ?_
          refine wp_ret ?_
          refine blkR ?_
          refine thenR ?_
          refine thenR ?_
          refine .inr ⟨rfl, ?_⟩
          refine thenR ?_
          have hm847 : Mem [] M w0 [] w813 := hm846.sel [] _ rfl (by kernel_rfl)
          obtain rfl := Option.some.inj H1
          obtain rfl := Option.some.inj H0
          refine ret [] [.bool false] [] hf845 (by kernel_rfl) trivial ?_
          exact ⟨_, rfl, rfl, hm847⟩
        rcases ifS_split H1 with ⟨c849, H1⟩ | ⟨c849, H1⟩
        · have q850 := (hm819.slAt 6 rfl).float 0 g823.1 g823.2
          obtain ⟨b851, hb851, kb851⟩ := q850.2
          have q852 := (hm819.slAt 6 rfl).float 1 g835.1 g835.2
          obtain ⟨b853, hb853, kb853⟩ := q852.2
          refine reg [.bool false, .bool false, .slice A765 r760.1.Data.length c766, .bool false, .slice A765 r760.1.Data.length c766, .float .f64 b851, .bool false, .slice A765 r760.1.Data.length c766, .float .f64 b853, .bool false, .bool false] [0, 3, 5, 6, 7, 8, 134] [(0, .slice A0 x0.length c0), (3, .pointer (some ⟨b115, 0, none⟩)), (5, .int .i64 (w64 (s143.1 + (w64 ((rd x0 s143.2.2.2.1).1))))), (6, .int .i64 (w64 (s143.2.1 + (w64 ((rd x0 s143.2.2.2.1).2))))), (7, .int .i64 s143.2.2.1), (8, .int .i64 s143.2.2.2.1), (134, .bool false)] [.is (((r760.2 : Int) != 0) = false), .is (((r790.2.2 : Int) != 0) = false), .cell ⟨b776, 1, none⟩ (.slice A765 r760.1.Data.length c766), .is ((((r760.1.Data.length : Int) : Int) != 2) = false), .cell ⟨b776, 1, none⟩ (.slice A765 r760.1.Data.length c766), .is (Option.isSome A765 = true), .is ((0 : Int) ≤ 0 ∧ 0 < (r760.1.Data.length : Int)), .cell ((ad A765).add ((0 : Int).toNat * 1)) (.float .f64 b851), .is ((FloatKind.f64.format.order b851 (FloatKind.f64.nearest (w64 (s143.1 + (w64 ((rd x0 s143.2.2.2.1).1))))) != some .eq) = false), .cell ⟨b776, 1, none⟩ (.slice A765 r760.1.Data.length c766), .is (Option.isSome A765 = true), .is ((0 : Int) ≤ 1 ∧ 1 < (r760.1.Data.length : Int)), .cell ((ad A765).add ((1 : Int).toNat * 1)) (.float .f64 b853), .is ((FloatKind.f64.format.order b853 (FloatKind.f64.nearest (w64 (s143.2.1 + (w64 ((rd x0 s143.2.2.2.1).2))))) != some .eq) = false), .is (((r790.2.1 : Int) != s143.2.2.1) = false)] hf818 (by kernel_rfl) ⟨(neF c820), (neF c821), (hm819.cell 4 rfl rfl), (neF c822), (hm819.cell 4 rfl rfl), q850.1, g823, kb851, (ftNe hb851 (FR.ofInt (w64 (s143.1 + (w64 ((rd x0 s143.2.2.2.1).1))))) c824), (hm819.cell 4 rfl rfl), q852.1, g835, kb853, (ftNe hb853 (FR.ofInt (w64 (s143.2.1 + (w64 ((rd x0 s143.2.2.2.1).2))))) c836), (neF c849), trivial⟩ fun a854 hf855 => ?_
          have hm856 := hm819.sel [0, 1, 2, 3, 7] _ rfl (by kernel_rfl)
          refine thenN ?_
          refine condF hf855 (by kernel_rfl) ?_
          refine wp_skip ?_
          refine blkN ?_
          refine thenN ?_
          refine reg [] [0, 3, 5, 6, 7, 8] [(0, .slice A0 x0.length c0), (3, .pointer (some ⟨b115, 0, none⟩)), (5, .int .i64 (w64 (s143.1 + (w64 ((rd x0 s143.2.2.2.1).1))))), (6, .int .i64 (w64 (s143.2.1 + (w64 ((rd x0 s143.2.2.2.1).2))))), (7, .int .i64 s143.2.2.1), (8, .int .i64 (w64 (s143.2.2.2.1 + 1)))] [] hf855 (by kernel_rfl) trivial fun a857 hf858 => ?_
          exact ⟨((w64 (s143.1 + (w64 ((rd x0 s143.2.2.2.1).1)))), (w64 (s143.2.1 + (w64 ((rd x0 s143.2.2.2.1).2)))), s143.2.2.1, (w64 (s143.2.2.2.1 + 1)), s143.2.2.2.2.1, s143.2.2.2.2.2.1, r534.1), H1, A144, c145, A146, c147, A545, c546, hf858.sel (l := [0, 3, 5, 6, 7, 8]) (by kernel_rfl), hm856.sel [0, 1, 2, 3, 4] _ rfl (by kernel_rfl)⟩
        have q859 := (hm819.slAt 6 rfl).float 0 g823.1 g823.2
        obtain ⟨b860, hb860, kb860⟩ := q859.2
        have q861 := (hm819.slAt 6 rfl).float 1 g835.1 g835.2
        obtain ⟨b862, hb862, kb862⟩ := q861.2
        refine reg [.bool false, .bool false, .slice A765 r760.1.Data.length c766, .bool false, .slice A765 r760.1.Data.length c766, .float .f64 b860, .bool false, .slice A765 r760.1.Data.length c766, .float .f64 b862, .bool false, .bool true] [0, 3, 5, 6, 7, 8, 134] [(0, .slice A0 x0.length c0), (3, .pointer (some ⟨b115, 0, none⟩)), (5, .int .i64 (w64 (s143.1 + (w64 ((rd x0 s143.2.2.2.1).1))))), (6, .int .i64 (w64 (s143.2.1 + (w64 ((rd x0 s143.2.2.2.1).2))))), (7, .int .i64 s143.2.2.1), (8, .int .i64 s143.2.2.2.1), (134, .bool true)] [.is (((r760.2 : Int) != 0) = false), .is (((r790.2.2 : Int) != 0) = false), .cell ⟨b776, 1, none⟩ (.slice A765 r760.1.Data.length c766), .is ((((r760.1.Data.length : Int) : Int) != 2) = false), .cell ⟨b776, 1, none⟩ (.slice A765 r760.1.Data.length c766), .is (Option.isSome A765 = true), .is ((0 : Int) ≤ 0 ∧ 0 < (r760.1.Data.length : Int)), .cell ((ad A765).add ((0 : Int).toNat * 1)) (.float .f64 b860), .is ((FloatKind.f64.format.order b860 (FloatKind.f64.nearest (w64 (s143.1 + (w64 ((rd x0 s143.2.2.2.1).1))))) != some .eq) = false), .cell ⟨b776, 1, none⟩ (.slice A765 r760.1.Data.length c766), .is (Option.isSome A765 = true), .is ((0 : Int) ≤ 1 ∧ 1 < (r760.1.Data.length : Int)), .cell ((ad A765).add ((1 : Int).toNat * 1)) (.float .f64 b862), .is ((FloatKind.f64.format.order b862 (FloatKind.f64.nearest (w64 (s143.2.1 + (w64 ((rd x0 s143.2.2.2.1).2))))) != some .eq) = false), .is (((r790.2.1 : Int) != s143.2.2.1) = true)] hf818 (by kernel_rfl) ⟨(neF c820), (neF c821), (hm819.cell 4 rfl rfl), (neF c822), (hm819.cell 4 rfl rfl), q859.1, g823, kb860, (ftNe hb860 (FR.ofInt (w64 (s143.1 + (w64 ((rd x0 s143.2.2.2.1).1))))) c824), (hm819.cell 4 rfl rfl), q861.1, g835, kb862, (ftNe hb862 (FR.ofInt (w64 (s143.2.1 + (w64 ((rd x0 s143.2.2.2.1).2))))) c836), (neT c849), trivial⟩ fun a863 hf864 => ?_
        have hm865 := hm819.sel [0, 1, 2, 3, 7] _ rfl (by kernel_rfl)
        refine thenN ?_
        refine condT hf864 (by kernel_rfl) ?_
        refine wp_seq ?_
        refine reg [] [2] [(2, .bool false)] [] hf864 (by kernel_rfl) trivial fun a866 hf867 => ?_
        have hm868 := hm865.sel [] _ rfl (by kernel_rfl)
        refine thenN ?_
        refine wp_ret ?_
        refine blkR ?_
        refine thenR ?_
        refine thenR ?_
        refine .inr ⟨rfl, ?_⟩
        refine thenR ?_
        have hm869 : Mem [] M w0 [] w813 := hm868.sel [] _ rfl (by kernel_rfl)
        obtain rfl := Option.some.inj H1
        obtain rfl := Option.some.inj H0
        refine ret [] [.bool false] [] hf867 (by kernel_rfl) trivial ?_
        exact ⟨_, rfl, rfl, hm869⟩
      have q573 := (hm571.slAt 7 rfl).get s143.2.2.2.1 g159.1 g159.2
      obtain ⟨us574, hr575, hc576⟩ := q573.2
      obtain ⟨_, _, rfl, h577, h578⟩ := hr575
      obtain rfl := h577
      obtain rfl := h578
      refine reg [.int .i16 ((rd x0 s143.2.2.2.1).1), .bool true] [0, 3, 5, 6, 7, 8, 9, 82] [(0, .slice A0 x0.length c0), (3, .pointer (some ⟨b115, 0, none⟩)), (5, .int .i64 (w64 (s143.1 + (w64 ((rd x0 s143.2.2.2.1).1))))), (6, .int .i64 (w64 (s143.2.1 + (w64 ((rd x0 s143.2.2.2.1).2))))), (7, .int .i64 s143.2.2.1), (8, .int .i64 s143.2.2.2.1), (9, .pointer (some ⟨b186, 0, none⟩)), (82, .bool true)] [.is (Option.isSome A0 = true), .is (0 ≤ s143.2.2.2.1 ∧ s143.2.2.2.1 < (x0.length : Int)), .is ((0 : Int) ≤ 0 ∧ 0 < (2 : Int)), .cell ((ad A0).add ((s143.2.2.2.1).toNat * 2)) (.int .i16 ((rd x0 s143.2.2.2.1).1)), .is ((((bits .and .i16 ((rd x0 s143.2.2.2.1).1) 1) : Int) == 0) = true)] hf568 (by kernel_rfl) ⟨q573.1, g159, (okIs (by decide)), (hc576 0 _ rfl), (eqT c572), trivial⟩ fun a579 hf580 => ?_
      refine thenN ?_
      refine condT hf580 (by kernel_rfl) ?_
      refine wp_seq ?_
      refine reg [] [0, 3, 5, 6, 7, 8, 9] [(0, .slice A0 x0.length c0), (3, .pointer (some ⟨b115, 0, none⟩)), (5, .int .i64 (w64 (s143.1 + (w64 ((rd x0 s143.2.2.2.1).1))))), (6, .int .i64 (w64 (s143.2.1 + (w64 ((rd x0 s143.2.2.2.1).2))))), (7, .int .i64 (w64 (s143.2.2.1 + 1))), (8, .int .i64 s143.2.2.2.1), (9, .pointer (some ⟨b186, 0, none⟩))] [] hf580 (by kernel_rfl) trivial fun a581 hf582 => ?_
      refine thenN ?_
      refine wp_seq ?_
      obtain ⟨r583, hr583, H1⟩ := obS_split H1
      rcases ifS_split H1 with ⟨c584, H1⟩ | ⟨c584, H1⟩
      rotate_left
      · refine inReg ?_
        refine go 2 [.agg #[.slice (some ⟨b160, 0, none⟩) 1 1, .slice (some ⟨b179, 0, none⟩) 2 2]] [0, 3, 5, 6, 7, 8, 85, 86] [(0, .slice A0 x0.length c0), (3, .pointer (some ⟨b115, 0, none⟩)), (5, .int .i64 (w64 (s143.1 + (w64 ((rd x0 s143.2.2.2.1).1))))), (6, .int .i64 (w64 (s143.2.1 + (w64 ((rd x0 s143.2.2.2.1).2))))), (7, .int .i64 (w64 (s143.2.2.1 + 1))), (8, .int .i64 s143.2.2.2.1), (85, .pointer (some ⟨b115, 0, none⟩)), (86, .agg #[.slice (some ⟨b160, 0, none⟩) 1 1, .slice (some ⟨b179, 0, none⟩) 2 2])] [.cell ⟨b186, 0, none⟩ (.slice (some ⟨b160, 0, none⟩) 1 1), .cell ⟨b186, 1, none⟩ (.slice (some ⟨b179, 0, none⟩) 2 2)] hf582 (by kernel_rfl) ⟨(hm571.cell 4 rfl rfl), (hm571.cell 4 rfl rfl), trivial⟩ fun a733 hf734 => ?_
        refine listOf hf734 rfl (by kernel_rfl) (aCall (fid := 19) (args := [.pointer (some ⟨b115, 0, none⟩), .int .i64 0, .agg #[.slice (some ⟨b160, 0, none⟩) 1 1, .slice (some ⟨b179, 0, none⟩) 2 2]]) (d := 87) hf734 (by kernel_rfl) (by kernel_rfl) callable19 (shelf_Shelf_Set.calls _ _ _ (⟨s143.2.2.2.2.1, s143.2.2.2.2.2.1, r534.1⟩ : Shelf) b115 A144 s143.2.2.2.2.1.length c145 rfl A146 s143.2.2.2.2.2.1.length c147 rfl A545 r534.1.length c546 rfl 0 (⟨([2] : List Int), ([(ofInt ((rd x0 s143.2.2.2.1).1)), (ofInt ((rd x0 s143.2.2.2.1).2))] : List Nat)⟩ : Tensor) (some ⟨b160, 0, none⟩) 1 1 rfl (some ⟨b179, 0, none⟩) 2 2 rfl (hm571.giveO [0, 1, 2, 3] [4, 5, 6, 7] [6, 5] [.bx b115 [.slice A144 s143.2.2.2.2.1.length c145, .slice A146 s143.2.2.2.2.2.1.length c147, .slice A545 r534.1.length c546] 72, .ow kTensor 29 A144 c145 s143.2.2.2.2.1, .ow (Kd.int .i64) 3 A146 c147 s143.2.2.2.2.2.1, .ow kTensor 29 A545 c546 r534.1] _ [.sl (Kd.int .i64) (some ⟨b160, 0, none⟩) 1 ([2] : List Int), .sl Kd.float (some ⟨b179, 0, none⟩) 2 ([(ofInt ((rd x0 s143.2.2.2.1).1)), (ofInt ((rd x0 s143.2.2.2.1).2))] : List Nat)] rfl rfl rfl (by kernel_rfl) rfl) r583 hr583) ?_)
        rintro _ w739 a740 ⟨A735, c736, A737, c738, rfl, hk742⟩ hf741
        have hm743 := hm571.backO [0, 1, 2, 3] [4, 5, 6, 7] _ _ rfl rfl (by kernel_rfl) hk742
        refine go 1 [.bool true] [0, 3, 5, 6, 7, 8, 88] [(0, .slice A0 x0.length c0), (3, .pointer (some ⟨b115, 0, none⟩)), (5, .int .i64 (w64 (s143.1 + (w64 ((rd x0 s143.2.2.2.1).1))))), (6, .int .i64 (w64 (s143.2.1 + (w64 ((rd x0 s143.2.2.2.1).2))))), (7, .int .i64 (w64 (s143.2.2.1 + 1))), (8, .int .i64 s143.2.2.2.1), (88, .bool true)] [.is (((r583.2.2 : Int) != 0) = true)] hf741 (by kernel_rfl) ⟨(neT c584), trivial⟩ fun a744 hf745 => ?_
        refine endL rfl ?_
        have hm746 := hm743.sel [0, 1, 2, 3, 7] _ rfl (by kernel_rfl)
        refine thenN ?_
        refine condT hf745 (by kernel_rfl) ?_
        refine wp_seq ?_
        refine reg [] [2] [(2, .bool false)] [] hf745 (by kernel_rfl) trivial fun a747 hf748 => ?_
        have hm749 := hm746.sel [] _ rfl (by kernel_rfl)
        refine thenN ?_
        refine wp_ret ?_
        refine thenR ?_
        refine blkR ?_
        refine thenR ?_
        refine thenR ?_
        refine .inr ⟨rfl, ?_⟩
        refine thenR ?_
        have hm750 : Mem [] M w0 [] w739 := hm749.sel [] _ rfl (by kernel_rfl)
        obtain rfl := Option.some.inj H1
        obtain rfl := Option.some.inj H0
        refine ret [] [.bool false] [] hf748 (by kernel_rfl) trivial ?_
        exact ⟨_, rfl, rfl, hm750⟩
      refine inReg ?_
      refine go 2 [.agg #[.slice (some ⟨b160, 0, none⟩) 1 1, .slice (some ⟨b179, 0, none⟩) 2 2]] [0, 3, 5, 6, 7, 8, 85, 86] [(0, .slice A0 x0.length c0), (3, .pointer (some ⟨b115, 0, none⟩)), (5, .int .i64 (w64 (s143.1 + (w64 ((rd x0 s143.2.2.2.1).1))))), (6, .int .i64 (w64 (s143.2.1 + (w64 ((rd x0 s143.2.2.2.1).2))))), (7, .int .i64 (w64 (s143.2.2.1 + 1))), (8, .int .i64 s143.2.2.2.1), (85, .pointer (some ⟨b115, 0, none⟩)), (86, .agg #[.slice (some ⟨b160, 0, none⟩) 1 1, .slice (some ⟨b179, 0, none⟩) 2 2])] [.cell ⟨b186, 0, none⟩ (.slice (some ⟨b160, 0, none⟩) 1 1), .cell ⟨b186, 1, none⟩ (.slice (some ⟨b179, 0, none⟩) 2 2)] hf582 (by kernel_rfl) ⟨(hm571.cell 4 rfl rfl), (hm571.cell 4 rfl rfl), trivial⟩ fun a585 hf586 => ?_
      refine listOf hf586 rfl (by kernel_rfl) (aCall (fid := 19) (args := [.pointer (some ⟨b115, 0, none⟩), .int .i64 0, .agg #[.slice (some ⟨b160, 0, none⟩) 1 1, .slice (some ⟨b179, 0, none⟩) 2 2]]) (d := 87) hf586 (by kernel_rfl) (by kernel_rfl) callable19 (shelf_Shelf_Set.calls _ _ _ (⟨s143.2.2.2.2.1, s143.2.2.2.2.2.1, r534.1⟩ : Shelf) b115 A144 s143.2.2.2.2.1.length c145 rfl A146 s143.2.2.2.2.2.1.length c147 rfl A545 r534.1.length c546 rfl 0 (⟨([2] : List Int), ([(ofInt ((rd x0 s143.2.2.2.1).1)), (ofInt ((rd x0 s143.2.2.2.1).2))] : List Nat)⟩ : Tensor) (some ⟨b160, 0, none⟩) 1 1 rfl (some ⟨b179, 0, none⟩) 2 2 rfl (hm571.giveO [0, 1, 2, 3] [4, 5, 6, 7] [6, 5] [.bx b115 [.slice A144 s143.2.2.2.2.1.length c145, .slice A146 s143.2.2.2.2.2.1.length c147, .slice A545 r534.1.length c546] 72, .ow kTensor 29 A144 c145 s143.2.2.2.2.1, .ow (Kd.int .i64) 3 A146 c147 s143.2.2.2.2.2.1, .ow kTensor 29 A545 c546 r534.1] _ [.sl (Kd.int .i64) (some ⟨b160, 0, none⟩) 1 ([2] : List Int), .sl Kd.float (some ⟨b179, 0, none⟩) 2 ([(ofInt ((rd x0 s143.2.2.2.1).1)), (ofInt ((rd x0 s143.2.2.2.1).2))] : List Nat)] rfl rfl rfl (by kernel_rfl) rfl) r583 hr583) ?_)
      rintro _ w591 a592 ⟨A587, c588, A589, c590, rfl, hk594⟩ hf593
      have hm595 := hm571.backO [0, 1, 2, 3] [4, 5, 6, 7] _ _ rfl rfl (by kernel_rfl) hk594
      refine go 1 [.bool false] [0, 3, 5, 6, 7, 8, 88] [(0, .slice A0 x0.length c0), (3, .pointer (some ⟨b115, 0, none⟩)), (5, .int .i64 (w64 (s143.1 + (w64 ((rd x0 s143.2.2.2.1).1))))), (6, .int .i64 (w64 (s143.2.1 + (w64 ((rd x0 s143.2.2.2.1).2))))), (7, .int .i64 (w64 (s143.2.2.1 + 1))), (8, .int .i64 s143.2.2.2.1), (88, .bool false)] [.is (((r583.2.2 : Int) != 0) = false)] hf593 (by kernel_rfl) ⟨(neF c584), trivial⟩ fun a596 hf597 => ?_
      refine endL rfl ?_
      have hm598 := hm595.sel [0, 1, 2, 3, 7] _ rfl (by kernel_rfl)
      refine thenN ?_
      refine condF hf597 (by kernel_rfl) ?_
      refine wp_skip ?_
      refine thenN ?_
      refine wp_seq ?_
      obtain ⟨r599, hr599, H1⟩ := obS_split H1
      refine inReg ?_
      refine go 1 [] [0, 3, 5, 6, 7, 8, 90] [(0, .slice A0 x0.length c0), (3, .pointer (some ⟨b115, 0, none⟩)), (5, .int .i64 (w64 (s143.1 + (w64 ((rd x0 s143.2.2.2.1).1))))), (6, .int .i64 (w64 (s143.2.1 + (w64 ((rd x0 s143.2.2.2.1).2))))), (7, .int .i64 (w64 (s143.2.2.1 + 1))), (8, .int .i64 s143.2.2.2.1), (90, .pointer (some ⟨b115, 0, none⟩))] [] hf597 (by kernel_rfl) trivial fun a600 hf601 => ?_
      refine listOf hf601 rfl (by kernel_rfl) (aCall (fid := 13) (args := [.pointer (some ⟨b115, 0, none⟩), .int .i64 0]) (d := 91) hf601 (by kernel_rfl) (by kernel_rfl) callable13 (shelf_Shelf_Grad.calls _ _ _ (⟨r583.1, r583.2.1, r534.1⟩ : Shelf) b115 A587 r583.1.length c588 rfl A589 r583.2.1.length c590 rfl A545 r534.1.length c546 rfl 0 (hm598.giveO [0, 1, 2, 3] [4] [] [.bx b115 [.slice A587 r583.1.length c588, .slice A589 r583.2.1.length c590, .slice A545 r534.1.length c546] 72, .ow kTensor 29 A587 c588 r583.1, .ow (Kd.int .i64) 3 A589 c590 r583.2.1, .ow kTensor 29 A545 c546 r534.1] _ [] rfl rfl rfl (by kernel_rfl) rfl) r599 hr599) ?_)
      rintro _ w606 a607 ⟨A602, c603, A604, c605, rfl, hk609⟩ hf608
      have hm610 := hm598.backO [0, 1, 2, 3] [4] _ _ rfl rfl (by kernel_rfl) hk609
      have hm611 := hm610.seal 4 _ rfl rfl
      have hm612 := hm611.seal 5 _ rfl rfl
      refine go 3 [] [0, 3, 5, 6, 7, 8, 92, 93] [(0, .slice A0 x0.length c0), (3, .pointer (some ⟨b115, 0, none⟩)), (5, .int .i64 (w64 (s143.1 + (w64 ((rd x0 s143.2.2.2.1).1))))), (6, .int .i64 (w64 (s143.2.1 + (w64 ((rd x0 s143.2.2.2.1).2))))), (7, .int .i64 (w64 (s143.2.2.1 + 1))), (8, .int .i64 s143.2.2.2.1), (92, .agg #[.slice A602 r599.1.Shape.length c603, .slice A604 r599.1.Data.length c605]), (93, .int .i64 r599.2)] [] hf608 (by kernel_rfl) trivial fun a613 hf614 => ?_
      refine listOf hf614 rfl (by kernel_rfl) (aNew (cs := [.slice none 0 0, .slice none 0 0]) (T := 29) (d := 10) hf614 (by kernel_rfl) (by kernel_rfl) ?_)
      intro b615 w616 a617 hbb615 hx619 hg620 hf618
      have hm621 := hm612.box hbb615 hx619 hg620
      refine listOf hf618 rfl (by kernel_rfl) (aStoreB (b := b615) (j := 0) (T := 29) (cs := [.slice none 0 0, .slice none 0 0]) (us := [.slice A602 r599.1.Shape.length c603, .slice A604 r599.1.Data.length c605]) (cs' := [.slice A602 r599.1.Shape.length c603, .slice A604 r599.1.Data.length c605]) hf618 (by kernel_rfl) (hm621.bxAt 0 rfl) (by kernel_rfl) (by kernel_rfl) (by kernel_rfl) ?_)
      intro w622 hx623 hg624
      have hm625 := hm621.setBox 0 _ rfl rfl hx623 hg624
      refine go 1 [] [0, 3, 5, 6, 7, 8, 10, 11] [(0, .slice A0 x0.length c0), (3, .pointer (some ⟨b115, 0, none⟩)), (5, .int .i64 (w64 (s143.1 + (w64 ((rd x0 s143.2.2.2.1).1))))), (6, .int .i64 (w64 (s143.2.1 + (w64 ((rd x0 s143.2.2.2.1).2))))), (7, .int .i64 (w64 (s143.2.2.1 + 1))), (8, .int .i64 s143.2.2.2.1), (10, .pointer (some ⟨b615, 0, none⟩)), (11, .int .i64 r599.2)] [] hf618 (by kernel_rfl) trivial fun a626 hf627 => ?_
      refine endL rfl ?_
      refine thenN ?_
      refine wp_seq ?_
      obtain ⟨r628, hr628, H1⟩ := obS_split H1
      refine inReg ?_
      refine go 1 [] [0, 3, 5, 6, 7, 8, 10, 11, 95] [(0, .slice A0 x0.length c0), (3, .pointer (some ⟨b115, 0, none⟩)), (5, .int .i64 (w64 (s143.1 + (w64 ((rd x0 s143.2.2.2.1).1))))), (6, .int .i64 (w64 (s143.2.1 + (w64 ((rd x0 s143.2.2.2.1).2))))), (7, .int .i64 (w64 (s143.2.2.1 + 1))), (8, .int .i64 s143.2.2.2.1), (10, .pointer (some ⟨b615, 0, none⟩)), (11, .int .i64 r599.2), (95, .pointer (some ⟨b115, 0, none⟩))] [] hf627 (by kernel_rfl) trivial fun a629 hf630 => ?_
      refine listOf hf630 rfl (by kernel_rfl) (aCall (fid := 14) (args := [.pointer (some ⟨b115, 0, none⟩), .int .i64 0]) (d := 96) hf630 (by kernel_rfl) (by kernel_rfl) callable14 (shelf_Shelf_Get.calls _ _ _ (⟨r583.1, r583.2.1, r534.1⟩ : Shelf) b115 A587 r583.1.length c588 rfl A589 r583.2.1.length c590 rfl A545 r534.1.length c546 rfl 0 (hm625.giveO [1, 2, 3, 4] [0, 5, 6, 7] [] [.bx b115 [.slice A587 r583.1.length c588, .slice A589 r583.2.1.length c590, .slice A545 r534.1.length c546] 72, .ow kTensor 29 A587 c588 r583.1, .ow (Kd.int .i64) 3 A589 c590 r583.2.1, .ow kTensor 29 A545 c546 r534.1] _ [] rfl rfl rfl (by kernel_rfl) rfl) r628 hr628) ?_)
      rintro _ w635 a636 ⟨A631, c632, A633, c634, rfl, hk638⟩ hf637
      have hm639 := hm625.backO [1, 2, 3, 4] [0, 5, 6, 7] _ _ rfl rfl (by kernel_rfl) hk638
      have hm640 := hm639.seal 4 _ rfl rfl
      have hm641 := hm640.seal 5 _ rfl rfl
      refine go 4 [] [0, 3, 5, 6, 7, 8, 10, 11, 97, 98, 99] [(0, .slice A0 x0.length c0), (3, .pointer (some ⟨b115, 0, none⟩)), (5, .int .i64 (w64 (s143.1 + (w64 ((rd x0 s143.2.2.2.1).1))))), (6, .int .i64 (w64 (s143.2.1 + (w64 ((rd x0 s143.2.2.2.1).2))))), (7, .int .i64 (w64 (s143.2.2.1 + 1))), (8, .int .i64 s143.2.2.2.1), (10, .pointer (some ⟨b615, 0, none⟩)), (11, .int .i64 r599.2), (97, .agg #[.slice A631 r628.1.Shape.length c632, .slice A633 r628.1.Data.length c634]), (98, .int .i64 r628.2.1), (99, .int .i64 r628.2.2)] [] hf637 (by kernel_rfl) trivial fun a642 hf643 => ?_
      refine listOf hf643 rfl (by kernel_rfl) (aNew (cs := [.slice none 0 0, .slice none 0 0]) (T := 29) (d := 12) hf643 (by kernel_rfl) (by kernel_rfl) ?_)
      intro b644 w645 a646 hbb644 hx648 hg649 hf647
      have hm650 := hm641.box hbb644 hx648 hg649
      refine listOf hf647 rfl (by kernel_rfl) (aStoreB (b := b644) (j := 0) (T := 29) (cs := [.slice none 0 0, .slice none 0 0]) (us := [.slice A631 r628.1.Shape.length c632, .slice A633 r628.1.Data.length c634]) (cs' := [.slice A631 r628.1.Shape.length c632, .slice A633 r628.1.Data.length c634]) hf647 (by kernel_rfl) (hm650.bxAt 0 rfl) (by kernel_rfl) (by kernel_rfl) (by kernel_rfl) ?_)
      intro w651 hx652 hg653
      have hm654 := hm650.setBox 0 _ rfl rfl hx652 hg653
      refine go 2 [] [0, 3, 5, 6, 7, 8, 10, 11, 13, 14] [(0, .slice A0 x0.length c0), (3, .pointer (some ⟨b115, 0, none⟩)), (5, .int .i64 (w64 (s143.1 + (w64 ((rd x0 s143.2.2.2.1).1))))), (6, .int .i64 (w64 (s143.2.1 + (w64 ((rd x0 s143.2.2.2.1).2))))), (7, .int .i64 (w64 (s143.2.2.1 + 1))), (8, .int .i64 s143.2.2.2.1), (10, .pointer (some ⟨b615, 0, none⟩)), (11, .int .i64 r599.2), (13, .int .i64 r628.2.1), (14, .int .i64 r628.2.2)] [] hf647 (by kernel_rfl) trivial fun a655 hf656 => ?_
      refine endL rfl ?_
      have hm657 := hm654.sel [1, 2, 3, 4, 7, 8, 9, 10] _ rfl (by kernel_rfl)
      refine thenN ?_
      refine wp_seq ?_
      rcases ifS_split H1 with ⟨c658, H1⟩ | ⟨c658, H1⟩
      rotate_left
      · refine reg [.bool true] [0, 3, 5, 6, 7, 8, 134] [(0, .slice A0 x0.length c0), (3, .pointer (some ⟨b115, 0, none⟩)), (5, .int .i64 (w64 (s143.1 + (w64 ((rd x0 s143.2.2.2.1).1))))), (6, .int .i64 (w64 (s143.2.1 + (w64 ((rd x0 s143.2.2.2.1).2))))), (7, .int .i64 (w64 (s143.2.2.1 + 1))), (8, .int .i64 s143.2.2.2.1), (134, .bool true)] [.is (((r599.2 : Int) != 0) = true)] hf656 (by kernel_rfl) ⟨(neT c658), trivial⟩ fun a725 hf726 => ?_
        have hm727 := hm657.sel [0, 1, 2, 3, 7] _ rfl (by kernel_rfl)
        refine thenN ?_
        refine condT hf726 (by kernel_rfl) ?_
        refine wp_seq ?_
        refine reg [] [2] [(2, .bool false)] [] hf726 (by kernel_rfl) trivial fun a728 hf729 => ?_
        have hm730 := hm727.sel [] _ rfl (by kernel_rfl)
        refine thenN ?_
        refine wp_ret ?_
        refine blkR ?_
        refine thenR ?_
        refine thenR ?_
        refine .inr ⟨rfl, ?_⟩
        refine thenR ?_
        have hm731 : Mem [] M w0 [] w651 := hm730.sel [] _ rfl (by kernel_rfl)
        obtain rfl := Option.some.inj H1
        obtain rfl := Option.some.inj H0
        refine ret [] [.bool false] [] hf729 (by kernel_rfl) trivial ?_
        exact ⟨_, rfl, rfl, hm731⟩
      rcases ifS_split H1 with ⟨c659, H1⟩ | ⟨c659, H1⟩
      rotate_left
      · refine reg [.bool false, .bool true] [0, 3, 5, 6, 7, 8, 134] [(0, .slice A0 x0.length c0), (3, .pointer (some ⟨b115, 0, none⟩)), (5, .int .i64 (w64 (s143.1 + (w64 ((rd x0 s143.2.2.2.1).1))))), (6, .int .i64 (w64 (s143.2.1 + (w64 ((rd x0 s143.2.2.2.1).2))))), (7, .int .i64 (w64 (s143.2.2.1 + 1))), (8, .int .i64 s143.2.2.2.1), (134, .bool true)] [.is (((r599.2 : Int) != 0) = false), .is (((r628.2.2 : Int) != 0) = true)] hf656 (by kernel_rfl) ⟨(neF c658), (neT c659), trivial⟩ fun a717 hf718 => ?_
        have hm719 := hm657.sel [0, 1, 2, 3, 7] _ rfl (by kernel_rfl)
        refine thenN ?_
        refine condT hf718 (by kernel_rfl) ?_
        refine wp_seq ?_
        refine reg [] [2] [(2, .bool false)] [] hf718 (by kernel_rfl) trivial fun a720 hf721 => ?_
        have hm722 := hm719.sel [] _ rfl (by kernel_rfl)
        refine thenN ?_
        refine wp_ret ?_
        refine blkR ?_
        refine thenR ?_
        refine thenR ?_
        refine .inr ⟨rfl, ?_⟩
        refine thenR ?_
        have hm723 : Mem [] M w0 [] w651 := hm722.sel [] _ rfl (by kernel_rfl)
        obtain rfl := Option.some.inj H1
        obtain rfl := Option.some.inj H0
        refine ret [] [.bool false] [] hf721 (by kernel_rfl) trivial ?_
        exact ⟨_, rfl, rfl, hm723⟩
      rcases ifS_split H1 with ⟨c660, H1⟩ | ⟨c660, H1⟩
      rotate_left
      · refine reg [.bool false, .bool false, .slice A604 r599.1.Data.length c605, .bool true] [0, 3, 5, 6, 7, 8, 134] [(0, .slice A0 x0.length c0), (3, .pointer (some ⟨b115, 0, none⟩)), (5, .int .i64 (w64 (s143.1 + (w64 ((rd x0 s143.2.2.2.1).1))))), (6, .int .i64 (w64 (s143.2.1 + (w64 ((rd x0 s143.2.2.2.1).2))))), (7, .int .i64 (w64 (s143.2.2.1 + 1))), (8, .int .i64 s143.2.2.2.1), (134, .bool true)] [.is (((r599.2 : Int) != 0) = false), .is (((r628.2.2 : Int) != 0) = false), .cell ⟨b615, 1, none⟩ (.slice A604 r599.1.Data.length c605), .is ((((r599.1.Data.length : Int) : Int) != 2) = true)] hf656 (by kernel_rfl) ⟨(neF c658), (neF c659), (hm657.cell 4 rfl rfl), (neT c660), trivial⟩ fun a709 hf710 => ?_
        have hm711 := hm657.sel [0, 1, 2, 3, 7] _ rfl (by kernel_rfl)
        refine thenN ?_
        refine condT hf710 (by kernel_rfl) ?_
        refine wp_seq ?_
        refine reg [] [2] [(2, .bool false)] [] hf710 (by kernel_rfl) trivial fun a712 hf713 => ?_
        have hm714 := hm711.sel [] _ rfl (by kernel_rfl)
        refine thenN ?_
        refine wp_ret ?_
        refine blkR ?_
        refine thenR ?_
        refine thenR ?_
        refine .inr ⟨rfl, ?_⟩
        refine thenR ?_
        have hm715 : Mem [] M w0 [] w651 := hm714.sel [] _ rfl (by kernel_rfl)
        obtain rfl := Option.some.inj H1
        obtain rfl := Option.some.inj H0
        refine ret [] [.bool false] [] hf713 (by kernel_rfl) trivial ?_
        exact ⟨_, rfl, rfl, hm715⟩
      obtain ⟨g661, H1⟩ := ifS_guard H1
      rcases ifbS_split H1 with ⟨c662, H1⟩ | ⟨c662, H1⟩
      · have q663 := (hm657.slAt 6 rfl).float 0 g661.1 g661.2
        obtain ⟨b664, hb664, kb664⟩ := q663.2
        refine reg [.bool false, .bool false, .slice A604 r599.1.Data.length c605, .bool false, .slice A604 r599.1.Data.length c605, .float .f64 b664, .bool true] [0, 3, 5, 6, 7, 8, 134] [(0, .slice A0 x0.length c0), (3, .pointer (some ⟨b115, 0, none⟩)), (5, .int .i64 (w64 (s143.1 + (w64 ((rd x0 s143.2.2.2.1).1))))), (6, .int .i64 (w64 (s143.2.1 + (w64 ((rd x0 s143.2.2.2.1).2))))), (7, .int .i64 (w64 (s143.2.2.1 + 1))), (8, .int .i64 s143.2.2.2.1), (134, .bool true)] [.is (((r599.2 : Int) != 0) = false), .is (((r628.2.2 : Int) != 0) = false), .cell ⟨b615, 1, none⟩ (.slice A604 r599.1.Data.length c605), .is ((((r599.1.Data.length : Int) : Int) != 2) = false), .cell ⟨b615, 1, none⟩ (.slice A604 r599.1.Data.length c605), .is (Option.isSome A604 = true), .is ((0 : Int) ≤ 0 ∧ 0 < (r599.1.Data.length : Int)), .cell ((ad A604).add ((0 : Int).toNat * 1)) (.float .f64 b664), .is ((FloatKind.f64.format.order b664 (FloatKind.f64.nearest (w64 (s143.1 + (w64 ((rd x0 s143.2.2.2.1).1))))) != some .eq) = true)] hf656 (by kernel_rfl) ⟨(neF c658), (neF c659), (hm657.cell 4 rfl rfl), (neF c660), (hm657.cell 4 rfl rfl), q663.1, g661, kb664, (ftNe hb664 (FR.ofInt (w64 (s143.1 + (w64 ((rd x0 s143.2.2.2.1).1))))) c662), trivial⟩ fun a665 hf666 => ?_
        have hm667 := hm657.sel [0, 1, 2, 3, 7] _ rfl (by kernel_rfl)
        refine thenN ?_
        refine condT hf666 (by kernel_rfl) ?_
        refine wp_seq ?_
        refine reg [] [2] [(2, .bool false)] [] hf666 (by kernel_rfl) trivial fun a668 hf669 => ?_
        have hm670 := hm667.sel [] _ rfl (by kernel_rfl)
        refine thenN ?_
        refine wp_ret ?_
        refine blkR ?_
        refine thenR ?_
        refine thenR ?_
        refine .inr ⟨rfl, ?_⟩
        refine thenR ?_
        have hm671 : Mem [] M w0 [] w651 := hm670.sel [] _ rfl (by kernel_rfl)
        obtain rfl := Option.some.inj H1
        obtain rfl := Option.some.inj H0
        refine ret [] [.bool false] [] hf669 (by kernel_rfl) trivial ?_
        exact ⟨_, rfl, rfl, hm671⟩
      obtain ⟨g673, H1⟩ := ifS_guard H1
      rcases ifbS_split H1 with ⟨c674, H1⟩ | ⟨c674, H1⟩
      · have q675 := (hm657.slAt 6 rfl).float 0 g661.1 g661.2
        obtain ⟨b676, hb676, kb676⟩ := q675.2
        have q677 := (hm657.slAt 6 rfl).float 1 g673.1 g673.2
        obtain ⟨b678, hb678, kb678⟩ := q677.2
        refine reg [.bool false, .bool false, .slice A604 r599.1.Data.length c605, .bool false, .slice A604 r599.1.Data.length c605, .float .f64 b676, .bool false, .slice A604 r599.1.Data.length c605, .float .f64 b678, .bool true] [0, 3, 5, 6, 7, 8, 134] [(0, .slice A0 x0.length c0), (3, .pointer (some ⟨b115, 0, none⟩)), (5, .int .i64 (w64 (s143.1 + (w64 ((rd x0 s143.2.2.2.1).1))))), (6, .int .i64 (w64 (s143.2.1 + (w64 ((rd x0 s143.2.2.2.1).2))))), (7, .int .i64 (w64 (s143.2.2.1 + 1))), (8, .int .i64 s143.2.2.2.1), (134, .bool true)] [.is (((r599.2 : Int) != 0) = false), .is (((r628.2.2 : Int) != 0) = false), .cell ⟨b615, 1, none⟩ (.slice A604 r599.1.Data.length c605), .is ((((r599.1.Data.length : Int) : Int) != 2) = false), .cell ⟨b615, 1, none⟩ (.slice A604 r599.1.Data.length c605), .is (Option.isSome A604 = true), .is ((0 : Int) ≤ 0 ∧ 0 < (r599.1.Data.length : Int)), .cell ((ad A604).add ((0 : Int).toNat * 1)) (.float .f64 b676), .is ((FloatKind.f64.format.order b676 (FloatKind.f64.nearest (w64 (s143.1 + (w64 ((rd x0 s143.2.2.2.1).1))))) != some .eq) = false), .cell ⟨b615, 1, none⟩ (.slice A604 r599.1.Data.length c605), .is (Option.isSome A604 = true), .is ((0 : Int) ≤ 1 ∧ 1 < (r599.1.Data.length : Int)), .cell ((ad A604).add ((1 : Int).toNat * 1)) (.float .f64 b678), .is ((FloatKind.f64.format.order b678 (FloatKind.f64.nearest (w64 (s143.2.1 + (w64 ((rd x0 s143.2.2.2.1).2))))) != some .eq) = true)] hf656 (by kernel_rfl) ⟨(neF c658), (neF c659), (hm657.cell 4 rfl rfl), (neF c660), (hm657.cell 4 rfl rfl), q675.1, g661, kb676, (ftNe hb676 (FR.ofInt (w64 (s143.1 + (w64 ((rd x0 s143.2.2.2.1).1))))) c662), (hm657.cell 4 rfl rfl), q677.1, g673, kb678, (ftNe hb678 (FR.ofInt (w64 (s143.2.1 + (w64 ((rd x0 s143.2.2.2.1).2))))) c674), trivial⟩ fun a679 hf680 => ?_
        have hm681 := hm657.sel [0, 1, 2, 3, 7] _ rfl (by kernel_rfl)
        refine thenN ?_
        refine condT hf680 (by kernel_rfl) ?_
        refine wp_seq ?_
        refine reg [] [2] [(2, .bool false)] [] hf680 (by kernel_rfl) trivial fun a682 hf683 => ?_
        have hm684 := hm681.sel [] _ rfl (by kernel_rfl)
        refine thenN ?_
        refine wp_ret ?_
        refine blkR ?_
        refine thenR ?_
        refine thenR ?_
        refine .inr ⟨rfl, ?_⟩
        refine thenR ?_
        have hm685 : Mem [] M w0 [] w651 := hm684.sel [] _ rfl (by kernel_rfl)
        obtain rfl := Option.some.inj H1
        obtain rfl := Option.some.inj H0
        refine ret [] [.bool false] [] hf683 (by kernel_rfl) trivial ?_
        exact ⟨_, rfl, rfl, hm685⟩
      rcases ifS_split H1 with ⟨c687, H1⟩ | ⟨c687, H1⟩
      · have q688 := (hm657.slAt 6 rfl).float 0 g661.1 g661.2
        obtain ⟨b689, hb689, kb689⟩ := q688.2
        have q690 := (hm657.slAt 6 rfl).float 1 g673.1 g673.2
        obtain ⟨b691, hb691, kb691⟩ := q690.2
        refine reg [.bool false, .bool false, .slice A604 r599.1.Data.length c605, .bool false, .slice A604 r599.1.Data.length c605, .float .f64 b689, .bool false, .slice A604 r599.1.Data.length c605, .float .f64 b691, .bool false, .bool false] [0, 3, 5, 6, 7, 8, 134] [(0, .slice A0 x0.length c0), (3, .pointer (some ⟨b115, 0, none⟩)), (5, .int .i64 (w64 (s143.1 + (w64 ((rd x0 s143.2.2.2.1).1))))), (6, .int .i64 (w64 (s143.2.1 + (w64 ((rd x0 s143.2.2.2.1).2))))), (7, .int .i64 (w64 (s143.2.2.1 + 1))), (8, .int .i64 s143.2.2.2.1), (134, .bool false)] [.is (((r599.2 : Int) != 0) = false), .is (((r628.2.2 : Int) != 0) = false), .cell ⟨b615, 1, none⟩ (.slice A604 r599.1.Data.length c605), .is ((((r599.1.Data.length : Int) : Int) != 2) = false), .cell ⟨b615, 1, none⟩ (.slice A604 r599.1.Data.length c605), .is (Option.isSome A604 = true), .is ((0 : Int) ≤ 0 ∧ 0 < (r599.1.Data.length : Int)), .cell ((ad A604).add ((0 : Int).toNat * 1)) (.float .f64 b689), .is ((FloatKind.f64.format.order b689 (FloatKind.f64.nearest (w64 (s143.1 + (w64 ((rd x0 s143.2.2.2.1).1))))) != some .eq) = false), .cell ⟨b615, 1, none⟩ (.slice A604 r599.1.Data.length c605), .is (Option.isSome A604 = true), .is ((0 : Int) ≤ 1 ∧ 1 < (r599.1.Data.length : Int)), .cell ((ad A604).add ((1 : Int).toNat * 1)) (.float .f64 b691), .is ((FloatKind.f64.format.order b691 (FloatKind.f64.nearest (w64 (s143.2.1 + (w64 ((rd x0 s143.2.2.2.1).2))))) != some .eq) = false), .is (((r628.2.1 : Int) != (w64 (s143.2.2.1 + 1))) = false)] hf656 (by kernel_rfl) ⟨(neF c658), (neF c659), (hm657.cell 4 rfl rfl), (neF c660), (hm657.cell 4 rfl rfl), q688.1, g661, kb689, (ftNe hb689 (FR.ofInt (w64 (s143.1 + (w64 ((rd x0 s143.2.2.2.1).1))))) c662), (hm657.cell 4 rfl rfl), q690.1, g673, kb691, (ftNe hb691 (FR.ofInt (w64 (s143.2.1 + (w64 ((rd x0 s143.2.2.2.1).2))))) c674), (neF c687), trivial⟩ fun a692 hf693 => ?_
        have hm694 := hm657.sel [0, 1, 2, 3, 7] _ rfl (by kernel_rfl)
        refine thenN ?_
        refine condF hf693 (by kernel_rfl) ?_
        refine wp_skip ?_
        refine blkN ?_
        refine thenN ?_
        refine reg [] [0, 3, 5, 6, 7, 8] [(0, .slice A0 x0.length c0), (3, .pointer (some ⟨b115, 0, none⟩)), (5, .int .i64 (w64 (s143.1 + (w64 ((rd x0 s143.2.2.2.1).1))))), (6, .int .i64 (w64 (s143.2.1 + (w64 ((rd x0 s143.2.2.2.1).2))))), (7, .int .i64 (w64 (s143.2.2.1 + 1))), (8, .int .i64 (w64 (s143.2.2.2.1 + 1)))] [] hf693 (by kernel_rfl) trivial fun a695 hf696 => ?_
        exact ⟨((w64 (s143.1 + (w64 ((rd x0 s143.2.2.2.1).1)))), (w64 (s143.2.1 + (w64 ((rd x0 s143.2.2.2.1).2)))), (w64 (s143.2.2.1 + 1)), (w64 (s143.2.2.2.1 + 1)), r583.1, r583.2.1, r534.1), H1, A587, c588, A589, c590, A545, c546, hf696.sel (l := [0, 3, 5, 6, 7, 8]) (by kernel_rfl), hm694.sel [0, 1, 2, 3, 4] _ rfl (by kernel_rfl)⟩
      have q697 := (hm657.slAt 6 rfl).float 0 g661.1 g661.2
      obtain ⟨b698, hb698, kb698⟩ := q697.2
      have q699 := (hm657.slAt 6 rfl).float 1 g673.1 g673.2
      obtain ⟨b700, hb700, kb700⟩ := q699.2
      refine reg [.bool false, .bool false, .slice A604 r599.1.Data.length c605, .bool false, .slice A604 r599.1.Data.length c605, .float .f64 b698, .bool false, .slice A604 r599.1.Data.length c605, .float .f64 b700, .bool false, .bool true] [0, 3, 5, 6, 7, 8, 134] [(0, .slice A0 x0.length c0), (3, .pointer (some ⟨b115, 0, none⟩)), (5, .int .i64 (w64 (s143.1 + (w64 ((rd x0 s143.2.2.2.1).1))))), (6, .int .i64 (w64 (s143.2.1 + (w64 ((rd x0 s143.2.2.2.1).2))))), (7, .int .i64 (w64 (s143.2.2.1 + 1))), (8, .int .i64 s143.2.2.2.1), (134, .bool true)] [.is (((r599.2 : Int) != 0) = false), .is (((r628.2.2 : Int) != 0) = false), .cell ⟨b615, 1, none⟩ (.slice A604 r599.1.Data.length c605), .is ((((r599.1.Data.length : Int) : Int) != 2) = false), .cell ⟨b615, 1, none⟩ (.slice A604 r599.1.Data.length c605), .is (Option.isSome A604 = true), .is ((0 : Int) ≤ 0 ∧ 0 < (r599.1.Data.length : Int)), .cell ((ad A604).add ((0 : Int).toNat * 1)) (.float .f64 b698), .is ((FloatKind.f64.format.order b698 (FloatKind.f64.nearest (w64 (s143.1 + (w64 ((rd x0 s143.2.2.2.1).1))))) != some .eq) = false), .cell ⟨b615, 1, none⟩ (.slice A604 r599.1.Data.length c605), .is (Option.isSome A604 = true), .is ((0 : Int) ≤ 1 ∧ 1 < (r599.1.Data.length : Int)), .cell ((ad A604).add ((1 : Int).toNat * 1)) (.float .f64 b700), .is ((FloatKind.f64.format.order b700 (FloatKind.f64.nearest (w64 (s143.2.1 + (w64 ((rd x0 s143.2.2.2.1).2))))) != some .eq) = false), .is (((r628.2.1 : Int) != (w64 (s143.2.2.1 + 1))) = true)] hf656 (by kernel_rfl) ⟨(neF c658), (neF c659), (hm657.cell 4 rfl rfl), (neF c660), (hm657.cell 4 rfl rfl), q697.1, g661, kb698, (ftNe hb698 (FR.ofInt (w64 (s143.1 + (w64 ((rd x0 s143.2.2.2.1).1))))) c662), (hm657.cell 4 rfl rfl), q699.1, g673, kb700, (ftNe hb700 (FR.ofInt (w64 (s143.2.1 + (w64 ((rd x0 s143.2.2.2.1).2))))) c674), (neT c687), trivial⟩ fun a701 hf702 => ?_
      have hm703 := hm657.sel [0, 1, 2, 3, 7] _ rfl (by kernel_rfl)
      refine thenN ?_
      refine condT hf702 (by kernel_rfl) ?_
      refine wp_seq ?_
      refine reg [] [2] [(2, .bool false)] [] hf702 (by kernel_rfl) trivial fun a704 hf705 => ?_
      have hm706 := hm703.sel [] _ rfl (by kernel_rfl)
      refine thenN ?_
      refine wp_ret ?_
      refine blkR ?_
      refine thenR ?_
      refine thenR ?_
      refine .inr ⟨rfl, ?_⟩
      refine thenR ?_
      have hm707 : Mem [] M w0 [] w651 := hm706.sel [] _ rfl (by kernel_rfl)
      obtain rfl := Option.some.inj H1
      obtain rfl := Option.some.inj H0
      refine ret [] [.bool false] [] hf705 (by kernel_rfl) trivial ?_
      exact ⟨_, rfl, rfl, hm707⟩
    rintro a921 w922 ⟨yr150, rfl, A144, c145, A146, c147, A148, c149, hf923, hm924⟩
    refine thenN ?_
    refine wp_seq ?_
    refine reg [] [2] [(2, .bool true)] [] hf923 (by kernel_rfl) trivial fun a925 hf926 => ?_
    have hm927 := hm924.sel [] _ rfl (by kernel_rfl)
    refine thenN ?_
    refine wp_ret ?_
    have hm928 : Mem [] M w0 [] w922 := hm927.sel [] _ rfl (by kernel_rfl)
    obtain rfl := Option.some.inj H0
    refine ret [] [.bool true] [] hf926 (by kernel_rfl) trivial ?_
    exact ⟨_, rfl, rfl, hm928⟩
end Go.Proofs.Ytolhkamfpfjodaa
