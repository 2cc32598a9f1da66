/- Printed by gen.py. -/
import Derived.Test.YtolhkamfpfjodaaF10
import Derived.Test.YtolhkamfpfjodaaF3
import Derived.Test.YtolhkamfpfjodaaF8
import Derived.Test.YtolhkamfpfjodaaF9
namespace Go.Proofs.Ytolhkamfpfjodaa
open Go Go.RowKit
set_option linter.unusedSimpArgs false
set_option linter.unusedVariables false
set_option linter.unnecessarySimpa false
/-! ### backstitch/backstitchlaw19.ShelfZeros -/
noncomputable def law19_ShelfZeros.l0 (x0 : (List Int)) (s62 : (Int × (List Tensor) × (List Tensor))) : Step (Int × (List Tensor) × (List Tensor)) (Int × (List Tensor) × (List Tensor)) :=
  if s62.1 < (x0.length : Int) then (if s62.2.2.length + 1 ≤ 549755813888 then (if 0 ≤ s62.1 ∧ s62.1 < (x0.length : Int) then (if s62.2.1.length + 1 ≤ 549755813888 then (.next ((w64 (s62.1 + 1)), (s62.2.1 ++ ([(⟨([1] : List Int), ([(ofInt (rd x0 s62.1))] : List Nat)⟩ : Tensor)] : List Tensor)), (s62.2.2 ++ ([(⟨([1] : List Int), ([4607182418800017408] : List Nat)⟩ : Tensor)] : List Tensor))))
  else .bad)
  else .bad)
  else .bad)
  else (.done (s62.1, s62.2.1, s62.2.2))
noncomputable def law19_ShelfZeros.l1 (x0 : (List Int)) (x1 : Int) (y171 : Shelf) (r224 : ((List Tensor) × Int)) (s259 : Int) : Step Int (Out2 Int Bool) :=
  if s259 < (x0.length : Int) then (if 0 ≤ s259 ∧ s259 < (x0.length : Int) then (if s259 = (Int.tmod (w64 (x1)) (x0.length : Int)) then (bindS (shelf_Shelf_Grad.f (⟨y171.l, y171.vers, r224.1⟩ : Shelf) s259) fun r287 =>
  bindS (shelf_Shelf_Get.f (⟨y171.l, y171.vers, r224.1⟩ : Shelf) s259) fun r316 =>
  if r287.2 = 0 then (if r316.2.2 = 0 then (if r316.2.1 = 0 then (if (r287.1.Data.length : Int) = 1 then (if (0 : Int) ≤ 0 ∧ 0 < (r287.1.Data.length : Int) then (if (fne (rd r287.1.Data 0) (ofInt (rd x0 s259))) = true then (.done (.ret false))
  else (.next (w64 (s259 + 1))))
  else .bad)
  else (.done (.ret false)))
  else (.done (.ret false)))
  else (.done (.ret false)))
  else (.done (.ret false)))
  else (bindS (shelf_Shelf_Grad.f (⟨y171.l, y171.vers, r224.1⟩ : Shelf) s259) fun r403 =>
  bindS (shelf_Shelf_Get.f (⟨y171.l, y171.vers, r224.1⟩ : Shelf) s259) fun r432 =>
  if r403.2 = 0 then (if r432.2.2 = 0 then (if r432.2.1 = 0 then (if (r403.1.Data.length : Int) = 1 then (if (0 : Int) ≤ 0 ∧ 0 < (r403.1.Data.length : Int) then (if (fne (rd r403.1.Data 0) (fmul 4611686018427387904 (ofInt (rd x0 s259)))) = true then (.done (.ret false))
  else (.next (w64 (s259 + 1))))
  else .bad)
  else (.done (.ret false)))
  else (.done (.ret false)))
  else (.done (.ret false)))
  else (.done (.ret false))))
  else .bad)
  else (.done (.go s259))
noncomputable def law19_ShelfZeros.f (x0 : (List Int)) (x1 : Int) : Option Bool :=
  (law19_awake.f).bind fun r23 =>
  if r23 = true then (if (x0.length : Int) = 0 then (some true)
  else (if 32 < (x0.length : Int) then (some true)
  else ((loop (law19_ShelfZeros.l0 x0) (0, ([] : (List Tensor)), ([] : (List Tensor)))).bind fun r68 =>
  (shelf_New.f r68.2.2).bind fun r169 =>
  onPtr r169.1 (fun y171 =>
  if r169.2 = 0 then ((shelf_Shelf_Commit.f y171 r68.2.1).bind fun r219 =>
  if r219.2 = 0 then (if (x0.length : Int) ≠ 0 then ((shelf_Shelf_Zero.f (⟨y171.l, y171.vers, r219.1⟩ : Shelf) (Int.tmod (w64 (x1)) (x0.length : Int))).bind fun r222 =>
  if r222.2 = 0 then ((shelf_Shelf_Commit.f (⟨y171.l, y171.vers, r222.1⟩ : Shelf) r68.2.1).bind fun r224 =>
  if r224.2 = 0 then ((loop (law19_ShelfZeros.l1 x0 x1 y171 r224) 0).bind fun r260 =>
  r260.on (fun yr260 =>
  some true) (fun y => some y))
  else (some false))
  else (some false))
  else none)
  else (some false))
  else (some false)) (if r169.2 = 0 then (some false)
  else (some false)))))
  else (some false)
set_option maxRecDepth 100000 in
set_option maxHeartbeats 4000000 in
theorem law19_ShelfZeros.calls (M : List (Option Nat)) (w0 : World) (x0 : (List Int)) (A0 : Option Addr) (n0 c0 : Nat) (e0 : n0 = x0.length) (x1 : Int) (hm0 : Mem [] M w0 [.sl (Kd.int .i16) A0 c0 x0] w0) (r : Bool) (H0 : law19_ShelfZeros.f x0 x1 = some r) :
    Calls Try.prog 3 [.slice A0 n0 c0, .int .u8 x1].toArray w0 (fun x w' => ∃ v, x = .returned v ∧ v = .bool r ∧ Mem [] M w0 [] w') := by
  subst e0
  unfold law19_ShelfZeros.f at H0
  refine enter (n := 144) Try.func3 rfl rfl (by kernel_rfl) fun a0 (hf0 : Fr 144 a0 [(0, .slice A0 x0.length c0), (1, .int .u8 x1)]) => ?_
  refine wp_seq ?_
  refine reg [] [0, 1] [(0, .slice A0 x0.length c0), (1, .int .u8 x1)] [] hf0 (by kernel_rfl) trivial fun a21 hf22 => ?_
  refine thenN ?_
  refine wp_seq ?_
  refine wp_seq ?_
  obtain ⟨r23, hr23, H0⟩ := ob_split H0
  rcases ifb_split H0 with ⟨c24, H0⟩ | ⟨c24, H0⟩
  rotate_left
  · refine inReg ?_
    refine listOf hf22 rfl (by kernel_rfl) (aCall (fid := 9) (args := []) (d := 17) hf22 (by kernel_rfl) (by kernel_rfl) callable9 (law19_awake.calls _ _  (hm0.give [] [] rfl rfl) r23 hr23) ?_)
    rintro _ w617 a618 ⟨rfl, hk620⟩ hf619
    have hm621 := hm0.still hk620.cum.none
    rw [c24] at hf619
    refine go 1 [] [0, 1, 18] [(0, .slice A0 x0.length c0), (1, .int .u8 x1), (18, .bool true)] [] hf619 (by kernel_rfl) trivial fun a622 hf623 => ?_
    refine endL rfl ?_
    refine thenN ?_
    refine condT hf623 (by kernel_rfl) ?_
    refine wp_seq ?_
    refine reg [] [4] [(4, .bool false)] [] hf623 (by kernel_rfl) trivial fun a624 hf625 => ?_
    have hm626 := hm621.sel [] _ rfl (by kernel_rfl)
    refine thenN ?_
    refine wp_ret ?_
    refine thenR ?_
    have hm627 : Mem [] M w0 [] w617 := hm626.sel [] _ rfl (by kernel_rfl)
    obtain rfl := Option.some.inj H0
    refine ret [] [.bool false] [] hf625 (by kernel_rfl) trivial ?_
    exact ⟨_, rfl, rfl, hm627⟩
  refine inReg ?_
  refine listOf hf22 rfl (by kernel_rfl) (aCall (fid := 9) (args := []) (d := 17) hf22 (by kernel_rfl) (by kernel_rfl) callable9 (law19_awake.calls _ _  (hm0.give [] [] rfl rfl) r23 hr23) ?_)
  rintro _ w25 a26 ⟨rfl, hk28⟩ hf27
  have hm29 := hm0.still hk28.cum.none
  rw [c24] at hf27
  refine go 1 [] [0, 1, 18] [(0, .slice A0 x0.length c0), (1, .int .u8 x1), (18, .bool false)] [] hf27 (by kernel_rfl) trivial fun a30 hf31 => ?_
  refine endL rfl ?_
  refine thenN ?_
  refine condF hf31 (by kernel_rfl) ?_
  refine wp_skip ?_
  refine thenN ?_
  refine wp_seq ?_
  refine wp_seq ?_
  rcases if_split H0 with ⟨c32, H0⟩ | ⟨c32, H0⟩
  · refine reg [.bool true] [0, 1, 26] [(0, .slice A0 x0.length c0), (1, .int .u8 x1), (26, .bool true)] [.is ((((x0.length : Int) : Int) == 0) = true)] hf31 (by kernel_rfl) ⟨(eqT c32), trivial⟩ fun a33 hf34 => ?_
    refine thenN ?_
    refine condT hf34 (by kernel_rfl) ?_
    refine wp_seq ?_
    refine reg [] [4] [(4, .bool true)] [] hf34 (by kernel_rfl) trivial fun a35 hf36 => ?_
    have hm37 := hm29.sel [] _ rfl (by kernel_rfl)
    refine thenN ?_
    refine wp_ret ?_
    refine thenR ?_
    have hm38 : Mem [] M w0 [] w25 := hm37.sel [] _ rfl (by kernel_rfl)
    obtain rfl := Option.some.inj H0
    refine ret [] [.bool true] [] hf36 (by kernel_rfl) trivial ?_
    exact ⟨_, rfl, rfl, hm38⟩
  rcases if_split H0 with ⟨c40, H0⟩ | ⟨c40, H0⟩
  · refine reg [.bool false, .bool true] [0, 1, 26] [(0, .slice A0 x0.length c0), (1, .int .u8 x1), (26, .bool true)] [.is ((((x0.length : Int) : Int) == 0) = false), .is (decide (32 < (x0.length : Int)) = true)] hf31 (by kernel_rfl) ⟨(eqF c32), (decide_eq_true c40), trivial⟩ fun a41 hf42 => ?_
    refine thenN ?_
    refine condT hf42 (by kernel_rfl) ?_
    refine wp_seq ?_
    refine reg [] [4] [(4, .bool true)] [] hf42 (by kernel_rfl) trivial fun a43 hf44 => ?_
    have hm45 := hm29.sel [] _ rfl (by kernel_rfl)
    refine thenN ?_
    refine wp_ret ?_
    refine thenR ?_
    have hm46 : Mem [] M w0 [] w25 := hm45.sel [] _ rfl (by kernel_rfl)
    obtain rfl := Option.some.inj H0
    refine ret [] [.bool true] [] hf44 (by kernel_rfl) trivial ?_
    exact ⟨_, rfl, rfl, hm46⟩
  refine reg [.bool false, .bool false] [0, 1, 26] [(0, .slice A0 x0.length c0), (1, .int .u8 x1), (26, .bool false)] [.is ((((x0.length : Int) : Int) == 0) = false), .is (decide (32 < (x0.length : Int)) = false)] hf31 (by kernel_rfl) ⟨(eqF c32), (decide_eq_false c40), trivial⟩ fun a48 hf49 => ?_
  refine thenN ?_
  refine condF hf49 (by kernel_rfl) ?_
  refine wp_skip ?_
  refine thenN ?_
  refine wp_seq ?_
  refine reg [] [0, 1, 5, 6] [(0, .slice A0 x0.length c0), (1, .int .u8 x1), (5, .slice none 0 0), (6, .slice none 0 0)] [] hf49 (by kernel_rfl) trivial fun a50 hf51 => ?_
  refine thenN ?_
  refine wp_seq ?_
  refine wp_seq ?_
  refine reg [] [0, 1, 5, 6, 7] [(0, .slice A0 x0.length c0), (1, .int .u8 x1), (5, .slice none 0 0), (6, .slice none 0 0), (7, .int .i64 0)] [] hf51 (by kernel_rfl) trivial fun a52 hf53 => ?_
  refine thenN ?_
  have hm55 := hm29.nilOw kTensor 29
  have hm57 := hm55.nilOw kTensor 29
  obtain ⟨r68, hr68, H0⟩ := ob_split H0
  refine wpBlock (Mid := fun (a : Act) (w : World) => ∃ (A63 : Option Addr) (c65 : Nat) (A66 : Option Addr) (c67 : Nat), Fr 144 a [(0, .slice A0 x0.length c0), (1, .int .u8 x1), (5, .slice A66 r68.2.2.length c67), (6, .slice A63 r68.2.1.length c65), (7, .int .i64 r68.1)] ∧ Mem [] M w0 [.ow kTensor 29 A63 c65 r68.2.1, .ow kTensor 29 A66 c67 r68.2.2, .sl (Kd.int .i16) A0 c0 x0] w) ?_ ?_
  · refine wpLoop (law19_ShelfZeros.l0 x0) r68 (fun (s62 : (Int × (List Tensor) × (List Tensor))) (a : Act) (w : World) => ∃ (A63 : Option Addr) (c65 : Nat) (A66 : Option Addr) (c67 : Nat), Fr 144 a [(0, .slice A0 x0.length c0), (1, .int .u8 x1), (5, .slice A66 s62.2.2.length c67), (6, .slice A63 s62.2.1.length c65), (7, .int .i64 s62.1)] ∧ Mem [] M w0 [.ow kTensor 29 A63 c65 s62.2.1, .ow kTensor 29 A66 c67 s62.2.2, .sl (Kd.int .i16) A0 c0 x0] w) (0, ([] : (List Tensor)), ([] : (List Tensor))) hr68 ⟨none, 0, none, 0, hf53.sel (l := [0, 1, 5, 6, 7]) (by kernel_rfl), hm57.sel [0, 1, 2] _ rfl (by kernel_rfl)⟩ ?_
    rintro g69 s62 a70 w71 H1 ⟨A63, c65, A66, c67, hf72, hm73⟩
    unfold law19_ShelfZeros.l0 at H1
    refine wp_seq ?_
    refine wp_seq ?_
    rcases ifS_split H1 with ⟨c74, H1⟩ | ⟨c74, H1⟩
    rotate_left
    · refine reg [.bool false] [0, 1, 5, 6, 7, 30] [(0, .slice A0 x0.length c0), (1, .int .u8 x1), (5, .slice A66 s62.2.2.length c67), (6, .slice A63 s62.2.1.length c65), (7, .int .i64 s62.1), (30, .bool false)] [.is (decide (s62.1 < (x0.length : Int)) = false)] hf72 (by kernel_rfl) ⟨(decide_eq_false c74), trivial⟩ fun a163 hf164 => ?_
      refine thenN ?_
      refine condF hf164 (by kernel_rfl) ?_
      refine wp_exit ?_
      refine thenE ?_
      refine thenE ?_
      obtain rfl := Option.some.inj H1
      exact .inl ⟨rfl, A63, c65, A66, c67, hf164.sel (l := [0, 1, 5, 6, 7]) (by kernel_rfl), hm73.sel [0, 1, 2] _ rfl (by kernel_rfl)⟩
    refine reg [.bool true] [0, 1, 5, 6, 7, 30] [(0, .slice A0 x0.length c0), (1, .int .u8 x1), (5, .slice A66 s62.2.2.length c67), (6, .slice A63 s62.2.1.length c65), (7, .int .i64 s62.1), (30, .bool true)] [.is (decide (s62.1 < (x0.length : Int)) = true)] hf72 (by kernel_rfl) ⟨(decide_eq_true c74), trivial⟩ fun a75 hf76 => ?_
    refine thenN ?_
    refine condT hf76 (by kernel_rfl) ?_
    refine wp_skip ?_
    refine thenN ?_
    refine wp_seq ?_
    refine wp_block ?_
    refine wp_seq ?_
    obtain ⟨g77, H1⟩ := ifS_guard H1
    refine inReg ?_
    refine go 1 [] [0, 1, 5, 6, 7, 33] [(0, .slice A0 x0.length c0), (1, .int .u8 x1), (5, .slice A66 s62.2.2.length c67), (6, .slice A63 s62.2.1.length c65), (7, .int .i64 s62.1), (33, .slice A66 s62.2.2.length c67)] [] hf76 (by kernel_rfl) trivial fun a78 hf79 => ?_
    refine listOf hf79 rfl (by kernel_rfl) (aLit (cs := [.int .i64 1]) (E := 3) (len := 1) (d := 34) hf79 (by kernel_rfl) (by kernel_rfl) ?_)
    intro b80 w81 a82 hbb80 hx84 hg85 hf83
    have hm73s := hm73.still hg85
    have hm86 := Mem.lit (kd := (Kd.int .i64)) (xs := ([1] : List Int)) hm73 hbb80 hx84 hg85 (Els.one (kd := (Kd.int .i64)) (us := [.int .i64 1]) (x := 1) rfl)
    refine listOf hf83 rfl (by kernel_rfl) (aLit (cs := [.float .f64 4607182418800017408]) (E := 26) (len := 1) (d := 35) hf83 (by kernel_rfl) (by kernel_rfl) ?_)
    intro b87 w88 a89 hbb87 hx91 hg92 hf90
    have hm86s := hm86.still hg92
    have hm93 := Mem.lit (kd := Kd.float) (xs := ([4607182418800017408] : List Nat)) hm86 hbb87 hx91 hg92 (Els.one (kd := Kd.float) (us := [.float .f64 4607182418800017408]) (x := 4607182418800017408) ⟨_, rfl, (FR.lit (by kernel_rfl) (by kernel_rfl))⟩)
    refine go 1 [] [0, 1, 5, 6, 7, 33, 36] [(0, .slice A0 x0.length c0), (1, .int .u8 x1), (5, .slice A66 s62.2.2.length c67), (6, .slice A63 s62.2.1.length c65), (7, .int .i64 s62.1), (33, .slice A66 s62.2.2.length c67), (36, .agg #[.slice (some ⟨b80, 0, none⟩) 1 1, .slice (some ⟨b87, 0, none⟩) 1 1])] [] hf90 (by kernel_rfl) trivial fun a94 hf95 => ?_
    refine listOf hf95 rfl (by kernel_rfl) (aLit (cs := [.slice (some ⟨b80, 0, none⟩) 1 1, .slice (some ⟨b87, 0, none⟩) 1 1]) (E := 29) (len := 1) (d := 37) hf95 (by kernel_rfl) (by kernel_rfl) ?_)
    intro b96 w97 a98 hbb96 hx100 hg101 hf99
    have hm93s := hm93.still hg101
    have hm102 := Mem.lit (kd := kTensor) (xs := ([(⟨([1] : List Int), ([4607182418800017408] : List Nat)⟩ : Tensor)] : List Tensor)) hm93 hbb96 hx100 hg101 (Els.one (kd := kTensor) (us := [.slice (some ⟨b80, 0, none⟩) 1 1, .slice (some ⟨b87, 0, none⟩) 1 1]) (x := (⟨([1] : List Int), ([4607182418800017408] : List Nat)⟩ : Tensor)) (kTensor.mk (⟨([1] : List Int), ([4607182418800017408] : List Nat)⟩ : Tensor) ⟨hm93s.cpAt 1 rfl, (hm93s.slAt 1 rfl)⟩ ⟨hm93s.cpAt 0 rfl, (hm93s.slAt 0 rfl)⟩))
    have e111 : s62.2.2.length = s62.2.2.length := rfl
    have e112 : 1 = ([(⟨([1] : List Int), ([4607182418800017408] : List Nat)⟩ : Tensor)] : List Tensor).length := rfl
    refine listOf hf99 rfl (by kernel_rfl) (aApp (kd := kTensor) (base := 0) (E := 29) (A := A66) (B := (some ⟨b96, 0, none⟩)) (c := c67) (c2 := 1) (xs := s62.2.2) (ys := ([(⟨([1] : List Int), ([4607182418800017408] : List Nat)⟩ : Tensor)] : List Tensor)) (k := s62.2.2.length) (m := 1) (sz := 2) (d := 38) hf99 (by kernel_rfl) e111 e112 (by kernel_rfl) rfl (by kernel_rfl) (hm102.at 4 rfl) (hm102.at2 4 0 rfl rfl).2 (hm102.cpAt 0 rfl) (Nat.zero_le _) (by have := g77; omega) ?_)
    intro A103 c104 w105 a106 ho108 hg109 hr110 hf107
    have hm113 := hm102.setOwn 4 _ rfl rfl ho108 hg109 hr110
    refine go 1 [] [0, 1, 5, 6, 7] [(0, .slice A0 x0.length c0), (1, .int .u8 x1), (5, .slice A103 ((s62.2.2 ++ ([(⟨([1] : List Int), ([4607182418800017408] : List Nat)⟩ : Tensor)] : List Tensor)).length) c104), (6, .slice A63 s62.2.1.length c65), (7, .int .i64 s62.1)] [] hf107 (by kernel_rfl) trivial fun a114 hf115 => ?_
    refine endL rfl ?_
    have hm116 := hm113.sel [3, 4, 5] _ rfl (by kernel_rfl)
    refine thenN ?_
    obtain ⟨g117, H1⟩ := ifS_guard H1
    obtain ⟨g118, H1⟩ := ifS_guard H1
    refine inReg ?_
    refine go 1 [] [0, 1, 5, 6, 7, 39] [(0, .slice A0 x0.length c0), (1, .int .u8 x1), (5, .slice A103 ((s62.2.2 ++ ([(⟨([1] : List Int), ([4607182418800017408] : List Nat)⟩ : Tensor)] : List Tensor)).length) c104), (6, .slice A63 s62.2.1.length c65), (7, .int .i64 s62.1), (39, .slice A63 s62.2.1.length c65)] [] hf115 (by kernel_rfl) trivial fun a119 hf120 => ?_
    refine listOf hf120 rfl (by kernel_rfl) (aLit (cs := [.int .i64 1]) (E := 3) (len := 1) (d := 40) hf120 (by kernel_rfl) (by kernel_rfl) ?_)
    intro b121 w122 a123 hbb121 hx125 hg126 hf124
    have hm116s := hm116.still hg126
    have hm127 := Mem.lit (kd := (Kd.int .i64)) (xs := ([1] : List Int)) hm116 hbb121 hx125 hg126 (Els.one (kd := (Kd.int .i64)) (us := [.int .i64 1]) (x := 1) rfl)
    have q128 := (hm127.slAt 3 rfl).int s62.1 g117.1 g117.2
    refine go 5 [.int .i16 (rd x0 s62.1)] [0, 1, 5, 6, 7, 39, 40, 45] [(0, .slice A0 x0.length c0), (1, .int .u8 x1), (5, .slice A103 ((s62.2.2 ++ ([(⟨([1] : List Int), ([4607182418800017408] : List Nat)⟩ : Tensor)] : List Tensor)).length) c104), (6, .slice A63 s62.2.1.length c65), (7, .int .i64 s62.1), (39, .slice A63 s62.2.1.length c65), (40, .slice (some ⟨b121, 0, none⟩) 1 1), (45, .float .f64 (FloatKind.f64.nearest (rd x0 s62.1)))] [.is (Option.isSome A0 = true), .is (0 ≤ s62.1 ∧ s62.1 < (x0.length : Int)), .cell ((ad A0).add ((s62.1).toNat * 1)) (.int .i16 (rd x0 s62.1))] hf124 (by kernel_rfl) ⟨q128.1, g117, q128.2, trivial⟩ fun a129 hf130 => ?_
    refine listOf hf130 rfl (by kernel_rfl) (aLit (cs := [.float .f64 (FloatKind.f64.nearest (rd x0 s62.1))]) (E := 26) (len := 1) (d := 46) hf130 (by kernel_rfl) (by kernel_rfl) ?_)
    intro b131 w132 a133 hbb131 hx135 hg136 hf134
    have hm127s := hm127.still hg136
    have hm137 := Mem.lit (kd := Kd.float) (xs := ([(ofInt (rd x0 s62.1))] : List Nat)) hm127 hbb131 hx135 hg136 (Els.one (kd := Kd.float) (us := [.float .f64 (FloatKind.f64.nearest (rd x0 s62.1))]) (x := (ofInt (rd x0 s62.1))) ⟨_, rfl, (FR.ofInt (rd x0 s62.1))⟩)
    refine go 1 [] [0, 1, 5, 6, 7, 39, 47] [(0, .slice A0 x0.length c0), (1, .int .u8 x1), (5, .slice A103 ((s62.2.2 ++ ([(⟨([1] : List Int), ([4607182418800017408] : List Nat)⟩ : Tensor)] : List Tensor)).length) c104), (6, .slice A63 s62.2.1.length c65), (7, .int .i64 s62.1), (39, .slice A63 s62.2.1.length c65), (47, .agg #[.slice (some ⟨b121, 0, none⟩) 1 1, .slice (some ⟨b131, 0, none⟩) 1 1])] [] hf134 (by kernel_rfl) trivial fun a138 hf139 => ?_
    refine listOf hf139 rfl (by kernel_rfl) (aLit (cs := [.slice (some ⟨b121, 0, none⟩) 1 1, .slice (some ⟨b131, 0, none⟩) 1 1]) (E := 29) (len := 1) (d := 48) hf139 (by kernel_rfl) (by kernel_rfl) ?_)
    intro b140 w141 a142 hbb140 hx144 hg145 hf143
    have hm137s := hm137.still hg145
    have hm146 := Mem.lit (kd := kTensor) (xs := ([(⟨([1] : List Int), ([(ofInt (rd x0 s62.1))] : List Nat)⟩ : Tensor)] : List Tensor)) hm137 hbb140 hx144 hg145 (Els.one (kd := kTensor) (us := [.slice (some ⟨b121, 0, none⟩) 1 1, .slice (some ⟨b131, 0, none⟩) 1 1]) (x := (⟨([1] : List Int), ([(ofInt (rd x0 s62.1))] : List Nat)⟩ : Tensor)) (kTensor.mk (⟨([1] : List Int), ([(ofInt (rd x0 s62.1))] : List Nat)⟩ : Tensor) ⟨hm137s.cpAt 1 rfl, (hm137s.slAt 1 rfl)⟩ ⟨hm137s.cpAt 0 rfl, (hm137s.slAt 0 rfl)⟩))
    have e155 : s62.2.1.length = s62.2.1.length := rfl
    have e156 : 1 = ([(⟨([1] : List Int), ([(ofInt (rd x0 s62.1))] : List Nat)⟩ : Tensor)] : List Tensor).length := rfl
    refine listOf hf143 rfl (by kernel_rfl) (aApp (kd := kTensor) (base := 0) (E := 29) (A := A63) (B := (some ⟨b140, 0, none⟩)) (c := c65) (c2 := 1) (xs := s62.2.1) (ys := ([(⟨([1] : List Int), ([(ofInt (rd x0 s62.1))] : List Nat)⟩ : Tensor)] : List Tensor)) (k := s62.2.1.length) (m := 1) (sz := 2) (d := 49) hf143 (by kernel_rfl) e155 e156 (by kernel_rfl) rfl (by kernel_rfl) (hm146.at 3 rfl) (hm146.at2 3 0 rfl rfl).2 (hm146.cpAt 0 rfl) (Nat.zero_le _) (by have := g118; omega) ?_)
    intro A147 c148 w149 a150 ho152 hg153 hr154 hf151
    have hm157 := hm146.setOwn 3 _ rfl rfl ho152 hg153 hr154
    refine go 1 [] [0, 1, 5, 6, 7] [(0, .slice A0 x0.length c0), (1, .int .u8 x1), (5, .slice A103 ((s62.2.2 ++ ([(⟨([1] : List Int), ([4607182418800017408] : List Nat)⟩ : Tensor)] : List Tensor)).length) c104), (6, .slice A147 ((s62.2.1 ++ ([(⟨([1] : List Int), ([(ofInt (rd x0 s62.1))] : List Nat)⟩ : Tensor)] : List Tensor)).length) c148), (7, .int .i64 s62.1)] [] hf151 (by kernel_rfl) trivial fun a158 hf159 => ?_
    refine endL rfl ?_
    have hm160 := hm157.sel [3, 4, 5] _ rfl (by kernel_rfl)
    refine blkN ?_
    refine thenN ?_
    refine reg [] [0, 1, 5, 6, 7] [(0, .slice A0 x0.length c0), (1, .int .u8 x1), (5, .slice A103 ((s62.2.2 ++ ([(⟨([1] : List Int), ([4607182418800017408] : List Nat)⟩ : Tensor)] : List Tensor)).length) c104), (6, .slice A147 ((s62.2.1 ++ ([(⟨([1] : List Int), ([(ofInt (rd x0 s62.1))] : List Nat)⟩ : Tensor)] : List Tensor)).length) c148), (7, .int .i64 (w64 (s62.1 + 1)))] [] hf159 (by kernel_rfl) trivial fun a161 hf162 => ?_
    exact ⟨((w64 (s62.1 + 1)), (s62.2.1 ++ ([(⟨([1] : List Int), ([(ofInt (rd x0 s62.1))] : List Nat)⟩ : Tensor)] : List Tensor)), (s62.2.2 ++ ([(⟨([1] : List Int), ([4607182418800017408] : List Nat)⟩ : Tensor)] : List Tensor))), H1, A147, c148, A103, c104, hf162.sel (l := [0, 1, 5, 6, 7]) (by kernel_rfl), hm160.sel [0, 1, 2] _ rfl (by kernel_rfl)⟩
  rintro a165 w166 ⟨A63, c65, A66, c67, hf167, hm168⟩
  refine thenN ?_
  refine wp_seq ?_
  obtain ⟨r169, hr169, H0⟩ := ob_split H0
  rcases ptr_split H0 with ⟨c170, H0⟩ | ⟨y171, c170, H0⟩
  · refine inReg ?_
    refine go 1 [] [0, 1, 6, 51] [(0, .slice A0 x0.length c0), (1, .int .u8 x1), (6, .slice A63 r68.2.1.length c65), (51, .slice A66 r68.2.2.length c67)] [] hf167 (by kernel_rfl) trivial fun a172 hf173 => ?_
    have hm174 := hm168.seal 1 _ rfl rfl
    refine listOf hf173 rfl (by kernel_rfl) (aCall (fid := 10) (args := [.slice A66 r68.2.2.length c67]) (d := 52) hf173 (by kernel_rfl) (by kernel_rfl) callable10 (shelf_New.calls_n _ _ r68.2.2 A66 r68.2.2.length c67 rfl (hm174.give [1] [.sl kTensor A66 c67 r68.2.2] rfl rfl) r169 c170 hr169) ?_)
    rintro _ w175 a176 ⟨rfl, hk178⟩ hf177
    have hm179 := hm174.still hk178.cum.none
    refine go 5 [] [0, 1, 6, 8, 9] [(0, .slice A0 x0.length c0), (1, .int .u8 x1), (6, .slice A63 r68.2.1.length c65), (8, .pointer none), (9, .int .i64 r169.2)] [] hf177 (by kernel_rfl) trivial fun a180 hf181 => ?_
    refine endL rfl ?_
    have hm182 := hm179.sel [0, 2] _ rfl (by kernel_rfl)
    refine thenN ?_
    refine wp_seq ?_
    refine wp_seq ?_
    rcases if_split H0 with ⟨c183, H0⟩ | ⟨c183, H0⟩
    · refine reg [.bool false] [0, 1, 8, 82] [(0, .slice A0 x0.length c0), (1, .int .u8 x1), (8, .pointer none), (82, .bool true)] [.is (((r169.2 : Int) != 0) = false)] hf181 (by kernel_rfl) ⟨(neF c183), trivial⟩ fun a184 hf185 => ?_
      have hm186 := hm182.sel [1] _ rfl (by kernel_rfl)
      refine thenN ?_
      refine condT hf185 (by kernel_rfl) ?_
      refine wp_seq ?_
      refine reg [] [4] [(4, .bool false)] [] hf185 (by kernel_rfl) trivial fun a187 hf188 => ?_
      have hm189 := hm186.sel [] _ rfl (by kernel_rfl)
      refine thenN ?_
      refine wp_ret ?_
      refine thenR ?_
      have hm190 : Mem [] M w0 [] w175 := hm189.sel [] _ rfl (by kernel_rfl)
      obtain rfl := Option.some.inj H0
      refine ret [] [.bool false] [] hf188 (by kernel_rfl) trivial ?_
      exact ⟨_, rfl, rfl, hm190⟩
    refine reg [.bool true] [0, 1, 8, 82] [(0, .slice A0 x0.length c0), (1, .int .u8 x1), (8, .pointer none), (82, .bool true)] [.is (((r169.2 : Int) != 0) = true)] hf181 (by kernel_rfl) ⟨(neT c183), trivial⟩ fun a192 hf193 => ?_
    have hm194 := hm182.sel [1] _ rfl (by kernel_rfl)
    refine thenN ?_
    refine condT hf193 (by kernel_rfl) ?_
    refine wp_seq ?_
    refine reg [] [4] [(4, .bool false)] [] hf193 (by kernel_rfl) trivial fun a195 hf196 => ?_
    have hm197 := hm194.sel [] _ rfl (by kernel_rfl)
    refine thenN ?_
    refine wp_ret ?_
    refine thenR ?_
    have hm198 : Mem [] M w0 [] w175 := hm197.sel [] _ rfl (by kernel_rfl)
    obtain rfl := Option.some.inj H0
    refine ret [] [.bool false] [] hf196 (by kernel_rfl) trivial ?_
    exact ⟨_, rfl, rfl, hm198⟩
  · refine inReg ?_
    refine go 1 [] [0, 1, 6, 51] [(0, .slice A0 x0.length c0), (1, .int .u8 x1), (6, .slice A63 r68.2.1.length c65), (51, .slice A66 r68.2.2.length c67)] [] hf167 (by kernel_rfl) trivial fun a200 hf201 => ?_
    have hm202 := hm168.seal 1 _ rfl rfl
    refine listOf hf201 rfl (by kernel_rfl) (aCall (fid := 10) (args := [.slice A66 r68.2.2.length c67]) (d := 52) hf201 (by kernel_rfl) (by kernel_rfl) callable10 (shelf_New.calls_s _ _ r68.2.2 A66 r68.2.2.length c67 rfl (hm202.give [1] [.sl kTensor A66 c67 r68.2.2] rfl rfl) r169 y171 c170 hr169) ?_)
    rintro _ w210 a211 ⟨b203, A204, c205, A206, c207, A208, c209, rfl, hk213⟩ hf212
    have hm214 := hm202.back hk213
    refine go 5 [] [0, 1, 6, 8, 9] [(0, .slice A0 x0.length c0), (1, .int .u8 x1), (6, .slice A63 r68.2.1.length c65), (8, .pointer (some ⟨b203, 0, none⟩)), (9, .int .i64 r169.2)] [] hf212 (by kernel_rfl) trivial fun a215 hf216 => ?_
    refine endL rfl ?_
    have hm217 := hm214.sel [0, 1, 2, 3, 4, 6] _ rfl (by kernel_rfl)
    refine thenN ?_
    refine wp_seq ?_
    refine wp_seq ?_
    rcases if_split H0 with ⟨c218, H0⟩ | ⟨c218, H0⟩
    rotate_left
    · refine reg [.bool true] [0, 1, 8, 82] [(0, .slice A0 x0.length c0), (1, .int .u8 x1), (8, .pointer (some ⟨b203, 0, none⟩)), (82, .bool true)] [.is (((r169.2 : Int) != 0) = true)] hf216 (by kernel_rfl) ⟨(neT c218), trivial⟩ fun a609 hf610 => ?_
      have hm611 := hm217.sel [0, 1, 2, 3, 5] _ rfl (by kernel_rfl)
      refine thenN ?_
      refine condT hf610 (by kernel_rfl) ?_
      refine wp_seq ?_
      refine reg [] [4] [(4, .bool false)] [] hf610 (by kernel_rfl) trivial fun a612 hf613 => ?_
      have hm614 := hm611.sel [] _ rfl (by kernel_rfl)
      refine thenN ?_
      refine wp_ret ?_
      refine thenR ?_
      have hm615 : Mem [] M w0 [] w210 := hm614.sel [] _ rfl (by kernel_rfl)
      obtain rfl := Option.some.inj H0
      refine ret [] [.bool false] [] hf613 (by kernel_rfl) trivial ?_
      exact ⟨_, rfl, rfl, hm615⟩
    obtain ⟨r219, hr219, H0⟩ := ob_split H0
    rcases if_split H0 with ⟨c220, H0⟩ | ⟨c220, H0⟩
    rotate_left
    · refine inReg ?_
      refine go 9 [.bool false] [0, 1, 6, 8, 61, 62, 63] [(0, .slice A0 x0.length c0), (1, .int .u8 x1), (6, .slice A63 r68.2.1.length c65), (8, .pointer (some ⟨b203, 0, none⟩)), (61, .bool false), (62, .pointer (some ⟨b203, 0, none⟩)), (63, .slice A63 r68.2.1.length c65)] [.is (((r169.2 : Int) != 0) = false)] hf216 (by kernel_rfl) ⟨(neF c218), trivial⟩ fun a591 hf592 => ?_
      have hm593 := hm217.seal 4 _ rfl rfl
      refine listOf hf592 rfl (by kernel_rfl) (aCall (fid := 11) (args := [.pointer (some ⟨b203, 0, none⟩), .slice A63 r68.2.1.length c65]) (d := 64) hf592 (by kernel_rfl) (by kernel_rfl) callable11 (shelf_Shelf_Commit.calls _ _ _ y171 b203 A204 y171.l.length c205 rfl A206 y171.vers.length c207 rfl A208 y171.grads.length c209 rfl r68.2.1 A63 r68.2.1.length c65 rfl (hm593.giveO [0, 1, 2, 3] [4, 5] [4] [.bx b203 [.slice A204 y171.l.length c205, .slice A206 y171.vers.length c207, .slice A208 y171.grads.length c209] 72, .ow kTensor 29 A204 c205 y171.l, .ow (Kd.int .i64) 3 A206 c207 y171.vers, .ow kTensor 29 A208 c209 y171.grads] _ [.sl kTensor A63 c65 r68.2.1] rfl rfl rfl (by kernel_rfl) rfl) r219 hr219) ?_)
      rintro _ w596 a597 ⟨A594, c595, rfl, hk599⟩ hf598
      have hm600 := hm593.backO [0, 1, 2, 3] [4, 5] _ _ rfl rfl (by kernel_rfl) hk599
      refine go 18 [.bool true] [0, 1, 8, 82] [(0, .slice A0 x0.length c0), (1, .int .u8 x1), (8, .pointer (some ⟨b203, 0, none⟩)), (82, .bool true)] [.is (((r219.2 : Int) != 0) = true)] hf598 (by kernel_rfl) ⟨(neT c220), trivial⟩ fun a601 hf602 => ?_
      refine endL rfl ?_
      have hm603 := hm600.sel [0, 1, 2, 3, 5] _ rfl (by kernel_rfl)
      refine thenN ?_
      refine condT hf602 (by kernel_rfl) ?_
      refine wp_seq ?_
      refine reg [] [4] [(4, .bool false)] [] hf602 (by kernel_rfl) trivial fun a604 hf605 => ?_
      have hm606 := hm603.sel [] _ rfl (by kernel_rfl)
      refine thenN ?_
      refine wp_ret ?_
      refine thenR ?_
      have hm607 : Mem [] M w0 [] w596 := hm606.sel [] _ rfl (by kernel_rfl)
      obtain rfl := Option.some.inj H0
      refine ret [] [.bool false] [] hf605 (by kernel_rfl) trivial ?_
      exact ⟨_, rfl, rfl, hm607⟩
    obtain ⟨g221, H0⟩ := if_guard H0
    obtain ⟨r222, hr222, H0⟩ := ob_split H0
    rcases if_split H0 with ⟨c223, H0⟩ | ⟨c223, H0⟩
    rotate_left
    · refine inReg ?_
      refine go 9 [.bool false] [0, 1, 6, 8, 61, 62, 63] [(0, .slice A0 x0.length c0), (1, .int .u8 x1), (6, .slice A63 r68.2.1.length c65), (8, .pointer (some ⟨b203, 0, none⟩)), (61, .bool false), (62, .pointer (some ⟨b203, 0, none⟩)), (63, .slice A63 r68.2.1.length c65)] [.is (((r169.2 : Int) != 0) = false)] hf216 (by kernel_rfl) ⟨(neF c218), trivial⟩ fun a564 hf565 => ?_
      have hm566 := hm217.seal 4 _ rfl rfl
      refine listOf hf565 rfl (by kernel_rfl) (aCall (fid := 11) (args := [.pointer (some ⟨b203, 0, none⟩), .slice A63 r68.2.1.length c65]) (d := 64) hf565 (by kernel_rfl) (by kernel_rfl) callable11 (shelf_Shelf_Commit.calls _ _ _ y171 b203 A204 y171.l.length c205 rfl A206 y171.vers.length c207 rfl A208 y171.grads.length c209 rfl r68.2.1 A63 r68.2.1.length c65 rfl (hm566.giveO [0, 1, 2, 3] [4, 5] [4] [.bx b203 [.slice A204 y171.l.length c205, .slice A206 y171.vers.length c207, .slice A208 y171.grads.length c209] 72, .ow kTensor 29 A204 c205 y171.l, .ow (Kd.int .i64) 3 A206 c207 y171.vers, .ow kTensor 29 A208 c209 y171.grads] _ [.sl kTensor A63 c65 r68.2.1] rfl rfl rfl (by kernel_rfl) rfl) r219 hr219) ?_)
      rintro _ w569 a570 ⟨A567, c568, rfl, hk572⟩ hf571
      have hm573 := hm566.backO [0, 1, 2, 3] [4, 5] _ _ rfl rfl (by kernel_rfl) hk572
      refine go 9 [.bool false] [0, 1, 6, 8, 67, 68, 73] [(0, .slice A0 x0.length c0), (1, .int .u8 x1), (6, .slice A63 r68.2.1.length c65), (8, .pointer (some ⟨b203, 0, none⟩)), (67, .bool false), (68, .pointer (some ⟨b203, 0, none⟩)), (73, .int .i64 (Int.tmod (w64 (x1)) (x0.length : Int)))] [.is (((r219.2 : Int) != 0) = false), .is ((x0.length : Int) ≠ 0)] hf571 (by kernel_rfl) ⟨(neF c220), g221, trivial⟩ fun a574 hf575 => ?_
      refine listOf hf575 rfl (by kernel_rfl) (aCall (fid := 12) (args := [.pointer (some ⟨b203, 0, none⟩), .int .i64 (Int.tmod (w64 (x1)) (x0.length : Int))]) (d := 74) hf575 (by kernel_rfl) (by kernel_rfl) callable12 (shelf_Shelf_Zero.calls _ _ _ (⟨y171.l, y171.vers, r219.1⟩ : Shelf) b203 A204 y171.l.length c205 rfl A206 y171.vers.length c207 rfl A567 r219.1.length c568 rfl (Int.tmod (w64 (x1)) (x0.length : Int)) (hm573.giveO [0, 1, 2, 3] [4, 5] [] [.bx b203 [.slice A204 y171.l.length c205, .slice A206 y171.vers.length c207, .slice A567 r219.1.length c568] 72, .ow kTensor 29 A204 c205 y171.l, .ow (Kd.int .i64) 3 A206 c207 y171.vers, .ow kTensor 29 A567 c568 r219.1] _ [] rfl rfl rfl (by kernel_rfl) rfl) r222 hr222) ?_)
      rintro _ w578 a579 ⟨A576, c577, rfl, hk581⟩ hf580
      have hm582 := hm573.backO [0, 1, 2, 3] [4, 5] _ _ rfl rfl (by kernel_rfl) hk581
      refine go 8 [.bool true] [0, 1, 8, 82] [(0, .slice A0 x0.length c0), (1, .int .u8 x1), (8, .pointer (some ⟨b203, 0, none⟩)), (82, .bool true)] [.is (((r222.2 : Int) != 0) = true)] hf580 (by kernel_rfl) ⟨(neT c223), trivial⟩ fun a583 hf584 => ?_
      refine endL rfl ?_
      have hm585 := hm582.sel [0, 1, 2, 3, 5] _ rfl (by kernel_rfl)
      refine thenN ?_
      refine condT hf584 (by kernel_rfl) ?_
      refine wp_seq ?_
      refine reg [] [4] [(4, .bool false)] [] hf584 (by kernel_rfl) trivial fun a586 hf587 => ?_
      have hm588 := hm585.sel [] _ rfl (by kernel_rfl)
      refine thenN ?_
      refine wp_ret ?_
      refine thenR ?_
      have hm589 : Mem [] M w0 [] w578 := hm588.sel [] _ rfl (by kernel_rfl)
      obtain rfl := Option.some.inj H0
      refine ret [] [.bool false] [] hf587 (by kernel_rfl) trivial ?_
      exact ⟨_, rfl, rfl, hm589⟩
    obtain ⟨r224, hr224, H0⟩ := ob_split H0
    rcases if_split H0 with ⟨c225, H0⟩ | ⟨c225, H0⟩
    rotate_left
    · refine inReg ?_
      refine go 9 [.bool false] [0, 1, 6, 8, 61, 62, 63] [(0, .slice A0 x0.length c0), (1, .int .u8 x1), (6, .slice A63 r68.2.1.length c65), (8, .pointer (some ⟨b203, 0, none⟩)), (61, .bool false), (62, .pointer (some ⟨b203, 0, none⟩)), (63, .slice A63 r68.2.1.length c65)] [.is (((r169.2 : Int) != 0) = false)] hf216 (by kernel_rfl) ⟨(neF c218), trivial⟩ fun a528 hf529 => ?_
      have hm530 := hm217.seal 4 _ rfl rfl
      refine listOf hf529 rfl (by kernel_rfl) (aCall (fid := 11) (args := [.pointer (some ⟨b203, 0, none⟩), .slice A63 r68.2.1.length c65]) (d := 64) hf529 (by kernel_rfl) (by kernel_rfl) callable11 (shelf_Shelf_Commit.calls _ _ _ y171 b203 A204 y171.l.length c205 rfl A206 y171.vers.length c207 rfl A208 y171.grads.length c209 rfl r68.2.1 A63 r68.2.1.length c65 rfl (hm530.giveO [0, 1, 2, 3] [4, 5] [4] [.bx b203 [.slice A204 y171.l.length c205, .slice A206 y171.vers.length c207, .slice A208 y171.grads.length c209] 72, .ow kTensor 29 A204 c205 y171.l, .ow (Kd.int .i64) 3 A206 c207 y171.vers, .ow kTensor 29 A208 c209 y171.grads] _ [.sl kTensor A63 c65 r68.2.1] rfl rfl rfl (by kernel_rfl) rfl) r219 hr219) ?_)
      rintro _ w533 a534 ⟨A531, c532, rfl, hk536⟩ hf535
      have hm537 := hm530.backO [0, 1, 2, 3] [4, 5] _ _ rfl rfl (by kernel_rfl) hk536
      refine go 9 [.bool false] [0, 1, 6, 8, 67, 68, 73] [(0, .slice A0 x0.length c0), (1, .int .u8 x1), (6, .slice A63 r68.2.1.length c65), (8, .pointer (some ⟨b203, 0, none⟩)), (67, .bool false), (68, .pointer (some ⟨b203, 0, none⟩)), (73, .int .i64 (Int.tmod (w64 (x1)) (x0.length : Int)))] [.is (((r219.2 : Int) != 0) = false), .is ((x0.length : Int) ≠ 0)] hf535 (by kernel_rfl) ⟨(neF c220), g221, trivial⟩ fun a538 hf539 => ?_
      refine listOf hf539 rfl (by kernel_rfl) (aCall (fid := 12) (args := [.pointer (some ⟨b203, 0, none⟩), .int .i64 (Int.tmod (w64 (x1)) (x0.length : Int))]) (d := 74) hf539 (by kernel_rfl) (by kernel_rfl) callable12 (shelf_Shelf_Zero.calls _ _ _ (⟨y171.l, y171.vers, r219.1⟩ : Shelf) b203 A204 y171.l.length c205 rfl A206 y171.vers.length c207 rfl A531 r219.1.length c532 rfl (Int.tmod (w64 (x1)) (x0.length : Int)) (hm537.giveO [0, 1, 2, 3] [4, 5] [] [.bx b203 [.slice A204 y171.l.length c205, .slice A206 y171.vers.length c207, .slice A531 r219.1.length c532] 72, .ow kTensor 29 A204 c205 y171.l, .ow (Kd.int .i64) 3 A206 c207 y171.vers, .ow kTensor 29 A531 c532 r219.1] _ [] rfl rfl rfl (by kernel_rfl) rfl) r222 hr222) ?_)
      rintro _ w542 a543 ⟨A540, c541, rfl, hk545⟩ hf544
      have hm546 := hm537.backO [0, 1, 2, 3] [4, 5] _ _ rfl rfl (by kernel_rfl) hk545
      refine go 5 [.bool false] [0, 1, 8, 77, 78, 79] [(0, .slice A0 x0.length c0), (1, .int .u8 x1), (8, .pointer (some ⟨b203, 0, none⟩)), (77, .bool false), (78, .pointer (some ⟨b203, 0, none⟩)), (79, .slice A63 r68.2.1.length c65)] [.is (((r222.2 : Int) != 0) = false)] hf544 (by kernel_rfl) ⟨(neF c223), trivial⟩ fun a547 hf548 => ?_
      refine listOf hf548 rfl (by kernel_rfl) (aCall (fid := 11) (args := [.pointer (some ⟨b203, 0, none⟩), .slice A63 r68.2.1.length c65]) (d := 80) hf548 (by kernel_rfl) (by kernel_rfl) callable11 (shelf_Shelf_Commit.calls _ _ _ (⟨y171.l, y171.vers, r222.1⟩ : Shelf) b203 A204 y171.l.length c205 rfl A206 y171.vers.length c207 rfl A540 r222.1.length c541 rfl r68.2.1 A63 r68.2.1.length c65 rfl (hm546.giveO [0, 1, 2, 3] [4, 5] [4] [.bx b203 [.slice A204 y171.l.length c205, .slice A206 y171.vers.length c207, .slice A540 r222.1.length c541] 72, .ow kTensor 29 A204 c205 y171.l, .ow (Kd.int .i64) 3 A206 c207 y171.vers, .ow kTensor 29 A540 c541 r222.1] _ [.sl kTensor A63 c65 r68.2.1] rfl rfl rfl (by kernel_rfl) rfl) r224 hr224) ?_)
      rintro _ w551 a552 ⟨A549, c550, rfl, hk554⟩ hf553
      have hm555 := hm546.backO [0, 1, 2, 3] [4, 5] _ _ rfl rfl (by kernel_rfl) hk554
      refine go 2 [.bool true] [0, 1, 8, 82] [(0, .slice A0 x0.length c0), (1, .int .u8 x1), (8, .pointer (some ⟨b203, 0, none⟩)), (82, .bool true)] [.is (((r224.2 : Int) != 0) = true)] hf553 (by kernel_rfl) ⟨(neT c225), trivial⟩ fun a556 hf557 => ?_
      refine endL rfl ?_
      have hm558 := hm555.sel [0, 1, 2, 3, 5] _ rfl (by kernel_rfl)
      refine thenN ?_
      refine condT hf557 (by kernel_rfl) ?_
      refine wp_seq ?_
      refine reg [] [4] [(4, .bool false)] [] hf557 (by kernel_rfl) trivial fun a559 hf560 => ?_
      have hm561 := hm558.sel [] _ rfl (by kernel_rfl)
      refine thenN ?_
      refine wp_ret ?_
      refine thenR ?_
      have hm562 : Mem [] M w0 [] w551 := hm561.sel [] _ rfl (by kernel_rfl)
      obtain rfl := Option.some.inj H0
      refine ret [] [.bool false] [] hf560 (by kernel_rfl) trivial ?_
      exact ⟨_, rfl, rfl, hm562⟩
    refine inReg ?_
    refine go 9 [.bool false] [0, 1, 6, 8, 61, 62, 63] [(0, .slice A0 x0.length c0), (1, .int .u8 x1), (6, .slice A63 r68.2.1.length c65), (8, .pointer (some ⟨b203, 0, none⟩)), (61, .bool false), (62, .pointer (some ⟨b203, 0, none⟩)), (63, .slice A63 r68.2.1.length c65)] [.is (((r169.2 : Int) != 0) = false)] hf216 (by kernel_rfl) ⟨(neF c218), trivial⟩ fun a226 hf227 => ?_
    have hm228 := hm217.seal 4 _ rfl rfl
    refine listOf hf227 rfl (by kernel_rfl) (aCall (fid := 11) (args := [.pointer (some ⟨b203, 0, none⟩), .slice A63 r68.2.1.length c65]) (d := 64) hf227 (by kernel_rfl) (by kernel_rfl) callable11 (shelf_Shelf_Commit.calls _ _ _ y171 b203 A204 y171.l.length c205 rfl A206 y171.vers.length c207 rfl A208 y171.grads.length c209 rfl r68.2.1 A63 r68.2.1.length c65 rfl (hm228.giveO [0, 1, 2, 3] [4, 5] [4] [.bx b203 [.slice A204 y171.l.length c205, .slice A206 y171.vers.length c207, .slice A208 y171.grads.length c209] 72, .ow kTensor 29 A204 c205 y171.l, .ow (Kd.int .i64) 3 A206 c207 y171.vers, .ow kTensor 29 A208 c209 y171.grads] _ [.sl kTensor A63 c65 r68.2.1] rfl rfl rfl (by kernel_rfl) rfl) r219 hr219) ?_)
    rintro _ w231 a232 ⟨A229, c230, rfl, hk234⟩ hf233
    have hm235 := hm228.backO [0, 1, 2, 3] [4, 5] _ _ rfl rfl (by kernel_rfl) hk234
    refine go 9 [.bool false] [0, 1, 6, 8, 67, 68, 73] [(0, .slice A0 x0.length c0), (1, .int .u8 x1), (6, .slice A63 r68.2.1.length c65), (8, .pointer (some ⟨b203, 0, none⟩)), (67, .bool false), (68, .pointer (some ⟨b203, 0, none⟩)), (73, .int .i64 (Int.tmod (w64 (x1)) (x0.length : Int)))] [.is (((r219.2 : Int) != 0) = false), .is ((x0.length : Int) ≠ 0)] hf233 (by kernel_rfl) ⟨(neF c220), g221, trivial⟩ fun a236 hf237 => ?_
    refine listOf hf237 rfl (by kernel_rfl) (aCall (fid := 12) (args := [.pointer (some ⟨b203, 0, none⟩), .int .i64 (Int.tmod (w64 (x1)) (x0.length : Int))]) (d := 74) hf237 (by kernel_rfl) (by kernel_rfl) callable12 (shelf_Shelf_Zero.calls _ _ _ (⟨y171.l, y171.vers, r219.1⟩ : Shelf) b203 A204 y171.l.length c205 rfl A206 y171.vers.length c207 rfl A229 r219.1.length c230 rfl (Int.tmod (w64 (x1)) (x0.length : Int)) (hm235.giveO [0, 1, 2, 3] [4, 5] [] [.bx b203 [.slice A204 y171.l.length c205, .slice A206 y171.vers.length c207, .slice A229 r219.1.length c230] 72, .ow kTensor 29 A204 c205 y171.l, .ow (Kd.int .i64) 3 A206 c207 y171.vers, .ow kTensor 29 A229 c230 r219.1] _ [] rfl rfl rfl (by kernel_rfl) rfl) r222 hr222) ?_)
    rintro _ w240 a241 ⟨A238, c239, rfl, hk243⟩ hf242
    have hm244 := hm235.backO [0, 1, 2, 3] [4, 5] _ _ rfl rfl (by kernel_rfl) hk243
    refine go 5 [.bool false] [0, 1, 8, 77, 78, 79] [(0, .slice A0 x0.length c0), (1, .int .u8 x1), (8, .pointer (some ⟨b203, 0, none⟩)), (77, .bool false), (78, .pointer (some ⟨b203, 0, none⟩)), (79, .slice A63 r68.2.1.length c65)] [.is (((r222.2 : Int) != 0) = false)] hf242 (by kernel_rfl) ⟨(neF c223), trivial⟩ fun a245 hf246 => ?_
    refine listOf hf246 rfl (by kernel_rfl) (aCall (fid := 11) (args := [.pointer (some ⟨b203, 0, none⟩), .slice A63 r68.2.1.length c65]) (d := 80) hf246 (by kernel_rfl) (by kernel_rfl) callable11 (shelf_Shelf_Commit.calls _ _ _ (⟨y171.l, y171.vers, r222.1⟩ : Shelf) b203 A204 y171.l.length c205 rfl A206 y171.vers.length c207 rfl A238 r222.1.length c239 rfl r68.2.1 A63 r68.2.1.length c65 rfl (hm244.giveO [0, 1, 2, 3] [4, 5] [4] [.bx b203 [.slice A204 y171.l.length c205, .slice A206 y171.vers.length c207, .slice A238 r222.1.length c239] 72, .ow kTensor 29 A204 c205 y171.l, .ow (Kd.int .i64) 3 A206 c207 y171.vers, .ow kTensor 29 A238 c239 r222.1] _ [.sl kTensor A63 c65 r68.2.1] rfl rfl rfl (by kernel_rfl) rfl) r224 hr224) ?_)
    rintro _ w249 a250 ⟨A247, c248, rfl, hk252⟩ hf251
    have hm253 := hm244.backO [0, 1, 2, 3] [4, 5] _ _ rfl rfl (by kernel_rfl) hk252
    refine go 2 [.bool false] [0, 1, 8, 82] [(0, .slice A0 x0.length c0), (1, .int .u8 x1), (8, .pointer (some ⟨b203, 0, none⟩)), (82, .bool false)] [.is (((r224.2 : Int) != 0) = false)] hf251 (by kernel_rfl) ⟨(neF c225), trivial⟩ fun a254 hf255 => ?_
    refine endL rfl ?_
    have hm256 := hm253.sel [0, 1, 2, 3, 5] _ rfl (by kernel_rfl)
    refine thenN ?_
    refine condF hf255 (by kernel_rfl) ?_
    refine wp_skip ?_
    refine thenN ?_
    refine wp_seq ?_
    refine wp_seq ?_
    refine reg [] [0, 1, 8, 10] [(0, .slice A0 x0.length c0), (1, .int .u8 x1), (8, .pointer (some ⟨b203, 0, none⟩)), (10, .int .i64 0)] [] hf255 (by kernel_rfl) trivial fun a257 hf258 => ?_
    refine thenN ?_
    obtain ⟨r260, hr260, H0⟩ := ob_split H0
    refine wpBlock (Mid := fun (a : Act) (w : World) => ∃ yr260 : Int, r260 = .go yr260 ∧ Fr 144 a [(0, .slice A0 x0.length c0), (1, .int .u8 x1), (8, .pointer (some ⟨b203, 0, none⟩)), (10, .int .i64 yr260)] ∧ Mem [] M w0 [.bx b203 [.slice A204 y171.l.length c205, .slice A206 y171.vers.length c207, .slice A247 r224.1.length c248] 72, .ow kTensor 29 A204 c205 y171.l, .ow (Kd.int .i64) 3 A206 c207 y171.vers, .ow kTensor 29 A247 c248 r224.1, .sl (Kd.int .i16) A0 c0 x0] w) ?_ ?_
    · refine wpLoop (law19_ShelfZeros.l1 x0 x1 y171 r224) r260 (fun (s259 : Int) (a : Act) (w : World) => Fr 144 a [(0, .slice A0 x0.length c0), (1, .int .u8 x1), (8, .pointer (some ⟨b203, 0, none⟩)), (10, .int .i64 s259)] ∧ Mem [] M w0 [.bx b203 [.slice A204 y171.l.length c205, .slice A206 y171.vers.length c207, .slice A247 r224.1.length c248] 72, .ow kTensor 29 A204 c205 y171.l, .ow (Kd.int .i64) 3 A206 c207 y171.vers, .ow kTensor 29 A247 c248 r224.1, .sl (Kd.int .i16) A0 c0 x0] w) 0 hr260 ⟨hf258.sel (l := [0, 1, 8, 10]) (by kernel_rfl), hm256.sel [0, 1, 2, 3, 4] _ rfl (by kernel_rfl)⟩ ?_
      rintro g261 s259 a262 w263 H1 ⟨hf264, hm265⟩
      unfold law19_ShelfZeros.l1 at H1
      refine wp_seq ?_
      refine wp_seq ?_
      rcases ifS_split H1 with ⟨c266, H1⟩ | ⟨c266, H1⟩
      rotate_left
      · refine reg [.bool false] [0, 1, 8, 10, 86] [(0, .slice A0 x0.length c0), (1, .int .u8 x1), (8, .pointer (some ⟨b203, 0, none⟩)), (10, .int .i64 s259), (86, .bool false)] [.is (decide (s259 < (x0.length : Int)) = false)] hf264 (by kernel_rfl) ⟨(decide_eq_false c266), trivial⟩ fun a517 hf518 => ?_
        refine thenN ?_
        refine condF hf518 (by kernel_rfl) ?_
        refine wp_exit ?_
        refine thenE ?_
        refine thenE ?_
        obtain rfl := Option.some.inj H1
        exact .inl ⟨rfl, s259, rfl, hf518.sel (l := [0, 1, 8, 10]) (by kernel_rfl), hm265.sel [0, 1, 2, 3, 4] _ rfl (by kernel_rfl)⟩
      refine reg [.bool true] [0, 1, 8, 10, 86] [(0, .slice A0 x0.length c0), (1, .int .u8 x1), (8, .pointer (some ⟨b203, 0, none⟩)), (10, .int .i64 s259), (86, .bool true)] [.is (decide (s259 < (x0.length : Int)) = true)] hf264 (by kernel_rfl) ⟨(decide_eq_true c266), trivial⟩ fun a267 hf268 => ?_
      refine thenN ?_
      refine condT hf268 (by kernel_rfl) ?_
      refine wp_skip ?_
      refine thenN ?_
      refine wp_seq ?_
      refine wp_block ?_
      refine wp_seq ?_
      obtain ⟨g269, H1⟩ := ifS_guard H1
      have q270 := (hm265.slAt 4 rfl).int s259 g269.1 g269.2
      refine inReg ?_
      refine go 5 [.int .i16 (rd x0 s259)] [0, 1, 8, 10, 93] [(0, .slice A0 x0.length c0), (1, .int .u8 x1), (8, .pointer (some ⟨b203, 0, none⟩)), (10, .int .i64 s259), (93, .float .f64 (FloatKind.f64.nearest (rd x0 s259)))] [.is (Option.isSome A0 = true), .is (0 ≤ s259 ∧ s259 < (x0.length : Int)), .cell ((ad A0).add ((s259).toNat * 1)) (.int .i16 (rd x0 s259))] hf268 (by kernel_rfl) ⟨q270.1, g269, q270.2, trivial⟩ fun a271 hf272 => ?_
      refine listOf hf272 rfl (by kernel_rfl) (aArith (k := 2) (b := 4611686018427387904) (c := (FloatKind.f64.nearest (rd x0 s259))) (x := 4611686018427387904) (y := (ofInt (rd x0 s259))) (d := 94) hf272 (by kernel_rfl) (by kernel_rfl) (FR.lit (by kernel_rfl) (by kernel_rfl)) (FR.ofInt (rd x0 s259)) ?_)
      intro b273 w274 a275 hb273 hg277 hf276
      replace hb273 : FR b273 (fmul 4611686018427387904 (ofInt (rd x0 s259))) := hb273
      have hm278 := hm265.still hg277
      refine go 1 [] [0, 1, 8, 10, 11] [(0, .slice A0 x0.length c0), (1, .int .u8 x1), (8, .pointer (some ⟨b203, 0, none⟩)), (10, .int .i64 s259), (11, .float .f64 b273)] [] hf276 (by kernel_rfl) trivial fun a279 hf280 => ?_
      refine endL rfl ?_
      refine thenN ?_
      refine wp_seq ?_
      refine wp_seq ?_
      rcases ifS_split H1 with ⟨c281, H1⟩ | ⟨c281, H1⟩
      rotate_left
      · refine reg [.bool false] [0, 1, 8, 10, 11, 101] [(0, .slice A0 x0.length c0), (1, .int .u8 x1), (8, .pointer (some ⟨b203, 0, none⟩)), (10, .int .i64 s259), (11, .float .f64 b273), (101, .bool false)] [.is ((x0.length : Int) ≠ 0), .is (((s259 : Int) == (Int.tmod (w64 (x1)) (x0.length : Int))) = false)] hf280 (by kernel_rfl) ⟨g221, (eqF c281), trivial⟩ fun a401 hf402 => ?_
        refine thenN ?_
        refine condF hf402 (by kernel_rfl) ?_
        refine wp_skip ?_
        refine thenN ?_
        refine wp_seq ?_
        obtain ⟨r403, hr403, H1⟩ := obS_split H1
        refine inReg ?_
        refine go 2 [] [0, 1, 8, 10, 11, 108, 109] [(0, .slice A0 x0.length c0), (1, .int .u8 x1), (8, .pointer (some ⟨b203, 0, none⟩)), (10, .int .i64 s259), (11, .float .f64 b273), (108, .pointer (some ⟨b203, 0, none⟩)), (109, .int .i64 s259)] [] hf402 (by kernel_rfl) trivial fun a404 hf405 => ?_
        refine listOf hf405 rfl (by kernel_rfl) (aCall (fid := 13) (args := [.pointer (some ⟨b203, 0, none⟩), .int .i64 s259]) (d := 110) hf405 (by kernel_rfl) (by kernel_rfl) callable13 (shelf_Shelf_Grad.calls _ _ _ (⟨y171.l, y171.vers, r224.1⟩ : Shelf) b203 A204 y171.l.length c205 rfl A206 y171.vers.length c207 rfl A247 r224.1.length c248 rfl s259 (hm278.giveO [0, 1, 2, 3] [4] [] [.bx b203 [.slice A204 y171.l.length c205, .slice A206 y171.vers.length c207, .slice A247 r224.1.length c248] 72, .ow kTensor 29 A204 c205 y171.l, .ow (Kd.int .i64) 3 A206 c207 y171.vers, .ow kTensor 29 A247 c248 r224.1] _ [] rfl rfl rfl (by kernel_rfl) rfl) r403 hr403) ?_)
        rintro _ w410 a411 ⟨A406, c407, A408, c409, rfl, hk413⟩ hf412
        have hm414 := hm278.backO [0, 1, 2, 3] [4] _ _ rfl rfl (by kernel_rfl) hk413
        have hm415 := hm414.seal 4 _ rfl rfl
        have hm416 := hm415.seal 5 _ rfl rfl
        refine go 3 [] [0, 1, 8, 10, 11, 111, 112] [(0, .slice A0 x0.length c0), (1, .int .u8 x1), (8, .pointer (some ⟨b203, 0, none⟩)), (10, .int .i64 s259), (11, .float .f64 b273), (111, .agg #[.slice A406 r403.1.Shape.length c407, .slice A408 r403.1.Data.length c409]), (112, .int .i64 r403.2)] [] hf412 (by kernel_rfl) trivial fun a417 hf418 => ?_
        refine listOf hf418 rfl (by kernel_rfl) (aNew (cs := [.slice none 0 0, .slice none 0 0]) (T := 29) (d := 12) hf418 (by kernel_rfl) (by kernel_rfl) ?_)
        intro b419 w420 a421 hbb419 hx423 hg424 hf422
        have hm425 := hm416.box hbb419 hx423 hg424
        refine listOf hf422 rfl (by kernel_rfl) (aStoreB (b := b419) (j := 0) (T := 29) (cs := [.slice none 0 0, .slice none 0 0]) (us := [.slice A406 r403.1.Shape.length c407, .slice A408 r403.1.Data.length c409]) (cs' := [.slice A406 r403.1.Shape.length c407, .slice A408 r403.1.Data.length c409]) hf422 (by kernel_rfl) (hm425.bxAt 0 rfl) (by kernel_rfl) (by kernel_rfl) (by kernel_rfl) ?_)
        intro w426 hx427 hg428
        have hm429 := hm425.setBox 0 _ rfl rfl hx427 hg428
        refine go 1 [] [0, 1, 8, 10, 11, 12, 13] [(0, .slice A0 x0.length c0), (1, .int .u8 x1), (8, .pointer (some ⟨b203, 0, none⟩)), (10, .int .i64 s259), (11, .float .f64 b273), (12, .pointer (some ⟨b419, 0, none⟩)), (13, .int .i64 r403.2)] [] hf422 (by kernel_rfl) trivial fun a430 hf431 => ?_
        refine endL rfl ?_
        refine thenN ?_
        refine wp_seq ?_
        obtain ⟨r432, hr432, H1⟩ := obS_split H1
        refine inReg ?_
        refine go 2 [] [0, 1, 8, 10, 11, 12, 13, 114, 115] [(0, .slice A0 x0.length c0), (1, .int .u8 x1), (8, .pointer (some ⟨b203, 0, none⟩)), (10, .int .i64 s259), (11, .float .f64 b273), (12, .pointer (some ⟨b419, 0, none⟩)), (13, .int .i64 r403.2), (114, .pointer (some ⟨b203, 0, none⟩)), (115, .int .i64 s259)] [] hf431 (by kernel_rfl) trivial fun a433 hf434 => ?_
        refine listOf hf434 rfl (by kernel_rfl) (aCall (fid := 14) (args := [.pointer (some ⟨b203, 0, none⟩), .int .i64 s259]) (d := 116) hf434 (by kernel_rfl) (by kernel_rfl) callable14 (shelf_Shelf_Get.calls _ _ _ (⟨y171.l, y171.vers, r224.1⟩ : Shelf) b203 A204 y171.l.length c205 rfl A206 y171.vers.length c207 rfl A247 r224.1.length c248 rfl s259 (hm429.giveO [1, 2, 3, 4] [0, 5, 6, 7] [] [.bx b203 [.slice A204 y171.l.length c205, .slice A206 y171.vers.length c207, .slice A247 r224.1.length c248] 72, .ow kTensor 29 A204 c205 y171.l, .ow (Kd.int .i64) 3 A206 c207 y171.vers, .ow kTensor 29 A247 c248 r224.1] _ [] rfl rfl rfl (by kernel_rfl) rfl) r432 hr432) ?_)
        rintro _ w439 a440 ⟨A435, c436, A437, c438, rfl, hk442⟩ hf441
        have hm443 := hm429.backO [1, 2, 3, 4] [0, 5, 6, 7] _ _ rfl rfl (by kernel_rfl) hk442
        have hm444 := hm443.seal 4 _ rfl rfl
        have hm445 := hm444.seal 5 _ rfl rfl
        refine go 4 [] [0, 1, 8, 10, 11, 12, 13, 117, 118, 119] [(0, .slice A0 x0.length c0), (1, .int .u8 x1), (8, .pointer (some ⟨b203, 0, none⟩)), (10, .int .i64 s259), (11, .float .f64 b273), (12, .pointer (some ⟨b419, 0, none⟩)), (13, .int .i64 r403.2), (117, .agg #[.slice A435 r432.1.Shape.length c436, .slice A437 r432.1.Data.length c438]), (118, .int .i64 r432.2.1), (119, .int .i64 r432.2.2)] [] hf441 (by kernel_rfl) trivial fun a446 hf447 => ?_
        refine listOf hf447 rfl (by kernel_rfl) (aNew (cs := [.slice none 0 0, .slice none 0 0]) (T := 29) (d := 14) hf447 (by kernel_rfl) (by kernel_rfl) ?_)
        intro b448 w449 a450 hbb448 hx452 hg453 hf451
        have hm454 := hm445.box hbb448 hx452 hg453
        refine listOf hf451 rfl (by kernel_rfl) (aStoreB (b := b448) (j := 0) (T := 29) (cs := [.slice none 0 0, .slice none 0 0]) (us := [.slice A435 r432.1.Shape.length c436, .slice A437 r432.1.Data.length c438]) (cs' := [.slice A435 r432.1.Shape.length c436, .slice A437 r432.1.Data.length c438]) hf451 (by kernel_rfl) (hm454.bxAt 0 rfl) (by kernel_rfl) (by kernel_rfl) (by kernel_rfl) ?_)
        intro w455 hx456 hg457
        have hm458 := hm454.setBox 0 _ rfl rfl hx456 hg457
        refine go 2 [] [0, 1, 8, 10, 11, 12, 13, 15, 16] [(0, .slice A0 x0.length c0), (1, .int .u8 x1), (8, .pointer (some ⟨b203, 0, none⟩)), (10, .int .i64 s259), (11, .float .f64 b273), (12, .pointer (some ⟨b419, 0, none⟩)), (13, .int .i64 r403.2), (15, .int .i64 r432.2.1), (16, .int .i64 r432.2.2)] [] hf451 (by kernel_rfl) trivial fun a459 hf460 => ?_
        refine endL rfl ?_
        have hm461 := hm458.sel [1, 2, 3, 4, 7, 8, 9, 10] _ rfl (by kernel_rfl)
        refine thenN ?_
        refine wp_seq ?_
        rcases ifS_split H1 with ⟨c462, H1⟩ | ⟨c462, H1⟩
        rotate_left
        · refine reg [.bool true] [0, 1, 8, 10, 143] [(0, .slice A0 x0.length c0), (1, .int .u8 x1), (8, .pointer (some ⟨b203, 0, none⟩)), (10, .int .i64 s259), (143, .bool true)] [.is (((r403.2 : Int) != 0) = true)] hf460 (by kernel_rfl) ⟨(neT c462), trivial⟩ fun a509 hf510 => ?_
          have hm511 := hm461.sel [0, 1, 2, 3, 7] _ rfl (by kernel_rfl)
          refine thenN ?_
          refine condT hf510 (by kernel_rfl) ?_
          refine wp_seq ?_
          refine reg [] [4] [(4, .bool false)] [] hf510 (by kernel_rfl) trivial fun a512 hf513 => ?_
          have hm514 := hm511.sel [] _ rfl (by kernel_rfl)
          refine thenN ?_
          refine wp_ret ?_
          refine blkR ?_
          refine thenR ?_
          refine thenR ?_
          refine .inr ⟨rfl, ?_⟩
          refine thenR ?_
          have hm515 : Mem [] M w0 [] w455 := hm514.sel [] _ rfl (by kernel_rfl)
          obtain rfl := Option.some.inj H1
          obtain rfl := Option.some.inj H0
          refine ret [] [.bool false] [] hf513 (by kernel_rfl) trivial ?_
          exact ⟨_, rfl, rfl, hm515⟩
        rcases ifS_split H1 with ⟨c463, H1⟩ | ⟨c463, H1⟩
        rotate_left
        · refine reg [.bool false, .bool true] [0, 1, 8, 10, 143] [(0, .slice A0 x0.length c0), (1, .int .u8 x1), (8, .pointer (some ⟨b203, 0, none⟩)), (10, .int .i64 s259), (143, .bool true)] [.is (((r403.2 : Int) != 0) = false), .is (((r432.2.2 : Int) != 0) = true)] hf460 (by kernel_rfl) ⟨(neF c462), (neT c463), trivial⟩ fun a501 hf502 => ?_
          have hm503 := hm461.sel [0, 1, 2, 3, 7] _ rfl (by kernel_rfl)
          refine thenN ?_
          refine condT hf502 (by kernel_rfl) ?_
          refine wp_seq ?_
          refine reg [] [4] [(4, .bool false)] [] hf502 (by kernel_rfl) trivial fun a504 hf505 => ?_
          have hm506 := hm503.sel [] _ rfl (by kernel_rfl)
          refine thenN ?_
          refine wp_ret ?_
          refine blkR ?_
          refine thenR ?_
          refine thenR ?_
          refine .inr ⟨rfl, ?_⟩
          refine thenR ?_
          have hm507 : Mem [] M w0 [] w455 := hm506.sel [] _ rfl (by kernel_rfl)
          obtain rfl := Option.some.inj H1
          obtain rfl := Option.some.inj H0
          refine ret [] [.bool false] [] hf505 (by kernel_rfl) trivial ?_
          exact ⟨_, rfl, rfl, hm507⟩
        rcases ifS_split H1 with ⟨c464, H1⟩ | ⟨c464, H1⟩
        rotate_left
        · refine reg [.bool false, .bool false, .bool true] [0, 1, 8, 10, 143] [(0, .slice A0 x0.length c0), (1, .int .u8 x1), (8, .pointer (some ⟨b203, 0, none⟩)), (10, .int .i64 s259), (143, .bool true)] [.is (((r403.2 : Int) != 0) = false), .is (((r432.2.2 : Int) != 0) = false), .is (((r432.2.1 : Int) != 0) = true)] hf460 (by kernel_rfl) ⟨(neF c462), (neF c463), (neT c464), trivial⟩ fun a493 hf494 => ?_
          have hm495 := hm461.sel [0, 1, 2, 3, 7] _ rfl (by kernel_rfl)
          refine thenN ?_
          refine condT hf494 (by kernel_rfl) ?_
          refine wp_seq ?_
          refine reg [] [4] [(4, .bool false)] [] hf494 (by kernel_rfl) trivial fun a496 hf497 => ?_
          have hm498 := hm495.sel [] _ rfl (by kernel_rfl)
          refine thenN ?_
          refine wp_ret ?_
          refine blkR ?_
          refine thenR ?_
          refine thenR ?_
          refine .inr ⟨rfl, ?_⟩
          refine thenR ?_
          have hm499 : Mem [] M w0 [] w455 := hm498.sel [] _ rfl (by kernel_rfl)
          obtain rfl := Option.some.inj H1
          obtain rfl := Option.some.inj H0
          refine ret [] [.bool false] [] hf497 (by kernel_rfl) trivial ?_
          exact ⟨_, rfl, rfl, hm499⟩
        rcases ifS_split H1 with ⟨c465, H1⟩ | ⟨c465, H1⟩
        rotate_left
        · refine reg [.bool false, .bool false, .bool false, .slice A408 r403.1.Data.length c409, .bool true] [0, 1, 8, 10, 143] [(0, .slice A0 x0.length c0), (1, .int .u8 x1), (8, .pointer (some ⟨b203, 0, none⟩)), (10, .int .i64 s259), (143, .bool true)] [.is (((r403.2 : Int) != 0) = false), .is (((r432.2.2 : Int) != 0) = false), .is (((r432.2.1 : Int) != 0) = false), .cell ⟨b419, 1, none⟩ (.slice A408 r403.1.Data.length c409), .is ((((r403.1.Data.length : Int) : Int) != 1) = true)] hf460 (by kernel_rfl) ⟨(neF c462), (neF c463), (neF c464), (hm461.cell 4 rfl rfl), (neT c465), trivial⟩ fun a485 hf486 => ?_
          have hm487 := hm461.sel [0, 1, 2, 3, 7] _ rfl (by kernel_rfl)
          refine thenN ?_
          refine condT hf486 (by kernel_rfl) ?_
          refine wp_seq ?_
          refine reg [] [4] [(4, .bool false)] [] hf486 (by kernel_rfl) trivial fun a488 hf489 => ?_
          have hm490 := hm487.sel [] _ rfl (by kernel_rfl)
          refine thenN ?_
          refine wp_ret ?_
          refine blkR ?_
          refine thenR ?_
          refine thenR ?_
          refine .inr ⟨rfl, ?_⟩
          refine thenR ?_
          have hm491 : Mem [] M w0 [] w455 := hm490.sel [] _ rfl (by kernel_rfl)
          obtain rfl := Option.some.inj H1
          obtain rfl := Option.some.inj H0
          refine ret [] [.bool false] [] hf489 (by kernel_rfl) trivial ?_
          exact ⟨_, rfl, rfl, hm491⟩
        obtain ⟨g466, H1⟩ := ifS_guard H1
        rcases ifbS_split H1 with ⟨c467, H1⟩ | ⟨c467, H1⟩
        rotate_left
        · have q478 := (hm461.slAt 6 rfl).float 0 g466.1 g466.2
          obtain ⟨b479, hb479, kb479⟩ := q478.2
          refine reg [.bool false, .bool false, .bool false, .slice A408 r403.1.Data.length c409, .bool false, .slice A408 r403.1.Data.length c409, .float .f64 b479, .bool false] [0, 1, 8, 10, 143] [(0, .slice A0 x0.length c0), (1, .int .u8 x1), (8, .pointer (some ⟨b203, 0, none⟩)), (10, .int .i64 s259), (143, .bool false)] [.is (((r403.2 : Int) != 0) = false), .is (((r432.2.2 : Int) != 0) = false), .is (((r432.2.1 : Int) != 0) = false), .cell ⟨b419, 1, none⟩ (.slice A408 r403.1.Data.length c409), .is ((((r403.1.Data.length : Int) : Int) != 1) = false), .cell ⟨b419, 1, none⟩ (.slice A408 r403.1.Data.length c409), .is (Option.isSome A408 = true), .is ((0 : Int) ≤ 0 ∧ 0 < (r403.1.Data.length : Int)), .cell ((ad A408).add ((0 : Int).toNat * 1)) (.float .f64 b479), .is ((FloatKind.f64.format.order b479 b273 != some .eq) = false)] hf460 (by kernel_rfl) ⟨(neF c462), (neF c463), (neF c464), (hm461.cell 4 rfl rfl), (neF c465), (hm461.cell 4 rfl rfl), q478.1, g466, kb479, (ftNe hb479 hb273 c467), trivial⟩ fun a480 hf481 => ?_
          have hm482 := hm461.sel [0, 1, 2, 3, 7] _ rfl (by kernel_rfl)
          refine thenN ?_
          refine condF hf481 (by kernel_rfl) ?_
          refine wp_skip ?_
          refine blkN ?_
          refine thenN ?_
          refine reg [] [0, 1, 8, 10] [(0, .slice A0 x0.length c0), (1, .int .u8 x1), (8, .pointer (some ⟨b203, 0, none⟩)), (10, .int .i64 (w64 (s259 + 1)))] [] hf481 (by kernel_rfl) trivial fun a483 hf484 => ?_
          exact ⟨(w64 (s259 + 1)), H1, hf484.sel (l := [0, 1, 8, 10]) (by kernel_rfl), hm482.sel [0, 1, 2, 3, 4] _ rfl (by kernel_rfl)⟩
        have q468 := (hm461.slAt 6 rfl).float 0 g466.1 g466.2
        obtain ⟨b469, hb469, kb469⟩ := q468.2
        refine reg [.bool false, .bool false, .bool false, .slice A408 r403.1.Data.length c409, .bool false, .slice A408 r403.1.Data.length c409, .float .f64 b469, .bool true] [0, 1, 8, 10, 143] [(0, .slice A0 x0.length c0), (1, .int .u8 x1), (8, .pointer (some ⟨b203, 0, none⟩)), (10, .int .i64 s259), (143, .bool true)] [.is (((r403.2 : Int) != 0) = false), .is (((r432.2.2 : Int) != 0) = false), .is (((r432.2.1 : Int) != 0) = false), .cell ⟨b419, 1, none⟩ (.slice A408 r403.1.Data.length c409), .is ((((r403.1.Data.length : Int) : Int) != 1) = false), .cell ⟨b419, 1, none⟩ (.slice A408 r403.1.Data.length c409), .is (Option.isSome A408 = true), .is ((0 : Int) ≤ 0 ∧ 0 < (r403.1.Data.length : Int)), .cell ((ad A408).add ((0 : Int).toNat * 1)) (.float .f64 b469), .is ((FloatKind.f64.format.order b469 b273 != some .eq) = true)] hf460 (by kernel_rfl) ⟨(neF c462), (neF c463), (neF c464), (hm461.cell 4 rfl rfl), (neF c465), (hm461.cell 4 rfl rfl), q468.1, g466, kb469, (ftNe hb469 hb273 c467), trivial⟩ fun a470 hf471 => ?_
        have hm472 := hm461.sel [0, 1, 2, 3, 7] _ rfl (by kernel_rfl)
        refine thenN ?_
        refine condT hf471 (by kernel_rfl) ?_
        refine wp_seq ?_
        refine reg [] [4] [(4, .bool false)] [] hf471 (by kernel_rfl) trivial fun a473 hf474 => ?_
        have hm475 := hm472.sel [] _ rfl (by kernel_rfl)
        refine thenN ?_
        refine wp_ret ?_
        refine blkR ?_
        refine thenR ?_
        refine thenR ?_
        refine .inr ⟨rfl, ?_⟩
        refine thenR ?_
        have hm476 : Mem [] M w0 [] w455 := hm475.sel [] _ rfl (by kernel_rfl)
        obtain rfl := Option.some.inj H1
        obtain rfl := Option.some.inj H0
        refine ret [] [.bool false] [] hf474 (by kernel_rfl) trivial ?_
        exact ⟨_, rfl, rfl, hm476⟩
      refine reg [.bool true] [0, 1, 8, 10, 11, 101] [(0, .slice A0 x0.length c0), (1, .int .u8 x1), (8, .pointer (some ⟨b203, 0, none⟩)), (10, .int .i64 s259), (11, .float .f64 b273), (101, .bool true)] [.is ((x0.length : Int) ≠ 0), .is (((s259 : Int) == (Int.tmod (w64 (x1)) (x0.length : Int))) = true)] hf280 (by kernel_rfl) ⟨g221, (eqT c281), trivial⟩ fun a282 hf283 => ?_
      refine thenN ?_
      refine condT hf283 (by kernel_rfl) ?_
      have q284 := (hm278.slAt 4 rfl).int s259 g269.1 g269.2
      refine reg [.int .i16 (rd x0 s259)] [0, 1, 8, 10, 11] [(0, .slice A0 x0.length c0), (1, .int .u8 x1), (8, .pointer (some ⟨b203, 0, none⟩)), (10, .int .i64 s259), (11, .float .f64 (FloatKind.f64.nearest (rd x0 s259)))] [.is (Option.isSome A0 = true), .is (0 ≤ s259 ∧ s259 < (x0.length : Int)), .cell ((ad A0).add ((s259).toNat * 1)) (.int .i16 (rd x0 s259))] hf283 (by kernel_rfl) ⟨q284.1, g269, q284.2, trivial⟩ fun a285 hf286 => ?_
      refine thenN ?_
      refine wp_seq ?_
      obtain ⟨r287, hr287, H1⟩ := obS_split H1
      refine inReg ?_
      refine go 2 [] [0, 1, 8, 10, 11, 108, 109] [(0, .slice A0 x0.length c0), (1, .int .u8 x1), (8, .pointer (some ⟨b203, 0, none⟩)), (10, .int .i64 s259), (11, .float .f64 (FloatKind.f64.nearest (rd x0 s259))), (108, .pointer (some ⟨b203, 0, none⟩)), (109, .int .i64 s259)] [] hf286 (by kernel_rfl) trivial fun a288 hf289 => ?_
      refine listOf hf289 rfl (by kernel_rfl) (aCall (fid := 13) (args := [.pointer (some ⟨b203, 0, none⟩), .int .i64 s259]) (d := 110) hf289 (by kernel_rfl) (by kernel_rfl) callable13 (shelf_Shelf_Grad.calls _ _ _ (⟨y171.l, y171.vers, r224.1⟩ : Shelf) b203 A204 y171.l.length c205 rfl A206 y171.vers.length c207 rfl A247 r224.1.length c248 rfl s259 (hm278.giveO [0, 1, 2, 3] [4] [] [.bx b203 [.slice A204 y171.l.length c205, .slice A206 y171.vers.length c207, .slice A247 r224.1.length c248] 72, .ow kTensor 29 A204 c205 y171.l, .ow (Kd.int .i64) 3 A206 c207 y171.vers, .ow kTensor 29 A247 c248 r224.1] _ [] rfl rfl rfl (by kernel_rfl) rfl) r287 hr287) ?_)
      rintro _ w294 a295 ⟨A290, c291, A292, c293, rfl, hk297⟩ hf296
      have hm298 := hm278.backO [0, 1, 2, 3] [4] _ _ rfl rfl (by kernel_rfl) hk297
      have hm299 := hm298.seal 4 _ rfl rfl
      have hm300 := hm299.seal 5 _ rfl rfl
      refine go 3 [] [0, 1, 8, 10, 11, 111, 112] [(0, .slice A0 x0.length c0), (1, .int .u8 x1), (8, .pointer (some ⟨b203, 0, none⟩)), (10, .int .i64 s259), (11, .float .f64 (FloatKind.f64.nearest (rd x0 s259))), (111, .agg #[.slice A290 r287.1.Shape.length c291, .slice A292 r287.1.Data.length c293]), (112, .int .i64 r287.2)] [] hf296 (by kernel_rfl) trivial fun a301 hf302 => ?_
      refine listOf hf302 rfl (by kernel_rfl) (aNew (cs := [.slice none 0 0, .slice none 0 0]) (T := 29) (d := 12) hf302 (by kernel_rfl) (by kernel_rfl) ?_)
      intro b303 w304 a305 hbb303 hx307 hg308 hf306
      have hm309 := hm300.box hbb303 hx307 hg308
      refine listOf hf306 rfl (by kernel_rfl) (aStoreB (b := b303) (j := 0) (T := 29) (cs := [.slice none 0 0, .slice none 0 0]) (us := [.slice A290 r287.1.Shape.length c291, .slice A292 r287.1.Data.length c293]) (cs' := [.slice A290 r287.1.Shape.length c291, .slice A292 r287.1.Data.length c293]) hf306 (by kernel_rfl) (hm309.bxAt 0 rfl) (by kernel_rfl) (by kernel_rfl) (by kernel_rfl) ?_)
      intro w310 hx311 hg312
      have hm313 := hm309.setBox 0 _ rfl rfl hx311 hg312
      refine go 1 [] [0, 1, 8, 10, 11, 12, 13] [(0, .slice A0 x0.length c0), (1, .int .u8 x1), (8, .pointer (some ⟨b203, 0, none⟩)), (10, .int .i64 s259), (11, .float .f64 (FloatKind.f64.nearest (rd x0 s259))), (12, .pointer (some ⟨b303, 0, none⟩)), (13, .int .i64 r287.2)] [] hf306 (by kernel_rfl) trivial fun a314 hf315 => ?_
      refine endL rfl ?_
      refine thenN ?_
      refine wp_seq ?_
      obtain ⟨r316, hr316, H1⟩ := obS_split H1
      refine inReg ?_
      refine go 2 [] [0, 1, 8, 10, 11, 12, 13, 114, 115] [(0, .slice A0 x0.length c0), (1, .int .u8 x1), (8, .pointer (some ⟨b203, 0, none⟩)), (10, .int .i64 s259), (11, .float .f64 (FloatKind.f64.nearest (rd x0 s259))), (12, .pointer (some ⟨b303, 0, none⟩)), (13, .int .i64 r287.2), (114, .pointer (some ⟨b203, 0, none⟩)), (115, .int .i64 s259)] [] hf315 (by kernel_rfl) trivial fun a317 hf318 => ?_
      refine listOf hf318 rfl (by kernel_rfl) (aCall (fid := 14) (args := [.pointer (some ⟨b203, 0, none⟩), .int .i64 s259]) (d := 116) hf318 (by kernel_rfl) (by kernel_rfl) callable14 (shelf_Shelf_Get.calls _ _ _ (⟨y171.l, y171.vers, r224.1⟩ : Shelf) b203 A204 y171.l.length c205 rfl A206 y171.vers.length c207 rfl A247 r224.1.length c248 rfl s259 (hm313.giveO [1, 2, 3, 4] [0, 5, 6, 7] [] [.bx b203 [.slice A204 y171.l.length c205, .slice A206 y171.vers.length c207, .slice A247 r224.1.length c248] 72, .ow kTensor 29 A204 c205 y171.l, .ow (Kd.int .i64) 3 A206 c207 y171.vers, .ow kTensor 29 A247 c248 r224.1] _ [] rfl rfl rfl (by kernel_rfl) rfl) r316 hr316) ?_)
      rintro _ w323 a324 ⟨A319, c320, A321, c322, rfl, hk326⟩ hf325
      have hm327 := hm313.backO [1, 2, 3, 4] [0, 5, 6, 7] _ _ rfl rfl (by kernel_rfl) hk326
      have hm328 := hm327.seal 4 _ rfl rfl
      have hm329 := hm328.seal 5 _ rfl rfl
      refine go 4 [] [0, 1, 8, 10, 11, 12, 13, 117, 118, 119] [(0, .slice A0 x0.length c0), (1, .int .u8 x1), (8, .pointer (some ⟨b203, 0, none⟩)), (10, .int .i64 s259), (11, .float .f64 (FloatKind.f64.nearest (rd x0 s259))), (12, .pointer (some ⟨b303, 0, none⟩)), (13, .int .i64 r287.2), (117, .agg #[.slice A319 r316.1.Shape.length c320, .slice A321 r316.1.Data.length c322]), (118, .int .i64 r316.2.1), (119, .int .i64 r316.2.2)] [] hf325 (by kernel_rfl) trivial fun a330 hf331 => ?_
      refine listOf hf331 rfl (by kernel_rfl) (aNew (cs := [.slice none 0 0, .slice none 0 0]) (T := 29) (d := 14) hf331 (by kernel_rfl) (by kernel_rfl) ?_)
      intro b332 w333 a334 hbb332 hx336 hg337 hf335
      have hm338 := hm329.box hbb332 hx336 hg337
      refine listOf hf335 rfl (by kernel_rfl) (aStoreB (b := b332) (j := 0) (T := 29) (cs := [.slice none 0 0, .slice none 0 0]) (us := [.slice A319 r316.1.Shape.length c320, .slice A321 r316.1.Data.length c322]) (cs' := [.slice A319 r316.1.Shape.length c320, .slice A321 r316.1.Data.length c322]) hf335 (by kernel_rfl) (hm338.bxAt 0 rfl) (by kernel_rfl) (by kernel_rfl) (by kernel_rfl) ?_)
      intro w339 hx340 hg341
      have hm342 := hm338.setBox 0 _ rfl rfl hx340 hg341
      refine go 2 [] [0, 1, 8, 10, 11, 12, 13, 15, 16] [(0, .slice A0 x0.length c0), (1, .int .u8 x1), (8, .pointer (some ⟨b203, 0, none⟩)), (10, .int .i64 s259), (11, .float .f64 (FloatKind.f64.nearest (rd x0 s259))), (12, .pointer (some ⟨b303, 0, none⟩)), (13, .int .i64 r287.2), (15, .int .i64 r316.2.1), (16, .int .i64 r316.2.2)] [] hf335 (by kernel_rfl) trivial fun a343 hf344 => ?_
      refine endL rfl ?_
      have hm345 := hm342.sel [1, 2, 3, 4, 7, 8, 9, 10] _ rfl (by kernel_rfl)
      refine thenN ?_
      refine wp_seq ?_
      rcases ifS_split H1 with ⟨c346, H1⟩ | ⟨c346, H1⟩
      rotate_left
      · refine reg [.bool true] [0, 1, 8, 10, 143] [(0, .slice A0 x0.length c0), (1, .int .u8 x1), (8, .pointer (some ⟨b203, 0, none⟩)), (10, .int .i64 s259), (143, .bool true)] [.is (((r287.2 : Int) != 0) = true)] hf344 (by kernel_rfl) ⟨(neT c346), trivial⟩ fun a393 hf394 => ?_
        have hm395 := hm345.sel [0, 1, 2, 3, 7] _ rfl (by kernel_rfl)
        refine thenN ?_
        refine condT hf394 (by kernel_rfl) ?_
        refine wp_seq ?_
        refine reg [] [4] [(4, .bool false)] [] hf394 (by kernel_rfl) trivial fun a396 hf397 => ?_
        have hm398 := hm395.sel [] _ rfl (by kernel_rfl)
        refine thenN ?_
        refine wp_ret ?_
        refine blkR ?_
        refine thenR ?_
        refine thenR ?_
        refine .inr ⟨rfl, ?_⟩
        refine thenR ?_
        have hm399 : Mem [] M w0 [] w339 := hm398.sel [] _ rfl (by kernel_rfl)
        obtain rfl := Option.some.inj H1
        obtain rfl := Option.some.inj H0
        refine ret [] [.bool false] [] hf397 (by kernel_rfl) trivial ?_
        exact ⟨_, rfl, rfl, hm399⟩
      rcases ifS_split H1 with ⟨c347, H1⟩ | ⟨c347, H1⟩
      rotate_left
      · refine reg [.bool false, .bool true] [0, 1, 8, 10, 143] [(0, .slice A0 x0.length c0), (1, .int .u8 x1), (8, .pointer (some ⟨b203, 0, none⟩)), (10, .int .i64 s259), (143, .bool true)] [.is (((r287.2 : Int) != 0) = false), .is (((r316.2.2 : Int) != 0) = true)] hf344 (by kernel_rfl) ⟨(neF c346), (neT c347), trivial⟩ fun a385 hf386 => ?_
        have hm387 := hm345.sel [0, 1, 2, 3, 7] _ rfl (by kernel_rfl)
        refine thenN ?_
        refine condT hf386 (by kernel_rfl) ?_
        refine wp_seq ?_
        refine reg [] [4] [(4, .bool false)] [] hf386 (by kernel_rfl) trivial fun a388 hf389 => ?_
        have hm390 := hm387.sel [] _ rfl (by kernel_rfl)
        refine thenN ?_
        refine wp_ret ?_
        refine blkR ?_
        refine thenR ?_
        refine thenR ?_
        refine .inr ⟨rfl, ?_⟩
        refine thenR ?_
        have hm391 : Mem [] M w0 [] w339 := hm390.sel [] _ rfl (by kernel_rfl)
        obtain rfl := Option.some.inj H1
        obtain rfl := Option.some.inj H0
        refine ret [] [.bool false] [] hf389 (by kernel_rfl) trivial ?_
        exact ⟨_, rfl, rfl, hm391⟩
      rcases ifS_split H1 with ⟨c348, H1⟩ | ⟨c348, H1⟩
      rotate_left
      · refine reg [.bool false, .bool false, .bool true] [0, 1, 8, 10, 143] [(0, .slice A0 x0.length c0), (1, .int .u8 x1), (8, .pointer (some ⟨b203, 0, none⟩)), (10, .int .i64 s259), (143, .bool true)] [.is (((r287.2 : Int) != 0) = false), .is (((r316.2.2 : Int) != 0) = false), .is (((r316.2.1 : Int) != 0) = true)] hf344 (by kernel_rfl) ⟨(neF c346), (neF c347), (neT c348), trivial⟩ fun a377 hf378 => ?_
        have hm379 := hm345.sel [0, 1, 2, 3, 7] _ rfl (by kernel_rfl)
        refine thenN ?_
        refine condT hf378 (by kernel_rfl) ?_
        refine wp_seq ?_
        refine reg [] [4] [(4, .bool false)] [] hf378 (by kernel_rfl) trivial fun a380 hf381 => ?_
        have hm382 := hm379.sel [] _ rfl (by kernel_rfl)
        refine thenN ?_
        refine wp_ret ?_
        refine blkR ?_
        refine thenR ?_
        refine thenR ?_
        refine .inr ⟨rfl, ?_⟩
        refine thenR ?_
        have hm383 : Mem [] M w0 [] w339 := hm382.sel [] _ rfl (by kernel_rfl)
        obtain rfl := Option.some.inj H1
        obtain rfl := Option.some.inj H0
        refine ret [] [.bool false] [] hf381 (by kernel_rfl) trivial ?_
        exact ⟨_, rfl, rfl, hm383⟩
      rcases ifS_split H1 with ⟨c349, H1⟩ | ⟨c349, H1⟩
      rotate_left
      · refine reg [.bool false, .bool false, .bool false, .slice A292 r287.1.Data.length c293, .bool true] [0, 1, 8, 10, 143] [(0, .slice A0 x0.length c0), (1, .int .u8 x1), (8, .pointer (some ⟨b203, 0, none⟩)), (10, .int .i64 s259), (143, .bool true)] [.is (((r287.2 : Int) != 0) = false), .is (((r316.2.2 : Int) != 0) = false), .is (((r316.2.1 : Int) != 0) = false), .cell ⟨b303, 1, none⟩ (.slice A292 r287.1.Data.length c293), .is ((((r287.1.Data.length : Int) : Int) != 1) = true)] hf344 (by kernel_rfl) ⟨(neF c346), (neF c347), (neF c348), (hm345.cell 4 rfl rfl), (neT c349), trivial⟩ fun a369 hf370 => ?_
        have hm371 := hm345.sel [0, 1, 2, 3, 7] _ rfl (by kernel_rfl)
        refine thenN ?_
        refine condT hf370 (by kernel_rfl) ?_
        refine wp_seq ?_
        refine reg [] [4] [(4, .bool false)] [] hf370 (by kernel_rfl) trivial fun a372 hf373 => ?_
        have hm374 := hm371.sel [] _ rfl (by kernel_rfl)
        refine thenN ?_
        refine wp_ret ?_
        refine blkR ?_
        refine thenR ?_
        refine thenR ?_
        refine .inr ⟨rfl, ?_⟩
        refine thenR ?_
        have hm375 : Mem [] M w0 [] w339 := hm374.sel [] _ rfl (by kernel_rfl)
        obtain rfl := Option.some.inj H1
        obtain rfl := Option.some.inj H0
        refine ret [] [.bool false] [] hf373 (by kernel_rfl) trivial ?_
        exact ⟨_, rfl, rfl, hm375⟩
      obtain ⟨g350, H1⟩ := ifS_guard H1
      rcases ifbS_split H1 with ⟨c351, H1⟩ | ⟨c351, H1⟩
      rotate_left
      · have q362 := (hm345.slAt 6 rfl).float 0 g350.1 g350.2
        obtain ⟨b363, hb363, kb363⟩ := q362.2
        refine reg [.bool false, .bool false, .bool false, .slice A292 r287.1.Data.length c293, .bool false, .slice A292 r287.1.Data.length c293, .float .f64 b363, .bool false] [0, 1, 8, 10, 143] [(0, .slice A0 x0.length c0), (1, .int .u8 x1), (8, .pointer (some ⟨b203, 0, none⟩)), (10, .int .i64 s259), (143, .bool false)] [.is (((r287.2 : Int) != 0) = false), .is (((r316.2.2 : Int) != 0) = false), .is (((r316.2.1 : Int) != 0) = false), .cell ⟨b303, 1, none⟩ (.slice A292 r287.1.Data.length c293), .is ((((r287.1.Data.length : Int) : Int) != 1) = false), .cell ⟨b303, 1, none⟩ (.slice A292 r287.1.Data.length c293), .is (Option.isSome A292 = true), .is ((0 : Int) ≤ 0 ∧ 0 < (r287.1.Data.length : Int)), .cell ((ad A292).add ((0 : Int).toNat * 1)) (.float .f64 b363), .is ((FloatKind.f64.format.order b363 (FloatKind.f64.nearest (rd x0 s259)) != some .eq) = false)] hf344 (by kernel_rfl) ⟨(neF c346), (neF c347), (neF c348), (hm345.cell 4 rfl rfl), (neF c349), (hm345.cell 4 rfl rfl), q362.1, g350, kb363, (ftNe hb363 (FR.ofInt (rd x0 s259)) c351), trivial⟩ fun a364 hf365 => ?_
        have hm366 := hm345.sel [0, 1, 2, 3, 7] _ rfl (by kernel_rfl)
        refine thenN ?_
        refine condF hf365 (by kernel_rfl) ?_
        refine wp_skip ?_
        refine blkN ?_
        refine thenN ?_
        refine reg [] [0, 1, 8, 10] [(0, .slice A0 x0.length c0), (1, .int .u8 x1), (8, .pointer (some ⟨b203, 0, none⟩)), (10, .int .i64 (w64 (s259 + 1)))] [] hf365 (by kernel_rfl) trivial fun a367 hf368 => ?_
        exact ⟨(w64 (s259 + 1)), H1, hf368.sel (l := [0, 1, 8, 10]) (by kernel_rfl), hm366.sel [0, 1, 2, 3, 4] _ rfl (by kernel_rfl)⟩
      have q352 := (hm345.slAt 6 rfl).float 0 g350.1 g350.2
      obtain ⟨b353, hb353, kb353⟩ := q352.2
      refine reg [.bool false, .bool false, .bool false, .slice A292 r287.1.Data.length c293, .bool false, .slice A292 r287.1.Data.length c293, .float .f64 b353, .bool true] [0, 1, 8, 10, 143] [(0, .slice A0 x0.length c0), (1, .int .u8 x1), (8, .pointer (some ⟨b203, 0, none⟩)), (10, .int .i64 s259), (143, .bool true)] [.is (((r287.2 : Int) != 0) = false), .is (((r316.2.2 : Int) != 0) = false), .is (((r316.2.1 : Int) != 0) = false), .cell ⟨b303, 1, none⟩ (.slice A292 r287.1.Data.length c293), .is ((((r287.1.Data.length : Int) : Int) != 1) = false), .cell ⟨b303, 1, none⟩ (.slice A292 r287.1.Data.length c293), .is (Option.isSome A292 = true), .is ((0 : Int) ≤ 0 ∧ 0 < (r287.1.Data.length : Int)), .cell ((ad A292).add ((0 : Int).toNat * 1)) (.float .f64 b353), .is ((FloatKind.f64.format.order b353 (FloatKind.f64.nearest (rd x0 s259)) != some .eq) = true)] hf344 (by kernel_rfl) ⟨(neF c346), (neF c347), (neF c348), (hm345.cell 4 rfl rfl), (neF c349), (hm345.cell 4 rfl rfl), q352.1, g350, kb353, (ftNe hb353 (FR.ofInt (rd x0 s259)) c351), trivial⟩ fun a354 hf355 => ?_
      have hm356 := hm345.sel [0, 1, 2, 3, 7] _ rfl (by kernel_rfl)
      refine thenN ?_
      refine condT hf355 (by kernel_rfl) ?_
      refine wp_seq ?_
      refine reg [] [4] [(4, .bool false)] [] hf355 (by kernel_rfl) trivial fun a357 hf358 => ?_
      have hm359 := hm356.sel [] _ rfl (by kernel_rfl)
      refine thenN ?_
      refine wp_ret ?_
      refine blkR ?_
      refine thenR ?_
      refine thenR ?_
      refine .inr ⟨rfl, ?_⟩
      refine thenR ?_
      have hm360 : Mem [] M w0 [] w339 := hm359.sel [] _ rfl (by kernel_rfl)
      obtain rfl := Option.some.inj H1
      obtain rfl := Option.some.inj H0
      refine ret [] [.bool false] [] hf358 (by kernel_rfl) trivial ?_
      exact ⟨_, rfl, rfl, hm360⟩
    rintro a519 w520 ⟨yr260, rfl, hf521, hm522⟩
    refine thenN ?_
    refine wp_seq ?_
    refine reg [] [4] [(4, .bool true)] [] hf521 (by kernel_rfl) trivial fun a523 hf524 => ?_
    have hm525 := hm522.sel [] _ rfl (by kernel_rfl)
    refine thenN ?_
    refine wp_ret ?_
    have hm526 : Mem [] M w0 [] w520 := hm525.sel [] _ rfl (by kernel_rfl)
    obtain rfl := Option.some.inj H0
    refine ret [] [.bool true] [] hf524 (by kernel_rfl) trivial ?_
    exact ⟨_, rfl, rfl, hm526⟩
end Go.Proofs.Ytolhkamfpfjodaa
