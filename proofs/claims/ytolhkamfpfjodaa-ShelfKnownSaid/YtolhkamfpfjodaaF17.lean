/- Printed by gen.py. -/
import Derived.Test.YtolhkamfpfjodaaF10
import Derived.Test.YtolhkamfpfjodaaF11
namespace Go.Proofs.Ytolhkamfpfjodaa
open Go Go.RowKit
set_option linter.unusedSimpArgs false
set_option linter.unusedVariables false
set_option linter.unnecessarySimpa false
/-! ### backstitch/backstitchlaw19.ShelfKnown$1 -/
noncomputable def law19_ShelfKnown_1.f (x0 : (List Nat)) : Option Tensor :=
  some (⟨([(x0.length : Int)] : List Int), x0⟩ : Tensor)
set_option maxRecDepth 100000 in
set_option maxHeartbeats 4000000 in
theorem law19_ShelfKnown_1.calls (M : List (Option Nat)) (w0 : World) (x0 : (List Nat)) (A0 : Option Addr) (n0 c0 : Nat) (e0 : n0 = x0.length) (hm0 : Mem [] M w0 [.sl Kd.float A0 c0 x0] w0) (r : Tensor) (H0 : law19_ShelfKnown_1.f x0 = some r) :
    Calls Try.prog 23 [.slice A0 n0 c0].toArray w0 (fun x w' => ∃ v, x = .returned v ∧ ∃ Ar0_0 cr0_0 Ar0_1 cr0_1, v = .agg #[.slice Ar0_0 r.Shape.length cr0_0, .slice Ar0_1 r.Data.length cr0_1] ∧ Mem [] M w0 [.ow (Kd.int .i64) 3 Ar0_0 cr0_0 r.Shape, .sl Kd.float Ar0_1 cr0_1 r.Data] w') := by
  subst e0
  unfold law19_ShelfKnown_1.f at H0
  refine enter (n := 8) Try.func23 rfl rfl (by kernel_rfl) fun a0 (hf0 : Fr 8 a0 [(0, .slice A0 x0.length c0)]) => ?_
  refine wp_seq ?_
  refine inReg ?_
  refine listOf hf0 rfl (by kernel_rfl) (aNew (cs := [.slice none 0 0, .slice none 0 0]) (T := 29) (d := 2) hf0 (by kernel_rfl) (by kernel_rfl) ?_)
  intro b21 w22 a23 hbb21 hx25 hg26 hf24
  have hm27 := hm0.box hbb21 hx25 hg26
  refine endL rfl ?_
  refine thenN ?_
  refine wp_seq ?_
  refine inReg ?_
  refine go 2 [] [0, 2, 4] [(0, .slice A0 x0.length c0), (2, .pointer (some ⟨b21, 0, none⟩)), (4, .int .i64 (x0.length : Int))] [] hf24 (by kernel_rfl) trivial fun a28 hf29 => ?_
  refine listOf hf29 rfl (by kernel_rfl) (aLit (cs := [.int .i64 (x0.length : Int)]) (E := 3) (len := 1) (d := 5) hf29 (by kernel_rfl) (by kernel_rfl) ?_)
  intro b30 w31 a32 hbb30 hx34 hg35 hf33
  have hm36 : Mem [] M w0 [.ow (Kd.int .i64) 3 (some ⟨b30, 0, none⟩) 1 ([(x0.length : Int)] : List Int), .bx b21 [.slice none 0 0, .slice none 0 0] 29, .sl Kd.float A0 c0 x0] w31 := Mem.litOwn (kd := (Kd.int .i64)) (xs := ([(x0.length : Int)] : List Int)) hm27 hbb30 hx34 hg35 (Els.one (kd := (Kd.int .i64)) (us := [.int .i64 (x0.length : Int)]) (x := (x0.length : Int)) rfl) (by simp [maxLen])
  refine go 2 [] [2, 7] [(2, .pointer (some ⟨b21, 0, none⟩)), (7, .agg #[.slice (some ⟨b30, 0, none⟩) 1 1, .slice A0 x0.length c0])] [] hf33 (by kernel_rfl) trivial fun a37 hf38 => ?_
  refine listOf hf38 rfl (by kernel_rfl) (aStoreB (b := b21) (j := 0) (T := 29) (cs := [.slice none 0 0, .slice none 0 0]) (us := [.slice (some ⟨b30, 0, none⟩) 1 1, .slice A0 x0.length c0]) (cs' := [.slice (some ⟨b30, 0, none⟩) 1 1, .slice A0 x0.length c0]) hf38 (by kernel_rfl) (hm36.bxAt 1 rfl) (by kernel_rfl) (by kernel_rfl) (by kernel_rfl) ?_)
  intro w39 hx40 hg41
  have hm42 := hm36.setBox 1 _ rfl rfl hx40 hg41
  refine endL rfl ?_
  refine thenN ?_
  refine wp_ret ?_
  have hm43 : Mem [] M w0 [.ow (Kd.int .i64) 3 (some ⟨b30, 0, none⟩) 1 ([(x0.length : Int)] : List Int), .sl Kd.float A0 c0 x0] w39 := hm42.sel [0, 2] _ rfl (by kernel_rfl)
  obtain rfl := Option.some.inj H0
  refine ret [.agg #[.slice (some ⟨b30, 0, none⟩) 1 1, .slice A0 x0.length c0]] [.agg #[.slice (some ⟨b30, 0, none⟩) 1 1, .slice A0 x0.length c0]] [.cell ⟨b21, 0, none⟩ (.slice (some ⟨b30, 0, none⟩) 1 1), .cell ⟨b21, 1, none⟩ (.slice A0 x0.length c0)] hf38 (by kernel_rfl) ⟨(hm42.cell 1 rfl rfl), (hm42.cell 1 rfl rfl), trivial⟩ ?_
  exact ⟨_, rfl, (some ⟨b30, 0, none⟩), 1, A0, c0, rfl, hm43⟩

/-! ### backstitch/backstitchlaw19.Small -/
noncomputable def law19_Small.l0 (x0 : (List Deed)) (s25 : Int) : Step Int (Out2 Int Bool) :=
  if s25 < (x0.length : Int) then (if 60 < s25 then (.done (.ret false))
  else (if 0 ≤ s25 ∧ s25 < (x0.length : Int) then (bindS (law3_Small.f (⟨(((rd x0 s25).T).Shape), (((rd x0 s25).T).Data)⟩ : Tensor)) fun r44 =>
  if r44 = true then (bindS (law12_Small.f ((rd x0 s25).L)) fun r46 =>
  if r46 = true then (.next (w64 (s25 + 1)))
  else (.done (.ret false)))
  else (.done (.ret false)))
  else .bad))
  else (.done (.go s25))
noncomputable def law19_Small.f (x0 : (List Deed)) : Option Bool :=
  (loop (law19_Small.l0 x0) 0).bind fun r26 =>
  r26.on (fun yr26 =>
  some true) (fun y => some y)
set_option maxRecDepth 100000 in
set_option maxHeartbeats 4000000 in
theorem law19_Small.calls (M : List (Option Nat)) (w0 : World) (x0 : (List Deed)) (A0 : Option Addr) (n0 c0 : Nat) (e0 : n0 = x0.length) (hm0 : Mem [] M w0 [.sl kDeed A0 c0 x0] w0) (r : Bool) (H0 : law19_Small.f x0 = some r) :
    Calls Try.prog 25 [.slice A0 n0 c0].toArray w0 (fun x w' => ∃ v, x = .returned v ∧ v = .bool r ∧ Mem [] M w0 [] w') := by
  subst e0
  unfold law19_Small.f at H0
  refine enter (n := 30) Try.func25 rfl rfl (by kernel_rfl) fun a0 (hf0 : Fr 30 a0 [(0, .slice A0 x0.length c0)]) => ?_
  refine wp_seq ?_
  refine reg [] [0] [(0, .slice A0 x0.length c0)] [] hf0 (by kernel_rfl) trivial fun a21 hf22 => ?_
  refine thenN ?_
  refine wp_seq ?_
  refine wp_seq ?_
  refine reg [] [0, 3] [(0, .slice A0 x0.length c0), (3, .int .i64 0)] [] hf22 (by kernel_rfl) trivial fun a23 hf24 => ?_
  refine thenN ?_
  obtain ⟨r26, hr26, H0⟩ := ob_split H0
  refine wpBlock (Mid := fun (a : Act) (w : World) => ∃ yr26 : Int, r26 = .go yr26 ∧ Fr 30 a [(0, .slice A0 x0.length c0), (3, .int .i64 yr26)] ∧ Mem [] M w0 [.sl kDeed A0 c0 x0] w) ?_ ?_
  · refine wpLoop (law19_Small.l0 x0) r26 (fun (s25 : Int) (a : Act) (w : World) => Fr 30 a [(0, .slice A0 x0.length c0), (3, .int .i64 s25)] ∧ Mem [] M w0 [.sl kDeed A0 c0 x0] w) 0 hr26 ⟨hf24.sel (l := [0, 3]) (by kernel_rfl), hm0.sel [0] _ rfl (by kernel_rfl)⟩ ?_
    rintro g27 s25 a28 w29 H1 ⟨hf30, hm31⟩
    unfold law19_Small.l0 at H1
    refine wp_seq ?_
    refine wp_seq ?_
    rcases ifS_split H1 with ⟨c32, H1⟩ | ⟨c32, H1⟩
    rotate_left
    · refine reg [.bool false] [0, 3, 7] [(0, .slice A0 x0.length c0), (3, .int .i64 s25), (7, .bool false)] [.is (decide (s25 < (x0.length : Int)) = false)] hf30 (by kernel_rfl) ⟨(decide_eq_false c32), trivial⟩ fun a170 hf171 => ?_
      refine thenN ?_
      refine condF hf171 (by kernel_rfl) ?_
      refine wp_exit ?_
      refine thenE ?_
      refine thenE ?_
      obtain rfl := Option.some.inj H1
      exact .inl ⟨rfl, s25, rfl, hf171.sel (l := [0, 3]) (by kernel_rfl), hm31.sel [0] _ rfl (by kernel_rfl)⟩
    refine reg [.bool true] [0, 3, 7] [(0, .slice A0 x0.length c0), (3, .int .i64 s25), (7, .bool true)] [.is (decide (s25 < (x0.length : Int)) = true)] hf30 (by kernel_rfl) ⟨(decide_eq_true c32), trivial⟩ fun a33 hf34 => ?_
    refine thenN ?_
    refine condT hf34 (by kernel_rfl) ?_
    refine wp_skip ?_
    refine thenN ?_
    refine wp_seq ?_
    refine wp_block ?_
    refine wp_seq ?_
    rcases ifS_split H1 with ⟨c35, H1⟩ | ⟨c35, H1⟩
    · refine reg [.bool true] [0, 3, 29] [(0, .slice A0 x0.length c0), (3, .int .i64 s25), (29, .bool true)] [.is (decide (60 < s25) = true)] hf34 (by kernel_rfl) ⟨(decide_eq_true c35), trivial⟩ fun a36 hf37 => ?_
      refine thenN ?_
      refine condT hf37 (by kernel_rfl) ?_
      refine wp_seq ?_
      refine reg [] [2] [(2, .bool false)] [] hf37 (by kernel_rfl) trivial fun a38 hf39 => ?_
      have hm40 := hm31.sel [] _ rfl (by kernel_rfl)
      refine thenN ?_
      refine wp_ret ?_
      refine blkR ?_
      refine thenR ?_
      refine thenR ?_
      refine .inr ⟨rfl, ?_⟩
      refine thenR ?_
      have hm41 : Mem [] M w0 [] w29 := hm40.sel [] _ rfl (by kernel_rfl)
      obtain rfl := Option.some.inj H1
      obtain rfl := Option.some.inj H0
      refine ret [] [.bool false] [] hf39 (by kernel_rfl) trivial ?_
      exact ⟨_, rfl, rfl, hm41⟩
    obtain ⟨g43, H1⟩ := ifS_guard H1
    obtain ⟨r44, hr44, H1⟩ := obS_split H1
    rcases ifbS_split H1 with ⟨c45, H1⟩ | ⟨c45, H1⟩
    rotate_left
    · have q142 := (hm31.slAt 0 rfl).get s25 g43.1 g43.2
      obtain ⟨us143, hr144, hc145⟩ := q142.2
      obtain ⟨A146, c147, A148, c149, A150, c151, rfl, ⟨pA146, sA146⟩, ⟨pA148, sA148⟩, ⟨pA150, sA150⟩⟩ := kDeed.open hr144
      have hm152 := hm31.elem pA146 sA146
      have hm153 := hm152.elem pA148 sA148
      have hm154 := hm153.elem pA150 sA150
      refine inReg ?_
      refine go 8 [.bool false, .agg #[.slice A146 ((((rd x0 s25).T).Shape).length) c147, .slice A148 ((((rd x0 s25).T).Data).length) c149]] [0, 3, 12, 17] [(0, .slice A0 x0.length c0), (3, .int .i64 s25), (12, .bool false), (17, .agg #[.slice A146 ((((rd x0 s25).T).Shape).length) c147, .slice A148 ((((rd x0 s25).T).Data).length) c149])] [.is (decide (60 < s25) = false), .is (Option.isSome A0 = true), .is (0 ≤ s25 ∧ s25 < (x0.length : Int)), .cell (((ad A0).add ((s25).toNat * 5)).add 2) (.slice A146 ((((rd x0 s25).T).Shape).length) c147), .cell (((ad A0).add ((s25).toNat * 5)).add 3) (.slice A148 ((((rd x0 s25).T).Data).length) c149)] hf34 (by kernel_rfl) ⟨(decide_eq_false c35), q142.1, g43, (hc145 2 _ rfl), (hc145 3 _ rfl), trivial⟩ fun a155 hf156 => ?_
      refine listOf hf156 rfl (by kernel_rfl) (aCall (fid := 20) (args := [.agg #[.slice A146 ((((rd x0 s25).T).Shape).length) c147, .slice A148 ((((rd x0 s25).T).Data).length) c149]]) (d := 18) hf156 (by kernel_rfl) (by kernel_rfl) callable20 (law3_Small.calls _ _ (⟨(((rd x0 s25).T).Shape), (((rd x0 s25).T).Data)⟩ : Tensor) A146 ((((rd x0 s25).T).Shape).length) c147 rfl A148 ((((rd x0 s25).T).Data).length) c149 rfl (hm154.give [2, 1] [.sl (Kd.int .i64) A146 c147 (((rd x0 s25).T).Shape), .sl Kd.float A148 c149 (((rd x0 s25).T).Data)] rfl rfl) r44 hr44) ?_)
      rintro _ w157 a158 ⟨rfl, hk160⟩ hf159
      have hm161 := hm154.still hk160.cum.none
      rw [c45] at hf159
      refine go 11 [] [0, 3, 29] [(0, .slice A0 x0.length c0), (3, .int .i64 s25), (29, .bool true)] [] hf159 (by kernel_rfl) trivial fun a162 hf163 => ?_
      refine endL rfl ?_
      have hm164 := hm161.sel [3] _ rfl (by kernel_rfl)
      refine thenN ?_
      refine condT hf163 (by kernel_rfl) ?_
      refine wp_seq ?_
      refine reg [] [2] [(2, .bool false)] [] hf163 (by kernel_rfl) trivial fun a165 hf166 => ?_
      have hm167 := hm164.sel [] _ rfl (by kernel_rfl)
      refine thenN ?_
      refine wp_ret ?_
      refine blkR ?_
      refine thenR ?_
      refine thenR ?_
      refine .inr ⟨rfl, ?_⟩
      refine thenR ?_
      have hm168 : Mem [] M w0 [] w157 := hm167.sel [] _ rfl (by kernel_rfl)
      obtain rfl := Option.some.inj H1
      obtain rfl := Option.some.inj H0
      refine ret [] [.bool false] [] hf166 (by kernel_rfl) trivial ?_
      exact ⟨_, rfl, rfl, hm168⟩
    obtain ⟨r46, hr46, H1⟩ := obS_split H1
    rcases ifbS_split H1 with ⟨c47, H1⟩ | ⟨c47, H1⟩
    · have q48 := (hm31.slAt 0 rfl).get s25 g43.1 g43.2
      obtain ⟨us49, hr50, hc51⟩ := q48.2
      obtain ⟨A52, c53, A54, c55, A56, c57, rfl, ⟨pA52, sA52⟩, ⟨pA54, sA54⟩, ⟨pA56, sA56⟩⟩ := kDeed.open hr50
      have hm58 := hm31.elem pA52 sA52
      have hm59 := hm58.elem pA54 sA54
      have hm60 := hm59.elem pA56 sA56
      refine inReg ?_
      refine go 8 [.bool false, .agg #[.slice A52 ((((rd x0 s25).T).Shape).length) c53, .slice A54 ((((rd x0 s25).T).Data).length) c55]] [0, 3, 12, 17] [(0, .slice A0 x0.length c0), (3, .int .i64 s25), (12, .bool false), (17, .agg #[.slice A52 ((((rd x0 s25).T).Shape).length) c53, .slice A54 ((((rd x0 s25).T).Data).length) c55])] [.is (decide (60 < s25) = false), .is (Option.isSome A0 = true), .is (0 ≤ s25 ∧ s25 < (x0.length : Int)), .cell (((ad A0).add ((s25).toNat * 5)).add 2) (.slice A52 ((((rd x0 s25).T).Shape).length) c53), .cell (((ad A0).add ((s25).toNat * 5)).add 3) (.slice A54 ((((rd x0 s25).T).Data).length) c55)] hf34 (by kernel_rfl) ⟨(decide_eq_false c35), q48.1, g43, (hc51 2 _ rfl), (hc51 3 _ rfl), trivial⟩ fun a61 hf62 => ?_
      refine listOf hf62 rfl (by kernel_rfl) (aCall (fid := 20) (args := [.agg #[.slice A52 ((((rd x0 s25).T).Shape).length) c53, .slice A54 ((((rd x0 s25).T).Data).length) c55]]) (d := 18) hf62 (by kernel_rfl) (by kernel_rfl) callable20 (law3_Small.calls _ _ (⟨(((rd x0 s25).T).Shape), (((rd x0 s25).T).Data)⟩ : Tensor) A52 ((((rd x0 s25).T).Shape).length) c53 rfl A54 ((((rd x0 s25).T).Data).length) c55 rfl (hm60.give [2, 1] [.sl (Kd.int .i64) A52 c53 (((rd x0 s25).T).Shape), .sl Kd.float A54 c55 (((rd x0 s25).T).Data)] rfl rfl) r44 hr44) ?_)
      rintro _ w63 a65 ⟨rfl, hk67⟩ hf66
      have hm68 := hm60.still hk67.cum.none
      rw [c45] at hf66
      have q69 := (hm68.slAt 3 rfl).get s25 g43.1 g43.2
      obtain ⟨us70, hr71, hc72⟩ := q69.2
      obtain ⟨A73, c74, A75, c76, A77, c78, rfl, ⟨pA73, sA73⟩, ⟨pA75, sA75⟩, ⟨pA77, sA77⟩⟩ := kDeed.open hr71
      have hm79 := hm68.elem pA73 sA73
      have hm80 := hm79.elem pA75 sA75
      have hm81 := hm80.elem pA77 sA77
      refine go 8 [.slice A77 (((rd x0 s25).L).length) c78] [0, 3, 21, 26] [(0, .slice A0 x0.length c0), (3, .int .i64 s25), (21, .bool false), (26, .slice A77 (((rd x0 s25).L).length) c78)] [.is (Option.isSome A0 = true), .is (0 ≤ s25 ∧ s25 < (x0.length : Int)), .cell (((ad A0).add ((s25).toNat * 5)).add 4) (.slice A77 (((rd x0 s25).L).length) c78)] hf66 (by kernel_rfl) ⟨q69.1, g43, (hc72 4 _ rfl), trivial⟩ fun a82 hf83 => ?_
      refine listOf hf83 rfl (by kernel_rfl) (aCall (fid := 15) (args := [.slice A77 (((rd x0 s25).L).length) c78]) (d := 27) hf83 (by kernel_rfl) (by kernel_rfl) callable15 (law12_Small.calls _ _ ((rd x0 s25).L) A77 (((rd x0 s25).L).length) c78 rfl (hm81.give [0] [.sl kTensor A77 c78 ((rd x0 s25).L)] rfl rfl) r46 hr46) ?_)
      rintro _ w84 a85 ⟨rfl, hk87⟩ hf86
      have hm88 := hm81.still hk87.cum.none
      rw [c47] at hf86
      refine go 2 [] [0, 3, 29] [(0, .slice A0 x0.length c0), (3, .int .i64 s25), (29, .bool false)] [] hf86 (by kernel_rfl) trivial fun a89 hf90 => ?_
      refine endL rfl ?_
      have hm91 := hm88.sel [6] _ rfl (by kernel_rfl)
      refine thenN ?_
      refine condF hf90 (by kernel_rfl) ?_
      refine wp_skip ?_
      refine blkN ?_
      refine thenN ?_
      refine reg [] [0, 3] [(0, .slice A0 x0.length c0), (3, .int .i64 (w64 (s25 + 1)))] [] hf90 (by kernel_rfl) trivial fun a92 hf93 => ?_
      exact ⟨(w64 (s25 + 1)), H1, hf93.sel (l := [0, 3]) (by kernel_rfl), hm91.sel [0] _ rfl (by kernel_rfl)⟩
    have q94 := (hm31.slAt 0 rfl).get s25 g43.1 g43.2
    obtain ⟨us95, hr96, hc97⟩ := q94.2
    obtain ⟨A98, c99, A100, c101, A102, c103, rfl, ⟨pA98, sA98⟩, ⟨pA100, sA100⟩, ⟨pA102, sA102⟩⟩ := kDeed.open hr96
    have hm104 := hm31.elem pA98 sA98
    have hm105 := hm104.elem pA100 sA100
    have hm106 := hm105.elem pA102 sA102
    refine inReg ?_
    refine go 8 [.bool false, .agg #[.slice A98 ((((rd x0 s25).T).Shape).length) c99, .slice A100 ((((rd x0 s25).T).Data).length) c101]] [0, 3, 12, 17] [(0, .slice A0 x0.length c0), (3, .int .i64 s25), (12, .bool false), (17, .agg #[.slice A98 ((((rd x0 s25).T).Shape).length) c99, .slice A100 ((((rd x0 s25).T).Data).length) c101])] [.is (decide (60 < s25) = false), .is (Option.isSome A0 = true), .is (0 ≤ s25 ∧ s25 < (x0.length : Int)), .cell (((ad A0).add ((s25).toNat * 5)).add 2) (.slice A98 ((((rd x0 s25).T).Shape).length) c99), .cell (((ad A0).add ((s25).toNat * 5)).add 3) (.slice A100 ((((rd x0 s25).T).Data).length) c101)] hf34 (by kernel_rfl) ⟨(decide_eq_false c35), q94.1, g43, (hc97 2 _ rfl), (hc97 3 _ rfl), trivial⟩ fun a107 hf108 => ?_
    refine listOf hf108 rfl (by kernel_rfl) (aCall (fid := 20) (args := [.agg #[.slice A98 ((((rd x0 s25).T).Shape).length) c99, .slice A100 ((((rd x0 s25).T).Data).length) c101]]) (d := 18) hf108 (by kernel_rfl) (by kernel_rfl) callable20 (law3_Small.calls _ _ (⟨(((rd x0 s25).T).Shape), (((rd x0 s25).T).Data)⟩ : Tensor) A98 ((((rd x0 s25).T).Shape).length) c99 rfl A100 ((((rd x0 s25).T).Data).length) c101 rfl (hm106.give [2, 1] [.sl (Kd.int .i64) A98 c99 (((rd x0 s25).T).Shape), .sl Kd.float A100 c101 (((rd x0 s25).T).Data)] rfl rfl) r44 hr44) ?_)
    rintro _ w109 a110 ⟨rfl, hk112⟩ hf111
    have hm113 := hm106.still hk112.cum.none
    rw [c45] at hf111
    have q114 := (hm113.slAt 3 rfl).get s25 g43.1 g43.2
    obtain ⟨us115, hr116, hc117⟩ := q114.2
    obtain ⟨A118, c119, A120, c121, A122, c123, rfl, ⟨pA118, sA118⟩, ⟨pA120, sA120⟩, ⟨pA122, sA122⟩⟩ := kDeed.open hr116
    have hm124 := hm113.elem pA118 sA118
    have hm125 := hm124.elem pA120 sA120
    have hm126 := hm125.elem pA122 sA122
    refine go 8 [.slice A122 (((rd x0 s25).L).length) c123] [0, 3, 21, 26] [(0, .slice A0 x0.length c0), (3, .int .i64 s25), (21, .bool false), (26, .slice A122 (((rd x0 s25).L).length) c123)] [.is (Option.isSome A0 = true), .is (0 ≤ s25 ∧ s25 < (x0.length : Int)), .cell (((ad A0).add ((s25).toNat * 5)).add 4) (.slice A122 (((rd x0 s25).L).length) c123)] hf111 (by kernel_rfl) ⟨q114.1, g43, (hc117 4 _ rfl), trivial⟩ fun a127 hf128 => ?_
    refine listOf hf128 rfl (by kernel_rfl) (aCall (fid := 15) (args := [.slice A122 (((rd x0 s25).L).length) c123]) (d := 27) hf128 (by kernel_rfl) (by kernel_rfl) callable15 (law12_Small.calls _ _ ((rd x0 s25).L) A122 (((rd x0 s25).L).length) c123 rfl (hm126.give [0] [.sl kTensor A122 c123 ((rd x0 s25).L)] rfl rfl) r46 hr46) ?_)
    rintro _ w129 a130 ⟨rfl, hk132⟩ hf131
    have hm133 := hm126.still hk132.cum.none
    rw [c47] at hf131
    refine go 2 [] [0, 3, 29] [(0, .slice A0 x0.length c0), (3, .int .i64 s25), (29, .bool true)] [] hf131 (by kernel_rfl) trivial fun a134 hf135 => ?_
    refine endL rfl ?_
    have hm136 := hm133.sel [6] _ rfl (by kernel_rfl)
    refine thenN ?_
    refine condT hf135 (by kernel_rfl) ?_
    refine wp_seq ?_
    refine reg [] [2] [(2, .bool false)] [] hf135 (by kernel_rfl) trivial fun a137 hf138 => ?_
    have hm139 := hm136.sel [] _ rfl (by kernel_rfl)
    refine thenN ?_
    refine wp_ret ?_
    refine blkR ?_
    refine thenR ?_
    refine thenR ?_
    refine .inr ⟨rfl, ?_⟩
    refine thenR ?_
    have hm140 : Mem [] M w0 [] w129 := hm139.sel [] _ rfl (by kernel_rfl)
    obtain rfl := Option.some.inj H1
    obtain rfl := Option.some.inj H0
    refine ret [] [.bool false] [] hf138 (by kernel_rfl) trivial ?_
    exact ⟨_, rfl, rfl, hm140⟩
  rintro a172 w173 ⟨yr26, rfl, hf174, hm175⟩
  refine thenN ?_
  refine wp_seq ?_
  refine reg [] [2] [(2, .bool true)] [] hf174 (by kernel_rfl) trivial fun a176 hf177 => ?_
  have hm178 := hm175.sel [] _ rfl (by kernel_rfl)
  refine thenN ?_
  refine wp_ret ?_
  have hm179 : Mem [] M w0 [] w173 := hm178.sel [] _ rfl (by kernel_rfl)
  obtain rfl := Option.some.inj H0
  refine ret [] [.bool true] [] hf177 (by kernel_rfl) trivial ?_
  exact ⟨_, rfl, rfl, hm179⟩

/-! ### (*backstitch/backstitchref19.Shelf).in -/
noncomputable def ref19_Shelf_in.f (x0 : Shelf65) (x1 : Int) : Option Bool :=
  if 0 ≤ x1 then (if x1 < (x0.T.length : Int) then (some true)
  else (some false))
  else (some false)
set_option maxRecDepth 100000 in
set_option maxHeartbeats 4000000 in
theorem ref19_Shelf_in.calls (B0 : List (Option Nat)) (M : List (Option Nat)) (w0 : World) (x0 : Shelf65) (b0 : Nat) (A0_0 : Option Addr) (n0_0 c0_0 : Nat) (e0_0 : n0_0 = x0.T.length) (A0_1 : Option Addr) (n0_1 c0_1 : Nat) (e0_1 : n0_1 = x0.G.length) (A0_2 : Option Addr) (n0_2 c0_2 : Nat) (e0_2 : n0_2 = x0.V.length) (x1 : Int) (hm0 : Mem B0 M w0 [.bx b0 [.slice A0_0 n0_0 c0_0, .slice A0_1 n0_1 c0_1, .slice A0_2 n0_2 c0_2] 65, .ow kTensor 29 A0_0 c0_0 x0.T, .ow kTensor 29 A0_1 c0_1 x0.G, .ow (Kd.int .i64) 3 A0_2 c0_2 x0.V] w0) (r : Bool) (H0 : ref19_Shelf_in.f x0 x1 = some r) :
    Calls Try.prog 42 [.pointer (some ⟨b0, 0, none⟩), .int .i64 x1].toArray w0 (fun x w' => ∃ v, x = .returned v ∧ v = .bool r ∧ Mem B0 M w0 [.bx b0 [.slice A0_0 x0.T.length c0_0, .slice A0_1 x0.G.length c0_1, .slice A0_2 x0.V.length c0_2] 65, .ow kTensor 29 A0_0 c0_0 x0.T, .ow kTensor 29 A0_1 c0_1 x0.G, .ow (Kd.int .i64) 3 A0_2 c0_2 x0.V] w') := by
  subst e0_0
  subst e0_1
  subst e0_2
  unfold ref19_Shelf_in.f at H0
  refine enter (n := 16) Try.func42 rfl rfl (by kernel_rfl) fun a0 (hf0 : Fr 16 a0 [(0, .pointer (some ⟨b0, 0, none⟩)), (1, .int .i64 x1)]) => ?_
  refine wp_seq ?_
  refine reg [] [0, 1] [(0, .pointer (some ⟨b0, 0, none⟩)), (1, .int .i64 x1)] [] hf0 (by kernel_rfl) trivial fun a21 hf22 => ?_
  refine thenN ?_
  refine wp_seq ?_
  rcases if_split H0 with ⟨c23, H0⟩ | ⟨c23, H0⟩
  rotate_left
  · refine reg [.bool false] [4] [(4, .bool false)] [.is (decide (0 ≤ x1) = false)] hf22 (by kernel_rfl) ⟨(decide_eq_false c23), trivial⟩ fun a33 hf34 => ?_
    refine thenN ?_
    refine wp_ret ?_
    have hm35 : Mem B0 M w0 [.bx b0 [.slice A0_0 x0.T.length c0_0, .slice A0_1 x0.G.length c0_1, .slice A0_2 x0.V.length c0_2] 65, .ow kTensor 29 A0_0 c0_0 x0.T, .ow kTensor 29 A0_1 c0_1 x0.G, .ow (Kd.int .i64) 3 A0_2 c0_2 x0.V] w0 := hm0.sel [0, 1, 2, 3] _ rfl (by kernel_rfl)
    obtain rfl := Option.some.inj H0
    refine ret [] [.bool false] [] hf34 (by kernel_rfl) trivial ?_
    exact ⟨_, rfl, rfl, hm35⟩
  rcases if_split H0 with ⟨c24, H0⟩ | ⟨c24, H0⟩
  · refine reg [.bool true, .slice A0_0 x0.T.length c0_0, .bool true] [4] [(4, .bool true)] [.is (decide (0 ≤ x1) = true), .cell ⟨b0, 0, none⟩ (.slice A0_0 x0.T.length c0_0), .is (decide (x1 < (x0.T.length : Int)) = true)] hf22 (by kernel_rfl) ⟨(decide_eq_true c23), (hm0.cell 0 rfl rfl), (decide_eq_true c24), trivial⟩ fun a25 hf26 => ?_
    refine thenN ?_
    refine wp_ret ?_
    have hm27 : Mem B0 M w0 [.bx b0 [.slice A0_0 x0.T.length c0_0, .slice A0_1 x0.G.length c0_1, .slice A0_2 x0.V.length c0_2] 65, .ow kTensor 29 A0_0 c0_0 x0.T, .ow kTensor 29 A0_1 c0_1 x0.G, .ow (Kd.int .i64) 3 A0_2 c0_2 x0.V] w0 := hm0.sel [0, 1, 2, 3] _ rfl (by kernel_rfl)
    obtain rfl := Option.some.inj H0
    refine ret [] [.bool true] [] hf26 (by kernel_rfl) trivial ?_
    exact ⟨_, rfl, rfl, hm27⟩
  refine reg [.bool true, .slice A0_0 x0.T.length c0_0, .bool false] [4] [(4, .bool false)] [.is (decide (0 ≤ x1) = true), .cell ⟨b0, 0, none⟩ (.slice A0_0 x0.T.length c0_0), .is (decide (x1 < (x0.T.length : Int)) = false)] hf22 (by kernel_rfl) ⟨(decide_eq_true c23), (hm0.cell 0 rfl rfl), (decide_eq_false c24), trivial⟩ fun a29 hf30 => ?_
  refine thenN ?_
  refine wp_ret ?_
  have hm31 : Mem B0 M w0 [.bx b0 [.slice A0_0 x0.T.length c0_0, .slice A0_1 x0.G.length c0_1, .slice A0_2 x0.V.length c0_2] 65, .ow kTensor 29 A0_0 c0_0 x0.T, .ow kTensor 29 A0_1 c0_1 x0.G, .ow (Kd.int .i64) 3 A0_2 c0_2 x0.V] w0 := hm0.sel [0, 1, 2, 3] _ rfl (by kernel_rfl)
  obtain rfl := Option.some.inj H0
  refine ret [] [.bool false] [] hf30 (by kernel_rfl) trivial ?_
  exact ⟨_, rfl, rfl, hm31⟩
end Go.Proofs.Ytolhkamfpfjodaa
