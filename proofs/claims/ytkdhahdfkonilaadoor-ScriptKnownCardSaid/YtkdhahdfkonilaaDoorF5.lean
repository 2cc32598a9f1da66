/- Printed by gen.py. -/
import Derived.Test.YtkdhahdfkonilaaDoorF0
import Derived.Test.YtkdhahdfkonilaaDoorF1
import Derived.Test.YtkdhahdfkonilaaDoorF3
import Derived.Test.YtkdhahdfkonilaaDoorF4
namespace Go.Proofs.YtkdhahdfkonilaaDoor
open Go Go.RowKit
set_option linter.unusedSimpArgs false
set_option linter.unusedVariables false
set_option linter.unnecessarySimpa false
/-! ### backstitch/script.node -/
noncomputable def script_node.l0 (r30 : (List (List UInt8))) (s58 : (Int × Int)) : Step (Int × Int) (Int × Int) :=
  if s58.1 ≤ 16 then (bindS (op_Name.f s58.1) fun r69 =>
  if (0 : Int) ≤ 0 ∧ 0 < (r30.length : Int) then (if r69 = (rd r30 0) then (.next ((w64 (s58.1 + 1)), s58.1))
  else (.next ((w64 (s58.1 + 1)), s58.2)))
  else .bad)
  else (.done (s58.1, s58.2))
noncomputable def script_node.l1 (r30 : (List (List UInt8))) (r59 : (Int × Int)) (s179 : (Int × Int × (List Hook) × (List Nat) × (List Int) × (List Int) × (List Int))) : Step (Int × Int × (List Hook) × (List Nat) × (List Int) × (List Int) × (List Int)) (Out2 (Int × Int × (List Hook) × (List Nat) × (List Int) × (List Int) × (List Int)) (Node × Bool)) :=
  if s179.1 < (((r30.length - ((1 : Int)).toNat) : Nat) : Int) then (if 0 ≤ s179.1 ∧ s179.1 < (((r30.length - ((1 : Int)).toNat) : Nat) : Int) then (bindS (strings_Cut.f (rd ((List.take r30.length r30).drop (((1 : Int)).toNat)) s179.1) ([58] : List UInt8)) fun r205 =>
  if r205.2.2 = true then (bindS (script_word.f (⟨r59.2, s179.2.2.2.2.2.2, s179.2.2.2.2.2.1, s179.2.1, (⟨s179.2.2.2.2.1, s179.2.2.2.1⟩ : Tensor), s179.2.2.1⟩ : Node) r205.1 r205.2.1) fun r216 =>
  if r216.2.2.2.2.2 = true then (.next ((w64 (s179.1 + 1)), r216.2.2.1, r216.2.2.2.2.1, r216.2.2.2.1.Data, r216.2.2.2.1.Shape, r216.2.1, r216.1))
  else (.done (.ret ((⟨0, ([] : (List Int)), ([] : (List Int)), 0, (⟨([] : (List Int)), ([] : (List Nat))⟩ : Tensor), ([] : (List Hook))⟩ : Node), false))))
  else (.done (.ret ((⟨0, ([] : (List Int)), ([] : (List Int)), 0, (⟨([] : (List Int)), ([] : (List Nat))⟩ : Tensor), ([] : (List Hook))⟩ : Node), false))))
  else .bad)
  else (.done (.go (s179.1, s179.2.1, s179.2.2.1, s179.2.2.2.1, s179.2.2.2.2.1, s179.2.2.2.2.2.1, s179.2.2.2.2.2.2)))
noncomputable def script_node.f (x0 : (List UInt8)) : Option (Node × Bool) :=
  (strings_Split.f x0 ([32] : List UInt8)).bind fun r30 =>
  (loop (script_node.l0 r30) (1, 0)).bind fun r59 =>
  if 0 ≤ (1 : Int) ∧ (1 : Int) ≤ (r30.length : Int) then ((loop (script_node.l1 r30 r59) (0, 0, ([] : (List Hook)), ([] : (List Nat)), ([] : (List Int)), ([] : (List Int)), ([] : (List Int)))).bind fun r190 =>
  r190.on (fun yr190 =>
  (script_writer_node.f (⟨([] : (List (List UInt8))), false⟩ : Writer) (⟨r59.2, yr190.2.2.2.2.2.2, yr190.2.2.2.2.2.1, yr190.2.1, (⟨yr190.2.2.2.2.1, yr190.2.2.2.1⟩ : Tensor), yr190.2.2.1⟩ : Node)).bind fun r314 =>
  if r314.2 = true then (some ((⟨r59.2, yr190.2.2.2.2.2.2, yr190.2.2.2.2.2.1, yr190.2.1, (⟨yr190.2.2.2.2.1, yr190.2.2.2.1⟩ : Tensor), yr190.2.2.1⟩ : Node), false))
  else ((slices_Equal_string.f r314.1 r30).bind fun r361 =>
  some ((⟨r59.2, yr190.2.2.2.2.2.2, yr190.2.2.2.2.2.1, yr190.2.1, (⟨yr190.2.2.2.2.1, yr190.2.2.2.1⟩ : Tensor), yr190.2.2.1⟩ : Node), r361))) (fun y => some y))
  else none
set_option maxRecDepth 100000 in
set_option maxHeartbeats 4000000 in
theorem script_node.calls (M : List (Option Nat)) (w0 : World) (x0 : (List UInt8)) (hm0 : Mem [] M w0 [] w0) (r : (Node × Bool)) (H0 : script_node.f x0 = some r) (hG : Glob [] w0) :
    Calls Tryd.prog 30 [.string (bs x0)].toArray w0 (fun x w' => ∃ v, x = .returned v ∧ ∃ Ar0_1 cr0_1 Ar0_2 cr0_2 Ar0_4_0 cr0_4_0 Ar0_4_1 cr0_4_1 Ar0_6 cr0_6, v = .tuple #[.agg #[.int .i64 r.1.Op, .slice Ar0_1 r.1.In.length cr0_1, .slice Ar0_2 r.1.To.length cr0_2, .int .i64 r.1.No, .slice Ar0_4_0 r.1.Val.Shape.length cr0_4_0, .slice Ar0_4_1 r.1.Val.Data.length cr0_4_1, .slice Ar0_6 r.1.Hooks.length cr0_6], .bool r.2] ∧ Mem [] M w0 [.sl (Kd.int .i64) Ar0_1 cr0_1 r.1.In, .sl (Kd.int .i64) Ar0_2 cr0_2 r.1.To, .sl (Kd.int .i64) Ar0_4_0 cr0_4_0 r.1.Val.Shape, .sl Kd.float Ar0_4_1 cr0_4_1 r.1.Val.Data, .sl kHook Ar0_6 cr0_6 r.1.Hooks] w') := by
  unfold script_node.f at H0
  refine enter (n := 70) Tryd.func30 rfl rfl (by kernel_rfl) fun a0 (hf0 : Fr 70 a0 [(0, .string (bs x0))]) => ?_
  refine wp_seq ?_
  refine inReg ?_
  refine listOf hf0 rfl (by kernel_rfl) (aNew (cs := [.int .i64 0, .slice none 0 0, .slice none 0 0, .int .i64 0, .slice none 0 0, .slice none 0 0, .slice none 0 0]) (T := 49) (d := 2) hf0 (by kernel_rfl) (by kernel_rfl) ?_)
  intro b21 w22 a23 hbb21 hx25 hg26 hf24
  have hm27 := hm0.box hbb21 hx25 hg26
  refine go 1 [] [0, 2] [(0, .string (bs x0)), (2, .pointer (some ⟨b21, 0, none⟩))] [] hf24 (by kernel_rfl) trivial fun a28 hf29 => ?_
  refine endL rfl ?_
  refine thenN ?_
  refine wp_seq ?_
  obtain ⟨r30, hr30, H0⟩ := ob_split H0
  refine inReg ?_
  refine go 1 [] [2, 13] [(2, .pointer (some ⟨b21, 0, none⟩)), (13, .string (bs x0))] [] hf29 (by kernel_rfl) trivial fun a31 hf32 => ?_
  refine listOf hf32 rfl (by kernel_rfl) (aCall (fid := 42) (args := [.string (bs x0), .string (bs ([32] : List UInt8))]) (d := 14) hf32 (by kernel_rfl) (by kernel_rfl) callable42 (strings_Split.calls _ _ x0 ([32] : List UInt8) (hm27.give [] [] rfl rfl) r30 hr30 (hG.at hm27)) ?_)
  rintro _ w35 a36 ⟨A33, c34, rfl, hk38⟩ hf37
  have hm39 := hm27.back hk38
  have hm40 := hm39.seal 0 _ rfl rfl
  refine go 1 [] [2, 4] [(2, .pointer (some ⟨b21, 0, none⟩)), (4, .slice A33 r30.length c34)] [] hf37 (by kernel_rfl) trivial fun a41 hf42 => ?_
  refine endL rfl ?_
  refine thenN ?_
  refine wp_seq ?_
  refine inReg ?_
  refine go 1 [] [2, 4, 15] [(2, .pointer (some ⟨b21, 0, none⟩)), (4, .slice A33 r30.length c34), (15, .agg #[.int .i64 0, .slice none 0 0, .slice none 0 0, .int .i64 0, .slice none 0 0, .slice none 0 0, .slice none 0 0])] [] hf42 (by kernel_rfl) trivial fun a43 hf44 => ?_
  refine listOf hf44 rfl (by kernel_rfl) (aNew (cs := [.int .i64 0, .slice none 0 0, .slice none 0 0, .int .i64 0, .slice none 0 0, .slice none 0 0, .slice none 0 0]) (T := 49) (d := 5) hf44 (by kernel_rfl) (by kernel_rfl) ?_)
  intro b45 w46 a47 hbb45 hx49 hg50 hf48
  have hm51 := hm40.box hbb45 hx49 hg50
  refine listOf hf48 rfl (by kernel_rfl) (aStoreB (b := b45) (j := 0) (T := 49) (cs := [.int .i64 0, .slice none 0 0, .slice none 0 0, .int .i64 0, .slice none 0 0, .slice none 0 0, .slice none 0 0]) (us := [.int .i64 0, .slice none 0 0, .slice none 0 0, .int .i64 0, .slice none 0 0, .slice none 0 0, .slice none 0 0]) (cs' := [.int .i64 0, .slice none 0 0, .slice none 0 0, .int .i64 0, .slice none 0 0, .slice none 0 0, .slice none 0 0]) hf48 (by kernel_rfl) (hm51.bxAt 0 rfl) (by kernel_rfl) (by kernel_rfl) (by kernel_rfl) ?_)
  intro w52 hx53 hg54
  have hm55 := hm51.setBox 0 _ rfl rfl hx53 hg54
  refine endL rfl ?_
  refine thenN ?_
  refine wp_seq ?_
  refine wp_seq ?_
  refine reg [] [2, 4, 5, 6] [(2, .pointer (some ⟨b21, 0, none⟩)), (4, .slice A33 r30.length c34), (5, .pointer (some ⟨b45, 0, none⟩)), (6, .int .i64 1)] [] hf48 (by kernel_rfl) trivial fun a56 hf57 => ?_
  refine thenN ?_
  obtain ⟨r59, hr59, H0⟩ := ob_split H0
  refine wpBlock (Mid := fun (a : Act) (w : World) => Fr 70 a [(2, .pointer (some ⟨b21, 0, none⟩)), (4, .slice A33 r30.length c34), (5, .pointer (some ⟨b45, 0, none⟩)), (6, .int .i64 r59.1)] ∧ Mem [] M w0 [.bx b45 [.int .i64 r59.2, .slice none 0 0, .slice none 0 0, .int .i64 0, .slice none 0 0, .slice none 0 0, .slice none 0 0] 49, .sl Kd.str A33 c34 r30, .bx b21 [.int .i64 0, .slice none 0 0, .slice none 0 0, .int .i64 0, .slice none 0 0, .slice none 0 0, .slice none 0 0] 49] w) ?_ ?_
  · refine wpLoop (script_node.l0 r30) r59 (fun (s58 : (Int × Int)) (a : Act) (w : World) => Fr 70 a [(2, .pointer (some ⟨b21, 0, none⟩)), (4, .slice A33 r30.length c34), (5, .pointer (some ⟨b45, 0, none⟩)), (6, .int .i64 s58.1)] ∧ Mem [] M w0 [.bx b45 [.int .i64 s58.2, .slice none 0 0, .slice none 0 0, .int .i64 0, .slice none 0 0, .slice none 0 0, .slice none 0 0] 49, .sl Kd.str A33 c34 r30, .bx b21 [.int .i64 0, .slice none 0 0, .slice none 0 0, .int .i64 0, .slice none 0 0, .slice none 0 0, .slice none 0 0] 49] w) (1, 0) hr59 ⟨hf57.sel (l := [2, 4, 5, 6]) (by kernel_rfl), hm55.sel [0, 1, 2] _ rfl (by kernel_rfl)⟩ ?_
    rintro g60 s58 a61 w62 H1 ⟨hf63, hm65⟩
    unfold script_node.l0 at H1
    refine wp_seq ?_
    refine wp_seq ?_
    rcases ifS_split H1 with ⟨c66, H1⟩ | ⟨c66, H1⟩
    rotate_left
    · refine reg [.bool false] [2, 4, 5, 6, 17] [(2, .pointer (some ⟨b21, 0, none⟩)), (4, .slice A33 r30.length c34), (5, .pointer (some ⟨b45, 0, none⟩)), (6, .int .i64 s58.1), (17, .bool false)] [.is (decide (s58.1 ≤ 16) = false)] hf63 (by kernel_rfl) ⟨(decide_eq_false c66), trivial⟩ fun a148 hf149 => ?_
      refine thenN ?_
      refine condF hf149 (by kernel_rfl) ?_
      refine wp_exit ?_
      refine thenE ?_
      refine thenE ?_
      obtain rfl := Option.some.inj H1
      exact .inl ⟨rfl, hf149.sel (l := [2, 4, 5, 6]) (by kernel_rfl), hm65.sel [0, 1, 2] _ rfl (by kernel_rfl)⟩
    refine reg [.bool true] [2, 4, 5, 6, 17] [(2, .pointer (some ⟨b21, 0, none⟩)), (4, .slice A33 r30.length c34), (5, .pointer (some ⟨b45, 0, none⟩)), (6, .int .i64 s58.1), (17, .bool true)] [.is (decide (s58.1 ≤ 16) = true)] hf63 (by kernel_rfl) ⟨(decide_eq_true c66), trivial⟩ fun a67 hf68 => ?_
    refine thenN ?_
    refine condT hf68 (by kernel_rfl) ?_
    refine wp_skip ?_
    refine thenN ?_
    refine wp_seq ?_
    refine wp_block ?_
    refine wp_seq ?_
    obtain ⟨r69, hr69, H1⟩ := obS_split H1
    obtain ⟨g70, H1⟩ := ifS_guard H1
    rcases ifS_split H1 with ⟨c71, H1⟩ | ⟨c71, H1⟩
    rotate_left
    · refine midReg (fun (a : Act) (w : World) => Fr 70 a [(2, .pointer (some ⟨b21, 0, none⟩)), (4, .slice A33 r30.length c34), (5, .pointer (some ⟨b45, 0, none⟩)), (6, .int .i64 s58.1), (25, .bool false)] ∧ Mem [] M w0 [.bx b45 [.int .i64 s58.2, .slice none 0 0, .slice none 0 0, .int .i64 0, .slice none 0 0, .slice none 0 0, .slice none 0 0] 49, .sl Kd.str A33 c34 r30, .bx b21 [.int .i64 0, .slice none 0 0, .slice none 0 0, .int .i64 0, .slice none 0 0, .slice none 0 0, .slice none 0 0] 49] w) ?_ ?_
      · refine anyG (K := []) [] (by kernel_rfl) fun w119 hg120 => ?_
        have hm121 := hm65.still hg120
        have q132 := (hm121.slAt 1 rfl).str 0 g70.1 g70.2
        refine quiet0 [0, 2, 3, 4] [.string (bs (rd r30 0))] [2, 4, 5, 6, 20, 24] #[true, false, true, true, true, false] [(2, .pointer (some ⟨b21, 0, none⟩)), (4, .slice A33 r30.length c34), (5, .pointer (some ⟨b45, 0, none⟩)), (6, .int .i64 s58.1), (20, .int .i64 s58.1), (24, .string (bs (rd r30 0)))] [.is (Option.isSome A33 = true), .is ((0 : Int) ≤ 0 ∧ 0 < (r30.length : Int)), .cell ((ad A33).add ((0 : Int).toNat * 1)) (.string (bs (rd r30 0)))] 2 rfl (by kernel_rfl) (fun _ _ _ _ _ h => nomatch h.1) hf68 (by kernel_rfl) ⟨q132.1, g70, q132.2, trivial⟩ fun a133 hf134 => ?_
        refine all1 1 (by kernel_rfl) ?_
        refine opOf hf134 rfl (by kernel_rfl) (aCall (fid := 37) (args := [.int .i64 s58.1]) (d := 21) hf134 (by kernel_rfl) (by kernel_rfl) callable37 (op_Name.calls _ _ s58.1 (hm121.give [] [] rfl rfl) r69 hr69 (hG.at hm121)) ?_)
        rintro _ w135 a136 ⟨rfl, hk138⟩ hf137
        refine ⟨.inr (Gr.still hk138.cum.none), ?_⟩
        have hm139 := hm121.still hk138.cum.none
        refine quiet0 [5] [.bool false] [2, 4, 5, 6, 25] #[true, true, true, true, true, true] [(2, .pointer (some ⟨b21, 0, none⟩)), (4, .slice A33 r30.length c34), (5, .pointer (some ⟨b45, 0, none⟩)), (6, .int .i64 s58.1), (25, .bool false)] [.is ((decide (bs r69 = bs (rd r30 0))) = false)] 0 rfl (by kernel_rfl) (fun _ _ _ _ _ h => nomatch h.1) hf137 (by kernel_rfl) ⟨(seF c71), trivial⟩ fun a140 hf141 => ?_
        refine allDone (by kernel_rfl) ⟨rfl, hf141.sel (l := [2, 4, 5, 6, 25]) (by kernel_rfl), hm139.sel [0, 1, 2] _ rfl (by kernel_rfl)⟩
      rintro a142 w143 ⟨hf144, hm145⟩
      refine thenN ?_
      refine condF hf144 (by kernel_rfl) ?_
      refine wp_skip ?_
      refine blkN ?_
      refine thenN ?_
      refine reg [] [2, 4, 5, 6] [(2, .pointer (some ⟨b21, 0, none⟩)), (4, .slice A33 r30.length c34), (5, .pointer (some ⟨b45, 0, none⟩)), (6, .int .i64 (w64 (s58.1 + 1)))] [] hf144 (by kernel_rfl) trivial fun a146 hf147 => ?_
      exact ⟨((w64 (s58.1 + 1)), s58.2), H1, hf147.sel (l := [2, 4, 5, 6]) (by kernel_rfl), hm145.sel [0, 1, 2] _ rfl (by kernel_rfl)⟩
    refine midReg (fun (a : Act) (w : World) => Fr 70 a [(2, .pointer (some ⟨b21, 0, none⟩)), (4, .slice A33 r30.length c34), (5, .pointer (some ⟨b45, 0, none⟩)), (6, .int .i64 s58.1), (25, .bool true)] ∧ Mem [] M w0 [.bx b45 [.int .i64 s58.2, .slice none 0 0, .slice none 0 0, .int .i64 0, .slice none 0 0, .slice none 0 0, .slice none 0 0] 49, .sl Kd.str A33 c34 r30, .bx b21 [.int .i64 0, .slice none 0 0, .slice none 0 0, .int .i64 0, .slice none 0 0, .slice none 0 0, .slice none 0 0] 49] w) ?_ ?_
    · refine anyG (K := []) [] (by kernel_rfl) fun w78 hg79 => ?_
      have hm80 := hm65.still hg79
      have q91 := (hm80.slAt 1 rfl).str 0 g70.1 g70.2
      refine quiet0 [0, 2, 3, 4] [.string (bs (rd r30 0))] [2, 4, 5, 6, 20, 24] #[true, false, true, true, true, false] [(2, .pointer (some ⟨b21, 0, none⟩)), (4, .slice A33 r30.length c34), (5, .pointer (some ⟨b45, 0, none⟩)), (6, .int .i64 s58.1), (20, .int .i64 s58.1), (24, .string (bs (rd r30 0)))] [.is (Option.isSome A33 = true), .is ((0 : Int) ≤ 0 ∧ 0 < (r30.length : Int)), .cell ((ad A33).add ((0 : Int).toNat * 1)) (.string (bs (rd r30 0)))] 2 rfl (by kernel_rfl) (fun _ _ _ _ _ h => nomatch h.1) hf68 (by kernel_rfl) ⟨q91.1, g70, q91.2, trivial⟩ fun a92 hf93 => ?_
      refine all1 1 (by kernel_rfl) ?_
      refine opOf hf93 rfl (by kernel_rfl) (aCall (fid := 37) (args := [.int .i64 s58.1]) (d := 21) hf93 (by kernel_rfl) (by kernel_rfl) callable37 (op_Name.calls _ _ s58.1 (hm80.give [] [] rfl rfl) r69 hr69 (hG.at hm80)) ?_)
      rintro _ w94 a95 ⟨rfl, hk97⟩ hf96
      refine ⟨.inr (Gr.still hk97.cum.none), ?_⟩
      have hm98 := hm80.still hk97.cum.none
      refine quiet0 [5] [.bool true] [2, 4, 5, 6, 25] #[true, true, true, true, true, true] [(2, .pointer (some ⟨b21, 0, none⟩)), (4, .slice A33 r30.length c34), (5, .pointer (some ⟨b45, 0, none⟩)), (6, .int .i64 s58.1), (25, .bool true)] [.is ((decide (bs r69 = bs (rd r30 0))) = true)] 0 rfl (by kernel_rfl) (fun _ _ _ _ _ h => nomatch h.1) hf96 (by kernel_rfl) ⟨(seT c71), trivial⟩ fun a99 hf100 => ?_
      refine allDone (by kernel_rfl) ⟨rfl, hf100.sel (l := [2, 4, 5, 6, 25]) (by kernel_rfl), hm98.sel [0, 1, 2] _ rfl (by kernel_rfl)⟩
    rintro a101 w102 ⟨hf103, hm104⟩
    refine thenN ?_
    refine condT hf103 (by kernel_rfl) ?_
    refine inReg ?_
    refine go 2 [] [2, 4, 5, 6, 26, 27] [(2, .pointer (some ⟨b21, 0, none⟩)), (4, .slice A33 r30.length c34), (5, .pointer (some ⟨b45, 0, none⟩)), (6, .int .i64 s58.1), (26, .int .i64 s58.1), (27, .pointer (some ⟨b45, 0, none⟩))] [] hf103 (by kernel_rfl) trivial fun a105 hf106 => ?_
    refine listOf hf106 rfl (by kernel_rfl) (aStoreB (b := b45) (j := 0) (T := 49) (cs := [.int .i64 s58.2, .slice none 0 0, .slice none 0 0, .int .i64 0, .slice none 0 0, .slice none 0 0, .slice none 0 0]) (us := [.int .i64 s58.1]) (cs' := [.int .i64 s58.1, .slice none 0 0, .slice none 0 0, .int .i64 0, .slice none 0 0, .slice none 0 0, .slice none 0 0]) hf106 (by kernel_rfl) (hm104.bxAt 0 rfl) (by kernel_rfl) (by kernel_rfl) (by kernel_rfl) ?_)
    intro w107 hx108 hg109
    have hm110 := hm104.setBox 0 _ rfl rfl hx108 hg109
    refine endL rfl ?_
    refine blkN ?_
    refine thenN ?_
    refine reg [] [2, 4, 5, 6] [(2, .pointer (some ⟨b21, 0, none⟩)), (4, .slice A33 r30.length c34), (5, .pointer (some ⟨b45, 0, none⟩)), (6, .int .i64 (w64 (s58.1 + 1)))] [] hf106 (by kernel_rfl) trivial fun a111 hf112 => ?_
    exact ⟨((w64 (s58.1 + 1)), s58.1), H1, hf112.sel (l := [2, 4, 5, 6]) (by kernel_rfl), hm110.sel [0, 1, 2] _ rfl (by kernel_rfl)⟩
  rintro a150 w151 ⟨hf152, hm153⟩
  refine thenN ?_
  refine wp_seq ?_
  refine wp_seq ?_
  obtain ⟨g154, H0⟩ := if_guard H0
  have e155 : r30.length = r30.length := rfl
  have e155l : ((1 : Int)).toNat ≤ r30.length := by omega
  have e155h : r30.length ≤ r30.length := by omega
  have hm156 := hm153.sub 1 rfl e155l (e155 ▸ e155h)
  refine reg [] [2, 4, 5, 29, 30, 31] [(2, .pointer (some ⟨b21, 0, none⟩)), (4, .slice A33 r30.length c34), (5, .pointer (some ⟨b45, 0, none⟩)), (29, .slice (sub A33 c34 (((1 : Int)).toNat) 1) (r30.length - ((1 : Int)).toNat) (c34 - ((1 : Int)).toNat)), (30, .int .i64 (((r30.length - ((1 : Int)).toNat) : Nat) : Int)), (31, .int .i64 0)] [.is (0 ≤ (1 : Int) ∧ (1 : Int) ≤ (r30.length : Int))] hf152 (by kernel_rfl) ⟨g154, trivial⟩ fun a157 hf158 => ?_
  refine thenN ?_
  have hm160 := hm156.nilOw (Kd.int .i64) 3
  have hm162 := hm160.nilOw (Kd.int .i64) 3
  have hm164 := hm162.nilOw (Kd.int .i64) 3
  have hm166 := hm164.nilOw Kd.float 35
  have hm168 := hm166.nilOw kHook 51
  obtain ⟨r190, hr190, H0⟩ := ob_split H0
  refine wpBlock (Mid := fun (a : Act) (w : World) => ∃ yr190 : (Int × Int × (List Hook) × (List Nat) × (List Int) × (List Int) × (List Int)), r190 = .go yr190 ∧ ∃ (A180 : Option Addr) (c181 : Nat) (A182 : Option Addr) (c183 : Nat) (A184 : Option Addr) (c185 : Nat) (A186 : Option Addr) (c187 : Nat) (A188 : Option Addr) (c189 : Nat), Fr 70 a [(2, .pointer (some ⟨b21, 0, none⟩)), (4, .slice A33 r30.length c34), (5, .pointer (some ⟨b45, 0, none⟩)), (29, .slice (sub A33 c34 (((1 : Int)).toNat) 1) (r30.length - ((1 : Int)).toNat) (c34 - ((1 : Int)).toNat)), (30, .int .i64 (((r30.length - ((1 : Int)).toNat) : Nat) : Int)), (31, .int .i64 yr190.1)] ∧ Mem [] M w0 [.ow kHook 51 A180 c181 yr190.2.2.1, .ow Kd.float 35 A182 c183 yr190.2.2.2.1, .ow (Kd.int .i64) 3 A184 c185 yr190.2.2.2.2.1, .ow (Kd.int .i64) 3 A186 c187 yr190.2.2.2.2.2.1, .ow (Kd.int .i64) 3 A188 c189 yr190.2.2.2.2.2.2, .sl Kd.str (sub A33 c34 (((1 : Int)).toNat) 1) (c34 - ((1 : Int)).toNat) ((List.take r30.length r30).drop (((1 : Int)).toNat)), .bx b45 [.int .i64 r59.2, .slice A188 yr190.2.2.2.2.2.2.length c189, .slice A186 yr190.2.2.2.2.2.1.length c187, .int .i64 yr190.2.1, .slice A184 yr190.2.2.2.2.1.length c185, .slice A182 yr190.2.2.2.1.length c183, .slice A180 yr190.2.2.1.length c181] 49, .sl Kd.str A33 c34 r30, .bx b21 [.int .i64 0, .slice none 0 0, .slice none 0 0, .int .i64 0, .slice none 0 0, .slice none 0 0, .slice none 0 0] 49] w) ?_ ?_
  · have hf191 : Fr 70 a157 [(2, .pointer (some ⟨b21, 0, none⟩)), (4, .slice A33 r30.length c34), (5, .pointer (some ⟨b45, 0, none⟩)), (29, .slice (sub A33 c34 (((1 : Int)).toNat) 1) (r30.length - ((1 : Int)).toNat) (c34 - ((1 : Int)).toNat)), (30, .int .i64 (((r30.length - ((1 : Int)).toNat) : Nat) : Int)), (31, .int .i64 0)] := hf158.sel (l := [2, 4, 5, 29, 30, 31]) (by kernel_rfl)
    have hm192 : Mem [] M w0 [.ow kHook 51 none 0 ([] : (List Hook)), .ow Kd.float 35 none 0 ([] : (List Nat)), .ow (Kd.int .i64) 3 none 0 ([] : (List Int)), .ow (Kd.int .i64) 3 none 0 ([] : (List Int)), .ow (Kd.int .i64) 3 none 0 ([] : (List Int)), .sl Kd.str (sub A33 c34 (((1 : Int)).toNat) 1) (c34 - ((1 : Int)).toNat) ((List.take r30.length r30).drop (((1 : Int)).toNat)), .bx b45 [.int .i64 r59.2, .slice none 0 0, .slice none 0 0, .int .i64 0, .slice none 0 0, .slice none 0 0, .slice none 0 0] 49, .sl Kd.str A33 c34 r30, .bx b21 [.int .i64 0, .slice none 0 0, .slice none 0 0, .int .i64 0, .slice none 0 0, .slice none 0 0, .slice none 0 0] 49] w151 := hm168.sel [0, 1, 2, 3, 4, 5, 6, 7, 8] _ rfl (by kernel_rfl)
    refine wpLoop (script_node.l1 r30 r59) r190 (fun (s179 : (Int × Int × (List Hook) × (List Nat) × (List Int) × (List Int) × (List Int))) (a : Act) (w : World) => ∃ (A180 : Option Addr) (c181 : Nat) (A182 : Option Addr) (c183 : Nat) (A184 : Option Addr) (c185 : Nat) (A186 : Option Addr) (c187 : Nat) (A188 : Option Addr) (c189 : Nat), Fr 70 a [(2, .pointer (some ⟨b21, 0, none⟩)), (4, .slice A33 r30.length c34), (5, .pointer (some ⟨b45, 0, none⟩)), (29, .slice (sub A33 c34 (((1 : Int)).toNat) 1) (r30.length - ((1 : Int)).toNat) (c34 - ((1 : Int)).toNat)), (30, .int .i64 (((r30.length - ((1 : Int)).toNat) : Nat) : Int)), (31, .int .i64 s179.1)] ∧ Mem [] M w0 [.ow kHook 51 A180 c181 s179.2.2.1, .ow Kd.float 35 A182 c183 s179.2.2.2.1, .ow (Kd.int .i64) 3 A184 c185 s179.2.2.2.2.1, .ow (Kd.int .i64) 3 A186 c187 s179.2.2.2.2.2.1, .ow (Kd.int .i64) 3 A188 c189 s179.2.2.2.2.2.2, .sl Kd.str (sub A33 c34 (((1 : Int)).toNat) 1) (c34 - ((1 : Int)).toNat) ((List.take r30.length r30).drop (((1 : Int)).toNat)), .bx b45 [.int .i64 r59.2, .slice A188 s179.2.2.2.2.2.2.length c189, .slice A186 s179.2.2.2.2.2.1.length c187, .int .i64 s179.2.1, .slice A184 s179.2.2.2.2.1.length c185, .slice A182 s179.2.2.2.1.length c183, .slice A180 s179.2.2.1.length c181] 49, .sl Kd.str A33 c34 r30, .bx b21 [.int .i64 0, .slice none 0 0, .slice none 0 0, .int .i64 0, .slice none 0 0, .slice none 0 0, .slice none 0 0] 49] w) (0, 0, ([] : (List Hook)), ([] : (List Nat)), ([] : (List Int)), ([] : (List Int)), ([] : (List Int))) hr190 ⟨none, 0, none, 0, none, 0, none, 0, none, 0, (by simpa only [put_length, List.length_nil] using hf191), (by simpa only [put_length, List.length_nil] using hm192)⟩ ?_
    rintro g193 s179 a194 w195 H1 ⟨A180, c181, A182, c183, A184, c185, A186, c187, A188, c189, hf196, hm197⟩
    unfold script_node.l1 at H1
    refine wp_seq ?_
    rcases ifS_split H1 with ⟨c198, H1⟩ | ⟨c198, H1⟩
    rotate_left
    · refine reg [.bool false] [2, 4, 5, 29, 30, 31, 32] [(2, .pointer (some ⟨b21, 0, none⟩)), (4, .slice A33 r30.length c34), (5, .pointer (some ⟨b45, 0, none⟩)), (29, .slice (sub A33 c34 (((1 : Int)).toNat) 1) (r30.length - ((1 : Int)).toNat) (c34 - ((1 : Int)).toNat)), (30, .int .i64 (((r30.length - ((1 : Int)).toNat) : Nat) : Int)), (31, .int .i64 s179.1), (32, .bool false)] [.is (decide (s179.1 < (((r30.length - ((1 : Int)).toNat) : Nat) : Int)) = false)] hf196 (by kernel_rfl) ⟨(decide_eq_false c198), trivial⟩ fun a294 hf295 => ?_
      refine thenN ?_
      refine wp_seq ?_
      refine condF hf295 (by kernel_rfl) ?_
      refine wp_exit ?_
      refine thenE ?_
      refine thenE ?_
      obtain rfl := Option.some.inj H1
      have hf296 : Fr 70 a294 [(2, .pointer (some ⟨b21, 0, none⟩)), (4, .slice A33 r30.length c34), (5, .pointer (some ⟨b45, 0, none⟩)), (29, .slice (sub A33 c34 (((1 : Int)).toNat) 1) (r30.length - ((1 : Int)).toNat) (c34 - ((1 : Int)).toNat)), (30, .int .i64 (((r30.length - ((1 : Int)).toNat) : Nat) : Int)), (31, .int .i64 s179.1)] := hf295.sel (l := [2, 4, 5, 29, 30, 31]) (by kernel_rfl)
      have hm297 : Mem [] M w0 [.ow kHook 51 A180 c181 s179.2.2.1, .ow Kd.float 35 A182 c183 s179.2.2.2.1, .ow (Kd.int .i64) 3 A184 c185 s179.2.2.2.2.1, .ow (Kd.int .i64) 3 A186 c187 s179.2.2.2.2.2.1, .ow (Kd.int .i64) 3 A188 c189 s179.2.2.2.2.2.2, .sl Kd.str (sub A33 c34 (((1 : Int)).toNat) 1) (c34 - ((1 : Int)).toNat) ((List.take r30.length r30).drop (((1 : Int)).toNat)), .bx b45 [.int .i64 r59.2, .slice A188 s179.2.2.2.2.2.2.length c189, .slice A186 s179.2.2.2.2.2.1.length c187, .int .i64 s179.2.1, .slice A184 s179.2.2.2.2.1.length c185, .slice A182 s179.2.2.2.1.length c183, .slice A180 s179.2.2.1.length c181] 49, .sl Kd.str A33 c34 r30, .bx b21 [.int .i64 0, .slice none 0 0, .slice none 0 0, .int .i64 0, .slice none 0 0, .slice none 0 0, .slice none 0 0] 49] w195 := hm197.sel [0, 1, 2, 3, 4, 5, 6, 7, 8] _ rfl (by kernel_rfl)
      exact .inl ⟨rfl, (s179.1, s179.2.1, s179.2.2.1, s179.2.2.2.1, s179.2.2.2.2.1, s179.2.2.2.2.2.1, s179.2.2.2.2.2.2), rfl, A180, c181, A182, c183, A184, c185, A186, c187, A188, c189, (by simpa only [put_length, List.length_nil] using hf296), (by simpa only [put_length, List.length_nil] using hm297)⟩
    refine reg [.bool true] [2, 4, 5, 29, 30, 31, 32] [(2, .pointer (some ⟨b21, 0, none⟩)), (4, .slice A33 r30.length c34), (5, .pointer (some ⟨b45, 0, none⟩)), (29, .slice (sub A33 c34 (((1 : Int)).toNat) 1) (r30.length - ((1 : Int)).toNat) (c34 - ((1 : Int)).toNat)), (30, .int .i64 (((r30.length - ((1 : Int)).toNat) : Nat) : Int)), (31, .int .i64 s179.1), (32, .bool true)] [.is (decide (s179.1 < (((r30.length - ((1 : Int)).toNat) : Nat) : Int)) = true)] hf196 (by kernel_rfl) ⟨(decide_eq_true c198), trivial⟩ fun a199 hf200 => ?_
    refine thenN ?_
    refine wp_seq ?_
    refine condT hf200 (by kernel_rfl) ?_
    refine wp_skip ?_
    refine thenN ?_
    refine wp_seq ?_
    refine wp_block ?_
    refine wp_seq ?_
    obtain ⟨g201, H1⟩ := ifS_guard H1
    have q202 := (hm197.slAt 5 rfl).str s179.1 g201.1 (by rw [← (show (r30.length - ((1 : Int)).toNat) = ((List.take r30.length r30).drop (((1 : Int)).toNat)).length from (len_sub e155 e155l e155h))]; exact g201.2)
    refine reg [.string (bs (rd ((List.take r30.length r30).drop (((1 : Int)).toNat)) s179.1))] [2, 4, 5, 8, 29, 30, 31] [(2, .pointer (some ⟨b21, 0, none⟩)), (4, .slice A33 r30.length c34), (5, .pointer (some ⟨b45, 0, none⟩)), (8, .string (bs (rd ((List.take r30.length r30).drop (((1 : Int)).toNat)) s179.1))), (29, .slice (sub A33 c34 (((1 : Int)).toNat) 1) (r30.length - ((1 : Int)).toNat) (c34 - ((1 : Int)).toNat)), (30, .int .i64 (((r30.length - ((1 : Int)).toNat) : Nat) : Int)), (31, .int .i64 s179.1)] [.is (Option.isSome (sub A33 c34 (((1 : Int)).toNat) 1) = true), .is (0 ≤ s179.1 ∧ s179.1 < (((r30.length - ((1 : Int)).toNat) : Nat) : Int)), .cell ((ad ((sub A33 c34 (((1 : Int)).toNat) 1))).add ((s179.1).toNat * 1)) (.string (bs (rd ((List.take r30.length r30).drop (((1 : Int)).toNat)) s179.1)))] hf200 (by kernel_rfl) ⟨q202.1, g201, q202.2, trivial⟩ fun a203 hf204 => ?_
    refine thenN ?_
    refine wp_seq ?_
    obtain ⟨r205, hr205, H1⟩ := obS_split H1
    refine inReg ?_
    refine go 1 [] [2, 4, 5, 29, 30, 31, 36] [(2, .pointer (some ⟨b21, 0, none⟩)), (4, .slice A33 r30.length c34), (5, .pointer (some ⟨b45, 0, none⟩)), (29, .slice (sub A33 c34 (((1 : Int)).toNat) 1) (r30.length - ((1 : Int)).toNat) (c34 - ((1 : Int)).toNat)), (30, .int .i64 (((r30.length - ((1 : Int)).toNat) : Nat) : Int)), (31, .int .i64 s179.1), (36, .string (bs (rd ((List.take r30.length r30).drop (((1 : Int)).toNat)) s179.1)))] [] hf204 (by kernel_rfl) trivial fun a206 hf207 => ?_
    refine listOf hf207 rfl (by kernel_rfl) (aCall (fid := 29) (args := [.string (bs (rd ((List.take r30.length r30).drop (((1 : Int)).toNat)) s179.1)), .string (bs ([58] : List UInt8))]) (d := 37) hf207 (by kernel_rfl) (by kernel_rfl) callable29 (strings_Cut.calls _ _ (rd ((List.take r30.length r30).drop (((1 : Int)).toNat)) s179.1) ([58] : List UInt8) (hm197.give [] [] rfl rfl) r205 hr205 (hG.at hm197)) ?_)
    rintro _ w208 a209 ⟨rfl, hk211⟩ hf210
    have hm212 := hm197.still hk211.cum.none
    refine go 7 [] [2, 4, 5, 9, 10, 11, 29, 30, 31] [(2, .pointer (some ⟨b21, 0, none⟩)), (4, .slice A33 r30.length c34), (5, .pointer (some ⟨b45, 0, none⟩)), (9, .string (bs r205.1)), (10, .string (bs r205.2.1)), (11, .bool r205.2.2), (29, .slice (sub A33 c34 (((1 : Int)).toNat) 1) (r30.length - ((1 : Int)).toNat) (c34 - ((1 : Int)).toNat)), (30, .int .i64 (((r30.length - ((1 : Int)).toNat) : Nat) : Int)), (31, .int .i64 s179.1)] [] hf210 (by kernel_rfl) trivial fun a213 hf214 => ?_
    refine endL rfl ?_
    refine thenN ?_
    refine wp_seq ?_
    rcases ifbS_split H1 with ⟨c215, H1⟩ | ⟨c215, H1⟩
    rotate_left
    · rw [c215] at hf214
      refine reg [] [2, 4, 5, 29, 30, 31, 48] [(2, .pointer (some ⟨b21, 0, none⟩)), (4, .slice A33 r30.length c34), (5, .pointer (some ⟨b45, 0, none⟩)), (29, .slice (sub A33 c34 (((1 : Int)).toNat) 1) (r30.length - ((1 : Int)).toNat) (c34 - ((1 : Int)).toNat)), (30, .int .i64 (((r30.length - ((1 : Int)).toNat) : Nat) : Int)), (31, .int .i64 s179.1), (48, .bool true)] [] hf214 (by kernel_rfl) trivial fun a276 hf277 => ?_
      refine thenN ?_
      refine condT hf277 (by kernel_rfl) ?_
      refine wp_seq ?_
      refine inReg ?_
      refine go 1 [] [2, 49] [(2, .pointer (some ⟨b21, 0, none⟩)), (49, .agg #[.int .i64 0, .slice none 0 0, .slice none 0 0, .int .i64 0, .slice none 0 0, .slice none 0 0, .slice none 0 0])] [] hf277 (by kernel_rfl) trivial fun a278 hf279 => ?_
      refine listOf hf279 rfl (by kernel_rfl) (aStoreB (b := b21) (j := 0) (T := 49) (cs := [.int .i64 0, .slice none 0 0, .slice none 0 0, .int .i64 0, .slice none 0 0, .slice none 0 0, .slice none 0 0]) (us := [.int .i64 0, .slice none 0 0, .slice none 0 0, .int .i64 0, .slice none 0 0, .slice none 0 0, .slice none 0 0]) (cs' := [.int .i64 0, .slice none 0 0, .slice none 0 0, .int .i64 0, .slice none 0 0, .slice none 0 0, .slice none 0 0]) hf279 (by kernel_rfl) (hm212.bxAt 8 rfl) (by kernel_rfl) (by kernel_rfl) (by kernel_rfl) ?_)
      intro w280 hx281 hg282
      have hm283 := hm212.setBox 8 _ rfl rfl hx281 hg282
      refine go 1 [] [2, 3] [(2, .pointer (some ⟨b21, 0, none⟩)), (3, .bool false)] [] hf279 (by kernel_rfl) trivial fun a284 hf285 => ?_
      refine endL rfl ?_
      have hm286 := hm283.sel [8] _ rfl (by kernel_rfl)
      refine thenN ?_
      refine wp_ret ?_
      refine blkR ?_
      refine thenR ?_
      refine thenR ?_
      refine .inr ⟨rfl, ?_⟩
      refine thenR ?_
      have hm287 := hm286.nilSl (Kd.int .i64)
      have hm288 := hm287.nilSl (Kd.int .i64)
      have hm289 := hm288.nilSl (Kd.int .i64)
      have hm290 := hm289.nilSl Kd.float
      have hm291 := hm290.nilSl kHook
      have hm292 : Mem [] M w0 [.sl (Kd.int .i64) none 0 ([] : (List Int)), .sl (Kd.int .i64) none 0 ([] : (List Int)), .sl (Kd.int .i64) none 0 ([] : (List Int)), .sl Kd.float none 0 ([] : (List Nat)), .sl kHook none 0 ([] : (List Hook))] w280 := hm291.sel [4, 3, 2, 1, 0] _ rfl (by kernel_rfl)
      obtain rfl := Option.some.inj H1
      obtain rfl := Option.some.inj H0
      refine ret [.agg #[.int .i64 0, .slice none 0 0, .slice none 0 0, .int .i64 0, .slice none 0 0, .slice none 0 0, .slice none 0 0]] [.agg #[.int .i64 0, .slice none 0 0, .slice none 0 0, .int .i64 0, .slice none 0 0, .slice none 0 0, .slice none 0 0], .bool false] [.cell ⟨b21, 0, none⟩ (.int .i64 0), .cell ⟨b21, 1, none⟩ (.slice none 0 0), .cell ⟨b21, 2, none⟩ (.slice none 0 0), .cell ⟨b21, 3, none⟩ (.int .i64 0), .cell ⟨b21, 4, none⟩ (.slice none 0 0), .cell ⟨b21, 5, none⟩ (.slice none 0 0), .cell ⟨b21, 6, none⟩ (.slice none 0 0)] hf285 (by kernel_rfl) ⟨(hm286.cell 0 rfl rfl), (hm286.cell 0 rfl rfl), (hm286.cell 0 rfl rfl), (hm286.cell 0 rfl rfl), (hm286.cell 0 rfl rfl), (hm286.cell 0 rfl rfl), (hm286.cell 0 rfl rfl), trivial⟩ ?_
      exact ⟨_, rfl, none, 0, none, 0, none, 0, none, 0, none, 0, rfl, hm292⟩
    rw [c215] at hf214
    obtain ⟨r216, hr216, H1⟩ := obS_split H1
    rcases ifbS_split H1 with ⟨c217, H1⟩ | ⟨c217, H1⟩
    · refine inReg ?_
      refine go 5 [] [2, 4, 5, 29, 30, 31, 43, 44, 45] [(2, .pointer (some ⟨b21, 0, none⟩)), (4, .slice A33 r30.length c34), (5, .pointer (some ⟨b45, 0, none⟩)), (29, .slice (sub A33 c34 (((1 : Int)).toNat) 1) (r30.length - ((1 : Int)).toNat) (c34 - ((1 : Int)).toNat)), (30, .int .i64 (((r30.length - ((1 : Int)).toNat) : Nat) : Int)), (31, .int .i64 s179.1), (43, .bool false), (44, .string (bs r205.1)), (45, .string (bs r205.2.1))] [] hf214 (by kernel_rfl) trivial fun a218 hf219 => ?_
      refine listOf hf219 rfl (by kernel_rfl) (aCall (fid := 43) (args := [.pointer (some ⟨b45, 0, none⟩), .string (bs r205.1), .string (bs r205.2.1)]) (d := 46) hf219 (by kernel_rfl) (by kernel_rfl) callable43 (script_word.calls _ _ _ (⟨r59.2, s179.2.2.2.2.2.2, s179.2.2.2.2.2.1, s179.2.1, (⟨s179.2.2.2.2.1, s179.2.2.2.1⟩ : Tensor), s179.2.2.1⟩ : Node) b45 A188 s179.2.2.2.2.2.2.length c189 rfl A186 s179.2.2.2.2.2.1.length c187 rfl A184 s179.2.2.2.2.1.length c185 rfl A182 s179.2.2.2.1.length c183 rfl A180 s179.2.2.1.length c181 rfl r205.1 r205.2.1 (hm212.giveO [6, 4, 3, 2, 1, 0] [5, 7, 8] [] [.bx b45 [.int .i64 r59.2, .slice A188 s179.2.2.2.2.2.2.length c189, .slice A186 s179.2.2.2.2.2.1.length c187, .int .i64 s179.2.1, .slice A184 s179.2.2.2.2.1.length c185, .slice A182 s179.2.2.2.1.length c183, .slice A180 s179.2.2.1.length c181] 49, .ow (Kd.int .i64) 3 A188 c189 s179.2.2.2.2.2.2, .ow (Kd.int .i64) 3 A186 c187 s179.2.2.2.2.2.1, .ow (Kd.int .i64) 3 A184 c185 s179.2.2.2.2.1, .ow Kd.float 35 A182 c183 s179.2.2.2.1, .ow kHook 51 A180 c181 s179.2.2.1] _ [] rfl rfl rfl (by kernel_rfl) rfl) r216 hr216 (hG.atO hm212 [6, 4, 3, 2, 1, 0] _ rfl)) ?_)
      rintro _ w230 a231 ⟨A220, c221, A222, c223, A224, c225, A226, c227, A228, c229, rfl, hk233⟩ hf232
      have hm234 := hm212.backO [6, 4, 3, 2, 1, 0] [5, 7, 8] _ _ rfl rfl (by kernel_rfl) hk233
      rw [c217] at hf232
      refine go 2 [] [2, 4, 5, 29, 30, 31, 48] [(2, .pointer (some ⟨b21, 0, none⟩)), (4, .slice A33 r30.length c34), (5, .pointer (some ⟨b45, 0, none⟩)), (29, .slice (sub A33 c34 (((1 : Int)).toNat) 1) (r30.length - ((1 : Int)).toNat) (c34 - ((1 : Int)).toNat)), (30, .int .i64 (((r30.length - ((1 : Int)).toNat) : Nat) : Int)), (31, .int .i64 s179.1), (48, .bool false)] [] hf232 (by kernel_rfl) trivial fun a235 hf236 => ?_
      refine endL rfl ?_
      refine thenN ?_
      refine condF hf236 (by kernel_rfl) ?_
      refine wp_skip ?_
      refine blkN ?_
      refine thenN ?_
      refine reg [] [2, 4, 5, 29, 30, 31] [(2, .pointer (some ⟨b21, 0, none⟩)), (4, .slice A33 r30.length c34), (5, .pointer (some ⟨b45, 0, none⟩)), (29, .slice (sub A33 c34 (((1 : Int)).toNat) 1) (r30.length - ((1 : Int)).toNat) (c34 - ((1 : Int)).toNat)), (30, .int .i64 (((r30.length - ((1 : Int)).toNat) : Nat) : Int)), (31, .int .i64 (w64 (s179.1 + 1)))] [] hf236 (by kernel_rfl) trivial fun a237 hf238 => ?_
      have hf239 : Fr 70 a237 [(2, .pointer (some ⟨b21, 0, none⟩)), (4, .slice A33 r30.length c34), (5, .pointer (some ⟨b45, 0, none⟩)), (29, .slice (sub A33 c34 (((1 : Int)).toNat) 1) (r30.length - ((1 : Int)).toNat) (c34 - ((1 : Int)).toNat)), (30, .int .i64 (((r30.length - ((1 : Int)).toNat) : Nat) : Int)), (31, .int .i64 (w64 (s179.1 + 1)))] := hf238.sel (l := [2, 4, 5, 29, 30, 31]) (by kernel_rfl)
      have hm240 : Mem [] M w0 [.ow kHook 51 A228 c229 r216.2.2.2.2.1, .ow Kd.float 35 A226 c227 r216.2.2.2.1.Data, .ow (Kd.int .i64) 3 A224 c225 r216.2.2.2.1.Shape, .ow (Kd.int .i64) 3 A222 c223 r216.2.1, .ow (Kd.int .i64) 3 A220 c221 r216.1, .sl Kd.str (sub A33 c34 (((1 : Int)).toNat) 1) (c34 - ((1 : Int)).toNat) ((List.take r30.length r30).drop (((1 : Int)).toNat)), .bx b45 [.int .i64 r59.2, .slice A220 r216.1.length c221, .slice A222 r216.2.1.length c223, .int .i64 r216.2.2.1, .slice A224 r216.2.2.2.1.Shape.length c225, .slice A226 r216.2.2.2.1.Data.length c227, .slice A228 r216.2.2.2.2.1.length c229] 49, .sl Kd.str A33 c34 r30, .bx b21 [.int .i64 0, .slice none 0 0, .slice none 0 0, .int .i64 0, .slice none 0 0, .slice none 0 0, .slice none 0 0] 49] w230 := hm234.sel [5, 4, 3, 2, 1, 6, 0, 7, 8] _ rfl (by kernel_rfl)
      exact ⟨((w64 (s179.1 + 1)), r216.2.2.1, r216.2.2.2.2.1, r216.2.2.2.1.Data, r216.2.2.2.1.Shape, r216.2.1, r216.1), H1, A228, c229, A226, c227, A224, c225, A222, c223, A220, c221, (by simpa only [put_length, List.length_nil] using hf239), (by simpa only [put_length, List.length_nil] using hm240)⟩
    refine inReg ?_
    refine go 5 [] [2, 4, 5, 29, 30, 31, 43, 44, 45] [(2, .pointer (some ⟨b21, 0, none⟩)), (4, .slice A33 r30.length c34), (5, .pointer (some ⟨b45, 0, none⟩)), (29, .slice (sub A33 c34 (((1 : Int)).toNat) 1) (r30.length - ((1 : Int)).toNat) (c34 - ((1 : Int)).toNat)), (30, .int .i64 (((r30.length - ((1 : Int)).toNat) : Nat) : Int)), (31, .int .i64 s179.1), (43, .bool false), (44, .string (bs r205.1)), (45, .string (bs r205.2.1))] [] hf214 (by kernel_rfl) trivial fun a241 hf242 => ?_
    refine listOf hf242 rfl (by kernel_rfl) (aCall (fid := 43) (args := [.pointer (some ⟨b45, 0, none⟩), .string (bs r205.1), .string (bs r205.2.1)]) (d := 46) hf242 (by kernel_rfl) (by kernel_rfl) callable43 (script_word.calls _ _ _ (⟨r59.2, s179.2.2.2.2.2.2, s179.2.2.2.2.2.1, s179.2.1, (⟨s179.2.2.2.2.1, s179.2.2.2.1⟩ : Tensor), s179.2.2.1⟩ : Node) b45 A188 s179.2.2.2.2.2.2.length c189 rfl A186 s179.2.2.2.2.2.1.length c187 rfl A184 s179.2.2.2.2.1.length c185 rfl A182 s179.2.2.2.1.length c183 rfl A180 s179.2.2.1.length c181 rfl r205.1 r205.2.1 (hm212.giveO [6, 4, 3, 2, 1, 0] [5, 7, 8] [] [.bx b45 [.int .i64 r59.2, .slice A188 s179.2.2.2.2.2.2.length c189, .slice A186 s179.2.2.2.2.2.1.length c187, .int .i64 s179.2.1, .slice A184 s179.2.2.2.2.1.length c185, .slice A182 s179.2.2.2.1.length c183, .slice A180 s179.2.2.1.length c181] 49, .ow (Kd.int .i64) 3 A188 c189 s179.2.2.2.2.2.2, .ow (Kd.int .i64) 3 A186 c187 s179.2.2.2.2.2.1, .ow (Kd.int .i64) 3 A184 c185 s179.2.2.2.2.1, .ow Kd.float 35 A182 c183 s179.2.2.2.1, .ow kHook 51 A180 c181 s179.2.2.1] _ [] rfl rfl rfl (by kernel_rfl) rfl) r216 hr216 (hG.atO hm212 [6, 4, 3, 2, 1, 0] _ rfl)) ?_)
    rintro _ w253 a254 ⟨A243, c244, A245, c246, A247, c248, A249, c250, A251, c252, rfl, hk256⟩ hf255
    have hm257 := hm212.backO [6, 4, 3, 2, 1, 0] [5, 7, 8] _ _ rfl rfl (by kernel_rfl) hk256
    rw [c217] at hf255
    refine go 2 [] [2, 4, 5, 29, 30, 31, 48] [(2, .pointer (some ⟨b21, 0, none⟩)), (4, .slice A33 r30.length c34), (5, .pointer (some ⟨b45, 0, none⟩)), (29, .slice (sub A33 c34 (((1 : Int)).toNat) 1) (r30.length - ((1 : Int)).toNat) (c34 - ((1 : Int)).toNat)), (30, .int .i64 (((r30.length - ((1 : Int)).toNat) : Nat) : Int)), (31, .int .i64 s179.1), (48, .bool true)] [] hf255 (by kernel_rfl) trivial fun a258 hf259 => ?_
    refine endL rfl ?_
    refine thenN ?_
    refine condT hf259 (by kernel_rfl) ?_
    refine wp_seq ?_
    refine inReg ?_
    refine go 1 [] [2, 49] [(2, .pointer (some ⟨b21, 0, none⟩)), (49, .agg #[.int .i64 0, .slice none 0 0, .slice none 0 0, .int .i64 0, .slice none 0 0, .slice none 0 0, .slice none 0 0])] [] hf259 (by kernel_rfl) trivial fun a260 hf261 => ?_
    refine listOf hf261 rfl (by kernel_rfl) (aStoreB (b := b21) (j := 0) (T := 49) (cs := [.int .i64 0, .slice none 0 0, .slice none 0 0, .int .i64 0, .slice none 0 0, .slice none 0 0, .slice none 0 0]) (us := [.int .i64 0, .slice none 0 0, .slice none 0 0, .int .i64 0, .slice none 0 0, .slice none 0 0, .slice none 0 0]) (cs' := [.int .i64 0, .slice none 0 0, .slice none 0 0, .int .i64 0, .slice none 0 0, .slice none 0 0, .slice none 0 0]) hf261 (by kernel_rfl) (hm257.bxAt 8 rfl) (by kernel_rfl) (by kernel_rfl) (by kernel_rfl) ?_)
    intro w262 hx263 hg264
    have hm265 := hm257.setBox 8 _ rfl rfl hx263 hg264
    refine go 1 [] [2, 3] [(2, .pointer (some ⟨b21, 0, none⟩)), (3, .bool false)] [] hf261 (by kernel_rfl) trivial fun a266 hf267 => ?_
    refine endL rfl ?_
    have hm268 := hm265.sel [8] _ rfl (by kernel_rfl)
    refine thenN ?_
    refine wp_ret ?_
    refine blkR ?_
    refine thenR ?_
    refine thenR ?_
    refine .inr ⟨rfl, ?_⟩
    refine thenR ?_
    have hm269 := hm268.nilSl (Kd.int .i64)
    have hm270 := hm269.nilSl (Kd.int .i64)
    have hm271 := hm270.nilSl (Kd.int .i64)
    have hm272 := hm271.nilSl Kd.float
    have hm273 := hm272.nilSl kHook
    have hm274 : Mem [] M w0 [.sl (Kd.int .i64) none 0 ([] : (List Int)), .sl (Kd.int .i64) none 0 ([] : (List Int)), .sl (Kd.int .i64) none 0 ([] : (List Int)), .sl Kd.float none 0 ([] : (List Nat)), .sl kHook none 0 ([] : (List Hook))] w262 := hm273.sel [4, 3, 2, 1, 0] _ rfl (by kernel_rfl)
    obtain rfl := Option.some.inj H1
    obtain rfl := Option.some.inj H0
    refine ret [.agg #[.int .i64 0, .slice none 0 0, .slice none 0 0, .int .i64 0, .slice none 0 0, .slice none 0 0, .slice none 0 0]] [.agg #[.int .i64 0, .slice none 0 0, .slice none 0 0, .int .i64 0, .slice none 0 0, .slice none 0 0, .slice none 0 0], .bool false] [.cell ⟨b21, 0, none⟩ (.int .i64 0), .cell ⟨b21, 1, none⟩ (.slice none 0 0), .cell ⟨b21, 2, none⟩ (.slice none 0 0), .cell ⟨b21, 3, none⟩ (.int .i64 0), .cell ⟨b21, 4, none⟩ (.slice none 0 0), .cell ⟨b21, 5, none⟩ (.slice none 0 0), .cell ⟨b21, 6, none⟩ (.slice none 0 0)] hf267 (by kernel_rfl) ⟨(hm268.cell 0 rfl rfl), (hm268.cell 0 rfl rfl), (hm268.cell 0 rfl rfl), (hm268.cell 0 rfl rfl), (hm268.cell 0 rfl rfl), (hm268.cell 0 rfl rfl), (hm268.cell 0 rfl rfl), trivial⟩ ?_
    exact ⟨_, rfl, none, 0, none, 0, none, 0, none, 0, none, 0, rfl, hm274⟩
  rintro a298 w299 ⟨yr190, rfl, A180, c181, A182, c183, A184, c185, A186, c187, A188, c189, hf300, hm301⟩
  refine thenN ?_
  refine wp_seq ?_
  refine inReg ?_
  refine go 1 [] [2, 4, 5, 51] [(2, .pointer (some ⟨b21, 0, none⟩)), (4, .slice A33 r30.length c34), (5, .pointer (some ⟨b45, 0, none⟩)), (51, .agg #[.slice none 0 0, .bool false])] [] hf300 (by kernel_rfl) trivial fun a302 hf303 => ?_
  refine listOf hf303 rfl (by kernel_rfl) (aNew (cs := [.slice none 0 0, .bool false]) (T := 62) (d := 52) hf303 (by kernel_rfl) (by kernel_rfl) ?_)
  intro b304 w305 a306 hbb304 hx308 hg309 hf307
  have hm310 := hm301.box hbb304 hx308 hg309
  refine go 1 [] [2, 4, 5, 12] [(2, .pointer (some ⟨b21, 0, none⟩)), (4, .slice A33 r30.length c34), (5, .pointer (some ⟨b45, 0, none⟩)), (12, .pointer (some ⟨b304, 0, none⟩))] [] hf307 (by kernel_rfl) trivial fun a311 hf312 => ?_
  refine endL rfl ?_
  have hm313 := hm310.sel [0, 1, 2, 3, 4, 5, 7, 8, 9] _ rfl (by kernel_rfl)
  refine thenN ?_
  refine wp_seq ?_
  obtain ⟨r314, hr314, H0⟩ := ob_split H0
  refine inReg ?_
  refine go 2 [.agg #[.int .i64 r59.2, .slice A188 yr190.2.2.2.2.2.2.length c189, .slice A186 yr190.2.2.2.2.2.1.length c187, .int .i64 yr190.2.1, .slice A184 yr190.2.2.2.2.1.length c185, .slice A182 yr190.2.2.2.1.length c183, .slice A180 yr190.2.2.1.length c181]] [2, 4, 5, 12, 53, 54] [(2, .pointer (some ⟨b21, 0, none⟩)), (4, .slice A33 r30.length c34), (5, .pointer (some ⟨b45, 0, none⟩)), (12, .pointer (some ⟨b304, 0, none⟩)), (53, .pointer (some ⟨b304, 0, none⟩)), (54, .agg #[.int .i64 r59.2, .slice A188 yr190.2.2.2.2.2.2.length c189, .slice A186 yr190.2.2.2.2.2.1.length c187, .int .i64 yr190.2.1, .slice A184 yr190.2.2.2.2.1.length c185, .slice A182 yr190.2.2.2.1.length c183, .slice A180 yr190.2.2.1.length c181])] [.cell ⟨b45, 0, none⟩ (.int .i64 r59.2), .cell ⟨b45, 1, none⟩ (.slice A188 yr190.2.2.2.2.2.2.length c189), .cell ⟨b45, 2, none⟩ (.slice A186 yr190.2.2.2.2.2.1.length c187), .cell ⟨b45, 3, none⟩ (.int .i64 yr190.2.1), .cell ⟨b45, 4, none⟩ (.slice A184 yr190.2.2.2.2.1.length c185), .cell ⟨b45, 5, none⟩ (.slice A182 yr190.2.2.2.1.length c183), .cell ⟨b45, 6, none⟩ (.slice A180 yr190.2.2.1.length c181)] hf312 (by kernel_rfl) ⟨(hm313.cell 6 rfl rfl), (hm313.cell 6 rfl rfl), (hm313.cell 6 rfl rfl), (hm313.cell 6 rfl rfl), (hm313.cell 6 rfl rfl), (hm313.cell 6 rfl rfl), (hm313.cell 6 rfl rfl), trivial⟩ fun a315 hf316 => ?_
  have hm317 := hm313.nilOw Kd.str 9
  have hm318 := hm317.seal 6 _ rfl rfl
  have hm319 := hm318.seal 5 _ rfl rfl
  have hm320 := hm319.seal 4 _ rfl rfl
  have hm321 := hm320.seal 3 _ rfl rfl
  have hm322 := hm321.seal 2 _ rfl rfl
  refine listOf hf316 rfl (by kernel_rfl) (aCall (fid := 22) (args := [.pointer (some ⟨b304, 0, none⟩), .agg #[.int .i64 r59.2, .slice A188 yr190.2.2.2.2.2.2.length c189, .slice A186 yr190.2.2.2.2.2.1.length c187, .int .i64 yr190.2.1, .slice A184 yr190.2.2.2.2.1.length c185, .slice A182 yr190.2.2.2.1.length c183, .slice A180 yr190.2.2.1.length c181]]) (d := 55) hf316 (by kernel_rfl) (by kernel_rfl) callable22 (script_writer_node.calls _ _ _ (⟨([] : (List (List UInt8))), false⟩ : Writer) b304 none 0 0 rfl (⟨r59.2, yr190.2.2.2.2.2.2, yr190.2.2.2.2.2.1, yr190.2.1, (⟨yr190.2.2.2.2.1, yr190.2.2.2.1⟩ : Tensor), yr190.2.2.1⟩ : Node) A188 yr190.2.2.2.2.2.2.length c189 rfl A186 yr190.2.2.2.2.2.1.length c187 rfl A184 yr190.2.2.2.2.1.length c185 rfl A182 yr190.2.2.2.1.length c183 rfl A180 yr190.2.2.1.length c181 rfl (hm322.giveO [1, 0] [2, 3, 4, 5, 6, 7, 8, 9] [6, 5, 4, 3, 2] [.bx b304 [.slice none 0 0, .bool false] 62, .ow Kd.str 9 none 0 ([] : (List (List UInt8)))] _ [.sl (Kd.int .i64) A188 c189 yr190.2.2.2.2.2.2, .sl (Kd.int .i64) A186 c187 yr190.2.2.2.2.2.1, .sl (Kd.int .i64) A184 c185 yr190.2.2.2.2.1, .sl Kd.float A182 c183 yr190.2.2.2.1, .sl kHook A180 c181 yr190.2.2.1] rfl rfl rfl (by kernel_rfl) rfl) r314 hr314 (hG.atO hm322 [1, 0] _ rfl)) ?_)
  rintro _ w325 a326 ⟨A323, c324, rfl, hk328⟩ hf327
  have hm329 := hm322.backO [1, 0] [2, 3, 4, 5, 6, 7, 8, 9] _ _ rfl rfl (by kernel_rfl) hk328
  refine endL rfl ?_
  refine thenN ?_
  refine wp_seq ?_
  rcases ifb_split H0 with ⟨c330, H0⟩ | ⟨c330, H0⟩
  · rw [c330] at hm329
    refine midReg (fun (a : Act) (w : World) => Fr 70 a [(2, .pointer (some ⟨b21, 0, none⟩)), (3, .bool false)] ∧ Mem [] M w0 [.sl kHook A180 c181 yr190.2.2.1, .sl Kd.float A182 c183 yr190.2.2.2.1, .sl (Kd.int .i64) A184 c185 yr190.2.2.2.2.1, .sl (Kd.int .i64) A186 c187 yr190.2.2.2.2.2.1, .sl (Kd.int .i64) A188 c189 yr190.2.2.2.2.2.2, .bx b21 [.int .i64 r59.2, .slice A188 yr190.2.2.2.2.2.2.length c189, .slice A186 yr190.2.2.2.2.2.1.length c187, .int .i64 yr190.2.1, .slice A184 yr190.2.2.2.2.1.length c185, .slice A182 yr190.2.2.2.1.length c183, .slice A180 yr190.2.2.1.length c181] 49] w) ?_ ?_
    · refine anyG (K := []) [14] (by kernel_rfl) fun w336 hg337 => ?_
      have hm338 := hm329.still hg337
      refine quiet0 [0, 1, 2, 3, 4, 5, 6, 7, 8, 9, 10, 11, 12, 13] [.agg #[.int .i64 r59.2, .slice A188 yr190.2.2.2.2.2.2.length c189, .slice A186 yr190.2.2.2.2.2.1.length c187, .int .i64 yr190.2.1, .slice A184 yr190.2.2.2.2.1.length c185, .slice A182 yr190.2.2.2.1.length c183, .slice A180 yr190.2.2.1.length c181], .bool true] [2, 56, 69] #[true, true, true, true, true, true, true, true, true, true, true, true, true, true, false, false] [(2, .pointer (some ⟨b21, 0, none⟩)), (56, .agg #[.int .i64 r59.2, .slice A188 yr190.2.2.2.2.2.2.length c189, .slice A186 yr190.2.2.2.2.2.1.length c187, .int .i64 yr190.2.1, .slice A184 yr190.2.2.2.2.1.length c185, .slice A182 yr190.2.2.2.1.length c183, .slice A180 yr190.2.2.1.length c181]), (69, .bool false)] [.cell ⟨b45, 0, none⟩ (.int .i64 r59.2), .cell ⟨b45, 1, none⟩ (.slice A188 yr190.2.2.2.2.2.2.length c189), .cell ⟨b45, 2, none⟩ (.slice A186 yr190.2.2.2.2.2.1.length c187), .cell ⟨b45, 3, none⟩ (.int .i64 yr190.2.1), .cell ⟨b45, 4, none⟩ (.slice A184 yr190.2.2.2.2.1.length c185), .cell ⟨b45, 5, none⟩ (.slice A182 yr190.2.2.2.1.length c183), .cell ⟨b45, 6, none⟩ (.slice A180 yr190.2.2.1.length c181), .cell ⟨b304, 1, none⟩ (.bool true)] 2 rfl (by kernel_rfl) (fun _ _ _ _ _ h => nomatch h.1) hf327 (by kernel_rfl) ⟨(hm338.cell 7 rfl rfl), (hm338.cell 7 rfl rfl), (hm338.cell 7 rfl rfl), (hm338.cell 7 rfl rfl), (hm338.cell 7 rfl rfl), (hm338.cell 7 rfl rfl), (hm338.cell 7 rfl rfl), (hm338.cell 0 rfl rfl), trivial⟩ fun a347 hf348 => ?_
      refine all1 14 (by kernel_rfl) ?_
      refine opOf hf348 rfl (by kernel_rfl) (aStoreB (b := b21) (j := 0) (T := 49) (cs := [.int .i64 0, .slice none 0 0, .slice none 0 0, .int .i64 0, .slice none 0 0, .slice none 0 0, .slice none 0 0]) (us := [.int .i64 r59.2, .slice A188 yr190.2.2.2.2.2.2.length c189, .slice A186 yr190.2.2.2.2.2.1.length c187, .int .i64 yr190.2.1, .slice A184 yr190.2.2.2.2.1.length c185, .slice A182 yr190.2.2.2.1.length c183, .slice A180 yr190.2.2.1.length c181]) (cs' := [.int .i64 r59.2, .slice A188 yr190.2.2.2.2.2.2.length c189, .slice A186 yr190.2.2.2.2.2.1.length c187, .int .i64 yr190.2.1, .slice A184 yr190.2.2.2.2.1.length c185, .slice A182 yr190.2.2.2.1.length c183, .slice A180 yr190.2.2.1.length c181]) hf348 (by kernel_rfl) (hm338.bxAt 9 rfl) (by kernel_rfl) (by kernel_rfl) (by kernel_rfl) ?_)
      intro w349 hx350 hg351
      refine ⟨.inl (by decide), ?_⟩
      have hm352 := hm338.setBox 9 _ rfl rfl hx350 hg351
      refine quiet0 [15] [] [2, 3] #[true, true, true, true, true, true, true, true, true, true, true, true, true, true, true, true] [(2, .pointer (some ⟨b21, 0, none⟩)), (3, .bool false)] [] 0 rfl (by kernel_rfl) (fun _ _ _ _ _ h => nomatch h.1) hf348 (by kernel_rfl) trivial fun a353 hf354 => ?_
      refine allDone (by kernel_rfl) ⟨rfl, hf354.sel (l := [2, 3]) (by kernel_rfl), hm352.sel [2, 3, 4, 5, 6, 9] _ rfl (by kernel_rfl)⟩
    rintro a355 w356 ⟨hf357, hm358⟩
    refine thenN ?_
    refine wp_ret ?_
    have hm359 : Mem [] M w0 [.sl (Kd.int .i64) A188 c189 yr190.2.2.2.2.2.2, .sl (Kd.int .i64) A186 c187 yr190.2.2.2.2.2.1, .sl (Kd.int .i64) A184 c185 yr190.2.2.2.2.1, .sl Kd.float A182 c183 yr190.2.2.2.1, .sl kHook A180 c181 yr190.2.2.1] w356 := hm358.sel [4, 3, 2, 1, 0] _ rfl (by kernel_rfl)
    obtain rfl := Option.some.inj H0
    refine ret [.agg #[.int .i64 r59.2, .slice A188 yr190.2.2.2.2.2.2.length c189, .slice A186 yr190.2.2.2.2.2.1.length c187, .int .i64 yr190.2.1, .slice A184 yr190.2.2.2.2.1.length c185, .slice A182 yr190.2.2.2.1.length c183, .slice A180 yr190.2.2.1.length c181]] [.agg #[.int .i64 r59.2, .slice A188 yr190.2.2.2.2.2.2.length c189, .slice A186 yr190.2.2.2.2.2.1.length c187, .int .i64 yr190.2.1, .slice A184 yr190.2.2.2.2.1.length c185, .slice A182 yr190.2.2.2.1.length c183, .slice A180 yr190.2.2.1.length c181], .bool false] [.cell ⟨b21, 0, none⟩ (.int .i64 r59.2), .cell ⟨b21, 1, none⟩ (.slice A188 yr190.2.2.2.2.2.2.length c189), .cell ⟨b21, 2, none⟩ (.slice A186 yr190.2.2.2.2.2.1.length c187), .cell ⟨b21, 3, none⟩ (.int .i64 yr190.2.1), .cell ⟨b21, 4, none⟩ (.slice A184 yr190.2.2.2.2.1.length c185), .cell ⟨b21, 5, none⟩ (.slice A182 yr190.2.2.2.1.length c183), .cell ⟨b21, 6, none⟩ (.slice A180 yr190.2.2.1.length c181)] hf357 (by kernel_rfl) ⟨(hm358.cell 5 rfl rfl), (hm358.cell 5 rfl rfl), (hm358.cell 5 rfl rfl), (hm358.cell 5 rfl rfl), (hm358.cell 5 rfl rfl), (hm358.cell 5 rfl rfl), (hm358.cell 5 rfl rfl), trivial⟩ ?_
    exact ⟨_, rfl, A188, c189, A186, c187, A184, c185, A182, c183, A180, c181, rfl, hm359⟩
  rw [c330] at hm329
  obtain ⟨r361, hr361, H0⟩ := ob_split H0
  refine midReg (fun (a : Act) (w : World) => Fr 70 a [(2, .pointer (some ⟨b21, 0, none⟩)), (3, .bool r361)] ∧ Mem [] M w0 [.sl kHook A180 c181 yr190.2.2.1, .sl Kd.float A182 c183 yr190.2.2.2.1, .sl (Kd.int .i64) A184 c185 yr190.2.2.2.2.1, .sl (Kd.int .i64) A186 c187 yr190.2.2.2.2.2.1, .sl (Kd.int .i64) A188 c189 yr190.2.2.2.2.2.2, .bx b21 [.int .i64 r59.2, .slice A188 yr190.2.2.2.2.2.2.length c189, .slice A186 yr190.2.2.2.2.2.1.length c187, .int .i64 yr190.2.1, .slice A184 yr190.2.2.2.2.1.length c185, .slice A182 yr190.2.2.2.1.length c183, .slice A180 yr190.2.2.1.length c181] 49] w) ?_ ?_
  · refine anyG (K := []) [14] (by kernel_rfl) fun w372 hg373 => ?_
    have hm374 := hm329.still hg373
    refine quiet0 [0, 1, 2, 3, 4, 5, 6, 7, 8, 9, 10, 11] [.agg #[.int .i64 r59.2, .slice A188 yr190.2.2.2.2.2.2.length c189, .slice A186 yr190.2.2.2.2.2.1.length c187, .int .i64 yr190.2.1, .slice A184 yr190.2.2.2.2.1.length c185, .slice A182 yr190.2.2.2.1.length c183, .slice A180 yr190.2.2.1.length c181], .bool false, .slice A323 r314.1.length c324] [2, 56, 62, 66, 67] #[true, true, true, true, true, true, true, true, true, true, true, true, false, false, false, false] [(2, .pointer (some ⟨b21, 0, none⟩)), (56, .agg #[.int .i64 r59.2, .slice A188 yr190.2.2.2.2.2.2.length c189, .slice A186 yr190.2.2.2.2.2.1.length c187, .int .i64 yr190.2.1, .slice A184 yr190.2.2.2.2.1.length c185, .slice A182 yr190.2.2.2.1.length c183, .slice A180 yr190.2.2.1.length c181]), (62, .bool true), (66, .slice A323 r314.1.length c324), (67, .slice A33 r30.length c34)] [.cell ⟨b45, 0, none⟩ (.int .i64 r59.2), .cell ⟨b45, 1, none⟩ (.slice A188 yr190.2.2.2.2.2.2.length c189), .cell ⟨b45, 2, none⟩ (.slice A186 yr190.2.2.2.2.2.1.length c187), .cell ⟨b45, 3, none⟩ (.int .i64 yr190.2.1), .cell ⟨b45, 4, none⟩ (.slice A184 yr190.2.2.2.2.1.length c185), .cell ⟨b45, 5, none⟩ (.slice A182 yr190.2.2.2.1.length c183), .cell ⟨b45, 6, none⟩ (.slice A180 yr190.2.2.1.length c181), .cell ⟨b304, 1, none⟩ (.bool false), .cell ⟨b304, 0, none⟩ (.slice A323 r314.1.length c324)] 4 rfl (by kernel_rfl) (fun _ _ _ _ _ h => nomatch h.1) hf327 (by kernel_rfl) ⟨(hm374.cell 7 rfl rfl), (hm374.cell 7 rfl rfl), (hm374.cell 7 rfl rfl), (hm374.cell 7 rfl rfl), (hm374.cell 7 rfl rfl), (hm374.cell 7 rfl rfl), (hm374.cell 7 rfl rfl), (hm374.cell 0 rfl rfl), (hm374.cell 0 rfl rfl), trivial⟩ fun a390 hf391 => ?_
    refine all1 12 (by kernel_rfl) ?_
    have hm392 : Mem [] M w0 [.bx b304 [.slice A323 r314.1.length c324, .bool false] 62, .sl Kd.str A323 c324 r314.1, .sl kHook A180 c181 yr190.2.2.1, .sl Kd.float A182 c183 yr190.2.2.2.1, .sl (Kd.int .i64) A184 c185 yr190.2.2.2.2.1, .sl (Kd.int .i64) A186 c187 yr190.2.2.2.2.2.1, .sl (Kd.int .i64) A188 c189 yr190.2.2.2.2.2.2, .bx b45 [.int .i64 r59.2, .slice A188 yr190.2.2.2.2.2.2.length c189, .slice A186 yr190.2.2.2.2.2.1.length c187, .int .i64 yr190.2.1, .slice A184 yr190.2.2.2.2.1.length c185, .slice A182 yr190.2.2.2.1.length c183, .slice A180 yr190.2.2.1.length c181] 49, .sl Kd.str A33 c34 r30, .bx b21 [.int .i64 0, .slice none 0 0, .slice none 0 0, .int .i64 0, .slice none 0 0, .slice none 0 0, .slice none 0 0] 49] w372 := hm374.seal 1 _ rfl rfl
    refine opOf hf391 rfl (by kernel_rfl) (aCall (fid := 44) (args := [.slice A323 r314.1.length c324, .slice A33 r30.length c34]) (d := 68) hf391 (by kernel_rfl) (by kernel_rfl) callable44 (slices_Equal_string.calls _ _ r314.1 A323 r314.1.length c324 rfl r30 A33 r30.length c34 rfl (hm392.give [1, 8] [.sl Kd.str A323 c324 r314.1, .sl Kd.str A33 c34 r30] rfl rfl) r361 hr361) ?_)
    rintro _ w393 a394 ⟨rfl, hk396⟩ hf395
    refine ⟨.inr (Gr.still hk396.cum.none), ?_⟩
    have hm397 := hm374.still hk396.cum.none
    refine quiet0 [13] [] [2, 56, 69] #[true, true, true, true, true, true, true, true, true, true, true, true, true, true, false, false] [(2, .pointer (some ⟨b21, 0, none⟩)), (56, .agg #[.int .i64 r59.2, .slice A188 yr190.2.2.2.2.2.2.length c189, .slice A186 yr190.2.2.2.2.2.1.length c187, .int .i64 yr190.2.1, .slice A184 yr190.2.2.2.2.1.length c185, .slice A182 yr190.2.2.2.1.length c183, .slice A180 yr190.2.2.1.length c181]), (69, .bool r361)] [] 2 rfl (by kernel_rfl) (fun _ _ _ _ _ h => nomatch h.1) hf395 (by kernel_rfl) trivial fun a398 hf399 => ?_
    refine all1 14 (by kernel_rfl) ?_
    refine opOf hf399 rfl (by kernel_rfl) (aStoreB (b := b21) (j := 0) (T := 49) (cs := [.int .i64 0, .slice none 0 0, .slice none 0 0, .int .i64 0, .slice none 0 0, .slice none 0 0, .slice none 0 0]) (us := [.int .i64 r59.2, .slice A188 yr190.2.2.2.2.2.2.length c189, .slice A186 yr190.2.2.2.2.2.1.length c187, .int .i64 yr190.2.1, .slice A184 yr190.2.2.2.2.1.length c185, .slice A182 yr190.2.2.2.1.length c183, .slice A180 yr190.2.2.1.length c181]) (cs' := [.int .i64 r59.2, .slice A188 yr190.2.2.2.2.2.2.length c189, .slice A186 yr190.2.2.2.2.2.1.length c187, .int .i64 yr190.2.1, .slice A184 yr190.2.2.2.2.1.length c185, .slice A182 yr190.2.2.2.1.length c183, .slice A180 yr190.2.2.1.length c181]) hf399 (by kernel_rfl) (hm397.bxAt 9 rfl) (by kernel_rfl) (by kernel_rfl) (by kernel_rfl) ?_)
    intro w400 hx401 hg402
    refine ⟨.inl (by decide), ?_⟩
    have hm403 := hm397.setBox 9 _ rfl rfl hx401 hg402
    refine quiet0 [15] [] [2, 3] #[true, true, true, true, true, true, true, true, true, true, true, true, true, true, true, true] [(2, .pointer (some ⟨b21, 0, none⟩)), (3, .bool r361)] [] 0 rfl (by kernel_rfl) (fun _ _ _ _ _ h => nomatch h.1) hf399 (by kernel_rfl) trivial fun a404 hf405 => ?_
    refine allDone (by kernel_rfl) ⟨rfl, hf405.sel (l := [2, 3]) (by kernel_rfl), hm403.sel [2, 3, 4, 5, 6, 9] _ rfl (by kernel_rfl)⟩
  rintro a406 w407 ⟨hf408, hm409⟩
  refine thenN ?_
  refine wp_ret ?_
  have hm410 : Mem [] M w0 [.sl (Kd.int .i64) A188 c189 yr190.2.2.2.2.2.2, .sl (Kd.int .i64) A186 c187 yr190.2.2.2.2.2.1, .sl (Kd.int .i64) A184 c185 yr190.2.2.2.2.1, .sl Kd.float A182 c183 yr190.2.2.2.1, .sl kHook A180 c181 yr190.2.2.1] w407 := hm409.sel [4, 3, 2, 1, 0] _ rfl (by kernel_rfl)
  obtain rfl := Option.some.inj H0
  refine ret [.agg #[.int .i64 r59.2, .slice A188 yr190.2.2.2.2.2.2.length c189, .slice A186 yr190.2.2.2.2.2.1.length c187, .int .i64 yr190.2.1, .slice A184 yr190.2.2.2.2.1.length c185, .slice A182 yr190.2.2.2.1.length c183, .slice A180 yr190.2.2.1.length c181]] [.agg #[.int .i64 r59.2, .slice A188 yr190.2.2.2.2.2.2.length c189, .slice A186 yr190.2.2.2.2.2.1.length c187, .int .i64 yr190.2.1, .slice A184 yr190.2.2.2.2.1.length c185, .slice A182 yr190.2.2.2.1.length c183, .slice A180 yr190.2.2.1.length c181], .bool r361] [.cell ⟨b21, 0, none⟩ (.int .i64 r59.2), .cell ⟨b21, 1, none⟩ (.slice A188 yr190.2.2.2.2.2.2.length c189), .cell ⟨b21, 2, none⟩ (.slice A186 yr190.2.2.2.2.2.1.length c187), .cell ⟨b21, 3, none⟩ (.int .i64 yr190.2.1), .cell ⟨b21, 4, none⟩ (.slice A184 yr190.2.2.2.2.1.length c185), .cell ⟨b21, 5, none⟩ (.slice A182 yr190.2.2.2.1.length c183), .cell ⟨b21, 6, none⟩ (.slice A180 yr190.2.2.1.length c181)] hf408 (by kernel_rfl) ⟨(hm409.cell 5 rfl rfl), (hm409.cell 5 rfl rfl), (hm409.cell 5 rfl rfl), (hm409.cell 5 rfl rfl), (hm409.cell 5 rfl rfl), (hm409.cell 5 rfl rfl), (hm409.cell 5 rfl rfl), trivial⟩ ?_
  exact ⟨_, rfl, A188, c189, A186, c187, A184, c185, A182, c183, A180, c181, rfl, hm410⟩
end Go.Proofs.YtkdhahdfkonilaaDoor
