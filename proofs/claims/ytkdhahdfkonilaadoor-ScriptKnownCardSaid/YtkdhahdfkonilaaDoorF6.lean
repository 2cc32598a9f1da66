/- Printed by gen.py. -/
import Derived.Test.YtkdhahdfkonilaaDoorF3
import Derived.Test.YtkdhahdfkonilaaDoorF5
namespace Go.Proofs.YtkdhahdfkonilaaDoor
open Go Go.RowKit
set_option linter.unusedSimpArgs false
set_option linter.unusedVariables false
set_option linter.unnecessarySimpa false
/-! ### backstitch/script.Read -/
noncomputable def script_Read.l0  (s41 : ((List UInt8) × (List Node))) : Step ((List UInt8) × (List Node)) (Out2 ((List UInt8) × (List Node)) (Graph × Int)) :=
  if s41.1 = ([] : List UInt8) then (.done (.go (s41.1, s41.2)))
  else (bindS (strings_Cut.f s41.1 ([10] : List UInt8)) fun r55 =>
  bindS (script_node.f r55.1) fun r66 =>
  if r55.2.2 = true then (if r66.2 = true then (if s41.2.length + 1 ≤ 549755813888 then (.next (r55.2.1, (s41.2 ++ ([r66.1] : List Node))))
  else .bad)
  else (.done (.ret ((⟨([] : (List Node))⟩ : Graph), 14))))
  else (.done (.ret ((⟨([] : (List Node))⟩ : Graph), 14))))
noncomputable def script_Read.f (x0 : (List UInt8)) : Option (Graph × Int) :=
  (loop (script_Read.l0) (x0, ([] : (List Node)))).bind fun r44 =>
  r44.on (fun yr44 =>
  if 256 < (yr44.2.length : Int) then (some ((⟨([] : (List Node))⟩ : Graph), 13))
  else (some ((⟨yr44.2⟩ : Graph), 0))) (fun y => some y)
set_option maxRecDepth 100000 in
set_option maxHeartbeats 4000000 in
theorem script_Read.calls (M : List (Option Nat)) (w0 : World) (x0 : (List UInt8)) (hm0 : Mem [] M w0 [] w0) (r : (Graph × Int)) (H0 : script_Read.f x0 = some r) (hG : Glob [] w0) :
    Calls Tryd.prog 13 [.string (bs x0)].toArray w0 (fun x w' => ∃ v, x = .returned v ∧ ∃ Ar0_0 cr0_0, v = .tuple #[.agg #[.slice Ar0_0 r.1.L.length cr0_0], .int .i64 r.2] ∧ Mem [] M w0 [.ow kNode 49 Ar0_0 cr0_0 r.1.L] w') := by
  unfold script_Read.f at H0
  refine enter (n := 43) Tryd.func13 rfl rfl (by kernel_rfl) fun a0 (hf0 : Fr 43 a0 [(0, .string (bs x0))]) => ?_
  refine wp_seq ?_
  refine inReg ?_
  refine listOf hf0 rfl (by kernel_rfl) (aNew (cs := [.slice none 0 0]) (T := 24) (d := 2) hf0 (by kernel_rfl) (by kernel_rfl) ?_)
  intro b21 w22 a23 hbb21 hx25 hg26 hf24
  have hm27 := hm0.box hbb21 hx25 hg26
  refine go 1 [] [0, 2] [(0, .string (bs x0)), (2, .pointer (some ⟨b21, 0, none⟩))] [] hf24 (by kernel_rfl) trivial fun a28 hf29 => ?_
  refine endL rfl ?_
  refine thenN ?_
  refine wp_seq ?_
  refine inReg ?_
  refine listOf hf29 rfl (by kernel_rfl) (aNew (cs := [.slice none 0 0]) (T := 24) (d := 4) hf29 (by kernel_rfl) (by kernel_rfl) ?_)
  intro b30 w31 a32 hbb30 hx34 hg35 hf33
  have hm36 := hm27.box hbb30 hx34 hg35
  refine endL rfl ?_
  refine thenN ?_
  refine wp_seq ?_
  have hm38 := hm36.nilOw kNode 49
  obtain ⟨r44, hr44, H0⟩ := ob_split H0
  refine wpBlock (Mid := fun (a : Act) (w : World) => ∃ yr44 : ((List UInt8) × (List Node)), r44 = .go yr44 ∧ ∃ (A42 : Option Addr) (c43 : Nat), Fr 43 a [(0, .string (bs yr44.1)), (2, .pointer (some ⟨b21, 0, none⟩)), (4, .pointer (some ⟨b30, 0, none⟩))] ∧ Mem [] M w0 [.ow kNode 49 A42 c43 yr44.2, .bx b30 [.slice A42 yr44.2.length c43] 24, .bx b21 [.slice none 0 0] 24] w) ?_ ?_
  · refine wpLoop (script_Read.l0) r44 (fun (s41 : ((List UInt8) × (List Node))) (a : Act) (w : World) => ∃ (A42 : Option Addr) (c43 : Nat), Fr 43 a [(0, .string (bs s41.1)), (2, .pointer (some ⟨b21, 0, none⟩)), (4, .pointer (some ⟨b30, 0, none⟩))] ∧ Mem [] M w0 [.ow kNode 49 A42 c43 s41.2, .bx b30 [.slice A42 s41.2.length c43] 24, .bx b21 [.slice none 0 0] 24] w) (x0, ([] : (List Node))) hr44 ⟨none, 0, hf33.sel (l := [0, 2, 4]) (by kernel_rfl), hm38.sel [0, 1, 2] _ rfl (by kernel_rfl)⟩ ?_
    rintro g45 s41 a46 w47 H1 ⟨A42, c43, hf48, hm49⟩
    unfold script_Read.l0 at H1
    refine wp_seq ?_
    refine wp_seq ?_
    rcases ifS_split H1 with ⟨c50, H1⟩ | ⟨c50, H1⟩
    · refine reg [.bool false] [0, 2, 4, 11] [(0, .string (bs s41.1)), (2, .pointer (some ⟨b21, 0, none⟩)), (4, .pointer (some ⟨b30, 0, none⟩)), (11, .bool false)] [.is ((!decide (bs s41.1 = bs ([] : List UInt8))) = false)] hf48 (by kernel_rfl) ⟨(snF c50), trivial⟩ fun a51 hf52 => ?_
      refine thenN ?_
      refine condF hf52 (by kernel_rfl) ?_
      refine wp_exit ?_
      refine thenE ?_
      refine thenE ?_
      obtain rfl := Option.some.inj H1
      exact .inl ⟨rfl, (s41.1, s41.2), rfl, A42, c43, hf52.sel (l := [0, 2, 4]) (by kernel_rfl), hm49.sel [0, 1, 2] _ rfl (by kernel_rfl)⟩
    refine reg [.bool true] [0, 2, 4, 11] [(0, .string (bs s41.1)), (2, .pointer (some ⟨b21, 0, none⟩)), (4, .pointer (some ⟨b30, 0, none⟩)), (11, .bool true)] [.is ((!decide (bs s41.1 = bs ([] : List UInt8))) = true)] hf48 (by kernel_rfl) ⟨(snT c50), trivial⟩ fun a53 hf54 => ?_
    refine thenN ?_
    refine condT hf54 (by kernel_rfl) ?_
    refine wp_skip ?_
    refine thenN ?_
    refine wp_block ?_
    refine wp_seq ?_
    obtain ⟨r55, hr55, H1⟩ := obS_split H1
    refine inReg ?_
    refine go 1 [] [2, 4, 13] [(2, .pointer (some ⟨b21, 0, none⟩)), (4, .pointer (some ⟨b30, 0, none⟩)), (13, .string (bs s41.1))] [] hf54 (by kernel_rfl) trivial fun a56 hf57 => ?_
    refine listOf hf57 rfl (by kernel_rfl) (aCall (fid := 29) (args := [.string (bs s41.1), .string (bs ([10] : List UInt8))]) (d := 14) hf57 (by kernel_rfl) (by kernel_rfl) callable29 (strings_Cut.calls _ _ s41.1 ([10] : List UInt8) (hm49.give [] [] rfl rfl) r55 hr55 (hG.at hm49)) ?_)
    rintro _ w58 a59 ⟨rfl, hk61⟩ hf60
    have hm62 := hm49.still hk61.cum.none
    refine go 7 [] [2, 4, 5, 6, 7] [(2, .pointer (some ⟨b21, 0, none⟩)), (4, .pointer (some ⟨b30, 0, none⟩)), (5, .string (bs r55.1)), (6, .string (bs r55.2.1)), (7, .bool r55.2.2)] [] hf60 (by kernel_rfl) trivial fun a63 hf65 => ?_
    refine endL rfl ?_
    refine thenN ?_
    refine wp_seq ?_
    obtain ⟨r66, hr66, H1⟩ := obS_split H1
    refine inReg ?_
    refine go 1 [] [2, 4, 6, 7, 19] [(2, .pointer (some ⟨b21, 0, none⟩)), (4, .pointer (some ⟨b30, 0, none⟩)), (6, .string (bs r55.2.1)), (7, .bool r55.2.2), (19, .string (bs r55.1))] [] hf65 (by kernel_rfl) trivial fun a67 hf68 => ?_
    refine listOf hf68 rfl (by kernel_rfl) (aCall (fid := 30) (args := [.string (bs r55.1)]) (d := 20) hf68 (by kernel_rfl) (by kernel_rfl) callable30 (script_node.calls _ _ r55.1 (hm62.give [] [] rfl rfl) r66 hr66 (hG.at hm62)) ?_)
    rintro _ w79 a80 ⟨A69, c70, A71, c72, A73, c74, A75, c76, A77, c78, rfl, hk82⟩ hf81
    have hm83 := hm62.back hk82
    refine go 3 [] [2, 4, 6, 7, 21, 22] [(2, .pointer (some ⟨b21, 0, none⟩)), (4, .pointer (some ⟨b30, 0, none⟩)), (6, .string (bs r55.2.1)), (7, .bool r55.2.2), (21, .agg #[.int .i64 r66.1.Op, .slice A69 r66.1.In.length c70, .slice A71 r66.1.To.length c72, .int .i64 r66.1.No, .slice A73 r66.1.Val.Shape.length c74, .slice A75 r66.1.Val.Data.length c76, .slice A77 r66.1.Hooks.length c78]), (22, .bool r66.2)] [] hf81 (by kernel_rfl) trivial fun a84 hf85 => ?_
    refine listOf hf85 rfl (by kernel_rfl) (aNew (cs := [.int .i64 0, .slice none 0 0, .slice none 0 0, .int .i64 0, .slice none 0 0, .slice none 0 0, .slice none 0 0]) (T := 49) (d := 8) hf85 (by kernel_rfl) (by kernel_rfl) ?_)
    intro b86 w87 a88 hbb86 hx90 hg91 hf89
    have hm92 := hm83.box hbb86 hx90 hg91
    refine listOf hf89 rfl (by kernel_rfl) (aStoreB (b := b86) (j := 0) (T := 49) (cs := [.int .i64 0, .slice none 0 0, .slice none 0 0, .int .i64 0, .slice none 0 0, .slice none 0 0, .slice none 0 0]) (us := [.int .i64 r66.1.Op, .slice A69 r66.1.In.length c70, .slice A71 r66.1.To.length c72, .int .i64 r66.1.No, .slice A73 r66.1.Val.Shape.length c74, .slice A75 r66.1.Val.Data.length c76, .slice A77 r66.1.Hooks.length c78]) (cs' := [.int .i64 r66.1.Op, .slice A69 r66.1.In.length c70, .slice A71 r66.1.To.length c72, .int .i64 r66.1.No, .slice A73 r66.1.Val.Shape.length c74, .slice A75 r66.1.Val.Data.length c76, .slice A77 r66.1.Hooks.length c78]) hf89 (by kernel_rfl) (hm92.bxAt 0 rfl) (by kernel_rfl) (by kernel_rfl) (by kernel_rfl) ?_)
    intro w93 hx94 hg95
    have hm96 := hm92.setBox 0 _ rfl rfl hx94 hg95
    refine go 1 [] [2, 4, 6, 7, 8, 9] [(2, .pointer (some ⟨b21, 0, none⟩)), (4, .pointer (some ⟨b30, 0, none⟩)), (6, .string (bs r55.2.1)), (7, .bool r55.2.2), (8, .pointer (some ⟨b86, 0, none⟩)), (9, .bool r66.2)] [] hf89 (by kernel_rfl) trivial fun a97 hf98 => ?_
    refine endL rfl ?_
    refine thenN ?_
    refine wp_seq ?_
    refine wp_seq ?_
    rcases ifbS_split H1 with ⟨c99, H1⟩ | ⟨c99, H1⟩
    rotate_left
    · rw [c99] at hf98
      refine reg [] [2, 4, 6, 8, 28] [(2, .pointer (some ⟨b21, 0, none⟩)), (4, .pointer (some ⟨b30, 0, none⟩)), (6, .string (bs r55.2.1)), (8, .pointer (some ⟨b86, 0, none⟩)), (28, .bool true)] [] hf98 (by kernel_rfl) trivial fun a147 hf148 => ?_
      refine thenN ?_
      refine condT hf148 (by kernel_rfl) ?_
      refine wp_seq ?_
      refine inReg ?_
      refine go 1 [] [2, 29] [(2, .pointer (some ⟨b21, 0, none⟩)), (29, .agg #[.slice none 0 0])] [] hf148 (by kernel_rfl) trivial fun a149 hf150 => ?_
      refine listOf hf150 rfl (by kernel_rfl) (aStoreB (b := b21) (j := 0) (T := 24) (cs := [.slice none 0 0]) (us := [.slice none 0 0]) (cs' := [.slice none 0 0]) hf150 (by kernel_rfl) (hm96.bxAt 8 rfl) (by kernel_rfl) (by kernel_rfl) (by kernel_rfl) ?_)
      intro w151 hx152 hg153
      have hm154 := hm96.setBox 8 _ rfl rfl hx152 hg153
      refine go 1 [] [2, 3] [(2, .pointer (some ⟨b21, 0, none⟩)), (3, .int .i64 14)] [] hf150 (by kernel_rfl) trivial fun a155 hf156 => ?_
      refine endL rfl ?_
      have hm157 := hm154.sel [8] _ rfl (by kernel_rfl)
      refine thenN ?_
      refine wp_ret ?_
      refine thenR ?_
      refine blkR ?_
      refine thenR ?_
      refine .inr ⟨rfl, ?_⟩
      refine thenR ?_
      have hm158 := hm157.nilOw kNode 49
      have hm159 : Mem [] M w0 [.ow kNode 49 none 0 ([] : (List Node))] w151 := hm158.sel [0] _ rfl (by kernel_rfl)
      obtain rfl := Option.some.inj H1
      obtain rfl := Option.some.inj H0
      refine ret [.agg #[.slice none 0 0]] [.agg #[.slice none 0 0], .int .i64 14] [.cell ⟨b21, 0, none⟩ (.slice none 0 0)] hf156 (by kernel_rfl) ⟨(hm157.cell 0 rfl rfl), trivial⟩ ?_
      exact ⟨_, rfl, none, 0, rfl, hm159⟩
    rw [c99] at hf98
    rcases ifbS_split H1 with ⟨c100, H1⟩ | ⟨c100, H1⟩
    rotate_left
    · rw [c100] at hf98
      refine reg [] [2, 4, 6, 8, 28] [(2, .pointer (some ⟨b21, 0, none⟩)), (4, .pointer (some ⟨b30, 0, none⟩)), (6, .string (bs r55.2.1)), (8, .pointer (some ⟨b86, 0, none⟩)), (28, .bool true)] [] hf98 (by kernel_rfl) trivial fun a133 hf134 => ?_
      refine thenN ?_
      refine condT hf134 (by kernel_rfl) ?_
      refine wp_seq ?_
      refine inReg ?_
      refine go 1 [] [2, 29] [(2, .pointer (some ⟨b21, 0, none⟩)), (29, .agg #[.slice none 0 0])] [] hf134 (by kernel_rfl) trivial fun a135 hf136 => ?_
      refine listOf hf136 rfl (by kernel_rfl) (aStoreB (b := b21) (j := 0) (T := 24) (cs := [.slice none 0 0]) (us := [.slice none 0 0]) (cs' := [.slice none 0 0]) hf136 (by kernel_rfl) (hm96.bxAt 8 rfl) (by kernel_rfl) (by kernel_rfl) (by kernel_rfl) ?_)
      intro w137 hx138 hg139
      have hm140 := hm96.setBox 8 _ rfl rfl hx138 hg139
      refine go 1 [] [2, 3] [(2, .pointer (some ⟨b21, 0, none⟩)), (3, .int .i64 14)] [] hf136 (by kernel_rfl) trivial fun a141 hf142 => ?_
      refine endL rfl ?_
      have hm143 := hm140.sel [8] _ rfl (by kernel_rfl)
      refine thenN ?_
      refine wp_ret ?_
      refine thenR ?_
      refine blkR ?_
      refine thenR ?_
      refine .inr ⟨rfl, ?_⟩
      refine thenR ?_
      have hm144 := hm143.nilOw kNode 49
      have hm145 : Mem [] M w0 [.ow kNode 49 none 0 ([] : (List Node))] w137 := hm144.sel [0] _ rfl (by kernel_rfl)
      obtain rfl := Option.some.inj H1
      obtain rfl := Option.some.inj H0
      refine ret [.agg #[.slice none 0 0]] [.agg #[.slice none 0 0], .int .i64 14] [.cell ⟨b21, 0, none⟩ (.slice none 0 0)] hf142 (by kernel_rfl) ⟨(hm143.cell 0 rfl rfl), trivial⟩ ?_
      exact ⟨_, rfl, none, 0, rfl, hm145⟩
    rw [c100] at hf98
    refine reg [] [2, 4, 6, 8, 28] [(2, .pointer (some ⟨b21, 0, none⟩)), (4, .pointer (some ⟨b30, 0, none⟩)), (6, .string (bs r55.2.1)), (8, .pointer (some ⟨b86, 0, none⟩)), (28, .bool false)] [] hf98 (by kernel_rfl) trivial fun a101 hf102 => ?_
    refine thenN ?_
    refine condF hf102 (by kernel_rfl) ?_
    refine wp_skip ?_
    refine thenN ?_
    obtain ⟨g103, H1⟩ := ifS_guard H1
    refine inReg ?_
    refine go 3 [.slice A42 s41.2.length c43, .agg #[.int .i64 r66.1.Op, .slice A69 r66.1.In.length c70, .slice A71 r66.1.To.length c72, .int .i64 r66.1.No, .slice A73 r66.1.Val.Shape.length c74, .slice A75 r66.1.Val.Data.length c76, .slice A77 r66.1.Hooks.length c78]] [2, 4, 6, 31, 32] [(2, .pointer (some ⟨b21, 0, none⟩)), (4, .pointer (some ⟨b30, 0, none⟩)), (6, .string (bs r55.2.1)), (31, .slice A42 s41.2.length c43), (32, .agg #[.int .i64 r66.1.Op, .slice A69 r66.1.In.length c70, .slice A71 r66.1.To.length c72, .int .i64 r66.1.No, .slice A73 r66.1.Val.Shape.length c74, .slice A75 r66.1.Val.Data.length c76, .slice A77 r66.1.Hooks.length c78])] [.cell ⟨b30, 0, none⟩ (.slice A42 s41.2.length c43), .cell ⟨b86, 0, none⟩ (.int .i64 r66.1.Op), .cell ⟨b86, 1, none⟩ (.slice A69 r66.1.In.length c70), .cell ⟨b86, 2, none⟩ (.slice A71 r66.1.To.length c72), .cell ⟨b86, 3, none⟩ (.int .i64 r66.1.No), .cell ⟨b86, 4, none⟩ (.slice A73 r66.1.Val.Shape.length c74), .cell ⟨b86, 5, none⟩ (.slice A75 r66.1.Val.Data.length c76), .cell ⟨b86, 6, none⟩ (.slice A77 r66.1.Hooks.length c78)] hf102 (by kernel_rfl) ⟨(hm96.cell 7 rfl rfl), (hm96.cell 0 rfl rfl), (hm96.cell 0 rfl rfl), (hm96.cell 0 rfl rfl), (hm96.cell 0 rfl rfl), (hm96.cell 0 rfl rfl), (hm96.cell 0 rfl rfl), (hm96.cell 0 rfl rfl), trivial⟩ fun a104 hf105 => ?_
    refine listOf hf105 rfl (by kernel_rfl) (aLit (cs := [.int .i64 r66.1.Op, .slice A69 r66.1.In.length c70, .slice A71 r66.1.To.length c72, .int .i64 r66.1.No, .slice A73 r66.1.Val.Shape.length c74, .slice A75 r66.1.Val.Data.length c76, .slice A77 r66.1.Hooks.length c78]) (E := 49) (len := 1) (d := 33) hf105 (by kernel_rfl) (by kernel_rfl) ?_)
    intro b106 w107 a108 hbb106 hx110 hg111 hf109
    have hm96s := hm96.still hg111
    have hm112 := Mem.lit (kd := kNode) (xs := ([r66.1] : List Node)) hm96 hbb106 hx110 hg111 (Els.one (kd := kNode) (us := [.int .i64 r66.1.Op, .slice A69 r66.1.In.length c70, .slice A71 r66.1.To.length c72, .int .i64 r66.1.No, .slice A73 r66.1.Val.Shape.length c74, .slice A75 r66.1.Val.Data.length c76, .slice A77 r66.1.Hooks.length c78]) (x := r66.1) (kNode.mk r66.1 ⟨hm96s.cpAt 1 rfl, (hm96s.slAt 1 rfl)⟩ ⟨hm96s.cpAt 2 rfl, (hm96s.slAt 2 rfl)⟩ ⟨hm96s.cpAt 3 rfl, (hm96s.slAt 3 rfl)⟩ ⟨hm96s.cpAt 4 rfl, (hm96s.slAt 4 rfl)⟩ ⟨hm96s.cpAt 5 rfl, (hm96s.slAt 5 rfl)⟩))
    have e121 : s41.2.length = s41.2.length := rfl
    have e122 : 1 = ([r66.1] : List Node).length := rfl
    refine listOf hf109 rfl (by kernel_rfl) (aApp (kd := kNode) (base := 0) (E := 49) (A := A42) (B := (some ⟨b106, 0, none⟩)) (c := c43) (c2 := 1) (xs := s41.2) (ys := ([r66.1] : List Node)) (k := s41.2.length) (m := 1) (sz := 7) (d := 34) hf109 (by kernel_rfl) e121 e122 (by kernel_rfl) rfl (by kernel_rfl) (hm112.at 7 rfl) (hm112.at2 7 0 rfl rfl).2 (hm112.cpAt 0 rfl) (Nat.zero_le _) (by have := g103; omega) ?_)
    intro A113 c114 w115 a116 ho118 hg119 hr120 hf117
    have hm123 := hm112.setOwn 7 _ rfl rfl ho118 hg119 hr120
    refine go 2 [] [2, 4, 34, 35, 36] [(2, .pointer (some ⟨b21, 0, none⟩)), (4, .pointer (some ⟨b30, 0, none⟩)), (34, .slice A113 ((s41.2 ++ ([r66.1] : List Node)).length) c114), (35, .string (bs r55.2.1)), (36, .pointer (some ⟨b30, 0, none⟩))] [] hf117 (by kernel_rfl) trivial fun a124 hf125 => ?_
    refine listOf hf125 rfl (by kernel_rfl) (aStoreB (b := b30) (j := 0) (T := 24) (cs := [.slice A42 s41.2.length c43]) (us := [.slice A113 ((s41.2 ++ ([r66.1] : List Node)).length) c114]) (cs' := [.slice A113 ((s41.2 ++ ([r66.1] : List Node)).length) c114]) hf125 (by kernel_rfl) (hm123.bxAt 8 rfl) (by kernel_rfl) (by kernel_rfl) (by kernel_rfl) ?_)
    intro w126 hx127 hg128
    have hm129 := hm123.setBox 8 _ rfl rfl hx127 hg128
    refine go 1 [] [0, 2, 4] [(0, .string (bs r55.2.1)), (2, .pointer (some ⟨b21, 0, none⟩)), (4, .pointer (some ⟨b30, 0, none⟩))] [] hf125 (by kernel_rfl) trivial fun a130 hf131 => ?_
    refine endL rfl ?_
    have hm132 := hm129.sel [7, 8, 9] _ rfl (by kernel_rfl)
    refine blkN ?_
    exact ⟨(r55.2.1, (s41.2 ++ ([r66.1] : List Node))), H1, A113, c114, hf131.sel (l := [0, 2, 4]) (by kernel_rfl), hm132.sel [0, 1, 2] _ rfl (by kernel_rfl)⟩
  rintro a161 w162 ⟨yr44, rfl, A42, c43, hf163, hm164⟩
  refine thenN ?_
  refine wp_seq ?_
  refine wp_seq ?_
  rcases if_split H0 with ⟨c165, H0⟩ | ⟨c165, H0⟩
  · refine reg [.slice A42 yr44.2.length c43, .bool true] [2, 4, 40] [(2, .pointer (some ⟨b21, 0, none⟩)), (4, .pointer (some ⟨b30, 0, none⟩)), (40, .bool true)] [.cell ⟨b30, 0, none⟩ (.slice A42 yr44.2.length c43), .is (decide (256 < (yr44.2.length : Int)) = true)] hf163 (by kernel_rfl) ⟨(hm164.cell 1 rfl rfl), (decide_eq_true c165), trivial⟩ fun a166 hf167 => ?_
    refine thenN ?_
    refine condT hf167 (by kernel_rfl) ?_
    refine wp_seq ?_
    refine inReg ?_
    refine go 1 [] [2, 41] [(2, .pointer (some ⟨b21, 0, none⟩)), (41, .agg #[.slice none 0 0])] [] hf167 (by kernel_rfl) trivial fun a168 hf169 => ?_
    refine listOf hf169 rfl (by kernel_rfl) (aStoreB (b := b21) (j := 0) (T := 24) (cs := [.slice none 0 0]) (us := [.slice none 0 0]) (cs' := [.slice none 0 0]) hf169 (by kernel_rfl) (hm164.bxAt 2 rfl) (by kernel_rfl) (by kernel_rfl) (by kernel_rfl) ?_)
    intro w170 hx171 hg172
    have hm173 := hm164.setBox 2 _ rfl rfl hx171 hg172
    refine go 1 [] [2, 3] [(2, .pointer (some ⟨b21, 0, none⟩)), (3, .int .i64 13)] [] hf169 (by kernel_rfl) trivial fun a174 hf175 => ?_
    refine endL rfl ?_
    have hm176 := hm173.sel [2] _ rfl (by kernel_rfl)
    refine thenN ?_
    refine wp_ret ?_
    refine thenR ?_
    have hm177 := hm176.nilOw kNode 49
    have hm178 : Mem [] M w0 [.ow kNode 49 none 0 ([] : (List Node))] w170 := hm177.sel [0] _ rfl (by kernel_rfl)
    obtain rfl := Option.some.inj H0
    refine ret [.agg #[.slice none 0 0]] [.agg #[.slice none 0 0], .int .i64 13] [.cell ⟨b21, 0, none⟩ (.slice none 0 0)] hf175 (by kernel_rfl) ⟨(hm176.cell 0 rfl rfl), trivial⟩ ?_
    exact ⟨_, rfl, none, 0, rfl, hm178⟩
  refine reg [.slice A42 yr44.2.length c43, .bool false] [2, 4, 40] [(2, .pointer (some ⟨b21, 0, none⟩)), (4, .pointer (some ⟨b30, 0, none⟩)), (40, .bool false)] [.cell ⟨b30, 0, none⟩ (.slice A42 yr44.2.length c43), .is (decide (256 < (yr44.2.length : Int)) = false)] hf163 (by kernel_rfl) ⟨(hm164.cell 1 rfl rfl), (decide_eq_false c165), trivial⟩ fun a180 hf181 => ?_
  refine thenN ?_
  refine condF hf181 (by kernel_rfl) ?_
  refine wp_skip ?_
  refine thenN ?_
  refine wp_seq ?_
  refine inReg ?_
  refine go 1 [.agg #[.slice A42 yr44.2.length c43]] [2, 42] [(2, .pointer (some ⟨b21, 0, none⟩)), (42, .agg #[.slice A42 yr44.2.length c43])] [.cell ⟨b30, 0, none⟩ (.slice A42 yr44.2.length c43)] hf181 (by kernel_rfl) ⟨(hm164.cell 1 rfl rfl), trivial⟩ fun a182 hf183 => ?_
  refine listOf hf183 rfl (by kernel_rfl) (aStoreB (b := b21) (j := 0) (T := 24) (cs := [.slice none 0 0]) (us := [.slice A42 yr44.2.length c43]) (cs' := [.slice A42 yr44.2.length c43]) hf183 (by kernel_rfl) (hm164.bxAt 2 rfl) (by kernel_rfl) (by kernel_rfl) (by kernel_rfl) ?_)
  intro w184 hx185 hg186
  have hm187 := hm164.setBox 2 _ rfl rfl hx185 hg186
  refine go 1 [] [2, 3] [(2, .pointer (some ⟨b21, 0, none⟩)), (3, .int .i64 0)] [] hf183 (by kernel_rfl) trivial fun a188 hf189 => ?_
  refine endL rfl ?_
  have hm190 := hm187.sel [0, 2] _ rfl (by kernel_rfl)
  refine thenN ?_
  refine wp_ret ?_
  have hm191 : Mem [] M w0 [.ow kNode 49 A42 c43 yr44.2] w184 := hm190.sel [0] _ rfl (by kernel_rfl)
  obtain rfl := Option.some.inj H0
  refine ret [.agg #[.slice A42 yr44.2.length c43]] [.agg #[.slice A42 yr44.2.length c43], .int .i64 0] [.cell ⟨b21, 0, none⟩ (.slice A42 yr44.2.length c43)] hf189 (by kernel_rfl) ⟨(hm190.cell 1 rfl rfl), trivial⟩ ?_
  exact ⟨_, rfl, A42, c43, rfl, hm191⟩

/-! ### backstitch/script.Text -/
noncomputable def script_Text.l0 (x0 : Graph) (s53 : (Int × Bool × (List UInt8))) : Step (Int × Bool × (List UInt8)) (Out2 (Int × Bool × (List UInt8)) (List UInt8)) :=
  if s53.1 < (x0.L.length : Int) then (if 0 ≤ s53.1 ∧ s53.1 < (x0.L.length : Int) then (bindS (script_writer_node.f (⟨([] : (List (List UInt8))), false⟩ : Writer) (⟨((rd x0.L s53.1).Op), ((rd x0.L s53.1).In), ((rd x0.L s53.1).To), ((rd x0.L s53.1).No), (⟨(((rd x0.L s53.1).Val).Shape), (((rd x0.L s53.1).Val).Data)⟩ : Tensor), ((rd x0.L s53.1).Hooks)⟩ : Node)) fun r110 =>
  if r110.2 = true then (.done (.ret ([] : List UInt8)))
  else (bindS (strings_Join.f r110.1 ([32] : List UInt8)) fun r130 =>
  if r130.length + ([10] : List UInt8).length ≤ 9223372036854775807 then (if s53.2.2.length + (r130 ++ ([10] : List UInt8)).length ≤ 140737488355328 then (.next ((w64 (s53.1 + 1)), true, (s53.2.2 ++ (r130 ++ ([10] : List UInt8)))))
  else .bad)
  else .bad))
  else .bad)
  else (.done (.go (s53.1, s53.2.1, s53.2.2)))
noncomputable def script_Text.f (x0 : Graph) : Option (List UInt8) :=
  if 256 < (x0.L.length : Int) then (some ([] : List UInt8))
  else ((loop (script_Text.l0 x0) (0, false, ([] : List UInt8))).bind fun r56 =>
  r56.on (fun yr56 =>
  some yr56.2.2) (fun y => some y))
set_option maxRecDepth 100000 in
set_option maxHeartbeats 4000000 in
theorem script_Text.calls (M : List (Option Nat)) (w0 : World) (x0 : Graph) (A0_0 : Option Addr) (n0_0 c0_0 : Nat) (e0_0 : n0_0 = x0.L.length) (hm0 : Mem [] M w0 [.sl kNode A0_0 c0_0 x0.L] w0) (r : (List UInt8)) (H0 : script_Text.f x0 = some r) (hG : Glob [] w0) :
    Calls Tryd.prog 11 [.agg #[.slice A0_0 n0_0 c0_0]].toArray w0 (fun x w' => ∃ v, x = .returned v ∧ v = .string (bs r) ∧ Mem [] M w0 [] w') := by
  subst e0_0
  unfold script_Text.f at H0
  refine enter (n := 36) Tryd.func11 rfl rfl (by kernel_rfl) fun a0 (hf0 : Fr 36 a0 [(0, .agg #[.slice A0_0 x0.L.length c0_0])]) => ?_
  refine wp_seq ?_
  refine inReg ?_
  refine listOf hf0 rfl (by kernel_rfl) (aNew (cs := [.slice A0_0 x0.L.length c0_0]) (T := 24) (d := 1) hf0 (by kernel_rfl) (by kernel_rfl) ?_)
  intro b21 w22 a23 hbb21 hx25 hg26 hf24
  have hm27 := hm0.box hbb21 hx25 hg26
  refine go 1 [] [1] [(1, .pointer (some ⟨b21, 0, none⟩))] [] hf24 (by kernel_rfl) trivial fun a28 hf29 => ?_
  refine endL rfl ?_
  refine thenN ?_
  refine wp_seq ?_
  refine wp_seq ?_
  rcases if_split H0 with ⟨c30, H0⟩ | ⟨c30, H0⟩
  · refine reg [.slice A0_0 x0.L.length c0_0, .bool true] [1, 10] [(1, .pointer (some ⟨b21, 0, none⟩)), (10, .bool true)] [.cell ⟨b21, 0, none⟩ (.slice A0_0 x0.L.length c0_0), .is (decide (256 < (x0.L.length : Int)) = true)] hf29 (by kernel_rfl) ⟨(hm27.cell 0 rfl rfl), (decide_eq_true c30), trivial⟩ fun a31 hf32 => ?_
    refine thenN ?_
    refine condT hf32 (by kernel_rfl) ?_
    refine wp_seq ?_
    refine reg [] [2] [(2, .string (bs ([] : List UInt8)))] [] hf32 (by kernel_rfl) trivial fun a33 hf34 => ?_
    have hm35 := hm27.sel [] _ rfl (by kernel_rfl)
    refine thenN ?_
    refine wp_ret ?_
    refine thenR ?_
    have hm36 : Mem [] M w0 [] w22 := hm35.sel [] _ rfl (by kernel_rfl)
    obtain rfl := Option.some.inj H0
    refine ret [] [.string (bs ([] : List UInt8))] [] hf34 (by kernel_rfl) trivial ?_
    exact ⟨_, rfl, rfl, hm36⟩
  refine reg [.slice A0_0 x0.L.length c0_0, .bool false] [1, 10] [(1, .pointer (some ⟨b21, 0, none⟩)), (10, .bool false)] [.cell ⟨b21, 0, none⟩ (.slice A0_0 x0.L.length c0_0), .is (decide (256 < (x0.L.length : Int)) = false)] hf29 (by kernel_rfl) ⟨(hm27.cell 0 rfl rfl), (decide_eq_false c30), trivial⟩ fun a38 hf39 => ?_
  refine thenN ?_
  refine condF hf39 (by kernel_rfl) ?_
  refine wp_skip ?_
  refine thenN ?_
  refine wp_seq ?_
  refine inReg ?_
  refine listOf hf39 rfl (by kernel_rfl) (aNew (cs := [.pointer none, .slice none 0 0]) (T := 59) (d := 3) hf39 (by kernel_rfl) (by kernel_rfl) ?_)
  intro b40 w41 a42 hbb40 hx44 hg45 hf43
  have hm46 := hm27.box hbb40 hx44 hg45
  have hm47 := hm46.nilOw Kd.byte 5
  refine endL rfl ?_
  refine thenN ?_
  refine wp_seq ?_
  refine wp_seq ?_
  refine reg [.slice A0_0 x0.L.length c0_0] [3, 12, 13, 14] [(3, .pointer (some ⟨b40, 0, none⟩)), (12, .slice A0_0 x0.L.length c0_0), (13, .int .i64 (x0.L.length : Int)), (14, .int .i64 0)] [.cell ⟨b21, 0, none⟩ (.slice A0_0 x0.L.length c0_0)] hf43 (by kernel_rfl) ⟨(hm47.cell 2 rfl rfl), trivial⟩ fun a48 hf49 => ?_
  have hm50 := hm47.sel [0, 1, 3] _ rfl (by kernel_rfl)
  refine thenN ?_
  obtain ⟨r56, hr56, H0⟩ := ob_split H0
  refine wpBlock (Mid := fun (a : Act) (w : World) => ∃ yr56 : (Int × Bool × (List UInt8)), r56 = .go yr56 ∧ ∃ (A54 : Option Addr) (c55 : Nat), Fr 36 a [(3, .pointer (some ⟨b40, 0, none⟩)), (12, .slice A0_0 x0.L.length c0_0), (13, .int .i64 (x0.L.length : Int)), (14, .int .i64 yr56.1)] ∧ Mem [] M w0 [.ow Kd.byte 5 A54 c55 yr56.2.2, .bx b40 [bptr b40 yr56.2.1, .slice A54 yr56.2.2.length c55] 59, .sl kNode A0_0 c0_0 x0.L] w) ?_ ?_
  · refine wpLoop (script_Text.l0 x0) r56 (fun (s53 : (Int × Bool × (List UInt8))) (a : Act) (w : World) => ∃ (A54 : Option Addr) (c55 : Nat), Fr 36 a [(3, .pointer (some ⟨b40, 0, none⟩)), (12, .slice A0_0 x0.L.length c0_0), (13, .int .i64 (x0.L.length : Int)), (14, .int .i64 s53.1)] ∧ Mem [] M w0 [.ow Kd.byte 5 A54 c55 s53.2.2, .bx b40 [bptr b40 s53.2.1, .slice A54 s53.2.2.length c55] 59, .sl kNode A0_0 c0_0 x0.L] w) (0, false, ([] : List UInt8)) hr56 ⟨none, 0, hf49.sel (l := [3, 12, 13, 14]) (by kernel_rfl), hm50.sel [0, 1, 2] _ rfl (by kernel_rfl)⟩ ?_
    rintro g57 s53 a58 w59 H1 ⟨A54, c55, hf60, hm61⟩
    unfold script_Text.l0 at H1
    refine wp_seq ?_
    rcases ifS_split H1 with ⟨c62, H1⟩ | ⟨c62, H1⟩
    rotate_left
    · refine reg [.bool false] [3, 12, 13, 14, 15] [(3, .pointer (some ⟨b40, 0, none⟩)), (12, .slice A0_0 x0.L.length c0_0), (13, .int .i64 (x0.L.length : Int)), (14, .int .i64 s53.1), (15, .bool false)] [.is (decide (s53.1 < (x0.L.length : Int)) = false)] hf60 (by kernel_rfl) ⟨(decide_eq_false c62), trivial⟩ fun a152 hf153 => ?_
      refine thenN ?_
      refine wp_seq ?_
      refine condF hf153 (by kernel_rfl) ?_
      refine wp_exit ?_
      refine thenE ?_
      refine thenE ?_
      obtain rfl := Option.some.inj H1
      exact .inl ⟨rfl, (s53.1, s53.2.1, s53.2.2), rfl, A54, c55, hf153.sel (l := [3, 12, 13, 14]) (by kernel_rfl), hm61.sel [0, 1, 2] _ rfl (by kernel_rfl)⟩
    refine reg [.bool true] [3, 12, 13, 14, 15] [(3, .pointer (some ⟨b40, 0, none⟩)), (12, .slice A0_0 x0.L.length c0_0), (13, .int .i64 (x0.L.length : Int)), (14, .int .i64 s53.1), (15, .bool true)] [.is (decide (s53.1 < (x0.L.length : Int)) = true)] hf60 (by kernel_rfl) ⟨(decide_eq_true c62), trivial⟩ fun a63 hf65 => ?_
    refine thenN ?_
    refine wp_seq ?_
    refine condT hf65 (by kernel_rfl) ?_
    refine wp_skip ?_
    refine thenN ?_
    refine wp_seq ?_
    refine wp_block ?_
    refine wp_seq ?_
    obtain ⟨g66, H1⟩ := ifS_guard H1
    have q67 := (hm61.slAt 2 rfl).get s53.1 g66.1 g66.2
    obtain ⟨us68, hr69, hc70⟩ := q67.2
    obtain ⟨A71, c72, A73, c74, A75, c76, A77, c78, A79, c80, rfl, ⟨pA71, sA71⟩, ⟨pA73, sA73⟩, ⟨pA75, sA75⟩, ⟨pA77, sA77⟩, ⟨pA79, sA79⟩⟩ := kNode.open hr69
    have hm81 := hm61.elem pA71 sA71
    have hm82 := hm81.elem pA73 sA73
    have hm83 := hm82.elem pA75 sA75
    have hm84 := hm83.elem pA77 sA77
    have hm85 := hm84.elem pA79 sA79
    refine inReg ?_
    refine go 2 [.agg #[.int .i64 ((rd x0.L s53.1).Op), .slice A71 (((rd x0.L s53.1).In).length) c72, .slice A73 (((rd x0.L s53.1).To).length) c74, .int .i64 ((rd x0.L s53.1).No), .slice A75 ((((rd x0.L s53.1).Val).Shape).length) c76, .slice A77 ((((rd x0.L s53.1).Val).Data).length) c78, .slice A79 (((rd x0.L s53.1).Hooks).length) c80]] [3, 12, 13, 14, 17] [(3, .pointer (some ⟨b40, 0, none⟩)), (12, .slice A0_0 x0.L.length c0_0), (13, .int .i64 (x0.L.length : Int)), (14, .int .i64 s53.1), (17, .agg #[.int .i64 ((rd x0.L s53.1).Op), .slice A71 (((rd x0.L s53.1).In).length) c72, .slice A73 (((rd x0.L s53.1).To).length) c74, .int .i64 ((rd x0.L s53.1).No), .slice A75 ((((rd x0.L s53.1).Val).Shape).length) c76, .slice A77 ((((rd x0.L s53.1).Val).Data).length) c78, .slice A79 (((rd x0.L s53.1).Hooks).length) c80])] [.is (Option.isSome A0_0 = true), .is (0 ≤ s53.1 ∧ s53.1 < (x0.L.length : Int)), .cell ((ad A0_0).add ((s53.1).toNat * 7)) (.int .i64 ((rd x0.L s53.1).Op)), .cell (((ad A0_0).add ((s53.1).toNat * 7)).add 1) (.slice A71 (((rd x0.L s53.1).In).length) c72), .cell (((ad A0_0).add ((s53.1).toNat * 7)).add 2) (.slice A73 (((rd x0.L s53.1).To).length) c74), .cell (((ad A0_0).add ((s53.1).toNat * 7)).add 3) (.int .i64 ((rd x0.L s53.1).No)), .cell (((ad A0_0).add ((s53.1).toNat * 7)).add 4) (.slice A75 ((((rd x0.L s53.1).Val).Shape).length) c76), .cell (((ad A0_0).add ((s53.1).toNat * 7)).add 5) (.slice A77 ((((rd x0.L s53.1).Val).Data).length) c78), .cell (((ad A0_0).add ((s53.1).toNat * 7)).add 6) (.slice A79 (((rd x0.L s53.1).Hooks).length) c80)] hf65 (by kernel_rfl) ⟨q67.1, g66, (hc70 0 _ rfl), (hc70 1 _ rfl), (hc70 2 _ rfl), (hc70 3 _ rfl), (hc70 4 _ rfl), (hc70 5 _ rfl), (hc70 6 _ rfl), trivial⟩ fun a86 hf87 => ?_
    refine listOf hf87 rfl (by kernel_rfl) (aNew (cs := [.int .i64 0, .slice none 0 0, .slice none 0 0, .int .i64 0, .slice none 0 0, .slice none 0 0, .slice none 0 0]) (T := 49) (d := 5) hf87 (by kernel_rfl) (by kernel_rfl) ?_)
    intro b88 w89 a90 hbb88 hx92 hg93 hf91
    have hm94 := hm85.box hbb88 hx92 hg93
    refine listOf hf91 rfl (by kernel_rfl) (aStoreB (b := b88) (j := 0) (T := 49) (cs := [.int .i64 0, .slice none 0 0, .slice none 0 0, .int .i64 0, .slice none 0 0, .slice none 0 0, .slice none 0 0]) (us := [.int .i64 ((rd x0.L s53.1).Op), .slice A71 (((rd x0.L s53.1).In).length) c72, .slice A73 (((rd x0.L s53.1).To).length) c74, .int .i64 ((rd x0.L s53.1).No), .slice A75 ((((rd x0.L s53.1).Val).Shape).length) c76, .slice A77 ((((rd x0.L s53.1).Val).Data).length) c78, .slice A79 (((rd x0.L s53.1).Hooks).length) c80]) (cs' := [.int .i64 ((rd x0.L s53.1).Op), .slice A71 (((rd x0.L s53.1).In).length) c72, .slice A73 (((rd x0.L s53.1).To).length) c74, .int .i64 ((rd x0.L s53.1).No), .slice A75 ((((rd x0.L s53.1).Val).Shape).length) c76, .slice A77 ((((rd x0.L s53.1).Val).Data).length) c78, .slice A79 (((rd x0.L s53.1).Hooks).length) c80]) hf91 (by kernel_rfl) (hm94.bxAt 0 rfl) (by kernel_rfl) (by kernel_rfl) (by kernel_rfl) ?_)
    intro w95 hx96 hg97
    have hm98 := hm94.setBox 0 _ rfl rfl hx96 hg97
    refine endL rfl ?_
    refine thenN ?_
    refine wp_seq ?_
    refine inReg ?_
    refine go 1 [] [3, 5, 12, 13, 14, 18] [(3, .pointer (some ⟨b40, 0, none⟩)), (5, .pointer (some ⟨b88, 0, none⟩)), (12, .slice A0_0 x0.L.length c0_0), (13, .int .i64 (x0.L.length : Int)), (14, .int .i64 s53.1), (18, .agg #[.slice none 0 0, .bool false])] [] hf91 (by kernel_rfl) trivial fun a99 hf100 => ?_
    refine listOf hf100 rfl (by kernel_rfl) (aNew (cs := [.slice none 0 0, .bool false]) (T := 62) (d := 19) hf100 (by kernel_rfl) (by kernel_rfl) ?_)
    intro b101 w102 a103 hbb101 hx105 hg106 hf104
    have hm107 := hm98.box hbb101 hx105 hg106
    refine go 1 [] [3, 5, 6, 12, 13, 14] [(3, .pointer (some ⟨b40, 0, none⟩)), (5, .pointer (some ⟨b88, 0, none⟩)), (6, .pointer (some ⟨b101, 0, none⟩)), (12, .slice A0_0 x0.L.length c0_0), (13, .int .i64 (x0.L.length : Int)), (14, .int .i64 s53.1)] [] hf104 (by kernel_rfl) trivial fun a108 hf109 => ?_
    refine endL rfl ?_
    refine thenN ?_
    refine wp_seq ?_
    obtain ⟨r110, hr110, H1⟩ := obS_split H1
    refine inReg ?_
    refine go 2 [.agg #[.int .i64 ((rd x0.L s53.1).Op), .slice A71 (((rd x0.L s53.1).In).length) c72, .slice A73 (((rd x0.L s53.1).To).length) c74, .int .i64 ((rd x0.L s53.1).No), .slice A75 ((((rd x0.L s53.1).Val).Shape).length) c76, .slice A77 ((((rd x0.L s53.1).Val).Data).length) c78, .slice A79 (((rd x0.L s53.1).Hooks).length) c80]] [3, 6, 12, 13, 14, 20, 21] [(3, .pointer (some ⟨b40, 0, none⟩)), (6, .pointer (some ⟨b101, 0, none⟩)), (12, .slice A0_0 x0.L.length c0_0), (13, .int .i64 (x0.L.length : Int)), (14, .int .i64 s53.1), (20, .pointer (some ⟨b101, 0, none⟩)), (21, .agg #[.int .i64 ((rd x0.L s53.1).Op), .slice A71 (((rd x0.L s53.1).In).length) c72, .slice A73 (((rd x0.L s53.1).To).length) c74, .int .i64 ((rd x0.L s53.1).No), .slice A75 ((((rd x0.L s53.1).Val).Shape).length) c76, .slice A77 ((((rd x0.L s53.1).Val).Data).length) c78, .slice A79 (((rd x0.L s53.1).Hooks).length) c80])] [.cell ⟨b88, 0, none⟩ (.int .i64 ((rd x0.L s53.1).Op)), .cell ⟨b88, 1, none⟩ (.slice A71 (((rd x0.L s53.1).In).length) c72), .cell ⟨b88, 2, none⟩ (.slice A73 (((rd x0.L s53.1).To).length) c74), .cell ⟨b88, 3, none⟩ (.int .i64 ((rd x0.L s53.1).No)), .cell ⟨b88, 4, none⟩ (.slice A75 ((((rd x0.L s53.1).Val).Shape).length) c76), .cell ⟨b88, 5, none⟩ (.slice A77 ((((rd x0.L s53.1).Val).Data).length) c78), .cell ⟨b88, 6, none⟩ (.slice A79 (((rd x0.L s53.1).Hooks).length) c80)] hf109 (by kernel_rfl) ⟨(hm107.cell 1 rfl rfl), (hm107.cell 1 rfl rfl), (hm107.cell 1 rfl rfl), (hm107.cell 1 rfl rfl), (hm107.cell 1 rfl rfl), (hm107.cell 1 rfl rfl), (hm107.cell 1 rfl rfl), trivial⟩ fun a111 hf112 => ?_
    have hm113 := hm107.nilOw Kd.str 9
    refine listOf hf112 rfl (by kernel_rfl) (aCall (fid := 22) (args := [.pointer (some ⟨b101, 0, none⟩), .agg #[.int .i64 ((rd x0.L s53.1).Op), .slice A71 (((rd x0.L s53.1).In).length) c72, .slice A73 (((rd x0.L s53.1).To).length) c74, .int .i64 ((rd x0.L s53.1).No), .slice A75 ((((rd x0.L s53.1).Val).Shape).length) c76, .slice A77 ((((rd x0.L s53.1).Val).Data).length) c78, .slice A79 (((rd x0.L s53.1).Hooks).length) c80]]) (d := 22) hf112 (by kernel_rfl) (by kernel_rfl) callable22 (script_writer_node.calls _ _ _ (⟨([] : (List (List UInt8))), false⟩ : Writer) b101 none 0 0 rfl (⟨((rd x0.L s53.1).Op), ((rd x0.L s53.1).In), ((rd x0.L s53.1).To), ((rd x0.L s53.1).No), (⟨(((rd x0.L s53.1).Val).Shape), (((rd x0.L s53.1).Val).Data)⟩ : Tensor), ((rd x0.L s53.1).Hooks)⟩ : Node) A71 (((rd x0.L s53.1).In).length) c72 rfl A73 (((rd x0.L s53.1).To).length) c74 rfl A75 ((((rd x0.L s53.1).Val).Shape).length) c76 rfl A77 ((((rd x0.L s53.1).Val).Data).length) c78 rfl A79 (((rd x0.L s53.1).Hooks).length) c80 rfl (hm113.giveO [1, 0] [2, 3, 4, 5, 6, 7, 8, 9, 10] [7, 6, 5, 4, 3] [.bx b101 [.slice none 0 0, .bool false] 62, .ow Kd.str 9 none 0 ([] : (List (List UInt8)))] _ [.sl (Kd.int .i64) A71 c72 ((rd x0.L s53.1).In), .sl (Kd.int .i64) A73 c74 ((rd x0.L s53.1).To), .sl (Kd.int .i64) A75 c76 (((rd x0.L s53.1).Val).Shape), .sl Kd.float A77 c78 (((rd x0.L s53.1).Val).Data), .sl kHook A79 c80 ((rd x0.L s53.1).Hooks)] rfl rfl rfl (by kernel_rfl) rfl) r110 hr110 (hG.atO hm113 [1, 0] _ rfl)) ?_)
    rintro _ w116 a117 ⟨A114, c115, rfl, hk119⟩ hf118
    have hm120 := hm113.backO [1, 0] [2, 3, 4, 5, 6, 7, 8, 9, 10] _ _ rfl rfl (by kernel_rfl) hk119
    refine endL rfl ?_
    have hm121 := hm120.sel [0, 1, 8, 9, 10] _ rfl (by kernel_rfl)
    refine thenN ?_
    refine wp_seq ?_
    refine wp_seq ?_
    refine reg [.bool r110.2] [3, 6, 12, 13, 14, 26] [(3, .pointer (some ⟨b40, 0, none⟩)), (6, .pointer (some ⟨b101, 0, none⟩)), (12, .slice A0_0 x0.L.length c0_0), (13, .int .i64 (x0.L.length : Int)), (14, .int .i64 s53.1), (26, .bool r110.2)] [.cell ⟨b101, 1, none⟩ (.bool r110.2)] hf118 (by kernel_rfl) ⟨(hm121.cell 0 rfl rfl), trivial⟩ fun a122 hf123 => ?_
    refine thenN ?_
    rcases ifbS_split H1 with ⟨c124, H1⟩ | ⟨c124, H1⟩
    · rw [c124] at hf123
      rw [c124] at hm121
      refine condT hf123 (by kernel_rfl) ?_
      refine wp_seq ?_
      refine reg [] [2] [(2, .string (bs ([] : List UInt8)))] [] hf123 (by kernel_rfl) trivial fun a125 hf126 => ?_
      have hm127 := hm121.sel [] _ rfl (by kernel_rfl)
      refine thenN ?_
      refine wp_ret ?_
      refine thenR ?_
      refine blkR ?_
      refine thenR ?_
      refine thenR ?_
      refine .inr ⟨rfl, ?_⟩
      refine thenR ?_
      have hm128 : Mem [] M w0 [] w116 := hm127.sel [] _ rfl (by kernel_rfl)
      obtain rfl := Option.some.inj H1
      obtain rfl := Option.some.inj H0
      refine ret [] [.string (bs ([] : List UInt8))] [] hf126 (by kernel_rfl) trivial ?_
      exact ⟨_, rfl, rfl, hm128⟩
    rw [c124] at hf123
    rw [c124] at hm121
    refine condF hf123 (by kernel_rfl) ?_
    refine wp_skip ?_
    refine thenN ?_
    obtain ⟨r130, hr130, H1⟩ := obS_split H1
    obtain ⟨g131, H1⟩ := ifS_guard H1
    obtain ⟨g132, H1⟩ := ifS_guard H1
    refine inReg ?_
    refine go 4 [.slice A114 r110.1.length c115] [3, 12, 13, 14, 30] [(3, .pointer (some ⟨b40, 0, none⟩)), (12, .slice A0_0 x0.L.length c0_0), (13, .int .i64 (x0.L.length : Int)), (14, .int .i64 s53.1), (30, .slice A114 r110.1.length c115)] [.cell ⟨b101, 0, none⟩ (.slice A114 r110.1.length c115)] hf123 (by kernel_rfl) ⟨(hm121.cell 0 rfl rfl), trivial⟩ fun a133 hf134 => ?_
    have hm135 : Mem [] M w0 [.bx b101 [.slice A114 r110.1.length c115, .bool false] 62, .sl Kd.str A114 c115 r110.1, .ow Kd.byte 5 A54 c55 s53.2.2, .bx b40 [bptr b40 s53.2.1, .slice A54 s53.2.2.length c55] 59, .sl kNode A0_0 c0_0 x0.L] w116 := hm121.seal 1 _ rfl rfl
    refine listOf hf134 rfl (by kernel_rfl) (aCall (fid := 24) (args := [.slice A114 r110.1.length c115, .string (bs ([32] : List UInt8))]) (d := 31) hf134 (by kernel_rfl) (by kernel_rfl) callable24 (strings_Join.calls _ _ r110.1 A114 r110.1.length c115 rfl ([32] : List UInt8) (hm135.give [1] [.sl Kd.str A114 c115 r110.1] rfl rfl) r130 hr130) ?_)
    rintro _ w136 a137 ⟨rfl, hk139⟩ hf138
    have hm140 := hm121.still hk139.cum.none
    refine go 1 [.string (bs (r130 ++ ([10] : List UInt8)))] [3, 12, 13, 14, 32] [(3, .pointer (some ⟨b40, 0, none⟩)), (12, .slice A0_0 x0.L.length c0_0), (13, .int .i64 (x0.L.length : Int)), (14, .int .i64 s53.1), (32, .string (bs (r130 ++ ([10] : List UInt8))))] [.is (bs (r130 ++ ([10] : List UInt8)) = bs r130 ++ bs ([10] : List UInt8) ∧ (bs r130).size + (bs ([10] : List UInt8)).size ≤ 9223372036854775807)] hf138 (by kernel_rfl) ⟨(catOk g131), trivial⟩ fun a141 hf142 => ?_
    refine listOf hf142 rfl (by kernel_rfl) (aCall (fid := 23) (args := [.pointer (some ⟨b40, 0, none⟩), .string (bs (r130 ++ ([10] : List UInt8)))]) (d := 33) hf142 (by kernel_rfl) (by kernel_rfl) callable23 (write_calls hm0 rfl hm140 3 2 (by decide) rfl rfl (r130 ++ ([10] : List UInt8)) g132) ?_)
    rintro _ w143 a144 ⟨A147, c148, rfl, hk146⟩ hf145
    have hm149 : Mem [] M w0 [.bx b40 [bptr b40 true, .slice A147 ((s53.2.2 ++ (r130 ++ ([10] : List UInt8))).length) c148] 59, .ow Kd.byte 5 A147 c148 (s53.2.2 ++ (r130 ++ ([10] : List UInt8))), .sl kNode A0_0 c0_0 x0.L] w143 := hk146
    refine endL rfl ?_
    refine blkN ?_
    refine thenN ?_
    refine reg [] [3, 12, 13, 14] [(3, .pointer (some ⟨b40, 0, none⟩)), (12, .slice A0_0 x0.L.length c0_0), (13, .int .i64 (x0.L.length : Int)), (14, .int .i64 (w64 (s53.1 + 1)))] [] hf145 (by kernel_rfl) trivial fun a150 hf151 => ?_
    exact ⟨((w64 (s53.1 + 1)), true, (s53.2.2 ++ (r130 ++ ([10] : List UInt8)))), H1, A147, c148, hf151.sel (l := [3, 12, 13, 14]) (by kernel_rfl), hm149.sel [1, 0, 2] _ rfl (by kernel_rfl)⟩
  rintro a154 w155 ⟨yr56, rfl, A54, c55, hf156, hm157⟩
  refine thenN ?_
  refine wp_seq ?_
  refine inReg ?_
  refine listOf hf156 rfl (by kernel_rfl) (aCall (fid := 25) (args := [.pointer (some ⟨b40, 0, none⟩)]) (d := 35) hf156 (by kernel_rfl) (by kernel_rfl) callable25 (string_calls hm0 rfl hm157 1 0 (by decide) rfl rfl) ?_)
  rintro _ w158 a159 ⟨rfl, hk161⟩ hf160
  have hm162 : Mem [] M w0 [.sl kNode A0_0 c0_0 x0.L] w158 := hk161
  refine go 1 [] [2] [(2, .string (bs yr56.2.2))] [] hf160 (by kernel_rfl) trivial fun a163 hf164 => ?_
  refine endL rfl ?_
  have hm165 := hm162.sel [] _ rfl (by kernel_rfl)
  refine thenN ?_
  refine wp_ret ?_
  have hm166 : Mem [] M w0 [] w158 := hm165.sel [] _ rfl (by kernel_rfl)
  obtain rfl := Option.some.inj H0
  refine ret [] [.string (bs yr56.2.2)] [] hf164 (by kernel_rfl) trivial ?_
  exact ⟨_, rfl, rfl, hm166⟩
end Go.Proofs.YtkdhahdfkonilaaDoor
