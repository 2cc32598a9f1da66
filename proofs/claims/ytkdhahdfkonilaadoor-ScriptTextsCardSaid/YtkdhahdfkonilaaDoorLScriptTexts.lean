/- Printed by gen.py. -/
import Derived.Test.YtkdhahdfkonilaaDoorF10
import Derived.Test.YtkdhahdfkonilaaDoorF12
import Derived.Test.YtkdhahdfkonilaaDoorF6
import Derived.Test.YtkdhahdfkonilaaDoorF7
import Derived.Test.YtkdhahdfkonilaaDoorF8
namespace Go.Proofs.YtkdhahdfkonilaaDoor
open Go Go.RowKit
set_option linter.unusedSimpArgs false
set_option linter.unusedVariables false
set_option linter.unnecessarySimpa false
/-! ### backstitch/backstitchlaw24.ScriptTexts -/
noncomputable def law24_ScriptTexts.f (x0 : Graph) : Option Bool :=
  (law24_awake.f).bind fun r30 =>
  if r30 = true then ((law10_Small.f ([x0] : List Graph)).bind fun r39 =>
  if r39 = true then ((script_Text.f x0).bind fun r58 =>
  (ref19_Text.f x0).bind fun r69 =>
  if r58 = r69 then (if r58 = ([] : List UInt8) then (some true)
  else ((script_Read.f r58).bind fun r90 =>
  if r90.2 = 0 then ((law24_same.f x0 r90.1).bind fun r117 =>
  some r117)
  else (some false)))
  else (some false))
  else (some true))
  else (some false)
set_option maxRecDepth 100000 in
set_option maxHeartbeats 4000000 in
theorem law24_ScriptTexts.calls (M : List (Option Nat)) (w0 : World) (x0 : Graph) (A0_0 : Option Addr) (n0_0 c0_0 : Nat) (e0_0 : n0_0 = x0.L.length) (hm0 : Mem [] M w0 [.sl kNode A0_0 c0_0 x0.L] w0) (r : Bool) (H0 : law24_ScriptTexts.f x0 = some r) (hG : Glob [] w0) :
    Calls Tryd.prog 3 [.agg #[.slice A0_0 n0_0 c0_0]].toArray w0 (fun x w' => ∃ v, x = .returned v ∧ v = .bool r ∧ Mem [] M w0 [] w') := by
  subst e0_0
  unfold law24_ScriptTexts.f at H0
  refine enter (n := 32) Tryd.func3 rfl rfl (by kernel_rfl) fun a0 (hf0 : Fr 32 a0 [(0, .agg #[.slice A0_0 x0.L.length c0_0])]) => ?_
  refine wp_seq ?_
  refine inReg ?_
  refine listOf hf0 rfl (by kernel_rfl) (aNew (cs := [.slice A0_0 x0.L.length c0_0]) (T := 24) (d := 1) hf0 (by kernel_rfl) (by kernel_rfl) ?_)
  intro b21 w22 a23 hbb21 hx25 hg26 hf24
  have hm27 := hm0.box hbb21 hx25 hg26
  refine go 1 [] [1] [(1, .pointer (some ⟨b21, 0, none⟩))] [] hf24 (by kernel_rfl) trivial fun a28 hf29 => ?_
  refine endL rfl ?_
  refine thenN ?_
  refine wp_seq ?_
  refine wp_seq ?_
  obtain ⟨r30, hr30, H0⟩ := ob_split H0
  rcases ifb_split H0 with ⟨c31, H0⟩ | ⟨c31, H0⟩
  rotate_left
  · refine inReg ?_
    refine listOf hf29 rfl (by kernel_rfl) (aCall (fid := 9) (args := []) (d := 6) hf29 (by kernel_rfl) (by kernel_rfl) callable9 (law24_awake.calls _ _  (hm27.give [] [] rfl rfl) r30 hr30 (hG.at hm27)) ?_)
    rintro _ w171 a172 ⟨rfl, hk174⟩ hf173
    have hm175 := hm27.still hk174.cum.none
    rw [c31] at hf173
    refine go 1 [] [1, 7] [(1, .pointer (some ⟨b21, 0, none⟩)), (7, .bool true)] [] hf173 (by kernel_rfl) trivial fun a176 hf177 => ?_
    refine endL rfl ?_
    refine thenN ?_
    refine condT hf177 (by kernel_rfl) ?_
    refine wp_seq ?_
    refine reg [] [2] [(2, .bool false)] [] hf177 (by kernel_rfl) trivial fun a178 hf179 => ?_
    have hm180 := hm175.sel [] _ rfl (by kernel_rfl)
    refine thenN ?_
    refine wp_ret ?_
    refine thenR ?_
    have hm181 : Mem [] M w0 [] w171 := hm180.sel [] _ rfl (by kernel_rfl)
    obtain rfl := Option.some.inj H0
    refine ret [] [.bool false] [] hf179 (by kernel_rfl) trivial ?_
    exact ⟨_, rfl, rfl, hm181⟩
  refine inReg ?_
  refine listOf hf29 rfl (by kernel_rfl) (aCall (fid := 9) (args := []) (d := 6) hf29 (by kernel_rfl) (by kernel_rfl) callable9 (law24_awake.calls _ _  (hm27.give [] [] rfl rfl) r30 hr30 (hG.at hm27)) ?_)
  rintro _ w32 a33 ⟨rfl, hk35⟩ hf34
  have hm36 := hm27.still hk35.cum.none
  rw [c31] at hf34
  refine go 1 [] [1, 7] [(1, .pointer (some ⟨b21, 0, none⟩)), (7, .bool false)] [] hf34 (by kernel_rfl) trivial fun a37 hf38 => ?_
  refine endL rfl ?_
  refine thenN ?_
  refine condF hf38 (by kernel_rfl) ?_
  refine wp_skip ?_
  refine thenN ?_
  refine wp_seq ?_
  refine wp_seq ?_
  obtain ⟨r39, hr39, H0⟩ := ob_split H0
  rcases ifb_split H0 with ⟨c40, H0⟩ | ⟨c40, H0⟩
  rotate_left
  · refine inReg ?_
    refine go 1 [.agg #[.slice A0_0 x0.L.length c0_0]] [1, 8] [(1, .pointer (some ⟨b21, 0, none⟩)), (8, .agg #[.slice A0_0 x0.L.length c0_0])] [.cell ⟨b21, 0, none⟩ (.slice A0_0 x0.L.length c0_0)] hf38 (by kernel_rfl) ⟨(hm36.cell 0 rfl rfl), trivial⟩ fun a149 hf150 => ?_
    refine listOf hf150 rfl (by kernel_rfl) (aLit (cs := [.slice A0_0 x0.L.length c0_0]) (E := 24) (len := 1) (d := 9) hf150 (by kernel_rfl) (by kernel_rfl) ?_)
    intro b151 w152 a153 hbb151 hx155 hg156 hf154
    have hm36s := hm36.still hg156
    have hm157 := Mem.lit (kd := kGraph) (xs := ([x0] : List Graph)) hm36 hbb151 hx155 hg156 (Els.one (kd := kGraph) (us := [.slice A0_0 x0.L.length c0_0]) (x := x0) (kGraph.mk x0 ⟨hm36s.cpAt 1 rfl, (hm36s.slAt 1 rfl)⟩))
    refine listOf hf154 rfl (by kernel_rfl) (aCall (fid := 10) (args := [.slice (some ⟨b151, 0, none⟩) 1 1]) (d := 10) hf154 (by kernel_rfl) (by kernel_rfl) callable10 (law10_Small.calls _ _ ([x0] : List Graph) (some ⟨b151, 0, none⟩) 1 1 rfl (hm157.give [0] [.sl kGraph (some ⟨b151, 0, none⟩) 1 ([x0] : List Graph)] rfl rfl) r39 hr39) ?_)
    rintro _ w158 a159 ⟨rfl, hk161⟩ hf160
    have hm162 := hm157.still hk161.cum.none
    rw [c40] at hf160
    refine go 1 [] [1, 11] [(1, .pointer (some ⟨b21, 0, none⟩)), (11, .bool true)] [] hf160 (by kernel_rfl) trivial fun a163 hf164 => ?_
    refine endL rfl ?_
    have hm165 := hm162.sel [1, 2] _ rfl (by kernel_rfl)
    refine thenN ?_
    refine condT hf164 (by kernel_rfl) ?_
    refine wp_seq ?_
    refine reg [] [2] [(2, .bool true)] [] hf164 (by kernel_rfl) trivial fun a166 hf167 => ?_
    have hm168 := hm165.sel [] _ rfl (by kernel_rfl)
    refine thenN ?_
    refine wp_ret ?_
    refine thenR ?_
    have hm169 : Mem [] M w0 [] w158 := hm168.sel [] _ rfl (by kernel_rfl)
    obtain rfl := Option.some.inj H0
    refine ret [] [.bool true] [] hf167 (by kernel_rfl) trivial ?_
    exact ⟨_, rfl, rfl, hm169⟩
  refine inReg ?_
  refine go 1 [.agg #[.slice A0_0 x0.L.length c0_0]] [1, 8] [(1, .pointer (some ⟨b21, 0, none⟩)), (8, .agg #[.slice A0_0 x0.L.length c0_0])] [.cell ⟨b21, 0, none⟩ (.slice A0_0 x0.L.length c0_0)] hf38 (by kernel_rfl) ⟨(hm36.cell 0 rfl rfl), trivial⟩ fun a41 hf42 => ?_
  refine listOf hf42 rfl (by kernel_rfl) (aLit (cs := [.slice A0_0 x0.L.length c0_0]) (E := 24) (len := 1) (d := 9) hf42 (by kernel_rfl) (by kernel_rfl) ?_)
  intro b43 w44 a45 hbb43 hx47 hg48 hf46
  have hm36s := hm36.still hg48
  have hm49 := Mem.lit (kd := kGraph) (xs := ([x0] : List Graph)) hm36 hbb43 hx47 hg48 (Els.one (kd := kGraph) (us := [.slice A0_0 x0.L.length c0_0]) (x := x0) (kGraph.mk x0 ⟨hm36s.cpAt 1 rfl, (hm36s.slAt 1 rfl)⟩))
  refine listOf hf46 rfl (by kernel_rfl) (aCall (fid := 10) (args := [.slice (some ⟨b43, 0, none⟩) 1 1]) (d := 10) hf46 (by kernel_rfl) (by kernel_rfl) callable10 (law10_Small.calls _ _ ([x0] : List Graph) (some ⟨b43, 0, none⟩) 1 1 rfl (hm49.give [0] [.sl kGraph (some ⟨b43, 0, none⟩) 1 ([x0] : List Graph)] rfl rfl) r39 hr39) ?_)
  rintro _ w50 a51 ⟨rfl, hk53⟩ hf52
  have hm54 := hm49.still hk53.cum.none
  rw [c40] at hf52
  refine go 1 [] [1, 11] [(1, .pointer (some ⟨b21, 0, none⟩)), (11, .bool false)] [] hf52 (by kernel_rfl) trivial fun a55 hf56 => ?_
  refine endL rfl ?_
  have hm57 := hm54.sel [1, 2] _ rfl (by kernel_rfl)
  refine thenN ?_
  refine condF hf56 (by kernel_rfl) ?_
  refine wp_skip ?_
  refine thenN ?_
  refine wp_seq ?_
  obtain ⟨r58, hr58, H0⟩ := ob_split H0
  refine inReg ?_
  refine go 1 [.agg #[.slice A0_0 x0.L.length c0_0]] [1, 12] [(1, .pointer (some ⟨b21, 0, none⟩)), (12, .agg #[.slice A0_0 x0.L.length c0_0])] [.cell ⟨b21, 0, none⟩ (.slice A0_0 x0.L.length c0_0)] hf56 (by kernel_rfl) ⟨(hm57.cell 0 rfl rfl), trivial⟩ fun a59 hf60 => ?_
  refine listOf hf60 rfl (by kernel_rfl) (aCall (fid := 11) (args := [.agg #[.slice A0_0 x0.L.length c0_0]]) (d := 13) hf60 (by kernel_rfl) (by kernel_rfl) callable11 (script_Text.calls _ _ x0 A0_0 x0.L.length c0_0 rfl (hm57.give [1] [.sl kNode A0_0 c0_0 x0.L] rfl rfl) r58 hr58 (hG.at hm57)) ?_)
  rintro _ w61 a62 ⟨rfl, hk65⟩ hf63
  have hm66 := hm57.still hk65.cum.none
  refine go 1 [] [1, 3] [(1, .pointer (some ⟨b21, 0, none⟩)), (3, .string (bs r58))] [] hf63 (by kernel_rfl) trivial fun a67 hf68 => ?_
  refine endL rfl ?_
  refine thenN ?_
  refine wp_seq ?_
  refine wp_seq ?_
  obtain ⟨r69, hr69, H0⟩ := ob_split H0
  rcases if_split H0 with ⟨c70, H0⟩ | ⟨c70, H0⟩
  rotate_left
  · refine inReg ?_
    refine go 2 [.agg #[.slice A0_0 x0.L.length c0_0]] [1, 3, 14, 15] [(1, .pointer (some ⟨b21, 0, none⟩)), (3, .string (bs r58)), (14, .string (bs r58)), (15, .agg #[.slice A0_0 x0.L.length c0_0])] [.cell ⟨b21, 0, none⟩ (.slice A0_0 x0.L.length c0_0)] hf68 (by kernel_rfl) ⟨(hm66.cell 0 rfl rfl), trivial⟩ fun a135 hf136 => ?_
    refine listOf hf136 rfl (by kernel_rfl) (aCall (fid := 12) (args := [.agg #[.slice A0_0 x0.L.length c0_0]]) (d := 16) hf136 (by kernel_rfl) (by kernel_rfl) callable12 (ref19_Text.calls _ _ x0 A0_0 x0.L.length c0_0 rfl (hm66.give [1] [.sl kNode A0_0 c0_0 x0.L] rfl rfl) r69 hr69) ?_)
    rintro _ w137 a138 ⟨rfl, hk140⟩ hf139
    have hm141 := hm66.still hk140.cum.none
    refine go 1 [.bool true] [1, 3, 17] [(1, .pointer (some ⟨b21, 0, none⟩)), (3, .string (bs r58)), (17, .bool true)] [.is ((!decide (bs r58 = bs r69)) = true)] hf139 (by kernel_rfl) ⟨(snT c70), trivial⟩ fun a142 hf143 => ?_
    refine endL rfl ?_
    refine thenN ?_
    refine condT hf143 (by kernel_rfl) ?_
    refine wp_seq ?_
    refine reg [] [2] [(2, .bool false)] [] hf143 (by kernel_rfl) trivial fun a144 hf145 => ?_
    have hm146 := hm141.sel [] _ rfl (by kernel_rfl)
    refine thenN ?_
    refine wp_ret ?_
    refine thenR ?_
    have hm147 : Mem [] M w0 [] w137 := hm146.sel [] _ rfl (by kernel_rfl)
    obtain rfl := Option.some.inj H0
    refine ret [] [.bool false] [] hf145 (by kernel_rfl) trivial ?_
    exact ⟨_, rfl, rfl, hm147⟩
  refine inReg ?_
  refine go 2 [.agg #[.slice A0_0 x0.L.length c0_0]] [1, 3, 14, 15] [(1, .pointer (some ⟨b21, 0, none⟩)), (3, .string (bs r58)), (14, .string (bs r58)), (15, .agg #[.slice A0_0 x0.L.length c0_0])] [.cell ⟨b21, 0, none⟩ (.slice A0_0 x0.L.length c0_0)] hf68 (by kernel_rfl) ⟨(hm66.cell 0 rfl rfl), trivial⟩ fun a71 hf72 => ?_
  refine listOf hf72 rfl (by kernel_rfl) (aCall (fid := 12) (args := [.agg #[.slice A0_0 x0.L.length c0_0]]) (d := 16) hf72 (by kernel_rfl) (by kernel_rfl) callable12 (ref19_Text.calls _ _ x0 A0_0 x0.L.length c0_0 rfl (hm66.give [1] [.sl kNode A0_0 c0_0 x0.L] rfl rfl) r69 hr69) ?_)
  rintro _ w73 a74 ⟨rfl, hk76⟩ hf75
  have hm77 := hm66.still hk76.cum.none
  refine go 1 [.bool false] [1, 3, 17] [(1, .pointer (some ⟨b21, 0, none⟩)), (3, .string (bs r58)), (17, .bool false)] [.is ((!decide (bs r58 = bs r69)) = false)] hf75 (by kernel_rfl) ⟨(snF c70), trivial⟩ fun a78 hf79 => ?_
  refine endL rfl ?_
  refine thenN ?_
  refine condF hf79 (by kernel_rfl) ?_
  refine wp_skip ?_
  refine thenN ?_
  refine wp_seq ?_
  refine wp_seq ?_
  rcases if_split H0 with ⟨c80, H0⟩ | ⟨c80, H0⟩
  · refine reg [.bool true] [1, 3, 19] [(1, .pointer (some ⟨b21, 0, none⟩)), (3, .string (bs r58)), (19, .bool true)] [.is ((decide (bs r58 = bs ([] : List UInt8))) = true)] hf79 (by kernel_rfl) ⟨(seT c80), trivial⟩ fun a81 hf82 => ?_
    refine thenN ?_
    refine condT hf82 (by kernel_rfl) ?_
    refine wp_seq ?_
    refine reg [] [2] [(2, .bool true)] [] hf82 (by kernel_rfl) trivial fun a83 hf84 => ?_
    have hm85 := hm77.sel [] _ rfl (by kernel_rfl)
    refine thenN ?_
    refine wp_ret ?_
    refine thenR ?_
    have hm86 : Mem [] M w0 [] w73 := hm85.sel [] _ rfl (by kernel_rfl)
    obtain rfl := Option.some.inj H0
    refine ret [] [.bool true] [] hf84 (by kernel_rfl) trivial ?_
    exact ⟨_, rfl, rfl, hm86⟩
  refine reg [.bool false] [1, 3, 19] [(1, .pointer (some ⟨b21, 0, none⟩)), (3, .string (bs r58)), (19, .bool false)] [.is ((decide (bs r58 = bs ([] : List UInt8))) = false)] hf79 (by kernel_rfl) ⟨(seF c80), trivial⟩ fun a88 hf89 => ?_
  refine thenN ?_
  refine condF hf89 (by kernel_rfl) ?_
  refine wp_skip ?_
  refine thenN ?_
  refine wp_seq ?_
  obtain ⟨r90, hr90, H0⟩ := ob_split H0
  refine inReg ?_
  refine go 1 [] [1, 21] [(1, .pointer (some ⟨b21, 0, none⟩)), (21, .string (bs r58))] [] hf89 (by kernel_rfl) trivial fun a91 hf92 => ?_
  refine listOf hf92 rfl (by kernel_rfl) (aCall (fid := 13) (args := [.string (bs r58)]) (d := 22) hf92 (by kernel_rfl) (by kernel_rfl) callable13 (script_Read.calls _ _ r58 (hm77.give [] [] rfl rfl) r90 hr90 (hG.at hm77)) ?_)
  rintro _ w95 a96 ⟨A93, c94, rfl, hk98⟩ hf97
  have hm99 := hm77.back hk98
  have hm100 := hm99.seal 0 _ rfl rfl
  refine go 3 [] [1, 23, 24] [(1, .pointer (some ⟨b21, 0, none⟩)), (23, .agg #[.slice A93 r90.1.L.length c94]), (24, .int .i64 r90.2)] [] hf97 (by kernel_rfl) trivial fun a101 hf102 => ?_
  refine listOf hf102 rfl (by kernel_rfl) (aNew (cs := [.slice none 0 0]) (T := 24) (d := 4) hf102 (by kernel_rfl) (by kernel_rfl) ?_)
  intro b103 w104 a105 hbb103 hx107 hg108 hf106
  have hm109 := hm100.box hbb103 hx107 hg108
  refine listOf hf106 rfl (by kernel_rfl) (aStoreB (b := b103) (j := 0) (T := 24) (cs := [.slice none 0 0]) (us := [.slice A93 r90.1.L.length c94]) (cs' := [.slice A93 r90.1.L.length c94]) hf106 (by kernel_rfl) (hm109.bxAt 0 rfl) (by kernel_rfl) (by kernel_rfl) (by kernel_rfl) ?_)
  intro w110 hx111 hg112
  have hm113 := hm109.setBox 0 _ rfl rfl hx111 hg112
  refine go 1 [] [1, 4, 5] [(1, .pointer (some ⟨b21, 0, none⟩)), (4, .pointer (some ⟨b103, 0, none⟩)), (5, .int .i64 r90.2)] [] hf106 (by kernel_rfl) trivial fun a114 hf115 => ?_
  refine endL rfl ?_
  refine thenN ?_
  refine wp_seq ?_
  rcases if_split H0 with ⟨c116, H0⟩ | ⟨c116, H0⟩
  rotate_left
  · refine reg [.bool false] [2] [(2, .bool false)] [.is (((r90.2 : Int) == 0) = false)] hf115 (by kernel_rfl) ⟨(eqF c116), trivial⟩ fun a130 hf131 => ?_
    have hm132 := hm113.sel [] _ rfl (by kernel_rfl)
    refine thenN ?_
    refine wp_ret ?_
    have hm133 : Mem [] M w0 [] w110 := hm132.sel [] _ rfl (by kernel_rfl)
    obtain rfl := Option.some.inj H0
    refine ret [] [.bool false] [] hf131 (by kernel_rfl) trivial ?_
    exact ⟨_, rfl, rfl, hm133⟩
  obtain ⟨r117, hr117, H0⟩ := ob_split H0
  refine inReg ?_
  refine go 5 [.bool true, .agg #[.slice A0_0 x0.L.length c0_0], .agg #[.slice A93 r90.1.L.length c94]] [27, 28, 29] [(27, .bool true), (28, .agg #[.slice A0_0 x0.L.length c0_0]), (29, .agg #[.slice A93 r90.1.L.length c94])] [.is (((r90.2 : Int) == 0) = true), .cell ⟨b21, 0, none⟩ (.slice A0_0 x0.L.length c0_0), .cell ⟨b103, 0, none⟩ (.slice A93 r90.1.L.length c94)] hf115 (by kernel_rfl) ⟨(eqT c116), (hm113.cell 2 rfl rfl), (hm113.cell 0 rfl rfl), trivial⟩ fun a118 hf119 => ?_
  refine listOf hf119 rfl (by kernel_rfl) (aCall (fid := 14) (args := [.agg #[.slice A0_0 x0.L.length c0_0], .agg #[.slice A93 r90.1.L.length c94]]) (d := 30) hf119 (by kernel_rfl) (by kernel_rfl) callable14 (law24_same.calls _ _ x0 A0_0 x0.L.length c0_0 rfl r90.1 A93 r90.1.L.length c94 rfl (hm113.give [3, 1] [.sl kNode A0_0 c0_0 x0.L, .sl kNode A93 c94 r90.1.L] rfl rfl) r117 hr117) ?_)
  rintro _ w120 a121 ⟨rfl, hk123⟩ hf122
  have hm124 := hm113.still hk123.cum.none
  refine go 2 [] [2] [(2, .bool r117)] [] hf122 (by kernel_rfl) trivial fun a125 hf126 => ?_
  refine endL rfl ?_
  have hm127 := hm124.sel [] _ rfl (by kernel_rfl)
  refine thenN ?_
  refine wp_ret ?_
  have hm128 : Mem [] M w0 [] w120 := hm127.sel [] _ rfl (by kernel_rfl)
  obtain rfl := Option.some.inj H0
  refine ret [] [.bool r117] [] hf126 (by kernel_rfl) trivial ?_
  exact ⟨_, rfl, rfl, hm128⟩
end Go.Proofs.YtkdhahdfkonilaaDoor
