/- Printed by gen.py. -/
import Derived.Test.YtkdhahdfkonilaaDoorF12
import Derived.Test.YtkdhahdfkonilaaDoorF6
import Derived.Test.YtkdhahdfkonilaaDoorF7
import Derived.Test.YtkdhahdfkonilaaDoorF8
namespace Go.Proofs.YtkdhahdfkonilaaDoor
open Go Go.RowKit
set_option linter.unusedSimpArgs false
set_option linter.unusedVariables false
set_option linter.unnecessarySimpa false
/-! ### backstitch/backstitchlaw24.ScriptApart -/
noncomputable def law24_ScriptApart.f (x0 : Graph) (x1 : Graph) : Option Bool :=
  (law24_awake.f).bind fun r37 =>
  if r37 = true then ((law10_Small.f ([x0, x1] : List Graph)).bind fun r46 =>
  if r46 = true then ((script_Text.f x0).bind fun r66 =>
  (script_Text.f x1).bind fun r67 =>
  if r66 = ([] : List UInt8) then (some true)
  else (if r67 = ([] : List UInt8) then (some true)
  else (if r66 = r67 then ((law24_same.f x0 x1).bind fun r126 =>
  if (true == r126) = true then (some true)
  else (some false))
  else ((law24_same.f x0 x1).bind fun r152 =>
  if (false == r152) = true then (some true)
  else (some false)))))
  else (some true))
  else (some false)
set_option maxRecDepth 100000 in
set_option maxHeartbeats 4000000 in
theorem law24_ScriptApart.calls (M : List (Option Nat)) (w0 : World) (x0 : Graph) (A0_0 : Option Addr) (n0_0 c0_0 : Nat) (e0_0 : n0_0 = x0.L.length) (x1 : Graph) (A1_0 : Option Addr) (n1_0 c1_0 : Nat) (e1_0 : n1_0 = x1.L.length) (hm0 : Mem [] M w0 [.sl kNode A0_0 c0_0 x0.L, .sl kNode A1_0 c1_0 x1.L] w0) (r : Bool) (H0 : law24_ScriptApart.f x0 x1 = some r) (hG : Glob [] w0) :
    Calls Tryd.prog 8 [.agg #[.slice A0_0 n0_0 c0_0], .agg #[.slice A1_0 n1_0 c1_0]].toArray w0 (fun x w' => ∃ v, x = .returned v ∧ v = .bool r ∧ Mem [] M w0 [] w') := by
  subst e0_0
  subst e1_0
  unfold law24_ScriptApart.f at H0
  refine enter (n := 33) Tryd.func8 rfl rfl (by kernel_rfl) fun a0 (hf0 : Fr 33 a0 [(0, .agg #[.slice A0_0 x0.L.length c0_0]), (1, .agg #[.slice A1_0 x1.L.length c1_0])]) => ?_
  refine wp_seq ?_
  refine inReg ?_
  refine listOf hf0 rfl (by kernel_rfl) (aNew (cs := [.slice A0_0 x0.L.length c0_0]) (T := 24) (d := 2) hf0 (by kernel_rfl) (by kernel_rfl) ?_)
  intro b21 w22 a23 hbb21 hx25 hg26 hf24
  have hm27 := hm0.box hbb21 hx25 hg26
  refine listOf hf24 rfl (by kernel_rfl) (aNew (cs := [.slice A1_0 x1.L.length c1_0]) (T := 24) (d := 3) hf24 (by kernel_rfl) (by kernel_rfl) ?_)
  intro b28 w29 a30 hbb28 hx32 hg33 hf31
  have hm34 := hm27.box hbb28 hx32 hg33
  refine go 1 [] [2, 3] [(2, .pointer (some ⟨b21, 0, none⟩)), (3, .pointer (some ⟨b28, 0, none⟩))] [] hf31 (by kernel_rfl) trivial fun a35 hf36 => ?_
  refine endL rfl ?_
  refine thenN ?_
  refine wp_seq ?_
  refine wp_seq ?_
  obtain ⟨r37, hr37, H0⟩ := ob_split H0
  rcases ifb_split H0 with ⟨c38, H0⟩ | ⟨c38, H0⟩
  rotate_left
  · refine inReg ?_
    refine listOf hf36 rfl (by kernel_rfl) (aCall (fid := 9) (args := []) (d := 7) hf36 (by kernel_rfl) (by kernel_rfl) callable9 (law24_awake.calls _ _  (hm34.give [] [] rfl rfl) r37 hr37 (hG.at hm34)) ?_)
    rintro _ w200 a201 ⟨rfl, hk203⟩ hf202
    have hm204 := hm34.still hk203.cum.none
    rw [c38] at hf202
    refine go 1 [] [2, 3, 8] [(2, .pointer (some ⟨b21, 0, none⟩)), (3, .pointer (some ⟨b28, 0, none⟩)), (8, .bool true)] [] hf202 (by kernel_rfl) trivial fun a205 hf206 => ?_
    refine endL rfl ?_
    refine thenN ?_
    refine condT hf206 (by kernel_rfl) ?_
    refine wp_seq ?_
    refine reg [] [4] [(4, .bool false)] [] hf206 (by kernel_rfl) trivial fun a207 hf208 => ?_
    have hm209 := hm204.sel [] _ rfl (by kernel_rfl)
    refine thenN ?_
    refine wp_ret ?_
    refine thenR ?_
    have hm210 : Mem [] M w0 [] w200 := hm209.sel [] _ rfl (by kernel_rfl)
    obtain rfl := Option.some.inj H0
    refine ret [] [.bool false] [] hf208 (by kernel_rfl) trivial ?_
    exact ⟨_, rfl, rfl, hm210⟩
  refine inReg ?_
  refine listOf hf36 rfl (by kernel_rfl) (aCall (fid := 9) (args := []) (d := 7) hf36 (by kernel_rfl) (by kernel_rfl) callable9 (law24_awake.calls _ _  (hm34.give [] [] rfl rfl) r37 hr37 (hG.at hm34)) ?_)
  rintro _ w39 a40 ⟨rfl, hk42⟩ hf41
  have hm43 := hm34.still hk42.cum.none
  rw [c38] at hf41
  refine go 1 [] [2, 3, 8] [(2, .pointer (some ⟨b21, 0, none⟩)), (3, .pointer (some ⟨b28, 0, none⟩)), (8, .bool false)] [] hf41 (by kernel_rfl) trivial fun a44 hf45 => ?_
  refine endL rfl ?_
  refine thenN ?_
  refine condF hf45 (by kernel_rfl) ?_
  refine wp_skip ?_
  refine thenN ?_
  refine wp_seq ?_
  refine wp_seq ?_
  obtain ⟨r46, hr46, H0⟩ := ob_split H0
  rcases ifb_split H0 with ⟨c47, H0⟩ | ⟨c47, H0⟩
  rotate_left
  · refine inReg ?_
    refine go 2 [.agg #[.slice A0_0 x0.L.length c0_0], .agg #[.slice A1_0 x1.L.length c1_0]] [2, 3, 9, 10] [(2, .pointer (some ⟨b21, 0, none⟩)), (3, .pointer (some ⟨b28, 0, none⟩)), (9, .agg #[.slice A0_0 x0.L.length c0_0]), (10, .agg #[.slice A1_0 x1.L.length c1_0])] [.cell ⟨b21, 0, none⟩ (.slice A0_0 x0.L.length c0_0), .cell ⟨b28, 0, none⟩ (.slice A1_0 x1.L.length c1_0)] hf45 (by kernel_rfl) ⟨(hm43.cell 1 rfl rfl), (hm43.cell 0 rfl rfl), trivial⟩ fun a178 hf179 => ?_
    refine listOf hf179 rfl (by kernel_rfl) (aLit (cs := [.slice A0_0 x0.L.length c0_0, .slice A1_0 x1.L.length c1_0]) (E := 24) (len := 2) (d := 11) hf179 (by kernel_rfl) (by kernel_rfl) ?_)
    intro b180 w181 a182 hbb180 hx184 hg185 hf183
    have hm43s := hm43.still hg185
    have hm186 := Mem.lit (kd := kGraph) (xs := ([x0, x1] : List Graph)) hm43 hbb180 hx184 hg185 (Els.append (Els.one (kd := kGraph) (us := [.slice A0_0 x0.L.length c0_0]) (x := x0) (kGraph.mk x0 ⟨hm43s.cpAt 2 rfl, (hm43s.slAt 2 rfl)⟩)) (Els.one (kd := kGraph) (us := [.slice A1_0 x1.L.length c1_0]) (x := x1) (kGraph.mk x1 ⟨hm43s.cpAt 3 rfl, (hm43s.slAt 3 rfl)⟩)))
    refine listOf hf183 rfl (by kernel_rfl) (aCall (fid := 10) (args := [.slice (some ⟨b180, 0, none⟩) 2 2]) (d := 12) hf183 (by kernel_rfl) (by kernel_rfl) callable10 (law10_Small.calls _ _ ([x0, x1] : List Graph) (some ⟨b180, 0, none⟩) 2 2 rfl (hm186.give [0] [.sl kGraph (some ⟨b180, 0, none⟩) 2 ([x0, x1] : List Graph)] rfl rfl) r46 hr46) ?_)
    rintro _ w187 a188 ⟨rfl, hk190⟩ hf189
    have hm191 := hm186.still hk190.cum.none
    rw [c47] at hf189
    refine go 1 [] [2, 3, 13] [(2, .pointer (some ⟨b21, 0, none⟩)), (3, .pointer (some ⟨b28, 0, none⟩)), (13, .bool true)] [] hf189 (by kernel_rfl) trivial fun a192 hf193 => ?_
    refine endL rfl ?_
    have hm194 := hm191.sel [1, 2, 3, 4] _ rfl (by kernel_rfl)
    refine thenN ?_
    refine condT hf193 (by kernel_rfl) ?_
    refine wp_seq ?_
    refine reg [] [4] [(4, .bool true)] [] hf193 (by kernel_rfl) trivial fun a195 hf196 => ?_
    have hm197 := hm194.sel [] _ rfl (by kernel_rfl)
    refine thenN ?_
    refine wp_ret ?_
    refine thenR ?_
    have hm198 : Mem [] M w0 [] w187 := hm197.sel [] _ rfl (by kernel_rfl)
    obtain rfl := Option.some.inj H0
    refine ret [] [.bool true] [] hf196 (by kernel_rfl) trivial ?_
    exact ⟨_, rfl, rfl, hm198⟩
  refine inReg ?_
  refine go 2 [.agg #[.slice A0_0 x0.L.length c0_0], .agg #[.slice A1_0 x1.L.length c1_0]] [2, 3, 9, 10] [(2, .pointer (some ⟨b21, 0, none⟩)), (3, .pointer (some ⟨b28, 0, none⟩)), (9, .agg #[.slice A0_0 x0.L.length c0_0]), (10, .agg #[.slice A1_0 x1.L.length c1_0])] [.cell ⟨b21, 0, none⟩ (.slice A0_0 x0.L.length c0_0), .cell ⟨b28, 0, none⟩ (.slice A1_0 x1.L.length c1_0)] hf45 (by kernel_rfl) ⟨(hm43.cell 1 rfl rfl), (hm43.cell 0 rfl rfl), trivial⟩ fun a48 hf49 => ?_
  refine listOf hf49 rfl (by kernel_rfl) (aLit (cs := [.slice A0_0 x0.L.length c0_0, .slice A1_0 x1.L.length c1_0]) (E := 24) (len := 2) (d := 11) hf49 (by kernel_rfl) (by kernel_rfl) ?_)
  intro b50 w51 a52 hbb50 hx54 hg55 hf53
  have hm43s := hm43.still hg55
  have hm56 := Mem.lit (kd := kGraph) (xs := ([x0, x1] : List Graph)) hm43 hbb50 hx54 hg55 (Els.append (Els.one (kd := kGraph) (us := [.slice A0_0 x0.L.length c0_0]) (x := x0) (kGraph.mk x0 ⟨hm43s.cpAt 2 rfl, (hm43s.slAt 2 rfl)⟩)) (Els.one (kd := kGraph) (us := [.slice A1_0 x1.L.length c1_0]) (x := x1) (kGraph.mk x1 ⟨hm43s.cpAt 3 rfl, (hm43s.slAt 3 rfl)⟩)))
  refine listOf hf53 rfl (by kernel_rfl) (aCall (fid := 10) (args := [.slice (some ⟨b50, 0, none⟩) 2 2]) (d := 12) hf53 (by kernel_rfl) (by kernel_rfl) callable10 (law10_Small.calls _ _ ([x0, x1] : List Graph) (some ⟨b50, 0, none⟩) 2 2 rfl (hm56.give [0] [.sl kGraph (some ⟨b50, 0, none⟩) 2 ([x0, x1] : List Graph)] rfl rfl) r46 hr46) ?_)
  rintro _ w57 a58 ⟨rfl, hk60⟩ hf59
  have hm61 := hm56.still hk60.cum.none
  rw [c47] at hf59
  refine go 1 [] [2, 3, 13] [(2, .pointer (some ⟨b21, 0, none⟩)), (3, .pointer (some ⟨b28, 0, none⟩)), (13, .bool false)] [] hf59 (by kernel_rfl) trivial fun a62 hf63 => ?_
  refine endL rfl ?_
  have hm65 := hm61.sel [1, 2, 3, 4] _ rfl (by kernel_rfl)
  refine thenN ?_
  refine condF hf63 (by kernel_rfl) ?_
  refine wp_skip ?_
  refine thenN ?_
  refine wp_seq ?_
  obtain ⟨r66, hr66, H0⟩ := ob_split H0
  obtain ⟨r67, hr67, H0⟩ := ob_split H0
  refine midReg (fun (a : Act) (w : World) => Fr 33 a [(2, .pointer (some ⟨b21, 0, none⟩)), (3, .pointer (some ⟨b28, 0, none⟩)), (5, .string (bs r66)), (6, .string (bs r67))] ∧ Mem [] M w0 [.bx b28 [.slice A1_0 x1.L.length c1_0] 24, .bx b21 [.slice A0_0 x0.L.length c0_0] 24, .sl kNode A0_0 c0_0 x0.L, .sl kNode A1_0 c1_0 x1.L] w) ?_ ?_
  · refine anyG (K := []) [] (by kernel_rfl) fun w78 hg79 => ?_
    have hm80 := hm65.still hg79
    refine quiet0 [0, 2] [.agg #[.slice A0_0 x0.L.length c0_0], .agg #[.slice A1_0 x1.L.length c1_0]] [2, 3, 14, 16] #[true, false, true, false, false, false] [(2, .pointer (some ⟨b21, 0, none⟩)), (3, .pointer (some ⟨b28, 0, none⟩)), (14, .agg #[.slice A0_0 x0.L.length c0_0]), (16, .agg #[.slice A1_0 x1.L.length c1_0])] [.cell ⟨b21, 0, none⟩ (.slice A0_0 x0.L.length c0_0), .cell ⟨b28, 0, none⟩ (.slice A1_0 x1.L.length c1_0)] 4 rfl (by kernel_rfl) (fun _ _ _ _ _ h => nomatch h.1) hf63 (by kernel_rfl) ⟨(hm80.cell 1 rfl rfl), (hm80.cell 0 rfl rfl), trivial⟩ fun a95 hf96 => ?_
    refine all1 1 (by kernel_rfl) ?_
    refine opOf hf96 rfl (by kernel_rfl) (aCall (fid := 11) (args := [.agg #[.slice A0_0 x0.L.length c0_0]]) (d := 15) hf96 (by kernel_rfl) (by kernel_rfl) callable11 (script_Text.calls _ _ x0 A0_0 x0.L.length c0_0 rfl (hm80.give [2] [.sl kNode A0_0 c0_0 x0.L] rfl rfl) r66 hr66 (hG.at hm80)) ?_)
    rintro _ w97 a98 ⟨rfl, hk100⟩ hf99
    refine ⟨.inr (Gr.still hk100.cum.none), ?_⟩
    have hm101 := hm80.still hk100.cum.none
    refine all1 3 (by kernel_rfl) ?_
    refine opOf hf99 rfl (by kernel_rfl) (aCall (fid := 11) (args := [.agg #[.slice A1_0 x1.L.length c1_0]]) (d := 17) hf99 (by kernel_rfl) (by kernel_rfl) callable11 (script_Text.calls _ _ x1 A1_0 x1.L.length c1_0 rfl (hm101.give [3] [.sl kNode A1_0 c1_0 x1.L] rfl rfl) r67 hr67 (hG.at hm101)) ?_)
    rintro _ w102 a103 ⟨rfl, hk105⟩ hf104
    refine ⟨.inr (Gr.still hk105.cum.none), ?_⟩
    have hm106 := hm101.still hk105.cum.none
    refine quiet0 [4, 5] [] [2, 3, 5, 6] #[true, true, true, true, true, true] [(2, .pointer (some ⟨b21, 0, none⟩)), (3, .pointer (some ⟨b28, 0, none⟩)), (5, .string (bs r66)), (6, .string (bs r67))] [] 0 rfl (by kernel_rfl) (fun _ _ _ _ _ h => nomatch h.1) hf104 (by kernel_rfl) trivial fun a107 hf108 => ?_
    refine allDone (by kernel_rfl) ⟨rfl, hf108.sel (l := [2, 3, 5, 6]) (by kernel_rfl), hm106.sel [0, 1, 2, 3] _ rfl (by kernel_rfl)⟩
  rintro a109 w110 ⟨hf111, hm112⟩
  refine thenN ?_
  refine wp_seq ?_
  rcases if_split H0 with ⟨c113, H0⟩ | ⟨c113, H0⟩
  · refine reg [.bool true] [4] [(4, .bool true)] [.is ((decide (bs r66 = bs ([] : List UInt8))) = true)] hf111 (by kernel_rfl) ⟨(seT c113), trivial⟩ fun a114 hf115 => ?_
    have hm116 := hm112.sel [] _ rfl (by kernel_rfl)
    refine thenN ?_
    refine wp_ret ?_
    have hm117 : Mem [] M w0 [] w110 := hm116.sel [] _ rfl (by kernel_rfl)
    obtain rfl := Option.some.inj H0
    refine ret [] [.bool true] [] hf115 (by kernel_rfl) trivial ?_
    exact ⟨_, rfl, rfl, hm117⟩
  rcases if_split H0 with ⟨c119, H0⟩ | ⟨c119, H0⟩
  · refine reg [.bool false, .bool true] [4] [(4, .bool true)] [.is ((decide (bs r66 = bs ([] : List UInt8))) = false), .is ((decide (bs r67 = bs ([] : List UInt8))) = true)] hf111 (by kernel_rfl) ⟨(seF c113), (seT c119), trivial⟩ fun a120 hf121 => ?_
    have hm122 := hm112.sel [] _ rfl (by kernel_rfl)
    refine thenN ?_
    refine wp_ret ?_
    have hm123 : Mem [] M w0 [] w110 := hm122.sel [] _ rfl (by kernel_rfl)
    obtain rfl := Option.some.inj H0
    refine ret [] [.bool true] [] hf121 (by kernel_rfl) trivial ?_
    exact ⟨_, rfl, rfl, hm123⟩
  rcases if_split H0 with ⟨c125, H0⟩ | ⟨c125, H0⟩
  · obtain ⟨r126, hr126, H0⟩ := ob_split H0
    rcases ifb_split H0 with ⟨c127, H0⟩ | ⟨c127, H0⟩
    · refine inReg ?_
      refine go 12 [.bool false, .bool false, .bool true, .agg #[.slice A0_0 x0.L.length c0_0], .agg #[.slice A1_0 x1.L.length c1_0]] [24, 27, 28, 29] [(24, .bool false), (27, .bool true), (28, .agg #[.slice A0_0 x0.L.length c0_0]), (29, .agg #[.slice A1_0 x1.L.length c1_0])] [.is ((decide (bs r66 = bs ([] : List UInt8))) = false), .is ((decide (bs r67 = bs ([] : List UInt8))) = false), .is ((decide (bs r66 = bs r67)) = true), .cell ⟨b21, 0, none⟩ (.slice A0_0 x0.L.length c0_0), .cell ⟨b28, 0, none⟩ (.slice A1_0 x1.L.length c1_0)] hf111 (by kernel_rfl) ⟨(seF c113), (seF c119), (seT c125), (hm112.cell 1 rfl rfl), (hm112.cell 0 rfl rfl), trivial⟩ fun a128 hf129 => ?_
      refine listOf hf129 rfl (by kernel_rfl) (aCall (fid := 14) (args := [.agg #[.slice A0_0 x0.L.length c0_0], .agg #[.slice A1_0 x1.L.length c1_0]]) (d := 30) hf129 (by kernel_rfl) (by kernel_rfl) callable14 (law24_same.calls _ _ x0 A0_0 x0.L.length c0_0 rfl x1 A1_0 x1.L.length c1_0 rfl (hm112.give [2, 3] [.sl kNode A0_0 c0_0 x0.L, .sl kNode A1_0 c1_0 x1.L] rfl rfl) r126 hr126) ?_)
      rintro _ w130 a131 ⟨rfl, hk133⟩ hf132
      have hm134 := hm112.still hk133.cum.none
      refine go 3 [.bool true] [4] [(4, .bool true)] [.is ((true == r126) = true)] hf132 (by kernel_rfl) ⟨c127, trivial⟩ fun a135 hf136 => ?_
      refine endL rfl ?_
      have hm137 := hm134.sel [] _ rfl (by kernel_rfl)
      refine thenN ?_
      refine wp_ret ?_
      have hm138 : Mem [] M w0 [] w130 := hm137.sel [] _ rfl (by kernel_rfl)
      obtain rfl := Option.some.inj H0
      refine ret [] [.bool true] [] hf136 (by kernel_rfl) trivial ?_
      exact ⟨_, rfl, rfl, hm138⟩
    refine inReg ?_
    refine go 12 [.bool false, .bool false, .bool true, .agg #[.slice A0_0 x0.L.length c0_0], .agg #[.slice A1_0 x1.L.length c1_0]] [24, 27, 28, 29] [(24, .bool false), (27, .bool true), (28, .agg #[.slice A0_0 x0.L.length c0_0]), (29, .agg #[.slice A1_0 x1.L.length c1_0])] [.is ((decide (bs r66 = bs ([] : List UInt8))) = false), .is ((decide (bs r67 = bs ([] : List UInt8))) = false), .is ((decide (bs r66 = bs r67)) = true), .cell ⟨b21, 0, none⟩ (.slice A0_0 x0.L.length c0_0), .cell ⟨b28, 0, none⟩ (.slice A1_0 x1.L.length c1_0)] hf111 (by kernel_rfl) ⟨(seF c113), (seF c119), (seT c125), (hm112.cell 1 rfl rfl), (hm112.cell 0 rfl rfl), trivial⟩ fun a140 hf141 => ?_
    refine listOf hf141 rfl (by kernel_rfl) (aCall (fid := 14) (args := [.agg #[.slice A0_0 x0.L.length c0_0], .agg #[.slice A1_0 x1.L.length c1_0]]) (d := 30) hf141 (by kernel_rfl) (by kernel_rfl) callable14 (law24_same.calls _ _ x0 A0_0 x0.L.length c0_0 rfl x1 A1_0 x1.L.length c1_0 rfl (hm112.give [2, 3] [.sl kNode A0_0 c0_0 x0.L, .sl kNode A1_0 c1_0 x1.L] rfl rfl) r126 hr126) ?_)
    rintro _ w142 a143 ⟨rfl, hk145⟩ hf144
    have hm146 := hm112.still hk145.cum.none
    refine go 3 [.bool false] [4] [(4, .bool false)] [.is ((true == r126) = false)] hf144 (by kernel_rfl) ⟨c127, trivial⟩ fun a147 hf148 => ?_
    refine endL rfl ?_
    have hm149 := hm146.sel [] _ rfl (by kernel_rfl)
    refine thenN ?_
    refine wp_ret ?_
    have hm150 : Mem [] M w0 [] w142 := hm149.sel [] _ rfl (by kernel_rfl)
    obtain rfl := Option.some.inj H0
    refine ret [] [.bool false] [] hf148 (by kernel_rfl) trivial ?_
    exact ⟨_, rfl, rfl, hm150⟩
  obtain ⟨r152, hr152, H0⟩ := ob_split H0
  rcases ifb_split H0 with ⟨c153, H0⟩ | ⟨c153, H0⟩
  · refine inReg ?_
    refine go 12 [.bool false, .bool false, .bool false, .agg #[.slice A0_0 x0.L.length c0_0], .agg #[.slice A1_0 x1.L.length c1_0]] [24, 27, 28, 29] [(24, .bool false), (27, .bool false), (28, .agg #[.slice A0_0 x0.L.length c0_0]), (29, .agg #[.slice A1_0 x1.L.length c1_0])] [.is ((decide (bs r66 = bs ([] : List UInt8))) = false), .is ((decide (bs r67 = bs ([] : List UInt8))) = false), .is ((decide (bs r66 = bs r67)) = false), .cell ⟨b21, 0, none⟩ (.slice A0_0 x0.L.length c0_0), .cell ⟨b28, 0, none⟩ (.slice A1_0 x1.L.length c1_0)] hf111 (by kernel_rfl) ⟨(seF c113), (seF c119), (seF c125), (hm112.cell 1 rfl rfl), (hm112.cell 0 rfl rfl), trivial⟩ fun a154 hf155 => ?_
    refine listOf hf155 rfl (by kernel_rfl) (aCall (fid := 14) (args := [.agg #[.slice A0_0 x0.L.length c0_0], .agg #[.slice A1_0 x1.L.length c1_0]]) (d := 30) hf155 (by kernel_rfl) (by kernel_rfl) callable14 (law24_same.calls _ _ x0 A0_0 x0.L.length c0_0 rfl x1 A1_0 x1.L.length c1_0 rfl (hm112.give [2, 3] [.sl kNode A0_0 c0_0 x0.L, .sl kNode A1_0 c1_0 x1.L] rfl rfl) r152 hr152) ?_)
    rintro _ w156 a157 ⟨rfl, hk159⟩ hf158
    have hm160 := hm112.still hk159.cum.none
    refine go 3 [.bool true] [4] [(4, .bool true)] [.is ((false == r152) = true)] hf158 (by kernel_rfl) ⟨c153, trivial⟩ fun a161 hf162 => ?_
    refine endL rfl ?_
    have hm163 := hm160.sel [] _ rfl (by kernel_rfl)
    refine thenN ?_
    refine wp_ret ?_
    have hm164 : Mem [] M w0 [] w156 := hm163.sel [] _ rfl (by kernel_rfl)
    obtain rfl := Option.some.inj H0
    refine ret [] [.bool true] [] hf162 (by kernel_rfl) trivial ?_
    exact ⟨_, rfl, rfl, hm164⟩
  refine inReg ?_
  refine go 12 [.bool false, .bool false, .bool false, .agg #[.slice A0_0 x0.L.length c0_0], .agg #[.slice A1_0 x1.L.length c1_0]] [24, 27, 28, 29] [(24, .bool false), (27, .bool false), (28, .agg #[.slice A0_0 x0.L.length c0_0]), (29, .agg #[.slice A1_0 x1.L.length c1_0])] [.is ((decide (bs r66 = bs ([] : List UInt8))) = false), .is ((decide (bs r67 = bs ([] : List UInt8))) = false), .is ((decide (bs r66 = bs r67)) = false), .cell ⟨b21, 0, none⟩ (.slice A0_0 x0.L.length c0_0), .cell ⟨b28, 0, none⟩ (.slice A1_0 x1.L.length c1_0)] hf111 (by kernel_rfl) ⟨(seF c113), (seF c119), (seF c125), (hm112.cell 1 rfl rfl), (hm112.cell 0 rfl rfl), trivial⟩ fun a166 hf167 => ?_
  refine listOf hf167 rfl (by kernel_rfl) (aCall (fid := 14) (args := [.agg #[.slice A0_0 x0.L.length c0_0], .agg #[.slice A1_0 x1.L.length c1_0]]) (d := 30) hf167 (by kernel_rfl) (by kernel_rfl) callable14 (law24_same.calls _ _ x0 A0_0 x0.L.length c0_0 rfl x1 A1_0 x1.L.length c1_0 rfl (hm112.give [2, 3] [.sl kNode A0_0 c0_0 x0.L, .sl kNode A1_0 c1_0 x1.L] rfl rfl) r152 hr152) ?_)
  rintro _ w168 a169 ⟨rfl, hk171⟩ hf170
  have hm172 := hm112.still hk171.cum.none
  refine go 3 [.bool false] [4] [(4, .bool false)] [.is ((false == r152) = false)] hf170 (by kernel_rfl) ⟨c153, trivial⟩ fun a173 hf174 => ?_
  refine endL rfl ?_
  have hm175 := hm172.sel [] _ rfl (by kernel_rfl)
  refine thenN ?_
  refine wp_ret ?_
  have hm176 : Mem [] M w0 [] w168 := hm175.sel [] _ rfl (by kernel_rfl)
  obtain rfl := Option.some.inj H0
  refine ret [] [.bool false] [] hf174 (by kernel_rfl) trivial ?_
  exact ⟨_, rfl, rfl, hm176⟩
end Go.Proofs.YtkdhahdfkonilaaDoor
