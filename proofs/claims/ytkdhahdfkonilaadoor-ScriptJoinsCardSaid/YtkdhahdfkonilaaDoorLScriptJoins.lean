/- Printed by gen.py. -/
import Derived.Test.YtkdhahdfkonilaaDoorF6
import Derived.Test.YtkdhahdfkonilaaDoorF7
import Derived.Test.YtkdhahdfkonilaaDoorF8
namespace Go.Proofs.YtkdhahdfkonilaaDoor
open Go Go.RowKit
set_option linter.unusedSimpArgs false
set_option linter.unusedVariables false
set_option linter.unnecessarySimpa false
/-! ### backstitch/backstitchlaw24.ScriptJoins -/
noncomputable def law24_ScriptJoins.f (x0 : Graph) (x1 : Graph) (x2 : Int) : Option Bool :=
  (law24_awake.f).bind fun r37 =>
  if r37 = true then ((law10_Small.f ([x0, x1] : List Graph)).bind fun r46 =>
  if r46 = true then (if 256 < (w64 ((x0.L.length : Int) + (x1.L.length : Int))) then (some true)
  else ((script_Text.f x0).bind fun r89 =>
  (script_Text.f x1).bind fun r90 =>
  if r89 = ([] : List UInt8) then (some true)
  else (if r90 = ([] : List UInt8) then (some true)
  else (if 0 + x0.L.length ≤ 549755813888 then (if (([] : List Node) ++ x0.L).length + x1.L.length ≤ 549755813888 then (if (r89.length : Int) ≠ 0 then (if 0 ≤ (Int.tmod (w64 (x2)) (r89.length : Int)) ∧ (Int.tmod (w64 (x2)) (r89.length : Int)) ≤ (r89.length : Int) then ((script_Read.f (slc r89 0 (Int.tmod (w64 (x2)) (r89.length : Int)))).bind fun r882 =>
  if (Int.tmod (w64 (x2)) (r89.length : Int)) = 0 then ((script_Text.f (⟨((([] : List Node) ++ x0.L) ++ x1.L)⟩ : Graph)).bind fun r912 =>
  if r89.length + r90.length ≤ 9223372036854775807 then (if r912 = (r89 ++ r90) then (if r882.2 = 0 then (some true)
  else (some false))
  else (some false))
  else none)
  else (if 0 ≤ (w64 ((Int.tmod (w64 (x2)) (r89.length : Int)) - 1)) ∧ (w64 ((Int.tmod (w64 (x2)) (r89.length : Int)) - 1)) < (r89.length : Int) then (if (chr r89 (w64 ((Int.tmod (w64 (x2)) (r89.length : Int)) - 1))) = 10 then ((script_Text.f (⟨((([] : List Node) ++ x0.L) ++ x1.L)⟩ : Graph)).bind fun r959 =>
  if r89.length + r90.length ≤ 9223372036854775807 then (if r959 = (r89 ++ r90) then (if r882.2 = 0 then (some true)
  else (some false))
  else (some false))
  else none)
  else ((script_Text.f (⟨((([] : List Node) ++ x0.L) ++ x1.L)⟩ : Graph)).bind fun r1004 =>
  if r89.length + r90.length ≤ 9223372036854775807 then (if r1004 = (r89 ++ r90) then (if r882.2 = 0 then (some false)
  else (some true))
  else (some false))
  else none))
  else none))
  else none)
  else none)
  else none)
  else none))))
  else (some true))
  else (some false)
set_option maxRecDepth 100000 in
set_option maxHeartbeats 4000000 in
theorem law24_ScriptJoins.calls (M : List (Option Nat)) (w0 : World) (x0 : Graph) (A0_0 : Option Addr) (n0_0 c0_0 : Nat) (e0_0 : n0_0 = x0.L.length) (x1 : Graph) (A1_0 : Option Addr) (n1_0 c1_0 : Nat) (e1_0 : n1_0 = x1.L.length) (x2 : Int) (hm0 : Mem [] M w0 [.sl kNode A0_0 c0_0 x0.L, .sl kNode A1_0 c1_0 x1.L] w0) (r : Bool) (H0 : law24_ScriptJoins.f x0 x1 x2 = some r) (hG : Glob [] w0) :
    Calls Tryd.prog 7 [.agg #[.slice A0_0 n0_0 c0_0], .agg #[.slice A1_0 n1_0 c1_0], .int .u16 x2].toArray w0 (fun x w' => ∃ v, x = .returned v ∧ v = .bool r ∧ Mem [] M w0 [] w') := by
  subst e0_0
  subst e1_0
  unfold law24_ScriptJoins.f at H0
  refine enter (n := 82) Tryd.func7 rfl rfl (by kernel_rfl) fun a0 (hf0 : Fr 82 a0 [(0, .agg #[.slice A0_0 x0.L.length c0_0]), (1, .agg #[.slice A1_0 x1.L.length c1_0]), (2, .int .u16 x2)]) => ?_
  refine wp_seq ?_
  refine inReg ?_
  refine listOf hf0 rfl (by kernel_rfl) (aNew (cs := [.slice A0_0 x0.L.length c0_0]) (T := 24) (d := 3) hf0 (by kernel_rfl) (by kernel_rfl) ?_)
  intro b21 w22 a23 hbb21 hx25 hg26 hf24
  have hm27 := hm0.box hbb21 hx25 hg26
  refine listOf hf24 rfl (by kernel_rfl) (aNew (cs := [.slice A1_0 x1.L.length c1_0]) (T := 24) (d := 4) hf24 (by kernel_rfl) (by kernel_rfl) ?_)
  intro b28 w29 a30 hbb28 hx32 hg33 hf31
  have hm34 := hm27.box hbb28 hx32 hg33
  refine go 1 [] [2, 3, 4] [(2, .int .u16 x2), (3, .pointer (some ⟨b21, 0, none⟩)), (4, .pointer (some ⟨b28, 0, none⟩))] [] hf31 (by kernel_rfl) trivial fun a35 hf36 => ?_
  refine endL rfl ?_
  refine thenN ?_
  refine wp_seq ?_
  refine wp_seq ?_
  obtain ⟨r37, hr37, H0⟩ := ob_split H0
  rcases ifb_split H0 with ⟨c38, H0⟩ | ⟨c38, H0⟩
  rotate_left
  · refine inReg ?_
    refine listOf hf36 rfl (by kernel_rfl) (aCall (fid := 9) (args := []) (d := 14) hf36 (by kernel_rfl) (by kernel_rfl) callable9 (law24_awake.calls _ _  (hm34.give [] [] rfl rfl) r37 hr37 (hG.at hm34)) ?_)
    rintro _ w1069 a1070 ⟨rfl, hk1072⟩ hf1071
    have hm1073 := hm34.still hk1072.cum.none
    rw [c38] at hf1071
    refine go 1 [] [2, 3, 4, 15] [(2, .int .u16 x2), (3, .pointer (some ⟨b21, 0, none⟩)), (4, .pointer (some ⟨b28, 0, none⟩)), (15, .bool true)] [] hf1071 (by kernel_rfl) trivial fun a1074 hf1075 => ?_
    refine endL rfl ?_
    refine thenN ?_
    refine condT hf1075 (by kernel_rfl) ?_
    refine wp_seq ?_
    refine reg [] [6] [(6, .bool false)] [] hf1075 (by kernel_rfl) trivial fun a1076 hf1077 => ?_
    have hm1078 := hm1073.sel [] _ rfl (by kernel_rfl)
    refine thenN ?_
    refine wp_ret ?_
    refine thenR ?_
    have hm1079 : Mem [] M w0 [] w1069 := hm1078.sel [] _ rfl (by kernel_rfl)
    obtain rfl := Option.some.inj H0
    refine ret [] [.bool false] [] hf1077 (by kernel_rfl) trivial ?_
    exact ⟨_, rfl, rfl, hm1079⟩
  refine inReg ?_
  refine listOf hf36 rfl (by kernel_rfl) (aCall (fid := 9) (args := []) (d := 14) hf36 (by kernel_rfl) (by kernel_rfl) callable9 (law24_awake.calls _ _  (hm34.give [] [] rfl rfl) r37 hr37 (hG.at hm34)) ?_)
  rintro _ w39 a40 ⟨rfl, hk42⟩ hf41
  have hm43 := hm34.still hk42.cum.none
  rw [c38] at hf41
  refine go 1 [] [2, 3, 4, 15] [(2, .int .u16 x2), (3, .pointer (some ⟨b21, 0, none⟩)), (4, .pointer (some ⟨b28, 0, none⟩)), (15, .bool false)] [] hf41 (by kernel_rfl) trivial fun a44 hf45 => ?_
  refine endL rfl ?_
  refine thenN ?_
  refine condF hf45 (by kernel_rfl) ?_
  refine wp_skip ?_
  refine thenN ?_
  refine wp_seq ?_
  refine wp_seq ?_
  obtain ⟨r46, hr46, H0⟩ := ob_split H0
  rcases ifb_split H0 with ⟨c47, H0⟩ | ⟨c47, H0⟩
  rotate_left
  · refine inReg ?_
    refine go 2 [.agg #[.slice A0_0 x0.L.length c0_0], .agg #[.slice A1_0 x1.L.length c1_0]] [2, 3, 4, 16, 17] [(2, .int .u16 x2), (3, .pointer (some ⟨b21, 0, none⟩)), (4, .pointer (some ⟨b28, 0, none⟩)), (16, .agg #[.slice A0_0 x0.L.length c0_0]), (17, .agg #[.slice A1_0 x1.L.length c1_0])] [.cell ⟨b21, 0, none⟩ (.slice A0_0 x0.L.length c0_0), .cell ⟨b28, 0, none⟩ (.slice A1_0 x1.L.length c1_0)] hf45 (by kernel_rfl) ⟨(hm43.cell 1 rfl rfl), (hm43.cell 0 rfl rfl), trivial⟩ fun a1047 hf1048 => ?_
    refine listOf hf1048 rfl (by kernel_rfl) (aLit (cs := [.slice A0_0 x0.L.length c0_0, .slice A1_0 x1.L.length c1_0]) (E := 24) (len := 2) (d := 18) hf1048 (by kernel_rfl) (by kernel_rfl) ?_)
    intro b1049 w1050 a1051 hbb1049 hx1053 hg1054 hf1052
    have hm43s := hm43.still hg1054
    have hm1055 := Mem.lit (kd := kGraph) (xs := ([x0, x1] : List Graph)) hm43 hbb1049 hx1053 hg1054 (Els.append (Els.one (kd := kGraph) (us := [.slice A0_0 x0.L.length c0_0]) (x := x0) (kGraph.mk x0 ⟨hm43s.cpAt 2 rfl, (hm43s.slAt 2 rfl)⟩)) (Els.one (kd := kGraph) (us := [.slice A1_0 x1.L.length c1_0]) (x := x1) (kGraph.mk x1 ⟨hm43s.cpAt 3 rfl, (hm43s.slAt 3 rfl)⟩)))
    refine listOf hf1052 rfl (by kernel_rfl) (aCall (fid := 10) (args := [.slice (some ⟨b1049, 0, none⟩) 2 2]) (d := 19) hf1052 (by kernel_rfl) (by kernel_rfl) callable10 (law10_Small.calls _ _ ([x0, x1] : List Graph) (some ⟨b1049, 0, none⟩) 2 2 rfl (hm1055.give [0] [.sl kGraph (some ⟨b1049, 0, none⟩) 2 ([x0, x1] : List Graph)] rfl rfl) r46 hr46) ?_)
    rintro _ w1056 a1057 ⟨rfl, hk1059⟩ hf1058
    have hm1060 := hm1055.still hk1059.cum.none
    rw [c47] at hf1058
    refine go 11 [] [2, 3, 4, 30] [(2, .int .u16 x2), (3, .pointer (some ⟨b21, 0, none⟩)), (4, .pointer (some ⟨b28, 0, none⟩)), (30, .bool true)] [] hf1058 (by kernel_rfl) trivial fun a1061 hf1062 => ?_
    refine endL rfl ?_
    have hm1063 := hm1060.sel [1, 2, 3, 4] _ rfl (by kernel_rfl)
    refine thenN ?_
    refine condT hf1062 (by kernel_rfl) ?_
    refine wp_seq ?_
    refine reg [] [6] [(6, .bool true)] [] hf1062 (by kernel_rfl) trivial fun a1064 hf1065 => ?_
    have hm1066 := hm1063.sel [] _ rfl (by kernel_rfl)
    refine thenN ?_
    refine wp_ret ?_
    refine thenR ?_
    have hm1067 : Mem [] M w0 [] w1056 := hm1066.sel [] _ rfl (by kernel_rfl)
    obtain rfl := Option.some.inj H0
    refine ret [] [.bool true] [] hf1065 (by kernel_rfl) trivial ?_
    exact ⟨_, rfl, rfl, hm1067⟩
  rcases if_split H0 with ⟨c48, H0⟩ | ⟨c48, H0⟩
  · refine inReg ?_
    refine go 2 [.agg #[.slice A0_0 x0.L.length c0_0], .agg #[.slice A1_0 x1.L.length c1_0]] [2, 3, 4, 16, 17] [(2, .int .u16 x2), (3, .pointer (some ⟨b21, 0, none⟩)), (4, .pointer (some ⟨b28, 0, none⟩)), (16, .agg #[.slice A0_0 x0.L.length c0_0]), (17, .agg #[.slice A1_0 x1.L.length c1_0])] [.cell ⟨b21, 0, none⟩ (.slice A0_0 x0.L.length c0_0), .cell ⟨b28, 0, none⟩ (.slice A1_0 x1.L.length c1_0)] hf45 (by kernel_rfl) ⟨(hm43.cell 1 rfl rfl), (hm43.cell 0 rfl rfl), trivial⟩ fun a49 hf50 => ?_
    refine listOf hf50 rfl (by kernel_rfl) (aLit (cs := [.slice A0_0 x0.L.length c0_0, .slice A1_0 x1.L.length c1_0]) (E := 24) (len := 2) (d := 18) hf50 (by kernel_rfl) (by kernel_rfl) ?_)
    intro b51 w52 a53 hbb51 hx55 hg56 hf54
    have hm43s := hm43.still hg56
    have hm57 := Mem.lit (kd := kGraph) (xs := ([x0, x1] : List Graph)) hm43 hbb51 hx55 hg56 (Els.append (Els.one (kd := kGraph) (us := [.slice A0_0 x0.L.length c0_0]) (x := x0) (kGraph.mk x0 ⟨hm43s.cpAt 2 rfl, (hm43s.slAt 2 rfl)⟩)) (Els.one (kd := kGraph) (us := [.slice A1_0 x1.L.length c1_0]) (x := x1) (kGraph.mk x1 ⟨hm43s.cpAt 3 rfl, (hm43s.slAt 3 rfl)⟩)))
    refine listOf hf54 rfl (by kernel_rfl) (aCall (fid := 10) (args := [.slice (some ⟨b51, 0, none⟩) 2 2]) (d := 19) hf54 (by kernel_rfl) (by kernel_rfl) callable10 (law10_Small.calls _ _ ([x0, x1] : List Graph) (some ⟨b51, 0, none⟩) 2 2 rfl (hm57.give [0] [.sl kGraph (some ⟨b51, 0, none⟩) 2 ([x0, x1] : List Graph)] rfl rfl) r46 hr46) ?_)
    rintro _ w58 a59 ⟨rfl, hk61⟩ hf60
    have hm62 := hm57.still hk61.cum.none
    rw [c47] at hf60
    refine go 11 [.slice A0_0 x0.L.length c0_0, .slice A1_0 x1.L.length c1_0, .bool true] [2, 3, 4, 30] [(2, .int .u16 x2), (3, .pointer (some ⟨b21, 0, none⟩)), (4, .pointer (some ⟨b28, 0, none⟩)), (30, .bool true)] [.cell ⟨b21, 0, none⟩ (.slice A0_0 x0.L.length c0_0), .cell ⟨b28, 0, none⟩ (.slice A1_0 x1.L.length c1_0), .is (decide (256 < (w64 ((x0.L.length : Int) + (x1.L.length : Int)))) = true)] hf60 (by kernel_rfl) ⟨(hm62.cell 2 rfl rfl), (hm62.cell 1 rfl rfl), (decide_eq_true c48), trivial⟩ fun a63 hf65 => ?_
    refine endL rfl ?_
    have hm66 := hm62.sel [1, 2, 3, 4] _ rfl (by kernel_rfl)
    refine thenN ?_
    refine condT hf65 (by kernel_rfl) ?_
    refine wp_seq ?_
    refine reg [] [6] [(6, .bool true)] [] hf65 (by kernel_rfl) trivial fun a67 hf68 => ?_
    have hm69 := hm66.sel [] _ rfl (by kernel_rfl)
    refine thenN ?_
    refine wp_ret ?_
    refine thenR ?_
    have hm70 : Mem [] M w0 [] w58 := hm69.sel [] _ rfl (by kernel_rfl)
    obtain rfl := Option.some.inj H0
    refine ret [] [.bool true] [] hf68 (by kernel_rfl) trivial ?_
    exact ⟨_, rfl, rfl, hm70⟩
  refine inReg ?_
  refine go 2 [.agg #[.slice A0_0 x0.L.length c0_0], .agg #[.slice A1_0 x1.L.length c1_0]] [2, 3, 4, 16, 17] [(2, .int .u16 x2), (3, .pointer (some ⟨b21, 0, none⟩)), (4, .pointer (some ⟨b28, 0, none⟩)), (16, .agg #[.slice A0_0 x0.L.length c0_0]), (17, .agg #[.slice A1_0 x1.L.length c1_0])] [.cell ⟨b21, 0, none⟩ (.slice A0_0 x0.L.length c0_0), .cell ⟨b28, 0, none⟩ (.slice A1_0 x1.L.length c1_0)] hf45 (by kernel_rfl) ⟨(hm43.cell 1 rfl rfl), (hm43.cell 0 rfl rfl), trivial⟩ fun a72 hf73 => ?_
  refine listOf hf73 rfl (by kernel_rfl) (aLit (cs := [.slice A0_0 x0.L.length c0_0, .slice A1_0 x1.L.length c1_0]) (E := 24) (len := 2) (d := 18) hf73 (by kernel_rfl) (by kernel_rfl) ?_)
  intro b74 w75 a76 hbb74 hx78 hg79 hf77
  have hm43s := hm43.still hg79
  have hm80 := Mem.lit (kd := kGraph) (xs := ([x0, x1] : List Graph)) hm43 hbb74 hx78 hg79 (Els.append (Els.one (kd := kGraph) (us := [.slice A0_0 x0.L.length c0_0]) (x := x0) (kGraph.mk x0 ⟨hm43s.cpAt 2 rfl, (hm43s.slAt 2 rfl)⟩)) (Els.one (kd := kGraph) (us := [.slice A1_0 x1.L.length c1_0]) (x := x1) (kGraph.mk x1 ⟨hm43s.cpAt 3 rfl, (hm43s.slAt 3 rfl)⟩)))
  refine listOf hf77 rfl (by kernel_rfl) (aCall (fid := 10) (args := [.slice (some ⟨b74, 0, none⟩) 2 2]) (d := 19) hf77 (by kernel_rfl) (by kernel_rfl) callable10 (law10_Small.calls _ _ ([x0, x1] : List Graph) (some ⟨b74, 0, none⟩) 2 2 rfl (hm80.give [0] [.sl kGraph (some ⟨b74, 0, none⟩) 2 ([x0, x1] : List Graph)] rfl rfl) r46 hr46) ?_)
  rintro _ w81 a82 ⟨rfl, hk84⟩ hf83
  have hm85 := hm80.still hk84.cum.none
  rw [c47] at hf83
  refine go 11 [.slice A0_0 x0.L.length c0_0, .slice A1_0 x1.L.length c1_0, .bool false] [2, 3, 4, 30] [(2, .int .u16 x2), (3, .pointer (some ⟨b21, 0, none⟩)), (4, .pointer (some ⟨b28, 0, none⟩)), (30, .bool false)] [.cell ⟨b21, 0, none⟩ (.slice A0_0 x0.L.length c0_0), .cell ⟨b28, 0, none⟩ (.slice A1_0 x1.L.length c1_0), .is (decide (256 < (w64 ((x0.L.length : Int) + (x1.L.length : Int)))) = false)] hf83 (by kernel_rfl) ⟨(hm85.cell 2 rfl rfl), (hm85.cell 1 rfl rfl), (decide_eq_false c48), trivial⟩ fun a86 hf87 => ?_
  refine endL rfl ?_
  have hm88 := hm85.sel [1, 2, 3, 4] _ rfl (by kernel_rfl)
  refine thenN ?_
  refine condF hf87 (by kernel_rfl) ?_
  refine wp_skip ?_
  refine thenN ?_
  refine wp_seq ?_
  obtain ⟨r89, hr89, H0⟩ := ob_split H0
  obtain ⟨r90, hr90, H0⟩ := ob_split H0
  refine midReg (fun (a : Act) (w : World) => Fr 82 a [(2, .int .u16 x2), (3, .pointer (some ⟨b21, 0, none⟩)), (4, .pointer (some ⟨b28, 0, none⟩)), (7, .string (bs r89)), (8, .string (bs r90))] ∧ Mem [] M w0 [.bx b28 [.slice A1_0 x1.L.length c1_0] 24, .bx b21 [.slice A0_0 x0.L.length c0_0] 24, .sl kNode A0_0 c0_0 x0.L, .sl kNode A1_0 c1_0 x1.L] w) ?_ ?_
  · refine anyG (K := []) [] (by kernel_rfl) fun w101 hg102 => ?_
    have hm103 := hm88.still hg102
    refine quiet0 [0, 2] [.agg #[.slice A0_0 x0.L.length c0_0], .agg #[.slice A1_0 x1.L.length c1_0]] [2, 3, 4, 31, 33] #[true, false, true, false, false, false] [(2, .int .u16 x2), (3, .pointer (some ⟨b21, 0, none⟩)), (4, .pointer (some ⟨b28, 0, none⟩)), (31, .agg #[.slice A0_0 x0.L.length c0_0]), (33, .agg #[.slice A1_0 x1.L.length c1_0])] [.cell ⟨b21, 0, none⟩ (.slice A0_0 x0.L.length c0_0), .cell ⟨b28, 0, none⟩ (.slice A1_0 x1.L.length c1_0)] 4 rfl (by kernel_rfl) (fun _ _ _ _ _ h => nomatch h.1) hf87 (by kernel_rfl) ⟨(hm103.cell 1 rfl rfl), (hm103.cell 0 rfl rfl), trivial⟩ fun a118 hf119 => ?_
    refine all1 1 (by kernel_rfl) ?_
    refine opOf hf119 rfl (by kernel_rfl) (aCall (fid := 11) (args := [.agg #[.slice A0_0 x0.L.length c0_0]]) (d := 32) hf119 (by kernel_rfl) (by kernel_rfl) callable11 (script_Text.calls _ _ x0 A0_0 x0.L.length c0_0 rfl (hm103.give [2] [.sl kNode A0_0 c0_0 x0.L] rfl rfl) r89 hr89 (hG.at hm103)) ?_)
    rintro _ w120 a121 ⟨rfl, hk123⟩ hf122
    refine ⟨.inr (Gr.still hk123.cum.none), ?_⟩
    have hm124 := hm103.still hk123.cum.none
    refine all1 3 (by kernel_rfl) ?_
    refine opOf hf122 rfl (by kernel_rfl) (aCall (fid := 11) (args := [.agg #[.slice A1_0 x1.L.length c1_0]]) (d := 34) hf122 (by kernel_rfl) (by kernel_rfl) callable11 (script_Text.calls _ _ x1 A1_0 x1.L.length c1_0 rfl (hm124.give [3] [.sl kNode A1_0 c1_0 x1.L] rfl rfl) r90 hr90 (hG.at hm124)) ?_)
    rintro _ w125 a126 ⟨rfl, hk128⟩ hf127
    refine ⟨.inr (Gr.still hk128.cum.none), ?_⟩
    have hm129 := hm124.still hk128.cum.none
    refine quiet0 [4, 5] [] [2, 3, 4, 7, 8] #[true, true, true, true, true, true] [(2, .int .u16 x2), (3, .pointer (some ⟨b21, 0, none⟩)), (4, .pointer (some ⟨b28, 0, none⟩)), (7, .string (bs r89)), (8, .string (bs r90))] [] 0 rfl (by kernel_rfl) (fun _ _ _ _ _ h => nomatch h.1) hf127 (by kernel_rfl) trivial fun a130 hf131 => ?_
    refine allDone (by kernel_rfl) ⟨rfl, hf131.sel (l := [2, 3, 4, 7, 8]) (by kernel_rfl), hm129.sel [0, 1, 2, 3] _ rfl (by kernel_rfl)⟩
  rintro a132 w133 ⟨hf134, hm135⟩
  refine thenN ?_
  refine wp_seq ?_
  refine wp_seq ?_
  rcases if_split H0 with ⟨c136, H0⟩ | ⟨c136, H0⟩
  · refine reg [.bool true] [2, 3, 4, 7, 8, 40] [(2, .int .u16 x2), (3, .pointer (some ⟨b21, 0, none⟩)), (4, .pointer (some ⟨b28, 0, none⟩)), (7, .string (bs r89)), (8, .string (bs r90)), (40, .bool true)] [.is ((decide (bs r89 = bs ([] : List UInt8))) = true)] hf134 (by kernel_rfl) ⟨(seT c136), trivial⟩ fun a137 hf138 => ?_
    refine thenN ?_
    refine condT hf138 (by kernel_rfl) ?_
    refine wp_seq ?_
    refine reg [] [6] [(6, .bool true)] [] hf138 (by kernel_rfl) trivial fun a139 hf140 => ?_
    have hm141 := hm135.sel [] _ rfl (by kernel_rfl)
    refine thenN ?_
    refine wp_ret ?_
    refine thenR ?_
    have hm142 : Mem [] M w0 [] w133 := hm141.sel [] _ rfl (by kernel_rfl)
    obtain rfl := Option.some.inj H0
    refine ret [] [.bool true] [] hf140 (by kernel_rfl) trivial ?_
    exact ⟨_, rfl, rfl, hm142⟩
  rcases if_split H0 with ⟨c144, H0⟩ | ⟨c144, H0⟩
  · refine reg [.bool false, .bool true] [2, 3, 4, 7, 8, 40] [(2, .int .u16 x2), (3, .pointer (some ⟨b21, 0, none⟩)), (4, .pointer (some ⟨b28, 0, none⟩)), (7, .string (bs r89)), (8, .string (bs r90)), (40, .bool true)] [.is ((decide (bs r89 = bs ([] : List UInt8))) = false), .is ((decide (bs r90 = bs ([] : List UInt8))) = true)] hf134 (by kernel_rfl) ⟨(seF c136), (seT c144), trivial⟩ fun a145 hf146 => ?_
    refine thenN ?_
    refine condT hf146 (by kernel_rfl) ?_
    refine wp_seq ?_
    refine reg [] [6] [(6, .bool true)] [] hf146 (by kernel_rfl) trivial fun a147 hf148 => ?_
    have hm149 := hm135.sel [] _ rfl (by kernel_rfl)
    refine thenN ?_
    refine wp_ret ?_
    refine thenR ?_
    have hm150 : Mem [] M w0 [] w133 := hm149.sel [] _ rfl (by kernel_rfl)
    obtain rfl := Option.some.inj H0
    refine ret [] [.bool true] [] hf148 (by kernel_rfl) trivial ?_
    exact ⟨_, rfl, rfl, hm150⟩
  refine reg [.bool false, .bool false] [2, 3, 4, 7, 8, 40] [(2, .int .u16 x2), (3, .pointer (some ⟨b21, 0, none⟩)), (4, .pointer (some ⟨b28, 0, none⟩)), (7, .string (bs r89)), (8, .string (bs r90)), (40, .bool false)] [.is ((decide (bs r89 = bs ([] : List UInt8))) = false), .is ((decide (bs r90 = bs ([] : List UInt8))) = false)] hf134 (by kernel_rfl) ⟨(seF c136), (seF c144), trivial⟩ fun a152 hf153 => ?_
  refine thenN ?_
  refine condF hf153 (by kernel_rfl) ?_
  refine wp_skip ?_
  refine thenN ?_
  refine wp_seq ?_
  obtain ⟨g154, H0⟩ := if_guard H0
  obtain ⟨g155, H0⟩ := if_guard H0
  refine midReg (fun (a : Act) (w : World) => ∃ (b185 : Nat) (A174 : Option Addr) (c175 : Nat), Fr 82 a [(2, .int .u16 x2), (7, .string (bs r89)), (8, .string (bs r90)), (9, .pointer (some ⟨b185, 0, none⟩))] ∧ Mem [] M w0 [.bx b185 [.slice A174 (((([] : List Node) ++ x0.L) ++ x1.L).length) c175] 24, .ow kNode 49 A174 c175 ((([] : List Node) ++ x0.L) ++ x1.L)] w) ?_ ?_
  · refine anyG (K := []) [3, 6, 9] (by kernel_rfl) fun w197 hg198 => ?_
    have hm199 := hm135.still hg198
    refine memoStep (R := fun (a : Act) (w : World) => ∃ (A211 : Option Addr) (c212 : Nat), Fr 82 a [(2, .int .u16 x2), (7, .string (bs r89)), (8, .string (bs r90)), (43, .slice A0_0 x0.L.length c0_0), (44, .slice A211 ((([] : List Node) ++ x0.L).length) c212), (45, .pointer (some ⟨b28, 0, none⟩)), (46, .slice A1_0 x1.L.length c1_0)] ∧ Mem [] M w0 [.ow kNode 49 A211 c212 (([] : List Node) ++ x0.L), .bx b28 [.slice A1_0 x1.L.length c1_0] 24, .sl kNode A0_0 c0_0 x0.L, .sl kNode A1_0 c1_0 x1.L] w) #[true, true, true, true, true, true, false, false, false, false] 4 ?_ fun L521 => ?_
    · rintro a522 w523 ⟨A211, c212, hf524, hm525⟩
      refine all2 6 8 (by kernel_rfl) ?_ ?_
      · have e534 : (([] : List Node) ++ x0.L).length = (([] : List Node) ++ x0.L).length := rfl
        have e535 : x1.L.length = x1.L.length := rfl
        refine opOf hf524 rfl (by kernel_rfl) (aApp (kd := kNode) (base := 0) (E := 49) (A := A211) (B := A1_0) (c := c212) (c2 := c1_0) (xs := (([] : List Node) ++ x0.L)) (ys := x1.L) (k := ((([] : List Node) ++ x0.L).length)) (m := x1.L.length) (sz := 7) (d := 47) hf524 (by kernel_rfl) e534 e535 (by kernel_rfl) rfl (by kernel_rfl) (hm525.at 0 rfl) (hm525.at2 0 3 rfl rfl).2 (hm525.cpAt 3 rfl) (Nat.zero_le _) (by have := g155; omega) ?_)
        intro A526 c527 w528 a529 ho531 hg532 hr533 hf530
        refine ⟨.inl (by decide), ?_⟩
        have hm536 := hm525.setOwn 0 _ rfl rfl ho531 hg532 hr533
        refine quiet0 [7] [] [2, 7, 8, 48] #[true, true, true, true, true, true, true, true, false, false] [(2, .int .u16 x2), (7, .string (bs r89)), (8, .string (bs r90)), (48, .agg #[.slice A526 (((([] : List Node) ++ x0.L) ++ x1.L).length) c527])] [] 2 rfl (by kernel_rfl) (fun _ _ _ _ _ h => nomatch h.1) hf530 (by kernel_rfl) trivial fun a537 hf538 => ?_
        refine all1 8 (by kernel_rfl) ?_
        refine opOf hf538 rfl (by kernel_rfl) (aNew (cs := [.slice none 0 0]) (T := 24) (d := 9) hf538 (by kernel_rfl) (by kernel_rfl) ?_)
        intro b539 w540 a541 hbb539 hx543 hg544 hf542
        refine ⟨.inr (Gr.still hg544), ?_⟩
        have hm545 := hm536.box hbb539 hx543 hg544
        refine all1 9 (by kernel_rfl) ?_
        refine opOf hf542 rfl (by kernel_rfl) (aStoreB (b := b539) (j := 0) (T := 24) (cs := [.slice none 0 0]) (us := [.slice A526 (((([] : List Node) ++ x0.L) ++ x1.L).length) c527]) (cs' := [.slice A526 (((([] : List Node) ++ x0.L) ++ x1.L).length) c527]) hf542 (by kernel_rfl) (hm545.bxAt 0 rfl) (by kernel_rfl) (by kernel_rfl) (by kernel_rfl) ?_)
        intro w546 hx547 hg548
        refine ⟨.inl (by decide), ?_⟩
        have hm549 := hm545.setBox 0 _ rfl rfl hx547 hg548
        refine allDone (by kernel_rfl) ⟨rfl, b539, A526, c527, hf542.sel (l := [2, 7, 8, 9]) (by kernel_rfl), hm549.sel [0, 1] _ rfl (by kernel_rfl)⟩
      · refine opOf hf524 rfl (by kernel_rfl) (aNew (cs := [.slice none 0 0]) (T := 24) (d := 9) hf524 (by kernel_rfl) (by kernel_rfl) ?_)
        intro b550 w551 a552 hbb550 hx554 hg555 hf553
        refine ⟨.inr (Gr.still hg555), ?_⟩
        have hm556 := hm525.box hbb550 hx554 hg555
        refine all1 6 (by kernel_rfl) ?_
        have e565 : (([] : List Node) ++ x0.L).length = (([] : List Node) ++ x0.L).length := rfl
        have e566 : x1.L.length = x1.L.length := rfl
        refine opOf hf553 rfl (by kernel_rfl) (aApp (kd := kNode) (base := 0) (E := 49) (A := A211) (B := A1_0) (c := c212) (c2 := c1_0) (xs := (([] : List Node) ++ x0.L)) (ys := x1.L) (k := ((([] : List Node) ++ x0.L).length)) (m := x1.L.length) (sz := 7) (d := 47) hf553 (by kernel_rfl) e565 e566 (by kernel_rfl) rfl (by kernel_rfl) (hm556.at 1 rfl) (hm556.at2 1 4 rfl rfl).2 (hm556.cpAt 4 rfl) (Nat.zero_le _) (by have := g155; omega) ?_)
        intro A557 c558 w559 a560 ho562 hg563 hr564 hf561
        refine ⟨.inl (by decide), ?_⟩
        have hm567 := hm556.setOwn 1 _ rfl rfl ho562 hg563 hr564
        refine quiet0 [7] [] [2, 7, 8, 9, 48] #[true, true, true, true, true, true, true, true, true, false] [(2, .int .u16 x2), (7, .string (bs r89)), (8, .string (bs r90)), (9, .pointer (some ⟨b550, 0, none⟩)), (48, .agg #[.slice A557 (((([] : List Node) ++ x0.L) ++ x1.L).length) c558])] [] 1 rfl (by kernel_rfl) (fun _ _ _ _ _ h => nomatch h.1) hf561 (by kernel_rfl) trivial fun a568 hf569 => ?_
        refine all1 9 (by kernel_rfl) ?_
        refine opOf hf569 rfl (by kernel_rfl) (aStoreB (b := b550) (j := 0) (T := 24) (cs := [.slice none 0 0]) (us := [.slice A557 (((([] : List Node) ++ x0.L) ++ x1.L).length) c558]) (cs' := [.slice A557 (((([] : List Node) ++ x0.L) ++ x1.L).length) c558]) hf569 (by kernel_rfl) (hm567.bxAt 0 rfl) (by kernel_rfl) (by kernel_rfl) (by kernel_rfl) ?_)
        intro w570 hx571 hg572
        refine ⟨.inl (by decide), ?_⟩
        have hm573 := hm567.setBox 0 _ rfl rfl hx571 hg572
        refine allDone (by kernel_rfl) ⟨rfl, b550, A557, c558, hf569.sel (l := [2, 7, 8, 9]) (by kernel_rfl), hm573.sel [0, 1] _ rfl (by kernel_rfl)⟩
    refine memoStep (R := fun (a : Act) (w : World) => ∃ (A211 : Option Addr) (c212 : Nat), Fr 82 a [(2, .int .u16 x2), (7, .string (bs r89)), (8, .string (bs r90)), (43, .slice A0_0 x0.L.length c0_0), (44, .slice A211 ((([] : List Node) ++ x0.L).length) c212), (45, .pointer (some ⟨b28, 0, none⟩))] ∧ Mem [] M w0 [.ow kNode 49 A211 c212 (([] : List Node) ++ x0.L), .bx b28 [.slice A1_0 x1.L.length c1_0] 24, .sl kNode A0_0 c0_0 x0.L, .sl kNode A1_0 c1_0 x1.L] w) #[true, true, true, true, true, false, false, false, false, false] 5 ?_ fun L574 => ?_
    · rintro a575 w576 ⟨A211, c212, hf577, hm578⟩
      refine all2 5 8 (by kernel_rfl) ?_ ?_
      · refine opOf hf577 rfl (by kernel_rfl) (aOne [.slice A1_0 x1.L.length c1_0] (.slice A1_0 x1.L.length c1_0) [.cell ⟨b28, 0, none⟩ (.slice A1_0 x1.L.length c1_0)] 46 hf577 (by kernel_rfl) rfl (by kernel_rfl) ⟨(hm578.cell 1 rfl rfl), trivial⟩ fun a579 hf580 => ?_)
        refine ⟨.inr (Gr.refl _ _), ?_⟩
        exact L521 _ _ ⟨A211, c212, hf580.sel (l := [2, 7, 8, 43, 44, 45, 46]) (by kernel_rfl), hm578.sel [0, 1, 2, 3] _ rfl (by kernel_rfl)⟩
      · refine opOf hf577 rfl (by kernel_rfl) (aNew (cs := [.slice none 0 0]) (T := 24) (d := 9) hf577 (by kernel_rfl) (by kernel_rfl) ?_)
        intro b581 w582 a583 hbb581 hx585 hg586 hf584
        refine ⟨.inr (Gr.still hg586), ?_⟩
        have hm587 := hm578.box hbb581 hx585 hg586
        refine all1 5 (by kernel_rfl) ?_
        refine opOf hf584 rfl (by kernel_rfl) (aOne [.slice A1_0 x1.L.length c1_0] (.slice A1_0 x1.L.length c1_0) [.cell ⟨b28, 0, none⟩ (.slice A1_0 x1.L.length c1_0)] 46 hf584 (by kernel_rfl) rfl (by kernel_rfl) ⟨(hm587.cell 2 rfl rfl), trivial⟩ fun a588 hf589 => ?_)
        refine ⟨.inr (Gr.refl _ _), ?_⟩
        refine all1 6 (by kernel_rfl) ?_
        have e598 : (([] : List Node) ++ x0.L).length = (([] : List Node) ++ x0.L).length := rfl
        have e599 : x1.L.length = x1.L.length := rfl
        refine opOf hf589 rfl (by kernel_rfl) (aApp (kd := kNode) (base := 0) (E := 49) (A := A211) (B := A1_0) (c := c212) (c2 := c1_0) (xs := (([] : List Node) ++ x0.L)) (ys := x1.L) (k := ((([] : List Node) ++ x0.L).length)) (m := x1.L.length) (sz := 7) (d := 47) hf589 (by kernel_rfl) e598 e599 (by kernel_rfl) rfl (by kernel_rfl) (hm587.at 1 rfl) (hm587.at2 1 4 rfl rfl).2 (hm587.cpAt 4 rfl) (Nat.zero_le _) (by have := g155; omega) ?_)
        intro A590 c591 w592 a593 ho595 hg596 hr597 hf594
        refine ⟨.inl (by decide), ?_⟩
        have hm600 := hm587.setOwn 1 _ rfl rfl ho595 hg596 hr597
        refine quiet0 [7] [] [2, 7, 8, 9, 48] #[true, true, true, true, true, true, true, true, true, false] [(2, .int .u16 x2), (7, .string (bs r89)), (8, .string (bs r90)), (9, .pointer (some ⟨b581, 0, none⟩)), (48, .agg #[.slice A590 (((([] : List Node) ++ x0.L) ++ x1.L).length) c591])] [] 1 rfl (by kernel_rfl) (fun _ _ _ _ _ h => nomatch h.1) hf594 (by kernel_rfl) trivial fun a601 hf602 => ?_
        refine all1 9 (by kernel_rfl) ?_
        refine opOf hf602 rfl (by kernel_rfl) (aStoreB (b := b581) (j := 0) (T := 24) (cs := [.slice none 0 0]) (us := [.slice A590 (((([] : List Node) ++ x0.L) ++ x1.L).length) c591]) (cs' := [.slice A590 (((([] : List Node) ++ x0.L) ++ x1.L).length) c591]) hf602 (by kernel_rfl) (hm600.bxAt 0 rfl) (by kernel_rfl) (by kernel_rfl) (by kernel_rfl) ?_)
        intro w603 hx604 hg605
        refine ⟨.inl (by decide), ?_⟩
        have hm606 := hm600.setBox 0 _ rfl rfl hx604 hg605
        refine allDone (by kernel_rfl) ⟨rfl, b581, A590, c591, hf602.sel (l := [2, 7, 8, 9]) (by kernel_rfl), hm606.sel [0, 1] _ rfl (by kernel_rfl)⟩
    refine memoStep (R := fun (a : Act) (w : World) => ∃ (b203 : Nat), Fr 82 a [(2, .int .u16 x2), (7, .string (bs r89)), (8, .string (bs r90)), (41, .slice (some ⟨b203, 0, none⟩) 0 0), (43, .slice A0_0 x0.L.length c0_0), (45, .pointer (some ⟨b28, 0, none⟩)), (46, .slice A1_0 x1.L.length c1_0)] ∧ Mem [] M w0 [.ow kNode 49 (some ⟨b203, 0, none⟩) 0 ([] : List Node), .bx b28 [.slice A1_0 x1.L.length c1_0] 24, .sl kNode A0_0 c0_0 x0.L, .sl kNode A1_0 c1_0 x1.L] w) #[true, true, true, false, true, true, false, false, false, false] 5 ?_ fun L607 => ?_
    · rintro a608 w609 ⟨b203, hf610, hm611⟩
      refine all2 3 8 (by kernel_rfl) ?_ ?_
      · have e620 : 0 = ([] : List Node).length := rfl
        have e621 : x0.L.length = x0.L.length := rfl
        refine opOf hf610 rfl (by kernel_rfl) (aApp (kd := kNode) (base := 0) (E := 49) (A := (some ⟨b203, 0, none⟩)) (B := A0_0) (c := 0) (c2 := c0_0) (xs := ([] : List Node)) (ys := x0.L) (k := 0) (m := x0.L.length) (sz := 7) (d := 44) hf610 (by kernel_rfl) e620 e621 (by kernel_rfl) rfl (by kernel_rfl) (hm611.at 0 rfl) (hm611.at2 0 2 rfl rfl).2 (hm611.cpAt 2 rfl) (Nat.zero_le _) (by have := g154; omega) ?_)
        intro A612 c613 w614 a615 ho617 hg618 hr619 hf616
        refine ⟨.inl (by decide), ?_⟩
        have hm622 := hm611.setOwn 0 _ rfl rfl ho617 hg618 hr619
        exact L521 _ _ ⟨A612, c613, hf616.sel (l := [2, 7, 8, 43, 44, 45, 46]) (by kernel_rfl), hm622.sel [0, 1, 2, 3] _ rfl (by kernel_rfl)⟩
      · refine opOf hf610 rfl (by kernel_rfl) (aNew (cs := [.slice none 0 0]) (T := 24) (d := 9) hf610 (by kernel_rfl) (by kernel_rfl) ?_)
        intro b623 w624 a625 hbb623 hx627 hg628 hf626
        refine ⟨.inr (Gr.still hg628), ?_⟩
        have hm629 := hm611.box hbb623 hx627 hg628
        refine all1 3 (by kernel_rfl) ?_
        have e638 : 0 = ([] : List Node).length := rfl
        have e639 : x0.L.length = x0.L.length := rfl
        refine opOf hf626 rfl (by kernel_rfl) (aApp (kd := kNode) (base := 0) (E := 49) (A := (some ⟨b203, 0, none⟩)) (B := A0_0) (c := 0) (c2 := c0_0) (xs := ([] : List Node)) (ys := x0.L) (k := 0) (m := x0.L.length) (sz := 7) (d := 44) hf626 (by kernel_rfl) e638 e639 (by kernel_rfl) rfl (by kernel_rfl) (hm629.at 1 rfl) (hm629.at2 1 3 rfl rfl).2 (hm629.cpAt 3 rfl) (Nat.zero_le _) (by have := g154; omega) ?_)
        intro A630 c631 w632 a633 ho635 hg636 hr637 hf634
        refine ⟨.inl (by decide), ?_⟩
        have hm640 := hm629.setOwn 1 _ rfl rfl ho635 hg636 hr637
        refine all1 6 (by kernel_rfl) ?_
        have e649 : (([] : List Node) ++ x0.L).length = (([] : List Node) ++ x0.L).length := rfl
        have e650 : x1.L.length = x1.L.length := rfl
        refine opOf hf634 rfl (by kernel_rfl) (aApp (kd := kNode) (base := 0) (E := 49) (A := A630) (B := A1_0) (c := c631) (c2 := c1_0) (xs := (([] : List Node) ++ x0.L)) (ys := x1.L) (k := ((([] : List Node) ++ x0.L).length)) (m := x1.L.length) (sz := 7) (d := 47) hf634 (by kernel_rfl) e649 e650 (by kernel_rfl) rfl (by kernel_rfl) (hm640.at 1 rfl) (hm640.at2 1 4 rfl rfl).2 (hm640.cpAt 4 rfl) (Nat.zero_le _) (by have := g155; omega) ?_)
        intro A641 c642 w643 a644 ho646 hg647 hr648 hf645
        refine ⟨.inl (by decide), ?_⟩
        have hm651 := hm640.setOwn 1 _ rfl rfl ho646 hg647 hr648
        refine quiet0 [7] [] [2, 7, 8, 9, 48] #[true, true, true, true, true, true, true, true, true, false] [(2, .int .u16 x2), (7, .string (bs r89)), (8, .string (bs r90)), (9, .pointer (some ⟨b623, 0, none⟩)), (48, .agg #[.slice A641 (((([] : List Node) ++ x0.L) ++ x1.L).length) c642])] [] 1 rfl (by kernel_rfl) (fun _ _ _ _ _ h => nomatch h.1) hf645 (by kernel_rfl) trivial fun a652 hf653 => ?_
        refine all1 9 (by kernel_rfl) ?_
        refine opOf hf653 rfl (by kernel_rfl) (aStoreB (b := b623) (j := 0) (T := 24) (cs := [.slice none 0 0]) (us := [.slice A641 (((([] : List Node) ++ x0.L) ++ x1.L).length) c642]) (cs' := [.slice A641 (((([] : List Node) ++ x0.L) ++ x1.L).length) c642]) hf653 (by kernel_rfl) (hm651.bxAt 0 rfl) (by kernel_rfl) (by kernel_rfl) (by kernel_rfl) ?_)
        intro w654 hx655 hg656
        refine ⟨.inl (by decide), ?_⟩
        have hm657 := hm651.setBox 0 _ rfl rfl hx655 hg656
        refine allDone (by kernel_rfl) ⟨rfl, b623, A641, c642, hf653.sel (l := [2, 7, 8, 9]) (by kernel_rfl), hm657.sel [0, 1] _ rfl (by kernel_rfl)⟩
    refine memoStep (R := fun (a : Act) (w : World) => ∃ (b349 : Nat) (b203 : Nat), Fr 82 a [(2, .int .u16 x2), (7, .string (bs r89)), (8, .string (bs r90)), (9, .pointer (some ⟨b349, 0, none⟩)), (41, .slice (some ⟨b203, 0, none⟩) 0 0), (43, .slice A0_0 x0.L.length c0_0), (45, .pointer (some ⟨b28, 0, none⟩))] ∧ Mem [] M w0 [.bx b349 [.slice none 0 0] 24, .ow kNode 49 (some ⟨b203, 0, none⟩) 0 ([] : List Node), .bx b28 [.slice A1_0 x1.L.length c1_0] 24, .sl kNode A0_0 c0_0 x0.L, .sl kNode A1_0 c1_0 x1.L] w) #[true, true, true, false, true, false, false, false, true, false] 5 ?_ fun L658 => ?_
    · rintro a659 w660 ⟨b349, b203, hf661, hm662⟩
      refine all2 3 5 (by kernel_rfl) ?_ ?_
      · have e671 : 0 = ([] : List Node).length := rfl
        have e672 : x0.L.length = x0.L.length := rfl
        refine opOf hf661 rfl (by kernel_rfl) (aApp (kd := kNode) (base := 0) (E := 49) (A := (some ⟨b203, 0, none⟩)) (B := A0_0) (c := 0) (c2 := c0_0) (xs := ([] : List Node)) (ys := x0.L) (k := 0) (m := x0.L.length) (sz := 7) (d := 44) hf661 (by kernel_rfl) e671 e672 (by kernel_rfl) rfl (by kernel_rfl) (hm662.at 1 rfl) (hm662.at2 1 3 rfl rfl).2 (hm662.cpAt 3 rfl) (Nat.zero_le _) (by have := g154; omega) ?_)
        intro A663 c664 w665 a666 ho668 hg669 hr670 hf667
        refine ⟨.inl (by decide), ?_⟩
        have hm673 := hm662.setOwn 1 _ rfl rfl ho668 hg669 hr670
        refine all1 5 (by kernel_rfl) ?_
        refine opOf hf667 rfl (by kernel_rfl) (aOne [.slice A1_0 x1.L.length c1_0] (.slice A1_0 x1.L.length c1_0) [.cell ⟨b28, 0, none⟩ (.slice A1_0 x1.L.length c1_0)] 46 hf667 (by kernel_rfl) rfl (by kernel_rfl) ⟨(hm673.cell 2 rfl rfl), trivial⟩ fun a674 hf675 => ?_)
        refine ⟨.inr (Gr.refl _ _), ?_⟩
        refine all1 6 (by kernel_rfl) ?_
        have e684 : (([] : List Node) ++ x0.L).length = (([] : List Node) ++ x0.L).length := rfl
        have e685 : x1.L.length = x1.L.length := rfl
        refine opOf hf675 rfl (by kernel_rfl) (aApp (kd := kNode) (base := 0) (E := 49) (A := A663) (B := A1_0) (c := c664) (c2 := c1_0) (xs := (([] : List Node) ++ x0.L)) (ys := x1.L) (k := ((([] : List Node) ++ x0.L).length)) (m := x1.L.length) (sz := 7) (d := 47) hf675 (by kernel_rfl) e684 e685 (by kernel_rfl) rfl (by kernel_rfl) (hm673.at 1 rfl) (hm673.at2 1 4 rfl rfl).2 (hm673.cpAt 4 rfl) (Nat.zero_le _) (by have := g155; omega) ?_)
        intro A676 c677 w678 a679 ho681 hg682 hr683 hf680
        refine ⟨.inl (by decide), ?_⟩
        have hm686 := hm673.setOwn 1 _ rfl rfl ho681 hg682 hr683
        refine quiet0 [7] [] [2, 7, 8, 9, 48] #[true, true, true, true, true, true, true, true, true, false] [(2, .int .u16 x2), (7, .string (bs r89)), (8, .string (bs r90)), (9, .pointer (some ⟨b349, 0, none⟩)), (48, .agg #[.slice A676 (((([] : List Node) ++ x0.L) ++ x1.L).length) c677])] [] 1 rfl (by kernel_rfl) (fun _ _ _ _ _ h => nomatch h.1) hf680 (by kernel_rfl) trivial fun a687 hf688 => ?_
        refine all1 9 (by kernel_rfl) ?_
        refine opOf hf688 rfl (by kernel_rfl) (aStoreB (b := b349) (j := 0) (T := 24) (cs := [.slice none 0 0]) (us := [.slice A676 (((([] : List Node) ++ x0.L) ++ x1.L).length) c677]) (cs' := [.slice A676 (((([] : List Node) ++ x0.L) ++ x1.L).length) c677]) hf688 (by kernel_rfl) (hm686.bxAt 0 rfl) (by kernel_rfl) (by kernel_rfl) (by kernel_rfl) ?_)
        intro w689 hx690 hg691
        refine ⟨.inl (by decide), ?_⟩
        have hm692 := hm686.setBox 0 _ rfl rfl hx690 hg691
        refine allDone (by kernel_rfl) ⟨rfl, b349, A676, c677, hf688.sel (l := [2, 7, 8, 9]) (by kernel_rfl), hm692.sel [0, 1] _ rfl (by kernel_rfl)⟩
      · refine opOf hf661 rfl (by kernel_rfl) (aOne [.slice A1_0 x1.L.length c1_0] (.slice A1_0 x1.L.length c1_0) [.cell ⟨b28, 0, none⟩ (.slice A1_0 x1.L.length c1_0)] 46 hf661 (by kernel_rfl) rfl (by kernel_rfl) ⟨(hm662.cell 2 rfl rfl), trivial⟩ fun a693 hf694 => ?_)
        refine ⟨.inr (Gr.refl _ _), ?_⟩
        refine all1 3 (by kernel_rfl) ?_
        have e703 : 0 = ([] : List Node).length := rfl
        have e704 : x0.L.length = x0.L.length := rfl
        refine opOf hf694 rfl (by kernel_rfl) (aApp (kd := kNode) (base := 0) (E := 49) (A := (some ⟨b203, 0, none⟩)) (B := A0_0) (c := 0) (c2 := c0_0) (xs := ([] : List Node)) (ys := x0.L) (k := 0) (m := x0.L.length) (sz := 7) (d := 44) hf694 (by kernel_rfl) e703 e704 (by kernel_rfl) rfl (by kernel_rfl) (hm662.at 1 rfl) (hm662.at2 1 3 rfl rfl).2 (hm662.cpAt 3 rfl) (Nat.zero_le _) (by have := g154; omega) ?_)
        intro A695 c696 w697 a698 ho700 hg701 hr702 hf699
        refine ⟨.inl (by decide), ?_⟩
        have hm705 := hm662.setOwn 1 _ rfl rfl ho700 hg701 hr702
        refine all1 6 (by kernel_rfl) ?_
        have e714 : (([] : List Node) ++ x0.L).length = (([] : List Node) ++ x0.L).length := rfl
        have e715 : x1.L.length = x1.L.length := rfl
        refine opOf hf699 rfl (by kernel_rfl) (aApp (kd := kNode) (base := 0) (E := 49) (A := A695) (B := A1_0) (c := c696) (c2 := c1_0) (xs := (([] : List Node) ++ x0.L)) (ys := x1.L) (k := ((([] : List Node) ++ x0.L).length)) (m := x1.L.length) (sz := 7) (d := 47) hf699 (by kernel_rfl) e714 e715 (by kernel_rfl) rfl (by kernel_rfl) (hm705.at 1 rfl) (hm705.at2 1 4 rfl rfl).2 (hm705.cpAt 4 rfl) (Nat.zero_le _) (by have := g155; omega) ?_)
        intro A706 c707 w708 a709 ho711 hg712 hr713 hf710
        refine ⟨.inl (by decide), ?_⟩
        have hm716 := hm705.setOwn 1 _ rfl rfl ho711 hg712 hr713
        refine quiet0 [7] [] [2, 7, 8, 9, 48] #[true, true, true, true, true, true, true, true, true, false] [(2, .int .u16 x2), (7, .string (bs r89)), (8, .string (bs r90)), (9, .pointer (some ⟨b349, 0, none⟩)), (48, .agg #[.slice A706 (((([] : List Node) ++ x0.L) ++ x1.L).length) c707])] [] 1 rfl (by kernel_rfl) (fun _ _ _ _ _ h => nomatch h.1) hf710 (by kernel_rfl) trivial fun a717 hf718 => ?_
        refine all1 9 (by kernel_rfl) ?_
        refine opOf hf718 rfl (by kernel_rfl) (aStoreB (b := b349) (j := 0) (T := 24) (cs := [.slice none 0 0]) (us := [.slice A706 (((([] : List Node) ++ x0.L) ++ x1.L).length) c707]) (cs' := [.slice A706 (((([] : List Node) ++ x0.L) ++ x1.L).length) c707]) hf718 (by kernel_rfl) (hm716.bxAt 0 rfl) (by kernel_rfl) (by kernel_rfl) (by kernel_rfl) ?_)
        intro w719 hx720 hg721
        refine ⟨.inl (by decide), ?_⟩
        have hm722 := hm716.setBox 0 _ rfl rfl hx720 hg721
        refine allDone (by kernel_rfl) ⟨rfl, b349, A706, c707, hf718.sel (l := [2, 7, 8, 9]) (by kernel_rfl), hm722.sel [0, 1] _ rfl (by kernel_rfl)⟩
    refine memoStep (R := fun (a : Act) (w : World) => ∃ (b203 : Nat), Fr 82 a [(2, .int .u16 x2), (7, .string (bs r89)), (8, .string (bs r90)), (41, .slice (some ⟨b203, 0, none⟩) 0 0), (43, .slice A0_0 x0.L.length c0_0), (45, .pointer (some ⟨b28, 0, none⟩))] ∧ Mem [] M w0 [.ow kNode 49 (some ⟨b203, 0, none⟩) 0 ([] : List Node), .bx b28 [.slice A1_0 x1.L.length c1_0] 24, .sl kNode A0_0 c0_0 x0.L, .sl kNode A1_0 c1_0 x1.L] w) #[true, true, true, false, true, false, false, false, false, false] 6 ?_ fun L723 => ?_
    · rintro a724 w725 ⟨b203, hf726, hm727⟩
      refine all3 3 5 8 (by kernel_rfl) ?_ ?_ ?_
      · have e736 : 0 = ([] : List Node).length := rfl
        have e737 : x0.L.length = x0.L.length := rfl
        refine opOf hf726 rfl (by kernel_rfl) (aApp (kd := kNode) (base := 0) (E := 49) (A := (some ⟨b203, 0, none⟩)) (B := A0_0) (c := 0) (c2 := c0_0) (xs := ([] : List Node)) (ys := x0.L) (k := 0) (m := x0.L.length) (sz := 7) (d := 44) hf726 (by kernel_rfl) e736 e737 (by kernel_rfl) rfl (by kernel_rfl) (hm727.at 0 rfl) (hm727.at2 0 2 rfl rfl).2 (hm727.cpAt 2 rfl) (Nat.zero_le _) (by have := g154; omega) ?_)
        intro A728 c729 w730 a731 ho733 hg734 hr735 hf732
        refine ⟨.inl (by decide), ?_⟩
        have hm738 := hm727.setOwn 0 _ rfl rfl ho733 hg734 hr735
        exact L574 _ _ ⟨A728, c729, hf732.sel (l := [2, 7, 8, 43, 44, 45]) (by kernel_rfl), hm738.sel [0, 1, 2, 3] _ rfl (by kernel_rfl)⟩
      · refine opOf hf726 rfl (by kernel_rfl) (aOne [.slice A1_0 x1.L.length c1_0] (.slice A1_0 x1.L.length c1_0) [.cell ⟨b28, 0, none⟩ (.slice A1_0 x1.L.length c1_0)] 46 hf726 (by kernel_rfl) rfl (by kernel_rfl) ⟨(hm727.cell 1 rfl rfl), trivial⟩ fun a739 hf740 => ?_)
        refine ⟨.inr (Gr.refl _ _), ?_⟩
        exact L607 _ _ ⟨b203, hf740.sel (l := [2, 7, 8, 41, 43, 45, 46]) (by kernel_rfl), hm727.sel [0, 1, 2, 3] _ rfl (by kernel_rfl)⟩
      · refine opOf hf726 rfl (by kernel_rfl) (aNew (cs := [.slice none 0 0]) (T := 24) (d := 9) hf726 (by kernel_rfl) (by kernel_rfl) ?_)
        intro b741 w742 a743 hbb741 hx745 hg746 hf744
        refine ⟨.inr (Gr.still hg746), ?_⟩
        have hm747 := hm727.box hbb741 hx745 hg746
        exact L658 _ _ ⟨b741, b203, hf744.sel (l := [2, 7, 8, 9, 41, 43, 45]) (by kernel_rfl), hm747.sel [0, 1, 2, 3, 4] _ rfl (by kernel_rfl)⟩
    refine memoStep (R := fun (a : Act) (w : World) => Fr 82 a [(2, .int .u16 x2), (7, .string (bs r89)), (8, .string (bs r90)), (43, .slice A0_0 x0.L.length c0_0), (45, .pointer (some ⟨b28, 0, none⟩)), (46, .slice A1_0 x1.L.length c1_0)] ∧ Mem [] M w0 [.bx b28 [.slice A1_0 x1.L.length c1_0] 24, .sl kNode A0_0 c0_0 x0.L, .sl kNode A1_0 c1_0 x1.L] w) #[false, true, true, false, true, true, false, false, false, false] 6 ?_ fun L748 => ?_
    · rintro a749 w750 ⟨hf751, hm752⟩
      refine all2 0 8 (by kernel_rfl) ?_ ?_
      · refine opOf hf751 rfl (by kernel_rfl) (aLit (cs := []) (E := 49) (len := 0) (d := 41) hf751 (by kernel_rfl) (by kernel_rfl) ?_)
        intro b753 w754 a755 hbb753 hx757 hg758 hf756
        refine ⟨.inr (Gr.still hg758), ?_⟩
        have hm759 : Mem [] M w0 [.ow kNode 49 (some ⟨b753, 0, none⟩) 0 ([] : List Node), .bx b28 [.slice A1_0 x1.L.length c1_0] 24, .sl kNode A0_0 c0_0 x0.L, .sl kNode A1_0 c1_0 x1.L] w754 := Mem.litOwn (kd := kNode) (xs := ([] : List Node)) hm752 hbb753 hx757 hg758 (Els.nil) (by simp [maxLen])
        exact L607 _ _ ⟨b753, hf756.sel (l := [2, 7, 8, 41, 43, 45, 46]) (by kernel_rfl), hm759.sel [0, 1, 2, 3] _ rfl (by kernel_rfl)⟩
      · refine opOf hf751 rfl (by kernel_rfl) (aNew (cs := [.slice none 0 0]) (T := 24) (d := 9) hf751 (by kernel_rfl) (by kernel_rfl) ?_)
        intro b760 w761 a762 hbb760 hx764 hg765 hf763
        refine ⟨.inr (Gr.still hg765), ?_⟩
        have hm766 := hm752.box hbb760 hx764 hg765
        refine all1 0 (by kernel_rfl) ?_
        refine opOf hf763 rfl (by kernel_rfl) (aLit (cs := []) (E := 49) (len := 0) (d := 41) hf763 (by kernel_rfl) (by kernel_rfl) ?_)
        intro b767 w768 a769 hbb767 hx771 hg772 hf770
        refine ⟨.inr (Gr.still hg772), ?_⟩
        have hm773 : Mem [] M w0 [.ow kNode 49 (some ⟨b767, 0, none⟩) 0 ([] : List Node), .bx b760 [.slice none 0 0] 24, .bx b28 [.slice A1_0 x1.L.length c1_0] 24, .sl kNode A0_0 c0_0 x0.L, .sl kNode A1_0 c1_0 x1.L] w768 := Mem.litOwn (kd := kNode) (xs := ([] : List Node)) hm766 hbb767 hx771 hg772 (Els.nil) (by simp [maxLen])
        refine all1 3 (by kernel_rfl) ?_
        have e782 : 0 = ([] : List Node).length := rfl
        have e783 : x0.L.length = x0.L.length := rfl
        refine opOf hf770 rfl (by kernel_rfl) (aApp (kd := kNode) (base := 0) (E := 49) (A := (some ⟨b767, 0, none⟩)) (B := A0_0) (c := 0) (c2 := c0_0) (xs := ([] : List Node)) (ys := x0.L) (k := 0) (m := x0.L.length) (sz := 7) (d := 44) hf770 (by kernel_rfl) e782 e783 (by kernel_rfl) rfl (by kernel_rfl) (hm773.at 0 rfl) (hm773.at2 0 3 rfl rfl).2 (hm773.cpAt 3 rfl) (Nat.zero_le _) (by have := g154; omega) ?_)
        intro A774 c775 w776 a777 ho779 hg780 hr781 hf778
        refine ⟨.inl (by decide), ?_⟩
        have hm784 := hm773.setOwn 0 _ rfl rfl ho779 hg780 hr781
        refine all1 6 (by kernel_rfl) ?_
        have e793 : (([] : List Node) ++ x0.L).length = (([] : List Node) ++ x0.L).length := rfl
        have e794 : x1.L.length = x1.L.length := rfl
        refine opOf hf778 rfl (by kernel_rfl) (aApp (kd := kNode) (base := 0) (E := 49) (A := A774) (B := A1_0) (c := c775) (c2 := c1_0) (xs := (([] : List Node) ++ x0.L)) (ys := x1.L) (k := ((([] : List Node) ++ x0.L).length)) (m := x1.L.length) (sz := 7) (d := 47) hf778 (by kernel_rfl) e793 e794 (by kernel_rfl) rfl (by kernel_rfl) (hm784.at 0 rfl) (hm784.at2 0 4 rfl rfl).2 (hm784.cpAt 4 rfl) (Nat.zero_le _) (by have := g155; omega) ?_)
        intro A785 c786 w787 a788 ho790 hg791 hr792 hf789
        refine ⟨.inl (by decide), ?_⟩
        have hm795 := hm784.setOwn 0 _ rfl rfl ho790 hg791 hr792
        refine quiet0 [7] [] [2, 7, 8, 9, 48] #[true, true, true, true, true, true, true, true, true, false] [(2, .int .u16 x2), (7, .string (bs r89)), (8, .string (bs r90)), (9, .pointer (some ⟨b760, 0, none⟩)), (48, .agg #[.slice A785 (((([] : List Node) ++ x0.L) ++ x1.L).length) c786])] [] 1 rfl (by kernel_rfl) (fun _ _ _ _ _ h => nomatch h.1) hf789 (by kernel_rfl) trivial fun a796 hf797 => ?_
        refine all1 9 (by kernel_rfl) ?_
        refine opOf hf797 rfl (by kernel_rfl) (aStoreB (b := b760) (j := 0) (T := 24) (cs := [.slice none 0 0]) (us := [.slice A785 (((([] : List Node) ++ x0.L) ++ x1.L).length) c786]) (cs' := [.slice A785 (((([] : List Node) ++ x0.L) ++ x1.L).length) c786]) hf797 (by kernel_rfl) (hm795.bxAt 1 rfl) (by kernel_rfl) (by kernel_rfl) (by kernel_rfl) ?_)
        intro w798 hx799 hg800
        refine ⟨.inl (by decide), ?_⟩
        have hm801 := hm795.setBox 1 _ rfl rfl hx799 hg800
        refine allDone (by kernel_rfl) ⟨rfl, b760, A785, c786, hf797.sel (l := [2, 7, 8, 9]) (by kernel_rfl), hm801.sel [1, 0] _ rfl (by kernel_rfl)⟩
    refine memoStep (R := fun (a : Act) (w : World) => ∃ (b469 : Nat), Fr 82 a [(2, .int .u16 x2), (7, .string (bs r89)), (8, .string (bs r90)), (9, .pointer (some ⟨b469, 0, none⟩)), (43, .slice A0_0 x0.L.length c0_0), (45, .pointer (some ⟨b28, 0, none⟩))] ∧ Mem [] M w0 [.bx b469 [.slice none 0 0] 24, .bx b28 [.slice A1_0 x1.L.length c1_0] 24, .sl kNode A0_0 c0_0 x0.L, .sl kNode A1_0 c1_0 x1.L] w) #[false, true, true, false, true, false, false, false, true, false] 6 ?_ fun L802 => ?_
    · rintro a803 w804 ⟨b469, hf805, hm806⟩
      refine all2 0 5 (by kernel_rfl) ?_ ?_
      · refine opOf hf805 rfl (by kernel_rfl) (aLit (cs := []) (E := 49) (len := 0) (d := 41) hf805 (by kernel_rfl) (by kernel_rfl) ?_)
        intro b807 w808 a809 hbb807 hx811 hg812 hf810
        refine ⟨.inr (Gr.still hg812), ?_⟩
        have hm813 : Mem [] M w0 [.ow kNode 49 (some ⟨b807, 0, none⟩) 0 ([] : List Node), .bx b469 [.slice none 0 0] 24, .bx b28 [.slice A1_0 x1.L.length c1_0] 24, .sl kNode A0_0 c0_0 x0.L, .sl kNode A1_0 c1_0 x1.L] w808 := Mem.litOwn (kd := kNode) (xs := ([] : List Node)) hm806 hbb807 hx811 hg812 (Els.nil) (by simp [maxLen])
        exact L658 _ _ ⟨b469, b807, hf810.sel (l := [2, 7, 8, 9, 41, 43, 45]) (by kernel_rfl), hm813.sel [1, 0, 2, 3, 4] _ rfl (by kernel_rfl)⟩
      · refine opOf hf805 rfl (by kernel_rfl) (aOne [.slice A1_0 x1.L.length c1_0] (.slice A1_0 x1.L.length c1_0) [.cell ⟨b28, 0, none⟩ (.slice A1_0 x1.L.length c1_0)] 46 hf805 (by kernel_rfl) rfl (by kernel_rfl) ⟨(hm806.cell 1 rfl rfl), trivial⟩ fun a814 hf815 => ?_)
        refine ⟨.inr (Gr.refl _ _), ?_⟩
        refine all1 0 (by kernel_rfl) ?_
        refine opOf hf815 rfl (by kernel_rfl) (aLit (cs := []) (E := 49) (len := 0) (d := 41) hf815 (by kernel_rfl) (by kernel_rfl) ?_)
        intro b816 w817 a818 hbb816 hx820 hg821 hf819
        refine ⟨.inr (Gr.still hg821), ?_⟩
        have hm822 : Mem [] M w0 [.ow kNode 49 (some ⟨b816, 0, none⟩) 0 ([] : List Node), .bx b469 [.slice none 0 0] 24, .bx b28 [.slice A1_0 x1.L.length c1_0] 24, .sl kNode A0_0 c0_0 x0.L, .sl kNode A1_0 c1_0 x1.L] w817 := Mem.litOwn (kd := kNode) (xs := ([] : List Node)) hm806 hbb816 hx820 hg821 (Els.nil) (by simp [maxLen])
        refine all1 3 (by kernel_rfl) ?_
        have e831 : 0 = ([] : List Node).length := rfl
        have e832 : x0.L.length = x0.L.length := rfl
        refine opOf hf819 rfl (by kernel_rfl) (aApp (kd := kNode) (base := 0) (E := 49) (A := (some ⟨b816, 0, none⟩)) (B := A0_0) (c := 0) (c2 := c0_0) (xs := ([] : List Node)) (ys := x0.L) (k := 0) (m := x0.L.length) (sz := 7) (d := 44) hf819 (by kernel_rfl) e831 e832 (by kernel_rfl) rfl (by kernel_rfl) (hm822.at 0 rfl) (hm822.at2 0 3 rfl rfl).2 (hm822.cpAt 3 rfl) (Nat.zero_le _) (by have := g154; omega) ?_)
        intro A823 c824 w825 a826 ho828 hg829 hr830 hf827
        refine ⟨.inl (by decide), ?_⟩
        have hm833 := hm822.setOwn 0 _ rfl rfl ho828 hg829 hr830
        refine all1 6 (by kernel_rfl) ?_
        have e842 : (([] : List Node) ++ x0.L).length = (([] : List Node) ++ x0.L).length := rfl
        have e843 : x1.L.length = x1.L.length := rfl
        refine opOf hf827 rfl (by kernel_rfl) (aApp (kd := kNode) (base := 0) (E := 49) (A := A823) (B := A1_0) (c := c824) (c2 := c1_0) (xs := (([] : List Node) ++ x0.L)) (ys := x1.L) (k := ((([] : List Node) ++ x0.L).length)) (m := x1.L.length) (sz := 7) (d := 47) hf827 (by kernel_rfl) e842 e843 (by kernel_rfl) rfl (by kernel_rfl) (hm833.at 0 rfl) (hm833.at2 0 4 rfl rfl).2 (hm833.cpAt 4 rfl) (Nat.zero_le _) (by have := g155; omega) ?_)
        intro A834 c835 w836 a837 ho839 hg840 hr841 hf838
        refine ⟨.inl (by decide), ?_⟩
        have hm844 := hm833.setOwn 0 _ rfl rfl ho839 hg840 hr841
        refine quiet0 [7] [] [2, 7, 8, 9, 48] #[true, true, true, true, true, true, true, true, true, false] [(2, .int .u16 x2), (7, .string (bs r89)), (8, .string (bs r90)), (9, .pointer (some ⟨b469, 0, none⟩)), (48, .agg #[.slice A834 (((([] : List Node) ++ x0.L) ++ x1.L).length) c835])] [] 1 rfl (by kernel_rfl) (fun _ _ _ _ _ h => nomatch h.1) hf838 (by kernel_rfl) trivial fun a845 hf846 => ?_
        refine all1 9 (by kernel_rfl) ?_
        refine opOf hf846 rfl (by kernel_rfl) (aStoreB (b := b469) (j := 0) (T := 24) (cs := [.slice none 0 0]) (us := [.slice A834 (((([] : List Node) ++ x0.L) ++ x1.L).length) c835]) (cs' := [.slice A834 (((([] : List Node) ++ x0.L) ++ x1.L).length) c835]) hf846 (by kernel_rfl) (hm844.bxAt 1 rfl) (by kernel_rfl) (by kernel_rfl) (by kernel_rfl) ?_)
        intro w847 hx848 hg849
        refine ⟨.inl (by decide), ?_⟩
        have hm850 := hm844.setBox 1 _ rfl rfl hx848 hg849
        refine allDone (by kernel_rfl) ⟨rfl, b469, A834, c835, hf846.sel (l := [2, 7, 8, 9]) (by kernel_rfl), hm850.sel [1, 0] _ rfl (by kernel_rfl)⟩
    refine memoStep (R := fun (a : Act) (w : World) => Fr 82 a [(2, .int .u16 x2), (7, .string (bs r89)), (8, .string (bs r90)), (43, .slice A0_0 x0.L.length c0_0), (45, .pointer (some ⟨b28, 0, none⟩))] ∧ Mem [] M w0 [.bx b28 [.slice A1_0 x1.L.length c1_0] 24, .sl kNode A0_0 c0_0 x0.L, .sl kNode A1_0 c1_0 x1.L] w) #[false, true, true, false, true, false, false, false, false, false] 7 ?_ fun L851 => ?_
    · rintro a852 w853 ⟨hf854, hm855⟩
      refine all3 0 5 8 (by kernel_rfl) ?_ ?_ ?_
      · refine opOf hf854 rfl (by kernel_rfl) (aLit (cs := []) (E := 49) (len := 0) (d := 41) hf854 (by kernel_rfl) (by kernel_rfl) ?_)
        intro b856 w857 a858 hbb856 hx860 hg861 hf859
        refine ⟨.inr (Gr.still hg861), ?_⟩
        have hm862 : Mem [] M w0 [.ow kNode 49 (some ⟨b856, 0, none⟩) 0 ([] : List Node), .bx b28 [.slice A1_0 x1.L.length c1_0] 24, .sl kNode A0_0 c0_0 x0.L, .sl kNode A1_0 c1_0 x1.L] w857 := Mem.litOwn (kd := kNode) (xs := ([] : List Node)) hm855 hbb856 hx860 hg861 (Els.nil) (by simp [maxLen])
        exact L723 _ _ ⟨b856, hf859.sel (l := [2, 7, 8, 41, 43, 45]) (by kernel_rfl), hm862.sel [0, 1, 2, 3] _ rfl (by kernel_rfl)⟩
      · refine opOf hf854 rfl (by kernel_rfl) (aOne [.slice A1_0 x1.L.length c1_0] (.slice A1_0 x1.L.length c1_0) [.cell ⟨b28, 0, none⟩ (.slice A1_0 x1.L.length c1_0)] 46 hf854 (by kernel_rfl) rfl (by kernel_rfl) ⟨(hm855.cell 0 rfl rfl), trivial⟩ fun a863 hf864 => ?_)
        refine ⟨.inr (Gr.refl _ _), ?_⟩
        exact L748 _ _ ⟨hf864.sel (l := [2, 7, 8, 43, 45, 46]) (by kernel_rfl), hm855.sel [0, 1, 2] _ rfl (by kernel_rfl)⟩
      · refine opOf hf854 rfl (by kernel_rfl) (aNew (cs := [.slice none 0 0]) (T := 24) (d := 9) hf854 (by kernel_rfl) (by kernel_rfl) ?_)
        intro b865 w866 a867 hbb865 hx869 hg870 hf868
        refine ⟨.inr (Gr.still hg870), ?_⟩
        have hm871 := hm855.box hbb865 hx869 hg870
        exact L802 _ _ ⟨b865, hf868.sel (l := [2, 7, 8, 9, 43, 45]) (by kernel_rfl), hm871.sel [0, 1, 2, 3] _ rfl (by kernel_rfl)⟩
    refine quiet0 [1, 2, 4] [.slice A0_0 x0.L.length c0_0] [2, 7, 8, 43, 45] #[false, true, true, false, true, false, false, false, false, false] [(2, .int .u16 x2), (7, .string (bs r89)), (8, .string (bs r90)), (43, .slice A0_0 x0.L.length c0_0), (45, .pointer (some ⟨b28, 0, none⟩))] [.cell ⟨b21, 0, none⟩ (.slice A0_0 x0.L.length c0_0)] 7 rfl (by kernel_rfl) (fun _ _ _ _ _ h => nomatch h.1) hf153 (by kernel_rfl) ⟨(hm199.cell 1 rfl rfl), trivial⟩ fun a872 hf873 => ?_
    exact L851 _ _ ⟨hf873.sel (l := [2, 7, 8, 43, 45]) (by kernel_rfl), hm199.sel [0, 2, 3] _ rfl (by kernel_rfl)⟩
  rintro a874 w875 ⟨b185, A174, c175, hf876, hm877⟩
  refine thenN ?_
  refine wp_seq ?_
  obtain ⟨g878, H0⟩ := if_guard H0
  refine reg [] [7, 8, 9, 10] [(7, .string (bs r89)), (8, .string (bs r90)), (9, .pointer (some ⟨b185, 0, none⟩)), (10, .int .i64 (Int.tmod (w64 (x2)) (r89.length : Int)))] [.is ((r89.length : Int) ≠ 0)] hf876 (by kernel_rfl) ⟨g878, trivial⟩ fun a879 hf880 => ?_
  refine thenN ?_
  refine wp_seq ?_
  obtain ⟨g881, H0⟩ := if_guard H0
  obtain ⟨r882, hr882, H0⟩ := ob_split H0
  refine inReg ?_
  refine go 3 [] [7, 8, 9, 10, 57] [(7, .string (bs r89)), (8, .string (bs r90)), (9, .pointer (some ⟨b185, 0, none⟩)), (10, .int .i64 (Int.tmod (w64 (x2)) (r89.length : Int))), (57, .string (bs (slc r89 0 (Int.tmod (w64 (x2)) (r89.length : Int)))))] [.is (0 ≤ (Int.tmod (w64 (x2)) (r89.length : Int)) ∧ (Int.tmod (w64 (x2)) (r89.length : Int)) ≤ (r89.length : Int))] hf880 (by kernel_rfl) ⟨g881, trivial⟩ fun a883 hf884 => ?_
  refine listOf hf884 rfl (by kernel_rfl) (aCall (fid := 13) (args := [.string (bs (slc r89 0 (Int.tmod (w64 (x2)) (r89.length : Int))))]) (d := 58) hf884 (by kernel_rfl) (by kernel_rfl) callable13 (script_Read.calls _ _ (slc r89 0 (Int.tmod (w64 (x2)) (r89.length : Int))) (hm877.give [] [] rfl rfl) r882 hr882 (hG.at hm877)) ?_)
  rintro _ w887 a888 ⟨A885, c886, rfl, hk890⟩ hf889
  have hm891 := hm877.back hk890
  have hm892 := hm891.seal 0 _ rfl rfl
  refine go 3 [] [7, 8, 9, 10, 59, 60] [(7, .string (bs r89)), (8, .string (bs r90)), (9, .pointer (some ⟨b185, 0, none⟩)), (10, .int .i64 (Int.tmod (w64 (x2)) (r89.length : Int))), (59, .agg #[.slice A885 r882.1.L.length c886]), (60, .int .i64 r882.2)] [] hf889 (by kernel_rfl) trivial fun a893 hf894 => ?_
  refine listOf hf894 rfl (by kernel_rfl) (aNew (cs := [.slice none 0 0]) (T := 24) (d := 11) hf894 (by kernel_rfl) (by kernel_rfl) ?_)
  intro b895 w896 a897 hbb895 hx899 hg900 hf898
  have hm901 := hm892.box hbb895 hx899 hg900
  refine listOf hf898 rfl (by kernel_rfl) (aStoreB (b := b895) (j := 0) (T := 24) (cs := [.slice none 0 0]) (us := [.slice A885 r882.1.L.length c886]) (cs' := [.slice A885 r882.1.L.length c886]) hf898 (by kernel_rfl) (hm901.bxAt 0 rfl) (by kernel_rfl) (by kernel_rfl) (by kernel_rfl) ?_)
  intro w902 hx903 hg904
  have hm905 := hm901.setBox 0 _ rfl rfl hx903 hg904
  refine go 1 [] [7, 8, 9, 10, 12] [(7, .string (bs r89)), (8, .string (bs r90)), (9, .pointer (some ⟨b185, 0, none⟩)), (10, .int .i64 (Int.tmod (w64 (x2)) (r89.length : Int))), (12, .int .i64 r882.2)] [] hf898 (by kernel_rfl) trivial fun a906 hf907 => ?_
  refine endL rfl ?_
  have hm908 := hm905.sel [2, 3] _ rfl (by kernel_rfl)
  refine thenN ?_
  refine wp_seq ?_
  rcases if_split H0 with ⟨c909, H0⟩ | ⟨c909, H0⟩
  · refine reg [.bool true] [7, 8, 9, 12, 13] [(7, .string (bs r89)), (8, .string (bs r90)), (9, .pointer (some ⟨b185, 0, none⟩)), (12, .int .i64 r882.2), (13, .bool true)] [.is ((((Int.tmod (w64 (x2)) (r89.length : Int)) : Int) == 0) = true)] hf907 (by kernel_rfl) ⟨(eqT c909), trivial⟩ fun a910 hf911 => ?_
    refine thenN ?_
    refine wp_seq ?_
    obtain ⟨r912, hr912, H0⟩ := ob_split H0
    obtain ⟨g913, H0⟩ := if_guard H0
    rcases if_split H0 with ⟨c914, H0⟩ | ⟨c914, H0⟩
    rotate_left
    · refine inReg ?_
      refine go 1 [.agg #[.slice A174 (((([] : List Node) ++ x0.L) ++ x1.L).length) c175]] [7, 8, 12, 13, 70] [(7, .string (bs r89)), (8, .string (bs r90)), (12, .int .i64 r882.2), (13, .bool true), (70, .agg #[.slice A174 (((([] : List Node) ++ x0.L) ++ x1.L).length) c175])] [.cell ⟨b185, 0, none⟩ (.slice A174 (((([] : List Node) ++ x0.L) ++ x1.L).length) c175)] hf911 (by kernel_rfl) ⟨(hm908.cell 0 rfl rfl), trivial⟩ fun a942 hf943 => ?_
      have hm944 : Mem [] M w0 [.bx b185 [.slice A174 (((([] : List Node) ++ x0.L) ++ x1.L).length) c175] 24, .sl kNode A174 c175 ((([] : List Node) ++ x0.L) ++ x1.L)] w902 := hm908.seal 1 _ rfl rfl
      refine listOf hf943 rfl (by kernel_rfl) (aCall (fid := 11) (args := [.agg #[.slice A174 (((([] : List Node) ++ x0.L) ++ x1.L).length) c175]]) (d := 71) hf943 (by kernel_rfl) (by kernel_rfl) callable11 (script_Text.calls _ _ (⟨((([] : List Node) ++ x0.L) ++ x1.L)⟩ : Graph) A174 (((([] : List Node) ++ x0.L) ++ x1.L).length) c175 rfl (hm944.give [1] [.sl kNode A174 c175 ((([] : List Node) ++ x0.L) ++ x1.L)] rfl rfl) r912 hr912 (hG.at hm944)) ?_)
      rintro _ w945 a946 ⟨rfl, hk948⟩ hf947
      have hm949 := hm908.still hk948.cum.none
      refine go 11 [.string (bs (r89 ++ r90)), .bool false] [6] [(6, .bool false)] [.is (bs (r89 ++ r90) = bs r89 ++ bs r90 ∧ (bs r89).size + (bs r90).size ≤ 9223372036854775807), .is ((decide (bs r912 = bs (r89 ++ r90))) = false)] hf947 (by kernel_rfl) ⟨(catOk g913), (seF c914), trivial⟩ fun a950 hf951 => ?_
      refine endL rfl ?_
      have hm952 := hm949.sel [] _ rfl (by kernel_rfl)
      refine thenN ?_
      refine wp_ret ?_
      have hm953 : Mem [] M w0 [] w945 := hm952.sel [] _ rfl (by kernel_rfl)
      obtain rfl := Option.some.inj H0
      refine ret [] [.bool false] [] hf951 (by kernel_rfl) trivial ?_
      exact ⟨_, rfl, rfl, hm953⟩
    rcases if_split H0 with ⟨c915, H0⟩ | ⟨c915, H0⟩
    · refine inReg ?_
      refine go 1 [.agg #[.slice A174 (((([] : List Node) ++ x0.L) ++ x1.L).length) c175]] [7, 8, 12, 13, 70] [(7, .string (bs r89)), (8, .string (bs r90)), (12, .int .i64 r882.2), (13, .bool true), (70, .agg #[.slice A174 (((([] : List Node) ++ x0.L) ++ x1.L).length) c175])] [.cell ⟨b185, 0, none⟩ (.slice A174 (((([] : List Node) ++ x0.L) ++ x1.L).length) c175)] hf911 (by kernel_rfl) ⟨(hm908.cell 0 rfl rfl), trivial⟩ fun a916 hf917 => ?_
      have hm918 : Mem [] M w0 [.bx b185 [.slice A174 (((([] : List Node) ++ x0.L) ++ x1.L).length) c175] 24, .sl kNode A174 c175 ((([] : List Node) ++ x0.L) ++ x1.L)] w902 := hm908.seal 1 _ rfl rfl
      refine listOf hf917 rfl (by kernel_rfl) (aCall (fid := 11) (args := [.agg #[.slice A174 (((([] : List Node) ++ x0.L) ++ x1.L).length) c175]]) (d := 71) hf917 (by kernel_rfl) (by kernel_rfl) callable11 (script_Text.calls _ _ (⟨((([] : List Node) ++ x0.L) ++ x1.L)⟩ : Graph) A174 (((([] : List Node) ++ x0.L) ++ x1.L).length) c175 rfl (hm918.give [1] [.sl kNode A174 c175 ((([] : List Node) ++ x0.L) ++ x1.L)] rfl rfl) r912 hr912 (hG.at hm918)) ?_)
      rintro _ w919 a920 ⟨rfl, hk922⟩ hf921
      have hm923 := hm908.still hk922.cum.none
      refine go 11 [.string (bs (r89 ++ r90)), .bool true, .bool true, .bool true] [6] [(6, .bool true)] [.is (bs (r89 ++ r90) = bs r89 ++ bs r90 ∧ (bs r89).size + (bs r90).size ≤ 9223372036854775807), .is ((decide (bs r912 = bs (r89 ++ r90))) = true), .is (((r882.2 : Int) == 0) = true), .is ((true == true) = true)] hf921 (by kernel_rfl) ⟨(catOk g913), (seT c914), (eqT c915), (okIs (by decide)), trivial⟩ fun a924 hf925 => ?_
      refine endL rfl ?_
      have hm926 := hm923.sel [] _ rfl (by kernel_rfl)
      refine thenN ?_
      refine wp_ret ?_
      have hm927 : Mem [] M w0 [] w919 := hm926.sel [] _ rfl (by kernel_rfl)
      obtain rfl := Option.some.inj H0
      refine ret [] [.bool true] [] hf925 (by kernel_rfl) trivial ?_
      exact ⟨_, rfl, rfl, hm927⟩
    refine inReg ?_
    refine go 1 [.agg #[.slice A174 (((([] : List Node) ++ x0.L) ++ x1.L).length) c175]] [7, 8, 12, 13, 70] [(7, .string (bs r89)), (8, .string (bs r90)), (12, .int .i64 r882.2), (13, .bool true), (70, .agg #[.slice A174 (((([] : List Node) ++ x0.L) ++ x1.L).length) c175])] [.cell ⟨b185, 0, none⟩ (.slice A174 (((([] : List Node) ++ x0.L) ++ x1.L).length) c175)] hf911 (by kernel_rfl) ⟨(hm908.cell 0 rfl rfl), trivial⟩ fun a929 hf930 => ?_
    have hm931 : Mem [] M w0 [.bx b185 [.slice A174 (((([] : List Node) ++ x0.L) ++ x1.L).length) c175] 24, .sl kNode A174 c175 ((([] : List Node) ++ x0.L) ++ x1.L)] w902 := hm908.seal 1 _ rfl rfl
    refine listOf hf930 rfl (by kernel_rfl) (aCall (fid := 11) (args := [.agg #[.slice A174 (((([] : List Node) ++ x0.L) ++ x1.L).length) c175]]) (d := 71) hf930 (by kernel_rfl) (by kernel_rfl) callable11 (script_Text.calls _ _ (⟨((([] : List Node) ++ x0.L) ++ x1.L)⟩ : Graph) A174 (((([] : List Node) ++ x0.L) ++ x1.L).length) c175 rfl (hm931.give [1] [.sl kNode A174 c175 ((([] : List Node) ++ x0.L) ++ x1.L)] rfl rfl) r912 hr912 (hG.at hm931)) ?_)
    rintro _ w932 a933 ⟨rfl, hk935⟩ hf934
    have hm936 := hm908.still hk935.cum.none
    refine go 11 [.string (bs (r89 ++ r90)), .bool true, .bool false, .bool false] [6] [(6, .bool false)] [.is (bs (r89 ++ r90) = bs r89 ++ bs r90 ∧ (bs r89).size + (bs r90).size ≤ 9223372036854775807), .is ((decide (bs r912 = bs (r89 ++ r90))) = true), .is (((r882.2 : Int) == 0) = false), .is ((false == true) = false)] hf934 (by kernel_rfl) ⟨(catOk g913), (seT c914), (eqF c915), (okIs (by decide)), trivial⟩ fun a937 hf938 => ?_
    refine endL rfl ?_
    have hm939 := hm936.sel [] _ rfl (by kernel_rfl)
    refine thenN ?_
    refine wp_ret ?_
    have hm940 : Mem [] M w0 [] w932 := hm939.sel [] _ rfl (by kernel_rfl)
    obtain rfl := Option.some.inj H0
    refine ret [] [.bool false] [] hf938 (by kernel_rfl) trivial ?_
    exact ⟨_, rfl, rfl, hm940⟩
  obtain ⟨g955, H0⟩ := if_guard H0
  rcases if_split H0 with ⟨c956, H0⟩ | ⟨c956, H0⟩
  · refine reg [.bool false, .int .u8 (chr r89 (w64 ((Int.tmod (w64 (x2)) (r89.length : Int)) - 1))), .bool true] [7, 8, 9, 12, 13] [(7, .string (bs r89)), (8, .string (bs r90)), (9, .pointer (some ⟨b185, 0, none⟩)), (12, .int .i64 r882.2), (13, .bool true)] [.is ((((Int.tmod (w64 (x2)) (r89.length : Int)) : Int) == 0) = false), .is (0 ≤ (w64 ((Int.tmod (w64 (x2)) (r89.length : Int)) - 1)) ∧ (w64 ((Int.tmod (w64 (x2)) (r89.length : Int)) - 1)) < (r89.length : Int)), .is ((((bs r89)[((w64 ((Int.tmod (w64 (x2)) (r89.length : Int)) - 1))).toNat]?).getD 0).toNat = (chr r89 (w64 ((Int.tmod (w64 (x2)) (r89.length : Int)) - 1)))), .is ((((chr r89 (w64 ((Int.tmod (w64 (x2)) (r89.length : Int)) - 1))) : Int) == 10) = true)] hf907 (by kernel_rfl) ⟨(eqF c909), g955, (chr_eq r89 (w64 ((Int.tmod (w64 (x2)) (r89.length : Int)) - 1))), (eqT c956), trivial⟩ fun a957 hf958 => ?_
    refine thenN ?_
    refine wp_seq ?_
    obtain ⟨r959, hr959, H0⟩ := ob_split H0
    obtain ⟨g960, H0⟩ := if_guard H0
    rcases if_split H0 with ⟨c961, H0⟩ | ⟨c961, H0⟩
    rotate_left
    · refine inReg ?_
      refine go 1 [.agg #[.slice A174 (((([] : List Node) ++ x0.L) ++ x1.L).length) c175]] [7, 8, 12, 13, 70] [(7, .string (bs r89)), (8, .string (bs r90)), (12, .int .i64 r882.2), (13, .bool true), (70, .agg #[.slice A174 (((([] : List Node) ++ x0.L) ++ x1.L).length) c175])] [.cell ⟨b185, 0, none⟩ (.slice A174 (((([] : List Node) ++ x0.L) ++ x1.L).length) c175)] hf958 (by kernel_rfl) ⟨(hm908.cell 0 rfl rfl), trivial⟩ fun a989 hf990 => ?_
      have hm991 : Mem [] M w0 [.bx b185 [.slice A174 (((([] : List Node) ++ x0.L) ++ x1.L).length) c175] 24, .sl kNode A174 c175 ((([] : List Node) ++ x0.L) ++ x1.L)] w902 := hm908.seal 1 _ rfl rfl
      refine listOf hf990 rfl (by kernel_rfl) (aCall (fid := 11) (args := [.agg #[.slice A174 (((([] : List Node) ++ x0.L) ++ x1.L).length) c175]]) (d := 71) hf990 (by kernel_rfl) (by kernel_rfl) callable11 (script_Text.calls _ _ (⟨((([] : List Node) ++ x0.L) ++ x1.L)⟩ : Graph) A174 (((([] : List Node) ++ x0.L) ++ x1.L).length) c175 rfl (hm991.give [1] [.sl kNode A174 c175 ((([] : List Node) ++ x0.L) ++ x1.L)] rfl rfl) r959 hr959 (hG.at hm991)) ?_)
      rintro _ w992 a993 ⟨rfl, hk995⟩ hf994
      have hm996 := hm908.still hk995.cum.none
      refine go 11 [.string (bs (r89 ++ r90)), .bool false] [6] [(6, .bool false)] [.is (bs (r89 ++ r90) = bs r89 ++ bs r90 ∧ (bs r89).size + (bs r90).size ≤ 9223372036854775807), .is ((decide (bs r959 = bs (r89 ++ r90))) = false)] hf994 (by kernel_rfl) ⟨(catOk g960), (seF c961), trivial⟩ fun a997 hf998 => ?_
      refine endL rfl ?_
      have hm999 := hm996.sel [] _ rfl (by kernel_rfl)
      refine thenN ?_
      refine wp_ret ?_
      have hm1000 : Mem [] M w0 [] w992 := hm999.sel [] _ rfl (by kernel_rfl)
      obtain rfl := Option.some.inj H0
      refine ret [] [.bool false] [] hf998 (by kernel_rfl) trivial ?_
      exact ⟨_, rfl, rfl, hm1000⟩
    rcases if_split H0 with ⟨c962, H0⟩ | ⟨c962, H0⟩
    · refine inReg ?_
      refine go 1 [.agg #[.slice A174 (((([] : List Node) ++ x0.L) ++ x1.L).length) c175]] [7, 8, 12, 13, 70] [(7, .string (bs r89)), (8, .string (bs r90)), (12, .int .i64 r882.2), (13, .bool true), (70, .agg #[.slice A174 (((([] : List Node) ++ x0.L) ++ x1.L).length) c175])] [.cell ⟨b185, 0, none⟩ (.slice A174 (((([] : List Node) ++ x0.L) ++ x1.L).length) c175)] hf958 (by kernel_rfl) ⟨(hm908.cell 0 rfl rfl), trivial⟩ fun a963 hf964 => ?_
      have hm965 : Mem [] M w0 [.bx b185 [.slice A174 (((([] : List Node) ++ x0.L) ++ x1.L).length) c175] 24, .sl kNode A174 c175 ((([] : List Node) ++ x0.L) ++ x1.L)] w902 := hm908.seal 1 _ rfl rfl
      refine listOf hf964 rfl (by kernel_rfl) (aCall (fid := 11) (args := [.agg #[.slice A174 (((([] : List Node) ++ x0.L) ++ x1.L).length) c175]]) (d := 71) hf964 (by kernel_rfl) (by kernel_rfl) callable11 (script_Text.calls _ _ (⟨((([] : List Node) ++ x0.L) ++ x1.L)⟩ : Graph) A174 (((([] : List Node) ++ x0.L) ++ x1.L).length) c175 rfl (hm965.give [1] [.sl kNode A174 c175 ((([] : List Node) ++ x0.L) ++ x1.L)] rfl rfl) r959 hr959 (hG.at hm965)) ?_)
      rintro _ w966 a967 ⟨rfl, hk969⟩ hf968
      have hm970 := hm908.still hk969.cum.none
      refine go 11 [.string (bs (r89 ++ r90)), .bool true, .bool true, .bool true] [6] [(6, .bool true)] [.is (bs (r89 ++ r90) = bs r89 ++ bs r90 ∧ (bs r89).size + (bs r90).size ≤ 9223372036854775807), .is ((decide (bs r959 = bs (r89 ++ r90))) = true), .is (((r882.2 : Int) == 0) = true), .is ((true == true) = true)] hf968 (by kernel_rfl) ⟨(catOk g960), (seT c961), (eqT c962), (okIs (by decide)), trivial⟩ fun a971 hf972 => ?_
      refine endL rfl ?_
      have hm973 := hm970.sel [] _ rfl (by kernel_rfl)
      refine thenN ?_
      refine wp_ret ?_
      have hm974 : Mem [] M w0 [] w966 := hm973.sel [] _ rfl (by kernel_rfl)
      obtain rfl := Option.some.inj H0
      refine ret [] [.bool true] [] hf972 (by kernel_rfl) trivial ?_
      exact ⟨_, rfl, rfl, hm974⟩
    refine inReg ?_
    refine go 1 [.agg #[.slice A174 (((([] : List Node) ++ x0.L) ++ x1.L).length) c175]] [7, 8, 12, 13, 70] [(7, .string (bs r89)), (8, .string (bs r90)), (12, .int .i64 r882.2), (13, .bool true), (70, .agg #[.slice A174 (((([] : List Node) ++ x0.L) ++ x1.L).length) c175])] [.cell ⟨b185, 0, none⟩ (.slice A174 (((([] : List Node) ++ x0.L) ++ x1.L).length) c175)] hf958 (by kernel_rfl) ⟨(hm908.cell 0 rfl rfl), trivial⟩ fun a976 hf977 => ?_
    have hm978 : Mem [] M w0 [.bx b185 [.slice A174 (((([] : List Node) ++ x0.L) ++ x1.L).length) c175] 24, .sl kNode A174 c175 ((([] : List Node) ++ x0.L) ++ x1.L)] w902 := hm908.seal 1 _ rfl rfl
    refine listOf hf977 rfl (by kernel_rfl) (aCall (fid := 11) (args := [.agg #[.slice A174 (((([] : List Node) ++ x0.L) ++ x1.L).length) c175]]) (d := 71) hf977 (by kernel_rfl) (by kernel_rfl) callable11 (script_Text.calls _ _ (⟨((([] : List Node) ++ x0.L) ++ x1.L)⟩ : Graph) A174 (((([] : List Node) ++ x0.L) ++ x1.L).length) c175 rfl (hm978.give [1] [.sl kNode A174 c175 ((([] : List Node) ++ x0.L) ++ x1.L)] rfl rfl) r959 hr959 (hG.at hm978)) ?_)
    rintro _ w979 a980 ⟨rfl, hk982⟩ hf981
    have hm983 := hm908.still hk982.cum.none
    refine go 11 [.string (bs (r89 ++ r90)), .bool true, .bool false, .bool false] [6] [(6, .bool false)] [.is (bs (r89 ++ r90) = bs r89 ++ bs r90 ∧ (bs r89).size + (bs r90).size ≤ 9223372036854775807), .is ((decide (bs r959 = bs (r89 ++ r90))) = true), .is (((r882.2 : Int) == 0) = false), .is ((false == true) = false)] hf981 (by kernel_rfl) ⟨(catOk g960), (seT c961), (eqF c962), (okIs (by decide)), trivial⟩ fun a984 hf985 => ?_
    refine endL rfl ?_
    have hm986 := hm983.sel [] _ rfl (by kernel_rfl)
    refine thenN ?_
    refine wp_ret ?_
    have hm987 : Mem [] M w0 [] w979 := hm986.sel [] _ rfl (by kernel_rfl)
    obtain rfl := Option.some.inj H0
    refine ret [] [.bool false] [] hf985 (by kernel_rfl) trivial ?_
    exact ⟨_, rfl, rfl, hm987⟩
  refine reg [.bool false, .int .u8 (chr r89 (w64 ((Int.tmod (w64 (x2)) (r89.length : Int)) - 1))), .bool false] [7, 8, 9, 12, 13] [(7, .string (bs r89)), (8, .string (bs r90)), (9, .pointer (some ⟨b185, 0, none⟩)), (12, .int .i64 r882.2), (13, .bool false)] [.is ((((Int.tmod (w64 (x2)) (r89.length : Int)) : Int) == 0) = false), .is (0 ≤ (w64 ((Int.tmod (w64 (x2)) (r89.length : Int)) - 1)) ∧ (w64 ((Int.tmod (w64 (x2)) (r89.length : Int)) - 1)) < (r89.length : Int)), .is ((((bs r89)[((w64 ((Int.tmod (w64 (x2)) (r89.length : Int)) - 1))).toNat]?).getD 0).toNat = (chr r89 (w64 ((Int.tmod (w64 (x2)) (r89.length : Int)) - 1)))), .is ((((chr r89 (w64 ((Int.tmod (w64 (x2)) (r89.length : Int)) - 1))) : Int) == 10) = false)] hf907 (by kernel_rfl) ⟨(eqF c909), g955, (chr_eq r89 (w64 ((Int.tmod (w64 (x2)) (r89.length : Int)) - 1))), (eqF c956), trivial⟩ fun a1002 hf1003 => ?_
  refine thenN ?_
  refine wp_seq ?_
  obtain ⟨r1004, hr1004, H0⟩ := ob_split H0
  obtain ⟨g1005, H0⟩ := if_guard H0
  rcases if_split H0 with ⟨c1006, H0⟩ | ⟨c1006, H0⟩
  rotate_left
  · refine inReg ?_
    refine go 1 [.agg #[.slice A174 (((([] : List Node) ++ x0.L) ++ x1.L).length) c175]] [7, 8, 12, 13, 70] [(7, .string (bs r89)), (8, .string (bs r90)), (12, .int .i64 r882.2), (13, .bool false), (70, .agg #[.slice A174 (((([] : List Node) ++ x0.L) ++ x1.L).length) c175])] [.cell ⟨b185, 0, none⟩ (.slice A174 (((([] : List Node) ++ x0.L) ++ x1.L).length) c175)] hf1003 (by kernel_rfl) ⟨(hm908.cell 0 rfl rfl), trivial⟩ fun a1034 hf1035 => ?_
    have hm1036 : Mem [] M w0 [.bx b185 [.slice A174 (((([] : List Node) ++ x0.L) ++ x1.L).length) c175] 24, .sl kNode A174 c175 ((([] : List Node) ++ x0.L) ++ x1.L)] w902 := hm908.seal 1 _ rfl rfl
    refine listOf hf1035 rfl (by kernel_rfl) (aCall (fid := 11) (args := [.agg #[.slice A174 (((([] : List Node) ++ x0.L) ++ x1.L).length) c175]]) (d := 71) hf1035 (by kernel_rfl) (by kernel_rfl) callable11 (script_Text.calls _ _ (⟨((([] : List Node) ++ x0.L) ++ x1.L)⟩ : Graph) A174 (((([] : List Node) ++ x0.L) ++ x1.L).length) c175 rfl (hm1036.give [1] [.sl kNode A174 c175 ((([] : List Node) ++ x0.L) ++ x1.L)] rfl rfl) r1004 hr1004 (hG.at hm1036)) ?_)
    rintro _ w1037 a1038 ⟨rfl, hk1040⟩ hf1039
    have hm1041 := hm908.still hk1040.cum.none
    refine go 11 [.string (bs (r89 ++ r90)), .bool false] [6] [(6, .bool false)] [.is (bs (r89 ++ r90) = bs r89 ++ bs r90 ∧ (bs r89).size + (bs r90).size ≤ 9223372036854775807), .is ((decide (bs r1004 = bs (r89 ++ r90))) = false)] hf1039 (by kernel_rfl) ⟨(catOk g1005), (seF c1006), trivial⟩ fun a1042 hf1043 => ?_
    refine endL rfl ?_
    have hm1044 := hm1041.sel [] _ rfl (by kernel_rfl)
    refine thenN ?_
    refine wp_ret ?_
    have hm1045 : Mem [] M w0 [] w1037 := hm1044.sel [] _ rfl (by kernel_rfl)
    obtain rfl := Option.some.inj H0
    refine ret [] [.bool false] [] hf1043 (by kernel_rfl) trivial ?_
    exact ⟨_, rfl, rfl, hm1045⟩
  rcases if_split H0 with ⟨c1007, H0⟩ | ⟨c1007, H0⟩
  · refine inReg ?_
    refine go 1 [.agg #[.slice A174 (((([] : List Node) ++ x0.L) ++ x1.L).length) c175]] [7, 8, 12, 13, 70] [(7, .string (bs r89)), (8, .string (bs r90)), (12, .int .i64 r882.2), (13, .bool false), (70, .agg #[.slice A174 (((([] : List Node) ++ x0.L) ++ x1.L).length) c175])] [.cell ⟨b185, 0, none⟩ (.slice A174 (((([] : List Node) ++ x0.L) ++ x1.L).length) c175)] hf1003 (by kernel_rfl) ⟨(hm908.cell 0 rfl rfl), trivial⟩ fun a1008 hf1009 => ?_
    have hm1010 : Mem [] M w0 [.bx b185 [.slice A174 (((([] : List Node) ++ x0.L) ++ x1.L).length) c175] 24, .sl kNode A174 c175 ((([] : List Node) ++ x0.L) ++ x1.L)] w902 := hm908.seal 1 _ rfl rfl
    refine listOf hf1009 rfl (by kernel_rfl) (aCall (fid := 11) (args := [.agg #[.slice A174 (((([] : List Node) ++ x0.L) ++ x1.L).length) c175]]) (d := 71) hf1009 (by kernel_rfl) (by kernel_rfl) callable11 (script_Text.calls _ _ (⟨((([] : List Node) ++ x0.L) ++ x1.L)⟩ : Graph) A174 (((([] : List Node) ++ x0.L) ++ x1.L).length) c175 rfl (hm1010.give [1] [.sl kNode A174 c175 ((([] : List Node) ++ x0.L) ++ x1.L)] rfl rfl) r1004 hr1004 (hG.at hm1010)) ?_)
    rintro _ w1011 a1012 ⟨rfl, hk1014⟩ hf1013
    have hm1015 := hm908.still hk1014.cum.none
    refine go 11 [.string (bs (r89 ++ r90)), .bool true, .bool true, .bool false] [6] [(6, .bool false)] [.is (bs (r89 ++ r90) = bs r89 ++ bs r90 ∧ (bs r89).size + (bs r90).size ≤ 9223372036854775807), .is ((decide (bs r1004 = bs (r89 ++ r90))) = true), .is (((r882.2 : Int) == 0) = true), .is ((true == false) = false)] hf1013 (by kernel_rfl) ⟨(catOk g1005), (seT c1006), (eqT c1007), (okIs (by decide)), trivial⟩ fun a1016 hf1017 => ?_
    refine endL rfl ?_
    have hm1018 := hm1015.sel [] _ rfl (by kernel_rfl)
    refine thenN ?_
    refine wp_ret ?_
    have hm1019 : Mem [] M w0 [] w1011 := hm1018.sel [] _ rfl (by kernel_rfl)
    obtain rfl := Option.some.inj H0
    refine ret [] [.bool false] [] hf1017 (by kernel_rfl) trivial ?_
    exact ⟨_, rfl, rfl, hm1019⟩
  refine inReg ?_
  refine go 1 [.agg #[.slice A174 (((([] : List Node) ++ x0.L) ++ x1.L).length) c175]] [7, 8, 12, 13, 70] [(7, .string (bs r89)), (8, .string (bs r90)), (12, .int .i64 r882.2), (13, .bool false), (70, .agg #[.slice A174 (((([] : List Node) ++ x0.L) ++ x1.L).length) c175])] [.cell ⟨b185, 0, none⟩ (.slice A174 (((([] : List Node) ++ x0.L) ++ x1.L).length) c175)] hf1003 (by kernel_rfl) ⟨(hm908.cell 0 rfl rfl), trivial⟩ fun a1021 hf1022 => ?_
  have hm1023 : Mem [] M w0 [.bx b185 [.slice A174 (((([] : List Node) ++ x0.L) ++ x1.L).length) c175] 24, .sl kNode A174 c175 ((([] : List Node) ++ x0.L) ++ x1.L)] w902 := hm908.seal 1 _ rfl rfl
  refine listOf hf1022 rfl (by kernel_rfl) (aCall (fid := 11) (args := [.agg #[.slice A174 (((([] : List Node) ++ x0.L) ++ x1.L).length) c175]]) (d := 71) hf1022 (by kernel_rfl) (by kernel_rfl) callable11 (script_Text.calls _ _ (⟨((([] : List Node) ++ x0.L) ++ x1.L)⟩ : Graph) A174 (((([] : List Node) ++ x0.L) ++ x1.L).length) c175 rfl (hm1023.give [1] [.sl kNode A174 c175 ((([] : List Node) ++ x0.L) ++ x1.L)] rfl rfl) r1004 hr1004 (hG.at hm1023)) ?_)
  rintro _ w1024 a1025 ⟨rfl, hk1027⟩ hf1026
  have hm1028 := hm908.still hk1027.cum.none
  refine go 11 [.string (bs (r89 ++ r90)), .bool true, .bool false, .bool true] [6] [(6, .bool true)] [.is (bs (r89 ++ r90) = bs r89 ++ bs r90 ∧ (bs r89).size + (bs r90).size ≤ 9223372036854775807), .is ((decide (bs r1004 = bs (r89 ++ r90))) = true), .is (((r882.2 : Int) == 0) = false), .is ((false == false) = true)] hf1026 (by kernel_rfl) ⟨(catOk g1005), (seT c1006), (eqF c1007), (okIs (by decide)), trivial⟩ fun a1029 hf1030 => ?_
  refine endL rfl ?_
  have hm1031 := hm1028.sel [] _ rfl (by kernel_rfl)
  refine thenN ?_
  refine wp_ret ?_
  have hm1032 : Mem [] M w0 [] w1024 := hm1031.sel [] _ rfl (by kernel_rfl)
  obtain rfl := Option.some.inj H0
  refine ret [] [.bool true] [] hf1030 (by kernel_rfl) trivial ?_
  exact ⟨_, rfl, rfl, hm1032⟩
end Go.Proofs.YtkdhahdfkonilaaDoor
