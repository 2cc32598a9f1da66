/- Printed by gen.py. -/
import Derived.Test.YtkdhahdfkonilaaDoorF6
import Derived.Test.YtkdhahdfkonilaaDoorF7
namespace Go.Proofs.YtkdhahdfkonilaaDoor
open Go Go.RowKit
set_option linter.unusedSimpArgs false
set_option linter.unusedVariables false
set_option linter.unnecessarySimpa false
/-! ### backstitch/backstitchlaw24.ScriptReads -/
noncomputable def law24_ScriptReads.f (x0 : (List UInt8)) : Option Bool :=
  (law24_awake.f).bind fun r23 =>
  if r23 = true then (if 20000 < (x0.length : Int) then (some true)
  else ((script_Read.f x0).bind fun r41 =>
  if r41.2 = 0 then ((script_Text.f r41.1).bind fun r71 =>
  if r71 = x0 then (some true)
  else (some false))
  else (if r41.2 = 14 then (if (r41.1.L.length : Int) = 0 then (some true)
  else (some false))
  else (if r41.2 = 13 then (if (r41.1.L.length : Int) = 0 then (some true)
  else (some false))
  else (some false)))))
  else (some false)
set_option maxRecDepth 100000 in
set_option maxHeartbeats 4000000 in
theorem law24_ScriptReads.calls (M : List (Option Nat)) (w0 : World) (x0 : (List UInt8)) (hm0 : Mem [] M w0 [] w0) (r : Bool) (H0 : law24_ScriptReads.f x0 = some r) (hG : Glob [] w0) :
    Calls Tryd.prog 4 [.string (bs x0)].toArray w0 (fun x w' => ∃ v, x = .returned v ∧ v = .bool r ∧ Mem [] M w0 [] w') := by
  unfold law24_ScriptReads.f at H0
  refine enter (n := 33) Tryd.func4 rfl rfl (by kernel_rfl) fun a0 (hf0 : Fr 33 a0 [(0, .string (bs x0))]) => ?_
  refine wp_seq ?_
  refine reg [] [0] [(0, .string (bs x0))] [] hf0 (by kernel_rfl) trivial fun a21 hf22 => ?_
  refine thenN ?_
  refine wp_seq ?_
  refine wp_seq ?_
  obtain ⟨r23, hr23, H0⟩ := ob_split H0
  rcases ifb_split H0 with ⟨c24, H0⟩ | ⟨c24, H0⟩
  rotate_left
  · refine inReg ?_
    refine listOf hf22 rfl (by kernel_rfl) (aCall (fid := 9) (args := []) (d := 5) hf22 (by kernel_rfl) (by kernel_rfl) callable9 (law24_awake.calls _ _  (hm0.give [] [] rfl rfl) r23 hr23 (hG.at hm0)) ?_)
    rintro _ w128 a129 ⟨rfl, hk131⟩ hf130
    have hm132 := hm0.still hk131.cum.none
    rw [c24] at hf130
    refine go 1 [] [0, 6] [(0, .string (bs x0)), (6, .bool true)] [] hf130 (by kernel_rfl) trivial fun a133 hf134 => ?_
    refine endL rfl ?_
    refine thenN ?_
    refine condT hf134 (by kernel_rfl) ?_
    refine wp_seq ?_
    refine reg [] [2] [(2, .bool false)] [] hf134 (by kernel_rfl) trivial fun a135 hf136 => ?_
    refine thenN ?_
    refine wp_ret ?_
    refine thenR ?_
    have hm137 : Mem [] M w0 [] w128 := hm132.sel [] _ rfl (by kernel_rfl)
    obtain rfl := Option.some.inj H0
    refine ret [] [.bool false] [] hf136 (by kernel_rfl) trivial ?_
    exact ⟨_, rfl, rfl, hm137⟩
  refine inReg ?_
  refine listOf hf22 rfl (by kernel_rfl) (aCall (fid := 9) (args := []) (d := 5) hf22 (by kernel_rfl) (by kernel_rfl) callable9 (law24_awake.calls _ _  (hm0.give [] [] rfl rfl) r23 hr23 (hG.at hm0)) ?_)
  rintro _ w25 a26 ⟨rfl, hk28⟩ hf27
  have hm29 := hm0.still hk28.cum.none
  rw [c24] at hf27
  refine go 1 [] [0, 6] [(0, .string (bs x0)), (6, .bool false)] [] hf27 (by kernel_rfl) trivial fun a30 hf31 => ?_
  refine endL rfl ?_
  refine thenN ?_
  refine condF hf31 (by kernel_rfl) ?_
  refine wp_skip ?_
  refine thenN ?_
  refine wp_seq ?_
  refine wp_seq ?_
  rcases if_split H0 with ⟨c32, H0⟩ | ⟨c32, H0⟩
  · refine reg [.bool true] [0, 9] [(0, .string (bs x0)), (9, .bool true)] [.is (decide (20000 < (x0.length : Int)) = true)] hf31 (by kernel_rfl) ⟨(decide_eq_true c32), trivial⟩ fun a33 hf34 => ?_
    refine thenN ?_
    refine condT hf34 (by kernel_rfl) ?_
    refine wp_seq ?_
    refine reg [] [2] [(2, .bool true)] [] hf34 (by kernel_rfl) trivial fun a35 hf36 => ?_
    refine thenN ?_
    refine wp_ret ?_
    refine thenR ?_
    have hm37 : Mem [] M w0 [] w25 := hm29.sel [] _ rfl (by kernel_rfl)
    obtain rfl := Option.some.inj H0
    refine ret [] [.bool true] [] hf36 (by kernel_rfl) trivial ?_
    exact ⟨_, rfl, rfl, hm37⟩
  refine reg [.bool false] [0, 9] [(0, .string (bs x0)), (9, .bool false)] [.is (decide (20000 < (x0.length : Int)) = false)] hf31 (by kernel_rfl) ⟨(decide_eq_false c32), trivial⟩ fun a39 hf40 => ?_
  refine thenN ?_
  refine condF hf40 (by kernel_rfl) ?_
  refine wp_skip ?_
  refine thenN ?_
  refine wp_seq ?_
  obtain ⟨r41, hr41, H0⟩ := ob_split H0
  refine inReg ?_
  refine go 1 [] [0, 11] [(0, .string (bs x0)), (11, .string (bs x0))] [] hf40 (by kernel_rfl) trivial fun a42 hf43 => ?_
  refine listOf hf43 rfl (by kernel_rfl) (aCall (fid := 13) (args := [.string (bs x0)]) (d := 12) hf43 (by kernel_rfl) (by kernel_rfl) callable13 (script_Read.calls _ _ x0 (hm29.give [] [] rfl rfl) r41 hr41 (hG.at hm29)) ?_)
  rintro _ w46 a47 ⟨A44, c45, rfl, hk49⟩ hf48
  have hm50 := hm29.back hk49
  have hm51 := hm50.seal 0 _ rfl rfl
  refine go 3 [] [0, 13, 14] [(0, .string (bs x0)), (13, .agg #[.slice A44 r41.1.L.length c45]), (14, .int .i64 r41.2)] [] hf48 (by kernel_rfl) trivial fun a52 hf53 => ?_
  refine listOf hf53 rfl (by kernel_rfl) (aNew (cs := [.slice none 0 0]) (T := 24) (d := 3) hf53 (by kernel_rfl) (by kernel_rfl) ?_)
  intro b54 w55 a56 hbb54 hx58 hg59 hf57
  have hm60 := hm51.box hbb54 hx58 hg59
  refine listOf hf57 rfl (by kernel_rfl) (aStoreB (b := b54) (j := 0) (T := 24) (cs := [.slice none 0 0]) (us := [.slice A44 r41.1.L.length c45]) (cs' := [.slice A44 r41.1.L.length c45]) hf57 (by kernel_rfl) (hm60.bxAt 0 rfl) (by kernel_rfl) (by kernel_rfl) (by kernel_rfl) ?_)
  intro w61 hx62 hg63
  have hm65 := hm60.setBox 0 _ rfl rfl hx62 hg63
  refine go 1 [] [0, 3, 4] [(0, .string (bs x0)), (3, .pointer (some ⟨b54, 0, none⟩)), (4, .int .i64 r41.2)] [] hf57 (by kernel_rfl) trivial fun a66 hf67 => ?_
  refine endL rfl ?_
  refine thenN ?_
  refine wp_seq ?_
  refine wp_seq ?_
  rcases if_split H0 with ⟨c68, H0⟩ | ⟨c68, H0⟩
  · refine reg [.bool false] [0, 3, 4, 16] [(0, .string (bs x0)), (3, .pointer (some ⟨b54, 0, none⟩)), (4, .int .i64 r41.2), (16, .bool false)] [.is (((r41.2 : Int) != 0) = false)] hf67 (by kernel_rfl) ⟨(neF c68), trivial⟩ fun a69 hf70 => ?_
    refine thenN ?_
    refine condF hf70 (by kernel_rfl) ?_
    refine wp_skip ?_
    refine thenN ?_
    refine wp_seq ?_
    obtain ⟨r71, hr71, H0⟩ := ob_split H0
    rcases if_split H0 with ⟨c72, H0⟩ | ⟨c72, H0⟩
    · refine inReg ?_
      refine go 1 [.agg #[.slice A44 r41.1.L.length c45]] [0, 29] [(0, .string (bs x0)), (29, .agg #[.slice A44 r41.1.L.length c45])] [.cell ⟨b54, 0, none⟩ (.slice A44 r41.1.L.length c45)] hf70 (by kernel_rfl) ⟨(hm65.cell 0 rfl rfl), trivial⟩ fun a73 hf74 => ?_
      refine listOf hf74 rfl (by kernel_rfl) (aCall (fid := 11) (args := [.agg #[.slice A44 r41.1.L.length c45]]) (d := 30) hf74 (by kernel_rfl) (by kernel_rfl) callable11 (script_Text.calls _ _ r41.1 A44 r41.1.L.length c45 rfl (hm65.give [1] [.sl kNode A44 c45 r41.1.L] rfl rfl) r71 hr71 (hG.at hm65)) ?_)
      rintro _ w75 a76 ⟨rfl, hk78⟩ hf77
      have hm79 := hm65.still hk78.cum.none
      refine go 3 [.bool true] [2] [(2, .bool true)] [.is ((decide (bs r71 = bs x0)) = true)] hf77 (by kernel_rfl) ⟨(seT c72), trivial⟩ fun a80 hf81 => ?_
      refine endL rfl ?_
      have hm82 := hm79.sel [] _ rfl (by kernel_rfl)
      refine thenN ?_
      refine wp_ret ?_
      have hm83 : Mem [] M w0 [] w75 := hm82.sel [] _ rfl (by kernel_rfl)
      obtain rfl := Option.some.inj H0
      refine ret [] [.bool true] [] hf81 (by kernel_rfl) trivial ?_
      exact ⟨_, rfl, rfl, hm83⟩
    refine inReg ?_
    refine go 1 [.agg #[.slice A44 r41.1.L.length c45]] [0, 29] [(0, .string (bs x0)), (29, .agg #[.slice A44 r41.1.L.length c45])] [.cell ⟨b54, 0, none⟩ (.slice A44 r41.1.L.length c45)] hf70 (by kernel_rfl) ⟨(hm65.cell 0 rfl rfl), trivial⟩ fun a85 hf86 => ?_
    refine listOf hf86 rfl (by kernel_rfl) (aCall (fid := 11) (args := [.agg #[.slice A44 r41.1.L.length c45]]) (d := 30) hf86 (by kernel_rfl) (by kernel_rfl) callable11 (script_Text.calls _ _ r41.1 A44 r41.1.L.length c45 rfl (hm65.give [1] [.sl kNode A44 c45 r41.1.L] rfl rfl) r71 hr71 (hG.at hm65)) ?_)
    rintro _ w87 a88 ⟨rfl, hk90⟩ hf89
    have hm91 := hm65.still hk90.cum.none
    refine go 3 [.bool false] [2] [(2, .bool false)] [.is ((decide (bs r71 = bs x0)) = false)] hf89 (by kernel_rfl) ⟨(seF c72), trivial⟩ fun a92 hf93 => ?_
    refine endL rfl ?_
    have hm94 := hm91.sel [] _ rfl (by kernel_rfl)
    refine thenN ?_
    refine wp_ret ?_
    have hm95 : Mem [] M w0 [] w87 := hm94.sel [] _ rfl (by kernel_rfl)
    obtain rfl := Option.some.inj H0
    refine ret [] [.bool false] [] hf93 (by kernel_rfl) trivial ?_
    exact ⟨_, rfl, rfl, hm95⟩
  refine reg [.bool true] [0, 3, 4, 16] [(0, .string (bs x0)), (3, .pointer (some ⟨b54, 0, none⟩)), (4, .int .i64 r41.2), (16, .bool true)] [.is (((r41.2 : Int) != 0) = true)] hf67 (by kernel_rfl) ⟨(neT c68), trivial⟩ fun a97 hf98 => ?_
  refine thenN ?_
  refine condT hf98 (by kernel_rfl) ?_
  refine wp_seq ?_
  rcases if_split H0 with ⟨c99, H0⟩ | ⟨c99, H0⟩
  · rcases if_split H0 with ⟨c100, H0⟩ | ⟨c100, H0⟩
    · refine reg [.bool true, .slice A44 r41.1.L.length c45, .bool true] [2] [(2, .bool true)] [.is (((r41.2 : Int) == 14) = true), .cell ⟨b54, 0, none⟩ (.slice A44 r41.1.L.length c45), .is ((((r41.1.L.length : Int) : Int) == 0) = true)] hf98 (by kernel_rfl) ⟨(eqT c99), (hm65.cell 0 rfl rfl), (eqT c100), trivial⟩ fun a101 hf102 => ?_
      have hm103 := hm65.sel [] _ rfl (by kernel_rfl)
      refine thenN ?_
      refine wp_ret ?_
      refine thenR ?_
      have hm104 : Mem [] M w0 [] w61 := hm103.sel [] _ rfl (by kernel_rfl)
      obtain rfl := Option.some.inj H0
      refine ret [] [.bool true] [] hf102 (by kernel_rfl) trivial ?_
      exact ⟨_, rfl, rfl, hm104⟩
    refine reg [.bool true, .slice A44 r41.1.L.length c45, .bool false] [2] [(2, .bool false)] [.is (((r41.2 : Int) == 14) = true), .cell ⟨b54, 0, none⟩ (.slice A44 r41.1.L.length c45), .is ((((r41.1.L.length : Int) : Int) == 0) = false)] hf98 (by kernel_rfl) ⟨(eqT c99), (hm65.cell 0 rfl rfl), (eqF c100), trivial⟩ fun a106 hf107 => ?_
    have hm108 := hm65.sel [] _ rfl (by kernel_rfl)
    refine thenN ?_
    refine wp_ret ?_
    refine thenR ?_
    have hm109 : Mem [] M w0 [] w61 := hm108.sel [] _ rfl (by kernel_rfl)
    obtain rfl := Option.some.inj H0
    refine ret [] [.bool false] [] hf107 (by kernel_rfl) trivial ?_
    exact ⟨_, rfl, rfl, hm109⟩
  rcases if_split H0 with ⟨c111, H0⟩ | ⟨c111, H0⟩
  rotate_left
  · refine reg [.bool false, .bool false] [2] [(2, .bool false)] [.is (((r41.2 : Int) == 14) = false), .is (((r41.2 : Int) == 13) = false)] hf98 (by kernel_rfl) ⟨(eqF c99), (eqF c111), trivial⟩ fun a123 hf124 => ?_
    have hm125 := hm65.sel [] _ rfl (by kernel_rfl)
    refine thenN ?_
    refine wp_ret ?_
    refine thenR ?_
    have hm126 : Mem [] M w0 [] w61 := hm125.sel [] _ rfl (by kernel_rfl)
    obtain rfl := Option.some.inj H0
    refine ret [] [.bool false] [] hf124 (by kernel_rfl) trivial ?_
    exact ⟨_, rfl, rfl, hm126⟩
  rcases if_split H0 with ⟨c112, H0⟩ | ⟨c112, H0⟩
  · refine reg [.bool false, .bool true, .slice A44 r41.1.L.length c45, .bool true] [2] [(2, .bool true)] [.is (((r41.2 : Int) == 14) = false), .is (((r41.2 : Int) == 13) = true), .cell ⟨b54, 0, none⟩ (.slice A44 r41.1.L.length c45), .is ((((r41.1.L.length : Int) : Int) == 0) = true)] hf98 (by kernel_rfl) ⟨(eqF c99), (eqT c111), (hm65.cell 0 rfl rfl), (eqT c112), trivial⟩ fun a113 hf114 => ?_
    have hm115 := hm65.sel [] _ rfl (by kernel_rfl)
    refine thenN ?_
    refine wp_ret ?_
    refine thenR ?_
    have hm116 : Mem [] M w0 [] w61 := hm115.sel [] _ rfl (by kernel_rfl)
    obtain rfl := Option.some.inj H0
    refine ret [] [.bool true] [] hf114 (by kernel_rfl) trivial ?_
    exact ⟨_, rfl, rfl, hm116⟩
  refine reg [.bool false, .bool true, .slice A44 r41.1.L.length c45, .bool false] [2] [(2, .bool false)] [.is (((r41.2 : Int) == 14) = false), .is (((r41.2 : Int) == 13) = true), .cell ⟨b54, 0, none⟩ (.slice A44 r41.1.L.length c45), .is ((((r41.1.L.length : Int) : Int) == 0) = false)] hf98 (by kernel_rfl) ⟨(eqF c99), (eqT c111), (hm65.cell 0 rfl rfl), (eqF c112), trivial⟩ fun a118 hf119 => ?_
  have hm120 := hm65.sel [] _ rfl (by kernel_rfl)
  refine thenN ?_
  refine wp_ret ?_
  refine thenR ?_
  have hm121 : Mem [] M w0 [] w61 := hm120.sel [] _ rfl (by kernel_rfl)
  obtain rfl := Option.some.inj H0
  refine ret [] [.bool false] [] hf119 (by kernel_rfl) trivial ?_
  exact ⟨_, rfl, rfl, hm121⟩
end Go.Proofs.YtkdhahdfkonilaaDoor
