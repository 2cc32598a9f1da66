/- Printed by gen.py. -/
import Derived.Test.YtkdhahdfkonilaaDoorF2
import Derived.Test.YtkdhahdfkonilaaDoorF6
namespace Go.Proofs.YtkdhahdfkonilaaDoor
open Go Go.RowKit
set_option linter.unusedSimpArgs false
set_option linter.unusedVariables false
set_option linter.unnecessarySimpa false
/-! ### backstitch/backstitchlaw24.awake -/
noncomputable def law24_awake.f  : Option Bool :=
  (script_Read.f ([97, 100, 100, 32, 105, 58, 48, 32, 105, 58, 49, 10] : List UInt8)).bind fun r23 =>
  if r23.2 = 0 then (if (r23.1.L.length : Int) = 1 then (if (0 : Int) ≤ 0 ∧ 0 < (r23.1.L.length : Int) then (if (rd r23.1.L 0).Op = 4 then ((script_Text.f r23.1).bind fun r51 =>
  if r51 = ([97, 100, 100, 32, 105, 58, 48, 32, 105, 58, 49, 10] : List UInt8) then ((script_Number.f 4607182418800017408).bind fun r53 =>
  if r53 = ([51, 102, 102, 48, 48, 48, 48, 48, 48, 48, 48, 48, 48, 48, 48, 48] : List UInt8) then (some true)
  else (some false))
  else (some false))
  else (some false))
  else none)
  else (some false))
  else (some false)
set_option maxRecDepth 100000 in
set_option maxHeartbeats 4000000 in
theorem law24_awake.calls (M : List (Option Nat)) (w0 : World)  (hm0 : Mem [] M w0 [] w0) (r : Bool) (H0 : law24_awake.f = some r) (hG : Glob [] w0) :
    Calls Tryd.prog 9 [].toArray w0 (fun x w' => ∃ v, x = .returned v ∧ v = .bool r ∧ Mem [] M w0 [] w') := by
  unfold law24_awake.f at H0
  refine enter (n := 32) Tryd.func9 rfl rfl (by kernel_rfl) fun a0 (hf0 : Fr 32 a0 []) => ?_
  refine wp_seq ?_
  refine reg [] [] [] [] hf0 (by kernel_rfl) trivial fun a21 hf22 => ?_
  refine thenN ?_
  refine wp_seq ?_
  obtain ⟨r23, hr23, H0⟩ := ob_split H0
  refine inReg ?_
  refine listOf hf22 rfl (by kernel_rfl) (aCall (fid := 13) (args := [.string (bs ([97, 100, 100, 32, 105, 58, 48, 32, 105, 58, 49, 10] : List UInt8))]) (d := 4) hf22 (by kernel_rfl) (by kernel_rfl) callable13 (script_Read.calls _ _ ([97, 100, 100, 32, 105, 58, 48, 32, 105, 58, 49, 10] : List UInt8) (hm0.give [] [] rfl rfl) r23 hr23 (hG.at hm0)) ?_)
  rintro _ w26 a27 ⟨A24, c25, rfl, hk29⟩ hf28
  have hm30 := hm0.back hk29
  have hm31 := hm30.seal 0 _ rfl rfl
  refine go 3 [] [5, 6] [(5, .agg #[.slice A24 r23.1.L.length c25]), (6, .int .i64 r23.2)] [] hf28 (by kernel_rfl) trivial fun a32 hf33 => ?_
  refine listOf hf33 rfl (by kernel_rfl) (aNew (cs := [.slice none 0 0]) (T := 24) (d := 1) hf33 (by kernel_rfl) (by kernel_rfl) ?_)
  intro b34 w35 a36 hbb34 hx38 hg39 hf37
  have hm40 := hm31.box hbb34 hx38 hg39
  refine listOf hf37 rfl (by kernel_rfl) (aStoreB (b := b34) (j := 0) (T := 24) (cs := [.slice none 0 0]) (us := [.slice A24 r23.1.L.length c25]) (cs' := [.slice A24 r23.1.L.length c25]) hf37 (by kernel_rfl) (hm40.bxAt 0 rfl) (by kernel_rfl) (by kernel_rfl) (by kernel_rfl) ?_)
  intro w41 hx42 hg43
  have hm44 := hm40.setBox 0 _ rfl rfl hx42 hg43
  refine go 1 [] [1, 2] [(1, .pointer (some ⟨b34, 0, none⟩)), (2, .int .i64 r23.2)] [] hf37 (by kernel_rfl) trivial fun a45 hf46 => ?_
  refine endL rfl ?_
  refine thenN ?_
  refine wp_seq ?_
  rcases if_split H0 with ⟨c47, H0⟩ | ⟨c47, H0⟩
  rotate_left
  · refine reg [.bool false] [0] [(0, .bool false)] [.is (((r23.2 : Int) == 0) = false)] hf46 (by kernel_rfl) ⟨(eqF c47), trivial⟩ fun a192 hf193 => ?_
    have hm194 := hm44.sel [] _ rfl (by kernel_rfl)
    refine thenN ?_
    refine wp_ret ?_
    have hm195 : Mem [] M w0 [] w41 := hm194.sel [] _ rfl (by kernel_rfl)
    obtain rfl := Option.some.inj H0
    refine ret [] [.bool false] [] hf193 (by kernel_rfl) trivial ?_
    exact ⟨_, rfl, rfl, hm195⟩
  rcases if_split H0 with ⟨c48, H0⟩ | ⟨c48, H0⟩
  rotate_left
  · refine reg [.bool true, .slice A24 r23.1.L.length c25, .bool false] [0] [(0, .bool false)] [.is (((r23.2 : Int) == 0) = true), .cell ⟨b34, 0, none⟩ (.slice A24 r23.1.L.length c25), .is ((((r23.1.L.length : Int) : Int) == 1) = false)] hf46 (by kernel_rfl) ⟨(eqT c47), (hm44.cell 0 rfl rfl), (eqF c48), trivial⟩ fun a187 hf188 => ?_
    have hm189 := hm44.sel [] _ rfl (by kernel_rfl)
    refine thenN ?_
    refine wp_ret ?_
    have hm190 : Mem [] M w0 [] w41 := hm189.sel [] _ rfl (by kernel_rfl)
    obtain rfl := Option.some.inj H0
    refine ret [] [.bool false] [] hf188 (by kernel_rfl) trivial ?_
    exact ⟨_, rfl, rfl, hm190⟩
  obtain ⟨g49, H0⟩ := if_guard H0
  rcases if_split H0 with ⟨c50, H0⟩ | ⟨c50, H0⟩
  rotate_left
  · have q163 := (hm44.slAt 1 rfl).get 0 g49.1 g49.2
    obtain ⟨us164, hr165, hc166⟩ := q163.2
    obtain ⟨A167, c168, A169, c170, A171, c172, A173, c174, A175, c176, rfl, ⟨pA167, sA167⟩, ⟨pA169, sA169⟩, ⟨pA171, sA171⟩, ⟨pA173, sA173⟩, ⟨pA175, sA175⟩⟩ := kNode.open hr165
    have hm177 := hm44.elem pA167 sA167
    have hm178 := hm177.elem pA169 sA169
    have hm179 := hm178.elem pA171 sA171
    have hm180 := hm179.elem pA173 sA173
    have hm181 := hm180.elem pA175 sA175
    refine reg [.bool true, .slice A24 r23.1.L.length c25, .bool true, .slice A24 r23.1.L.length c25, .int .i64 ((rd r23.1.L 0).Op), .bool false] [0] [(0, .bool false)] [.is (((r23.2 : Int) == 0) = true), .cell ⟨b34, 0, none⟩ (.slice A24 r23.1.L.length c25), .is ((((r23.1.L.length : Int) : Int) == 1) = true), .cell ⟨b34, 0, none⟩ (.slice A24 r23.1.L.length c25), .is (Option.isSome A24 = true), .is ((0 : Int) ≤ 0 ∧ 0 < (r23.1.L.length : Int)), .cell ((ad A24).add ((0 : Int).toNat * 7)) (.int .i64 ((rd r23.1.L 0).Op)), .is ((((rd r23.1.L 0).Op : Int) == 4) = false)] hf46 (by kernel_rfl) ⟨(eqT c47), (hm44.cell 0 rfl rfl), (eqT c48), (hm44.cell 0 rfl rfl), q163.1, g49, (hc166 0 _ rfl), (eqF c50), trivial⟩ fun a182 hf183 => ?_
    have hm184 := hm181.sel [] _ rfl (by kernel_rfl)
    refine thenN ?_
    refine wp_ret ?_
    have hm185 : Mem [] M w0 [] w41 := hm184.sel [] _ rfl (by kernel_rfl)
    obtain rfl := Option.some.inj H0
    refine ret [] [.bool false] [] hf183 (by kernel_rfl) trivial ?_
    exact ⟨_, rfl, rfl, hm185⟩
  obtain ⟨r51, hr51, H0⟩ := ob_split H0
  rcases if_split H0 with ⟨c52, H0⟩ | ⟨c52, H0⟩
  rotate_left
  · have q132 := (hm44.slAt 1 rfl).get 0 g49.1 g49.2
    obtain ⟨us133, hr134, hc135⟩ := q132.2
    obtain ⟨A136, c137, A138, c139, A140, c141, A142, c143, A144, c145, rfl, ⟨pA136, sA136⟩, ⟨pA138, sA138⟩, ⟨pA140, sA140⟩, ⟨pA142, sA142⟩, ⟨pA144, sA144⟩⟩ := kNode.open hr134
    have hm146 := hm44.elem pA136 sA136
    have hm147 := hm146.elem pA138 sA138
    have hm148 := hm147.elem pA140 sA140
    have hm149 := hm148.elem pA142 sA142
    have hm150 := hm149.elem pA144 sA144
    refine inReg ?_
    refine go 18 [.bool true, .slice A24 r23.1.L.length c25, .bool true, .slice A24 r23.1.L.length c25, .int .i64 ((rd r23.1.L 0).Op), .bool true, .agg #[.slice A24 r23.1.L.length c25]] [23, 24] [(23, .bool true), (24, .agg #[.slice A24 r23.1.L.length c25])] [.is (((r23.2 : Int) == 0) = true), .cell ⟨b34, 0, none⟩ (.slice A24 r23.1.L.length c25), .is ((((r23.1.L.length : Int) : Int) == 1) = true), .cell ⟨b34, 0, none⟩ (.slice A24 r23.1.L.length c25), .is (Option.isSome A24 = true), .is ((0 : Int) ≤ 0 ∧ 0 < (r23.1.L.length : Int)), .cell ((ad A24).add ((0 : Int).toNat * 7)) (.int .i64 ((rd r23.1.L 0).Op)), .is ((((rd r23.1.L 0).Op : Int) == 4) = true), .cell ⟨b34, 0, none⟩ (.slice A24 r23.1.L.length c25)] hf46 (by kernel_rfl) ⟨(eqT c47), (hm44.cell 0 rfl rfl), (eqT c48), (hm44.cell 0 rfl rfl), q132.1, g49, (hc135 0 _ rfl), (eqT c50), (hm150.cell 5 rfl rfl), trivial⟩ fun a151 hf152 => ?_
    refine listOf hf152 rfl (by kernel_rfl) (aCall (fid := 11) (args := [.agg #[.slice A24 r23.1.L.length c25]]) (d := 25) hf152 (by kernel_rfl) (by kernel_rfl) callable11 (script_Text.calls _ _ r23.1 A24 r23.1.L.length c25 rfl (hm150.give [6] [.sl kNode A24 c25 r23.1.L] rfl rfl) r51 hr51 (hG.at hm150)) ?_)
    rintro _ w153 a154 ⟨rfl, hk156⟩ hf155
    have hm157 := hm150.still hk156.cum.none
    refine go 7 [.bool false] [0] [(0, .bool false)] [.is ((decide (bs r51 = bs ([97, 100, 100, 32, 105, 58, 48, 32, 105, 58, 49, 10] : List UInt8))) = false)] hf155 (by kernel_rfl) ⟨(seF c52), trivial⟩ fun a158 hf159 => ?_
    refine endL rfl ?_
    have hm160 := hm157.sel [] _ rfl (by kernel_rfl)
    refine thenN ?_
    refine wp_ret ?_
    have hm161 : Mem [] M w0 [] w153 := hm160.sel [] _ rfl (by kernel_rfl)
    obtain rfl := Option.some.inj H0
    refine ret [] [.bool false] [] hf159 (by kernel_rfl) trivial ?_
    exact ⟨_, rfl, rfl, hm161⟩
  obtain ⟨r53, hr53, H0⟩ := ob_split H0
  rcases if_split H0 with ⟨c54, H0⟩ | ⟨c54, H0⟩
  · have q55 := (hm44.slAt 1 rfl).get 0 g49.1 g49.2
    obtain ⟨us56, hr57, hc58⟩ := q55.2
    obtain ⟨A59, c60, A61, c62, A63, c65, A66, c67, A68, c69, rfl, ⟨pA59, sA59⟩, ⟨pA61, sA61⟩, ⟨pA63, sA63⟩, ⟨pA66, sA66⟩, ⟨pA68, sA68⟩⟩ := kNode.open hr57
    have hm70 := hm44.elem pA59 sA59
    have hm71 := hm70.elem pA61 sA61
    have hm72 := hm71.elem pA63 sA63
    have hm73 := hm72.elem pA66 sA66
    have hm74 := hm73.elem pA68 sA68
    refine inReg ?_
    refine go 18 [.bool true, .slice A24 r23.1.L.length c25, .bool true, .slice A24 r23.1.L.length c25, .int .i64 ((rd r23.1.L 0).Op), .bool true, .agg #[.slice A24 r23.1.L.length c25]] [23, 24] [(23, .bool true), (24, .agg #[.slice A24 r23.1.L.length c25])] [.is (((r23.2 : Int) == 0) = true), .cell ⟨b34, 0, none⟩ (.slice A24 r23.1.L.length c25), .is ((((r23.1.L.length : Int) : Int) == 1) = true), .cell ⟨b34, 0, none⟩ (.slice A24 r23.1.L.length c25), .is (Option.isSome A24 = true), .is ((0 : Int) ≤ 0 ∧ 0 < (r23.1.L.length : Int)), .cell ((ad A24).add ((0 : Int).toNat * 7)) (.int .i64 ((rd r23.1.L 0).Op)), .is ((((rd r23.1.L 0).Op : Int) == 4) = true), .cell ⟨b34, 0, none⟩ (.slice A24 r23.1.L.length c25)] hf46 (by kernel_rfl) ⟨(eqT c47), (hm44.cell 0 rfl rfl), (eqT c48), (hm44.cell 0 rfl rfl), q55.1, g49, (hc58 0 _ rfl), (eqT c50), (hm74.cell 5 rfl rfl), trivial⟩ fun a75 hf76 => ?_
    refine listOf hf76 rfl (by kernel_rfl) (aCall (fid := 11) (args := [.agg #[.slice A24 r23.1.L.length c25]]) (d := 25) hf76 (by kernel_rfl) (by kernel_rfl) callable11 (script_Text.calls _ _ r23.1 A24 r23.1.L.length c25 rfl (hm74.give [6] [.sl kNode A24 c25 r23.1.L] rfl rfl) r51 hr51 (hG.at hm74)) ?_)
    rintro _ w77 a78 ⟨rfl, hk80⟩ hf79
    have hm81 := hm74.still hk80.cum.none
    refine go 3 [.bool true] [28] [(28, .bool true)] [.is ((decide (bs r51 = bs ([97, 100, 100, 32, 105, 58, 48, 32, 105, 58, 49, 10] : List UInt8))) = true)] hf79 (by kernel_rfl) ⟨(seT c52), trivial⟩ fun a82 hf83 => ?_
    refine listOf hf83 rfl (by kernel_rfl) (aCall (fid := 15) (args := [.float .f64 4607182418800017408]) (d := 29) hf83 (by kernel_rfl) (by kernel_rfl) callable15 (script_Number.calls _ _ 4607182418800017408 4607182418800017408 ((FR.lit (by kernel_rfl) (by kernel_rfl))) (hm81.give [] [] rfl rfl) r53 hr53) ?_)
    rintro _ w84 a85 ⟨rfl, hk87⟩ hf86
    have hm88 := hm81.still hk87.cum.none
    refine go 3 [.bool true] [0] [(0, .bool true)] [.is ((decide (bs r53 = bs ([51, 102, 102, 48, 48, 48, 48, 48, 48, 48, 48, 48, 48, 48, 48, 48] : List UInt8))) = true)] hf86 (by kernel_rfl) ⟨(seT c54), trivial⟩ fun a89 hf90 => ?_
    refine endL rfl ?_
    have hm91 := hm88.sel [] _ rfl (by kernel_rfl)
    refine thenN ?_
    refine wp_ret ?_
    have hm92 : Mem [] M w0 [] w84 := hm91.sel [] _ rfl (by kernel_rfl)
    obtain rfl := Option.some.inj H0
    refine ret [] [.bool true] [] hf90 (by kernel_rfl) trivial ?_
    exact ⟨_, rfl, rfl, hm92⟩
  have q94 := (hm44.slAt 1 rfl).get 0 g49.1 g49.2
  obtain ⟨us95, hr96, hc97⟩ := q94.2
  obtain ⟨A98, c99, A100, c101, A102, c103, A104, c105, A106, c107, rfl, ⟨pA98, sA98⟩, ⟨pA100, sA100⟩, ⟨pA102, sA102⟩, ⟨pA104, sA104⟩, ⟨pA106, sA106⟩⟩ := kNode.open hr96
  have hm108 := hm44.elem pA98 sA98
  have hm109 := hm108.elem pA100 sA100
  have hm110 := hm109.elem pA102 sA102
  have hm111 := hm110.elem pA104 sA104
  have hm112 := hm111.elem pA106 sA106
  refine inReg ?_
  refine go 18 [.bool true, .slice A24 r23.1.L.length c25, .bool true, .slice A24 r23.1.L.length c25, .int .i64 ((rd r23.1.L 0).Op), .bool true, .agg #[.slice A24 r23.1.L.length c25]] [23, 24] [(23, .bool true), (24, .agg #[.slice A24 r23.1.L.length c25])] [.is (((r23.2 : Int) == 0) = true), .cell ⟨b34, 0, none⟩ (.slice A24 r23.1.L.length c25), .is ((((r23.1.L.length : Int) : Int) == 1) = true), .cell ⟨b34, 0, none⟩ (.slice A24 r23.1.L.length c25), .is (Option.isSome A24 = true), .is ((0 : Int) ≤ 0 ∧ 0 < (r23.1.L.length : Int)), .cell ((ad A24).add ((0 : Int).toNat * 7)) (.int .i64 ((rd r23.1.L 0).Op)), .is ((((rd r23.1.L 0).Op : Int) == 4) = true), .cell ⟨b34, 0, none⟩ (.slice A24 r23.1.L.length c25)] hf46 (by kernel_rfl) ⟨(eqT c47), (hm44.cell 0 rfl rfl), (eqT c48), (hm44.cell 0 rfl rfl), q94.1, g49, (hc97 0 _ rfl), (eqT c50), (hm112.cell 5 rfl rfl), trivial⟩ fun a113 hf114 => ?_
  refine listOf hf114 rfl (by kernel_rfl) (aCall (fid := 11) (args := [.agg #[.slice A24 r23.1.L.length c25]]) (d := 25) hf114 (by kernel_rfl) (by kernel_rfl) callable11 (script_Text.calls _ _ r23.1 A24 r23.1.L.length c25 rfl (hm112.give [6] [.sl kNode A24 c25 r23.1.L] rfl rfl) r51 hr51 (hG.at hm112)) ?_)
  rintro _ w115 a116 ⟨rfl, hk118⟩ hf117
  have hm119 := hm112.still hk118.cum.none
  refine go 3 [.bool true] [28] [(28, .bool true)] [.is ((decide (bs r51 = bs ([97, 100, 100, 32, 105, 58, 48, 32, 105, 58, 49, 10] : List UInt8))) = true)] hf117 (by kernel_rfl) ⟨(seT c52), trivial⟩ fun a120 hf121 => ?_
  refine listOf hf121 rfl (by kernel_rfl) (aCall (fid := 15) (args := [.float .f64 4607182418800017408]) (d := 29) hf121 (by kernel_rfl) (by kernel_rfl) callable15 (script_Number.calls _ _ 4607182418800017408 4607182418800017408 ((FR.lit (by kernel_rfl) (by kernel_rfl))) (hm119.give [] [] rfl rfl) r53 hr53) ?_)
  rintro _ w122 a123 ⟨rfl, hk125⟩ hf124
  have hm126 := hm119.still hk125.cum.none
  refine go 3 [.bool false] [0] [(0, .bool false)] [.is ((decide (bs r53 = bs ([51, 102, 102, 48, 48, 48, 48, 48, 48, 48, 48, 48, 48, 48, 48, 48] : List UInt8))) = false)] hf124 (by kernel_rfl) ⟨(seF c54), trivial⟩ fun a127 hf128 => ?_
  refine endL rfl ?_
  have hm129 := hm126.sel [] _ rfl (by kernel_rfl)
  refine thenN ?_
  refine wp_ret ?_
  have hm130 : Mem [] M w0 [] w122 := hm129.sel [] _ rfl (by kernel_rfl)
  obtain rfl := Option.some.inj H0
  refine ret [] [.bool false] [] hf128 (by kernel_rfl) trivial ?_
  exact ⟨_, rfl, rfl, hm130⟩

/-! ### backstitch/backstitchref19.Parse -/
noncomputable def ref19_Parse.l0 (x0 : (List UInt8)) (s30 : (Int × Int)) : Step (Int × Int) (Out2 (Int × Int) (Nat × Bool)) :=
  if s30.2 < 16 then (if 0 ≤ s30.2 ∧ s30.2 < (x0.length : Int) then (if 48 ≤ (chr x0 s30.2) then (if (chr x0 s30.2) ≤ 57 then (.next ((bits .or .u64 (IntKind.wrap .u64 (s30.1 * 2 ^ 4)) (IntKind.wrap .u64 ((IntKind.wrap .u8 ((chr x0 s30.2) - 48))))), (w64 (s30.2 + 1))))
  else (if 97 ≤ (chr x0 s30.2) then (if (chr x0 s30.2) ≤ 102 then (.next ((bits .or .u64 (IntKind.wrap .u64 (s30.1 * 2 ^ 4)) (IntKind.wrap .u64 ((IntKind.wrap .u8 ((IntKind.wrap .u8 ((chr x0 s30.2) - 97)) + 10))))), (w64 (s30.2 + 1))))
  else (.done (.ret (0, false))))
  else (.done (.ret (0, false)))))
  else (if 97 ≤ (chr x0 s30.2) then (if (chr x0 s30.2) ≤ 102 then (.next ((bits .or .u64 (IntKind.wrap .u64 (s30.1 * 2 ^ 4)) (IntKind.wrap .u64 ((IntKind.wrap .u8 ((IntKind.wrap .u8 ((chr x0 s30.2) - 97)) + 10))))), (w64 (s30.2 + 1))))
  else (.done (.ret (0, false))))
  else (.done (.ret (0, false)))))
  else .bad)
  else (.done (.go (s30.1, s30.2)))
noncomputable def ref19_Parse.f (x0 : (List UInt8)) : Option (Nat × Bool) :=
  if (x0.length : Int) = 16 then ((loop (ref19_Parse.l0 x0) (0, 0)).bind fun r31 =>
  r31.on (fun yr31 =>
  if 0 ≤ yr31.1 ∧ yr31.1 < 18446744073709551616 then (if (fne (canon (yr31.1).toNat) (canon (yr31.1).toNat)) = true then (if yr31.1 = 9221120237041090561 then (some ((canon (yr31.1).toNat), true))
  else (some (0, false)))
  else (some ((canon (yr31.1).toNat), true)))
  else none) (fun y => some y))
  else (some (0, false))
set_option maxRecDepth 100000 in
set_option maxHeartbeats 4000000 in
theorem ref19_Parse.calls (M : List (Option Nat)) (w0 : World) (x0 : (List UInt8)) (hm0 : Mem [] M w0 [] w0) (r : (Nat × Bool)) (H0 : ref19_Parse.f x0 = some r) :
    Calls Tryd.prog 18 [.string (bs x0)].toArray w0 (fun x w' => ∃ v, x = .returned v ∧ ∃ br0, v = .tuple #[.float .f64 br0, .bool r.2] ∧ FR br0 r.1 ∧ Mem [] M w0 [] w') := by
  unfold ref19_Parse.f at H0
  refine enter (n := 63) Tryd.func18 rfl rfl (by kernel_rfl) fun a0 (hf0 : Fr 63 a0 [(0, .string (bs x0))]) => ?_
  refine wp_seq ?_
  refine reg [] [0] [(0, .string (bs x0))] [] hf0 (by kernel_rfl) trivial fun a21 hf22 => ?_
  refine thenN ?_
  refine wp_seq ?_
  refine wp_seq ?_
  rcases if_split H0 with ⟨c23, H0⟩ | ⟨c23, H0⟩
  rotate_left
  · refine reg [.bool true] [0, 9] [(0, .string (bs x0)), (9, .bool true)] [.is ((((x0.length : Int) : Int) != 16) = true)] hf22 (by kernel_rfl) ⟨(neT c23), trivial⟩ fun a129 hf130 => ?_
    refine thenN ?_
    refine condT hf130 (by kernel_rfl) ?_
    refine wp_seq ?_
    refine reg [] [2, 3] [(2, .float .f64 0), (3, .bool false)] [] hf130 (by kernel_rfl) trivial fun a131 hf132 => ?_
    refine thenN ?_
    refine wp_ret ?_
    refine thenR ?_
    have hm133 : Mem [] M w0 [] w0 := hm0.sel [] _ rfl (by kernel_rfl)
    obtain rfl := Option.some.inj H0
    refine ret [] [.float .f64 0, .bool false] [] hf132 (by kernel_rfl) trivial ?_
    exact ⟨_, rfl, 0, rfl, (FR.lit (by kernel_rfl) (by kernel_rfl)), hm133⟩
  refine reg [.bool false] [0, 9] [(0, .string (bs x0)), (9, .bool false)] [.is ((((x0.length : Int) : Int) != 16) = false)] hf22 (by kernel_rfl) ⟨(neF c23), trivial⟩ fun a24 hf25 => ?_
  refine thenN ?_
  refine condF hf25 (by kernel_rfl) ?_
  refine wp_skip ?_
  refine thenN ?_
  refine wp_seq ?_
  refine reg [] [0, 4] [(0, .string (bs x0)), (4, .int .u64 0)] [] hf25 (by kernel_rfl) trivial fun a26 hf27 => ?_
  refine thenN ?_
  refine wp_seq ?_
  refine wp_seq ?_
  refine reg [] [0, 4, 5] [(0, .string (bs x0)), (4, .int .u64 0), (5, .int .i64 0)] [] hf27 (by kernel_rfl) trivial fun a28 hf29 => ?_
  refine thenN ?_
  obtain ⟨r31, hr31, H0⟩ := ob_split H0
  refine wpBlock (Mid := fun (a : Act) (w : World) => ∃ yr31 : (Int × Int), r31 = .go yr31 ∧ Fr 63 a [(0, .string (bs x0)), (4, .int .u64 yr31.1), (5, .int .i64 yr31.2)] ∧ Mem [] M w0 [] w) ?_ ?_
  · refine wpLoop (ref19_Parse.l0 x0) r31 (fun (s30 : (Int × Int)) (a : Act) (w : World) => Fr 63 a [(0, .string (bs x0)), (4, .int .u64 s30.1), (5, .int .i64 s30.2)] ∧ Mem [] M w0 [] w) (0, 0) hr31 ⟨hf29.sel (l := [0, 4, 5]) (by kernel_rfl), hm0.sel [] _ rfl (by kernel_rfl)⟩ ?_
    rintro g32 s30 a33 w34 H1 ⟨hf35, hm36⟩
    unfold ref19_Parse.l0 at H1
    refine wp_seq ?_
    refine wp_seq ?_
    rcases ifS_split H1 with ⟨c37, H1⟩ | ⟨c37, H1⟩
    rotate_left
    · refine reg [.bool false] [0, 4, 5, 11] [(0, .string (bs x0)), (4, .int .u64 s30.1), (5, .int .i64 s30.2), (11, .bool false)] [.is (decide (s30.2 < 16) = false)] hf35 (by kernel_rfl) ⟨(decide_eq_false c37), trivial⟩ fun a94 hf95 => ?_
      refine thenN ?_
      refine condF hf95 (by kernel_rfl) ?_
      refine wp_exit ?_
      refine thenE ?_
      refine thenE ?_
      obtain rfl := Option.some.inj H1
      exact .inl ⟨rfl, (s30.1, s30.2), rfl, hf95.sel (l := [0, 4, 5]) (by kernel_rfl), hm36.sel [] _ rfl (by kernel_rfl)⟩
    refine reg [.bool true] [0, 4, 5, 11] [(0, .string (bs x0)), (4, .int .u64 s30.1), (5, .int .i64 s30.2), (11, .bool true)] [.is (decide (s30.2 < 16) = true)] hf35 (by kernel_rfl) ⟨(decide_eq_true c37), trivial⟩ fun a38 hf39 => ?_
    refine thenN ?_
    refine condT hf39 (by kernel_rfl) ?_
    refine wp_skip ?_
    refine thenN ?_
    refine wp_seq ?_
    refine wp_block ?_
    refine wp_block ?_
    refine wp_seq ?_
    obtain ⟨g40, H1⟩ := ifS_guard H1
    rcases ifS_split H1 with ⟨c41, H1⟩ | ⟨c41, H1⟩
    rotate_left
    · refine reg [.int .u8 (chr x0 s30.2), .bool false] [0, 4, 5, 14] [(0, .string (bs x0)), (4, .int .u64 s30.1), (5, .int .i64 s30.2), (14, .bool false)] [.is (0 ≤ s30.2 ∧ s30.2 < (x0.length : Int)), .is ((((bs x0)[(s30.2).toNat]?).getD 0).toNat = (chr x0 s30.2)), .is (decide (48 ≤ (chr x0 s30.2)) = false)] hf39 (by kernel_rfl) ⟨g40, (chr_eq x0 s30.2), (decide_eq_false c41), trivial⟩ fun a72 hf73 => ?_
      refine thenN ?_
      refine condF hf73 (by kernel_rfl) ?_
      refine wp_seq ?_
      rcases ifS_split H1 with ⟨c74, H1⟩ | ⟨c74, H1⟩
      rotate_left
      · refine reg [.int .u8 (chr x0 s30.2), .bool false] [0, 4, 5, 33] [(0, .string (bs x0)), (4, .int .u64 s30.1), (5, .int .i64 s30.2), (33, .bool false)] [.is (0 ≤ s30.2 ∧ s30.2 < (x0.length : Int)), .is ((((bs x0)[(s30.2).toNat]?).getD 0).toNat = (chr x0 s30.2)), .is (decide (97 ≤ (chr x0 s30.2)) = false)] hf73 (by kernel_rfl) ⟨g40, (chr_eq x0 s30.2), (decide_eq_false c74), trivial⟩ fun a88 hf89 => ?_
        refine thenN ?_
        refine condF hf89 (by kernel_rfl) ?_
        refine wp_seq ?_
        refine reg [] [2, 3] [(2, .float .f64 0), (3, .bool false)] [] hf89 (by kernel_rfl) trivial fun a90 hf91 => ?_
        refine thenN ?_
        refine wp_ret ?_
        refine blkR ?_
        refine blkR ?_
        refine thenR ?_
        refine thenR ?_
        refine .inr ⟨rfl, ?_⟩
        refine thenR ?_
        have hm92 : Mem [] M w0 [] w34 := hm36.sel [] _ rfl (by kernel_rfl)
        obtain rfl := Option.some.inj H1
        obtain rfl := Option.some.inj H0
        refine ret [] [.float .f64 0, .bool false] [] hf91 (by kernel_rfl) trivial ?_
        exact ⟨_, rfl, 0, rfl, (FR.lit (by kernel_rfl) (by kernel_rfl)), hm92⟩
      rcases ifS_split H1 with ⟨c75, H1⟩ | ⟨c75, H1⟩
      · refine reg [.int .u8 (chr x0 s30.2), .bool true, .int .u8 (chr x0 s30.2), .bool true] [0, 4, 5, 33] [(0, .string (bs x0)), (4, .int .u64 s30.1), (5, .int .i64 s30.2), (33, .bool true)] [.is (0 ≤ s30.2 ∧ s30.2 < (x0.length : Int)), .is ((((bs x0)[(s30.2).toNat]?).getD 0).toNat = (chr x0 s30.2)), .is (decide (97 ≤ (chr x0 s30.2)) = true), .is (0 ≤ s30.2 ∧ s30.2 < (x0.length : Int)), .is ((((bs x0)[(s30.2).toNat]?).getD 0).toNat = (chr x0 s30.2)), .is (decide ((chr x0 s30.2) ≤ 102) = true)] hf73 (by kernel_rfl) ⟨g40, (chr_eq x0 s30.2), (decide_eq_true c74), g40, (chr_eq x0 s30.2), (decide_eq_true c75), trivial⟩ fun a76 hf77 => ?_
        refine thenN ?_
        refine condT hf77 (by kernel_rfl) ?_
        refine reg [.int .u8 (chr x0 s30.2)] [0, 4, 5] [(0, .string (bs x0)), (4, .int .u64 (bits .or .u64 (IntKind.wrap .u64 (s30.1 * 2 ^ 4)) (IntKind.wrap .u64 ((IntKind.wrap .u8 ((IntKind.wrap .u8 ((chr x0 s30.2) - 97)) + 10)))))), (5, .int .i64 s30.2)] [.is (0 ≤ s30.2 ∧ s30.2 < (x0.length : Int)), .is ((((bs x0)[(s30.2).toNat]?).getD 0).toNat = (chr x0 s30.2))] hf77 (by kernel_rfl) ⟨g40, (chr_eq x0 s30.2), trivial⟩ fun a78 hf79 => ?_
        refine blkN ?_
        refine blkN ?_
        refine thenN ?_
        refine reg [] [0, 4, 5] [(0, .string (bs x0)), (4, .int .u64 (bits .or .u64 (IntKind.wrap .u64 (s30.1 * 2 ^ 4)) (IntKind.wrap .u64 ((IntKind.wrap .u8 ((IntKind.wrap .u8 ((chr x0 s30.2) - 97)) + 10)))))), (5, .int .i64 (w64 (s30.2 + 1)))] [] hf79 (by kernel_rfl) trivial fun a80 hf81 => ?_
        exact ⟨((bits .or .u64 (IntKind.wrap .u64 (s30.1 * 2 ^ 4)) (IntKind.wrap .u64 ((IntKind.wrap .u8 ((IntKind.wrap .u8 ((chr x0 s30.2) - 97)) + 10))))), (w64 (s30.2 + 1))), H1, hf81.sel (l := [0, 4, 5]) (by kernel_rfl), hm36.sel [] _ rfl (by kernel_rfl)⟩
      refine reg [.int .u8 (chr x0 s30.2), .bool true, .int .u8 (chr x0 s30.2), .bool false] [0, 4, 5, 33] [(0, .string (bs x0)), (4, .int .u64 s30.1), (5, .int .i64 s30.2), (33, .bool false)] [.is (0 ≤ s30.2 ∧ s30.2 < (x0.length : Int)), .is ((((bs x0)[(s30.2).toNat]?).getD 0).toNat = (chr x0 s30.2)), .is (decide (97 ≤ (chr x0 s30.2)) = true), .is (0 ≤ s30.2 ∧ s30.2 < (x0.length : Int)), .is ((((bs x0)[(s30.2).toNat]?).getD 0).toNat = (chr x0 s30.2)), .is (decide ((chr x0 s30.2) ≤ 102) = false)] hf73 (by kernel_rfl) ⟨g40, (chr_eq x0 s30.2), (decide_eq_true c74), g40, (chr_eq x0 s30.2), (decide_eq_false c75), trivial⟩ fun a82 hf83 => ?_
      refine thenN ?_
      refine condF hf83 (by kernel_rfl) ?_
      refine wp_seq ?_
      refine reg [] [2, 3] [(2, .float .f64 0), (3, .bool false)] [] hf83 (by kernel_rfl) trivial fun a84 hf85 => ?_
      refine thenN ?_
      refine wp_ret ?_
      refine blkR ?_
      refine blkR ?_
      refine thenR ?_
      refine thenR ?_
      refine .inr ⟨rfl, ?_⟩
      refine thenR ?_
      have hm86 : Mem [] M w0 [] w34 := hm36.sel [] _ rfl (by kernel_rfl)
      obtain rfl := Option.some.inj H1
      obtain rfl := Option.some.inj H0
      refine ret [] [.float .f64 0, .bool false] [] hf85 (by kernel_rfl) trivial ?_
      exact ⟨_, rfl, 0, rfl, (FR.lit (by kernel_rfl) (by kernel_rfl)), hm86⟩
    rcases ifS_split H1 with ⟨c42, H1⟩ | ⟨c42, H1⟩
    · refine reg [.int .u8 (chr x0 s30.2), .bool true, .int .u8 (chr x0 s30.2), .bool true] [0, 4, 5, 14] [(0, .string (bs x0)), (4, .int .u64 s30.1), (5, .int .i64 s30.2), (14, .bool true)] [.is (0 ≤ s30.2 ∧ s30.2 < (x0.length : Int)), .is ((((bs x0)[(s30.2).toNat]?).getD 0).toNat = (chr x0 s30.2)), .is (decide (48 ≤ (chr x0 s30.2)) = true), .is (0 ≤ s30.2 ∧ s30.2 < (x0.length : Int)), .is ((((bs x0)[(s30.2).toNat]?).getD 0).toNat = (chr x0 s30.2)), .is (decide ((chr x0 s30.2) ≤ 57) = true)] hf39 (by kernel_rfl) ⟨g40, (chr_eq x0 s30.2), (decide_eq_true c41), g40, (chr_eq x0 s30.2), (decide_eq_true c42), trivial⟩ fun a43 hf44 => ?_
      refine thenN ?_
      refine condT hf44 (by kernel_rfl) ?_
      refine reg [.int .u8 (chr x0 s30.2)] [0, 4, 5] [(0, .string (bs x0)), (4, .int .u64 (bits .or .u64 (IntKind.wrap .u64 (s30.1 * 2 ^ 4)) (IntKind.wrap .u64 ((IntKind.wrap .u8 ((chr x0 s30.2) - 48)))))), (5, .int .i64 s30.2)] [.is (0 ≤ s30.2 ∧ s30.2 < (x0.length : Int)), .is ((((bs x0)[(s30.2).toNat]?).getD 0).toNat = (chr x0 s30.2))] hf44 (by kernel_rfl) ⟨g40, (chr_eq x0 s30.2), trivial⟩ fun a45 hf46 => ?_
      refine blkN ?_
      refine blkN ?_
      refine thenN ?_
      refine reg [] [0, 4, 5] [(0, .string (bs x0)), (4, .int .u64 (bits .or .u64 (IntKind.wrap .u64 (s30.1 * 2 ^ 4)) (IntKind.wrap .u64 ((IntKind.wrap .u8 ((chr x0 s30.2) - 48)))))), (5, .int .i64 (w64 (s30.2 + 1)))] [] hf46 (by kernel_rfl) trivial fun a47 hf48 => ?_
      exact ⟨((bits .or .u64 (IntKind.wrap .u64 (s30.1 * 2 ^ 4)) (IntKind.wrap .u64 ((IntKind.wrap .u8 ((chr x0 s30.2) - 48))))), (w64 (s30.2 + 1))), H1, hf48.sel (l := [0, 4, 5]) (by kernel_rfl), hm36.sel [] _ rfl (by kernel_rfl)⟩
    refine reg [.int .u8 (chr x0 s30.2), .bool true, .int .u8 (chr x0 s30.2), .bool false] [0, 4, 5, 14] [(0, .string (bs x0)), (4, .int .u64 s30.1), (5, .int .i64 s30.2), (14, .bool false)] [.is (0 ≤ s30.2 ∧ s30.2 < (x0.length : Int)), .is ((((bs x0)[(s30.2).toNat]?).getD 0).toNat = (chr x0 s30.2)), .is (decide (48 ≤ (chr x0 s30.2)) = true), .is (0 ≤ s30.2 ∧ s30.2 < (x0.length : Int)), .is ((((bs x0)[(s30.2).toNat]?).getD 0).toNat = (chr x0 s30.2)), .is (decide ((chr x0 s30.2) ≤ 57) = false)] hf39 (by kernel_rfl) ⟨g40, (chr_eq x0 s30.2), (decide_eq_true c41), g40, (chr_eq x0 s30.2), (decide_eq_false c42), trivial⟩ fun a49 hf50 => ?_
    refine thenN ?_
    refine condF hf50 (by kernel_rfl) ?_
    refine wp_seq ?_
    rcases ifS_split H1 with ⟨c51, H1⟩ | ⟨c51, H1⟩
    rotate_left
    · refine reg [.int .u8 (chr x0 s30.2), .bool false] [0, 4, 5, 33] [(0, .string (bs x0)), (4, .int .u64 s30.1), (5, .int .i64 s30.2), (33, .bool false)] [.is (0 ≤ s30.2 ∧ s30.2 < (x0.length : Int)), .is ((((bs x0)[(s30.2).toNat]?).getD 0).toNat = (chr x0 s30.2)), .is (decide (97 ≤ (chr x0 s30.2)) = false)] hf50 (by kernel_rfl) ⟨g40, (chr_eq x0 s30.2), (decide_eq_false c51), trivial⟩ fun a66 hf67 => ?_
      refine thenN ?_
      refine condF hf67 (by kernel_rfl) ?_
      refine wp_seq ?_
      refine reg [] [2, 3] [(2, .float .f64 0), (3, .bool false)] [] hf67 (by kernel_rfl) trivial fun a68 hf69 => ?_
      refine thenN ?_
      refine wp_ret ?_
      refine blkR ?_
      refine blkR ?_
      refine thenR ?_
      refine thenR ?_
      refine .inr ⟨rfl, ?_⟩
      refine thenR ?_
      have hm70 : Mem [] M w0 [] w34 := hm36.sel [] _ rfl (by kernel_rfl)
      obtain rfl := Option.some.inj H1
      obtain rfl := Option.some.inj H0
      refine ret [] [.float .f64 0, .bool false] [] hf69 (by kernel_rfl) trivial ?_
      exact ⟨_, rfl, 0, rfl, (FR.lit (by kernel_rfl) (by kernel_rfl)), hm70⟩
    rcases ifS_split H1 with ⟨c52, H1⟩ | ⟨c52, H1⟩
    · refine reg [.int .u8 (chr x0 s30.2), .bool true, .int .u8 (chr x0 s30.2), .bool true] [0, 4, 5, 33] [(0, .string (bs x0)), (4, .int .u64 s30.1), (5, .int .i64 s30.2), (33, .bool true)] [.is (0 ≤ s30.2 ∧ s30.2 < (x0.length : Int)), .is ((((bs x0)[(s30.2).toNat]?).getD 0).toNat = (chr x0 s30.2)), .is (decide (97 ≤ (chr x0 s30.2)) = true), .is (0 ≤ s30.2 ∧ s30.2 < (x0.length : Int)), .is ((((bs x0)[(s30.2).toNat]?).getD 0).toNat = (chr x0 s30.2)), .is (decide ((chr x0 s30.2) ≤ 102) = true)] hf50 (by kernel_rfl) ⟨g40, (chr_eq x0 s30.2), (decide_eq_true c51), g40, (chr_eq x0 s30.2), (decide_eq_true c52), trivial⟩ fun a53 hf54 => ?_
      refine thenN ?_
      refine condT hf54 (by kernel_rfl) ?_
      refine reg [.int .u8 (chr x0 s30.2)] [0, 4, 5] [(0, .string (bs x0)), (4, .int .u64 (bits .or .u64 (IntKind.wrap .u64 (s30.1 * 2 ^ 4)) (IntKind.wrap .u64 ((IntKind.wrap .u8 ((IntKind.wrap .u8 ((chr x0 s30.2) - 97)) + 10)))))), (5, .int .i64 s30.2)] [.is (0 ≤ s30.2 ∧ s30.2 < (x0.length : Int)), .is ((((bs x0)[(s30.2).toNat]?).getD 0).toNat = (chr x0 s30.2))] hf54 (by kernel_rfl) ⟨g40, (chr_eq x0 s30.2), trivial⟩ fun a55 hf56 => ?_
      refine blkN ?_
      refine blkN ?_
      refine thenN ?_
      refine reg [] [0, 4, 5] [(0, .string (bs x0)), (4, .int .u64 (bits .or .u64 (IntKind.wrap .u64 (s30.1 * 2 ^ 4)) (IntKind.wrap .u64 ((IntKind.wrap .u8 ((IntKind.wrap .u8 ((chr x0 s30.2) - 97)) + 10)))))), (5, .int .i64 (w64 (s30.2 + 1)))] [] hf56 (by kernel_rfl) trivial fun a57 hf58 => ?_
      exact ⟨((bits .or .u64 (IntKind.wrap .u64 (s30.1 * 2 ^ 4)) (IntKind.wrap .u64 ((IntKind.wrap .u8 ((IntKind.wrap .u8 ((chr x0 s30.2) - 97)) + 10))))), (w64 (s30.2 + 1))), H1, hf58.sel (l := [0, 4, 5]) (by kernel_rfl), hm36.sel [] _ rfl (by kernel_rfl)⟩
    refine reg [.int .u8 (chr x0 s30.2), .bool true, .int .u8 (chr x0 s30.2), .bool false] [0, 4, 5, 33] [(0, .string (bs x0)), (4, .int .u64 s30.1), (5, .int .i64 s30.2), (33, .bool false)] [.is (0 ≤ s30.2 ∧ s30.2 < (x0.length : Int)), .is ((((bs x0)[(s30.2).toNat]?).getD 0).toNat = (chr x0 s30.2)), .is (decide (97 ≤ (chr x0 s30.2)) = true), .is (0 ≤ s30.2 ∧ s30.2 < (x0.length : Int)), .is ((((bs x0)[(s30.2).toNat]?).getD 0).toNat = (chr x0 s30.2)), .is (decide ((chr x0 s30.2) ≤ 102) = false)] hf50 (by kernel_rfl) ⟨g40, (chr_eq x0 s30.2), (decide_eq_true c51), g40, (chr_eq x0 s30.2), (decide_eq_false c52), trivial⟩ fun a59 hf60 => ?_
    refine thenN ?_
    refine condF hf60 (by kernel_rfl) ?_
    refine wp_seq ?_
    refine reg [] [2, 3] [(2, .float .f64 0), (3, .bool false)] [] hf60 (by kernel_rfl) trivial fun a61 hf62 => ?_
    refine thenN ?_
    refine wp_ret ?_
    refine blkR ?_
    refine blkR ?_
    refine thenR ?_
    refine thenR ?_
    refine .inr ⟨rfl, ?_⟩
    refine thenR ?_
    have hm63 : Mem [] M w0 [] w34 := hm36.sel [] _ rfl (by kernel_rfl)
    obtain rfl := Option.some.inj H1
    obtain rfl := Option.some.inj H0
    refine ret [] [.float .f64 0, .bool false] [] hf62 (by kernel_rfl) trivial ?_
    exact ⟨_, rfl, 0, rfl, (FR.lit (by kernel_rfl) (by kernel_rfl)), hm63⟩
  rintro a96 w97 ⟨yr31, rfl, hf98, hm99⟩
  refine thenN ?_
  refine wp_seq ?_
  obtain ⟨g100, H0⟩ := if_guard H0
  refine inReg ?_
  refine go 1 [] [4, 53] [(4, .int .u64 yr31.1), (53, .int .u64 yr31.1)] [] hf98 (by kernel_rfl) trivial fun a101 hf102 => ?_
  refine listOf hf102 rfl (by kernel_rfl) (aExtern (fid := 17) (args := [.int .u64 yr31.1]) (d := 54) (R := fun v w' => v = .float .f64 ((yr31.1).toNat) ∧ w97 = w') hf102 (by kernel_rfl) (by kernel_rfl) ⟨_, Tryd.func17, rfl, rfl, by kernel_rfl, rfl⟩ ⟨_, _, (by have h := run_frombits (P := Tryd.prog) (w := w97) (yr31.1).toNat; rwa [Int.toNat_of_nonneg g100.1] at h), rfl, rfl⟩ ?_)
  rintro _ _ a104 ⟨rfl, rfl⟩ hf105
  have h106 : FR ((yr31.1).toNat) (canon (yr31.1).toNat) := (FR.canon (by omega))
  refine go 1 [] [4, 6] [(4, .int .u64 yr31.1), (6, .float .f64 ((yr31.1).toNat))] [] hf105 (by kernel_rfl) trivial fun a107 hf108 => ?_
  refine endL rfl ?_
  refine thenN ?_
  refine wp_seq ?_
  refine wp_seq ?_
  rcases ifb_split H0 with ⟨c109, H0⟩ | ⟨c109, H0⟩
  rotate_left
  · refine reg [.bool false] [6, 61] [(6, .float .f64 ((yr31.1).toNat)), (61, .bool false)] [.is ((FloatKind.f64.format.order ((yr31.1).toNat) ((yr31.1).toNat) != some .eq) = false)] hf108 (by kernel_rfl) ⟨(ftNe h106 h106 c109), trivial⟩ fun a123 hf124 => ?_
    refine thenN ?_
    refine condF hf124 (by kernel_rfl) ?_
    refine wp_skip ?_
    refine thenN ?_
    refine wp_seq ?_
    refine reg [] [2, 3] [(2, .float .f64 ((yr31.1).toNat)), (3, .bool true)] [] hf124 (by kernel_rfl) trivial fun a125 hf126 => ?_
    refine thenN ?_
    refine wp_ret ?_
    have hm127 : Mem [] M w0 [] w97 := hm99.sel [] _ rfl (by kernel_rfl)
    obtain rfl := Option.some.inj H0
    refine ret [] [.float .f64 ((yr31.1).toNat), .bool true] [] hf126 (by kernel_rfl) trivial ?_
    exact ⟨_, rfl, (yr31.1).toNat, rfl, h106, hm127⟩
  rcases if_split H0 with ⟨c110, H0⟩ | ⟨c110, H0⟩
  rotate_left
  · refine reg [.bool true, .bool true] [6, 61] [(6, .float .f64 ((yr31.1).toNat)), (61, .bool true)] [.is ((FloatKind.f64.format.order ((yr31.1).toNat) ((yr31.1).toNat) != some .eq) = true), .is (((yr31.1 : Int) != 9221120237041090561) = true)] hf108 (by kernel_rfl) ⟨(ftNe h106 h106 c109), (neT c110), trivial⟩ fun a117 hf118 => ?_
    refine thenN ?_
    refine condT hf118 (by kernel_rfl) ?_
    refine wp_seq ?_
    refine reg [] [2, 3] [(2, .float .f64 0), (3, .bool false)] [] hf118 (by kernel_rfl) trivial fun a119 hf120 => ?_
    refine thenN ?_
    refine wp_ret ?_
    refine thenR ?_
    have hm121 : Mem [] M w0 [] w97 := hm99.sel [] _ rfl (by kernel_rfl)
    obtain rfl := Option.some.inj H0
    refine ret [] [.float .f64 0, .bool false] [] hf120 (by kernel_rfl) trivial ?_
    exact ⟨_, rfl, 0, rfl, (FR.lit (by kernel_rfl) (by kernel_rfl)), hm121⟩
  refine reg [.bool true, .bool false] [6, 61] [(6, .float .f64 ((yr31.1).toNat)), (61, .bool false)] [.is ((FloatKind.f64.format.order ((yr31.1).toNat) ((yr31.1).toNat) != some .eq) = true), .is (((yr31.1 : Int) != 9221120237041090561) = false)] hf108 (by kernel_rfl) ⟨(ftNe h106 h106 c109), (neF c110), trivial⟩ fun a111 hf112 => ?_
  refine thenN ?_
  refine condF hf112 (by kernel_rfl) ?_
  refine wp_skip ?_
  refine thenN ?_
  refine wp_seq ?_
  refine reg [] [2, 3] [(2, .float .f64 ((yr31.1).toNat)), (3, .bool true)] [] hf112 (by kernel_rfl) trivial fun a113 hf114 => ?_
  refine thenN ?_
  refine wp_ret ?_
  have hm115 : Mem [] M w0 [] w97 := hm99.sel [] _ rfl (by kernel_rfl)
  obtain rfl := Option.some.inj H0
  refine ret [] [.float .f64 ((yr31.1).toNat), .bool true] [] hf114 (by kernel_rfl) trivial ?_
  exact ⟨_, rfl, (yr31.1).toNat, rfl, h106, hm115⟩

/-! ### backstitch/backstitchref1.Bits -/
noncomputable def ref1_Bits.f (x0 : Nat) : Option Int :=
  if (fne x0 x0) = true then (some 9221120237041090561)
  else (some (x0 : Int))
set_option maxRecDepth 100000 in
set_option maxHeartbeats 4000000 in
theorem ref1_Bits.calls (M : List (Option Nat)) (w0 : World) (x0 : Nat) (b0 : Nat) (h0 : FR b0 x0) (hm0 : Mem [] M w0 [] w0) (r : Int) (H0 : ref1_Bits.f x0 = some r) :
    Calls Tryd.prog 35 [.float .f64 b0].toArray w0 (fun x w' => ∃ v, x = .returned v ∧ v = .int .u64 r ∧ Mem [] M w0 [] w') := by
  unfold ref1_Bits.f at H0
  refine enter (n := 8) Tryd.func35 rfl rfl (by kernel_rfl) fun a0 (hf0 : Fr 8 a0 [(0, .float .f64 b0)]) => ?_
  refine wp_seq ?_
  refine reg [] [0] [(0, .float .f64 b0)] [] hf0 (by kernel_rfl) trivial fun a21 hf22 => ?_
  refine thenN ?_
  refine wp_seq ?_
  refine wp_seq ?_
  rcases ifb_split H0 with ⟨c23, H0⟩ | ⟨c23, H0⟩
  · refine reg [.bool true] [0, 5] [(0, .float .f64 b0), (5, .bool true)] [.is ((FloatKind.f64.format.order b0 b0 != some .eq) = true)] hf22 (by kernel_rfl) ⟨(ftNe h0 h0 c23), trivial⟩ fun a24 hf25 => ?_
    refine thenN ?_
    refine condT hf25 (by kernel_rfl) ?_
    refine wp_seq ?_
    refine reg [] [2] [(2, .int .u64 9221120237041090561)] [] hf25 (by kernel_rfl) trivial fun a26 hf27 => ?_
    refine thenN ?_
    refine wp_ret ?_
    refine thenR ?_
    have hm28 : Mem [] M w0 [] w0 := hm0.sel [] _ rfl (by kernel_rfl)
    obtain rfl := Option.some.inj H0
    refine ret [] [.int .u64 9221120237041090561] [] hf27 (by kernel_rfl) trivial ?_
    exact ⟨_, rfl, rfl, hm28⟩
  refine reg [.bool false] [0, 5] [(0, .float .f64 b0), (5, .bool false)] [.is ((FloatKind.f64.format.order b0 b0 != some .eq) = false)] hf22 (by kernel_rfl) ⟨(ftNe h0 h0 c23), trivial⟩ fun a30 hf31 => ?_
  refine thenN ?_
  refine condF hf31 (by kernel_rfl) ?_
  refine wp_skip ?_
  refine thenN ?_
  refine wp_seq ?_
  refine inReg ?_
  refine go 1 [] [6] [(6, .float .f64 b0)] [] hf31 (by kernel_rfl) trivial fun a32 hf33 => ?_
  refine listOf hf33 rfl (by kernel_rfl) (aExtern (fid := 45) (args := [.float .f64 b0]) (d := 7) (R := fun v w' => v = .int .u64 (x0 : Int) ∧ w0 = w') hf33 (by kernel_rfl) (by kernel_rfl) ⟨_, Tryd.func45, rfl, rfl, by kernel_rfl, rfl⟩ ⟨_, _, run_bits _, by rw [FR.bits h0 c23], rfl⟩ ?_)
  rintro _ _ a35 ⟨rfl, rfl⟩ hf36
  refine go 1 [] [2] [(2, .int .u64 (x0 : Int))] [] hf36 (by kernel_rfl) trivial fun a37 hf38 => ?_
  refine endL rfl ?_
  refine thenN ?_
  refine wp_ret ?_
  have hm39 : Mem [] M w0 [] w0 := hm0.sel [] _ rfl (by kernel_rfl)
  obtain rfl := Option.some.inj H0
  refine ret [] [.int .u64 (x0 : Int)] [] hf38 (by kernel_rfl) trivial ?_
  exact ⟨_, rfl, rfl, hm39⟩
end Go.Proofs.YtkdhahdfkonilaaDoor
