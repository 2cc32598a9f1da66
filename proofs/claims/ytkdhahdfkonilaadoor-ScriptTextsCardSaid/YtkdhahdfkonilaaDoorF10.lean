/- Printed by gen.py. -/
import Derived.Test.YtkdhahdfkonilaaDoorF8
import Derived.Test.YtkdhahdfkonilaaDoorF9
namespace Go.Proofs.YtkdhahdfkonilaaDoor
open Go Go.RowKit
set_option linter.unusedSimpArgs false
set_option linter.unusedVariables false
set_option linter.unnecessarySimpa false
/-! ### backstitch/backstitchref19.Text -/
noncomputable def ref19_Text.l1 (x0 : Graph) (s44 : ((List UInt8) × Int)) (s197 : ((List UInt8) × Int)) : Step ((List UInt8) × Int) ((List UInt8) × Int) :=
  if s197.2 < (((((rd x0.L s44.2).Val).Data).length : Nat) : Int) then (if s197.1.length + ([32, 118, 58] : List UInt8).length ≤ 9223372036854775807 then (if 0 ≤ s197.2 ∧ s197.2 < (((((rd x0.L s44.2).Val).Data).length : Nat) : Int) then (bindS (ref19_Number.f (rd (((rd x0.L s44.2).Val).Data) s197.2)) fun r209 =>
  if (s197.1 ++ ([32, 118, 58] : List UInt8)).length + r209.length ≤ 9223372036854775807 then (.next (((s197.1 ++ ([32, 118, 58] : List UInt8)) ++ r209), (w64 (s197.2 + 1))))
  else .bad)
  else .bad)
  else .bad)
  else (.done (s197.1, s197.2))
noncomputable def ref19_Text.l2 (x0 : Graph) (s44 : ((List UInt8) × Int)) (s232 : ((List UInt8) × Int)) : Step ((List UInt8) × Int) (Out2 ((List UInt8) × Int) (List UInt8)) :=
  if s232.2 < ((((rd x0.L s44.2).Hooks).length : Nat) : Int) then (if 0 ≤ s232.2 ∧ s232.2 < ((((rd x0.L s44.2).Hooks).length : Nat) : Int) then (if (rd ((rd x0.L s44.2).Hooks) s232.2).Do < 0 then (.done (.ret ([] : List UInt8)))
  else (if 999999999 < (rd ((rd x0.L s44.2).Hooks) s232.2).Do then (.done (.ret ([] : List UInt8)))
  else (if s232.1.length + ([32, 104, 58] : List UInt8).length ≤ 9223372036854775807 then (bindS (ref19_decimal.f ((rd ((rd x0.L s44.2).Hooks) s232.2).Do)) fun r287 =>
  if (s232.1 ++ ([32, 104, 58] : List UInt8)).length + r287.length ≤ 9223372036854775807 then (if ((s232.1 ++ ([32, 104, 58] : List UInt8)) ++ r287).length + ([44] : List UInt8).length ≤ 9223372036854775807 then (bindS (ref19_Number.f ((rd ((rd x0.L s44.2).Hooks) s232.2).X)) fun r290 =>
  if (((s232.1 ++ ([32, 104, 58] : List UInt8)) ++ r287) ++ ([44] : List UInt8)).length + r290.length ≤ 9223372036854775807 then (.next (((((s232.1 ++ ([32, 104, 58] : List UInt8)) ++ r287) ++ ([44] : List UInt8)) ++ r290), (w64 (s232.2 + 1))))
  else .bad)
  else .bad)
  else .bad)
  else .bad)))
  else .bad)
  else (.done (.go (s232.1, s232.2)))
noncomputable def ref19_Text.l0 (x0 : Graph) (s44 : ((List UInt8) × Int)) : Step ((List UInt8) × Int) (Out2 ((List UInt8) × Int) (List UInt8)) :=
  if s44.2 < (x0.L.length : Int) then (if 0 ≤ s44.2 ∧ s44.2 < (x0.L.length : Int) then (bindS (ref19_words.f ([105] : List UInt8) ((rd x0.L s44.2).In)) fun r88 =>
  bindS (ref19_words.f ([116] : List UInt8) ((rd x0.L s44.2).To)) fun r98 =>
  bindS (ref19_words.f ([115] : List UInt8) (((rd x0.L s44.2).Val).Shape)) fun r108 =>
  bindS (ref6_Name.f ((rd x0.L s44.2).Op)) fun r118 =>
  if r118 = ([] : List UInt8) then (.done (.ret ([] : List UInt8)))
  else (if r88.2 = true then (if r98.2 = true then (if r108.2 = true then (if (rd x0.L s44.2).No < 0 then (.done (.ret ([] : List UInt8)))
  else (if 999999999 < (rd x0.L s44.2).No then (.done (.ret ([] : List UInt8)))
  else (bindS (ref6_Name.f ((rd x0.L s44.2).Op)) fun r176 =>
  if s44.1.length + r176.length ≤ 9223372036854775807 then (if (s44.1 ++ r176).length + r88.1.length ≤ 9223372036854775807 then (if ((s44.1 ++ r176) ++ r88.1).length + r98.1.length ≤ 9223372036854775807 then (if (rd x0.L s44.2).No = 0 then (if (((s44.1 ++ r176) ++ r88.1) ++ r98.1).length + r108.1.length ≤ 9223372036854775807 then (bindS (loop (ref19_Text.l1 x0 s44) (((((s44.1 ++ r176) ++ r88.1) ++ r98.1) ++ r108.1), 0)) fun r198 =>
  bindS (loop (ref19_Text.l2 x0 s44) (r198.1, 0)) fun r233 =>
  r233.on (fun yr233 =>
  if yr233.1.length + ([10] : List UInt8).length ≤ 9223372036854775807 then (.next ((yr233.1 ++ ([10] : List UInt8)), (w64 (s44.2 + 1))))
  else .bad) (fun y => .done (.ret y)))
  else .bad)
  else (if (((s44.1 ++ r176) ++ r88.1) ++ r98.1).length + ([32, 110, 58] : List UInt8).length ≤ 9223372036854775807 then (bindS (ref19_decimal.f ((rd x0.L s44.2).No)) fun r388 =>
  if ((((s44.1 ++ r176) ++ r88.1) ++ r98.1) ++ ([32, 110, 58] : List UInt8)).length + r388.length ≤ 9223372036854775807 then (if (((((s44.1 ++ r176) ++ r88.1) ++ r98.1) ++ ([32, 110, 58] : List UInt8)) ++ r388).length + r108.1.length ≤ 9223372036854775807 then (bindS (loop (ref19_Text.l1 x0 s44) (((((((s44.1 ++ r176) ++ r88.1) ++ r98.1) ++ ([32, 110, 58] : List UInt8)) ++ r388) ++ r108.1), 0)) fun r405 =>
  bindS (loop (ref19_Text.l2 x0 s44) (r405.1, 0)) fun r440 =>
  r440.on (fun yr440 =>
  if yr440.1.length + ([10] : List UInt8).length ≤ 9223372036854775807 then (.next ((yr440.1 ++ ([10] : List UInt8)), (w64 (s44.2 + 1))))
  else .bad) (fun y => .done (.ret y)))
  else .bad)
  else .bad)
  else .bad))
  else .bad)
  else .bad)
  else .bad)))
  else (.done (.ret ([] : List UInt8))))
  else (.done (.ret ([] : List UInt8))))
  else (.done (.ret ([] : List UInt8)))))
  else .bad)
  else (.done (.go (s44.1, s44.2)))
noncomputable def ref19_Text.f (x0 : Graph) : Option (List UInt8) :=
  if 256 < (x0.L.length : Int) then (some ([] : List UInt8))
  else ((loop (ref19_Text.l0 x0) (([] : List UInt8), 0)).bind fun r45 =>
  r45.on (fun yr45 =>
  some yr45.1) (fun y => some y))
set_option maxRecDepth 100000 in
set_option maxHeartbeats 4000000 in
theorem ref19_Text.calls (M : List (Option Nat)) (w0 : World) (x0 : Graph) (A0_0 : Option Addr) (n0_0 c0_0 : Nat) (e0_0 : n0_0 = x0.L.length) (hm0 : Mem [] M w0 [.sl kNode A0_0 c0_0 x0.L] w0) (r : (List UInt8)) (H0 : ref19_Text.f x0 = some r) :
    Calls Tryd.prog 12 [.agg #[.slice A0_0 n0_0 c0_0]].toArray w0 (fun x w' => ∃ v, x = .returned v ∧ v = .string (bs r) ∧ Mem [] M w0 [] w') := by
  subst e0_0
  unfold ref19_Text.f at H0
  refine enter (n := 159) Tryd.func12 rfl rfl (by kernel_rfl) fun a0 (hf0 : Fr 159 a0 [(0, .agg #[.slice A0_0 x0.L.length c0_0])]) => ?_
  refine wp_seq ?_
  refine inReg ?_
  refine listOf hf0 rfl (by kernel_rfl) (aNew (cs := [.slice A0_0 x0.L.length c0_0]) (T := 24) (d := 1) hf0 (by kernel_rfl) (by kernel_rfl) ?_)
  intro b21 w22 a23 hbb21 hx25 hg26 hf24
  have hm27 := hm0.box hbb21 hx25 hg26
  refine go 1 [] [1] [(1, .pointer (some ⟨b21, 0, none⟩))] [] hf24 (by kernel_rfl) trivial fun a28 hf29 => ?_
  refine endL rfl ?_
  refine thenN ?_
  refine wp_seq ?_
  refine reg [] [1, 3] [(1, .pointer (some ⟨b21, 0, none⟩)), (3, .string (bs ([] : List UInt8)))] [] hf29 (by kernel_rfl) trivial fun a30 hf31 => ?_
  refine thenN ?_
  refine wp_seq ?_
  refine wp_seq ?_
  rcases if_split H0 with ⟨c32, H0⟩ | ⟨c32, H0⟩
  · refine reg [.slice A0_0 x0.L.length c0_0, .bool true] [1, 3, 17] [(1, .pointer (some ⟨b21, 0, none⟩)), (3, .string (bs ([] : List UInt8))), (17, .bool true)] [.cell ⟨b21, 0, none⟩ (.slice A0_0 x0.L.length c0_0), .is (decide (256 < (x0.L.length : Int)) = true)] hf31 (by kernel_rfl) ⟨(hm27.cell 0 rfl rfl), (decide_eq_true c32), trivial⟩ fun a33 hf34 => ?_
    refine thenN ?_
    refine condT hf34 (by kernel_rfl) ?_
    refine wp_seq ?_
    refine reg [] [2] [(2, .string (bs ([] : List UInt8)))] [] hf34 (by kernel_rfl) trivial fun a35 hf36 => ?_
    have hm37 := hm27.sel [] _ rfl (by kernel_rfl)
    refine thenN ?_
    refine wp_ret ?_
    refine thenR ?_
    have hm38 : Mem [] M w0 [] w22 := hm37.sel [] _ rfl (by kernel_rfl)
    obtain rfl := Option.some.inj H0
    refine ret [] [.string (bs ([] : List UInt8))] [] hf36 (by kernel_rfl) trivial ?_
    exact ⟨_, rfl, rfl, hm38⟩
  refine reg [.slice A0_0 x0.L.length c0_0, .bool false] [1, 3, 17] [(1, .pointer (some ⟨b21, 0, none⟩)), (3, .string (bs ([] : List UInt8))), (17, .bool false)] [.cell ⟨b21, 0, none⟩ (.slice A0_0 x0.L.length c0_0), .is (decide (256 < (x0.L.length : Int)) = false)] hf31 (by kernel_rfl) ⟨(hm27.cell 0 rfl rfl), (decide_eq_false c32), trivial⟩ fun a40 hf41 => ?_
  refine thenN ?_
  refine condF hf41 (by kernel_rfl) ?_
  refine wp_skip ?_
  refine thenN ?_
  refine wp_seq ?_
  refine wp_seq ?_
  refine reg [] [1, 3, 4] [(1, .pointer (some ⟨b21, 0, none⟩)), (3, .string (bs ([] : List UInt8))), (4, .int .i64 0)] [] hf41 (by kernel_rfl) trivial fun a42 hf43 => ?_
  refine thenN ?_
  obtain ⟨r45, hr45, H0⟩ := ob_split H0
  refine wpBlock (Mid := fun (a : Act) (w : World) => ∃ yr45 : ((List UInt8) × Int), r45 = .go yr45 ∧ Fr 159 a [(1, .pointer (some ⟨b21, 0, none⟩)), (3, .string (bs yr45.1)), (4, .int .i64 yr45.2)] ∧ Mem [] M w0 [.bx b21 [.slice A0_0 x0.L.length c0_0] 24, .sl kNode A0_0 c0_0 x0.L] w) ?_ ?_
  · refine wpLoop (ref19_Text.l0 x0) r45 (fun (s44 : ((List UInt8) × Int)) (a : Act) (w : World) => Fr 159 a [(1, .pointer (some ⟨b21, 0, none⟩)), (3, .string (bs s44.1)), (4, .int .i64 s44.2)] ∧ Mem [] M w0 [.bx b21 [.slice A0_0 x0.L.length c0_0] 24, .sl kNode A0_0 c0_0 x0.L] w) (([] : List UInt8), 0) hr45 ⟨hf43.sel (l := [1, 3, 4]) (by kernel_rfl), hm27.sel [0, 1] _ rfl (by kernel_rfl)⟩ ?_
    rintro g46 s44 a47 w48 H1 ⟨hf49, hm50⟩
    unfold ref19_Text.l0 at H1
    refine wp_seq ?_
    refine wp_seq ?_
    rcases ifS_split H1 with ⟨c51, H1⟩ | ⟨c51, H1⟩
    rotate_left
    · refine reg [.slice A0_0 x0.L.length c0_0, .bool false] [1, 3, 4, 22] [(1, .pointer (some ⟨b21, 0, none⟩)), (3, .string (bs s44.1)), (4, .int .i64 s44.2), (22, .bool false)] [.cell ⟨b21, 0, none⟩ (.slice A0_0 x0.L.length c0_0), .is (decide (s44.2 < (x0.L.length : Int)) = false)] hf49 (by kernel_rfl) ⟨(hm50.cell 0 rfl rfl), (decide_eq_false c51), trivial⟩ fun a634 hf635 => ?_
      refine thenN ?_
      refine condF hf635 (by kernel_rfl) ?_
      refine wp_exit ?_
      refine thenE ?_
      refine thenE ?_
      obtain rfl := Option.some.inj H1
      exact .inl ⟨rfl, (s44.1, s44.2), rfl, hf635.sel (l := [1, 3, 4]) (by kernel_rfl), hm50.sel [0, 1] _ rfl (by kernel_rfl)⟩
    refine reg [.slice A0_0 x0.L.length c0_0, .bool true] [1, 3, 4, 22] [(1, .pointer (some ⟨b21, 0, none⟩)), (3, .string (bs s44.1)), (4, .int .i64 s44.2), (22, .bool true)] [.cell ⟨b21, 0, none⟩ (.slice A0_0 x0.L.length c0_0), .is (decide (s44.2 < (x0.L.length : Int)) = true)] hf49 (by kernel_rfl) ⟨(hm50.cell 0 rfl rfl), (decide_eq_true c51), trivial⟩ fun a52 hf53 => ?_
    refine thenN ?_
    refine condT hf53 (by kernel_rfl) ?_
    refine wp_skip ?_
    refine thenN ?_
    refine wp_seq ?_
    refine wp_block ?_
    refine wp_seq ?_
    obtain ⟨g54, H1⟩ := ifS_guard H1
    have q55 := (hm50.slAt 1 rfl).get s44.2 g54.1 g54.2
    obtain ⟨us56, hr57, hc58⟩ := q55.2
    obtain ⟨A59, c60, A61, c62, A63, c65, A66, c67, A68, c69, rfl, ⟨pA59, sA59⟩, ⟨pA61, sA61⟩, ⟨pA63, sA63⟩, ⟨pA66, sA66⟩, ⟨pA68, sA68⟩⟩ := kNode.open hr57
    have hm70 := hm50.elem pA59 sA59
    have hm71 := hm70.elem pA61 sA61
    have hm72 := hm71.elem pA63 sA63
    have hm73 := hm72.elem pA66 sA66
    have hm74 := hm73.elem pA68 sA68
    refine inReg ?_
    refine go 5 [.slice A0_0 x0.L.length c0_0, .agg #[.int .i64 ((rd x0.L s44.2).Op), .slice A59 (((rd x0.L s44.2).In).length) c60, .slice A61 (((rd x0.L s44.2).To).length) c62, .int .i64 ((rd x0.L s44.2).No), .slice A63 ((((rd x0.L s44.2).Val).Shape).length) c65, .slice A66 ((((rd x0.L s44.2).Val).Data).length) c67, .slice A68 (((rd x0.L s44.2).Hooks).length) c69]] [1, 3, 4, 29] [(1, .pointer (some ⟨b21, 0, none⟩)), (3, .string (bs s44.1)), (4, .int .i64 s44.2), (29, .agg #[.int .i64 ((rd x0.L s44.2).Op), .slice A59 (((rd x0.L s44.2).In).length) c60, .slice A61 (((rd x0.L s44.2).To).length) c62, .int .i64 ((rd x0.L s44.2).No), .slice A63 ((((rd x0.L s44.2).Val).Shape).length) c65, .slice A66 ((((rd x0.L s44.2).Val).Data).length) c67, .slice A68 (((rd x0.L s44.2).Hooks).length) c69])] [.cell ⟨b21, 0, none⟩ (.slice A0_0 x0.L.length c0_0), .is (Option.isSome A0_0 = true), .is (0 ≤ s44.2 ∧ s44.2 < (x0.L.length : Int)), .cell ((ad A0_0).add ((s44.2).toNat * 7)) (.int .i64 ((rd x0.L s44.2).Op)), .cell (((ad A0_0).add ((s44.2).toNat * 7)).add 1) (.slice A59 (((rd x0.L s44.2).In).length) c60), .cell (((ad A0_0).add ((s44.2).toNat * 7)).add 2) (.slice A61 (((rd x0.L s44.2).To).length) c62), .cell (((ad A0_0).add ((s44.2).toNat * 7)).add 3) (.int .i64 ((rd x0.L s44.2).No)), .cell (((ad A0_0).add ((s44.2).toNat * 7)).add 4) (.slice A63 ((((rd x0.L s44.2).Val).Shape).length) c65), .cell (((ad A0_0).add ((s44.2).toNat * 7)).add 5) (.slice A66 ((((rd x0.L s44.2).Val).Data).length) c67), .cell (((ad A0_0).add ((s44.2).toNat * 7)).add 6) (.slice A68 (((rd x0.L s44.2).Hooks).length) c69)] hf53 (by kernel_rfl) ⟨(hm50.cell 0 rfl rfl), q55.1, g54, (hc58 0 _ rfl), (hc58 1 _ rfl), (hc58 2 _ rfl), (hc58 3 _ rfl), (hc58 4 _ rfl), (hc58 5 _ rfl), (hc58 6 _ rfl), trivial⟩ fun a75 hf76 => ?_
    refine listOf hf76 rfl (by kernel_rfl) (aNew (cs := [.int .i64 0, .slice none 0 0, .slice none 0 0, .int .i64 0, .slice none 0 0, .slice none 0 0, .slice none 0 0]) (T := 49) (d := 5) hf76 (by kernel_rfl) (by kernel_rfl) ?_)
    intro b77 w78 a79 hbb77 hx81 hg82 hf80
    have hm83 := hm74.box hbb77 hx81 hg82
    refine listOf hf80 rfl (by kernel_rfl) (aStoreB (b := b77) (j := 0) (T := 49) (cs := [.int .i64 0, .slice none 0 0, .slice none 0 0, .int .i64 0, .slice none 0 0, .slice none 0 0, .slice none 0 0]) (us := [.int .i64 ((rd x0.L s44.2).Op), .slice A59 (((rd x0.L s44.2).In).length) c60, .slice A61 (((rd x0.L s44.2).To).length) c62, .int .i64 ((rd x0.L s44.2).No), .slice A63 ((((rd x0.L s44.2).Val).Shape).length) c65, .slice A66 ((((rd x0.L s44.2).Val).Data).length) c67, .slice A68 (((rd x0.L s44.2).Hooks).length) c69]) (cs' := [.int .i64 ((rd x0.L s44.2).Op), .slice A59 (((rd x0.L s44.2).In).length) c60, .slice A61 (((rd x0.L s44.2).To).length) c62, .int .i64 ((rd x0.L s44.2).No), .slice A63 ((((rd x0.L s44.2).Val).Shape).length) c65, .slice A66 ((((rd x0.L s44.2).Val).Data).length) c67, .slice A68 (((rd x0.L s44.2).Hooks).length) c69]) hf80 (by kernel_rfl) (hm83.bxAt 0 rfl) (by kernel_rfl) (by kernel_rfl) (by kernel_rfl) ?_)
    intro w84 hx85 hg86
    have hm87 := hm83.setBox 0 _ rfl rfl hx85 hg86
    refine endL rfl ?_
    refine thenN ?_
    refine wp_seq ?_
    obtain ⟨r88, hr88, H1⟩ := obS_split H1
    refine inReg ?_
    refine go 2 [.slice A59 (((rd x0.L s44.2).In).length) c60] [1, 3, 4, 5, 32] [(1, .pointer (some ⟨b21, 0, none⟩)), (3, .string (bs s44.1)), (4, .int .i64 s44.2), (5, .pointer (some ⟨b77, 0, none⟩)), (32, .slice A59 (((rd x0.L s44.2).In).length) c60)] [.cell ⟨b77, 1, none⟩ (.slice A59 (((rd x0.L s44.2).In).length) c60)] hf80 (by kernel_rfl) ⟨(hm87.cell 0 rfl rfl), trivial⟩ fun a89 hf90 => ?_
    refine listOf hf90 rfl (by kernel_rfl) (aCall (fid := 26) (args := [.string (bs ([105] : List UInt8)), .slice A59 (((rd x0.L s44.2).In).length) c60]) (d := 33) hf90 (by kernel_rfl) (by kernel_rfl) callable26 (ref19_words.calls _ _ ([105] : List UInt8) ((rd x0.L s44.2).In) A59 (((rd x0.L s44.2).In).length) c60 rfl (hm87.give [5] [.sl (Kd.int .i64) A59 c60 ((rd x0.L s44.2).In)] rfl rfl) r88 hr88) ?_)
    rintro _ w91 a92 ⟨rfl, hk94⟩ hf93
    have hm95 := hm87.still hk94.cum.none
    refine go 5 [] [1, 3, 4, 5, 6, 7] [(1, .pointer (some ⟨b21, 0, none⟩)), (3, .string (bs s44.1)), (4, .int .i64 s44.2), (5, .pointer (some ⟨b77, 0, none⟩)), (6, .string (bs r88.1)), (7, .bool r88.2)] [] hf93 (by kernel_rfl) trivial fun a96 hf97 => ?_
    refine endL rfl ?_
    refine thenN ?_
    refine wp_seq ?_
    obtain ⟨r98, hr98, H1⟩ := obS_split H1
    refine inReg ?_
    refine go 2 [.slice A61 (((rd x0.L s44.2).To).length) c62] [1, 3, 4, 5, 6, 7, 38] [(1, .pointer (some ⟨b21, 0, none⟩)), (3, .string (bs s44.1)), (4, .int .i64 s44.2), (5, .pointer (some ⟨b77, 0, none⟩)), (6, .string (bs r88.1)), (7, .bool r88.2), (38, .slice A61 (((rd x0.L s44.2).To).length) c62)] [.cell ⟨b77, 2, none⟩ (.slice A61 (((rd x0.L s44.2).To).length) c62)] hf97 (by kernel_rfl) ⟨(hm95.cell 0 rfl rfl), trivial⟩ fun a99 hf100 => ?_
    refine listOf hf100 rfl (by kernel_rfl) (aCall (fid := 26) (args := [.string (bs ([116] : List UInt8)), .slice A61 (((rd x0.L s44.2).To).length) c62]) (d := 39) hf100 (by kernel_rfl) (by kernel_rfl) callable26 (ref19_words.calls _ _ ([116] : List UInt8) ((rd x0.L s44.2).To) A61 (((rd x0.L s44.2).To).length) c62 rfl (hm95.give [4] [.sl (Kd.int .i64) A61 c62 ((rd x0.L s44.2).To)] rfl rfl) r98 hr98) ?_)
    rintro _ w101 a102 ⟨rfl, hk104⟩ hf103
    have hm105 := hm95.still hk104.cum.none
    refine go 5 [] [1, 3, 4, 5, 6, 7, 8, 9] [(1, .pointer (some ⟨b21, 0, none⟩)), (3, .string (bs s44.1)), (4, .int .i64 s44.2), (5, .pointer (some ⟨b77, 0, none⟩)), (6, .string (bs r88.1)), (7, .bool r88.2), (8, .string (bs r98.1)), (9, .bool r98.2)] [] hf103 (by kernel_rfl) trivial fun a106 hf107 => ?_
    refine endL rfl ?_
    refine thenN ?_
    refine wp_seq ?_
    obtain ⟨r108, hr108, H1⟩ := obS_split H1
    refine inReg ?_
    refine go 3 [.slice A63 ((((rd x0.L s44.2).Val).Shape).length) c65] [1, 3, 4, 5, 6, 7, 8, 9, 45] [(1, .pointer (some ⟨b21, 0, none⟩)), (3, .string (bs s44.1)), (4, .int .i64 s44.2), (5, .pointer (some ⟨b77, 0, none⟩)), (6, .string (bs r88.1)), (7, .bool r88.2), (8, .string (bs r98.1)), (9, .bool r98.2), (45, .slice A63 ((((rd x0.L s44.2).Val).Shape).length) c65)] [.cell ⟨b77, 4, none⟩ (.slice A63 ((((rd x0.L s44.2).Val).Shape).length) c65)] hf107 (by kernel_rfl) ⟨(hm105.cell 0 rfl rfl), trivial⟩ fun a109 hf110 => ?_
    refine listOf hf110 rfl (by kernel_rfl) (aCall (fid := 26) (args := [.string (bs ([115] : List UInt8)), .slice A63 ((((rd x0.L s44.2).Val).Shape).length) c65]) (d := 46) hf110 (by kernel_rfl) (by kernel_rfl) callable26 (ref19_words.calls _ _ ([115] : List UInt8) (((rd x0.L s44.2).Val).Shape) A63 ((((rd x0.L s44.2).Val).Shape).length) c65 rfl (hm105.give [3] [.sl (Kd.int .i64) A63 c65 (((rd x0.L s44.2).Val).Shape)] rfl rfl) r108 hr108) ?_)
    rintro _ w111 a112 ⟨rfl, hk114⟩ hf113
    have hm115 := hm105.still hk114.cum.none
    refine go 5 [] [1, 3, 4, 5, 6, 7, 8, 9, 10, 11] [(1, .pointer (some ⟨b21, 0, none⟩)), (3, .string (bs s44.1)), (4, .int .i64 s44.2), (5, .pointer (some ⟨b77, 0, none⟩)), (6, .string (bs r88.1)), (7, .bool r88.2), (8, .string (bs r98.1)), (9, .bool r98.2), (10, .string (bs r108.1)), (11, .bool r108.2)] [] hf113 (by kernel_rfl) trivial fun a116 hf117 => ?_
    refine endL rfl ?_
    refine thenN ?_
    refine wp_seq ?_
    refine wp_seq ?_
    obtain ⟨r118, hr118, H1⟩ := obS_split H1
    rcases ifS_split H1 with ⟨c119, H1⟩ | ⟨c119, H1⟩
    · refine inReg ?_
      refine go 2 [.int .i64 ((rd x0.L s44.2).Op)] [1, 3, 4, 5, 6, 7, 8, 9, 10, 11, 50] [(1, .pointer (some ⟨b21, 0, none⟩)), (3, .string (bs s44.1)), (4, .int .i64 s44.2), (5, .pointer (some ⟨b77, 0, none⟩)), (6, .string (bs r88.1)), (7, .bool r88.2), (8, .string (bs r98.1)), (9, .bool r98.2), (10, .string (bs r108.1)), (11, .bool r108.2), (50, .int .i64 ((rd x0.L s44.2).Op))] [.cell ⟨b77, 0, none⟩ (.int .i64 ((rd x0.L s44.2).Op))] hf117 (by kernel_rfl) ⟨(hm115.cell 0 rfl rfl), trivial⟩ fun a120 hf121 => ?_
      refine listOf hf121 rfl (by kernel_rfl) (aCall (fid := 27) (args := [.int .i64 ((rd x0.L s44.2).Op)]) (d := 51) hf121 (by kernel_rfl) (by kernel_rfl) callable27 (ref6_Name.calls _ _ ((rd x0.L s44.2).Op) (hm115.give [] [] rfl rfl) r118 hr118) ?_)
      rintro _ w122 a123 ⟨rfl, hk125⟩ hf124
      have hm126 := hm115.still hk125.cum.none
      refine go 23 [.bool true] [1, 3, 4, 5, 6, 8, 10, 74] [(1, .pointer (some ⟨b21, 0, none⟩)), (3, .string (bs s44.1)), (4, .int .i64 s44.2), (5, .pointer (some ⟨b77, 0, none⟩)), (6, .string (bs r88.1)), (8, .string (bs r98.1)), (10, .string (bs r108.1)), (74, .bool true)] [.is ((decide (bs r118 = bs ([] : List UInt8))) = true)] hf124 (by kernel_rfl) ⟨(seT c119), trivial⟩ fun a127 hf128 => ?_
      refine endL rfl ?_
      refine thenN ?_
      refine condT hf128 (by kernel_rfl) ?_
      refine wp_seq ?_
      refine reg [] [2] [(2, .string (bs ([] : List UInt8)))] [] hf128 (by kernel_rfl) trivial fun a129 hf130 => ?_
      have hm131 := hm126.sel [] _ rfl (by kernel_rfl)
      refine thenN ?_
      refine wp_ret ?_
      refine thenR ?_
      refine blkR ?_
      refine thenR ?_
      refine thenR ?_
      refine .inr ⟨rfl, ?_⟩
      refine thenR ?_
      have hm132 : Mem [] M w0 [] w122 := hm131.sel [] _ rfl (by kernel_rfl)
      obtain rfl := Option.some.inj H1
      obtain rfl := Option.some.inj H0
      refine ret [] [.string (bs ([] : List UInt8))] [] hf130 (by kernel_rfl) trivial ?_
      exact ⟨_, rfl, rfl, hm132⟩
    rcases ifbS_split H1 with ⟨c134, H1⟩ | ⟨c134, H1⟩
    rotate_left
    · rw [c134] at hf117
      refine inReg ?_
      refine go 2 [.int .i64 ((rd x0.L s44.2).Op)] [1, 3, 4, 5, 6, 7, 8, 9, 10, 11, 50] [(1, .pointer (some ⟨b21, 0, none⟩)), (3, .string (bs s44.1)), (4, .int .i64 s44.2), (5, .pointer (some ⟨b77, 0, none⟩)), (6, .string (bs r88.1)), (7, .bool false), (8, .string (bs r98.1)), (9, .bool r98.2), (10, .string (bs r108.1)), (11, .bool r108.2), (50, .int .i64 ((rd x0.L s44.2).Op))] [.cell ⟨b77, 0, none⟩ (.int .i64 ((rd x0.L s44.2).Op))] hf117 (by kernel_rfl) ⟨(hm115.cell 0 rfl rfl), trivial⟩ fun a620 hf621 => ?_
      refine listOf hf621 rfl (by kernel_rfl) (aCall (fid := 27) (args := [.int .i64 ((rd x0.L s44.2).Op)]) (d := 51) hf621 (by kernel_rfl) (by kernel_rfl) callable27 (ref6_Name.calls _ _ ((rd x0.L s44.2).Op) (hm115.give [] [] rfl rfl) r118 hr118) ?_)
      rintro _ w622 a623 ⟨rfl, hk625⟩ hf624
      have hm626 := hm115.still hk625.cum.none
      refine go 23 [.bool false] [1, 3, 4, 5, 6, 8, 10, 74] [(1, .pointer (some ⟨b21, 0, none⟩)), (3, .string (bs s44.1)), (4, .int .i64 s44.2), (5, .pointer (some ⟨b77, 0, none⟩)), (6, .string (bs r88.1)), (8, .string (bs r98.1)), (10, .string (bs r108.1)), (74, .bool true)] [.is ((decide (bs r118 = bs ([] : List UInt8))) = false)] hf624 (by kernel_rfl) ⟨(seF c119), trivial⟩ fun a627 hf628 => ?_
      refine endL rfl ?_
      refine thenN ?_
      refine condT hf628 (by kernel_rfl) ?_
      refine wp_seq ?_
      refine reg [] [2] [(2, .string (bs ([] : List UInt8)))] [] hf628 (by kernel_rfl) trivial fun a629 hf630 => ?_
      have hm631 := hm626.sel [] _ rfl (by kernel_rfl)
      refine thenN ?_
      refine wp_ret ?_
      refine thenR ?_
      refine blkR ?_
      refine thenR ?_
      refine thenR ?_
      refine .inr ⟨rfl, ?_⟩
      refine thenR ?_
      have hm632 : Mem [] M w0 [] w622 := hm631.sel [] _ rfl (by kernel_rfl)
      obtain rfl := Option.some.inj H1
      obtain rfl := Option.some.inj H0
      refine ret [] [.string (bs ([] : List UInt8))] [] hf630 (by kernel_rfl) trivial ?_
      exact ⟨_, rfl, rfl, hm632⟩
    rw [c134] at hf117
    rcases ifbS_split H1 with ⟨c135, H1⟩ | ⟨c135, H1⟩
    rotate_left
    · rw [c135] at hf117
      refine inReg ?_
      refine go 2 [.int .i64 ((rd x0.L s44.2).Op)] [1, 3, 4, 5, 6, 7, 8, 9, 10, 11, 50] [(1, .pointer (some ⟨b21, 0, none⟩)), (3, .string (bs s44.1)), (4, .int .i64 s44.2), (5, .pointer (some ⟨b77, 0, none⟩)), (6, .string (bs r88.1)), (7, .bool true), (8, .string (bs r98.1)), (9, .bool false), (10, .string (bs r108.1)), (11, .bool r108.2), (50, .int .i64 ((rd x0.L s44.2).Op))] [.cell ⟨b77, 0, none⟩ (.int .i64 ((rd x0.L s44.2).Op))] hf117 (by kernel_rfl) ⟨(hm115.cell 0 rfl rfl), trivial⟩ fun a606 hf607 => ?_
      refine listOf hf607 rfl (by kernel_rfl) (aCall (fid := 27) (args := [.int .i64 ((rd x0.L s44.2).Op)]) (d := 51) hf607 (by kernel_rfl) (by kernel_rfl) callable27 (ref6_Name.calls _ _ ((rd x0.L s44.2).Op) (hm115.give [] [] rfl rfl) r118 hr118) ?_)
      rintro _ w608 a609 ⟨rfl, hk611⟩ hf610
      have hm612 := hm115.still hk611.cum.none
      refine go 23 [.bool false] [1, 3, 4, 5, 6, 8, 10, 74] [(1, .pointer (some ⟨b21, 0, none⟩)), (3, .string (bs s44.1)), (4, .int .i64 s44.2), (5, .pointer (some ⟨b77, 0, none⟩)), (6, .string (bs r88.1)), (8, .string (bs r98.1)), (10, .string (bs r108.1)), (74, .bool true)] [.is ((decide (bs r118 = bs ([] : List UInt8))) = false)] hf610 (by kernel_rfl) ⟨(seF c119), trivial⟩ fun a613 hf614 => ?_
      refine endL rfl ?_
      refine thenN ?_
      refine condT hf614 (by kernel_rfl) ?_
      refine wp_seq ?_
      refine reg [] [2] [(2, .string (bs ([] : List UInt8)))] [] hf614 (by kernel_rfl) trivial fun a615 hf616 => ?_
      have hm617 := hm612.sel [] _ rfl (by kernel_rfl)
      refine thenN ?_
      refine wp_ret ?_
      refine thenR ?_
      refine blkR ?_
      refine thenR ?_
      refine thenR ?_
      refine .inr ⟨rfl, ?_⟩
      refine thenR ?_
      have hm618 : Mem [] M w0 [] w608 := hm617.sel [] _ rfl (by kernel_rfl)
      obtain rfl := Option.some.inj H1
      obtain rfl := Option.some.inj H0
      refine ret [] [.string (bs ([] : List UInt8))] [] hf616 (by kernel_rfl) trivial ?_
      exact ⟨_, rfl, rfl, hm618⟩
    rw [c135] at hf117
    rcases ifbS_split H1 with ⟨c136, H1⟩ | ⟨c136, H1⟩
    rotate_left
    · rw [c136] at hf117
      refine inReg ?_
      refine go 2 [.int .i64 ((rd x0.L s44.2).Op)] [1, 3, 4, 5, 6, 7, 8, 9, 10, 11, 50] [(1, .pointer (some ⟨b21, 0, none⟩)), (3, .string (bs s44.1)), (4, .int .i64 s44.2), (5, .pointer (some ⟨b77, 0, none⟩)), (6, .string (bs r88.1)), (7, .bool true), (8, .string (bs r98.1)), (9, .bool true), (10, .string (bs r108.1)), (11, .bool false), (50, .int .i64 ((rd x0.L s44.2).Op))] [.cell ⟨b77, 0, none⟩ (.int .i64 ((rd x0.L s44.2).Op))] hf117 (by kernel_rfl) ⟨(hm115.cell 0 rfl rfl), trivial⟩ fun a592 hf593 => ?_
      refine listOf hf593 rfl (by kernel_rfl) (aCall (fid := 27) (args := [.int .i64 ((rd x0.L s44.2).Op)]) (d := 51) hf593 (by kernel_rfl) (by kernel_rfl) callable27 (ref6_Name.calls _ _ ((rd x0.L s44.2).Op) (hm115.give [] [] rfl rfl) r118 hr118) ?_)
      rintro _ w594 a595 ⟨rfl, hk597⟩ hf596
      have hm598 := hm115.still hk597.cum.none
      refine go 23 [.bool false] [1, 3, 4, 5, 6, 8, 10, 74] [(1, .pointer (some ⟨b21, 0, none⟩)), (3, .string (bs s44.1)), (4, .int .i64 s44.2), (5, .pointer (some ⟨b77, 0, none⟩)), (6, .string (bs r88.1)), (8, .string (bs r98.1)), (10, .string (bs r108.1)), (74, .bool true)] [.is ((decide (bs r118 = bs ([] : List UInt8))) = false)] hf596 (by kernel_rfl) ⟨(seF c119), trivial⟩ fun a599 hf600 => ?_
      refine endL rfl ?_
      refine thenN ?_
      refine condT hf600 (by kernel_rfl) ?_
      refine wp_seq ?_
      refine reg [] [2] [(2, .string (bs ([] : List UInt8)))] [] hf600 (by kernel_rfl) trivial fun a601 hf602 => ?_
      have hm603 := hm598.sel [] _ rfl (by kernel_rfl)
      refine thenN ?_
      refine wp_ret ?_
      refine thenR ?_
      refine blkR ?_
      refine thenR ?_
      refine thenR ?_
      refine .inr ⟨rfl, ?_⟩
      refine thenR ?_
      have hm604 : Mem [] M w0 [] w594 := hm603.sel [] _ rfl (by kernel_rfl)
      obtain rfl := Option.some.inj H1
      obtain rfl := Option.some.inj H0
      refine ret [] [.string (bs ([] : List UInt8))] [] hf602 (by kernel_rfl) trivial ?_
      exact ⟨_, rfl, rfl, hm604⟩
    rw [c136] at hf117
    rcases ifS_split H1 with ⟨c137, H1⟩ | ⟨c137, H1⟩
    · refine inReg ?_
      refine go 2 [.int .i64 ((rd x0.L s44.2).Op)] [1, 3, 4, 5, 6, 7, 8, 9, 10, 11, 50] [(1, .pointer (some ⟨b21, 0, none⟩)), (3, .string (bs s44.1)), (4, .int .i64 s44.2), (5, .pointer (some ⟨b77, 0, none⟩)), (6, .string (bs r88.1)), (7, .bool true), (8, .string (bs r98.1)), (9, .bool true), (10, .string (bs r108.1)), (11, .bool true), (50, .int .i64 ((rd x0.L s44.2).Op))] [.cell ⟨b77, 0, none⟩ (.int .i64 ((rd x0.L s44.2).Op))] hf117 (by kernel_rfl) ⟨(hm115.cell 0 rfl rfl), trivial⟩ fun a138 hf139 => ?_
      refine listOf hf139 rfl (by kernel_rfl) (aCall (fid := 27) (args := [.int .i64 ((rd x0.L s44.2).Op)]) (d := 51) hf139 (by kernel_rfl) (by kernel_rfl) callable27 (ref6_Name.calls _ _ ((rd x0.L s44.2).Op) (hm115.give [] [] rfl rfl) r118 hr118) ?_)
      rintro _ w140 a141 ⟨rfl, hk143⟩ hf142
      have hm144 := hm115.still hk143.cum.none
      refine go 23 [.bool false, .int .i64 ((rd x0.L s44.2).No), .bool true] [1, 3, 4, 5, 6, 8, 10, 74] [(1, .pointer (some ⟨b21, 0, none⟩)), (3, .string (bs s44.1)), (4, .int .i64 s44.2), (5, .pointer (some ⟨b77, 0, none⟩)), (6, .string (bs r88.1)), (8, .string (bs r98.1)), (10, .string (bs r108.1)), (74, .bool true)] [.is ((decide (bs r118 = bs ([] : List UInt8))) = false), .cell ⟨b77, 3, none⟩ (.int .i64 ((rd x0.L s44.2).No)), .is (decide ((rd x0.L s44.2).No < 0) = true)] hf142 (by kernel_rfl) ⟨(seF c119), (hm144.cell 0 rfl rfl), (decide_eq_true c137), trivial⟩ fun a145 hf146 => ?_
      refine endL rfl ?_
      refine thenN ?_
      refine condT hf146 (by kernel_rfl) ?_
      refine wp_seq ?_
      refine reg [] [2] [(2, .string (bs ([] : List UInt8)))] [] hf146 (by kernel_rfl) trivial fun a147 hf148 => ?_
      have hm149 := hm144.sel [] _ rfl (by kernel_rfl)
      refine thenN ?_
      refine wp_ret ?_
      refine thenR ?_
      refine blkR ?_
      refine thenR ?_
      refine thenR ?_
      refine .inr ⟨rfl, ?_⟩
      refine thenR ?_
      have hm150 : Mem [] M w0 [] w140 := hm149.sel [] _ rfl (by kernel_rfl)
      obtain rfl := Option.some.inj H1
      obtain rfl := Option.some.inj H0
      refine ret [] [.string (bs ([] : List UInt8))] [] hf148 (by kernel_rfl) trivial ?_
      exact ⟨_, rfl, rfl, hm150⟩
    rcases ifS_split H1 with ⟨c152, H1⟩ | ⟨c152, H1⟩
    · refine inReg ?_
      refine go 2 [.int .i64 ((rd x0.L s44.2).Op)] [1, 3, 4, 5, 6, 7, 8, 9, 10, 11, 50] [(1, .pointer (some ⟨b21, 0, none⟩)), (3, .string (bs s44.1)), (4, .int .i64 s44.2), (5, .pointer (some ⟨b77, 0, none⟩)), (6, .string (bs r88.1)), (7, .bool true), (8, .string (bs r98.1)), (9, .bool true), (10, .string (bs r108.1)), (11, .bool true), (50, .int .i64 ((rd x0.L s44.2).Op))] [.cell ⟨b77, 0, none⟩ (.int .i64 ((rd x0.L s44.2).Op))] hf117 (by kernel_rfl) ⟨(hm115.cell 0 rfl rfl), trivial⟩ fun a153 hf154 => ?_
      refine listOf hf154 rfl (by kernel_rfl) (aCall (fid := 27) (args := [.int .i64 ((rd x0.L s44.2).Op)]) (d := 51) hf154 (by kernel_rfl) (by kernel_rfl) callable27 (ref6_Name.calls _ _ ((rd x0.L s44.2).Op) (hm115.give [] [] rfl rfl) r118 hr118) ?_)
      rintro _ w155 a156 ⟨rfl, hk158⟩ hf157
      have hm159 := hm115.still hk158.cum.none
      refine go 23 [.bool false, .int .i64 ((rd x0.L s44.2).No), .bool false, .int .i64 ((rd x0.L s44.2).No), .bool true] [1, 3, 4, 5, 6, 8, 10, 74] [(1, .pointer (some ⟨b21, 0, none⟩)), (3, .string (bs s44.1)), (4, .int .i64 s44.2), (5, .pointer (some ⟨b77, 0, none⟩)), (6, .string (bs r88.1)), (8, .string (bs r98.1)), (10, .string (bs r108.1)), (74, .bool true)] [.is ((decide (bs r118 = bs ([] : List UInt8))) = false), .cell ⟨b77, 3, none⟩ (.int .i64 ((rd x0.L s44.2).No)), .is (decide ((rd x0.L s44.2).No < 0) = false), .cell ⟨b77, 3, none⟩ (.int .i64 ((rd x0.L s44.2).No)), .is (decide (999999999 < (rd x0.L s44.2).No) = true)] hf157 (by kernel_rfl) ⟨(seF c119), (hm159.cell 0 rfl rfl), (decide_eq_false c137), (hm159.cell 0 rfl rfl), (decide_eq_true c152), trivial⟩ fun a160 hf161 => ?_
      refine endL rfl ?_
      refine thenN ?_
      refine condT hf161 (by kernel_rfl) ?_
      refine wp_seq ?_
      refine reg [] [2] [(2, .string (bs ([] : List UInt8)))] [] hf161 (by kernel_rfl) trivial fun a162 hf163 => ?_
      have hm164 := hm159.sel [] _ rfl (by kernel_rfl)
      refine thenN ?_
      refine wp_ret ?_
      refine thenR ?_
      refine blkR ?_
      refine thenR ?_
      refine thenR ?_
      refine .inr ⟨rfl, ?_⟩
      refine thenR ?_
      have hm165 : Mem [] M w0 [] w155 := hm164.sel [] _ rfl (by kernel_rfl)
      obtain rfl := Option.some.inj H1
      obtain rfl := Option.some.inj H0
      refine ret [] [.string (bs ([] : List UInt8))] [] hf163 (by kernel_rfl) trivial ?_
      exact ⟨_, rfl, rfl, hm165⟩
    refine inReg ?_
    refine go 2 [.int .i64 ((rd x0.L s44.2).Op)] [1, 3, 4, 5, 6, 7, 8, 9, 10, 11, 50] [(1, .pointer (some ⟨b21, 0, none⟩)), (3, .string (bs s44.1)), (4, .int .i64 s44.2), (5, .pointer (some ⟨b77, 0, none⟩)), (6, .string (bs r88.1)), (7, .bool true), (8, .string (bs r98.1)), (9, .bool true), (10, .string (bs r108.1)), (11, .bool true), (50, .int .i64 ((rd x0.L s44.2).Op))] [.cell ⟨b77, 0, none⟩ (.int .i64 ((rd x0.L s44.2).Op))] hf117 (by kernel_rfl) ⟨(hm115.cell 0 rfl rfl), trivial⟩ fun a167 hf168 => ?_
    refine listOf hf168 rfl (by kernel_rfl) (aCall (fid := 27) (args := [.int .i64 ((rd x0.L s44.2).Op)]) (d := 51) hf168 (by kernel_rfl) (by kernel_rfl) callable27 (ref6_Name.calls _ _ ((rd x0.L s44.2).Op) (hm115.give [] [] rfl rfl) r118 hr118) ?_)
    rintro _ w169 a170 ⟨rfl, hk172⟩ hf171
    have hm173 := hm115.still hk172.cum.none
    refine go 23 [.bool false, .int .i64 ((rd x0.L s44.2).No), .bool false, .int .i64 ((rd x0.L s44.2).No), .bool false] [1, 3, 4, 5, 6, 8, 10, 74] [(1, .pointer (some ⟨b21, 0, none⟩)), (3, .string (bs s44.1)), (4, .int .i64 s44.2), (5, .pointer (some ⟨b77, 0, none⟩)), (6, .string (bs r88.1)), (8, .string (bs r98.1)), (10, .string (bs r108.1)), (74, .bool false)] [.is ((decide (bs r118 = bs ([] : List UInt8))) = false), .cell ⟨b77, 3, none⟩ (.int .i64 ((rd x0.L s44.2).No)), .is (decide ((rd x0.L s44.2).No < 0) = false), .cell ⟨b77, 3, none⟩ (.int .i64 ((rd x0.L s44.2).No)), .is (decide (999999999 < (rd x0.L s44.2).No) = false)] hf171 (by kernel_rfl) ⟨(seF c119), (hm173.cell 0 rfl rfl), (decide_eq_false c137), (hm173.cell 0 rfl rfl), (decide_eq_false c152), trivial⟩ fun a174 hf175 => ?_
    refine endL rfl ?_
    refine thenN ?_
    refine condF hf175 (by kernel_rfl) ?_
    refine wp_skip ?_
    refine thenN ?_
    refine wp_seq ?_
    obtain ⟨r176, hr176, H1⟩ := obS_split H1
    obtain ⟨g177, H1⟩ := ifS_guard H1
    obtain ⟨g178, H1⟩ := ifS_guard H1
    obtain ⟨g179, H1⟩ := ifS_guard H1
    refine inReg ?_
    refine go 3 [.int .i64 ((rd x0.L s44.2).Op)] [1, 3, 4, 5, 6, 8, 10, 75, 77] [(1, .pointer (some ⟨b21, 0, none⟩)), (3, .string (bs s44.1)), (4, .int .i64 s44.2), (5, .pointer (some ⟨b77, 0, none⟩)), (6, .string (bs r88.1)), (8, .string (bs r98.1)), (10, .string (bs r108.1)), (75, .string (bs s44.1)), (77, .int .i64 ((rd x0.L s44.2).Op))] [.cell ⟨b77, 0, none⟩ (.int .i64 ((rd x0.L s44.2).Op))] hf175 (by kernel_rfl) ⟨(hm173.cell 0 rfl rfl), trivial⟩ fun a180 hf181 => ?_
    refine listOf hf181 rfl (by kernel_rfl) (aCall (fid := 27) (args := [.int .i64 ((rd x0.L s44.2).Op)]) (d := 78) hf181 (by kernel_rfl) (by kernel_rfl) callable27 (ref6_Name.calls _ _ ((rd x0.L s44.2).Op) (hm173.give [] [] rfl rfl) r176 hr176) ?_)
    rintro _ w182 a183 ⟨rfl, hk185⟩ hf184
    have hm186 := hm173.still hk185.cum.none
    refine go 6 [.string (bs (s44.1 ++ r176)), .string (bs ((s44.1 ++ r176) ++ r88.1)), .string (bs (((s44.1 ++ r176) ++ r88.1) ++ r98.1))] [1, 3, 4, 5, 10] [(1, .pointer (some ⟨b21, 0, none⟩)), (3, .string (bs (((s44.1 ++ r176) ++ r88.1) ++ r98.1))), (4, .int .i64 s44.2), (5, .pointer (some ⟨b77, 0, none⟩)), (10, .string (bs r108.1))] [.is (bs (s44.1 ++ r176) = bs s44.1 ++ bs r176 ∧ (bs s44.1).size + (bs r176).size ≤ 9223372036854775807), .is (bs ((s44.1 ++ r176) ++ r88.1) = bs (s44.1 ++ r176) ++ bs r88.1 ∧ (bs (s44.1 ++ r176)).size + (bs r88.1).size ≤ 9223372036854775807), .is (bs (((s44.1 ++ r176) ++ r88.1) ++ r98.1) = bs ((s44.1 ++ r176) ++ r88.1) ++ bs r98.1 ∧ (bs ((s44.1 ++ r176) ++ r88.1)).size + (bs r98.1).size ≤ 9223372036854775807)] hf184 (by kernel_rfl) ⟨(catOk g177), (catOk g178), (catOk g179), trivial⟩ fun a187 hf188 => ?_
    refine endL rfl ?_
    refine thenN ?_
    refine wp_seq ?_
    refine wp_seq ?_
    rcases ifS_split H1 with ⟨c189, H1⟩ | ⟨c189, H1⟩
    · refine reg [.int .i64 ((rd x0.L s44.2).No), .bool false] [1, 3, 4, 5, 10, 86] [(1, .pointer (some ⟨b21, 0, none⟩)), (3, .string (bs (((s44.1 ++ r176) ++ r88.1) ++ r98.1))), (4, .int .i64 s44.2), (5, .pointer (some ⟨b77, 0, none⟩)), (10, .string (bs r108.1)), (86, .bool false)] [.cell ⟨b77, 3, none⟩ (.int .i64 ((rd x0.L s44.2).No)), .is ((((rd x0.L s44.2).No : Int) != 0) = false)] hf188 (by kernel_rfl) ⟨(hm186.cell 0 rfl rfl), (neF c189), trivial⟩ fun a190 hf191 => ?_
      refine thenN ?_
      refine condF hf191 (by kernel_rfl) ?_
      refine wp_skip ?_
      refine thenN ?_
      refine wp_seq ?_
      obtain ⟨g192, H1⟩ := ifS_guard H1
      refine reg [.string (bs ((((s44.1 ++ r176) ++ r88.1) ++ r98.1) ++ r108.1))] [1, 3, 4, 5] [(1, .pointer (some ⟨b21, 0, none⟩)), (3, .string (bs ((((s44.1 ++ r176) ++ r88.1) ++ r98.1) ++ r108.1))), (4, .int .i64 s44.2), (5, .pointer (some ⟨b77, 0, none⟩))] [.is (bs ((((s44.1 ++ r176) ++ r88.1) ++ r98.1) ++ r108.1) = bs (((s44.1 ++ r176) ++ r88.1) ++ r98.1) ++ bs r108.1 ∧ (bs (((s44.1 ++ r176) ++ r88.1) ++ r98.1)).size + (bs r108.1).size ≤ 9223372036854775807)] hf191 (by kernel_rfl) ⟨(catOk g192), trivial⟩ fun a193 hf194 => ?_
      refine thenN ?_
      refine wp_seq ?_
      refine wp_seq ?_
      refine reg [] [1, 3, 4, 5, 12] [(1, .pointer (some ⟨b21, 0, none⟩)), (3, .string (bs ((((s44.1 ++ r176) ++ r88.1) ++ r98.1) ++ r108.1))), (4, .int .i64 s44.2), (5, .pointer (some ⟨b77, 0, none⟩)), (12, .int .i64 0)] [] hf194 (by kernel_rfl) trivial fun a195 hf196 => ?_
      refine thenN ?_
      obtain ⟨r198, hr198, H1⟩ := obS_split H1
      refine wpBlock (Mid := fun (a : Act) (w : World) => Fr 159 a [(1, .pointer (some ⟨b21, 0, none⟩)), (3, .string (bs r198.1)), (4, .int .i64 s44.2), (5, .pointer (some ⟨b77, 0, none⟩)), (12, .int .i64 r198.2)] ∧ Mem [] M w0 [.bx b77 [.int .i64 ((rd x0.L s44.2).Op), .slice A59 (((rd x0.L s44.2).In).length) c60, .slice A61 (((rd x0.L s44.2).To).length) c62, .int .i64 ((rd x0.L s44.2).No), .slice A63 ((((rd x0.L s44.2).Val).Shape).length) c65, .slice A66 ((((rd x0.L s44.2).Val).Data).length) c67, .slice A68 (((rd x0.L s44.2).Hooks).length) c69] 49, .sl kHook A68 c69 ((rd x0.L s44.2).Hooks), .sl Kd.float A66 c67 (((rd x0.L s44.2).Val).Data), .sl (Kd.int .i64) A63 c65 (((rd x0.L s44.2).Val).Shape), .sl (Kd.int .i64) A61 c62 ((rd x0.L s44.2).To), .sl (Kd.int .i64) A59 c60 ((rd x0.L s44.2).In), .bx b21 [.slice A0_0 x0.L.length c0_0] 24, .sl kNode A0_0 c0_0 x0.L] w) ?_ ?_
      · refine wpLoop (ref19_Text.l1 x0 s44) r198 (fun (s197 : ((List UInt8) × Int)) (a : Act) (w : World) => Fr 159 a [(1, .pointer (some ⟨b21, 0, none⟩)), (3, .string (bs s197.1)), (4, .int .i64 s44.2), (5, .pointer (some ⟨b77, 0, none⟩)), (12, .int .i64 s197.2)] ∧ Mem [] M w0 [.bx b77 [.int .i64 ((rd x0.L s44.2).Op), .slice A59 (((rd x0.L s44.2).In).length) c60, .slice A61 (((rd x0.L s44.2).To).length) c62, .int .i64 ((rd x0.L s44.2).No), .slice A63 ((((rd x0.L s44.2).Val).Shape).length) c65, .slice A66 ((((rd x0.L s44.2).Val).Data).length) c67, .slice A68 (((rd x0.L s44.2).Hooks).length) c69] 49, .sl kHook A68 c69 ((rd x0.L s44.2).Hooks), .sl Kd.float A66 c67 (((rd x0.L s44.2).Val).Data), .sl (Kd.int .i64) A63 c65 (((rd x0.L s44.2).Val).Shape), .sl (Kd.int .i64) A61 c62 ((rd x0.L s44.2).To), .sl (Kd.int .i64) A59 c60 ((rd x0.L s44.2).In), .bx b21 [.slice A0_0 x0.L.length c0_0] 24, .sl kNode A0_0 c0_0 x0.L] w) (((((s44.1 ++ r176) ++ r88.1) ++ r98.1) ++ r108.1), 0) hr198 ⟨hf196.sel (l := [1, 3, 4, 5, 12]) (by kernel_rfl), hm186.sel [0, 1, 2, 3, 4, 5, 6, 7] _ rfl (by kernel_rfl)⟩ ?_
        rintro g199 s197 a200 w201 H2 ⟨hf202, hm203⟩
        unfold ref19_Text.l1 at H2
        refine wp_seq ?_
        refine wp_seq ?_
        rcases ifS_split H2 with ⟨c204, H2⟩ | ⟨c204, H2⟩
        rotate_left
        · refine reg [.slice A66 ((((rd x0.L s44.2).Val).Data).length) c67, .bool false] [1, 3, 4, 5, 12, 101] [(1, .pointer (some ⟨b21, 0, none⟩)), (3, .string (bs s197.1)), (4, .int .i64 s44.2), (5, .pointer (some ⟨b77, 0, none⟩)), (12, .int .i64 s197.2), (101, .bool false)] [.cell ⟨b77, 5, none⟩ (.slice A66 ((((rd x0.L s44.2).Val).Data).length) c67), .is (decide (s197.2 < (((((rd x0.L s44.2).Val).Data).length : Nat) : Int)) = false)] hf202 (by kernel_rfl) ⟨(hm203.cell 0 rfl rfl), (decide_eq_false c204), trivial⟩ fun a224 hf225 => ?_
          refine thenN ?_
          refine condF hf225 (by kernel_rfl) ?_
          refine wp_exit ?_
          refine thenE ?_
          refine thenE ?_
          obtain rfl := Option.some.inj H2
          exact .inl ⟨rfl, hf225.sel (l := [1, 3, 4, 5, 12]) (by kernel_rfl), hm203.sel [0, 1, 2, 3, 4, 5, 6, 7] _ rfl (by kernel_rfl)⟩
        refine reg [.slice A66 ((((rd x0.L s44.2).Val).Data).length) c67, .bool true] [1, 3, 4, 5, 12, 101] [(1, .pointer (some ⟨b21, 0, none⟩)), (3, .string (bs s197.1)), (4, .int .i64 s44.2), (5, .pointer (some ⟨b77, 0, none⟩)), (12, .int .i64 s197.2), (101, .bool true)] [.cell ⟨b77, 5, none⟩ (.slice A66 ((((rd x0.L s44.2).Val).Data).length) c67), .is (decide (s197.2 < (((((rd x0.L s44.2).Val).Data).length : Nat) : Int)) = true)] hf202 (by kernel_rfl) ⟨(hm203.cell 0 rfl rfl), (decide_eq_true c204), trivial⟩ fun a205 hf206 => ?_
        refine thenN ?_
        refine condT hf206 (by kernel_rfl) ?_
        refine wp_skip ?_
        refine thenN ?_
        refine wp_seq ?_
        refine wp_block ?_
        obtain ⟨g207, H2⟩ := ifS_guard H2
        obtain ⟨g208, H2⟩ := ifS_guard H2
        obtain ⟨r209, hr209, H2⟩ := obS_split H2
        obtain ⟨g210, H2⟩ := ifS_guard H2
        have q211 := (hm203.slAt 2 rfl).float s197.2 g208.1 g208.2
        obtain ⟨b212, hb212, kb212⟩ := q211.2
        refine inReg ?_
        refine go 8 [.string (bs (s197.1 ++ ([32, 118, 58] : List UInt8))), .slice A66 ((((rd x0.L s44.2).Val).Data).length) c67, .float .f64 b212] [1, 3, 4, 5, 12, 105, 111] [(1, .pointer (some ⟨b21, 0, none⟩)), (3, .string (bs s197.1)), (4, .int .i64 s44.2), (5, .pointer (some ⟨b77, 0, none⟩)), (12, .int .i64 s197.2), (105, .string (bs (s197.1 ++ ([32, 118, 58] : List UInt8)))), (111, .float .f64 b212)] [.is (bs (s197.1 ++ ([32, 118, 58] : List UInt8)) = bs s197.1 ++ bs ([32, 118, 58] : List UInt8) ∧ (bs s197.1).size + (bs ([32, 118, 58] : List UInt8)).size ≤ 9223372036854775807), .cell ⟨b77, 5, none⟩ (.slice A66 ((((rd x0.L s44.2).Val).Data).length) c67), .is (Option.isSome A66 = true), .is (0 ≤ s197.2 ∧ s197.2 < (((((rd x0.L s44.2).Val).Data).length : Nat) : Int)), .cell ((ad A66).add ((s197.2).toNat * 1)) (.float .f64 b212)] hf206 (by kernel_rfl) ⟨(catOk g207), (hm203.cell 0 rfl rfl), q211.1, g208, kb212, trivial⟩ fun a213 hf214 => ?_
        refine listOf hf214 rfl (by kernel_rfl) (aCall (fid := 19) (args := [.float .f64 b212]) (d := 112) hf214 (by kernel_rfl) (by kernel_rfl) callable19 (ref19_Number.calls _ _ (rd (((rd x0.L s44.2).Val).Data) s197.2) b212 hb212 (hm203.give [] [] rfl rfl) r209 hr209) ?_)
        rintro _ w215 a216 ⟨rfl, hk218⟩ hf217
        have hm219 := hm203.still hk218.cum.none
        refine go 2 [.string (bs ((s197.1 ++ ([32, 118, 58] : List UInt8)) ++ r209))] [1, 3, 4, 5, 12] [(1, .pointer (some ⟨b21, 0, none⟩)), (3, .string (bs ((s197.1 ++ ([32, 118, 58] : List UInt8)) ++ r209))), (4, .int .i64 s44.2), (5, .pointer (some ⟨b77, 0, none⟩)), (12, .int .i64 s197.2)] [.is (bs ((s197.1 ++ ([32, 118, 58] : List UInt8)) ++ r209) = bs (s197.1 ++ ([32, 118, 58] : List UInt8)) ++ bs r209 ∧ (bs (s197.1 ++ ([32, 118, 58] : List UInt8))).size + (bs r209).size ≤ 9223372036854775807)] hf217 (by kernel_rfl) ⟨(catOk g210), trivial⟩ fun a220 hf221 => ?_
        refine endL rfl ?_
        refine blkN ?_
        refine thenN ?_
        refine reg [] [1, 3, 4, 5, 12] [(1, .pointer (some ⟨b21, 0, none⟩)), (3, .string (bs ((s197.1 ++ ([32, 118, 58] : List UInt8)) ++ r209))), (4, .int .i64 s44.2), (5, .pointer (some ⟨b77, 0, none⟩)), (12, .int .i64 (w64 (s197.2 + 1)))] [] hf221 (by kernel_rfl) trivial fun a222 hf223 => ?_
        exact ⟨(((s197.1 ++ ([32, 118, 58] : List UInt8)) ++ r209), (w64 (s197.2 + 1))), H2, hf223.sel (l := [1, 3, 4, 5, 12]) (by kernel_rfl), hm219.sel [0, 1, 2, 3, 4, 5, 6, 7] _ rfl (by kernel_rfl)⟩
      rintro a226 w227 ⟨hf228, hm229⟩
      refine thenN ?_
      refine wp_seq ?_
      refine wp_seq ?_
      refine reg [] [1, 3, 4, 5, 13] [(1, .pointer (some ⟨b21, 0, none⟩)), (3, .string (bs r198.1)), (4, .int .i64 s44.2), (5, .pointer (some ⟨b77, 0, none⟩)), (13, .int .i64 0)] [] hf228 (by kernel_rfl) trivial fun a230 hf231 => ?_
      refine thenN ?_
      obtain ⟨r233, hr233, H1⟩ := obS_split H1
      refine wpBlock (Mid := fun (a : Act) (w : World) => ∃ yr233 : ((List UInt8) × Int), r233 = .go yr233 ∧ Fr 159 a [(1, .pointer (some ⟨b21, 0, none⟩)), (3, .string (bs yr233.1)), (4, .int .i64 s44.2), (5, .pointer (some ⟨b77, 0, none⟩)), (13, .int .i64 yr233.2)] ∧ Mem [] M w0 [.bx b77 [.int .i64 ((rd x0.L s44.2).Op), .slice A59 (((rd x0.L s44.2).In).length) c60, .slice A61 (((rd x0.L s44.2).To).length) c62, .int .i64 ((rd x0.L s44.2).No), .slice A63 ((((rd x0.L s44.2).Val).Shape).length) c65, .slice A66 ((((rd x0.L s44.2).Val).Data).length) c67, .slice A68 (((rd x0.L s44.2).Hooks).length) c69] 49, .sl kHook A68 c69 ((rd x0.L s44.2).Hooks), .sl Kd.float A66 c67 (((rd x0.L s44.2).Val).Data), .sl (Kd.int .i64) A63 c65 (((rd x0.L s44.2).Val).Shape), .sl (Kd.int .i64) A61 c62 ((rd x0.L s44.2).To), .sl (Kd.int .i64) A59 c60 ((rd x0.L s44.2).In), .bx b21 [.slice A0_0 x0.L.length c0_0] 24, .sl kNode A0_0 c0_0 x0.L] w) ?_ ?_
      · refine wpLoop (ref19_Text.l2 x0 s44) r233 (fun (s232 : ((List UInt8) × Int)) (a : Act) (w : World) => Fr 159 a [(1, .pointer (some ⟨b21, 0, none⟩)), (3, .string (bs s232.1)), (4, .int .i64 s44.2), (5, .pointer (some ⟨b77, 0, none⟩)), (13, .int .i64 s232.2)] ∧ Mem [] M w0 [.bx b77 [.int .i64 ((rd x0.L s44.2).Op), .slice A59 (((rd x0.L s44.2).In).length) c60, .slice A61 (((rd x0.L s44.2).To).length) c62, .int .i64 ((rd x0.L s44.2).No), .slice A63 ((((rd x0.L s44.2).Val).Shape).length) c65, .slice A66 ((((rd x0.L s44.2).Val).Data).length) c67, .slice A68 (((rd x0.L s44.2).Hooks).length) c69] 49, .sl kHook A68 c69 ((rd x0.L s44.2).Hooks), .sl Kd.float A66 c67 (((rd x0.L s44.2).Val).Data), .sl (Kd.int .i64) A63 c65 (((rd x0.L s44.2).Val).Shape), .sl (Kd.int .i64) A61 c62 ((rd x0.L s44.2).To), .sl (Kd.int .i64) A59 c60 ((rd x0.L s44.2).In), .bx b21 [.slice A0_0 x0.L.length c0_0] 24, .sl kNode A0_0 c0_0 x0.L] w) (r198.1, 0) hr233 ⟨hf231.sel (l := [1, 3, 4, 5, 13]) (by kernel_rfl), hm229.sel [0, 1, 2, 3, 4, 5, 6, 7] _ rfl (by kernel_rfl)⟩ ?_
        rintro g234 s232 a235 w236 H2 ⟨hf237, hm238⟩
        unfold ref19_Text.l2 at H2
        refine wp_seq ?_
        refine wp_seq ?_
        rcases ifS_split H2 with ⟨c239, H2⟩ | ⟨c239, H2⟩
        rotate_left
        · refine reg [.slice A68 (((rd x0.L s44.2).Hooks).length) c69, .bool false] [1, 3, 4, 5, 13, 118] [(1, .pointer (some ⟨b21, 0, none⟩)), (3, .string (bs s232.1)), (4, .int .i64 s44.2), (5, .pointer (some ⟨b77, 0, none⟩)), (13, .int .i64 s232.2), (118, .bool false)] [.cell ⟨b77, 6, none⟩ (.slice A68 (((rd x0.L s44.2).Hooks).length) c69), .is (decide (s232.2 < ((((rd x0.L s44.2).Hooks).length : Nat) : Int)) = false)] hf237 (by kernel_rfl) ⟨(hm238.cell 0 rfl rfl), (decide_eq_false c239), trivial⟩ fun a373 hf374 => ?_
          refine thenN ?_
          refine condF hf374 (by kernel_rfl) ?_
          refine wp_exit ?_
          refine thenE ?_
          refine thenE ?_
          obtain rfl := Option.some.inj H2
          exact .inl ⟨rfl, (s232.1, s232.2), rfl, hf374.sel (l := [1, 3, 4, 5, 13]) (by kernel_rfl), hm238.sel [0, 1, 2, 3, 4, 5, 6, 7] _ rfl (by kernel_rfl)⟩
        refine reg [.slice A68 (((rd x0.L s44.2).Hooks).length) c69, .bool true] [1, 3, 4, 5, 13, 118] [(1, .pointer (some ⟨b21, 0, none⟩)), (3, .string (bs s232.1)), (4, .int .i64 s44.2), (5, .pointer (some ⟨b77, 0, none⟩)), (13, .int .i64 s232.2), (118, .bool true)] [.cell ⟨b77, 6, none⟩ (.slice A68 (((rd x0.L s44.2).Hooks).length) c69), .is (decide (s232.2 < ((((rd x0.L s44.2).Hooks).length : Nat) : Int)) = true)] hf237 (by kernel_rfl) ⟨(hm238.cell 0 rfl rfl), (decide_eq_true c239), trivial⟩ fun a240 hf241 => ?_
        refine thenN ?_
        refine condT hf241 (by kernel_rfl) ?_
        refine wp_skip ?_
        refine thenN ?_
        refine wp_seq ?_
        refine wp_block ?_
        refine wp_seq ?_
        refine wp_seq ?_
        obtain ⟨g242, H2⟩ := ifS_guard H2
        rcases ifS_split H2 with ⟨c243, H2⟩ | ⟨c243, H2⟩
        · have q244 := (hm238.slAt 1 rfl).get s232.2 g242.1 g242.2
          obtain ⟨us245, hr246, hc247⟩ := q244.2
          obtain ⟨b248, rfl, hb248⟩ := kHook.open hr246
          refine reg [.slice A68 (((rd x0.L s44.2).Hooks).length) c69, .int .i64 ((rd ((rd x0.L s44.2).Hooks) s232.2).Do), .bool true] [1, 3, 4, 5, 13, 136] [(1, .pointer (some ⟨b21, 0, none⟩)), (3, .string (bs s232.1)), (4, .int .i64 s44.2), (5, .pointer (some ⟨b77, 0, none⟩)), (13, .int .i64 s232.2), (136, .bool true)] [.cell ⟨b77, 6, none⟩ (.slice A68 (((rd x0.L s44.2).Hooks).length) c69), .is (Option.isSome A68 = true), .is (0 ≤ s232.2 ∧ s232.2 < ((((rd x0.L s44.2).Hooks).length : Nat) : Int)), .cell ((ad A68).add ((s232.2).toNat * 2)) (.int .i64 ((rd ((rd x0.L s44.2).Hooks) s232.2).Do)), .is (decide ((rd ((rd x0.L s44.2).Hooks) s232.2).Do < 0) = true)] hf241 (by kernel_rfl) ⟨(hm238.cell 0 rfl rfl), q244.1, g242, (hc247 0 _ rfl), (decide_eq_true c243), trivial⟩ fun a249 hf250 => ?_
          refine thenN ?_
          refine condT hf250 (by kernel_rfl) ?_
          refine wp_seq ?_
          refine reg [] [2] [(2, .string (bs ([] : List UInt8)))] [] hf250 (by kernel_rfl) trivial fun a251 hf252 => ?_
          have hm253 := hm238.sel [] _ rfl (by kernel_rfl)
          refine thenN ?_
          refine wp_ret ?_
          refine thenR ?_
          refine blkR ?_
          refine thenR ?_
          refine thenR ?_
          refine .inr ⟨rfl, ?_⟩
          refine thenR ?_
          refine blkR ?_
          refine thenR ?_
          refine thenR ?_
          refine .inr ⟨rfl, ?_⟩
          refine thenR ?_
          have hm254 : Mem [] M w0 [] w236 := hm253.sel [] _ rfl (by kernel_rfl)
          obtain rfl := Option.some.inj H2
          obtain rfl := Option.some.inj H1
          obtain rfl := Option.some.inj H0
          refine ret [] [.string (bs ([] : List UInt8))] [] hf252 (by kernel_rfl) trivial ?_
          exact ⟨_, rfl, rfl, hm254⟩
        rcases ifS_split H2 with ⟨c256, H2⟩ | ⟨c256, H2⟩
        · have q257 := (hm238.slAt 1 rfl).get s232.2 g242.1 g242.2
          obtain ⟨us258, hr259, hc260⟩ := q257.2
          obtain ⟨b261, rfl, hb261⟩ := kHook.open hr259
          have q262 := (hm238.slAt 1 rfl).get s232.2 g242.1 g242.2
          obtain ⟨us263, hr264, hc265⟩ := q262.2
          obtain ⟨b266, rfl, hb266⟩ := kHook.open hr264
          refine reg [.slice A68 (((rd x0.L s44.2).Hooks).length) c69, .int .i64 ((rd ((rd x0.L s44.2).Hooks) s232.2).Do), .bool false, .slice A68 (((rd x0.L s44.2).Hooks).length) c69, .int .i64 ((rd ((rd x0.L s44.2).Hooks) s232.2).Do), .bool true] [1, 3, 4, 5, 13, 136] [(1, .pointer (some ⟨b21, 0, none⟩)), (3, .string (bs s232.1)), (4, .int .i64 s44.2), (5, .pointer (some ⟨b77, 0, none⟩)), (13, .int .i64 s232.2), (136, .bool true)] [.cell ⟨b77, 6, none⟩ (.slice A68 (((rd x0.L s44.2).Hooks).length) c69), .is (Option.isSome A68 = true), .is (0 ≤ s232.2 ∧ s232.2 < ((((rd x0.L s44.2).Hooks).length : Nat) : Int)), .cell ((ad A68).add ((s232.2).toNat * 2)) (.int .i64 ((rd ((rd x0.L s44.2).Hooks) s232.2).Do)), .is (decide ((rd ((rd x0.L s44.2).Hooks) s232.2).Do < 0) = false), .cell ⟨b77, 6, none⟩ (.slice A68 (((rd x0.L s44.2).Hooks).length) c69), .is (Option.isSome A68 = true), .is (0 ≤ s232.2 ∧ s232.2 < ((((rd x0.L s44.2).Hooks).length : Nat) : Int)), .cell ((ad A68).add ((s232.2).toNat * 2)) (.int .i64 ((rd ((rd x0.L s44.2).Hooks) s232.2).Do)), .is (decide (999999999 < (rd ((rd x0.L s44.2).Hooks) s232.2).Do) = true)] hf241 (by kernel_rfl) ⟨(hm238.cell 0 rfl rfl), q257.1, g242, (hc260 0 _ rfl), (decide_eq_false c243), (hm238.cell 0 rfl rfl), q262.1, g242, (hc265 0 _ rfl), (decide_eq_true c256), trivial⟩ fun a267 hf268 => ?_
          refine thenN ?_
          refine condT hf268 (by kernel_rfl) ?_
          refine wp_seq ?_
          refine reg [] [2] [(2, .string (bs ([] : List UInt8)))] [] hf268 (by kernel_rfl) trivial fun a269 hf270 => ?_
          have hm271 := hm238.sel [] _ rfl (by kernel_rfl)
          refine thenN ?_
          refine wp_ret ?_
          refine thenR ?_
          refine blkR ?_
          refine thenR ?_
          refine thenR ?_
          refine .inr ⟨rfl, ?_⟩
          refine thenR ?_
          refine blkR ?_
          refine thenR ?_
          refine thenR ?_
          refine .inr ⟨rfl, ?_⟩
          refine thenR ?_
          have hm272 : Mem [] M w0 [] w236 := hm271.sel [] _ rfl (by kernel_rfl)
          obtain rfl := Option.some.inj H2
          obtain rfl := Option.some.inj H1
          obtain rfl := Option.some.inj H0
          refine ret [] [.string (bs ([] : List UInt8))] [] hf270 (by kernel_rfl) trivial ?_
          exact ⟨_, rfl, rfl, hm272⟩
        have q274 := (hm238.slAt 1 rfl).get s232.2 g242.1 g242.2
        obtain ⟨us275, hr276, hc277⟩ := q274.2
        obtain ⟨b278, rfl, hb278⟩ := kHook.open hr276
        have q279 := (hm238.slAt 1 rfl).get s232.2 g242.1 g242.2
        obtain ⟨us280, hr281, hc282⟩ := q279.2
        obtain ⟨b283, rfl, hb283⟩ := kHook.open hr281
        refine reg [.slice A68 (((rd x0.L s44.2).Hooks).length) c69, .int .i64 ((rd ((rd x0.L s44.2).Hooks) s232.2).Do), .bool false, .slice A68 (((rd x0.L s44.2).Hooks).length) c69, .int .i64 ((rd ((rd x0.L s44.2).Hooks) s232.2).Do), .bool false] [1, 3, 4, 5, 13, 136] [(1, .pointer (some ⟨b21, 0, none⟩)), (3, .string (bs s232.1)), (4, .int .i64 s44.2), (5, .pointer (some ⟨b77, 0, none⟩)), (13, .int .i64 s232.2), (136, .bool false)] [.cell ⟨b77, 6, none⟩ (.slice A68 (((rd x0.L s44.2).Hooks).length) c69), .is (Option.isSome A68 = true), .is (0 ≤ s232.2 ∧ s232.2 < ((((rd x0.L s44.2).Hooks).length : Nat) : Int)), .cell ((ad A68).add ((s232.2).toNat * 2)) (.int .i64 ((rd ((rd x0.L s44.2).Hooks) s232.2).Do)), .is (decide ((rd ((rd x0.L s44.2).Hooks) s232.2).Do < 0) = false), .cell ⟨b77, 6, none⟩ (.slice A68 (((rd x0.L s44.2).Hooks).length) c69), .is (Option.isSome A68 = true), .is (0 ≤ s232.2 ∧ s232.2 < ((((rd x0.L s44.2).Hooks).length : Nat) : Int)), .cell ((ad A68).add ((s232.2).toNat * 2)) (.int .i64 ((rd ((rd x0.L s44.2).Hooks) s232.2).Do)), .is (decide (999999999 < (rd ((rd x0.L s44.2).Hooks) s232.2).Do) = false)] hf241 (by kernel_rfl) ⟨(hm238.cell 0 rfl rfl), q274.1, g242, (hc277 0 _ rfl), (decide_eq_false c243), (hm238.cell 0 rfl rfl), q279.1, g242, (hc282 0 _ rfl), (decide_eq_false c256), trivial⟩ fun a284 hf285 => ?_
        refine thenN ?_
        refine condF hf285 (by kernel_rfl) ?_
        refine wp_skip ?_
        refine thenN ?_
        obtain ⟨g286, H2⟩ := ifS_guard H2
        obtain ⟨r287, hr287, H2⟩ := obS_split H2
        obtain ⟨g288, H2⟩ := ifS_guard H2
        obtain ⟨g289, H2⟩ := ifS_guard H2
        obtain ⟨r290, hr290, H2⟩ := obS_split H2
        obtain ⟨g291, H2⟩ := ifS_guard H2
        refine midReg (fun (a : Act) (w : World) => Fr 159 a [(1, .pointer (some ⟨b21, 0, none⟩)), (3, .string (bs ((((s232.1 ++ ([32, 104, 58] : List UInt8)) ++ r287) ++ ([44] : List UInt8)) ++ r290))), (4, .int .i64 s44.2), (5, .pointer (some ⟨b77, 0, none⟩)), (13, .int .i64 s232.2)] ∧ Mem [] M w0 [.bx b77 [.int .i64 ((rd x0.L s44.2).Op), .slice A59 (((rd x0.L s44.2).In).length) c60, .slice A61 (((rd x0.L s44.2).To).length) c62, .int .i64 ((rd x0.L s44.2).No), .slice A63 ((((rd x0.L s44.2).Val).Shape).length) c65, .slice A66 ((((rd x0.L s44.2).Val).Data).length) c67, .slice A68 (((rd x0.L s44.2).Hooks).length) c69] 49, .sl kHook A68 c69 ((rd x0.L s44.2).Hooks), .sl Kd.float A66 c67 (((rd x0.L s44.2).Val).Data), .sl (Kd.int .i64) A63 c65 (((rd x0.L s44.2).Val).Shape), .sl (Kd.int .i64) A61 c62 ((rd x0.L s44.2).To), .sl (Kd.int .i64) A59 c60 ((rd x0.L s44.2).In), .bx b21 [.slice A0_0 x0.L.length c0_0] 24, .sl kNode A0_0 c0_0 x0.L] w) ?_ ?_
        · refine anyG (K := []) [] (by kernel_rfl) fun w312 hg313 => ?_
          have hm314 := hm238.still hg313
          have q341 := (hm314.slAt 1 rfl).get s232.2 g242.1 g242.2
          obtain ⟨us342, hr343, hc344⟩ := q341.2
          obtain ⟨b345, rfl, hb345⟩ := kHook.open hr343
          have q346 := (hm314.slAt 1 rfl).get s232.2 g242.1 g242.2
          obtain ⟨us347, hr348, hc349⟩ := q346.2
          obtain ⟨b350, rfl, hb350⟩ := kHook.open hr348
          refine quiet0 [0, 1, 2, 3, 4, 5, 6, 7, 11, 12, 13, 14, 15, 16] [.string (bs (s232.1 ++ ([32, 104, 58] : List UInt8))), .slice A68 (((rd x0.L s44.2).Hooks).length) c69, .int .i64 ((rd ((rd x0.L s44.2).Hooks) s232.2).Do), .slice A68 (((rd x0.L s44.2).Hooks).length) c69, .float .f64 b350] [1, 3, 4, 5, 13, 138, 144, 153] #[true, true, true, true, true, true, true, true, false, false, false, true, true, true, true, true, true, false, false, false] [(1, .pointer (some ⟨b21, 0, none⟩)), (3, .string (bs s232.1)), (4, .int .i64 s44.2), (5, .pointer (some ⟨b77, 0, none⟩)), (13, .int .i64 s232.2), (138, .string (bs (s232.1 ++ ([32, 104, 58] : List UInt8)))), (144, .int .i64 ((rd ((rd x0.L s44.2).Hooks) s232.2).Do)), (153, .float .f64 b350)] [.is (bs (s232.1 ++ ([32, 104, 58] : List UInt8)) = bs s232.1 ++ bs ([32, 104, 58] : List UInt8) ∧ (bs s232.1).size + (bs ([32, 104, 58] : List UInt8)).size ≤ 9223372036854775807), .cell ⟨b77, 6, none⟩ (.slice A68 (((rd x0.L s44.2).Hooks).length) c69), .is (Option.isSome A68 = true), .is (0 ≤ s232.2 ∧ s232.2 < ((((rd x0.L s44.2).Hooks).length : Nat) : Int)), .cell ((ad A68).add ((s232.2).toNat * 2)) (.int .i64 ((rd ((rd x0.L s44.2).Hooks) s232.2).Do)), .cell ⟨b77, 6, none⟩ (.slice A68 (((rd x0.L s44.2).Hooks).length) c69), .is (Option.isSome A68 = true), .is (0 ≤ s232.2 ∧ s232.2 < ((((rd x0.L s44.2).Hooks).length : Nat) : Int)), .cell (((ad A68).add ((s232.2).toNat * 2)).add 1) (.float .f64 b350)] 6 rfl (by kernel_rfl) (fun _ _ _ _ _ h => nomatch h.1) hf285 (by kernel_rfl) ⟨(catOk g286), (hm314.cell 0 rfl rfl), q341.1, g242, (hc344 0 _ rfl), (hm314.cell 0 rfl rfl), q346.1, g242, (hc349 1 _ rfl), trivial⟩ fun a351 hf352 => ?_
          refine all1 8 (by kernel_rfl) ?_
          refine opOf hf352 rfl (by kernel_rfl) (aCall (fid := 28) (args := [.int .i64 ((rd ((rd x0.L s44.2).Hooks) s232.2).Do)]) (d := 145) hf352 (by kernel_rfl) (by kernel_rfl) callable28 (ref19_decimal.calls _ _ ((rd ((rd x0.L s44.2).Hooks) s232.2).Do) (hm314.give [] [] rfl rfl) r287 hr287) ?_)
          rintro _ w353 a354 ⟨rfl, hk356⟩ hf355
          refine ⟨.inr (Gr.still hk356.cum.none), ?_⟩
          have hm357 := hm314.still hk356.cum.none
          refine quiet0 [9, 10] [.string (bs ((s232.1 ++ ([32, 104, 58] : List UInt8)) ++ r287)), .string (bs (((s232.1 ++ ([32, 104, 58] : List UInt8)) ++ r287) ++ ([44] : List UInt8)))] [1, 3, 4, 5, 13, 147, 153] #[true, true, true, true, true, true, true, true, true, true, true, true, true, true, true, true, true, false, false, false] [(1, .pointer (some ⟨b21, 0, none⟩)), (3, .string (bs s232.1)), (4, .int .i64 s44.2), (5, .pointer (some ⟨b77, 0, none⟩)), (13, .int .i64 s232.2), (147, .string (bs (((s232.1 ++ ([32, 104, 58] : List UInt8)) ++ r287) ++ ([44] : List UInt8)))), (153, .float .f64 b350)] [.is (bs ((s232.1 ++ ([32, 104, 58] : List UInt8)) ++ r287) = bs (s232.1 ++ ([32, 104, 58] : List UInt8)) ++ bs r287 ∧ (bs (s232.1 ++ ([32, 104, 58] : List UInt8))).size + (bs r287).size ≤ 9223372036854775807), .is (bs (((s232.1 ++ ([32, 104, 58] : List UInt8)) ++ r287) ++ ([44] : List UInt8)) = bs ((s232.1 ++ ([32, 104, 58] : List UInt8)) ++ r287) ++ bs ([44] : List UInt8) ∧ (bs ((s232.1 ++ ([32, 104, 58] : List UInt8)) ++ r287)).size + (bs ([44] : List UInt8)).size ≤ 9223372036854775807)] 3 rfl (by kernel_rfl) (fun _ _ _ _ _ h => nomatch h.1) hf355 (by kernel_rfl) ⟨(catOk g288), (catOk g289), trivial⟩ fun a358 hf359 => ?_
          refine all1 17 (by kernel_rfl) ?_
          refine opOf hf359 rfl (by kernel_rfl) (aCall (fid := 19) (args := [.float .f64 b350]) (d := 154) hf359 (by kernel_rfl) (by kernel_rfl) callable19 (ref19_Number.calls _ _ ((rd ((rd x0.L s44.2).Hooks) s232.2).X) b350 hb350 (hm357.give [] [] rfl rfl) r290 hr290) ?_)
          rintro _ w360 a361 ⟨rfl, hk363⟩ hf362
          refine ⟨.inr (Gr.still hk363.cum.none), ?_⟩
          have hm364 := hm357.still hk363.cum.none
          refine quiet0 [18, 19] [.string (bs ((((s232.1 ++ ([32, 104, 58] : List UInt8)) ++ r287) ++ ([44] : List UInt8)) ++ r290))] [1, 3, 4, 5, 13] #[true, true, true, true, true, true, true, true, true, true, true, true, true, true, true, true, true, true, true, true] [(1, .pointer (some ⟨b21, 0, none⟩)), (3, .string (bs ((((s232.1 ++ ([32, 104, 58] : List UInt8)) ++ r287) ++ ([44] : List UInt8)) ++ r290))), (4, .int .i64 s44.2), (5, .pointer (some ⟨b77, 0, none⟩)), (13, .int .i64 s232.2)] [.is (bs ((((s232.1 ++ ([32, 104, 58] : List UInt8)) ++ r287) ++ ([44] : List UInt8)) ++ r290) = bs (((s232.1 ++ ([32, 104, 58] : List UInt8)) ++ r287) ++ ([44] : List UInt8)) ++ bs r290 ∧ (bs (((s232.1 ++ ([32, 104, 58] : List UInt8)) ++ r287) ++ ([44] : List UInt8))).size + (bs r290).size ≤ 9223372036854775807)] 0 rfl (by kernel_rfl) (fun _ _ _ _ _ h => nomatch h.1) hf362 (by kernel_rfl) ⟨(catOk g291), trivial⟩ fun a365 hf366 => ?_
          refine allDone (by kernel_rfl) ⟨rfl, hf366.sel (l := [1, 3, 4, 5, 13]) (by kernel_rfl), hm364.sel [0, 1, 2, 3, 4, 5, 6, 7] _ rfl (by kernel_rfl)⟩
        rintro a367 w368 ⟨hf369, hm370⟩
        refine blkN ?_
        refine thenN ?_
        refine reg [] [1, 3, 4, 5, 13] [(1, .pointer (some ⟨b21, 0, none⟩)), (3, .string (bs ((((s232.1 ++ ([32, 104, 58] : List UInt8)) ++ r287) ++ ([44] : List UInt8)) ++ r290))), (4, .int .i64 s44.2), (5, .pointer (some ⟨b77, 0, none⟩)), (13, .int .i64 (w64 (s232.2 + 1)))] [] hf369 (by kernel_rfl) trivial fun a371 hf372 => ?_
        exact ⟨(((((s232.1 ++ ([32, 104, 58] : List UInt8)) ++ r287) ++ ([44] : List UInt8)) ++ r290), (w64 (s232.2 + 1))), H2, hf372.sel (l := [1, 3, 4, 5, 13]) (by kernel_rfl), hm370.sel [0, 1, 2, 3, 4, 5, 6, 7] _ rfl (by kernel_rfl)⟩
      rintro a375 w376 ⟨yr233, rfl, hf377, hm378⟩
      refine thenN ?_
      obtain ⟨g379, H1⟩ := ifS_guard H1
      refine reg [.string (bs (yr233.1 ++ ([10] : List UInt8)))] [1, 3, 4] [(1, .pointer (some ⟨b21, 0, none⟩)), (3, .string (bs (yr233.1 ++ ([10] : List UInt8)))), (4, .int .i64 s44.2)] [.is (bs (yr233.1 ++ ([10] : List UInt8)) = bs yr233.1 ++ bs ([10] : List UInt8) ∧ (bs yr233.1).size + (bs ([10] : List UInt8)).size ≤ 9223372036854775807)] hf377 (by kernel_rfl) ⟨(catOk g379), trivial⟩ fun a380 hf381 => ?_
      have hm382 := hm378.sel [6, 7] _ rfl (by kernel_rfl)
      refine blkN ?_
      refine thenN ?_
      refine reg [] [1, 3, 4] [(1, .pointer (some ⟨b21, 0, none⟩)), (3, .string (bs (yr233.1 ++ ([10] : List UInt8)))), (4, .int .i64 (w64 (s44.2 + 1)))] [] hf381 (by kernel_rfl) trivial fun a383 hf384 => ?_
      exact ⟨((yr233.1 ++ ([10] : List UInt8)), (w64 (s44.2 + 1))), H1, hf384.sel (l := [1, 3, 4]) (by kernel_rfl), hm382.sel [0, 1] _ rfl (by kernel_rfl)⟩
    refine reg [.int .i64 ((rd x0.L s44.2).No), .bool true] [1, 3, 4, 5, 10, 86] [(1, .pointer (some ⟨b21, 0, none⟩)), (3, .string (bs (((s44.1 ++ r176) ++ r88.1) ++ r98.1))), (4, .int .i64 s44.2), (5, .pointer (some ⟨b77, 0, none⟩)), (10, .string (bs r108.1)), (86, .bool true)] [.cell ⟨b77, 3, none⟩ (.int .i64 ((rd x0.L s44.2).No)), .is ((((rd x0.L s44.2).No : Int) != 0) = true)] hf188 (by kernel_rfl) ⟨(hm186.cell 0 rfl rfl), (neT c189), trivial⟩ fun a385 hf386 => ?_
    refine thenN ?_
    refine condT hf386 (by kernel_rfl) ?_
    obtain ⟨g387, H1⟩ := ifS_guard H1
    obtain ⟨r388, hr388, H1⟩ := obS_split H1
    obtain ⟨g389, H1⟩ := ifS_guard H1
    refine inReg ?_
    refine go 4 [.string (bs ((((s44.1 ++ r176) ++ r88.1) ++ r98.1) ++ ([32, 110, 58] : List UInt8))), .int .i64 ((rd x0.L s44.2).No)] [1, 3, 4, 5, 10, 88, 90] [(1, .pointer (some ⟨b21, 0, none⟩)), (3, .string (bs (((s44.1 ++ r176) ++ r88.1) ++ r98.1))), (4, .int .i64 s44.2), (5, .pointer (some ⟨b77, 0, none⟩)), (10, .string (bs r108.1)), (88, .string (bs ((((s44.1 ++ r176) ++ r88.1) ++ r98.1) ++ ([32, 110, 58] : List UInt8)))), (90, .int .i64 ((rd x0.L s44.2).No))] [.is (bs ((((s44.1 ++ r176) ++ r88.1) ++ r98.1) ++ ([32, 110, 58] : List UInt8)) = bs (((s44.1 ++ r176) ++ r88.1) ++ r98.1) ++ bs ([32, 110, 58] : List UInt8) ∧ (bs (((s44.1 ++ r176) ++ r88.1) ++ r98.1)).size + (bs ([32, 110, 58] : List UInt8)).size ≤ 9223372036854775807), .cell ⟨b77, 3, none⟩ (.int .i64 ((rd x0.L s44.2).No))] hf386 (by kernel_rfl) ⟨(catOk g387), (hm186.cell 0 rfl rfl), trivial⟩ fun a390 hf391 => ?_
    refine listOf hf391 rfl (by kernel_rfl) (aCall (fid := 28) (args := [.int .i64 ((rd x0.L s44.2).No)]) (d := 91) hf391 (by kernel_rfl) (by kernel_rfl) callable28 (ref19_decimal.calls _ _ ((rd x0.L s44.2).No) (hm186.give [] [] rfl rfl) r388 hr388) ?_)
    rintro _ w392 a393 ⟨rfl, hk395⟩ hf394
    have hm396 := hm186.still hk395.cum.none
    refine go 2 [.string (bs (((((s44.1 ++ r176) ++ r88.1) ++ r98.1) ++ ([32, 110, 58] : List UInt8)) ++ r388))] [1, 3, 4, 5, 10] [(1, .pointer (some ⟨b21, 0, none⟩)), (3, .string (bs (((((s44.1 ++ r176) ++ r88.1) ++ r98.1) ++ ([32, 110, 58] : List UInt8)) ++ r388))), (4, .int .i64 s44.2), (5, .pointer (some ⟨b77, 0, none⟩)), (10, .string (bs r108.1))] [.is (bs (((((s44.1 ++ r176) ++ r88.1) ++ r98.1) ++ ([32, 110, 58] : List UInt8)) ++ r388) = bs ((((s44.1 ++ r176) ++ r88.1) ++ r98.1) ++ ([32, 110, 58] : List UInt8)) ++ bs r388 ∧ (bs ((((s44.1 ++ r176) ++ r88.1) ++ r98.1) ++ ([32, 110, 58] : List UInt8))).size + (bs r388).size ≤ 9223372036854775807)] hf394 (by kernel_rfl) ⟨(catOk g389), trivial⟩ fun a397 hf398 => ?_
    refine endL rfl ?_
    refine thenN ?_
    refine wp_seq ?_
    obtain ⟨g399, H1⟩ := ifS_guard H1
    refine reg [.string (bs ((((((s44.1 ++ r176) ++ r88.1) ++ r98.1) ++ ([32, 110, 58] : List UInt8)) ++ r388) ++ r108.1))] [1, 3, 4, 5] [(1, .pointer (some ⟨b21, 0, none⟩)), (3, .string (bs ((((((s44.1 ++ r176) ++ r88.1) ++ r98.1) ++ ([32, 110, 58] : List UInt8)) ++ r388) ++ r108.1))), (4, .int .i64 s44.2), (5, .pointer (some ⟨b77, 0, none⟩))] [.is (bs ((((((s44.1 ++ r176) ++ r88.1) ++ r98.1) ++ ([32, 110, 58] : List UInt8)) ++ r388) ++ r108.1) = bs (((((s44.1 ++ r176) ++ r88.1) ++ r98.1) ++ ([32, 110, 58] : List UInt8)) ++ r388) ++ bs r108.1 ∧ (bs (((((s44.1 ++ r176) ++ r88.1) ++ r98.1) ++ ([32, 110, 58] : List UInt8)) ++ r388)).size + (bs r108.1).size ≤ 9223372036854775807)] hf398 (by kernel_rfl) ⟨(catOk g399), trivial⟩ fun a400 hf401 => ?_
    refine thenN ?_
    refine wp_seq ?_
    refine wp_seq ?_
    refine reg [] [1, 3, 4, 5, 12] [(1, .pointer (some ⟨b21, 0, none⟩)), (3, .string (bs ((((((s44.1 ++ r176) ++ r88.1) ++ r98.1) ++ ([32, 110, 58] : List UInt8)) ++ r388) ++ r108.1))), (4, .int .i64 s44.2), (5, .pointer (some ⟨b77, 0, none⟩)), (12, .int .i64 0)] [] hf401 (by kernel_rfl) trivial fun a402 hf403 => ?_
    refine thenN ?_
    obtain ⟨r405, hr405, H1⟩ := obS_split H1
    refine wpBlock (Mid := fun (a : Act) (w : World) => Fr 159 a [(1, .pointer (some ⟨b21, 0, none⟩)), (3, .string (bs r405.1)), (4, .int .i64 s44.2), (5, .pointer (some ⟨b77, 0, none⟩)), (12, .int .i64 r405.2)] ∧ Mem [] M w0 [.bx b77 [.int .i64 ((rd x0.L s44.2).Op), .slice A59 (((rd x0.L s44.2).In).length) c60, .slice A61 (((rd x0.L s44.2).To).length) c62, .int .i64 ((rd x0.L s44.2).No), .slice A63 ((((rd x0.L s44.2).Val).Shape).length) c65, .slice A66 ((((rd x0.L s44.2).Val).Data).length) c67, .slice A68 (((rd x0.L s44.2).Hooks).length) c69] 49, .sl kHook A68 c69 ((rd x0.L s44.2).Hooks), .sl Kd.float A66 c67 (((rd x0.L s44.2).Val).Data), .sl (Kd.int .i64) A63 c65 (((rd x0.L s44.2).Val).Shape), .sl (Kd.int .i64) A61 c62 ((rd x0.L s44.2).To), .sl (Kd.int .i64) A59 c60 ((rd x0.L s44.2).In), .bx b21 [.slice A0_0 x0.L.length c0_0] 24, .sl kNode A0_0 c0_0 x0.L] w) ?_ ?_
    · refine wpLoop (ref19_Text.l1 x0 s44) r405 (fun (s404 : ((List UInt8) × Int)) (a : Act) (w : World) => Fr 159 a [(1, .pointer (some ⟨b21, 0, none⟩)), (3, .string (bs s404.1)), (4, .int .i64 s44.2), (5, .pointer (some ⟨b77, 0, none⟩)), (12, .int .i64 s404.2)] ∧ Mem [] M w0 [.bx b77 [.int .i64 ((rd x0.L s44.2).Op), .slice A59 (((rd x0.L s44.2).In).length) c60, .slice A61 (((rd x0.L s44.2).To).length) c62, .int .i64 ((rd x0.L s44.2).No), .slice A63 ((((rd x0.L s44.2).Val).Shape).length) c65, .slice A66 ((((rd x0.L s44.2).Val).Data).length) c67, .slice A68 (((rd x0.L s44.2).Hooks).length) c69] 49, .sl kHook A68 c69 ((rd x0.L s44.2).Hooks), .sl Kd.float A66 c67 (((rd x0.L s44.2).Val).Data), .sl (Kd.int .i64) A63 c65 (((rd x0.L s44.2).Val).Shape), .sl (Kd.int .i64) A61 c62 ((rd x0.L s44.2).To), .sl (Kd.int .i64) A59 c60 ((rd x0.L s44.2).In), .bx b21 [.slice A0_0 x0.L.length c0_0] 24, .sl kNode A0_0 c0_0 x0.L] w) (((((((s44.1 ++ r176) ++ r88.1) ++ r98.1) ++ ([32, 110, 58] : List UInt8)) ++ r388) ++ r108.1), 0) hr405 ⟨hf403.sel (l := [1, 3, 4, 5, 12]) (by kernel_rfl), hm396.sel [0, 1, 2, 3, 4, 5, 6, 7] _ rfl (by kernel_rfl)⟩ ?_
      rintro g406 s404 a407 w408 H2 ⟨hf409, hm410⟩
      unfold ref19_Text.l1 at H2
      refine wp_seq ?_
      refine wp_seq ?_
      rcases ifS_split H2 with ⟨c411, H2⟩ | ⟨c411, H2⟩
      rotate_left
      · refine reg [.slice A66 ((((rd x0.L s44.2).Val).Data).length) c67, .bool false] [1, 3, 4, 5, 12, 101] [(1, .pointer (some ⟨b21, 0, none⟩)), (3, .string (bs s404.1)), (4, .int .i64 s44.2), (5, .pointer (some ⟨b77, 0, none⟩)), (12, .int .i64 s404.2), (101, .bool false)] [.cell ⟨b77, 5, none⟩ (.slice A66 ((((rd x0.L s44.2).Val).Data).length) c67), .is (decide (s404.2 < (((((rd x0.L s44.2).Val).Data).length : Nat) : Int)) = false)] hf409 (by kernel_rfl) ⟨(hm410.cell 0 rfl rfl), (decide_eq_false c411), trivial⟩ fun a431 hf432 => ?_
        refine thenN ?_
        refine condF hf432 (by kernel_rfl) ?_
        refine wp_exit ?_
        refine thenE ?_
        refine thenE ?_
        obtain rfl := Option.some.inj H2
        exact .inl ⟨rfl, hf432.sel (l := [1, 3, 4, 5, 12]) (by kernel_rfl), hm410.sel [0, 1, 2, 3, 4, 5, 6, 7] _ rfl (by kernel_rfl)⟩
      refine reg [.slice A66 ((((rd x0.L s44.2).Val).Data).length) c67, .bool true] [1, 3, 4, 5, 12, 101] [(1, .pointer (some ⟨b21, 0, none⟩)), (3, .string (bs s404.1)), (4, .int .i64 s44.2), (5, .pointer (some ⟨b77, 0, none⟩)), (12, .int .i64 s404.2), (101, .bool true)] [.cell ⟨b77, 5, none⟩ (.slice A66 ((((rd x0.L s44.2).Val).Data).length) c67), .is (decide (s404.2 < (((((rd x0.L s44.2).Val).Data).length : Nat) : Int)) = true)] hf409 (by kernel_rfl) ⟨(hm410.cell 0 rfl rfl), (decide_eq_true c411), trivial⟩ fun a412 hf413 => ?_
      refine thenN ?_
      refine condT hf413 (by kernel_rfl) ?_
      refine wp_skip ?_
      refine thenN ?_
      refine wp_seq ?_
      refine wp_block ?_
      obtain ⟨g414, H2⟩ := ifS_guard H2
      obtain ⟨g415, H2⟩ := ifS_guard H2
      obtain ⟨r416, hr416, H2⟩ := obS_split H2
      obtain ⟨g417, H2⟩ := ifS_guard H2
      have q418 := (hm410.slAt 2 rfl).float s404.2 g415.1 g415.2
      obtain ⟨b419, hb419, kb419⟩ := q418.2
      refine inReg ?_
      refine go 8 [.string (bs (s404.1 ++ ([32, 118, 58] : List UInt8))), .slice A66 ((((rd x0.L s44.2).Val).Data).length) c67, .float .f64 b419] [1, 3, 4, 5, 12, 105, 111] [(1, .pointer (some ⟨b21, 0, none⟩)), (3, .string (bs s404.1)), (4, .int .i64 s44.2), (5, .pointer (some ⟨b77, 0, none⟩)), (12, .int .i64 s404.2), (105, .string (bs (s404.1 ++ ([32, 118, 58] : List UInt8)))), (111, .float .f64 b419)] [.is (bs (s404.1 ++ ([32, 118, 58] : List UInt8)) = bs s404.1 ++ bs ([32, 118, 58] : List UInt8) ∧ (bs s404.1).size + (bs ([32, 118, 58] : List UInt8)).size ≤ 9223372036854775807), .cell ⟨b77, 5, none⟩ (.slice A66 ((((rd x0.L s44.2).Val).Data).length) c67), .is (Option.isSome A66 = true), .is (0 ≤ s404.2 ∧ s404.2 < (((((rd x0.L s44.2).Val).Data).length : Nat) : Int)), .cell ((ad A66).add ((s404.2).toNat * 1)) (.float .f64 b419)] hf413 (by kernel_rfl) ⟨(catOk g414), (hm410.cell 0 rfl rfl), q418.1, g415, kb419, trivial⟩ fun a420 hf421 => ?_
      refine listOf hf421 rfl (by kernel_rfl) (aCall (fid := 19) (args := [.float .f64 b419]) (d := 112) hf421 (by kernel_rfl) (by kernel_rfl) callable19 (ref19_Number.calls _ _ (rd (((rd x0.L s44.2).Val).Data) s404.2) b419 hb419 (hm410.give [] [] rfl rfl) r416 hr416) ?_)
      rintro _ w422 a423 ⟨rfl, hk425⟩ hf424
      have hm426 := hm410.still hk425.cum.none
      refine go 2 [.string (bs ((s404.1 ++ ([32, 118, 58] : List UInt8)) ++ r416))] [1, 3, 4, 5, 12] [(1, .pointer (some ⟨b21, 0, none⟩)), (3, .string (bs ((s404.1 ++ ([32, 118, 58] : List UInt8)) ++ r416))), (4, .int .i64 s44.2), (5, .pointer (some ⟨b77, 0, none⟩)), (12, .int .i64 s404.2)] [.is (bs ((s404.1 ++ ([32, 118, 58] : List UInt8)) ++ r416) = bs (s404.1 ++ ([32, 118, 58] : List UInt8)) ++ bs r416 ∧ (bs (s404.1 ++ ([32, 118, 58] : List UInt8))).size + (bs r416).size ≤ 9223372036854775807)] hf424 (by kernel_rfl) ⟨(catOk g417), trivial⟩ fun a427 hf428 => ?_
      refine endL rfl ?_
      refine blkN ?_
      refine thenN ?_
      refine reg [] [1, 3, 4, 5, 12] [(1, .pointer (some ⟨b21, 0, none⟩)), (3, .string (bs ((s404.1 ++ ([32, 118, 58] : List UInt8)) ++ r416))), (4, .int .i64 s44.2), (5, .pointer (some ⟨b77, 0, none⟩)), (12, .int .i64 (w64 (s404.2 + 1)))] [] hf428 (by kernel_rfl) trivial fun a429 hf430 => ?_
      exact ⟨(((s404.1 ++ ([32, 118, 58] : List UInt8)) ++ r416), (w64 (s404.2 + 1))), H2, hf430.sel (l := [1, 3, 4, 5, 12]) (by kernel_rfl), hm426.sel [0, 1, 2, 3, 4, 5, 6, 7] _ rfl (by kernel_rfl)⟩
    rintro a433 w434 ⟨hf435, hm436⟩
    refine thenN ?_
    refine wp_seq ?_
    refine wp_seq ?_
    refine reg [] [1, 3, 4, 5, 13] [(1, .pointer (some ⟨b21, 0, none⟩)), (3, .string (bs r405.1)), (4, .int .i64 s44.2), (5, .pointer (some ⟨b77, 0, none⟩)), (13, .int .i64 0)] [] hf435 (by kernel_rfl) trivial fun a437 hf438 => ?_
    refine thenN ?_
    obtain ⟨r440, hr440, H1⟩ := obS_split H1
    refine wpBlock (Mid := fun (a : Act) (w : World) => ∃ yr440 : ((List UInt8) × Int), r440 = .go yr440 ∧ Fr 159 a [(1, .pointer (some ⟨b21, 0, none⟩)), (3, .string (bs yr440.1)), (4, .int .i64 s44.2), (5, .pointer (some ⟨b77, 0, none⟩)), (13, .int .i64 yr440.2)] ∧ Mem [] M w0 [.bx b77 [.int .i64 ((rd x0.L s44.2).Op), .slice A59 (((rd x0.L s44.2).In).length) c60, .slice A61 (((rd x0.L s44.2).To).length) c62, .int .i64 ((rd x0.L s44.2).No), .slice A63 ((((rd x0.L s44.2).Val).Shape).length) c65, .slice A66 ((((rd x0.L s44.2).Val).Data).length) c67, .slice A68 (((rd x0.L s44.2).Hooks).length) c69] 49, .sl kHook A68 c69 ((rd x0.L s44.2).Hooks), .sl Kd.float A66 c67 (((rd x0.L s44.2).Val).Data), .sl (Kd.int .i64) A63 c65 (((rd x0.L s44.2).Val).Shape), .sl (Kd.int .i64) A61 c62 ((rd x0.L s44.2).To), .sl (Kd.int .i64) A59 c60 ((rd x0.L s44.2).In), .bx b21 [.slice A0_0 x0.L.length c0_0] 24, .sl kNode A0_0 c0_0 x0.L] w) ?_ ?_
    · refine wpLoop (ref19_Text.l2 x0 s44) r440 (fun (s439 : ((List UInt8) × Int)) (a : Act) (w : World) => Fr 159 a [(1, .pointer (some ⟨b21, 0, none⟩)), (3, .string (bs s439.1)), (4, .int .i64 s44.2), (5, .pointer (some ⟨b77, 0, none⟩)), (13, .int .i64 s439.2)] ∧ Mem [] M w0 [.bx b77 [.int .i64 ((rd x0.L s44.2).Op), .slice A59 (((rd x0.L s44.2).In).length) c60, .slice A61 (((rd x0.L s44.2).To).length) c62, .int .i64 ((rd x0.L s44.2).No), .slice A63 ((((rd x0.L s44.2).Val).Shape).length) c65, .slice A66 ((((rd x0.L s44.2).Val).Data).length) c67, .slice A68 (((rd x0.L s44.2).Hooks).length) c69] 49, .sl kHook A68 c69 ((rd x0.L s44.2).Hooks), .sl Kd.float A66 c67 (((rd x0.L s44.2).Val).Data), .sl (Kd.int .i64) A63 c65 (((rd x0.L s44.2).Val).Shape), .sl (Kd.int .i64) A61 c62 ((rd x0.L s44.2).To), .sl (Kd.int .i64) A59 c60 ((rd x0.L s44.2).In), .bx b21 [.slice A0_0 x0.L.length c0_0] 24, .sl kNode A0_0 c0_0 x0.L] w) (r405.1, 0) hr440 ⟨hf438.sel (l := [1, 3, 4, 5, 13]) (by kernel_rfl), hm436.sel [0, 1, 2, 3, 4, 5, 6, 7] _ rfl (by kernel_rfl)⟩ ?_
      rintro g441 s439 a442 w443 H2 ⟨hf444, hm445⟩
      unfold ref19_Text.l2 at H2
      refine wp_seq ?_
      refine wp_seq ?_
      rcases ifS_split H2 with ⟨c446, H2⟩ | ⟨c446, H2⟩
      rotate_left
      · refine reg [.slice A68 (((rd x0.L s44.2).Hooks).length) c69, .bool false] [1, 3, 4, 5, 13, 118] [(1, .pointer (some ⟨b21, 0, none⟩)), (3, .string (bs s439.1)), (4, .int .i64 s44.2), (5, .pointer (some ⟨b77, 0, none⟩)), (13, .int .i64 s439.2), (118, .bool false)] [.cell ⟨b77, 6, none⟩ (.slice A68 (((rd x0.L s44.2).Hooks).length) c69), .is (decide (s439.2 < ((((rd x0.L s44.2).Hooks).length : Nat) : Int)) = false)] hf444 (by kernel_rfl) ⟨(hm445.cell 0 rfl rfl), (decide_eq_false c446), trivial⟩ fun a580 hf581 => ?_
        refine thenN ?_
        refine condF hf581 (by kernel_rfl) ?_
        refine wp_exit ?_
        refine thenE ?_
        refine thenE ?_
        obtain rfl := Option.some.inj H2
        exact .inl ⟨rfl, (s439.1, s439.2), rfl, hf581.sel (l := [1, 3, 4, 5, 13]) (by kernel_rfl), hm445.sel [0, 1, 2, 3, 4, 5, 6, 7] _ rfl (by kernel_rfl)⟩
      refine reg [.slice A68 (((rd x0.L s44.2).Hooks).length) c69, .bool true] [1, 3, 4, 5, 13, 118] [(1, .pointer (some ⟨b21, 0, none⟩)), (3, .string (bs s439.1)), (4, .int .i64 s44.2), (5, .pointer (some ⟨b77, 0, none⟩)), (13, .int .i64 s439.2), (118, .bool true)] [.cell ⟨b77, 6, none⟩ (.slice A68 (((rd x0.L s44.2).Hooks).length) c69), .is (decide (s439.2 < ((((rd x0.L s44.2).Hooks).length : Nat) : Int)) = true)] hf444 (by kernel_rfl) ⟨(hm445.cell 0 rfl rfl), (decide_eq_true c446), trivial⟩ fun a447 hf448 => ?_
      refine thenN ?_
      refine condT hf448 (by kernel_rfl) ?_
      refine wp_skip ?_
      refine thenN ?_
      refine wp_seq ?_
      refine wp_block ?_
      refine wp_seq ?_
      refine wp_seq ?_
      obtain ⟨g449, H2⟩ := ifS_guard H2
      rcases ifS_split H2 with ⟨c450, H2⟩ | ⟨c450, H2⟩
      · have q451 := (hm445.slAt 1 rfl).get s439.2 g449.1 g449.2
        obtain ⟨us452, hr453, hc454⟩ := q451.2
        obtain ⟨b455, rfl, hb455⟩ := kHook.open hr453
        refine reg [.slice A68 (((rd x0.L s44.2).Hooks).length) c69, .int .i64 ((rd ((rd x0.L s44.2).Hooks) s439.2).Do), .bool true] [1, 3, 4, 5, 13, 136] [(1, .pointer (some ⟨b21, 0, none⟩)), (3, .string (bs s439.1)), (4, .int .i64 s44.2), (5, .pointer (some ⟨b77, 0, none⟩)), (13, .int .i64 s439.2), (136, .bool true)] [.cell ⟨b77, 6, none⟩ (.slice A68 (((rd x0.L s44.2).Hooks).length) c69), .is (Option.isSome A68 = true), .is (0 ≤ s439.2 ∧ s439.2 < ((((rd x0.L s44.2).Hooks).length : Nat) : Int)), .cell ((ad A68).add ((s439.2).toNat * 2)) (.int .i64 ((rd ((rd x0.L s44.2).Hooks) s439.2).Do)), .is (decide ((rd ((rd x0.L s44.2).Hooks) s439.2).Do < 0) = true)] hf448 (by kernel_rfl) ⟨(hm445.cell 0 rfl rfl), q451.1, g449, (hc454 0 _ rfl), (decide_eq_true c450), trivial⟩ fun a456 hf457 => ?_
        refine thenN ?_
        refine condT hf457 (by kernel_rfl) ?_
        refine wp_seq ?_
        refine reg [] [2] [(2, .string (bs ([] : List UInt8)))] [] hf457 (by kernel_rfl) trivial fun a458 hf459 => ?_
        have hm460 := hm445.sel [] _ rfl (by kernel_rfl)
        refine thenN ?_
        refine wp_ret ?_
        refine thenR ?_
        refine blkR ?_
        refine thenR ?_
        refine thenR ?_
        refine .inr ⟨rfl, ?_⟩
        refine thenR ?_
        refine blkR ?_
        refine thenR ?_
        refine thenR ?_
        refine .inr ⟨rfl, ?_⟩
        refine thenR ?_
        have hm461 : Mem [] M w0 [] w443 := hm460.sel [] _ rfl (by kernel_rfl)
        obtain rfl := Option.some.inj H2
        obtain rfl := Option.some.inj H1
        obtain rfl := Option.some.inj H0
        refine ret [] [.string (bs ([] : List UInt8))] [] hf459 (by kernel_rfl) trivial ?_
        exact ⟨_, rfl, rfl, hm461⟩
      rcases ifS_split H2 with ⟨c463, H2⟩ | ⟨c463, H2⟩
      · have q464 := (hm445.slAt 1 rfl).get s439.2 g449.1 g449.2
        obtain ⟨us465, hr466, hc467⟩ := q464.2
        obtain ⟨b468, rfl, hb468⟩ := kHook.open hr466
        have q469 := (hm445.slAt 1 rfl).get s439.2 g449.1 g449.2
        obtain ⟨us470, hr471, hc472⟩ := q469.2
        obtain ⟨b473, rfl, hb473⟩ := kHook.open hr471
        refine reg [.slice A68 (((rd x0.L s44.2).Hooks).length) c69, .int .i64 ((rd ((rd x0.L s44.2).Hooks) s439.2).Do), .bool false, .slice A68 (((rd x0.L s44.2).Hooks).length) c69, .int .i64 ((rd ((rd x0.L s44.2).Hooks) s439.2).Do), .bool true] [1, 3, 4, 5, 13, 136] [(1, .pointer (some ⟨b21, 0, none⟩)), (3, .string (bs s439.1)), (4, .int .i64 s44.2), (5, .pointer (some ⟨b77, 0, none⟩)), (13, .int .i64 s439.2), (136, .bool true)] [.cell ⟨b77, 6, none⟩ (.slice A68 (((rd x0.L s44.2).Hooks).length) c69), .is (Option.isSome A68 = true), .is (0 ≤ s439.2 ∧ s439.2 < ((((rd x0.L s44.2).Hooks).length : Nat) : Int)), .cell ((ad A68).add ((s439.2).toNat * 2)) (.int .i64 ((rd ((rd x0.L s44.2).Hooks) s439.2).Do)), .is (decide ((rd ((rd x0.L s44.2).Hooks) s439.2).Do < 0) = false), .cell ⟨b77, 6, none⟩ (.slice A68 (((rd x0.L s44.2).Hooks).length) c69), .is (Option.isSome A68 = true), .is (0 ≤ s439.2 ∧ s439.2 < ((((rd x0.L s44.2).Hooks).length : Nat) : Int)), .cell ((ad A68).add ((s439.2).toNat * 2)) (.int .i64 ((rd ((rd x0.L s44.2).Hooks) s439.2).Do)), .is (decide (999999999 < (rd ((rd x0.L s44.2).Hooks) s439.2).Do) = true)] hf448 (by kernel_rfl) ⟨(hm445.cell 0 rfl rfl), q464.1, g449, (hc467 0 _ rfl), (decide_eq_false c450), (hm445.cell 0 rfl rfl), q469.1, g449, (hc472 0 _ rfl), (decide_eq_true c463), trivial⟩ fun a474 hf475 => ?_
        refine thenN ?_
        refine condT hf475 (by kernel_rfl) ?_
        refine wp_seq ?_
        refine reg [] [2] [(2, .string (bs ([] : List UInt8)))] [] hf475 (by kernel_rfl) trivial fun a476 hf477 => ?_
        have hm478 := hm445.sel [] _ rfl (by kernel_rfl)
        refine thenN ?_
        refine wp_ret ?_
        refine thenR ?_
        refine blkR ?_
        refine thenR ?_
        refine thenR ?_
        refine .inr ⟨rfl, ?_⟩
        refine thenR ?_
        refine blkR ?_
        refine thenR ?_
        refine thenR ?_
        refine .inr ⟨rfl, ?_⟩
        refine thenR ?_
        have hm479 : Mem [] M w0 [] w443 := hm478.sel [] _ rfl (by kernel_rfl)
        obtain rfl := Option.some.inj H2
        obtain rfl := Option.some.inj H1
        obtain rfl := Option.some.inj H0
        refine ret [] [.string (bs ([] : List UInt8))] [] hf477 (by kernel_rfl) trivial ?_
        exact ⟨_, rfl, rfl, hm479⟩
      have q481 := (hm445.slAt 1 rfl).get s439.2 g449.1 g449.2
      obtain ⟨us482, hr483, hc484⟩ := q481.2
      obtain ⟨b485, rfl, hb485⟩ := kHook.open hr483
      have q486 := (hm445.slAt 1 rfl).get s439.2 g449.1 g449.2
      obtain ⟨us487, hr488, hc489⟩ := q486.2
      obtain ⟨b490, rfl, hb490⟩ := kHook.open hr488
      refine reg [.slice A68 (((rd x0.L s44.2).Hooks).length) c69, .int .i64 ((rd ((rd x0.L s44.2).Hooks) s439.2).Do), .bool false, .slice A68 (((rd x0.L s44.2).Hooks).length) c69, .int .i64 ((rd ((rd x0.L s44.2).Hooks) s439.2).Do), .bool false] [1, 3, 4, 5, 13, 136] [(1, .pointer (some ⟨b21, 0, none⟩)), (3, .string (bs s439.1)), (4, .int .i64 s44.2), (5, .pointer (some ⟨b77, 0, none⟩)), (13, .int .i64 s439.2), (136, .bool false)] [.cell ⟨b77, 6, none⟩ (.slice A68 (((rd x0.L s44.2).Hooks).length) c69), .is (Option.isSome A68 = true), .is (0 ≤ s439.2 ∧ s439.2 < ((((rd x0.L s44.2).Hooks).length : Nat) : Int)), .cell ((ad A68).add ((s439.2).toNat * 2)) (.int .i64 ((rd ((rd x0.L s44.2).Hooks) s439.2).Do)), .is (decide ((rd ((rd x0.L s44.2).Hooks) s439.2).Do < 0) = false), .cell ⟨b77, 6, none⟩ (.slice A68 (((rd x0.L s44.2).Hooks).length) c69), .is (Option.isSome A68 = true), .is (0 ≤ s439.2 ∧ s439.2 < ((((rd x0.L s44.2).Hooks).length : Nat) : Int)), .cell ((ad A68).add ((s439.2).toNat * 2)) (.int .i64 ((rd ((rd x0.L s44.2).Hooks) s439.2).Do)), .is (decide (999999999 < (rd ((rd x0.L s44.2).Hooks) s439.2).Do) = false)] hf448 (by kernel_rfl) ⟨(hm445.cell 0 rfl rfl), q481.1, g449, (hc484 0 _ rfl), (decide_eq_false c450), (hm445.cell 0 rfl rfl), q486.1, g449, (hc489 0 _ rfl), (decide_eq_false c463), trivial⟩ fun a491 hf492 => ?_
      refine thenN ?_
      refine condF hf492 (by kernel_rfl) ?_
      refine wp_skip ?_
      refine thenN ?_
      obtain ⟨g493, H2⟩ := ifS_guard H2
      obtain ⟨r494, hr494, H2⟩ := obS_split H2
      obtain ⟨g495, H2⟩ := ifS_guard H2
      obtain ⟨g496, H2⟩ := ifS_guard H2
      obtain ⟨r497, hr497, H2⟩ := obS_split H2
      obtain ⟨g498, H2⟩ := ifS_guard H2
      refine midReg (fun (a : Act) (w : World) => Fr 159 a [(1, .pointer (some ⟨b21, 0, none⟩)), (3, .string (bs ((((s439.1 ++ ([32, 104, 58] : List UInt8)) ++ r494) ++ ([44] : List UInt8)) ++ r497))), (4, .int .i64 s44.2), (5, .pointer (some ⟨b77, 0, none⟩)), (13, .int .i64 s439.2)] ∧ Mem [] M w0 [.bx b77 [.int .i64 ((rd x0.L s44.2).Op), .slice A59 (((rd x0.L s44.2).In).length) c60, .slice A61 (((rd x0.L s44.2).To).length) c62, .int .i64 ((rd x0.L s44.2).No), .slice A63 ((((rd x0.L s44.2).Val).Shape).length) c65, .slice A66 ((((rd x0.L s44.2).Val).Data).length) c67, .slice A68 (((rd x0.L s44.2).Hooks).length) c69] 49, .sl kHook A68 c69 ((rd x0.L s44.2).Hooks), .sl Kd.float A66 c67 (((rd x0.L s44.2).Val).Data), .sl (Kd.int .i64) A63 c65 (((rd x0.L s44.2).Val).Shape), .sl (Kd.int .i64) A61 c62 ((rd x0.L s44.2).To), .sl (Kd.int .i64) A59 c60 ((rd x0.L s44.2).In), .bx b21 [.slice A0_0 x0.L.length c0_0] 24, .sl kNode A0_0 c0_0 x0.L] w) ?_ ?_
      · refine anyG (K := []) [] (by kernel_rfl) fun w519 hg520 => ?_
        have hm521 := hm445.still hg520
        have q548 := (hm521.slAt 1 rfl).get s439.2 g449.1 g449.2
        obtain ⟨us549, hr550, hc551⟩ := q548.2
        obtain ⟨b552, rfl, hb552⟩ := kHook.open hr550
        have q553 := (hm521.slAt 1 rfl).get s439.2 g449.1 g449.2
        obtain ⟨us554, hr555, hc556⟩ := q553.2
        obtain ⟨b557, rfl, hb557⟩ := kHook.open hr555
        refine quiet0 [0, 1, 2, 3, 4, 5, 6, 7, 11, 12, 13, 14, 15, 16] [.string (bs (s439.1 ++ ([32, 104, 58] : List UInt8))), .slice A68 (((rd x0.L s44.2).Hooks).length) c69, .int .i64 ((rd ((rd x0.L s44.2).Hooks) s439.2).Do), .slice A68 (((rd x0.L s44.2).Hooks).length) c69, .float .f64 b557] [1, 3, 4, 5, 13, 138, 144, 153] #[true, true, true, true, true, true, true, true, false, false, false, true, true, true, true, true, true, false, false, false] [(1, .pointer (some ⟨b21, 0, none⟩)), (3, .string (bs s439.1)), (4, .int .i64 s44.2), (5, .pointer (some ⟨b77, 0, none⟩)), (13, .int .i64 s439.2), (138, .string (bs (s439.1 ++ ([32, 104, 58] : List UInt8)))), (144, .int .i64 ((rd ((rd x0.L s44.2).Hooks) s439.2).Do)), (153, .float .f64 b557)] [.is (bs (s439.1 ++ ([32, 104, 58] : List UInt8)) = bs s439.1 ++ bs ([32, 104, 58] : List UInt8) ∧ (bs s439.1).size + (bs ([32, 104, 58] : List UInt8)).size ≤ 9223372036854775807), .cell ⟨b77, 6, none⟩ (.slice A68 (((rd x0.L s44.2).Hooks).length) c69), .is (Option.isSome A68 = true), .is (0 ≤ s439.2 ∧ s439.2 < ((((rd x0.L s44.2).Hooks).length : Nat) : Int)), .cell ((ad A68).add ((s439.2).toNat * 2)) (.int .i64 ((rd ((rd x0.L s44.2).Hooks) s439.2).Do)), .cell ⟨b77, 6, none⟩ (.slice A68 (((rd x0.L s44.2).Hooks).length) c69), .is (Option.isSome A68 = true), .is (0 ≤ s439.2 ∧ s439.2 < ((((rd x0.L s44.2).Hooks).length : Nat) : Int)), .cell (((ad A68).add ((s439.2).toNat * 2)).add 1) (.float .f64 b557)] 6 rfl (by kernel_rfl) (fun _ _ _ _ _ h => nomatch h.1) hf492 (by kernel_rfl) ⟨(catOk g493), (hm521.cell 0 rfl rfl), q548.1, g449, (hc551 0 _ rfl), (hm521.cell 0 rfl rfl), q553.1, g449, (hc556 1 _ rfl), trivial⟩ fun a558 hf559 => ?_
        refine all1 8 (by kernel_rfl) ?_
        refine opOf hf559 rfl (by kernel_rfl) (aCall (fid := 28) (args := [.int .i64 ((rd ((rd x0.L s44.2).Hooks) s439.2).Do)]) (d := 145) hf559 (by kernel_rfl) (by kernel_rfl) callable28 (ref19_decimal.calls _ _ ((rd ((rd x0.L s44.2).Hooks) s439.2).Do) (hm521.give [] [] rfl rfl) r494 hr494) ?_)
        rintro _ w560 a561 ⟨rfl, hk563⟩ hf562
        refine ⟨.inr (Gr.still hk563.cum.none), ?_⟩
        have hm564 := hm521.still hk563.cum.none
        refine quiet0 [9, 10] [.string (bs ((s439.1 ++ ([32, 104, 58] : List UInt8)) ++ r494)), .string (bs (((s439.1 ++ ([32, 104, 58] : List UInt8)) ++ r494) ++ ([44] : List UInt8)))] [1, 3, 4, 5, 13, 147, 153] #[true, true, true, true, true, true, true, true, true, true, true, true, true, true, true, true, true, false, false, false] [(1, .pointer (some ⟨b21, 0, none⟩)), (3, .string (bs s439.1)), (4, .int .i64 s44.2), (5, .pointer (some ⟨b77, 0, none⟩)), (13, .int .i64 s439.2), (147, .string (bs (((s439.1 ++ ([32, 104, 58] : List UInt8)) ++ r494) ++ ([44] : List UInt8)))), (153, .float .f64 b557)] [.is (bs ((s439.1 ++ ([32, 104, 58] : List UInt8)) ++ r494) = bs (s439.1 ++ ([32, 104, 58] : List UInt8)) ++ bs r494 ∧ (bs (s439.1 ++ ([32, 104, 58] : List UInt8))).size + (bs r494).size ≤ 9223372036854775807), .is (bs (((s439.1 ++ ([32, 104, 58] : List UInt8)) ++ r494) ++ ([44] : List UInt8)) = bs ((s439.1 ++ ([32, 104, 58] : List UInt8)) ++ r494) ++ bs ([44] : List UInt8) ∧ (bs ((s439.1 ++ ([32, 104, 58] : List UInt8)) ++ r494)).size + (bs ([44] : List UInt8)).size ≤ 9223372036854775807)] 3 rfl (by kernel_rfl) (fun _ _ _ _ _ h => nomatch h.1) hf562 (by kernel_rfl) ⟨(catOk g495), (catOk g496), trivial⟩ fun a565 hf566 => ?_
        refine all1 17 (by kernel_rfl) ?_
        refine opOf hf566 rfl (by kernel_rfl) (aCall (fid := 19) (args := [.float .f64 b557]) (d := 154) hf566 (by kernel_rfl) (by kernel_rfl) callable19 (ref19_Number.calls _ _ ((rd ((rd x0.L s44.2).Hooks) s439.2).X) b557 hb557 (hm564.give [] [] rfl rfl) r497 hr497) ?_)
        rintro _ w567 a568 ⟨rfl, hk570⟩ hf569
        refine ⟨.inr (Gr.still hk570.cum.none), ?_⟩
        have hm571 := hm564.still hk570.cum.none
        refine quiet0 [18, 19] [.string (bs ((((s439.1 ++ ([32, 104, 58] : List UInt8)) ++ r494) ++ ([44] : List UInt8)) ++ r497))] [1, 3, 4, 5, 13] #[true, true, true, true, true, true, true, true, true, true, true, true, true, true, true, true, true, true, true, true] [(1, .pointer (some ⟨b21, 0, none⟩)), (3, .string (bs ((((s439.1 ++ ([32, 104, 58] : List UInt8)) ++ r494) ++ ([44] : List UInt8)) ++ r497))), (4, .int .i64 s44.2), (5, .pointer (some ⟨b77, 0, none⟩)), (13, .int .i64 s439.2)] [.is (bs ((((s439.1 ++ ([32, 104, 58] : List UInt8)) ++ r494) ++ ([44] : List UInt8)) ++ r497) = bs (((s439.1 ++ ([32, 104, 58] : List UInt8)) ++ r494) ++ ([44] : List UInt8)) ++ bs r497 ∧ (bs (((s439.1 ++ ([32, 104, 58] : List UInt8)) ++ r494) ++ ([44] : List UInt8))).size + (bs r497).size ≤ 9223372036854775807)] 0 rfl (by kernel_rfl) (fun _ _ _ _ _ h => nomatch h.1) hf569 (by kernel_rfl) ⟨(catOk g498), trivial⟩ fun a572 hf573 => ?_
        refine allDone (by kernel_rfl) ⟨rfl, hf573.sel (l := [1, 3, 4, 5, 13]) (by kernel_rfl), hm571.sel [0, 1, 2, 3, 4, 5, 6, 7] _ rfl (by kernel_rfl)⟩
      rintro a574 w575 ⟨hf576, hm577⟩
      refine blkN ?_
      refine thenN ?_
      refine reg [] [1, 3, 4, 5, 13] [(1, .pointer (some ⟨b21, 0, none⟩)), (3, .string (bs ((((s439.1 ++ ([32, 104, 58] : List UInt8)) ++ r494) ++ ([44] : List UInt8)) ++ r497))), (4, .int .i64 s44.2), (5, .pointer (some ⟨b77, 0, none⟩)), (13, .int .i64 (w64 (s439.2 + 1)))] [] hf576 (by kernel_rfl) trivial fun a578 hf579 => ?_
      exact ⟨(((((s439.1 ++ ([32, 104, 58] : List UInt8)) ++ r494) ++ ([44] : List UInt8)) ++ r497), (w64 (s439.2 + 1))), H2, hf579.sel (l := [1, 3, 4, 5, 13]) (by kernel_rfl), hm577.sel [0, 1, 2, 3, 4, 5, 6, 7] _ rfl (by kernel_rfl)⟩
    rintro a582 w583 ⟨yr440, rfl, hf584, hm585⟩
    refine thenN ?_
    obtain ⟨g586, H1⟩ := ifS_guard H1
    refine reg [.string (bs (yr440.1 ++ ([10] : List UInt8)))] [1, 3, 4] [(1, .pointer (some ⟨b21, 0, none⟩)), (3, .string (bs (yr440.1 ++ ([10] : List UInt8)))), (4, .int .i64 s44.2)] [.is (bs (yr440.1 ++ ([10] : List UInt8)) = bs yr440.1 ++ bs ([10] : List UInt8) ∧ (bs yr440.1).size + (bs ([10] : List UInt8)).size ≤ 9223372036854775807)] hf584 (by kernel_rfl) ⟨(catOk g586), trivial⟩ fun a587 hf588 => ?_
    have hm589 := hm585.sel [6, 7] _ rfl (by kernel_rfl)
    refine blkN ?_
    refine thenN ?_
    refine reg [] [1, 3, 4] [(1, .pointer (some ⟨b21, 0, none⟩)), (3, .string (bs (yr440.1 ++ ([10] : List UInt8)))), (4, .int .i64 (w64 (s44.2 + 1)))] [] hf588 (by kernel_rfl) trivial fun a590 hf591 => ?_
    exact ⟨((yr440.1 ++ ([10] : List UInt8)), (w64 (s44.2 + 1))), H1, hf591.sel (l := [1, 3, 4]) (by kernel_rfl), hm589.sel [0, 1] _ rfl (by kernel_rfl)⟩
  rintro a636 w637 ⟨yr45, rfl, hf638, hm639⟩
  refine thenN ?_
  refine wp_seq ?_
  refine reg [] [2] [(2, .string (bs yr45.1))] [] hf638 (by kernel_rfl) trivial fun a640 hf641 => ?_
  have hm642 := hm639.sel [] _ rfl (by kernel_rfl)
  refine thenN ?_
  refine wp_ret ?_
  have hm643 : Mem [] M w0 [] w637 := hm642.sel [] _ rfl (by kernel_rfl)
  obtain rfl := Option.some.inj H0
  refine ret [] [.string (bs yr45.1)] [] hf641 (by kernel_rfl) trivial ?_
  exact ⟨_, rfl, rfl, hm643⟩
end Go.Proofs.YtkdhahdfkonilaaDoor
