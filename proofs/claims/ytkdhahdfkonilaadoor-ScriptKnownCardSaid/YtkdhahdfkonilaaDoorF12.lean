/- Printed by gen.py. -/
import Derived.Test.YtkdhahdfkonilaaDoorF11
import Derived.Test.YtkdhahdfkonilaaDoorF8
namespace Go.Proofs.YtkdhahdfkonilaaDoor
open Go Go.RowKit
set_option linter.unusedSimpArgs false
set_option linter.unusedVariables false
set_option linter.unnecessarySimpa false
/-! ### backstitch/backstitchlaw24.same -/
noncomputable def law24_same.l1 (x0 : Graph) (s42 : Int) (x1 : Graph) (s980 : Int) : Step Int (Out2 Int Bool) :=
  if s980 < ((((rd x0.L s42).Hooks).length : Nat) : Int) then (if 0 ≤ s980 ∧ s980 < ((((rd x0.L s42).Hooks).length : Nat) : Int) then (if 0 ≤ s980 ∧ s980 < ((((rd x1.L s42).Hooks).length : Nat) : Int) then (if (rd ((rd x0.L s42).Hooks) s980).Do = (rd ((rd x1.L s42).Hooks) s980).Do then (bindS (ref1_Same.f ((rd ((rd x0.L s42).Hooks) s980).X) ((rd ((rd x1.L s42).Hooks) s980).X)) fun r993 =>
  if r993 = true then (.next (w64 (s980 + 1)))
  else (.done (.ret false)))
  else (.done (.ret false)))
  else .bad)
  else .bad)
  else (.done (.go s980))
noncomputable def law24_same.l0 (x0 : Graph) (x1 : Graph) (s42 : Int) : Step Int (Out2 Int Bool) :=
  if s42 < (x0.L.length : Int) then (if 0 ≤ s42 ∧ s42 < (x0.L.length : Int) then (if 0 ≤ s42 ∧ s42 < (x1.L.length : Int) then (if (rd x0.L s42).Op = (rd x1.L s42).Op then (if (rd x0.L s42).No = (rd x1.L s42).No then (bindS (ref1_SameInts.f ((rd x0.L s42).In) ((rd x1.L s42).In)) fun r948 =>
  if r948 = true then (bindS (ref1_SameInts.f ((rd x0.L s42).To) ((rd x1.L s42).To)) fun r950 =>
  if r950 = true then (bindS (ref1_SameTensor.f (⟨(((rd x0.L s42).Val).Shape), (((rd x0.L s42).Val).Data)⟩ : Tensor) (⟨(((rd x1.L s42).Val).Shape), (((rd x1.L s42).Val).Data)⟩ : Tensor)) fun r952 =>
  if r952 = true then (if ((((rd x0.L s42).Hooks).length : Nat) : Int) = ((((rd x1.L s42).Hooks).length : Nat) : Int) then (bindS (loop (law24_same.l1 x0 s42 x1) 0) fun r981 =>
  r981.on (fun yr981 =>
  .next (w64 (s42 + 1))) (fun y => .done (.ret y)))
  else (.done (.ret false)))
  else (.done (.ret false)))
  else (.done (.ret false)))
  else (.done (.ret false)))
  else (.done (.ret false)))
  else (.done (.ret false)))
  else .bad)
  else .bad)
  else (.done (.go s42))
noncomputable def law24_same.f (x0 : Graph) (x1 : Graph) : Option Bool :=
  if (x0.L.length : Int) = (x1.L.length : Int) then ((loop (law24_same.l0 x0 x1) 0).bind fun r43 =>
  r43.on (fun yr43 =>
  some true) (fun y => some y))
  else (some false)
set_option maxRecDepth 100000 in
set_option maxHeartbeats 4000000 in
theorem law24_same.calls (M : List (Option Nat)) (w0 : World) (x0 : Graph) (A0_0 : Option Addr) (n0_0 c0_0 : Nat) (e0_0 : n0_0 = x0.L.length) (x1 : Graph) (A1_0 : Option Addr) (n1_0 c1_0 : Nat) (e1_0 : n1_0 = x1.L.length) (hm0 : Mem [] M w0 [.sl kNode A0_0 c0_0 x0.L, .sl kNode A1_0 c1_0 x1.L] w0) (r : Bool) (H0 : law24_same.f x0 x1 = some r) :
    Calls Tryd.prog 14 [.agg #[.slice A0_0 n0_0 c0_0], .agg #[.slice A1_0 n1_0 c1_0]].toArray w0 (fun x w' => ∃ v, x = .returned v ∧ v = .bool r ∧ Mem [] M w0 [] w') := by
  subst e0_0
  subst e1_0
  unfold law24_same.f at H0
  refine enter (n := 114) Tryd.func14 rfl rfl (by kernel_rfl) fun a0 (hf0 : Fr 114 a0 [(0, .agg #[.slice A0_0 x0.L.length c0_0]), (1, .agg #[.slice A1_0 x1.L.length c1_0])]) => ?_
  refine wp_seq ?_
  refine inReg ?_
  refine listOf hf0 rfl (by kernel_rfl) (aNew (cs := [.slice A0_0 x0.L.length c0_0]) (T := 24) (d := 2) hf0 (by kernel_rfl) (by kernel_rfl) ?_)
  intro b21 w22 a23 hbb21 hx25 hg26 hf24
  have hm27 := hm0.box hbb21 hx25 hg26
  refine listOf hf24 rfl (by kernel_rfl) (aNew (cs := [.slice A1_0 x1.L.length c1_0]) (T := 24) (d := 3) hf24 (by kernel_rfl) (by kernel_rfl) ?_)
  intro b28 w29 a30 hbb28 hx32 hg33 hf31
  have hm34 := hm27.box hbb28 hx32 hg33
  refine go 1 [] [2, 3] [(2, .pointer (some ⟨b21, 0, none⟩)), (3, .pointer (some ⟨b28, 0, none⟩))] [] hf31 (by kernel_rfl) trivial fun a35 hf36 => ?_
  refine endL rfl ?_
  refine thenN ?_
  refine wp_seq ?_
  refine wp_seq ?_
  rcases if_split H0 with ⟨c37, H0⟩ | ⟨c37, H0⟩
  rotate_left
  · refine reg [.slice A0_0 x0.L.length c0_0, .slice A1_0 x1.L.length c1_0, .bool true] [2, 3, 15] [(2, .pointer (some ⟨b21, 0, none⟩)), (3, .pointer (some ⟨b28, 0, none⟩)), (15, .bool true)] [.cell ⟨b21, 0, none⟩ (.slice A0_0 x0.L.length c0_0), .cell ⟨b28, 0, none⟩ (.slice A1_0 x1.L.length c1_0), .is ((((x0.L.length : Int) : Int) != (x1.L.length : Int)) = true)] hf36 (by kernel_rfl) ⟨(hm34.cell 1 rfl rfl), (hm34.cell 0 rfl rfl), (neT c37), trivial⟩ fun a1327 hf1328 => ?_
    refine thenN ?_
    refine condT hf1328 (by kernel_rfl) ?_
    refine wp_seq ?_
    refine reg [] [4] [(4, .bool false)] [] hf1328 (by kernel_rfl) trivial fun a1329 hf1330 => ?_
    have hm1331 := hm34.sel [] _ rfl (by kernel_rfl)
    refine thenN ?_
    refine wp_ret ?_
    refine thenR ?_
    have hm1332 : Mem [] M w0 [] w29 := hm1331.sel [] _ rfl (by kernel_rfl)
    obtain rfl := Option.some.inj H0
    refine ret [] [.bool false] [] hf1330 (by kernel_rfl) trivial ?_
    exact ⟨_, rfl, rfl, hm1332⟩
  refine reg [.slice A0_0 x0.L.length c0_0, .slice A1_0 x1.L.length c1_0, .bool false] [2, 3, 15] [(2, .pointer (some ⟨b21, 0, none⟩)), (3, .pointer (some ⟨b28, 0, none⟩)), (15, .bool false)] [.cell ⟨b21, 0, none⟩ (.slice A0_0 x0.L.length c0_0), .cell ⟨b28, 0, none⟩ (.slice A1_0 x1.L.length c1_0), .is ((((x0.L.length : Int) : Int) != (x1.L.length : Int)) = false)] hf36 (by kernel_rfl) ⟨(hm34.cell 1 rfl rfl), (hm34.cell 0 rfl rfl), (neF c37), trivial⟩ fun a38 hf39 => ?_
  refine thenN ?_
  refine condF hf39 (by kernel_rfl) ?_
  refine wp_skip ?_
  refine thenN ?_
  refine wp_seq ?_
  refine wp_seq ?_
  refine reg [] [2, 3, 5] [(2, .pointer (some ⟨b21, 0, none⟩)), (3, .pointer (some ⟨b28, 0, none⟩)), (5, .int .i64 0)] [] hf39 (by kernel_rfl) trivial fun a40 hf41 => ?_
  refine thenN ?_
  obtain ⟨r43, hr43, H0⟩ := ob_split H0
  refine wpBlock (Mid := fun (a : Act) (w : World) => ∃ yr43 : Int, r43 = .go yr43 ∧ Fr 114 a [(2, .pointer (some ⟨b21, 0, none⟩)), (3, .pointer (some ⟨b28, 0, none⟩)), (5, .int .i64 yr43)] ∧ Mem [] M w0 [.bx b28 [.slice A1_0 x1.L.length c1_0] 24, .bx b21 [.slice A0_0 x0.L.length c0_0] 24, .sl kNode A0_0 c0_0 x0.L, .sl kNode A1_0 c1_0 x1.L] w) ?_ ?_
  · refine wpLoop (law24_same.l0 x0 x1) r43 (fun (s42 : Int) (a : Act) (w : World) => Fr 114 a [(2, .pointer (some ⟨b21, 0, none⟩)), (3, .pointer (some ⟨b28, 0, none⟩)), (5, .int .i64 s42)] ∧ Mem [] M w0 [.bx b28 [.slice A1_0 x1.L.length c1_0] 24, .bx b21 [.slice A0_0 x0.L.length c0_0] 24, .sl kNode A0_0 c0_0 x0.L, .sl kNode A1_0 c1_0 x1.L] w) 0 hr43 ⟨hf41.sel (l := [2, 3, 5]) (by kernel_rfl), hm34.sel [0, 1, 2, 3] _ rfl (by kernel_rfl)⟩ ?_
    rintro g44 s42 a45 w46 H1 ⟨hf47, hm48⟩
    unfold law24_same.l0 at H1
    refine wp_seq ?_
    refine wp_seq ?_
    rcases ifS_split H1 with ⟨c49, H1⟩ | ⟨c49, H1⟩
    rotate_left
    · refine reg [.slice A0_0 x0.L.length c0_0, .bool false] [2, 3, 5, 20] [(2, .pointer (some ⟨b21, 0, none⟩)), (3, .pointer (some ⟨b28, 0, none⟩)), (5, .int .i64 s42), (20, .bool false)] [.cell ⟨b21, 0, none⟩ (.slice A0_0 x0.L.length c0_0), .is (decide (s42 < (x0.L.length : Int)) = false)] hf47 (by kernel_rfl) ⟨(hm48.cell 1 rfl rfl), (decide_eq_false c49), trivial⟩ fun a1316 hf1317 => ?_
      refine thenN ?_
      refine condF hf1317 (by kernel_rfl) ?_
      refine wp_exit ?_
      refine thenE ?_
      refine thenE ?_
      obtain rfl := Option.some.inj H1
      exact .inl ⟨rfl, s42, rfl, hf1317.sel (l := [2, 3, 5]) (by kernel_rfl), hm48.sel [0, 1, 2, 3] _ rfl (by kernel_rfl)⟩
    refine reg [.slice A0_0 x0.L.length c0_0, .bool true] [2, 3, 5, 20] [(2, .pointer (some ⟨b21, 0, none⟩)), (3, .pointer (some ⟨b28, 0, none⟩)), (5, .int .i64 s42), (20, .bool true)] [.cell ⟨b21, 0, none⟩ (.slice A0_0 x0.L.length c0_0), .is (decide (s42 < (x0.L.length : Int)) = true)] hf47 (by kernel_rfl) ⟨(hm48.cell 1 rfl rfl), (decide_eq_true c49), trivial⟩ fun a50 hf51 => ?_
    refine thenN ?_
    refine condT hf51 (by kernel_rfl) ?_
    refine wp_skip ?_
    refine thenN ?_
    refine wp_seq ?_
    refine wp_block ?_
    refine wp_seq ?_
    obtain ⟨g52, H1⟩ := ifS_guard H1
    obtain ⟨g53, H1⟩ := ifS_guard H1
    refine midReg (fun (a : Act) (w : World) => ∃ (b93 : Nat) (b100 : Nat) (A78 : Option Addr) (c79 : Nat) (A80 : Option Addr) (c81 : Nat) (A82 : Option Addr) (c83 : Nat) (A84 : Option Addr) (c85 : Nat) (A86 : Option Addr) (c87 : Nat) (A58 : Option Addr) (c59 : Nat) (A60 : Option Addr) (c61 : Nat) (A62 : Option Addr) (c63 : Nat) (A65 : Option Addr) (c66 : Nat) (A67 : Option Addr) (c68 : Nat), Fr 114 a [(2, .pointer (some ⟨b21, 0, none⟩)), (3, .pointer (some ⟨b28, 0, none⟩)), (5, .int .i64 s42), (6, .pointer (some ⟨b93, 0, none⟩)), (7, .pointer (some ⟨b100, 0, none⟩))] ∧ Mem [] M w0 [.bx b100 [.int .i64 ((rd x1.L s42).Op), .slice A78 (((rd x1.L s42).In).length) c79, .slice A80 (((rd x1.L s42).To).length) c81, .int .i64 ((rd x1.L s42).No), .slice A82 ((((rd x1.L s42).Val).Shape).length) c83, .slice A84 ((((rd x1.L s42).Val).Data).length) c85, .slice A86 (((rd x1.L s42).Hooks).length) c87] 49, .bx b93 [.int .i64 ((rd x0.L s42).Op), .slice A58 (((rd x0.L s42).In).length) c59, .slice A60 (((rd x0.L s42).To).length) c61, .int .i64 ((rd x0.L s42).No), .slice A62 ((((rd x0.L s42).Val).Shape).length) c63, .slice A65 ((((rd x0.L s42).Val).Data).length) c66, .slice A67 (((rd x0.L s42).Hooks).length) c68] 49, .sl kHook A86 c87 ((rd x1.L s42).Hooks), .sl Kd.float A84 c85 (((rd x1.L s42).Val).Data), .sl (Kd.int .i64) A82 c83 (((rd x1.L s42).Val).Shape), .sl (Kd.int .i64) A80 c81 ((rd x1.L s42).To), .sl (Kd.int .i64) A78 c79 ((rd x1.L s42).In), .sl kHook A67 c68 ((rd x0.L s42).Hooks), .sl Kd.float A65 c66 (((rd x0.L s42).Val).Data), .sl (Kd.int .i64) A62 c63 (((rd x0.L s42).Val).Shape), .sl (Kd.int .i64) A60 c61 ((rd x0.L s42).To), .sl (Kd.int .i64) A58 c59 ((rd x0.L s42).In), .bx b28 [.slice A1_0 x1.L.length c1_0] 24, .bx b21 [.slice A0_0 x0.L.length c0_0] 24, .sl kNode A0_0 c0_0 x0.L, .sl kNode A1_0 c1_0 x1.L] w) ?_ ?_
    · refine anyG (K := []) [12, 13] (by kernel_rfl) fun w115 hg116 => ?_
      have hm117 := hm48.still hg116
      refine memoStep (R := fun (a : Act) (w : World) => ∃ (b209 : Nat) (b253 : Nat) (A122 : Option Addr) (c123 : Nat) (A124 : Option Addr) (c125 : Nat) (A126 : Option Addr) (c127 : Nat) (A128 : Option Addr) (c129 : Nat) (A130 : Option Addr) (c131 : Nat), Fr 114 a [(2, .pointer (some ⟨b21, 0, none⟩)), (3, .pointer (some ⟨b28, 0, none⟩)), (5, .int .i64 s42), (6, .pointer (some ⟨b209, 0, none⟩)), (7, .pointer (some ⟨b253, 0, none⟩)), (27, .agg #[.int .i64 ((rd x0.L s42).Op), .slice A122 (((rd x0.L s42).In).length) c123, .slice A124 (((rd x0.L s42).To).length) c125, .int .i64 ((rd x0.L s42).No), .slice A126 ((((rd x0.L s42).Val).Shape).length) c127, .slice A128 ((((rd x0.L s42).Val).Data).length) c129, .slice A130 (((rd x0.L s42).Hooks).length) c131]), (31, .pointer (some ((ad A1_0).add ((s42).toNat * 7))))] ∧ Mem [] M w0 [.bx b253 [.int .i64 0, .slice none 0 0, .slice none 0 0, .int .i64 0, .slice none 0 0, .slice none 0 0, .slice none 0 0] 49, .bx b209 [.int .i64 0, .slice none 0 0, .slice none 0 0, .int .i64 0, .slice none 0 0, .slice none 0 0, .slice none 0 0] 49, .sl kHook A130 c131 ((rd x0.L s42).Hooks), .sl Kd.float A128 c129 (((rd x0.L s42).Val).Data), .sl (Kd.int .i64) A126 c127 (((rd x0.L s42).Val).Shape), .sl (Kd.int .i64) A124 c125 ((rd x0.L s42).To), .sl (Kd.int .i64) A122 c123 ((rd x0.L s42).In), .bx b28 [.slice A1_0 x1.L.length c1_0] 24, .bx b21 [.slice A0_0 x0.L.length c0_0] 24, .sl kNode A0_0 c0_0 x0.L, .sl kNode A1_0 c1_0 x1.L] w) #[true, true, true, true, true, true, true, true, true, false, true, true, false, false] 3 ?_ fun L500 => ?_
      · rintro a501 w502 ⟨b209, b253, A122, c123, A124, c125, A126, c127, A128, c129, A130, c131, hf503, hm504⟩
        refine all2 9 12 (by kernel_rfl) ?_ ?_
        · have q505 := (hm504.slAt 10 rfl).get s42 g53.1 g53.2
          obtain ⟨us506, hr507, hc508⟩ := q505.2
          obtain ⟨A509, c510, A511, c512, A513, c514, A515, c516, A517, c518, rfl, ⟨pA509, sA509⟩, ⟨pA511, sA511⟩, ⟨pA513, sA513⟩, ⟨pA515, sA515⟩, ⟨pA517, sA517⟩⟩ := kNode.open hr507
          have hm519 := hm504.elem pA509 sA509
          have hm520 := hm519.elem pA511 sA511
          have hm521 := hm520.elem pA513 sA513
          have hm522 := hm521.elem pA515 sA515
          have hm523 := hm522.elem pA517 sA517
          refine opOf hf503 rfl (by kernel_rfl) (aOne [.agg #[.int .i64 ((rd x1.L s42).Op), .slice A509 (((rd x1.L s42).In).length) c510, .slice A511 (((rd x1.L s42).To).length) c512, .int .i64 ((rd x1.L s42).No), .slice A513 ((((rd x1.L s42).Val).Shape).length) c514, .slice A515 ((((rd x1.L s42).Val).Data).length) c516, .slice A517 (((rd x1.L s42).Hooks).length) c518]] (.agg #[.int .i64 ((rd x1.L s42).Op), .slice A509 (((rd x1.L s42).In).length) c510, .slice A511 (((rd x1.L s42).To).length) c512, .int .i64 ((rd x1.L s42).No), .slice A513 ((((rd x1.L s42).Val).Shape).length) c514, .slice A515 ((((rd x1.L s42).Val).Data).length) c516, .slice A517 (((rd x1.L s42).Hooks).length) c518]) [.cell ((ad A1_0).add ((s42).toNat * 7)) (.int .i64 ((rd x1.L s42).Op)), .cell (((ad A1_0).add ((s42).toNat * 7)).add 1) (.slice A509 (((rd x1.L s42).In).length) c510), .cell (((ad A1_0).add ((s42).toNat * 7)).add 2) (.slice A511 (((rd x1.L s42).To).length) c512), .cell (((ad A1_0).add ((s42).toNat * 7)).add 3) (.int .i64 ((rd x1.L s42).No)), .cell (((ad A1_0).add ((s42).toNat * 7)).add 4) (.slice A513 ((((rd x1.L s42).Val).Shape).length) c514), .cell (((ad A1_0).add ((s42).toNat * 7)).add 5) (.slice A515 ((((rd x1.L s42).Val).Data).length) c516), .cell (((ad A1_0).add ((s42).toNat * 7)).add 6) (.slice A517 (((rd x1.L s42).Hooks).length) c518)] 32 hf503 (by kernel_rfl) rfl (by kernel_rfl) ⟨(hc508 0 _ rfl), (hc508 1 _ rfl), (hc508 2 _ rfl), (hc508 3 _ rfl), (hc508 4 _ rfl), (hc508 5 _ rfl), (hc508 6 _ rfl), trivial⟩ fun a524 hf525 => ?_)
          refine ⟨.inr (Gr.refl _ _), ?_⟩
          refine all1 12 (by kernel_rfl) ?_
          refine opOf hf525 rfl (by kernel_rfl) (aStoreB (b := b209) (j := 0) (T := 49) (cs := [.int .i64 0, .slice none 0 0, .slice none 0 0, .int .i64 0, .slice none 0 0, .slice none 0 0, .slice none 0 0]) (us := [.int .i64 ((rd x0.L s42).Op), .slice A122 (((rd x0.L s42).In).length) c123, .slice A124 (((rd x0.L s42).To).length) c125, .int .i64 ((rd x0.L s42).No), .slice A126 ((((rd x0.L s42).Val).Shape).length) c127, .slice A128 ((((rd x0.L s42).Val).Data).length) c129, .slice A130 (((rd x0.L s42).Hooks).length) c131]) (cs' := [.int .i64 ((rd x0.L s42).Op), .slice A122 (((rd x0.L s42).In).length) c123, .slice A124 (((rd x0.L s42).To).length) c125, .int .i64 ((rd x0.L s42).No), .slice A126 ((((rd x0.L s42).Val).Shape).length) c127, .slice A128 ((((rd x0.L s42).Val).Data).length) c129, .slice A130 (((rd x0.L s42).Hooks).length) c131]) hf525 (by kernel_rfl) (hm523.bxAt 6 rfl) (by kernel_rfl) (by kernel_rfl) (by kernel_rfl) ?_)
          intro w526 hx527 hg528
          refine ⟨.inl (by decide), ?_⟩
          have hm529 := hm523.setBox 6 _ rfl rfl hx527 hg528
          refine all1 13 (by kernel_rfl) ?_
          refine opOf hf525 rfl (by kernel_rfl) (aStoreB (b := b253) (j := 0) (T := 49) (cs := [.int .i64 0, .slice none 0 0, .slice none 0 0, .int .i64 0, .slice none 0 0, .slice none 0 0, .slice none 0 0]) (us := [.int .i64 ((rd x1.L s42).Op), .slice A509 (((rd x1.L s42).In).length) c510, .slice A511 (((rd x1.L s42).To).length) c512, .int .i64 ((rd x1.L s42).No), .slice A513 ((((rd x1.L s42).Val).Shape).length) c514, .slice A515 ((((rd x1.L s42).Val).Data).length) c516, .slice A517 (((rd x1.L s42).Hooks).length) c518]) (cs' := [.int .i64 ((rd x1.L s42).Op), .slice A509 (((rd x1.L s42).In).length) c510, .slice A511 (((rd x1.L s42).To).length) c512, .int .i64 ((rd x1.L s42).No), .slice A513 ((((rd x1.L s42).Val).Shape).length) c514, .slice A515 ((((rd x1.L s42).Val).Data).length) c516, .slice A517 (((rd x1.L s42).Hooks).length) c518]) hf525 (by kernel_rfl) (hm529.bxAt 5 rfl) (by kernel_rfl) (by kernel_rfl) (by kernel_rfl) ?_)
          intro w530 hx531 hg532
          refine ⟨.inl (by decide), ?_⟩
          have hm533 := hm529.setBox 5 _ rfl rfl hx531 hg532
          refine allDone (by kernel_rfl) ⟨rfl, b209, b253, A509, c510, A511, c512, A513, c514, A515, c516, A517, c518, A122, c123, A124, c125, A126, c127, A128, c129, A130, c131, hf525.sel (l := [2, 3, 5, 6, 7]) (by kernel_rfl), hm533.sel [5, 6, 0, 1, 2, 3, 4, 7, 8, 9, 10, 11, 12, 13, 14, 15] _ rfl (by kernel_rfl)⟩
        · refine opOf hf503 rfl (by kernel_rfl) (aStoreB (b := b209) (j := 0) (T := 49) (cs := [.int .i64 0, .slice none 0 0, .slice none 0 0, .int .i64 0, .slice none 0 0, .slice none 0 0, .slice none 0 0]) (us := [.int .i64 ((rd x0.L s42).Op), .slice A122 (((rd x0.L s42).In).length) c123, .slice A124 (((rd x0.L s42).To).length) c125, .int .i64 ((rd x0.L s42).No), .slice A126 ((((rd x0.L s42).Val).Shape).length) c127, .slice A128 ((((rd x0.L s42).Val).Data).length) c129, .slice A130 (((rd x0.L s42).Hooks).length) c131]) (cs' := [.int .i64 ((rd x0.L s42).Op), .slice A122 (((rd x0.L s42).In).length) c123, .slice A124 (((rd x0.L s42).To).length) c125, .int .i64 ((rd x0.L s42).No), .slice A126 ((((rd x0.L s42).Val).Shape).length) c127, .slice A128 ((((rd x0.L s42).Val).Data).length) c129, .slice A130 (((rd x0.L s42).Hooks).length) c131]) hf503 (by kernel_rfl) (hm504.bxAt 1 rfl) (by kernel_rfl) (by kernel_rfl) (by kernel_rfl) ?_)
          intro w534 hx535 hg536
          refine ⟨.inl (by decide), ?_⟩
          have hm537 := hm504.setBox 1 _ rfl rfl hx535 hg536
          refine all1 9 (by kernel_rfl) ?_
          have q538 := (hm537.slAt 10 rfl).get s42 g53.1 g53.2
          obtain ⟨us539, hr540, hc541⟩ := q538.2
          obtain ⟨A542, c543, A544, c545, A546, c547, A548, c549, A550, c551, rfl, ⟨pA542, sA542⟩, ⟨pA544, sA544⟩, ⟨pA546, sA546⟩, ⟨pA548, sA548⟩, ⟨pA550, sA550⟩⟩ := kNode.open hr540
          have hm552 := hm537.elem pA542 sA542
          have hm553 := hm552.elem pA544 sA544
          have hm554 := hm553.elem pA546 sA546
          have hm555 := hm554.elem pA548 sA548
          have hm556 := hm555.elem pA550 sA550
          refine opOf hf503 rfl (by kernel_rfl) (aOne [.agg #[.int .i64 ((rd x1.L s42).Op), .slice A542 (((rd x1.L s42).In).length) c543, .slice A544 (((rd x1.L s42).To).length) c545, .int .i64 ((rd x1.L s42).No), .slice A546 ((((rd x1.L s42).Val).Shape).length) c547, .slice A548 ((((rd x1.L s42).Val).Data).length) c549, .slice A550 (((rd x1.L s42).Hooks).length) c551]] (.agg #[.int .i64 ((rd x1.L s42).Op), .slice A542 (((rd x1.L s42).In).length) c543, .slice A544 (((rd x1.L s42).To).length) c545, .int .i64 ((rd x1.L s42).No), .slice A546 ((((rd x1.L s42).Val).Shape).length) c547, .slice A548 ((((rd x1.L s42).Val).Data).length) c549, .slice A550 (((rd x1.L s42).Hooks).length) c551]) [.cell ((ad A1_0).add ((s42).toNat * 7)) (.int .i64 ((rd x1.L s42).Op)), .cell (((ad A1_0).add ((s42).toNat * 7)).add 1) (.slice A542 (((rd x1.L s42).In).length) c543), .cell (((ad A1_0).add ((s42).toNat * 7)).add 2) (.slice A544 (((rd x1.L s42).To).length) c545), .cell (((ad A1_0).add ((s42).toNat * 7)).add 3) (.int .i64 ((rd x1.L s42).No)), .cell (((ad A1_0).add ((s42).toNat * 7)).add 4) (.slice A546 ((((rd x1.L s42).Val).Shape).length) c547), .cell (((ad A1_0).add ((s42).toNat * 7)).add 5) (.slice A548 ((((rd x1.L s42).Val).Data).length) c549), .cell (((ad A1_0).add ((s42).toNat * 7)).add 6) (.slice A550 (((rd x1.L s42).Hooks).length) c551)] 32 hf503 (by kernel_rfl) rfl (by kernel_rfl) ⟨(hc541 0 _ rfl), (hc541 1 _ rfl), (hc541 2 _ rfl), (hc541 3 _ rfl), (hc541 4 _ rfl), (hc541 5 _ rfl), (hc541 6 _ rfl), trivial⟩ fun a557 hf558 => ?_)
          refine ⟨.inr (Gr.refl _ _), ?_⟩
          refine all1 13 (by kernel_rfl) ?_
          refine opOf hf558 rfl (by kernel_rfl) (aStoreB (b := b253) (j := 0) (T := 49) (cs := [.int .i64 0, .slice none 0 0, .slice none 0 0, .int .i64 0, .slice none 0 0, .slice none 0 0, .slice none 0 0]) (us := [.int .i64 ((rd x1.L s42).Op), .slice A542 (((rd x1.L s42).In).length) c543, .slice A544 (((rd x1.L s42).To).length) c545, .int .i64 ((rd x1.L s42).No), .slice A546 ((((rd x1.L s42).Val).Shape).length) c547, .slice A548 ((((rd x1.L s42).Val).Data).length) c549, .slice A550 (((rd x1.L s42).Hooks).length) c551]) (cs' := [.int .i64 ((rd x1.L s42).Op), .slice A542 (((rd x1.L s42).In).length) c543, .slice A544 (((rd x1.L s42).To).length) c545, .int .i64 ((rd x1.L s42).No), .slice A546 ((((rd x1.L s42).Val).Shape).length) c547, .slice A548 ((((rd x1.L s42).Val).Data).length) c549, .slice A550 (((rd x1.L s42).Hooks).length) c551]) hf558 (by kernel_rfl) (hm556.bxAt 5 rfl) (by kernel_rfl) (by kernel_rfl) (by kernel_rfl) ?_)
          intro w559 hx560 hg561
          refine ⟨.inl (by decide), ?_⟩
          have hm562 := hm556.setBox 5 _ rfl rfl hx560 hg561
          refine allDone (by kernel_rfl) ⟨rfl, b209, b253, A542, c543, A544, c545, A546, c547, A548, c549, A550, c551, A122, c123, A124, c125, A126, c127, A128, c129, A130, c131, hf558.sel (l := [2, 3, 5, 6, 7]) (by kernel_rfl), hm562.sel [5, 6, 0, 1, 2, 3, 4, 7, 8, 9, 10, 11, 12, 13, 14, 15] _ rfl (by kernel_rfl)⟩
      refine memoStep (R := fun (a : Act) (w : World) => ∃ (A122 : Option Addr) (c123 : Nat) (A124 : Option Addr) (c125 : Nat) (A126 : Option Addr) (c127 : Nat) (A128 : Option Addr) (c129 : Nat) (A130 : Option Addr) (c131 : Nat) (A145 : Option Addr) (c146 : Nat) (A147 : Option Addr) (c148 : Nat) (A149 : Option Addr) (c150 : Nat) (A151 : Option Addr) (c152 : Nat) (A153 : Option Addr) (c154 : Nat), Fr 114 a [(2, .pointer (some ⟨b21, 0, none⟩)), (3, .pointer (some ⟨b28, 0, none⟩)), (5, .int .i64 s42), (27, .agg #[.int .i64 ((rd x0.L s42).Op), .slice A122 (((rd x0.L s42).In).length) c123, .slice A124 (((rd x0.L s42).To).length) c125, .int .i64 ((rd x0.L s42).No), .slice A126 ((((rd x0.L s42).Val).Shape).length) c127, .slice A128 ((((rd x0.L s42).Val).Data).length) c129, .slice A130 (((rd x0.L s42).Hooks).length) c131]), (31, .pointer (some ((ad A1_0).add ((s42).toNat * 7)))), (32, .agg #[.int .i64 ((rd x1.L s42).Op), .slice A145 (((rd x1.L s42).In).length) c146, .slice A147 (((rd x1.L s42).To).length) c148, .int .i64 ((rd x1.L s42).No), .slice A149 ((((rd x1.L s42).Val).Shape).length) c150, .slice A151 ((((rd x1.L s42).Val).Data).length) c152, .slice A153 (((rd x1.L s42).Hooks).length) c154])] ∧ Mem [] M w0 [.sl kHook A153 c154 ((rd x1.L s42).Hooks), .sl Kd.float A151 c152 (((rd x1.L s42).Val).Data), .sl (Kd.int .i64) A149 c150 (((rd x1.L s42).Val).Shape), .sl (Kd.int .i64) A147 c148 ((rd x1.L s42).To), .sl (Kd.int .i64) A145 c146 ((rd x1.L s42).In), .sl kHook A130 c131 ((rd x0.L s42).Hooks), .sl Kd.float A128 c129 (((rd x0.L s42).Val).Data), .sl (Kd.int .i64) A126 c127 (((rd x0.L s42).Val).Shape), .sl (Kd.int .i64) A124 c125 ((rd x0.L s42).To), .sl (Kd.int .i64) A122 c123 ((rd x0.L s42).In), .bx b28 [.slice A1_0 x1.L.length c1_0] 24, .bx b21 [.slice A0_0 x0.L.length c0_0] 24, .sl kNode A0_0 c0_0 x0.L, .sl kNode A1_0 c1_0 x1.L] w) #[true, true, true, true, true, true, true, true, true, true, false, false, false, false] 4 ?_ fun L563 => ?_
      · rintro a564 w565 ⟨A122, c123, A124, c125, A126, c127, A128, c129, A130, c131, A145, c146, A147, c148, A149, c150, A151, c152, A153, c154, hf566, hm567⟩
        refine all2 10 11 (by kernel_rfl) ?_ ?_
        · refine opOf hf566 rfl (by kernel_rfl) (aNew (cs := [.int .i64 0, .slice none 0 0, .slice none 0 0, .int .i64 0, .slice none 0 0, .slice none 0 0, .slice none 0 0]) (T := 49) (d := 6) hf566 (by kernel_rfl) (by kernel_rfl) ?_)
          intro b568 w569 a570 hbb568 hx572 hg573 hf571
          refine ⟨.inr (Gr.still hg573), ?_⟩
          have hm574 := hm567.box hbb568 hx572 hg573
          refine all1 11 (by kernel_rfl) ?_
          refine opOf hf571 rfl (by kernel_rfl) (aNew (cs := [.int .i64 0, .slice none 0 0, .slice none 0 0, .int .i64 0, .slice none 0 0, .slice none 0 0, .slice none 0 0]) (T := 49) (d := 7) hf571 (by kernel_rfl) (by kernel_rfl) ?_)
          intro b575 w576 a577 hbb575 hx579 hg580 hf578
          refine ⟨.inr (Gr.still hg580), ?_⟩
          have hm581 := hm574.box hbb575 hx579 hg580
          refine all1 12 (by kernel_rfl) ?_
          refine opOf hf578 rfl (by kernel_rfl) (aStoreB (b := b568) (j := 0) (T := 49) (cs := [.int .i64 0, .slice none 0 0, .slice none 0 0, .int .i64 0, .slice none 0 0, .slice none 0 0, .slice none 0 0]) (us := [.int .i64 ((rd x0.L s42).Op), .slice A122 (((rd x0.L s42).In).length) c123, .slice A124 (((rd x0.L s42).To).length) c125, .int .i64 ((rd x0.L s42).No), .slice A126 ((((rd x0.L s42).Val).Shape).length) c127, .slice A128 ((((rd x0.L s42).Val).Data).length) c129, .slice A130 (((rd x0.L s42).Hooks).length) c131]) (cs' := [.int .i64 ((rd x0.L s42).Op), .slice A122 (((rd x0.L s42).In).length) c123, .slice A124 (((rd x0.L s42).To).length) c125, .int .i64 ((rd x0.L s42).No), .slice A126 ((((rd x0.L s42).Val).Shape).length) c127, .slice A128 ((((rd x0.L s42).Val).Data).length) c129, .slice A130 (((rd x0.L s42).Hooks).length) c131]) hf578 (by kernel_rfl) (hm581.bxAt 1 rfl) (by kernel_rfl) (by kernel_rfl) (by kernel_rfl) ?_)
          intro w582 hx583 hg584
          refine ⟨.inl (by decide), ?_⟩
          have hm585 := hm581.setBox 1 _ rfl rfl hx583 hg584
          refine all1 13 (by kernel_rfl) ?_
          refine opOf hf578 rfl (by kernel_rfl) (aStoreB (b := b575) (j := 0) (T := 49) (cs := [.int .i64 0, .slice none 0 0, .slice none 0 0, .int .i64 0, .slice none 0 0, .slice none 0 0, .slice none 0 0]) (us := [.int .i64 ((rd x1.L s42).Op), .slice A145 (((rd x1.L s42).In).length) c146, .slice A147 (((rd x1.L s42).To).length) c148, .int .i64 ((rd x1.L s42).No), .slice A149 ((((rd x1.L s42).Val).Shape).length) c150, .slice A151 ((((rd x1.L s42).Val).Data).length) c152, .slice A153 (((rd x1.L s42).Hooks).length) c154]) (cs' := [.int .i64 ((rd x1.L s42).Op), .slice A145 (((rd x1.L s42).In).length) c146, .slice A147 (((rd x1.L s42).To).length) c148, .int .i64 ((rd x1.L s42).No), .slice A149 ((((rd x1.L s42).Val).Shape).length) c150, .slice A151 ((((rd x1.L s42).Val).Data).length) c152, .slice A153 (((rd x1.L s42).Hooks).length) c154]) hf578 (by kernel_rfl) (hm585.bxAt 0 rfl) (by kernel_rfl) (by kernel_rfl) (by kernel_rfl) ?_)
          intro w586 hx587 hg588
          refine ⟨.inl (by decide), ?_⟩
          have hm589 := hm585.setBox 0 _ rfl rfl hx587 hg588
          refine allDone (by kernel_rfl) ⟨rfl, b568, b575, A145, c146, A147, c148, A149, c150, A151, c152, A153, c154, A122, c123, A124, c125, A126, c127, A128, c129, A130, c131, hf578.sel (l := [2, 3, 5, 6, 7]) (by kernel_rfl), hm589.sel [0, 1, 2, 3, 4, 5, 6, 7, 8, 9, 10, 11, 12, 13, 14, 15] _ rfl (by kernel_rfl)⟩
        · refine opOf hf566 rfl (by kernel_rfl) (aNew (cs := [.int .i64 0, .slice none 0 0, .slice none 0 0, .int .i64 0, .slice none 0 0, .slice none 0 0, .slice none 0 0]) (T := 49) (d := 7) hf566 (by kernel_rfl) (by kernel_rfl) ?_)
          intro b590 w591 a592 hbb590 hx594 hg595 hf593
          refine ⟨.inr (Gr.still hg595), ?_⟩
          have hm596 := hm567.box hbb590 hx594 hg595
          refine all1 10 (by kernel_rfl) ?_
          refine opOf hf593 rfl (by kernel_rfl) (aNew (cs := [.int .i64 0, .slice none 0 0, .slice none 0 0, .int .i64 0, .slice none 0 0, .slice none 0 0, .slice none 0 0]) (T := 49) (d := 6) hf593 (by kernel_rfl) (by kernel_rfl) ?_)
          intro b597 w598 a599 hbb597 hx601 hg602 hf600
          refine ⟨.inr (Gr.still hg602), ?_⟩
          have hm603 := hm596.box hbb597 hx601 hg602
          refine all1 12 (by kernel_rfl) ?_
          refine opOf hf600 rfl (by kernel_rfl) (aStoreB (b := b597) (j := 0) (T := 49) (cs := [.int .i64 0, .slice none 0 0, .slice none 0 0, .int .i64 0, .slice none 0 0, .slice none 0 0, .slice none 0 0]) (us := [.int .i64 ((rd x0.L s42).Op), .slice A122 (((rd x0.L s42).In).length) c123, .slice A124 (((rd x0.L s42).To).length) c125, .int .i64 ((rd x0.L s42).No), .slice A126 ((((rd x0.L s42).Val).Shape).length) c127, .slice A128 ((((rd x0.L s42).Val).Data).length) c129, .slice A130 (((rd x0.L s42).Hooks).length) c131]) (cs' := [.int .i64 ((rd x0.L s42).Op), .slice A122 (((rd x0.L s42).In).length) c123, .slice A124 (((rd x0.L s42).To).length) c125, .int .i64 ((rd x0.L s42).No), .slice A126 ((((rd x0.L s42).Val).Shape).length) c127, .slice A128 ((((rd x0.L s42).Val).Data).length) c129, .slice A130 (((rd x0.L s42).Hooks).length) c131]) hf600 (by kernel_rfl) (hm603.bxAt 0 rfl) (by kernel_rfl) (by kernel_rfl) (by kernel_rfl) ?_)
          intro w604 hx605 hg606
          refine ⟨.inl (by decide), ?_⟩
          have hm607 := hm603.setBox 0 _ rfl rfl hx605 hg606
          refine all1 13 (by kernel_rfl) ?_
          refine opOf hf600 rfl (by kernel_rfl) (aStoreB (b := b590) (j := 0) (T := 49) (cs := [.int .i64 0, .slice none 0 0, .slice none 0 0, .int .i64 0, .slice none 0 0, .slice none 0 0, .slice none 0 0]) (us := [.int .i64 ((rd x1.L s42).Op), .slice A145 (((rd x1.L s42).In).length) c146, .slice A147 (((rd x1.L s42).To).length) c148, .int .i64 ((rd x1.L s42).No), .slice A149 ((((rd x1.L s42).Val).Shape).length) c150, .slice A151 ((((rd x1.L s42).Val).Data).length) c152, .slice A153 (((rd x1.L s42).Hooks).length) c154]) (cs' := [.int .i64 ((rd x1.L s42).Op), .slice A145 (((rd x1.L s42).In).length) c146, .slice A147 (((rd x1.L s42).To).length) c148, .int .i64 ((rd x1.L s42).No), .slice A149 ((((rd x1.L s42).Val).Shape).length) c150, .slice A151 ((((rd x1.L s42).Val).Data).length) c152, .slice A153 (((rd x1.L s42).Hooks).length) c154]) hf600 (by kernel_rfl) (hm607.bxAt 1 rfl) (by kernel_rfl) (by kernel_rfl) (by kernel_rfl) ?_)
          intro w608 hx609 hg610
          refine ⟨.inl (by decide), ?_⟩
          have hm611 := hm607.setBox 1 _ rfl rfl hx609 hg610
          refine allDone (by kernel_rfl) ⟨rfl, b597, b590, A145, c146, A147, c148, A149, c150, A151, c152, A153, c154, A122, c123, A124, c125, A126, c127, A128, c129, A130, c131, hf600.sel (l := [2, 3, 5, 6, 7]) (by kernel_rfl), hm611.sel [1, 0, 2, 3, 4, 5, 6, 7, 8, 9, 10, 11, 12, 13, 14, 15] _ rfl (by kernel_rfl)⟩
      refine memoStep (R := fun (a : Act) (w : World) => ∃ (b209 : Nat) (A122 : Option Addr) (c123 : Nat) (A124 : Option Addr) (c125 : Nat) (A126 : Option Addr) (c127 : Nat) (A128 : Option Addr) (c129 : Nat) (A130 : Option Addr) (c131 : Nat), Fr 114 a [(2, .pointer (some ⟨b21, 0, none⟩)), (3, .pointer (some ⟨b28, 0, none⟩)), (5, .int .i64 s42), (6, .pointer (some ⟨b209, 0, none⟩)), (27, .agg #[.int .i64 ((rd x0.L s42).Op), .slice A122 (((rd x0.L s42).In).length) c123, .slice A124 (((rd x0.L s42).To).length) c125, .int .i64 ((rd x0.L s42).No), .slice A126 ((((rd x0.L s42).Val).Shape).length) c127, .slice A128 ((((rd x0.L s42).Val).Data).length) c129, .slice A130 (((rd x0.L s42).Hooks).length) c131]), (31, .pointer (some ((ad A1_0).add ((s42).toNat * 7))))] ∧ Mem [] M w0 [.bx b209 [.int .i64 0, .slice none 0 0, .slice none 0 0, .int .i64 0, .slice none 0 0, .slice none 0 0, .slice none 0 0] 49, .sl kHook A130 c131 ((rd x0.L s42).Hooks), .sl Kd.float A128 c129 (((rd x0.L s42).Val).Data), .sl (Kd.int .i64) A126 c127 (((rd x0.L s42).Val).Shape), .sl (Kd.int .i64) A124 c125 ((rd x0.L s42).To), .sl (Kd.int .i64) A122 c123 ((rd x0.L s42).In), .bx b28 [.slice A1_0 x1.L.length c1_0] 24, .bx b21 [.slice A0_0 x0.L.length c0_0] 24, .sl kNode A0_0 c0_0 x0.L, .sl kNode A1_0 c1_0 x1.L] w) #[true, true, true, true, true, true, true, true, true, false, true, false, false, false] 4 ?_ fun L612 => ?_
      · rintro a613 w614 ⟨b209, A122, c123, A124, c125, A126, c127, A128, c129, A130, c131, hf615, hm616⟩
        refine all2 9 11 (by kernel_rfl) ?_ ?_
        · have q617 := (hm616.slAt 9 rfl).get s42 g53.1 g53.2
          obtain ⟨us618, hr619, hc620⟩ := q617.2
          obtain ⟨A621, c622, A623, c624, A625, c626, A627, c628, A629, c630, rfl, ⟨pA621, sA621⟩, ⟨pA623, sA623⟩, ⟨pA625, sA625⟩, ⟨pA627, sA627⟩, ⟨pA629, sA629⟩⟩ := kNode.open hr619
          have hm631 := hm616.elem pA621 sA621
          have hm632 := hm631.elem pA623 sA623
          have hm633 := hm632.elem pA625 sA625
          have hm634 := hm633.elem pA627 sA627
          have hm635 := hm634.elem pA629 sA629
          refine opOf hf615 rfl (by kernel_rfl) (aOne [.agg #[.int .i64 ((rd x1.L s42).Op), .slice A621 (((rd x1.L s42).In).length) c622, .slice A623 (((rd x1.L s42).To).length) c624, .int .i64 ((rd x1.L s42).No), .slice A625 ((((rd x1.L s42).Val).Shape).length) c626, .slice A627 ((((rd x1.L s42).Val).Data).length) c628, .slice A629 (((rd x1.L s42).Hooks).length) c630]] (.agg #[.int .i64 ((rd x1.L s42).Op), .slice A621 (((rd x1.L s42).In).length) c622, .slice A623 (((rd x1.L s42).To).length) c624, .int .i64 ((rd x1.L s42).No), .slice A625 ((((rd x1.L s42).Val).Shape).length) c626, .slice A627 ((((rd x1.L s42).Val).Data).length) c628, .slice A629 (((rd x1.L s42).Hooks).length) c630]) [.cell ((ad A1_0).add ((s42).toNat * 7)) (.int .i64 ((rd x1.L s42).Op)), .cell (((ad A1_0).add ((s42).toNat * 7)).add 1) (.slice A621 (((rd x1.L s42).In).length) c622), .cell (((ad A1_0).add ((s42).toNat * 7)).add 2) (.slice A623 (((rd x1.L s42).To).length) c624), .cell (((ad A1_0).add ((s42).toNat * 7)).add 3) (.int .i64 ((rd x1.L s42).No)), .cell (((ad A1_0).add ((s42).toNat * 7)).add 4) (.slice A625 ((((rd x1.L s42).Val).Shape).length) c626), .cell (((ad A1_0).add ((s42).toNat * 7)).add 5) (.slice A627 ((((rd x1.L s42).Val).Data).length) c628), .cell (((ad A1_0).add ((s42).toNat * 7)).add 6) (.slice A629 (((rd x1.L s42).Hooks).length) c630)] 32 hf615 (by kernel_rfl) rfl (by kernel_rfl) ⟨(hc620 0 _ rfl), (hc620 1 _ rfl), (hc620 2 _ rfl), (hc620 3 _ rfl), (hc620 4 _ rfl), (hc620 5 _ rfl), (hc620 6 _ rfl), trivial⟩ fun a636 hf637 => ?_)
          refine ⟨.inr (Gr.refl _ _), ?_⟩
          refine all1 11 (by kernel_rfl) ?_
          refine opOf hf637 rfl (by kernel_rfl) (aNew (cs := [.int .i64 0, .slice none 0 0, .slice none 0 0, .int .i64 0, .slice none 0 0, .slice none 0 0, .slice none 0 0]) (T := 49) (d := 7) hf637 (by kernel_rfl) (by kernel_rfl) ?_)
          intro b638 w639 a640 hbb638 hx642 hg643 hf641
          refine ⟨.inr (Gr.still hg643), ?_⟩
          have hm644 := hm635.box hbb638 hx642 hg643
          refine all1 12 (by kernel_rfl) ?_
          refine opOf hf641 rfl (by kernel_rfl) (aStoreB (b := b209) (j := 0) (T := 49) (cs := [.int .i64 0, .slice none 0 0, .slice none 0 0, .int .i64 0, .slice none 0 0, .slice none 0 0, .slice none 0 0]) (us := [.int .i64 ((rd x0.L s42).Op), .slice A122 (((rd x0.L s42).In).length) c123, .slice A124 (((rd x0.L s42).To).length) c125, .int .i64 ((rd x0.L s42).No), .slice A126 ((((rd x0.L s42).Val).Shape).length) c127, .slice A128 ((((rd x0.L s42).Val).Data).length) c129, .slice A130 (((rd x0.L s42).Hooks).length) c131]) (cs' := [.int .i64 ((rd x0.L s42).Op), .slice A122 (((rd x0.L s42).In).length) c123, .slice A124 (((rd x0.L s42).To).length) c125, .int .i64 ((rd x0.L s42).No), .slice A126 ((((rd x0.L s42).Val).Shape).length) c127, .slice A128 ((((rd x0.L s42).Val).Data).length) c129, .slice A130 (((rd x0.L s42).Hooks).length) c131]) hf641 (by kernel_rfl) (hm644.bxAt 6 rfl) (by kernel_rfl) (by kernel_rfl) (by kernel_rfl) ?_)
          intro w645 hx646 hg647
          refine ⟨.inl (by decide), ?_⟩
          have hm648 := hm644.setBox 6 _ rfl rfl hx646 hg647
          refine all1 13 (by kernel_rfl) ?_
          refine opOf hf641 rfl (by kernel_rfl) (aStoreB (b := b638) (j := 0) (T := 49) (cs := [.int .i64 0, .slice none 0 0, .slice none 0 0, .int .i64 0, .slice none 0 0, .slice none 0 0, .slice none 0 0]) (us := [.int .i64 ((rd x1.L s42).Op), .slice A621 (((rd x1.L s42).In).length) c622, .slice A623 (((rd x1.L s42).To).length) c624, .int .i64 ((rd x1.L s42).No), .slice A625 ((((rd x1.L s42).Val).Shape).length) c626, .slice A627 ((((rd x1.L s42).Val).Data).length) c628, .slice A629 (((rd x1.L s42).Hooks).length) c630]) (cs' := [.int .i64 ((rd x1.L s42).Op), .slice A621 (((rd x1.L s42).In).length) c622, .slice A623 (((rd x1.L s42).To).length) c624, .int .i64 ((rd x1.L s42).No), .slice A625 ((((rd x1.L s42).Val).Shape).length) c626, .slice A627 ((((rd x1.L s42).Val).Data).length) c628, .slice A629 (((rd x1.L s42).Hooks).length) c630]) hf641 (by kernel_rfl) (hm648.bxAt 0 rfl) (by kernel_rfl) (by kernel_rfl) (by kernel_rfl) ?_)
          intro w649 hx650 hg651
          refine ⟨.inl (by decide), ?_⟩
          have hm652 := hm648.setBox 0 _ rfl rfl hx650 hg651
          refine allDone (by kernel_rfl) ⟨rfl, b209, b638, A621, c622, A623, c624, A625, c626, A627, c628, A629, c630, A122, c123, A124, c125, A126, c127, A128, c129, A130, c131, hf641.sel (l := [2, 3, 5, 6, 7]) (by kernel_rfl), hm652.sel [0, 6, 1, 2, 3, 4, 5, 7, 8, 9, 10, 11, 12, 13, 14, 15] _ rfl (by kernel_rfl)⟩
        · refine opOf hf615 rfl (by kernel_rfl) (aNew (cs := [.int .i64 0, .slice none 0 0, .slice none 0 0, .int .i64 0, .slice none 0 0, .slice none 0 0, .slice none 0 0]) (T := 49) (d := 7) hf615 (by kernel_rfl) (by kernel_rfl) ?_)
          intro b653 w654 a655 hbb653 hx657 hg658 hf656
          refine ⟨.inr (Gr.still hg658), ?_⟩
          have hm659 := hm616.box hbb653 hx657 hg658
          exact L500 _ _ ⟨b209, b653, A122, c123, A124, c125, A126, c127, A128, c129, A130, c131, hf656.sel (l := [2, 3, 5, 6, 7, 27, 31]) (by kernel_rfl), hm659.sel [0, 1, 2, 3, 4, 5, 6, 7, 8, 9, 10] _ rfl (by kernel_rfl)⟩
      refine memoStep (R := fun (a : Act) (w : World) => ∃ (b319 : Nat) (A122 : Option Addr) (c123 : Nat) (A124 : Option Addr) (c125 : Nat) (A126 : Option Addr) (c127 : Nat) (A128 : Option Addr) (c129 : Nat) (A130 : Option Addr) (c131 : Nat), Fr 114 a [(2, .pointer (some ⟨b21, 0, none⟩)), (3, .pointer (some ⟨b28, 0, none⟩)), (5, .int .i64 s42), (7, .pointer (some ⟨b319, 0, none⟩)), (27, .agg #[.int .i64 ((rd x0.L s42).Op), .slice A122 (((rd x0.L s42).In).length) c123, .slice A124 (((rd x0.L s42).To).length) c125, .int .i64 ((rd x0.L s42).No), .slice A126 ((((rd x0.L s42).Val).Shape).length) c127, .slice A128 ((((rd x0.L s42).Val).Data).length) c129, .slice A130 (((rd x0.L s42).Hooks).length) c131]), (31, .pointer (some ((ad A1_0).add ((s42).toNat * 7))))] ∧ Mem [] M w0 [.bx b319 [.int .i64 0, .slice none 0 0, .slice none 0 0, .int .i64 0, .slice none 0 0, .slice none 0 0, .slice none 0 0] 49, .sl kHook A130 c131 ((rd x0.L s42).Hooks), .sl Kd.float A128 c129 (((rd x0.L s42).Val).Data), .sl (Kd.int .i64) A126 c127 (((rd x0.L s42).Val).Shape), .sl (Kd.int .i64) A124 c125 ((rd x0.L s42).To), .sl (Kd.int .i64) A122 c123 ((rd x0.L s42).In), .bx b28 [.slice A1_0 x1.L.length c1_0] 24, .bx b21 [.slice A0_0 x0.L.length c0_0] 24, .sl kNode A0_0 c0_0 x0.L, .sl kNode A1_0 c1_0 x1.L] w) #[true, true, true, true, true, true, true, true, true, false, false, true, false, false] 4 ?_ fun L660 => ?_
      · rintro a661 w662 ⟨b319, A122, c123, A124, c125, A126, c127, A128, c129, A130, c131, hf663, hm664⟩
        refine all2 9 10 (by kernel_rfl) ?_ ?_
        · have q665 := (hm664.slAt 9 rfl).get s42 g53.1 g53.2
          obtain ⟨us666, hr667, hc668⟩ := q665.2
          obtain ⟨A669, c670, A671, c672, A673, c674, A675, c676, A677, c678, rfl, ⟨pA669, sA669⟩, ⟨pA671, sA671⟩, ⟨pA673, sA673⟩, ⟨pA675, sA675⟩, ⟨pA677, sA677⟩⟩ := kNode.open hr667
          have hm679 := hm664.elem pA669 sA669
          have hm680 := hm679.elem pA671 sA671
          have hm681 := hm680.elem pA673 sA673
          have hm682 := hm681.elem pA675 sA675
          have hm683 := hm682.elem pA677 sA677
          refine opOf hf663 rfl (by kernel_rfl) (aOne [.agg #[.int .i64 ((rd x1.L s42).Op), .slice A669 (((rd x1.L s42).In).length) c670, .slice A671 (((rd x1.L s42).To).length) c672, .int .i64 ((rd x1.L s42).No), .slice A673 ((((rd x1.L s42).Val).Shape).length) c674, .slice A675 ((((rd x1.L s42).Val).Data).length) c676, .slice A677 (((rd x1.L s42).Hooks).length) c678]] (.agg #[.int .i64 ((rd x1.L s42).Op), .slice A669 (((rd x1.L s42).In).length) c670, .slice A671 (((rd x1.L s42).To).length) c672, .int .i64 ((rd x1.L s42).No), .slice A673 ((((rd x1.L s42).Val).Shape).length) c674, .slice A675 ((((rd x1.L s42).Val).Data).length) c676, .slice A677 (((rd x1.L s42).Hooks).length) c678]) [.cell ((ad A1_0).add ((s42).toNat * 7)) (.int .i64 ((rd x1.L s42).Op)), .cell (((ad A1_0).add ((s42).toNat * 7)).add 1) (.slice A669 (((rd x1.L s42).In).length) c670), .cell (((ad A1_0).add ((s42).toNat * 7)).add 2) (.slice A671 (((rd x1.L s42).To).length) c672), .cell (((ad A1_0).add ((s42).toNat * 7)).add 3) (.int .i64 ((rd x1.L s42).No)), .cell (((ad A1_0).add ((s42).toNat * 7)).add 4) (.slice A673 ((((rd x1.L s42).Val).Shape).length) c674), .cell (((ad A1_0).add ((s42).toNat * 7)).add 5) (.slice A675 ((((rd x1.L s42).Val).Data).length) c676), .cell (((ad A1_0).add ((s42).toNat * 7)).add 6) (.slice A677 (((rd x1.L s42).Hooks).length) c678)] 32 hf663 (by kernel_rfl) rfl (by kernel_rfl) ⟨(hc668 0 _ rfl), (hc668 1 _ rfl), (hc668 2 _ rfl), (hc668 3 _ rfl), (hc668 4 _ rfl), (hc668 5 _ rfl), (hc668 6 _ rfl), trivial⟩ fun a684 hf685 => ?_)
          refine ⟨.inr (Gr.refl _ _), ?_⟩
          refine all1 10 (by kernel_rfl) ?_
          refine opOf hf685 rfl (by kernel_rfl) (aNew (cs := [.int .i64 0, .slice none 0 0, .slice none 0 0, .int .i64 0, .slice none 0 0, .slice none 0 0, .slice none 0 0]) (T := 49) (d := 6) hf685 (by kernel_rfl) (by kernel_rfl) ?_)
          intro b686 w687 a688 hbb686 hx690 hg691 hf689
          refine ⟨.inr (Gr.still hg691), ?_⟩
          have hm692 := hm683.box hbb686 hx690 hg691
          refine all1 12 (by kernel_rfl) ?_
          refine opOf hf689 rfl (by kernel_rfl) (aStoreB (b := b686) (j := 0) (T := 49) (cs := [.int .i64 0, .slice none 0 0, .slice none 0 0, .int .i64 0, .slice none 0 0, .slice none 0 0, .slice none 0 0]) (us := [.int .i64 ((rd x0.L s42).Op), .slice A122 (((rd x0.L s42).In).length) c123, .slice A124 (((rd x0.L s42).To).length) c125, .int .i64 ((rd x0.L s42).No), .slice A126 ((((rd x0.L s42).Val).Shape).length) c127, .slice A128 ((((rd x0.L s42).Val).Data).length) c129, .slice A130 (((rd x0.L s42).Hooks).length) c131]) (cs' := [.int .i64 ((rd x0.L s42).Op), .slice A122 (((rd x0.L s42).In).length) c123, .slice A124 (((rd x0.L s42).To).length) c125, .int .i64 ((rd x0.L s42).No), .slice A126 ((((rd x0.L s42).Val).Shape).length) c127, .slice A128 ((((rd x0.L s42).Val).Data).length) c129, .slice A130 (((rd x0.L s42).Hooks).length) c131]) hf689 (by kernel_rfl) (hm692.bxAt 0 rfl) (by kernel_rfl) (by kernel_rfl) (by kernel_rfl) ?_)
          intro w693 hx694 hg695
          refine ⟨.inl (by decide), ?_⟩
          have hm696 := hm692.setBox 0 _ rfl rfl hx694 hg695
          refine all1 13 (by kernel_rfl) ?_
          refine opOf hf689 rfl (by kernel_rfl) (aStoreB (b := b319) (j := 0) (T := 49) (cs := [.int .i64 0, .slice none 0 0, .slice none 0 0, .int .i64 0, .slice none 0 0, .slice none 0 0, .slice none 0 0]) (us := [.int .i64 ((rd x1.L s42).Op), .slice A669 (((rd x1.L s42).In).length) c670, .slice A671 (((rd x1.L s42).To).length) c672, .int .i64 ((rd x1.L s42).No), .slice A673 ((((rd x1.L s42).Val).Shape).length) c674, .slice A675 ((((rd x1.L s42).Val).Data).length) c676, .slice A677 (((rd x1.L s42).Hooks).length) c678]) (cs' := [.int .i64 ((rd x1.L s42).Op), .slice A669 (((rd x1.L s42).In).length) c670, .slice A671 (((rd x1.L s42).To).length) c672, .int .i64 ((rd x1.L s42).No), .slice A673 ((((rd x1.L s42).Val).Shape).length) c674, .slice A675 ((((rd x1.L s42).Val).Data).length) c676, .slice A677 (((rd x1.L s42).Hooks).length) c678]) hf689 (by kernel_rfl) (hm696.bxAt 6 rfl) (by kernel_rfl) (by kernel_rfl) (by kernel_rfl) ?_)
          intro w697 hx698 hg699
          refine ⟨.inl (by decide), ?_⟩
          have hm700 := hm696.setBox 6 _ rfl rfl hx698 hg699
          refine allDone (by kernel_rfl) ⟨rfl, b686, b319, A669, c670, A671, c672, A673, c674, A675, c676, A677, c678, A122, c123, A124, c125, A126, c127, A128, c129, A130, c131, hf689.sel (l := [2, 3, 5, 6, 7]) (by kernel_rfl), hm700.sel [6, 0, 1, 2, 3, 4, 5, 7, 8, 9, 10, 11, 12, 13, 14, 15] _ rfl (by kernel_rfl)⟩
        · refine opOf hf663 rfl (by kernel_rfl) (aNew (cs := [.int .i64 0, .slice none 0 0, .slice none 0 0, .int .i64 0, .slice none 0 0, .slice none 0 0, .slice none 0 0]) (T := 49) (d := 6) hf663 (by kernel_rfl) (by kernel_rfl) ?_)
          intro b701 w702 a703 hbb701 hx705 hg706 hf704
          refine ⟨.inr (Gr.still hg706), ?_⟩
          have hm707 := hm664.box hbb701 hx705 hg706
          exact L500 _ _ ⟨b701, b319, A122, c123, A124, c125, A126, c127, A128, c129, A130, c131, hf704.sel (l := [2, 3, 5, 6, 7, 27, 31]) (by kernel_rfl), hm707.sel [1, 0, 2, 3, 4, 5, 6, 7, 8, 9, 10] _ rfl (by kernel_rfl)⟩
      refine memoStep (R := fun (a : Act) (w : World) => ∃ (A122 : Option Addr) (c123 : Nat) (A124 : Option Addr) (c125 : Nat) (A126 : Option Addr) (c127 : Nat) (A128 : Option Addr) (c129 : Nat) (A130 : Option Addr) (c131 : Nat), Fr 114 a [(2, .pointer (some ⟨b21, 0, none⟩)), (3, .pointer (some ⟨b28, 0, none⟩)), (5, .int .i64 s42), (27, .agg #[.int .i64 ((rd x0.L s42).Op), .slice A122 (((rd x0.L s42).In).length) c123, .slice A124 (((rd x0.L s42).To).length) c125, .int .i64 ((rd x0.L s42).No), .slice A126 ((((rd x0.L s42).Val).Shape).length) c127, .slice A128 ((((rd x0.L s42).Val).Data).length) c129, .slice A130 (((rd x0.L s42).Hooks).length) c131]), (31, .pointer (some ((ad A1_0).add ((s42).toNat * 7))))] ∧ Mem [] M w0 [.sl kHook A130 c131 ((rd x0.L s42).Hooks), .sl Kd.float A128 c129 (((rd x0.L s42).Val).Data), .sl (Kd.int .i64) A126 c127 (((rd x0.L s42).Val).Shape), .sl (Kd.int .i64) A124 c125 ((rd x0.L s42).To), .sl (Kd.int .i64) A122 c123 ((rd x0.L s42).In), .bx b28 [.slice A1_0 x1.L.length c1_0] 24, .bx b21 [.slice A0_0 x0.L.length c0_0] 24, .sl kNode A0_0 c0_0 x0.L, .sl kNode A1_0 c1_0 x1.L] w) #[true, true, true, true, true, true, true, true, true, false, false, false, false, false] 5 ?_ fun L708 => ?_
      · rintro a709 w710 ⟨A122, c123, A124, c125, A126, c127, A128, c129, A130, c131, hf711, hm712⟩
        refine all3 9 10 11 (by kernel_rfl) ?_ ?_ ?_
        · have q713 := (hm712.slAt 8 rfl).get s42 g53.1 g53.2
          obtain ⟨us714, hr715, hc716⟩ := q713.2
          obtain ⟨A717, c718, A719, c720, A721, c722, A723, c724, A725, c726, rfl, ⟨pA717, sA717⟩, ⟨pA719, sA719⟩, ⟨pA721, sA721⟩, ⟨pA723, sA723⟩, ⟨pA725, sA725⟩⟩ := kNode.open hr715
          have hm727 := hm712.elem pA717 sA717
          have hm728 := hm727.elem pA719 sA719
          have hm729 := hm728.elem pA721 sA721
          have hm730 := hm729.elem pA723 sA723
          have hm731 := hm730.elem pA725 sA725
          refine opOf hf711 rfl (by kernel_rfl) (aOne [.agg #[.int .i64 ((rd x1.L s42).Op), .slice A717 (((rd x1.L s42).In).length) c718, .slice A719 (((rd x1.L s42).To).length) c720, .int .i64 ((rd x1.L s42).No), .slice A721 ((((rd x1.L s42).Val).Shape).length) c722, .slice A723 ((((rd x1.L s42).Val).Data).length) c724, .slice A725 (((rd x1.L s42).Hooks).length) c726]] (.agg #[.int .i64 ((rd x1.L s42).Op), .slice A717 (((rd x1.L s42).In).length) c718, .slice A719 (((rd x1.L s42).To).length) c720, .int .i64 ((rd x1.L s42).No), .slice A721 ((((rd x1.L s42).Val).Shape).length) c722, .slice A723 ((((rd x1.L s42).Val).Data).length) c724, .slice A725 (((rd x1.L s42).Hooks).length) c726]) [.cell ((ad A1_0).add ((s42).toNat * 7)) (.int .i64 ((rd x1.L s42).Op)), .cell (((ad A1_0).add ((s42).toNat * 7)).add 1) (.slice A717 (((rd x1.L s42).In).length) c718), .cell (((ad A1_0).add ((s42).toNat * 7)).add 2) (.slice A719 (((rd x1.L s42).To).length) c720), .cell (((ad A1_0).add ((s42).toNat * 7)).add 3) (.int .i64 ((rd x1.L s42).No)), .cell (((ad A1_0).add ((s42).toNat * 7)).add 4) (.slice A721 ((((rd x1.L s42).Val).Shape).length) c722), .cell (((ad A1_0).add ((s42).toNat * 7)).add 5) (.slice A723 ((((rd x1.L s42).Val).Data).length) c724), .cell (((ad A1_0).add ((s42).toNat * 7)).add 6) (.slice A725 (((rd x1.L s42).Hooks).length) c726)] 32 hf711 (by kernel_rfl) rfl (by kernel_rfl) ⟨(hc716 0 _ rfl), (hc716 1 _ rfl), (hc716 2 _ rfl), (hc716 3 _ rfl), (hc716 4 _ rfl), (hc716 5 _ rfl), (hc716 6 _ rfl), trivial⟩ fun a732 hf733 => ?_)
          refine ⟨.inr (Gr.refl _ _), ?_⟩
          exact L563 _ _ ⟨A122, c123, A124, c125, A126, c127, A128, c129, A130, c131, A717, c718, A719, c720, A721, c722, A723, c724, A725, c726, hf733.sel (l := [2, 3, 5, 27, 31, 32]) (by kernel_rfl), hm731.sel [0, 1, 2, 3, 4, 5, 6, 7, 8, 9, 10, 11, 12, 13] _ rfl (by kernel_rfl)⟩
        · refine opOf hf711 rfl (by kernel_rfl) (aNew (cs := [.int .i64 0, .slice none 0 0, .slice none 0 0, .int .i64 0, .slice none 0 0, .slice none 0 0, .slice none 0 0]) (T := 49) (d := 6) hf711 (by kernel_rfl) (by kernel_rfl) ?_)
          intro b734 w735 a736 hbb734 hx738 hg739 hf737
          refine ⟨.inr (Gr.still hg739), ?_⟩
          have hm740 := hm712.box hbb734 hx738 hg739
          exact L612 _ _ ⟨b734, A122, c123, A124, c125, A126, c127, A128, c129, A130, c131, hf737.sel (l := [2, 3, 5, 6, 27, 31]) (by kernel_rfl), hm740.sel [0, 1, 2, 3, 4, 5, 6, 7, 8, 9] _ rfl (by kernel_rfl)⟩
        · refine opOf hf711 rfl (by kernel_rfl) (aNew (cs := [.int .i64 0, .slice none 0 0, .slice none 0 0, .int .i64 0, .slice none 0 0, .slice none 0 0, .slice none 0 0]) (T := 49) (d := 7) hf711 (by kernel_rfl) (by kernel_rfl) ?_)
          intro b741 w742 a743 hbb741 hx745 hg746 hf744
          refine ⟨.inr (Gr.still hg746), ?_⟩
          have hm747 := hm712.box hbb741 hx745 hg746
          exact L660 _ _ ⟨b741, A122, c123, A124, c125, A126, c127, A128, c129, A130, c131, hf744.sel (l := [2, 3, 5, 7, 27, 31]) (by kernel_rfl), hm747.sel [0, 1, 2, 3, 4, 5, 6, 7, 8, 9] _ rfl (by kernel_rfl)⟩
      refine memoStep (R := fun (a : Act) (w : World) => ∃ (b370 : Nat) (b400 : Nat) (A122 : Option Addr) (c123 : Nat) (A124 : Option Addr) (c125 : Nat) (A126 : Option Addr) (c127 : Nat) (A128 : Option Addr) (c129 : Nat) (A130 : Option Addr) (c131 : Nat), Fr 114 a [(2, .pointer (some ⟨b21, 0, none⟩)), (3, .pointer (some ⟨b28, 0, none⟩)), (5, .int .i64 s42), (6, .pointer (some ⟨b370, 0, none⟩)), (7, .pointer (some ⟨b400, 0, none⟩)), (27, .agg #[.int .i64 ((rd x0.L s42).Op), .slice A122 (((rd x0.L s42).In).length) c123, .slice A124 (((rd x0.L s42).To).length) c125, .int .i64 ((rd x0.L s42).No), .slice A126 ((((rd x0.L s42).Val).Shape).length) c127, .slice A128 ((((rd x0.L s42).Val).Data).length) c129, .slice A130 (((rd x0.L s42).Hooks).length) c131]), (28, .pointer (some ⟨b28, 0, none⟩)), (30, .int .i64 s42)] ∧ Mem [] M w0 [.bx b400 [.int .i64 0, .slice none 0 0, .slice none 0 0, .int .i64 0, .slice none 0 0, .slice none 0 0, .slice none 0 0] 49, .bx b370 [.int .i64 0, .slice none 0 0, .slice none 0 0, .int .i64 0, .slice none 0 0, .slice none 0 0, .slice none 0 0] 49, .sl kHook A130 c131 ((rd x0.L s42).Hooks), .sl Kd.float A128 c129 (((rd x0.L s42).Val).Data), .sl (Kd.int .i64) A126 c127 (((rd x0.L s42).Val).Shape), .sl (Kd.int .i64) A124 c125 ((rd x0.L s42).To), .sl (Kd.int .i64) A122 c123 ((rd x0.L s42).In), .bx b28 [.slice A1_0 x1.L.length c1_0] 24, .bx b21 [.slice A0_0 x0.L.length c0_0] 24, .sl kNode A0_0 c0_0 x0.L, .sl kNode A1_0 c1_0 x1.L] w) #[true, true, true, true, true, true, false, true, false, false, true, true, false, false] 5 ?_ fun L748 => ?_
      · rintro a749 w750 ⟨b370, b400, A122, c123, A124, c125, A126, c127, A128, c129, A130, c131, hf751, hm752⟩
        refine all2 6 12 (by kernel_rfl) ?_ ?_
        · refine opOf hf751 rfl (by kernel_rfl) (aOne [.slice A1_0 x1.L.length c1_0] (.slice A1_0 x1.L.length c1_0) [.cell ⟨b28, 0, none⟩ (.slice A1_0 x1.L.length c1_0)] 29 hf751 (by kernel_rfl) rfl (by kernel_rfl) ⟨(hm752.cell 7 rfl rfl), trivial⟩ fun a753 hf754 => ?_)
          refine ⟨.inr (Gr.refl _ _), ?_⟩
          have q755 := (hm752.slAt 10 rfl).get s42 g53.1 g53.2
          obtain ⟨us756, hr757, hc758⟩ := q755.2
          obtain ⟨A759, c760, A761, c762, A763, c764, A765, c766, A767, c768, rfl, ⟨pA759, sA759⟩, ⟨pA761, sA761⟩, ⟨pA763, sA763⟩, ⟨pA765, sA765⟩, ⟨pA767, sA767⟩⟩ := kNode.open hr757
          have hm769 := hm752.elem pA759 sA759
          have hm770 := hm769.elem pA761 sA761
          have hm771 := hm770.elem pA763 sA763
          have hm772 := hm771.elem pA765 sA765
          have hm773 := hm772.elem pA767 sA767
          refine quiet0 [8] [] [2, 3, 5, 6, 7, 27, 31] #[true, true, true, true, true, true, true, true, true, false, true, true, false, false] [(2, .pointer (some ⟨b21, 0, none⟩)), (3, .pointer (some ⟨b28, 0, none⟩)), (5, .int .i64 s42), (6, .pointer (some ⟨b370, 0, none⟩)), (7, .pointer (some ⟨b400, 0, none⟩)), (27, .agg #[.int .i64 ((rd x0.L s42).Op), .slice A122 (((rd x0.L s42).In).length) c123, .slice A124 (((rd x0.L s42).To).length) c125, .int .i64 ((rd x0.L s42).No), .slice A126 ((((rd x0.L s42).Val).Shape).length) c127, .slice A128 ((((rd x0.L s42).Val).Data).length) c129, .slice A130 (((rd x0.L s42).Hooks).length) c131]), (31, .pointer (some ((ad A1_0).add ((s42).toNat * 7))))] [.is (Option.isSome A1_0 = true), .is (0 ≤ s42 ∧ s42 < (x1.L.length : Int))] 3 rfl (by kernel_rfl) (fun _ _ _ _ _ h => nomatch h.1) hf754 (by kernel_rfl) ⟨q755.1, g53, trivial⟩ fun a774 hf775 => ?_
          exact L500 _ _ ⟨b370, b400, A122, c123, A124, c125, A126, c127, A128, c129, A130, c131, hf775.sel (l := [2, 3, 5, 6, 7, 27, 31]) (by kernel_rfl), hm773.sel [5, 6, 7, 8, 9, 10, 11, 12, 13, 14, 15] _ rfl (by kernel_rfl)⟩
        · refine opOf hf751 rfl (by kernel_rfl) (aStoreB (b := b370) (j := 0) (T := 49) (cs := [.int .i64 0, .slice none 0 0, .slice none 0 0, .int .i64 0, .slice none 0 0, .slice none 0 0, .slice none 0 0]) (us := [.int .i64 ((rd x0.L s42).Op), .slice A122 (((rd x0.L s42).In).length) c123, .slice A124 (((rd x0.L s42).To).length) c125, .int .i64 ((rd x0.L s42).No), .slice A126 ((((rd x0.L s42).Val).Shape).length) c127, .slice A128 ((((rd x0.L s42).Val).Data).length) c129, .slice A130 (((rd x0.L s42).Hooks).length) c131]) (cs' := [.int .i64 ((rd x0.L s42).Op), .slice A122 (((rd x0.L s42).In).length) c123, .slice A124 (((rd x0.L s42).To).length) c125, .int .i64 ((rd x0.L s42).No), .slice A126 ((((rd x0.L s42).Val).Shape).length) c127, .slice A128 ((((rd x0.L s42).Val).Data).length) c129, .slice A130 (((rd x0.L s42).Hooks).length) c131]) hf751 (by kernel_rfl) (hm752.bxAt 1 rfl) (by kernel_rfl) (by kernel_rfl) (by kernel_rfl) ?_)
          intro w776 hx777 hg778
          refine ⟨.inl (by decide), ?_⟩
          have hm779 := hm752.setBox 1 _ rfl rfl hx777 hg778
          refine all1 6 (by kernel_rfl) ?_
          refine opOf hf751 rfl (by kernel_rfl) (aOne [.slice A1_0 x1.L.length c1_0] (.slice A1_0 x1.L.length c1_0) [.cell ⟨b28, 0, none⟩ (.slice A1_0 x1.L.length c1_0)] 29 hf751 (by kernel_rfl) rfl (by kernel_rfl) ⟨(hm779.cell 7 rfl rfl), trivial⟩ fun a780 hf781 => ?_)
          refine ⟨.inr (Gr.refl _ _), ?_⟩
          have q782 := (hm779.slAt 10 rfl).get s42 g53.1 g53.2
          obtain ⟨us783, hr784, hc785⟩ := q782.2
          obtain ⟨A786, c787, A788, c789, A790, c791, A792, c793, A794, c795, rfl, ⟨pA786, sA786⟩, ⟨pA788, sA788⟩, ⟨pA790, sA790⟩, ⟨pA792, sA792⟩, ⟨pA794, sA794⟩⟩ := kNode.open hr784
          have hm796 := hm779.elem pA786 sA786
          have hm797 := hm796.elem pA788 sA788
          have hm798 := hm797.elem pA790 sA790
          have hm799 := hm798.elem pA792 sA792
          have hm800 := hm799.elem pA794 sA794
          refine quiet0 [8] [] [2, 3, 5, 6, 7, 31] #[true, true, true, true, true, true, true, true, true, false, true, true, true, false] [(2, .pointer (some ⟨b21, 0, none⟩)), (3, .pointer (some ⟨b28, 0, none⟩)), (5, .int .i64 s42), (6, .pointer (some ⟨b370, 0, none⟩)), (7, .pointer (some ⟨b400, 0, none⟩)), (31, .pointer (some ((ad A1_0).add ((s42).toNat * 7))))] [.is (Option.isSome A1_0 = true), .is (0 ≤ s42 ∧ s42 < (x1.L.length : Int))] 2 rfl (by kernel_rfl) (fun _ _ _ _ _ h => nomatch h.1) hf781 (by kernel_rfl) ⟨q782.1, g53, trivial⟩ fun a801 hf802 => ?_
          refine all1 9 (by kernel_rfl) ?_
          refine opOf hf802 rfl (by kernel_rfl) (aOne [.agg #[.int .i64 ((rd x1.L s42).Op), .slice A786 (((rd x1.L s42).In).length) c787, .slice A788 (((rd x1.L s42).To).length) c789, .int .i64 ((rd x1.L s42).No), .slice A790 ((((rd x1.L s42).Val).Shape).length) c791, .slice A792 ((((rd x1.L s42).Val).Data).length) c793, .slice A794 (((rd x1.L s42).Hooks).length) c795]] (.agg #[.int .i64 ((rd x1.L s42).Op), .slice A786 (((rd x1.L s42).In).length) c787, .slice A788 (((rd x1.L s42).To).length) c789, .int .i64 ((rd x1.L s42).No), .slice A790 ((((rd x1.L s42).Val).Shape).length) c791, .slice A792 ((((rd x1.L s42).Val).Data).length) c793, .slice A794 (((rd x1.L s42).Hooks).length) c795]) [.cell ((ad A1_0).add ((s42).toNat * 7)) (.int .i64 ((rd x1.L s42).Op)), .cell (((ad A1_0).add ((s42).toNat * 7)).add 1) (.slice A786 (((rd x1.L s42).In).length) c787), .cell (((ad A1_0).add ((s42).toNat * 7)).add 2) (.slice A788 (((rd x1.L s42).To).length) c789), .cell (((ad A1_0).add ((s42).toNat * 7)).add 3) (.int .i64 ((rd x1.L s42).No)), .cell (((ad A1_0).add ((s42).toNat * 7)).add 4) (.slice A790 ((((rd x1.L s42).Val).Shape).length) c791), .cell (((ad A1_0).add ((s42).toNat * 7)).add 5) (.slice A792 ((((rd x1.L s42).Val).Data).length) c793), .cell (((ad A1_0).add ((s42).toNat * 7)).add 6) (.slice A794 (((rd x1.L s42).Hooks).length) c795)] 32 hf802 (by kernel_rfl) rfl (by kernel_rfl) ⟨(hc785 0 _ rfl), (hc785 1 _ rfl), (hc785 2 _ rfl), (hc785 3 _ rfl), (hc785 4 _ rfl), (hc785 5 _ rfl), (hc785 6 _ rfl), trivial⟩ fun a803 hf804 => ?_)
          refine ⟨.inr (Gr.refl _ _), ?_⟩
          refine all1 13 (by kernel_rfl) ?_
          refine opOf hf804 rfl (by kernel_rfl) (aStoreB (b := b400) (j := 0) (T := 49) (cs := [.int .i64 0, .slice none 0 0, .slice none 0 0, .int .i64 0, .slice none 0 0, .slice none 0 0, .slice none 0 0]) (us := [.int .i64 ((rd x1.L s42).Op), .slice A786 (((rd x1.L s42).In).length) c787, .slice A788 (((rd x1.L s42).To).length) c789, .int .i64 ((rd x1.L s42).No), .slice A790 ((((rd x1.L s42).Val).Shape).length) c791, .slice A792 ((((rd x1.L s42).Val).Data).length) c793, .slice A794 (((rd x1.L s42).Hooks).length) c795]) (cs' := [.int .i64 ((rd x1.L s42).Op), .slice A786 (((rd x1.L s42).In).length) c787, .slice A788 (((rd x1.L s42).To).length) c789, .int .i64 ((rd x1.L s42).No), .slice A790 ((((rd x1.L s42).Val).Shape).length) c791, .slice A792 ((((rd x1.L s42).Val).Data).length) c793, .slice A794 (((rd x1.L s42).Hooks).length) c795]) hf804 (by kernel_rfl) (hm800.bxAt 5 rfl) (by kernel_rfl) (by kernel_rfl) (by kernel_rfl) ?_)
          intro w805 hx806 hg807
          refine ⟨.inl (by decide), ?_⟩
          have hm808 := hm800.setBox 5 _ rfl rfl hx806 hg807
          refine allDone (by kernel_rfl) ⟨rfl, b370, b400, A786, c787, A788, c789, A790, c791, A792, c793, A794, c795, A122, c123, A124, c125, A126, c127, A128, c129, A130, c131, hf804.sel (l := [2, 3, 5, 6, 7]) (by kernel_rfl), hm808.sel [5, 6, 0, 1, 2, 3, 4, 7, 8, 9, 10, 11, 12, 13, 14, 15] _ rfl (by kernel_rfl)⟩
      refine memoStep (R := fun (a : Act) (w : World) => ∃ (b370 : Nat) (A122 : Option Addr) (c123 : Nat) (A124 : Option Addr) (c125 : Nat) (A126 : Option Addr) (c127 : Nat) (A128 : Option Addr) (c129 : Nat) (A130 : Option Addr) (c131 : Nat), Fr 114 a [(2, .pointer (some ⟨b21, 0, none⟩)), (3, .pointer (some ⟨b28, 0, none⟩)), (5, .int .i64 s42), (6, .pointer (some ⟨b370, 0, none⟩)), (27, .agg #[.int .i64 ((rd x0.L s42).Op), .slice A122 (((rd x0.L s42).In).length) c123, .slice A124 (((rd x0.L s42).To).length) c125, .int .i64 ((rd x0.L s42).No), .slice A126 ((((rd x0.L s42).Val).Shape).length) c127, .slice A128 ((((rd x0.L s42).Val).Data).length) c129, .slice A130 (((rd x0.L s42).Hooks).length) c131]), (28, .pointer (some ⟨b28, 0, none⟩)), (30, .int .i64 s42)] ∧ Mem [] M w0 [.bx b370 [.int .i64 0, .slice none 0 0, .slice none 0 0, .int .i64 0, .slice none 0 0, .slice none 0 0, .slice none 0 0] 49, .sl kHook A130 c131 ((rd x0.L s42).Hooks), .sl Kd.float A128 c129 (((rd x0.L s42).Val).Data), .sl (Kd.int .i64) A126 c127 (((rd x0.L s42).Val).Shape), .sl (Kd.int .i64) A124 c125 ((rd x0.L s42).To), .sl (Kd.int .i64) A122 c123 ((rd x0.L s42).In), .bx b28 [.slice A1_0 x1.L.length c1_0] 24, .bx b21 [.slice A0_0 x0.L.length c0_0] 24, .sl kNode A0_0 c0_0 x0.L, .sl kNode A1_0 c1_0 x1.L] w) #[true, true, true, true, true, true, false, true, false, false, true, false, false, false] 6 ?_ fun L809 => ?_
      · rintro a810 w811 ⟨b370, A122, c123, A124, c125, A126, c127, A128, c129, A130, c131, hf812, hm813⟩
        refine all2 6 11 (by kernel_rfl) ?_ ?_
        · refine opOf hf812 rfl (by kernel_rfl) (aOne [.slice A1_0 x1.L.length c1_0] (.slice A1_0 x1.L.length c1_0) [.cell ⟨b28, 0, none⟩ (.slice A1_0 x1.L.length c1_0)] 29 hf812 (by kernel_rfl) rfl (by kernel_rfl) ⟨(hm813.cell 6 rfl rfl), trivial⟩ fun a814 hf815 => ?_)
          refine ⟨.inr (Gr.refl _ _), ?_⟩
          have q816 := (hm813.slAt 9 rfl).get s42 g53.1 g53.2
          obtain ⟨us817, hr818, hc819⟩ := q816.2
          obtain ⟨A820, c821, A822, c823, A824, c825, A826, c827, A828, c829, rfl, ⟨pA820, sA820⟩, ⟨pA822, sA822⟩, ⟨pA824, sA824⟩, ⟨pA826, sA826⟩, ⟨pA828, sA828⟩⟩ := kNode.open hr818
          have hm830 := hm813.elem pA820 sA820
          have hm831 := hm830.elem pA822 sA822
          have hm832 := hm831.elem pA824 sA824
          have hm833 := hm832.elem pA826 sA826
          have hm834 := hm833.elem pA828 sA828
          refine quiet0 [8] [] [2, 3, 5, 6, 27, 31] #[true, true, true, true, true, true, true, true, true, false, true, false, false, false] [(2, .pointer (some ⟨b21, 0, none⟩)), (3, .pointer (some ⟨b28, 0, none⟩)), (5, .int .i64 s42), (6, .pointer (some ⟨b370, 0, none⟩)), (27, .agg #[.int .i64 ((rd x0.L s42).Op), .slice A122 (((rd x0.L s42).In).length) c123, .slice A124 (((rd x0.L s42).To).length) c125, .int .i64 ((rd x0.L s42).No), .slice A126 ((((rd x0.L s42).Val).Shape).length) c127, .slice A128 ((((rd x0.L s42).Val).Data).length) c129, .slice A130 (((rd x0.L s42).Hooks).length) c131]), (31, .pointer (some ((ad A1_0).add ((s42).toNat * 7))))] [.is (Option.isSome A1_0 = true), .is (0 ≤ s42 ∧ s42 < (x1.L.length : Int))] 4 rfl (by kernel_rfl) (fun _ _ _ _ _ h => nomatch h.1) hf815 (by kernel_rfl) ⟨q816.1, g53, trivial⟩ fun a835 hf836 => ?_
          exact L612 _ _ ⟨b370, A122, c123, A124, c125, A126, c127, A128, c129, A130, c131, hf836.sel (l := [2, 3, 5, 6, 27, 31]) (by kernel_rfl), hm834.sel [5, 6, 7, 8, 9, 10, 11, 12, 13, 14] _ rfl (by kernel_rfl)⟩
        · refine opOf hf812 rfl (by kernel_rfl) (aNew (cs := [.int .i64 0, .slice none 0 0, .slice none 0 0, .int .i64 0, .slice none 0 0, .slice none 0 0, .slice none 0 0]) (T := 49) (d := 7) hf812 (by kernel_rfl) (by kernel_rfl) ?_)
          intro b837 w838 a839 hbb837 hx841 hg842 hf840
          refine ⟨.inr (Gr.still hg842), ?_⟩
          have hm843 := hm813.box hbb837 hx841 hg842
          exact L748 _ _ ⟨b370, b837, A122, c123, A124, c125, A126, c127, A128, c129, A130, c131, hf840.sel (l := [2, 3, 5, 6, 7, 27, 28, 30]) (by kernel_rfl), hm843.sel [0, 1, 2, 3, 4, 5, 6, 7, 8, 9, 10] _ rfl (by kernel_rfl)⟩
      refine memoStep (R := fun (a : Act) (w : World) => ∃ (b463 : Nat) (A122 : Option Addr) (c123 : Nat) (A124 : Option Addr) (c125 : Nat) (A126 : Option Addr) (c127 : Nat) (A128 : Option Addr) (c129 : Nat) (A130 : Option Addr) (c131 : Nat), Fr 114 a [(2, .pointer (some ⟨b21, 0, none⟩)), (3, .pointer (some ⟨b28, 0, none⟩)), (5, .int .i64 s42), (7, .pointer (some ⟨b463, 0, none⟩)), (27, .agg #[.int .i64 ((rd x0.L s42).Op), .slice A122 (((rd x0.L s42).In).length) c123, .slice A124 (((rd x0.L s42).To).length) c125, .int .i64 ((rd x0.L s42).No), .slice A126 ((((rd x0.L s42).Val).Shape).length) c127, .slice A128 ((((rd x0.L s42).Val).Data).length) c129, .slice A130 (((rd x0.L s42).Hooks).length) c131]), (28, .pointer (some ⟨b28, 0, none⟩)), (30, .int .i64 s42)] ∧ Mem [] M w0 [.bx b463 [.int .i64 0, .slice none 0 0, .slice none 0 0, .int .i64 0, .slice none 0 0, .slice none 0 0, .slice none 0 0] 49, .sl kHook A130 c131 ((rd x0.L s42).Hooks), .sl Kd.float A128 c129 (((rd x0.L s42).Val).Data), .sl (Kd.int .i64) A126 c127 (((rd x0.L s42).Val).Shape), .sl (Kd.int .i64) A124 c125 ((rd x0.L s42).To), .sl (Kd.int .i64) A122 c123 ((rd x0.L s42).In), .bx b28 [.slice A1_0 x1.L.length c1_0] 24, .bx b21 [.slice A0_0 x0.L.length c0_0] 24, .sl kNode A0_0 c0_0 x0.L, .sl kNode A1_0 c1_0 x1.L] w) #[true, true, true, true, true, true, false, true, false, false, false, true, false, false] 6 ?_ fun L844 => ?_
      · rintro a845 w846 ⟨b463, A122, c123, A124, c125, A126, c127, A128, c129, A130, c131, hf847, hm848⟩
        refine all2 6 10 (by kernel_rfl) ?_ ?_
        · refine opOf hf847 rfl (by kernel_rfl) (aOne [.slice A1_0 x1.L.length c1_0] (.slice A1_0 x1.L.length c1_0) [.cell ⟨b28, 0, none⟩ (.slice A1_0 x1.L.length c1_0)] 29 hf847 (by kernel_rfl) rfl (by kernel_rfl) ⟨(hm848.cell 6 rfl rfl), trivial⟩ fun a849 hf850 => ?_)
          refine ⟨.inr (Gr.refl _ _), ?_⟩
          have q851 := (hm848.slAt 9 rfl).get s42 g53.1 g53.2
          obtain ⟨us852, hr853, hc854⟩ := q851.2
          obtain ⟨A855, c856, A857, c858, A859, c860, A861, c862, A863, c864, rfl, ⟨pA855, sA855⟩, ⟨pA857, sA857⟩, ⟨pA859, sA859⟩, ⟨pA861, sA861⟩, ⟨pA863, sA863⟩⟩ := kNode.open hr853
          have hm865 := hm848.elem pA855 sA855
          have hm866 := hm865.elem pA857 sA857
          have hm867 := hm866.elem pA859 sA859
          have hm868 := hm867.elem pA861 sA861
          have hm869 := hm868.elem pA863 sA863
          refine quiet0 [8] [] [2, 3, 5, 7, 27, 31] #[true, true, true, true, true, true, true, true, true, false, false, true, false, false] [(2, .pointer (some ⟨b21, 0, none⟩)), (3, .pointer (some ⟨b28, 0, none⟩)), (5, .int .i64 s42), (7, .pointer (some ⟨b463, 0, none⟩)), (27, .agg #[.int .i64 ((rd x0.L s42).Op), .slice A122 (((rd x0.L s42).In).length) c123, .slice A124 (((rd x0.L s42).To).length) c125, .int .i64 ((rd x0.L s42).No), .slice A126 ((((rd x0.L s42).Val).Shape).length) c127, .slice A128 ((((rd x0.L s42).Val).Data).length) c129, .slice A130 (((rd x0.L s42).Hooks).length) c131]), (31, .pointer (some ((ad A1_0).add ((s42).toNat * 7))))] [.is (Option.isSome A1_0 = true), .is (0 ≤ s42 ∧ s42 < (x1.L.length : Int))] 4 rfl (by kernel_rfl) (fun _ _ _ _ _ h => nomatch h.1) hf850 (by kernel_rfl) ⟨q851.1, g53, trivial⟩ fun a870 hf871 => ?_
          exact L660 _ _ ⟨b463, A122, c123, A124, c125, A126, c127, A128, c129, A130, c131, hf871.sel (l := [2, 3, 5, 7, 27, 31]) (by kernel_rfl), hm869.sel [5, 6, 7, 8, 9, 10, 11, 12, 13, 14] _ rfl (by kernel_rfl)⟩
        · refine opOf hf847 rfl (by kernel_rfl) (aNew (cs := [.int .i64 0, .slice none 0 0, .slice none 0 0, .int .i64 0, .slice none 0 0, .slice none 0 0, .slice none 0 0]) (T := 49) (d := 6) hf847 (by kernel_rfl) (by kernel_rfl) ?_)
          intro b872 w873 a874 hbb872 hx876 hg877 hf875
          refine ⟨.inr (Gr.still hg877), ?_⟩
          have hm878 := hm848.box hbb872 hx876 hg877
          exact L748 _ _ ⟨b872, b463, A122, c123, A124, c125, A126, c127, A128, c129, A130, c131, hf875.sel (l := [2, 3, 5, 6, 7, 27, 28, 30]) (by kernel_rfl), hm878.sel [1, 0, 2, 3, 4, 5, 6, 7, 8, 9, 10] _ rfl (by kernel_rfl)⟩
      refine memoStep (R := fun (a : Act) (w : World) => ∃ (A122 : Option Addr) (c123 : Nat) (A124 : Option Addr) (c125 : Nat) (A126 : Option Addr) (c127 : Nat) (A128 : Option Addr) (c129 : Nat) (A130 : Option Addr) (c131 : Nat), Fr 114 a [(2, .pointer (some ⟨b21, 0, none⟩)), (3, .pointer (some ⟨b28, 0, none⟩)), (5, .int .i64 s42), (27, .agg #[.int .i64 ((rd x0.L s42).Op), .slice A122 (((rd x0.L s42).In).length) c123, .slice A124 (((rd x0.L s42).To).length) c125, .int .i64 ((rd x0.L s42).No), .slice A126 ((((rd x0.L s42).Val).Shape).length) c127, .slice A128 ((((rd x0.L s42).Val).Data).length) c129, .slice A130 (((rd x0.L s42).Hooks).length) c131]), (28, .pointer (some ⟨b28, 0, none⟩)), (30, .int .i64 s42)] ∧ Mem [] M w0 [.sl kHook A130 c131 ((rd x0.L s42).Hooks), .sl Kd.float A128 c129 (((rd x0.L s42).Val).Data), .sl (Kd.int .i64) A126 c127 (((rd x0.L s42).Val).Shape), .sl (Kd.int .i64) A124 c125 ((rd x0.L s42).To), .sl (Kd.int .i64) A122 c123 ((rd x0.L s42).In), .bx b28 [.slice A1_0 x1.L.length c1_0] 24, .bx b21 [.slice A0_0 x0.L.length c0_0] 24, .sl kNode A0_0 c0_0 x0.L, .sl kNode A1_0 c1_0 x1.L] w) #[true, true, true, true, true, true, false, true, false, false, false, false, false, false] 7 ?_ fun L879 => ?_
      · rintro a880 w881 ⟨A122, c123, A124, c125, A126, c127, A128, c129, A130, c131, hf882, hm883⟩
        refine all3 6 10 11 (by kernel_rfl) ?_ ?_ ?_
        · refine opOf hf882 rfl (by kernel_rfl) (aOne [.slice A1_0 x1.L.length c1_0] (.slice A1_0 x1.L.length c1_0) [.cell ⟨b28, 0, none⟩ (.slice A1_0 x1.L.length c1_0)] 29 hf882 (by kernel_rfl) rfl (by kernel_rfl) ⟨(hm883.cell 5 rfl rfl), trivial⟩ fun a884 hf885 => ?_)
          refine ⟨.inr (Gr.refl _ _), ?_⟩
          have q886 := (hm883.slAt 8 rfl).get s42 g53.1 g53.2
          obtain ⟨us887, hr888, hc889⟩ := q886.2
          obtain ⟨A890, c891, A892, c893, A894, c895, A896, c897, A898, c899, rfl, ⟨pA890, sA890⟩, ⟨pA892, sA892⟩, ⟨pA894, sA894⟩, ⟨pA896, sA896⟩, ⟨pA898, sA898⟩⟩ := kNode.open hr888
          have hm900 := hm883.elem pA890 sA890
          have hm901 := hm900.elem pA892 sA892
          have hm902 := hm901.elem pA894 sA894
          have hm903 := hm902.elem pA896 sA896
          have hm904 := hm903.elem pA898 sA898
          refine quiet0 [8] [] [2, 3, 5, 27, 31] #[true, true, true, true, true, true, true, true, true, false, false, false, false, false] [(2, .pointer (some ⟨b21, 0, none⟩)), (3, .pointer (some ⟨b28, 0, none⟩)), (5, .int .i64 s42), (27, .agg #[.int .i64 ((rd x0.L s42).Op), .slice A122 (((rd x0.L s42).In).length) c123, .slice A124 (((rd x0.L s42).To).length) c125, .int .i64 ((rd x0.L s42).No), .slice A126 ((((rd x0.L s42).Val).Shape).length) c127, .slice A128 ((((rd x0.L s42).Val).Data).length) c129, .slice A130 (((rd x0.L s42).Hooks).length) c131]), (31, .pointer (some ((ad A1_0).add ((s42).toNat * 7))))] [.is (Option.isSome A1_0 = true), .is (0 ≤ s42 ∧ s42 < (x1.L.length : Int))] 5 rfl (by kernel_rfl) (fun _ _ _ _ _ h => nomatch h.1) hf885 (by kernel_rfl) ⟨q886.1, g53, trivial⟩ fun a905 hf906 => ?_
          exact L708 _ _ ⟨A122, c123, A124, c125, A126, c127, A128, c129, A130, c131, hf906.sel (l := [2, 3, 5, 27, 31]) (by kernel_rfl), hm904.sel [5, 6, 7, 8, 9, 10, 11, 12, 13] _ rfl (by kernel_rfl)⟩
        · refine opOf hf882 rfl (by kernel_rfl) (aNew (cs := [.int .i64 0, .slice none 0 0, .slice none 0 0, .int .i64 0, .slice none 0 0, .slice none 0 0, .slice none 0 0]) (T := 49) (d := 6) hf882 (by kernel_rfl) (by kernel_rfl) ?_)
          intro b907 w908 a909 hbb907 hx911 hg912 hf910
          refine ⟨.inr (Gr.still hg912), ?_⟩
          have hm913 := hm883.box hbb907 hx911 hg912
          exact L809 _ _ ⟨b907, A122, c123, A124, c125, A126, c127, A128, c129, A130, c131, hf910.sel (l := [2, 3, 5, 6, 27, 28, 30]) (by kernel_rfl), hm913.sel [0, 1, 2, 3, 4, 5, 6, 7, 8, 9] _ rfl (by kernel_rfl)⟩
        · refine opOf hf882 rfl (by kernel_rfl) (aNew (cs := [.int .i64 0, .slice none 0 0, .slice none 0 0, .int .i64 0, .slice none 0 0, .slice none 0 0, .slice none 0 0]) (T := 49) (d := 7) hf882 (by kernel_rfl) (by kernel_rfl) ?_)
          intro b914 w915 a916 hbb914 hx918 hg919 hf917
          refine ⟨.inr (Gr.still hg919), ?_⟩
          have hm920 := hm883.box hbb914 hx918 hg919
          exact L844 _ _ ⟨b914, A122, c123, A124, c125, A126, c127, A128, c129, A130, c131, hf917.sel (l := [2, 3, 5, 7, 27, 28, 30]) (by kernel_rfl), hm920.sel [0, 1, 2, 3, 4, 5, 6, 7, 8, 9] _ rfl (by kernel_rfl)⟩
      have q921 := (hm117.slAt 2 rfl).get s42 g52.1 g52.2
      obtain ⟨us922, hr923, hc924⟩ := q921.2
      obtain ⟨A925, c926, A927, c928, A929, c930, A931, c932, A933, c934, rfl, ⟨pA925, sA925⟩, ⟨pA927, sA927⟩, ⟨pA929, sA929⟩, ⟨pA931, sA931⟩, ⟨pA933, sA933⟩⟩ := kNode.open hr923
      have hm935 := hm117.elem pA925 sA925
      have hm936 := hm935.elem pA927 sA927
      have hm937 := hm936.elem pA929 sA929
      have hm938 := hm937.elem pA931 sA931
      have hm939 := hm938.elem pA933 sA933
      refine quiet0 [0, 1, 2, 3, 4, 5, 7] [.slice A0_0 x0.L.length c0_0, .agg #[.int .i64 ((rd x0.L s42).Op), .slice A925 (((rd x0.L s42).In).length) c926, .slice A927 (((rd x0.L s42).To).length) c928, .int .i64 ((rd x0.L s42).No), .slice A929 ((((rd x0.L s42).Val).Shape).length) c930, .slice A931 ((((rd x0.L s42).Val).Data).length) c932, .slice A933 (((rd x0.L s42).Hooks).length) c934]] [2, 3, 5, 27, 28, 30] #[true, true, true, true, true, true, false, true, false, false, false, false, false, false] [(2, .pointer (some ⟨b21, 0, none⟩)), (3, .pointer (some ⟨b28, 0, none⟩)), (5, .int .i64 s42), (27, .agg #[.int .i64 ((rd x0.L s42).Op), .slice A925 (((rd x0.L s42).In).length) c926, .slice A927 (((rd x0.L s42).To).length) c928, .int .i64 ((rd x0.L s42).No), .slice A929 ((((rd x0.L s42).Val).Shape).length) c930, .slice A931 ((((rd x0.L s42).Val).Data).length) c932, .slice A933 (((rd x0.L s42).Hooks).length) c934]), (28, .pointer (some ⟨b28, 0, none⟩)), (30, .int .i64 s42)] [.cell ⟨b21, 0, none⟩ (.slice A0_0 x0.L.length c0_0), .is (Option.isSome A0_0 = true), .is (0 ≤ s42 ∧ s42 < (x0.L.length : Int)), .cell ((ad A0_0).add ((s42).toNat * 7)) (.int .i64 ((rd x0.L s42).Op)), .cell (((ad A0_0).add ((s42).toNat * 7)).add 1) (.slice A925 (((rd x0.L s42).In).length) c926), .cell (((ad A0_0).add ((s42).toNat * 7)).add 2) (.slice A927 (((rd x0.L s42).To).length) c928), .cell (((ad A0_0).add ((s42).toNat * 7)).add 3) (.int .i64 ((rd x0.L s42).No)), .cell (((ad A0_0).add ((s42).toNat * 7)).add 4) (.slice A929 ((((rd x0.L s42).Val).Shape).length) c930), .cell (((ad A0_0).add ((s42).toNat * 7)).add 5) (.slice A931 ((((rd x0.L s42).Val).Data).length) c932), .cell (((ad A0_0).add ((s42).toNat * 7)).add 6) (.slice A933 (((rd x0.L s42).Hooks).length) c934)] 7 rfl (by kernel_rfl) (fun _ _ _ _ _ h => nomatch h.1) hf51 (by kernel_rfl) ⟨(hm117.cell 1 rfl rfl), q921.1, g52, (hc924 0 _ rfl), (hc924 1 _ rfl), (hc924 2 _ rfl), (hc924 3 _ rfl), (hc924 4 _ rfl), (hc924 5 _ rfl), (hc924 6 _ rfl), trivial⟩ fun a940 hf941 => ?_
      exact L879 _ _ ⟨A925, c926, A927, c928, A929, c930, A931, c932, A933, c934, hf941.sel (l := [2, 3, 5, 27, 28, 30]) (by kernel_rfl), hm939.sel [0, 1, 2, 3, 4, 5, 6, 7, 8] _ rfl (by kernel_rfl)⟩
    rintro a942 w943 ⟨b93, b100, A78, c79, A80, c81, A82, c83, A84, c85, A86, c87, A58, c59, A60, c61, A62, c63, A65, c66, A67, c68, hf944, hm945⟩
    refine thenN ?_
    refine wp_seq ?_
    refine wp_seq ?_
    rcases ifS_split H1 with ⟨c946, H1⟩ | ⟨c946, H1⟩
    rotate_left
    · refine reg [.int .i64 ((rd x0.L s42).Op), .int .i64 ((rd x1.L s42).Op), .bool true] [2, 3, 5, 6, 7, 77] [(2, .pointer (some ⟨b21, 0, none⟩)), (3, .pointer (some ⟨b28, 0, none⟩)), (5, .int .i64 s42), (6, .pointer (some ⟨b93, 0, none⟩)), (7, .pointer (some ⟨b100, 0, none⟩)), (77, .bool true)] [.cell ⟨b93, 0, none⟩ (.int .i64 ((rd x0.L s42).Op)), .cell ⟨b100, 0, none⟩ (.int .i64 ((rd x1.L s42).Op)), .is ((((rd x0.L s42).Op : Int) != (rd x1.L s42).Op) = true)] hf944 (by kernel_rfl) ⟨(hm945.cell 1 rfl rfl), (hm945.cell 0 rfl rfl), (neT c946), trivial⟩ fun a1309 hf1310 => ?_
      refine thenN ?_
      refine condT hf1310 (by kernel_rfl) ?_
      refine wp_seq ?_
      refine reg [] [4] [(4, .bool false)] [] hf1310 (by kernel_rfl) trivial fun a1311 hf1312 => ?_
      have hm1313 := hm945.sel [] _ rfl (by kernel_rfl)
      refine thenN ?_
      refine wp_ret ?_
      refine thenR ?_
      refine blkR ?_
      refine thenR ?_
      refine thenR ?_
      refine .inr ⟨rfl, ?_⟩
      refine thenR ?_
      have hm1314 : Mem [] M w0 [] w943 := hm1313.sel [] _ rfl (by kernel_rfl)
      obtain rfl := Option.some.inj H1
      obtain rfl := Option.some.inj H0
      refine ret [] [.bool false] [] hf1312 (by kernel_rfl) trivial ?_
      exact ⟨_, rfl, rfl, hm1314⟩
    rcases ifS_split H1 with ⟨c947, H1⟩ | ⟨c947, H1⟩
    rotate_left
    · refine reg [.int .i64 ((rd x0.L s42).Op), .int .i64 ((rd x1.L s42).Op), .bool false, .int .i64 ((rd x0.L s42).No), .int .i64 ((rd x1.L s42).No), .bool true] [2, 3, 5, 6, 7, 77] [(2, .pointer (some ⟨b21, 0, none⟩)), (3, .pointer (some ⟨b28, 0, none⟩)), (5, .int .i64 s42), (6, .pointer (some ⟨b93, 0, none⟩)), (7, .pointer (some ⟨b100, 0, none⟩)), (77, .bool true)] [.cell ⟨b93, 0, none⟩ (.int .i64 ((rd x0.L s42).Op)), .cell ⟨b100, 0, none⟩ (.int .i64 ((rd x1.L s42).Op)), .is ((((rd x0.L s42).Op : Int) != (rd x1.L s42).Op) = false), .cell ⟨b93, 3, none⟩ (.int .i64 ((rd x0.L s42).No)), .cell ⟨b100, 3, none⟩ (.int .i64 ((rd x1.L s42).No)), .is ((((rd x0.L s42).No : Int) != (rd x1.L s42).No) = true)] hf944 (by kernel_rfl) ⟨(hm945.cell 1 rfl rfl), (hm945.cell 0 rfl rfl), (neF c946), (hm945.cell 1 rfl rfl), (hm945.cell 0 rfl rfl), (neT c947), trivial⟩ fun a1302 hf1303 => ?_
      refine thenN ?_
      refine condT hf1303 (by kernel_rfl) ?_
      refine wp_seq ?_
      refine reg [] [4] [(4, .bool false)] [] hf1303 (by kernel_rfl) trivial fun a1304 hf1305 => ?_
      have hm1306 := hm945.sel [] _ rfl (by kernel_rfl)
      refine thenN ?_
      refine wp_ret ?_
      refine thenR ?_
      refine blkR ?_
      refine thenR ?_
      refine thenR ?_
      refine .inr ⟨rfl, ?_⟩
      refine thenR ?_
      have hm1307 : Mem [] M w0 [] w943 := hm1306.sel [] _ rfl (by kernel_rfl)
      obtain rfl := Option.some.inj H1
      obtain rfl := Option.some.inj H0
      refine ret [] [.bool false] [] hf1305 (by kernel_rfl) trivial ?_
      exact ⟨_, rfl, rfl, hm1307⟩
    obtain ⟨r948, hr948, H1⟩ := obS_split H1
    rcases ifbS_split H1 with ⟨c949, H1⟩ | ⟨c949, H1⟩
    rotate_left
    · refine inReg ?_
      refine go 17 [.int .i64 ((rd x0.L s42).Op), .int .i64 ((rd x1.L s42).Op), .bool false, .int .i64 ((rd x0.L s42).No), .int .i64 ((rd x1.L s42).No), .bool false, .slice A58 (((rd x0.L s42).In).length) c59, .slice A78 (((rd x1.L s42).In).length) c79] [2, 3, 5, 6, 7, 45, 47, 49] [(2, .pointer (some ⟨b21, 0, none⟩)), (3, .pointer (some ⟨b28, 0, none⟩)), (5, .int .i64 s42), (6, .pointer (some ⟨b93, 0, none⟩)), (7, .pointer (some ⟨b100, 0, none⟩)), (45, .bool false), (47, .slice A58 (((rd x0.L s42).In).length) c59), (49, .slice A78 (((rd x1.L s42).In).length) c79)] [.cell ⟨b93, 0, none⟩ (.int .i64 ((rd x0.L s42).Op)), .cell ⟨b100, 0, none⟩ (.int .i64 ((rd x1.L s42).Op)), .is ((((rd x0.L s42).Op : Int) != (rd x1.L s42).Op) = false), .cell ⟨b93, 3, none⟩ (.int .i64 ((rd x0.L s42).No)), .cell ⟨b100, 3, none⟩ (.int .i64 ((rd x1.L s42).No)), .is ((((rd x0.L s42).No : Int) != (rd x1.L s42).No) = false), .cell ⟨b93, 1, none⟩ (.slice A58 (((rd x0.L s42).In).length) c59), .cell ⟨b100, 1, none⟩ (.slice A78 (((rd x1.L s42).In).length) c79)] hf944 (by kernel_rfl) ⟨(hm945.cell 1 rfl rfl), (hm945.cell 0 rfl rfl), (neF c946), (hm945.cell 1 rfl rfl), (hm945.cell 0 rfl rfl), (neF c947), (hm945.cell 1 rfl rfl), (hm945.cell 0 rfl rfl), trivial⟩ fun a1288 hf1289 => ?_
      refine listOf hf1289 rfl (by kernel_rfl) (aCall (fid := 31) (args := [.slice A58 (((rd x0.L s42).In).length) c59, .slice A78 (((rd x1.L s42).In).length) c79]) (d := 50) hf1289 (by kernel_rfl) (by kernel_rfl) callable31 (ref1_SameInts.calls _ _ ((rd x0.L s42).In) A58 (((rd x0.L s42).In).length) c59 rfl ((rd x1.L s42).In) A78 (((rd x1.L s42).In).length) c79 rfl (hm945.give [11, 6] [.sl (Kd.int .i64) A58 c59 ((rd x0.L s42).In), .sl (Kd.int .i64) A78 c79 ((rd x1.L s42).In)] rfl rfl) r948 hr948) ?_)
      rintro _ w1290 a1291 ⟨rfl, hk1293⟩ hf1292
      have hm1294 := hm945.still hk1293.cum.none
      rw [c949] at hf1292
      refine go 27 [] [2, 3, 5, 6, 7, 77] [(2, .pointer (some ⟨b21, 0, none⟩)), (3, .pointer (some ⟨b28, 0, none⟩)), (5, .int .i64 s42), (6, .pointer (some ⟨b93, 0, none⟩)), (7, .pointer (some ⟨b100, 0, none⟩)), (77, .bool true)] [] hf1292 (by kernel_rfl) trivial fun a1295 hf1296 => ?_
      refine endL rfl ?_
      refine thenN ?_
      refine condT hf1296 (by kernel_rfl) ?_
      refine wp_seq ?_
      refine reg [] [4] [(4, .bool false)] [] hf1296 (by kernel_rfl) trivial fun a1297 hf1298 => ?_
      have hm1299 := hm1294.sel [] _ rfl (by kernel_rfl)
      refine thenN ?_
      refine wp_ret ?_
      refine thenR ?_
      refine blkR ?_
      refine thenR ?_
      refine thenR ?_
      refine .inr ⟨rfl, ?_⟩
      refine thenR ?_
      have hm1300 : Mem [] M w0 [] w1290 := hm1299.sel [] _ rfl (by kernel_rfl)
      obtain rfl := Option.some.inj H1
      obtain rfl := Option.some.inj H0
      refine ret [] [.bool false] [] hf1298 (by kernel_rfl) trivial ?_
      exact ⟨_, rfl, rfl, hm1300⟩
    obtain ⟨r950, hr950, H1⟩ := obS_split H1
    rcases ifbS_split H1 with ⟨c951, H1⟩ | ⟨c951, H1⟩
    rotate_left
    · refine inReg ?_
      refine go 17 [.int .i64 ((rd x0.L s42).Op), .int .i64 ((rd x1.L s42).Op), .bool false, .int .i64 ((rd x0.L s42).No), .int .i64 ((rd x1.L s42).No), .bool false, .slice A58 (((rd x0.L s42).In).length) c59, .slice A78 (((rd x1.L s42).In).length) c79] [2, 3, 5, 6, 7, 45, 47, 49] [(2, .pointer (some ⟨b21, 0, none⟩)), (3, .pointer (some ⟨b28, 0, none⟩)), (5, .int .i64 s42), (6, .pointer (some ⟨b93, 0, none⟩)), (7, .pointer (some ⟨b100, 0, none⟩)), (45, .bool false), (47, .slice A58 (((rd x0.L s42).In).length) c59), (49, .slice A78 (((rd x1.L s42).In).length) c79)] [.cell ⟨b93, 0, none⟩ (.int .i64 ((rd x0.L s42).Op)), .cell ⟨b100, 0, none⟩ (.int .i64 ((rd x1.L s42).Op)), .is ((((rd x0.L s42).Op : Int) != (rd x1.L s42).Op) = false), .cell ⟨b93, 3, none⟩ (.int .i64 ((rd x0.L s42).No)), .cell ⟨b100, 3, none⟩ (.int .i64 ((rd x1.L s42).No)), .is ((((rd x0.L s42).No : Int) != (rd x1.L s42).No) = false), .cell ⟨b93, 1, none⟩ (.slice A58 (((rd x0.L s42).In).length) c59), .cell ⟨b100, 1, none⟩ (.slice A78 (((rd x1.L s42).In).length) c79)] hf944 (by kernel_rfl) ⟨(hm945.cell 1 rfl rfl), (hm945.cell 0 rfl rfl), (neF c946), (hm945.cell 1 rfl rfl), (hm945.cell 0 rfl rfl), (neF c947), (hm945.cell 1 rfl rfl), (hm945.cell 0 rfl rfl), trivial⟩ fun a1267 hf1268 => ?_
      refine listOf hf1268 rfl (by kernel_rfl) (aCall (fid := 31) (args := [.slice A58 (((rd x0.L s42).In).length) c59, .slice A78 (((rd x1.L s42).In).length) c79]) (d := 50) hf1268 (by kernel_rfl) (by kernel_rfl) callable31 (ref1_SameInts.calls _ _ ((rd x0.L s42).In) A58 (((rd x0.L s42).In).length) c59 rfl ((rd x1.L s42).In) A78 (((rd x1.L s42).In).length) c79 rfl (hm945.give [11, 6] [.sl (Kd.int .i64) A58 c59 ((rd x0.L s42).In), .sl (Kd.int .i64) A78 c79 ((rd x1.L s42).In)] rfl rfl) r948 hr948) ?_)
      rintro _ w1269 a1270 ⟨rfl, hk1272⟩ hf1271
      have hm1273 := hm945.still hk1272.cum.none
      rw [c949] at hf1271
      refine go 7 [.slice A60 (((rd x0.L s42).To).length) c61, .slice A80 (((rd x1.L s42).To).length) c81] [2, 3, 5, 6, 7, 53, 55, 57] [(2, .pointer (some ⟨b21, 0, none⟩)), (3, .pointer (some ⟨b28, 0, none⟩)), (5, .int .i64 s42), (6, .pointer (some ⟨b93, 0, none⟩)), (7, .pointer (some ⟨b100, 0, none⟩)), (53, .bool false), (55, .slice A60 (((rd x0.L s42).To).length) c61), (57, .slice A80 (((rd x1.L s42).To).length) c81)] [.cell ⟨b93, 2, none⟩ (.slice A60 (((rd x0.L s42).To).length) c61), .cell ⟨b100, 2, none⟩ (.slice A80 (((rd x1.L s42).To).length) c81)] hf1271 (by kernel_rfl) ⟨(hm1273.cell 1 rfl rfl), (hm1273.cell 0 rfl rfl), trivial⟩ fun a1274 hf1275 => ?_
      refine listOf hf1275 rfl (by kernel_rfl) (aCall (fid := 31) (args := [.slice A60 (((rd x0.L s42).To).length) c61, .slice A80 (((rd x1.L s42).To).length) c81]) (d := 58) hf1275 (by kernel_rfl) (by kernel_rfl) callable31 (ref1_SameInts.calls _ _ ((rd x0.L s42).To) A60 (((rd x0.L s42).To).length) c61 rfl ((rd x1.L s42).To) A80 (((rd x1.L s42).To).length) c81 rfl (hm1273.give [10, 5] [.sl (Kd.int .i64) A60 c61 ((rd x0.L s42).To), .sl (Kd.int .i64) A80 c81 ((rd x1.L s42).To)] rfl rfl) r950 hr950) ?_)
      rintro _ w1276 a1277 ⟨rfl, hk1279⟩ hf1278
      have hm1280 := hm1273.still hk1279.cum.none
      rw [c951] at hf1278
      refine go 19 [] [2, 3, 5, 6, 7, 77] [(2, .pointer (some ⟨b21, 0, none⟩)), (3, .pointer (some ⟨b28, 0, none⟩)), (5, .int .i64 s42), (6, .pointer (some ⟨b93, 0, none⟩)), (7, .pointer (some ⟨b100, 0, none⟩)), (77, .bool true)] [] hf1278 (by kernel_rfl) trivial fun a1281 hf1282 => ?_
      refine endL rfl ?_
      refine thenN ?_
      refine condT hf1282 (by kernel_rfl) ?_
      refine wp_seq ?_
      refine reg [] [4] [(4, .bool false)] [] hf1282 (by kernel_rfl) trivial fun a1283 hf1284 => ?_
      have hm1285 := hm1280.sel [] _ rfl (by kernel_rfl)
      refine thenN ?_
      refine wp_ret ?_
      refine thenR ?_
      refine blkR ?_
      refine thenR ?_
      refine thenR ?_
      refine .inr ⟨rfl, ?_⟩
      refine thenR ?_
      have hm1286 : Mem [] M w0 [] w1276 := hm1285.sel [] _ rfl (by kernel_rfl)
      obtain rfl := Option.some.inj H1
      obtain rfl := Option.some.inj H0
      refine ret [] [.bool false] [] hf1284 (by kernel_rfl) trivial ?_
      exact ⟨_, rfl, rfl, hm1286⟩
    obtain ⟨r952, hr952, H1⟩ := obS_split H1
    rcases ifbS_split H1 with ⟨c953, H1⟩ | ⟨c953, H1⟩
    rotate_left
    · refine inReg ?_
      refine go 17 [.int .i64 ((rd x0.L s42).Op), .int .i64 ((rd x1.L s42).Op), .bool false, .int .i64 ((rd x0.L s42).No), .int .i64 ((rd x1.L s42).No), .bool false, .slice A58 (((rd x0.L s42).In).length) c59, .slice A78 (((rd x1.L s42).In).length) c79] [2, 3, 5, 6, 7, 45, 47, 49] [(2, .pointer (some ⟨b21, 0, none⟩)), (3, .pointer (some ⟨b28, 0, none⟩)), (5, .int .i64 s42), (6, .pointer (some ⟨b93, 0, none⟩)), (7, .pointer (some ⟨b100, 0, none⟩)), (45, .bool false), (47, .slice A58 (((rd x0.L s42).In).length) c59), (49, .slice A78 (((rd x1.L s42).In).length) c79)] [.cell ⟨b93, 0, none⟩ (.int .i64 ((rd x0.L s42).Op)), .cell ⟨b100, 0, none⟩ (.int .i64 ((rd x1.L s42).Op)), .is ((((rd x0.L s42).Op : Int) != (rd x1.L s42).Op) = false), .cell ⟨b93, 3, none⟩ (.int .i64 ((rd x0.L s42).No)), .cell ⟨b100, 3, none⟩ (.int .i64 ((rd x1.L s42).No)), .is ((((rd x0.L s42).No : Int) != (rd x1.L s42).No) = false), .cell ⟨b93, 1, none⟩ (.slice A58 (((rd x0.L s42).In).length) c59), .cell ⟨b100, 1, none⟩ (.slice A78 (((rd x1.L s42).In).length) c79)] hf944 (by kernel_rfl) ⟨(hm945.cell 1 rfl rfl), (hm945.cell 0 rfl rfl), (neF c946), (hm945.cell 1 rfl rfl), (hm945.cell 0 rfl rfl), (neF c947), (hm945.cell 1 rfl rfl), (hm945.cell 0 rfl rfl), trivial⟩ fun a1239 hf1240 => ?_
      refine listOf hf1240 rfl (by kernel_rfl) (aCall (fid := 31) (args := [.slice A58 (((rd x0.L s42).In).length) c59, .slice A78 (((rd x1.L s42).In).length) c79]) (d := 50) hf1240 (by kernel_rfl) (by kernel_rfl) callable31 (ref1_SameInts.calls _ _ ((rd x0.L s42).In) A58 (((rd x0.L s42).In).length) c59 rfl ((rd x1.L s42).In) A78 (((rd x1.L s42).In).length) c79 rfl (hm945.give [11, 6] [.sl (Kd.int .i64) A58 c59 ((rd x0.L s42).In), .sl (Kd.int .i64) A78 c79 ((rd x1.L s42).In)] rfl rfl) r948 hr948) ?_)
      rintro _ w1241 a1242 ⟨rfl, hk1244⟩ hf1243
      have hm1245 := hm945.still hk1244.cum.none
      rw [c949] at hf1243
      refine go 7 [.slice A60 (((rd x0.L s42).To).length) c61, .slice A80 (((rd x1.L s42).To).length) c81] [2, 3, 5, 6, 7, 53, 55, 57] [(2, .pointer (some ⟨b21, 0, none⟩)), (3, .pointer (some ⟨b28, 0, none⟩)), (5, .int .i64 s42), (6, .pointer (some ⟨b93, 0, none⟩)), (7, .pointer (some ⟨b100, 0, none⟩)), (53, .bool false), (55, .slice A60 (((rd x0.L s42).To).length) c61), (57, .slice A80 (((rd x1.L s42).To).length) c81)] [.cell ⟨b93, 2, none⟩ (.slice A60 (((rd x0.L s42).To).length) c61), .cell ⟨b100, 2, none⟩ (.slice A80 (((rd x1.L s42).To).length) c81)] hf1243 (by kernel_rfl) ⟨(hm1245.cell 1 rfl rfl), (hm1245.cell 0 rfl rfl), trivial⟩ fun a1246 hf1247 => ?_
      refine listOf hf1247 rfl (by kernel_rfl) (aCall (fid := 31) (args := [.slice A60 (((rd x0.L s42).To).length) c61, .slice A80 (((rd x1.L s42).To).length) c81]) (d := 58) hf1247 (by kernel_rfl) (by kernel_rfl) callable31 (ref1_SameInts.calls _ _ ((rd x0.L s42).To) A60 (((rd x0.L s42).To).length) c61 rfl ((rd x1.L s42).To) A80 (((rd x1.L s42).To).length) c81 rfl (hm1245.give [10, 5] [.sl (Kd.int .i64) A60 c61 ((rd x0.L s42).To), .sl (Kd.int .i64) A80 c81 ((rd x1.L s42).To)] rfl rfl) r950 hr950) ?_)
      rintro _ w1248 a1249 ⟨rfl, hk1251⟩ hf1250
      have hm1252 := hm1245.still hk1251.cum.none
      rw [c951] at hf1250
      refine go 7 [.agg #[.slice A62 ((((rd x0.L s42).Val).Shape).length) c63, .slice A65 ((((rd x0.L s42).Val).Data).length) c66], .agg #[.slice A82 ((((rd x1.L s42).Val).Shape).length) c83, .slice A84 ((((rd x1.L s42).Val).Data).length) c85]] [2, 3, 5, 6, 7, 61, 63, 65] [(2, .pointer (some ⟨b21, 0, none⟩)), (3, .pointer (some ⟨b28, 0, none⟩)), (5, .int .i64 s42), (6, .pointer (some ⟨b93, 0, none⟩)), (7, .pointer (some ⟨b100, 0, none⟩)), (61, .bool false), (63, .agg #[.slice A62 ((((rd x0.L s42).Val).Shape).length) c63, .slice A65 ((((rd x0.L s42).Val).Data).length) c66]), (65, .agg #[.slice A82 ((((rd x1.L s42).Val).Shape).length) c83, .slice A84 ((((rd x1.L s42).Val).Data).length) c85])] [.cell ⟨b93, 4, none⟩ (.slice A62 ((((rd x0.L s42).Val).Shape).length) c63), .cell ⟨b93, 5, none⟩ (.slice A65 ((((rd x0.L s42).Val).Data).length) c66), .cell ⟨b100, 4, none⟩ (.slice A82 ((((rd x1.L s42).Val).Shape).length) c83), .cell ⟨b100, 5, none⟩ (.slice A84 ((((rd x1.L s42).Val).Data).length) c85)] hf1250 (by kernel_rfl) ⟨(hm1252.cell 1 rfl rfl), (hm1252.cell 1 rfl rfl), (hm1252.cell 0 rfl rfl), (hm1252.cell 0 rfl rfl), trivial⟩ fun a1253 hf1254 => ?_
      refine listOf hf1254 rfl (by kernel_rfl) (aCall (fid := 32) (args := [.agg #[.slice A62 ((((rd x0.L s42).Val).Shape).length) c63, .slice A65 ((((rd x0.L s42).Val).Data).length) c66], .agg #[.slice A82 ((((rd x1.L s42).Val).Shape).length) c83, .slice A84 ((((rd x1.L s42).Val).Data).length) c85]]) (d := 66) hf1254 (by kernel_rfl) (by kernel_rfl) callable32 (ref1_SameTensor.calls _ _ (⟨(((rd x0.L s42).Val).Shape), (((rd x0.L s42).Val).Data)⟩ : Tensor) A62 ((((rd x0.L s42).Val).Shape).length) c63 rfl A65 ((((rd x0.L s42).Val).Data).length) c66 rfl (⟨(((rd x1.L s42).Val).Shape), (((rd x1.L s42).Val).Data)⟩ : Tensor) A82 ((((rd x1.L s42).Val).Shape).length) c83 rfl A84 ((((rd x1.L s42).Val).Data).length) c85 rfl (hm1252.give [9, 8, 4, 3] [.sl (Kd.int .i64) A62 c63 (((rd x0.L s42).Val).Shape), .sl Kd.float A65 c66 (((rd x0.L s42).Val).Data), .sl (Kd.int .i64) A82 c83 (((rd x1.L s42).Val).Shape), .sl Kd.float A84 c85 (((rd x1.L s42).Val).Data)] rfl rfl) r952 hr952) ?_)
      rintro _ w1255 a1256 ⟨rfl, hk1258⟩ hf1257
      have hm1259 := hm1252.still hk1258.cum.none
      rw [c953] at hf1257
      refine go 11 [] [2, 3, 5, 6, 7, 77] [(2, .pointer (some ⟨b21, 0, none⟩)), (3, .pointer (some ⟨b28, 0, none⟩)), (5, .int .i64 s42), (6, .pointer (some ⟨b93, 0, none⟩)), (7, .pointer (some ⟨b100, 0, none⟩)), (77, .bool true)] [] hf1257 (by kernel_rfl) trivial fun a1260 hf1261 => ?_
      refine endL rfl ?_
      refine thenN ?_
      refine condT hf1261 (by kernel_rfl) ?_
      refine wp_seq ?_
      refine reg [] [4] [(4, .bool false)] [] hf1261 (by kernel_rfl) trivial fun a1262 hf1263 => ?_
      have hm1264 := hm1259.sel [] _ rfl (by kernel_rfl)
      refine thenN ?_
      refine wp_ret ?_
      refine thenR ?_
      refine blkR ?_
      refine thenR ?_
      refine thenR ?_
      refine .inr ⟨rfl, ?_⟩
      refine thenR ?_
      have hm1265 : Mem [] M w0 [] w1255 := hm1264.sel [] _ rfl (by kernel_rfl)
      obtain rfl := Option.some.inj H1
      obtain rfl := Option.some.inj H0
      refine ret [] [.bool false] [] hf1263 (by kernel_rfl) trivial ?_
      exact ⟨_, rfl, rfl, hm1265⟩
    rcases ifS_split H1 with ⟨c954, H1⟩ | ⟨c954, H1⟩
    rotate_left
    · refine inReg ?_
      refine go 17 [.int .i64 ((rd x0.L s42).Op), .int .i64 ((rd x1.L s42).Op), .bool false, .int .i64 ((rd x0.L s42).No), .int .i64 ((rd x1.L s42).No), .bool false, .slice A58 (((rd x0.L s42).In).length) c59, .slice A78 (((rd x1.L s42).In).length) c79] [2, 3, 5, 6, 7, 45, 47, 49] [(2, .pointer (some ⟨b21, 0, none⟩)), (3, .pointer (some ⟨b28, 0, none⟩)), (5, .int .i64 s42), (6, .pointer (some ⟨b93, 0, none⟩)), (7, .pointer (some ⟨b100, 0, none⟩)), (45, .bool false), (47, .slice A58 (((rd x0.L s42).In).length) c59), (49, .slice A78 (((rd x1.L s42).In).length) c79)] [.cell ⟨b93, 0, none⟩ (.int .i64 ((rd x0.L s42).Op)), .cell ⟨b100, 0, none⟩ (.int .i64 ((rd x1.L s42).Op)), .is ((((rd x0.L s42).Op : Int) != (rd x1.L s42).Op) = false), .cell ⟨b93, 3, none⟩ (.int .i64 ((rd x0.L s42).No)), .cell ⟨b100, 3, none⟩ (.int .i64 ((rd x1.L s42).No)), .is ((((rd x0.L s42).No : Int) != (rd x1.L s42).No) = false), .cell ⟨b93, 1, none⟩ (.slice A58 (((rd x0.L s42).In).length) c59), .cell ⟨b100, 1, none⟩ (.slice A78 (((rd x1.L s42).In).length) c79)] hf944 (by kernel_rfl) ⟨(hm945.cell 1 rfl rfl), (hm945.cell 0 rfl rfl), (neF c946), (hm945.cell 1 rfl rfl), (hm945.cell 0 rfl rfl), (neF c947), (hm945.cell 1 rfl rfl), (hm945.cell 0 rfl rfl), trivial⟩ fun a1211 hf1212 => ?_
      refine listOf hf1212 rfl (by kernel_rfl) (aCall (fid := 31) (args := [.slice A58 (((rd x0.L s42).In).length) c59, .slice A78 (((rd x1.L s42).In).length) c79]) (d := 50) hf1212 (by kernel_rfl) (by kernel_rfl) callable31 (ref1_SameInts.calls _ _ ((rd x0.L s42).In) A58 (((rd x0.L s42).In).length) c59 rfl ((rd x1.L s42).In) A78 (((rd x1.L s42).In).length) c79 rfl (hm945.give [11, 6] [.sl (Kd.int .i64) A58 c59 ((rd x0.L s42).In), .sl (Kd.int .i64) A78 c79 ((rd x1.L s42).In)] rfl rfl) r948 hr948) ?_)
      rintro _ w1213 a1214 ⟨rfl, hk1216⟩ hf1215
      have hm1217 := hm945.still hk1216.cum.none
      rw [c949] at hf1215
      refine go 7 [.slice A60 (((rd x0.L s42).To).length) c61, .slice A80 (((rd x1.L s42).To).length) c81] [2, 3, 5, 6, 7, 53, 55, 57] [(2, .pointer (some ⟨b21, 0, none⟩)), (3, .pointer (some ⟨b28, 0, none⟩)), (5, .int .i64 s42), (6, .pointer (some ⟨b93, 0, none⟩)), (7, .pointer (some ⟨b100, 0, none⟩)), (53, .bool false), (55, .slice A60 (((rd x0.L s42).To).length) c61), (57, .slice A80 (((rd x1.L s42).To).length) c81)] [.cell ⟨b93, 2, none⟩ (.slice A60 (((rd x0.L s42).To).length) c61), .cell ⟨b100, 2, none⟩ (.slice A80 (((rd x1.L s42).To).length) c81)] hf1215 (by kernel_rfl) ⟨(hm1217.cell 1 rfl rfl), (hm1217.cell 0 rfl rfl), trivial⟩ fun a1218 hf1219 => ?_
      refine listOf hf1219 rfl (by kernel_rfl) (aCall (fid := 31) (args := [.slice A60 (((rd x0.L s42).To).length) c61, .slice A80 (((rd x1.L s42).To).length) c81]) (d := 58) hf1219 (by kernel_rfl) (by kernel_rfl) callable31 (ref1_SameInts.calls _ _ ((rd x0.L s42).To) A60 (((rd x0.L s42).To).length) c61 rfl ((rd x1.L s42).To) A80 (((rd x1.L s42).To).length) c81 rfl (hm1217.give [10, 5] [.sl (Kd.int .i64) A60 c61 ((rd x0.L s42).To), .sl (Kd.int .i64) A80 c81 ((rd x1.L s42).To)] rfl rfl) r950 hr950) ?_)
      rintro _ w1220 a1221 ⟨rfl, hk1223⟩ hf1222
      have hm1224 := hm1217.still hk1223.cum.none
      rw [c951] at hf1222
      refine go 7 [.agg #[.slice A62 ((((rd x0.L s42).Val).Shape).length) c63, .slice A65 ((((rd x0.L s42).Val).Data).length) c66], .agg #[.slice A82 ((((rd x1.L s42).Val).Shape).length) c83, .slice A84 ((((rd x1.L s42).Val).Data).length) c85]] [2, 3, 5, 6, 7, 61, 63, 65] [(2, .pointer (some ⟨b21, 0, none⟩)), (3, .pointer (some ⟨b28, 0, none⟩)), (5, .int .i64 s42), (6, .pointer (some ⟨b93, 0, none⟩)), (7, .pointer (some ⟨b100, 0, none⟩)), (61, .bool false), (63, .agg #[.slice A62 ((((rd x0.L s42).Val).Shape).length) c63, .slice A65 ((((rd x0.L s42).Val).Data).length) c66]), (65, .agg #[.slice A82 ((((rd x1.L s42).Val).Shape).length) c83, .slice A84 ((((rd x1.L s42).Val).Data).length) c85])] [.cell ⟨b93, 4, none⟩ (.slice A62 ((((rd x0.L s42).Val).Shape).length) c63), .cell ⟨b93, 5, none⟩ (.slice A65 ((((rd x0.L s42).Val).Data).length) c66), .cell ⟨b100, 4, none⟩ (.slice A82 ((((rd x1.L s42).Val).Shape).length) c83), .cell ⟨b100, 5, none⟩ (.slice A84 ((((rd x1.L s42).Val).Data).length) c85)] hf1222 (by kernel_rfl) ⟨(hm1224.cell 1 rfl rfl), (hm1224.cell 1 rfl rfl), (hm1224.cell 0 rfl rfl), (hm1224.cell 0 rfl rfl), trivial⟩ fun a1225 hf1226 => ?_
      refine listOf hf1226 rfl (by kernel_rfl) (aCall (fid := 32) (args := [.agg #[.slice A62 ((((rd x0.L s42).Val).Shape).length) c63, .slice A65 ((((rd x0.L s42).Val).Data).length) c66], .agg #[.slice A82 ((((rd x1.L s42).Val).Shape).length) c83, .slice A84 ((((rd x1.L s42).Val).Data).length) c85]]) (d := 66) hf1226 (by kernel_rfl) (by kernel_rfl) callable32 (ref1_SameTensor.calls _ _ (⟨(((rd x0.L s42).Val).Shape), (((rd x0.L s42).Val).Data)⟩ : Tensor) A62 ((((rd x0.L s42).Val).Shape).length) c63 rfl A65 ((((rd x0.L s42).Val).Data).length) c66 rfl (⟨(((rd x1.L s42).Val).Shape), (((rd x1.L s42).Val).Data)⟩ : Tensor) A82 ((((rd x1.L s42).Val).Shape).length) c83 rfl A84 ((((rd x1.L s42).Val).Data).length) c85 rfl (hm1224.give [9, 8, 4, 3] [.sl (Kd.int .i64) A62 c63 (((rd x0.L s42).Val).Shape), .sl Kd.float A65 c66 (((rd x0.L s42).Val).Data), .sl (Kd.int .i64) A82 c83 (((rd x1.L s42).Val).Shape), .sl Kd.float A84 c85 (((rd x1.L s42).Val).Data)] rfl rfl) r952 hr952) ?_)
      rintro _ w1227 a1228 ⟨rfl, hk1230⟩ hf1229
      have hm1231 := hm1224.still hk1230.cum.none
      rw [c953] at hf1229
      refine go 11 [.slice A67 (((rd x0.L s42).Hooks).length) c68, .slice A86 (((rd x1.L s42).Hooks).length) c87, .bool true] [2, 3, 5, 6, 7, 77] [(2, .pointer (some ⟨b21, 0, none⟩)), (3, .pointer (some ⟨b28, 0, none⟩)), (5, .int .i64 s42), (6, .pointer (some ⟨b93, 0, none⟩)), (7, .pointer (some ⟨b100, 0, none⟩)), (77, .bool true)] [.cell ⟨b93, 6, none⟩ (.slice A67 (((rd x0.L s42).Hooks).length) c68), .cell ⟨b100, 6, none⟩ (.slice A86 (((rd x1.L s42).Hooks).length) c87), .is (((((((rd x0.L s42).Hooks).length : Nat) : Int) : Int) != ((((rd x1.L s42).Hooks).length : Nat) : Int)) = true)] hf1229 (by kernel_rfl) ⟨(hm1231.cell 1 rfl rfl), (hm1231.cell 0 rfl rfl), (neT c954), trivial⟩ fun a1232 hf1233 => ?_
      refine endL rfl ?_
      refine thenN ?_
      refine condT hf1233 (by kernel_rfl) ?_
      refine wp_seq ?_
      refine reg [] [4] [(4, .bool false)] [] hf1233 (by kernel_rfl) trivial fun a1234 hf1235 => ?_
      have hm1236 := hm1231.sel [] _ rfl (by kernel_rfl)
      refine thenN ?_
      refine wp_ret ?_
      refine thenR ?_
      refine blkR ?_
      refine thenR ?_
      refine thenR ?_
      refine .inr ⟨rfl, ?_⟩
      refine thenR ?_
      have hm1237 : Mem [] M w0 [] w1227 := hm1236.sel [] _ rfl (by kernel_rfl)
      obtain rfl := Option.some.inj H1
      obtain rfl := Option.some.inj H0
      refine ret [] [.bool false] [] hf1235 (by kernel_rfl) trivial ?_
      exact ⟨_, rfl, rfl, hm1237⟩
    refine inReg ?_
    refine go 17 [.int .i64 ((rd x0.L s42).Op), .int .i64 ((rd x1.L s42).Op), .bool false, .int .i64 ((rd x0.L s42).No), .int .i64 ((rd x1.L s42).No), .bool false, .slice A58 (((rd x0.L s42).In).length) c59, .slice A78 (((rd x1.L s42).In).length) c79] [2, 3, 5, 6, 7, 45, 47, 49] [(2, .pointer (some ⟨b21, 0, none⟩)), (3, .pointer (some ⟨b28, 0, none⟩)), (5, .int .i64 s42), (6, .pointer (some ⟨b93, 0, none⟩)), (7, .pointer (some ⟨b100, 0, none⟩)), (45, .bool false), (47, .slice A58 (((rd x0.L s42).In).length) c59), (49, .slice A78 (((rd x1.L s42).In).length) c79)] [.cell ⟨b93, 0, none⟩ (.int .i64 ((rd x0.L s42).Op)), .cell ⟨b100, 0, none⟩ (.int .i64 ((rd x1.L s42).Op)), .is ((((rd x0.L s42).Op : Int) != (rd x1.L s42).Op) = false), .cell ⟨b93, 3, none⟩ (.int .i64 ((rd x0.L s42).No)), .cell ⟨b100, 3, none⟩ (.int .i64 ((rd x1.L s42).No)), .is ((((rd x0.L s42).No : Int) != (rd x1.L s42).No) = false), .cell ⟨b93, 1, none⟩ (.slice A58 (((rd x0.L s42).In).length) c59), .cell ⟨b100, 1, none⟩ (.slice A78 (((rd x1.L s42).In).length) c79)] hf944 (by kernel_rfl) ⟨(hm945.cell 1 rfl rfl), (hm945.cell 0 rfl rfl), (neF c946), (hm945.cell 1 rfl rfl), (hm945.cell 0 rfl rfl), (neF c947), (hm945.cell 1 rfl rfl), (hm945.cell 0 rfl rfl), trivial⟩ fun a955 hf956 => ?_
    refine listOf hf956 rfl (by kernel_rfl) (aCall (fid := 31) (args := [.slice A58 (((rd x0.L s42).In).length) c59, .slice A78 (((rd x1.L s42).In).length) c79]) (d := 50) hf956 (by kernel_rfl) (by kernel_rfl) callable31 (ref1_SameInts.calls _ _ ((rd x0.L s42).In) A58 (((rd x0.L s42).In).length) c59 rfl ((rd x1.L s42).In) A78 (((rd x1.L s42).In).length) c79 rfl (hm945.give [11, 6] [.sl (Kd.int .i64) A58 c59 ((rd x0.L s42).In), .sl (Kd.int .i64) A78 c79 ((rd x1.L s42).In)] rfl rfl) r948 hr948) ?_)
    rintro _ w957 a958 ⟨rfl, hk960⟩ hf959
    have hm961 := hm945.still hk960.cum.none
    rw [c949] at hf959
    refine go 7 [.slice A60 (((rd x0.L s42).To).length) c61, .slice A80 (((rd x1.L s42).To).length) c81] [2, 3, 5, 6, 7, 53, 55, 57] [(2, .pointer (some ⟨b21, 0, none⟩)), (3, .pointer (some ⟨b28, 0, none⟩)), (5, .int .i64 s42), (6, .pointer (some ⟨b93, 0, none⟩)), (7, .pointer (some ⟨b100, 0, none⟩)), (53, .bool false), (55, .slice A60 (((rd x0.L s42).To).length) c61), (57, .slice A80 (((rd x1.L s42).To).length) c81)] [.cell ⟨b93, 2, none⟩ (.slice A60 (((rd x0.L s42).To).length) c61), .cell ⟨b100, 2, none⟩ (.slice A80 (((rd x1.L s42).To).length) c81)] hf959 (by kernel_rfl) ⟨(hm961.cell 1 rfl rfl), (hm961.cell 0 rfl rfl), trivial⟩ fun a962 hf963 => ?_
    refine listOf hf963 rfl (by kernel_rfl) (aCall (fid := 31) (args := [.slice A60 (((rd x0.L s42).To).length) c61, .slice A80 (((rd x1.L s42).To).length) c81]) (d := 58) hf963 (by kernel_rfl) (by kernel_rfl) callable31 (ref1_SameInts.calls _ _ ((rd x0.L s42).To) A60 (((rd x0.L s42).To).length) c61 rfl ((rd x1.L s42).To) A80 (((rd x1.L s42).To).length) c81 rfl (hm961.give [10, 5] [.sl (Kd.int .i64) A60 c61 ((rd x0.L s42).To), .sl (Kd.int .i64) A80 c81 ((rd x1.L s42).To)] rfl rfl) r950 hr950) ?_)
    rintro _ w964 a965 ⟨rfl, hk967⟩ hf966
    have hm968 := hm961.still hk967.cum.none
    rw [c951] at hf966
    refine go 7 [.agg #[.slice A62 ((((rd x0.L s42).Val).Shape).length) c63, .slice A65 ((((rd x0.L s42).Val).Data).length) c66], .agg #[.slice A82 ((((rd x1.L s42).Val).Shape).length) c83, .slice A84 ((((rd x1.L s42).Val).Data).length) c85]] [2, 3, 5, 6, 7, 61, 63, 65] [(2, .pointer (some ⟨b21, 0, none⟩)), (3, .pointer (some ⟨b28, 0, none⟩)), (5, .int .i64 s42), (6, .pointer (some ⟨b93, 0, none⟩)), (7, .pointer (some ⟨b100, 0, none⟩)), (61, .bool false), (63, .agg #[.slice A62 ((((rd x0.L s42).Val).Shape).length) c63, .slice A65 ((((rd x0.L s42).Val).Data).length) c66]), (65, .agg #[.slice A82 ((((rd x1.L s42).Val).Shape).length) c83, .slice A84 ((((rd x1.L s42).Val).Data).length) c85])] [.cell ⟨b93, 4, none⟩ (.slice A62 ((((rd x0.L s42).Val).Shape).length) c63), .cell ⟨b93, 5, none⟩ (.slice A65 ((((rd x0.L s42).Val).Data).length) c66), .cell ⟨b100, 4, none⟩ (.slice A82 ((((rd x1.L s42).Val).Shape).length) c83), .cell ⟨b100, 5, none⟩ (.slice A84 ((((rd x1.L s42).Val).Data).length) c85)] hf966 (by kernel_rfl) ⟨(hm968.cell 1 rfl rfl), (hm968.cell 1 rfl rfl), (hm968.cell 0 rfl rfl), (hm968.cell 0 rfl rfl), trivial⟩ fun a969 hf970 => ?_
    refine listOf hf970 rfl (by kernel_rfl) (aCall (fid := 32) (args := [.agg #[.slice A62 ((((rd x0.L s42).Val).Shape).length) c63, .slice A65 ((((rd x0.L s42).Val).Data).length) c66], .agg #[.slice A82 ((((rd x1.L s42).Val).Shape).length) c83, .slice A84 ((((rd x1.L s42).Val).Data).length) c85]]) (d := 66) hf970 (by kernel_rfl) (by kernel_rfl) callable32 (ref1_SameTensor.calls _ _ (⟨(((rd x0.L s42).Val).Shape), (((rd x0.L s42).Val).Data)⟩ : Tensor) A62 ((((rd x0.L s42).Val).Shape).length) c63 rfl A65 ((((rd x0.L s42).Val).Data).length) c66 rfl (⟨(((rd x1.L s42).Val).Shape), (((rd x1.L s42).Val).Data)⟩ : Tensor) A82 ((((rd x1.L s42).Val).Shape).length) c83 rfl A84 ((((rd x1.L s42).Val).Data).length) c85 rfl (hm968.give [9, 8, 4, 3] [.sl (Kd.int .i64) A62 c63 (((rd x0.L s42).Val).Shape), .sl Kd.float A65 c66 (((rd x0.L s42).Val).Data), .sl (Kd.int .i64) A82 c83 (((rd x1.L s42).Val).Shape), .sl Kd.float A84 c85 (((rd x1.L s42).Val).Data)] rfl rfl) r952 hr952) ?_)
    rintro _ w971 a972 ⟨rfl, hk974⟩ hf973
    have hm975 := hm968.still hk974.cum.none
    rw [c953] at hf973
    refine go 11 [.slice A67 (((rd x0.L s42).Hooks).length) c68, .slice A86 (((rd x1.L s42).Hooks).length) c87, .bool false] [2, 3, 5, 6, 7, 77] [(2, .pointer (some ⟨b21, 0, none⟩)), (3, .pointer (some ⟨b28, 0, none⟩)), (5, .int .i64 s42), (6, .pointer (some ⟨b93, 0, none⟩)), (7, .pointer (some ⟨b100, 0, none⟩)), (77, .bool false)] [.cell ⟨b93, 6, none⟩ (.slice A67 (((rd x0.L s42).Hooks).length) c68), .cell ⟨b100, 6, none⟩ (.slice A86 (((rd x1.L s42).Hooks).length) c87), .is (((((((rd x0.L s42).Hooks).length : Nat) : Int) : Int) != ((((rd x1.L s42).Hooks).length : Nat) : Int)) = false)] hf973 (by kernel_rfl) ⟨(hm975.cell 1 rfl rfl), (hm975.cell 0 rfl rfl), (neF c954), trivial⟩ fun a976 hf977 => ?_
    refine endL rfl ?_
    refine thenN ?_
    refine condF hf977 (by kernel_rfl) ?_
    refine wp_skip ?_
    refine thenN ?_
    refine wp_seq ?_
    refine reg [] [2, 3, 5, 6, 7, 8] [(2, .pointer (some ⟨b21, 0, none⟩)), (3, .pointer (some ⟨b28, 0, none⟩)), (5, .int .i64 s42), (6, .pointer (some ⟨b93, 0, none⟩)), (7, .pointer (some ⟨b100, 0, none⟩)), (8, .int .i64 0)] [] hf977 (by kernel_rfl) trivial fun a978 hf979 => ?_
    refine thenN ?_
    obtain ⟨r981, hr981, H1⟩ := obS_split H1
    refine wpBlock (Mid := fun (a : Act) (w : World) => ∃ yr981 : Int, r981 = .go yr981 ∧ Fr 114 a [(2, .pointer (some ⟨b21, 0, none⟩)), (3, .pointer (some ⟨b28, 0, none⟩)), (5, .int .i64 s42), (6, .pointer (some ⟨b93, 0, none⟩)), (7, .pointer (some ⟨b100, 0, none⟩)), (8, .int .i64 yr981)] ∧ Mem [] M w0 [.bx b100 [.int .i64 ((rd x1.L s42).Op), .slice A78 (((rd x1.L s42).In).length) c79, .slice A80 (((rd x1.L s42).To).length) c81, .int .i64 ((rd x1.L s42).No), .slice A82 ((((rd x1.L s42).Val).Shape).length) c83, .slice A84 ((((rd x1.L s42).Val).Data).length) c85, .slice A86 (((rd x1.L s42).Hooks).length) c87] 49, .bx b93 [.int .i64 ((rd x0.L s42).Op), .slice A58 (((rd x0.L s42).In).length) c59, .slice A60 (((rd x0.L s42).To).length) c61, .int .i64 ((rd x0.L s42).No), .slice A62 ((((rd x0.L s42).Val).Shape).length) c63, .slice A65 ((((rd x0.L s42).Val).Data).length) c66, .slice A67 (((rd x0.L s42).Hooks).length) c68] 49, .sl kHook A86 c87 ((rd x1.L s42).Hooks), .sl Kd.float A84 c85 (((rd x1.L s42).Val).Data), .sl (Kd.int .i64) A82 c83 (((rd x1.L s42).Val).Shape), .sl (Kd.int .i64) A80 c81 ((rd x1.L s42).To), .sl (Kd.int .i64) A78 c79 ((rd x1.L s42).In), .sl kHook A67 c68 ((rd x0.L s42).Hooks), .sl Kd.float A65 c66 (((rd x0.L s42).Val).Data), .sl (Kd.int .i64) A62 c63 (((rd x0.L s42).Val).Shape), .sl (Kd.int .i64) A60 c61 ((rd x0.L s42).To), .sl (Kd.int .i64) A58 c59 ((rd x0.L s42).In), .bx b28 [.slice A1_0 x1.L.length c1_0] 24, .bx b21 [.slice A0_0 x0.L.length c0_0] 24, .sl kNode A0_0 c0_0 x0.L, .sl kNode A1_0 c1_0 x1.L] w) ?_ ?_
    · refine wpLoop (law24_same.l1 x0 s42 x1) r981 (fun (s980 : Int) (a : Act) (w : World) => Fr 114 a [(2, .pointer (some ⟨b21, 0, none⟩)), (3, .pointer (some ⟨b28, 0, none⟩)), (5, .int .i64 s42), (6, .pointer (some ⟨b93, 0, none⟩)), (7, .pointer (some ⟨b100, 0, none⟩)), (8, .int .i64 s980)] ∧ Mem [] M w0 [.bx b100 [.int .i64 ((rd x1.L s42).Op), .slice A78 (((rd x1.L s42).In).length) c79, .slice A80 (((rd x1.L s42).To).length) c81, .int .i64 ((rd x1.L s42).No), .slice A82 ((((rd x1.L s42).Val).Shape).length) c83, .slice A84 ((((rd x1.L s42).Val).Data).length) c85, .slice A86 (((rd x1.L s42).Hooks).length) c87] 49, .bx b93 [.int .i64 ((rd x0.L s42).Op), .slice A58 (((rd x0.L s42).In).length) c59, .slice A60 (((rd x0.L s42).To).length) c61, .int .i64 ((rd x0.L s42).No), .slice A62 ((((rd x0.L s42).Val).Shape).length) c63, .slice A65 ((((rd x0.L s42).Val).Data).length) c66, .slice A67 (((rd x0.L s42).Hooks).length) c68] 49, .sl kHook A86 c87 ((rd x1.L s42).Hooks), .sl Kd.float A84 c85 (((rd x1.L s42).Val).Data), .sl (Kd.int .i64) A82 c83 (((rd x1.L s42).Val).Shape), .sl (Kd.int .i64) A80 c81 ((rd x1.L s42).To), .sl (Kd.int .i64) A78 c79 ((rd x1.L s42).In), .sl kHook A67 c68 ((rd x0.L s42).Hooks), .sl Kd.float A65 c66 (((rd x0.L s42).Val).Data), .sl (Kd.int .i64) A62 c63 (((rd x0.L s42).Val).Shape), .sl (Kd.int .i64) A60 c61 ((rd x0.L s42).To), .sl (Kd.int .i64) A58 c59 ((rd x0.L s42).In), .bx b28 [.slice A1_0 x1.L.length c1_0] 24, .bx b21 [.slice A0_0 x0.L.length c0_0] 24, .sl kNode A0_0 c0_0 x0.L, .sl kNode A1_0 c1_0 x1.L] w) 0 hr981 ⟨hf979.sel (l := [2, 3, 5, 6, 7, 8]) (by kernel_rfl), hm975.sel [0, 1, 2, 3, 4, 5, 6, 7, 8, 9, 10, 11, 12, 13, 14, 15] _ rfl (by kernel_rfl)⟩ ?_
      rintro g982 s980 a983 w984 H2 ⟨hf985, hm986⟩
      unfold law24_same.l1 at H2
      refine wp_seq ?_
      refine wp_seq ?_
      rcases ifS_split H2 with ⟨c987, H2⟩ | ⟨c987, H2⟩
      rotate_left
      · refine reg [.slice A67 (((rd x0.L s42).Hooks).length) c68, .bool false] [2, 3, 5, 6, 7, 8, 82] [(2, .pointer (some ⟨b21, 0, none⟩)), (3, .pointer (some ⟨b28, 0, none⟩)), (5, .int .i64 s42), (6, .pointer (some ⟨b93, 0, none⟩)), (7, .pointer (some ⟨b100, 0, none⟩)), (8, .int .i64 s980), (82, .bool false)] [.cell ⟨b93, 6, none⟩ (.slice A67 (((rd x0.L s42).Hooks).length) c68), .is (decide (s980 < ((((rd x0.L s42).Hooks).length : Nat) : Int)) = false)] hf985 (by kernel_rfl) ⟨(hm986.cell 1 rfl rfl), (decide_eq_false c987), trivial⟩ fun a1202 hf1203 => ?_
        refine thenN ?_
        refine condF hf1203 (by kernel_rfl) ?_
        refine wp_exit ?_
        refine thenE ?_
        refine thenE ?_
        obtain rfl := Option.some.inj H2
        exact .inl ⟨rfl, s980, rfl, hf1203.sel (l := [2, 3, 5, 6, 7, 8]) (by kernel_rfl), hm986.sel [0, 1, 2, 3, 4, 5, 6, 7, 8, 9, 10, 11, 12, 13, 14, 15] _ rfl (by kernel_rfl)⟩
      refine reg [.slice A67 (((rd x0.L s42).Hooks).length) c68, .bool true] [2, 3, 5, 6, 7, 8, 82] [(2, .pointer (some ⟨b21, 0, none⟩)), (3, .pointer (some ⟨b28, 0, none⟩)), (5, .int .i64 s42), (6, .pointer (some ⟨b93, 0, none⟩)), (7, .pointer (some ⟨b100, 0, none⟩)), (8, .int .i64 s980), (82, .bool true)] [.cell ⟨b93, 6, none⟩ (.slice A67 (((rd x0.L s42).Hooks).length) c68), .is (decide (s980 < ((((rd x0.L s42).Hooks).length : Nat) : Int)) = true)] hf985 (by kernel_rfl) ⟨(hm986.cell 1 rfl rfl), (decide_eq_true c987), trivial⟩ fun a988 hf989 => ?_
      refine thenN ?_
      refine condT hf989 (by kernel_rfl) ?_
      refine wp_skip ?_
      refine thenN ?_
      refine wp_seq ?_
      refine wp_block ?_
      refine wp_seq ?_
      obtain ⟨g990, H2⟩ := ifS_guard H2
      obtain ⟨g991, H2⟩ := ifS_guard H2
      rcases ifS_split H2 with ⟨c992, H2⟩ | ⟨c992, H2⟩
      rotate_left
      · have q1182 := (hm986.slAt 7 rfl).get s980 g990.1 g990.2
        obtain ⟨us1183, hr1184, hc1185⟩ := q1182.2
        obtain ⟨b1186, rfl, hb1186⟩ := kHook.open hr1184
        have q1187 := (hm986.slAt 2 rfl).get s980 g991.1 g991.2
        obtain ⟨us1188, hr1189, hc1190⟩ := q1187.2
        obtain ⟨b1191, rfl, hb1191⟩ := kHook.open hr1189
        refine regQ [.slice A67 (((rd x0.L s42).Hooks).length) c68, .int .i64 ((rd ((rd x0.L s42).Hooks) s980).Do), .slice A86 (((rd x1.L s42).Hooks).length) c87, .int .i64 ((rd ((rd x1.L s42).Hooks) s980).Do), .bool true] [2, 3, 5, 6, 7, 8, 113] [(2, .pointer (some ⟨b21, 0, none⟩)), (3, .pointer (some ⟨b28, 0, none⟩)), (5, .int .i64 s42), (6, .pointer (some ⟨b93, 0, none⟩)), (7, .pointer (some ⟨b100, 0, none⟩)), (8, .int .i64 s980), (113, .bool true)] [.cell ⟨b93, 6, none⟩ (.slice A67 (((rd x0.L s42).Hooks).length) c68), .is (Option.isSome A67 = true), .is (0 ≤ s980 ∧ s980 < ((((rd x0.L s42).Hooks).length : Nat) : Int)), .cell ((ad A67).add ((s980).toNat * 2)) (.int .i64 ((rd ((rd x0.L s42).Hooks) s980).Do)), .cell ⟨b100, 6, none⟩ (.slice A86 (((rd x1.L s42).Hooks).length) c87), .is (Option.isSome A86 = true), .is (0 ≤ s980 ∧ s980 < ((((rd x1.L s42).Hooks).length : Nat) : Int)), .cell ((ad A86).add ((s980).toNat * 2)) (.int .i64 ((rd ((rd x1.L s42).Hooks) s980).Do)), .is ((((rd ((rd x0.L s42).Hooks) s980).Do : Int) != (rd ((rd x1.L s42).Hooks) s980).Do) = true)] (by kernel_rfl) (by kernel_rfl) hf989 (by kernel_rfl) ⟨(hm986.cell 1 rfl rfl), q1182.1, g990, (hc1185 0 _ rfl), (hm986.cell 0 rfl rfl), q1187.1, g991, (hc1190 0 _ rfl), (neT c992), trivial⟩ fun a1192 w1194 hf1193 hg1195 => ?_
        have hm1196 := hm986.still hg1195
        refine thenN ?_
        refine condT hf1193 (by kernel_rfl) ?_
        refine wp_seq ?_
        refine reg [] [4] [(4, .bool false)] [] hf1193 (by kernel_rfl) trivial fun a1197 hf1198 => ?_
        have hm1199 := hm1196.sel [] _ rfl (by kernel_rfl)
        refine thenN ?_
        refine wp_ret ?_
        refine blkR ?_
        refine thenR ?_
        refine thenR ?_
        refine .inr ⟨rfl, ?_⟩
        refine blkR ?_
        refine thenR ?_
        refine thenR ?_
        refine .inr ⟨rfl, ?_⟩
        refine thenR ?_
        have hm1200 : Mem [] M w0 [] w1194 := hm1199.sel [] _ rfl (by kernel_rfl)
        obtain rfl := Option.some.inj H2
        obtain rfl := Option.some.inj H1
        obtain rfl := Option.some.inj H0
        refine ret [] [.bool false] [] hf1198 (by kernel_rfl) trivial ?_
        exact ⟨_, rfl, rfl, hm1200⟩
      obtain ⟨r993, hr993, H2⟩ := obS_split H2
      rcases ifbS_split H2 with ⟨c994, H2⟩ | ⟨c994, H2⟩
      · refine midReg (fun (a : Act) (w : World) => Fr 114 a [(2, .pointer (some ⟨b21, 0, none⟩)), (3, .pointer (some ⟨b28, 0, none⟩)), (5, .int .i64 s42), (6, .pointer (some ⟨b93, 0, none⟩)), (7, .pointer (some ⟨b100, 0, none⟩)), (8, .int .i64 s980), (113, .bool false)] ∧ Mem [] M w0 [.bx b100 [.int .i64 ((rd x1.L s42).Op), .slice A78 (((rd x1.L s42).In).length) c79, .slice A80 (((rd x1.L s42).To).length) c81, .int .i64 ((rd x1.L s42).No), .slice A82 ((((rd x1.L s42).Val).Shape).length) c83, .slice A84 ((((rd x1.L s42).Val).Data).length) c85, .slice A86 (((rd x1.L s42).Hooks).length) c87] 49, .bx b93 [.int .i64 ((rd x0.L s42).Op), .slice A58 (((rd x0.L s42).In).length) c59, .slice A60 (((rd x0.L s42).To).length) c61, .int .i64 ((rd x0.L s42).No), .slice A62 ((((rd x0.L s42).Val).Shape).length) c63, .slice A65 ((((rd x0.L s42).Val).Data).length) c66, .slice A67 (((rd x0.L s42).Hooks).length) c68] 49, .sl kHook A86 c87 ((rd x1.L s42).Hooks), .sl Kd.float A84 c85 (((rd x1.L s42).Val).Data), .sl (Kd.int .i64) A82 c83 (((rd x1.L s42).Val).Shape), .sl (Kd.int .i64) A80 c81 ((rd x1.L s42).To), .sl (Kd.int .i64) A78 c79 ((rd x1.L s42).In), .sl kHook A67 c68 ((rd x0.L s42).Hooks), .sl Kd.float A65 c66 (((rd x0.L s42).Val).Data), .sl (Kd.int .i64) A62 c63 (((rd x0.L s42).Val).Shape), .sl (Kd.int .i64) A60 c61 ((rd x0.L s42).To), .sl (Kd.int .i64) A58 c59 ((rd x0.L s42).In), .bx b28 [.slice A1_0 x1.L.length c1_0] 24, .bx b21 [.slice A0_0 x0.L.length c0_0] 24, .sl kNode A0_0 c0_0 x0.L, .sl kNode A1_0 c1_0 x1.L] w) ?_ ?_
        · refine anyG (K := []) [] (by kernel_rfl) fun w1020 hg1021 => ?_
          have hm1022 := hm986.still hg1021
          have q1052 := (hm1022.slAt 7 rfl).get s980 g990.1 g990.2
          obtain ⟨us1053, hr1054, hc1055⟩ := q1052.2
          obtain ⟨b1056, rfl, hb1056⟩ := kHook.open hr1054
          have q1057 := (hm1022.slAt 2 rfl).get s980 g991.1 g991.2
          obtain ⟨us1058, hr1059, hc1060⟩ := q1057.2
          obtain ⟨b1061, rfl, hb1061⟩ := kHook.open hr1059
          have q1062 := (hm1022.slAt 7 rfl).get s980 g990.1 g990.2
          obtain ⟨us1063, hr1064, hc1065⟩ := q1062.2
          obtain ⟨b1066, rfl, hb1066⟩ := kHook.open hr1064
          have q1067 := (hm1022.slAt 2 rfl).get s980 g991.1 g991.2
          obtain ⟨us1068, hr1069, hc1070⟩ := q1067.2
          obtain ⟨b1071, rfl, hb1071⟩ := kHook.open hr1069
          refine quiet0 [0, 1, 2, 3, 4, 5, 6, 7, 8, 9, 10, 11, 12, 13, 14, 15, 16, 17, 18, 19, 20, 21, 22, 23, 24, 25] [.slice A67 (((rd x0.L s42).Hooks).length) c68, .int .i64 ((rd ((rd x0.L s42).Hooks) s980).Do), .slice A86 (((rd x1.L s42).Hooks).length) c87, .int .i64 ((rd ((rd x1.L s42).Hooks) s980).Do), .bool false, .slice A67 (((rd x0.L s42).Hooks).length) c68, .float .f64 b1066, .slice A86 (((rd x1.L s42).Hooks).length) c87, .float .f64 b1071] [2, 3, 5, 6, 7, 8, 98, 104, 110] #[true, true, true, true, true, true, true, true, true, true, true, true, true, true, true, true, true, true, true, true, true, true, true, true, true, true, false, false, false] [(2, .pointer (some ⟨b21, 0, none⟩)), (3, .pointer (some ⟨b28, 0, none⟩)), (5, .int .i64 s42), (6, .pointer (some ⟨b93, 0, none⟩)), (7, .pointer (some ⟨b100, 0, none⟩)), (8, .int .i64 s980), (98, .bool false), (104, .float .f64 b1066), (110, .float .f64 b1071)] [.cell ⟨b93, 6, none⟩ (.slice A67 (((rd x0.L s42).Hooks).length) c68), .is (Option.isSome A67 = true), .is (0 ≤ s980 ∧ s980 < ((((rd x0.L s42).Hooks).length : Nat) : Int)), .cell ((ad A67).add ((s980).toNat * 2)) (.int .i64 ((rd ((rd x0.L s42).Hooks) s980).Do)), .cell ⟨b100, 6, none⟩ (.slice A86 (((rd x1.L s42).Hooks).length) c87), .is (Option.isSome A86 = true), .is (0 ≤ s980 ∧ s980 < ((((rd x1.L s42).Hooks).length : Nat) : Int)), .cell ((ad A86).add ((s980).toNat * 2)) (.int .i64 ((rd ((rd x1.L s42).Hooks) s980).Do)), .is ((((rd ((rd x0.L s42).Hooks) s980).Do : Int) != (rd ((rd x1.L s42).Hooks) s980).Do) = false), .cell ⟨b93, 6, none⟩ (.slice A67 (((rd x0.L s42).Hooks).length) c68), .is (Option.isSome A67 = true), .is (0 ≤ s980 ∧ s980 < ((((rd x0.L s42).Hooks).length : Nat) : Int)), .cell (((ad A67).add ((s980).toNat * 2)).add 1) (.float .f64 b1066), .cell ⟨b100, 6, none⟩ (.slice A86 (((rd x1.L s42).Hooks).length) c87), .is (Option.isSome A86 = true), .is (0 ≤ s980 ∧ s980 < ((((rd x1.L s42).Hooks).length : Nat) : Int)), .cell (((ad A86).add ((s980).toNat * 2)).add 1) (.float .f64 b1071)] 3 rfl (by kernel_rfl) (fun _ _ _ _ _ h => nomatch h.1) hf989 (by kernel_rfl) ⟨(hm1022.cell 1 rfl rfl), q1052.1, g990, (hc1055 0 _ rfl), (hm1022.cell 0 rfl rfl), q1057.1, g991, (hc1060 0 _ rfl), (neF c992), (hm1022.cell 1 rfl rfl), q1062.1, g990, (hc1065 1 _ rfl), (hm1022.cell 0 rfl rfl), q1067.1, g991, (hc1070 1 _ rfl), trivial⟩ fun a1072 hf1073 => ?_
          refine all1 26 (by kernel_rfl) ?_
          refine opOf hf1073 rfl (by kernel_rfl) (aCall (fid := 20) (args := [.float .f64 b1066, .float .f64 b1071]) (d := 111) hf1073 (by kernel_rfl) (by kernel_rfl) callable20 (ref1_Same.calls _ _ ((rd ((rd x0.L s42).Hooks) s980).X) b1066 hb1066 ((rd ((rd x1.L s42).Hooks) s980).X) b1071 hb1071 (hm1022.give [] [] rfl rfl) r993 hr993) ?_)
          rintro _ w1074 a1075 ⟨rfl, hk1077⟩ hf1076
          refine ⟨.inr (Gr.still hk1077.cum.none), ?_⟩
          have hm1078 := hm1022.still hk1077.cum.none
          rw [c994] at hf1076
          refine quiet0 [27, 28] [] [2, 3, 5, 6, 7, 8, 113] #[true, true, true, true, true, true, true, true, true, true, true, true, true, true, true, true, true, true, true, true, true, true, true, true, true, true, true, true, true] [(2, .pointer (some ⟨b21, 0, none⟩)), (3, .pointer (some ⟨b28, 0, none⟩)), (5, .int .i64 s42), (6, .pointer (some ⟨b93, 0, none⟩)), (7, .pointer (some ⟨b100, 0, none⟩)), (8, .int .i64 s980), (113, .bool false)] [] 0 rfl (by kernel_rfl) (fun _ _ _ _ _ h => nomatch h.1) hf1076 (by kernel_rfl) trivial fun a1079 hf1080 => ?_
          refine allDone (by kernel_rfl) ⟨rfl, hf1080.sel (l := [2, 3, 5, 6, 7, 8, 113]) (by kernel_rfl), hm1078.sel [0, 1, 2, 3, 4, 5, 6, 7, 8, 9, 10, 11, 12, 13, 14, 15] _ rfl (by kernel_rfl)⟩
        rintro a1081 w1082 ⟨hf1083, hm1084⟩
        refine thenN ?_
        refine condF hf1083 (by kernel_rfl) ?_
        refine wp_skip ?_
        refine blkN ?_
        refine thenN ?_
        refine reg [] [2, 3, 5, 6, 7, 8] [(2, .pointer (some ⟨b21, 0, none⟩)), (3, .pointer (some ⟨b28, 0, none⟩)), (5, .int .i64 s42), (6, .pointer (some ⟨b93, 0, none⟩)), (7, .pointer (some ⟨b100, 0, none⟩)), (8, .int .i64 (w64 (s980 + 1)))] [] hf1083 (by kernel_rfl) trivial fun a1085 hf1086 => ?_
        exact ⟨(w64 (s980 + 1)), H2, hf1086.sel (l := [2, 3, 5, 6, 7, 8]) (by kernel_rfl), hm1084.sel [0, 1, 2, 3, 4, 5, 6, 7, 8, 9, 10, 11, 12, 13, 14, 15] _ rfl (by kernel_rfl)⟩
      refine midReg (fun (a : Act) (w : World) => Fr 114 a [(2, .pointer (some ⟨b21, 0, none⟩)), (3, .pointer (some ⟨b28, 0, none⟩)), (5, .int .i64 s42), (6, .pointer (some ⟨b93, 0, none⟩)), (7, .pointer (some ⟨b100, 0, none⟩)), (8, .int .i64 s980), (113, .bool true)] ∧ Mem [] M w0 [.bx b100 [.int .i64 ((rd x1.L s42).Op), .slice A78 (((rd x1.L s42).In).length) c79, .slice A80 (((rd x1.L s42).To).length) c81, .int .i64 ((rd x1.L s42).No), .slice A82 ((((rd x1.L s42).Val).Shape).length) c83, .slice A84 ((((rd x1.L s42).Val).Data).length) c85, .slice A86 (((rd x1.L s42).Hooks).length) c87] 49, .bx b93 [.int .i64 ((rd x0.L s42).Op), .slice A58 (((rd x0.L s42).In).length) c59, .slice A60 (((rd x0.L s42).To).length) c61, .int .i64 ((rd x0.L s42).No), .slice A62 ((((rd x0.L s42).Val).Shape).length) c63, .slice A65 ((((rd x0.L s42).Val).Data).length) c66, .slice A67 (((rd x0.L s42).Hooks).length) c68] 49, .sl kHook A86 c87 ((rd x1.L s42).Hooks), .sl Kd.float A84 c85 (((rd x1.L s42).Val).Data), .sl (Kd.int .i64) A82 c83 (((rd x1.L s42).Val).Shape), .sl (Kd.int .i64) A80 c81 ((rd x1.L s42).To), .sl (Kd.int .i64) A78 c79 ((rd x1.L s42).In), .sl kHook A67 c68 ((rd x0.L s42).Hooks), .sl Kd.float A65 c66 (((rd x0.L s42).Val).Data), .sl (Kd.int .i64) A62 c63 (((rd x0.L s42).Val).Shape), .sl (Kd.int .i64) A60 c61 ((rd x0.L s42).To), .sl (Kd.int .i64) A58 c59 ((rd x0.L s42).In), .bx b28 [.slice A1_0 x1.L.length c1_0] 24, .bx b21 [.slice A0_0 x0.L.length c0_0] 24, .sl kNode A0_0 c0_0 x0.L, .sl kNode A1_0 c1_0 x1.L] w) ?_ ?_
      · refine anyG (K := []) [] (by kernel_rfl) fun w1112 hg1113 => ?_
        have hm1114 := hm986.still hg1113
        have q1144 := (hm1114.slAt 7 rfl).get s980 g990.1 g990.2
        obtain ⟨us1145, hr1146, hc1147⟩ := q1144.2
        obtain ⟨b1148, rfl, hb1148⟩ := kHook.open hr1146
        have q1149 := (hm1114.slAt 2 rfl).get s980 g991.1 g991.2
        obtain ⟨us1150, hr1151, hc1152⟩ := q1149.2
        obtain ⟨b1153, rfl, hb1153⟩ := kHook.open hr1151
        have q1154 := (hm1114.slAt 7 rfl).get s980 g990.1 g990.2
        obtain ⟨us1155, hr1156, hc1157⟩ := q1154.2
        obtain ⟨b1158, rfl, hb1158⟩ := kHook.open hr1156
        have q1159 := (hm1114.slAt 2 rfl).get s980 g991.1 g991.2
        obtain ⟨us1160, hr1161, hc1162⟩ := q1159.2
        obtain ⟨b1163, rfl, hb1163⟩ := kHook.open hr1161
        refine quiet0 [0, 1, 2, 3, 4, 5, 6, 7, 8, 9, 10, 11, 12, 13, 14, 15, 16, 17, 18, 19, 20, 21, 22, 23, 24, 25] [.slice A67 (((rd x0.L s42).Hooks).length) c68, .int .i64 ((rd ((rd x0.L s42).Hooks) s980).Do), .slice A86 (((rd x1.L s42).Hooks).length) c87, .int .i64 ((rd ((rd x1.L s42).Hooks) s980).Do), .bool false, .slice A67 (((rd x0.L s42).Hooks).length) c68, .float .f64 b1158, .slice A86 (((rd x1.L s42).Hooks).length) c87, .float .f64 b1163] [2, 3, 5, 6, 7, 8, 98, 104, 110] #[true, true, true, true, true, true, true, true, true, true, true, true, true, true, true, true, true, true, true, true, true, true, true, true, true, true, false, false, false] [(2, .pointer (some ⟨b21, 0, none⟩)), (3, .pointer (some ⟨b28, 0, none⟩)), (5, .int .i64 s42), (6, .pointer (some ⟨b93, 0, none⟩)), (7, .pointer (some ⟨b100, 0, none⟩)), (8, .int .i64 s980), (98, .bool false), (104, .float .f64 b1158), (110, .float .f64 b1163)] [.cell ⟨b93, 6, none⟩ (.slice A67 (((rd x0.L s42).Hooks).length) c68), .is (Option.isSome A67 = true), .is (0 ≤ s980 ∧ s980 < ((((rd x0.L s42).Hooks).length : Nat) : Int)), .cell ((ad A67).add ((s980).toNat * 2)) (.int .i64 ((rd ((rd x0.L s42).Hooks) s980).Do)), .cell ⟨b100, 6, none⟩ (.slice A86 (((rd x1.L s42).Hooks).length) c87), .is (Option.isSome A86 = true), .is (0 ≤ s980 ∧ s980 < ((((rd x1.L s42).Hooks).length : Nat) : Int)), .cell ((ad A86).add ((s980).toNat * 2)) (.int .i64 ((rd ((rd x1.L s42).Hooks) s980).Do)), .is ((((rd ((rd x0.L s42).Hooks) s980).Do : Int) != (rd ((rd x1.L s42).Hooks) s980).Do) = false), .cell ⟨b93, 6, none⟩ (.slice A67 (((rd x0.L s42).Hooks).length) c68), .is (Option.isSome A67 = true), .is (0 ≤ s980 ∧ s980 < ((((rd x0.L s42).Hooks).length : Nat) : Int)), .cell (((ad A67).add ((s980).toNat * 2)).add 1) (.float .f64 b1158), .cell ⟨b100, 6, none⟩ (.slice A86 (((rd x1.L s42).Hooks).length) c87), .is (Option.isSome A86 = true), .is (0 ≤ s980 ∧ s980 < ((((rd x1.L s42).Hooks).length : Nat) : Int)), .cell (((ad A86).add ((s980).toNat * 2)).add 1) (.float .f64 b1163)] 3 rfl (by kernel_rfl) (fun _ _ _ _ _ h => nomatch h.1) hf989 (by kernel_rfl) ⟨(hm1114.cell 1 rfl rfl), q1144.1, g990, (hc1147 0 _ rfl), (hm1114.cell 0 rfl rfl), q1149.1, g991, (hc1152 0 _ rfl), (neF c992), (hm1114.cell 1 rfl rfl), q1154.1, g990, (hc1157 1 _ rfl), (hm1114.cell 0 rfl rfl), q1159.1, g991, (hc1162 1 _ rfl), trivial⟩ fun a1164 hf1165 => ?_
        refine all1 26 (by kernel_rfl) ?_
        refine opOf hf1165 rfl (by kernel_rfl) (aCall (fid := 20) (args := [.float .f64 b1158, .float .f64 b1163]) (d := 111) hf1165 (by kernel_rfl) (by kernel_rfl) callable20 (ref1_Same.calls _ _ ((rd ((rd x0.L s42).Hooks) s980).X) b1158 hb1158 ((rd ((rd x1.L s42).Hooks) s980).X) b1163 hb1163 (hm1114.give [] [] rfl rfl) r993 hr993) ?_)
        rintro _ w1166 a1167 ⟨rfl, hk1169⟩ hf1168
        refine ⟨.inr (Gr.still hk1169.cum.none), ?_⟩
        have hm1170 := hm1114.still hk1169.cum.none
        rw [c994] at hf1168
        refine quiet0 [27, 28] [] [2, 3, 5, 6, 7, 8, 113] #[true, true, true, true, true, true, true, true, true, true, true, true, true, true, true, true, true, true, true, true, true, true, true, true, true, true, true, true, true] [(2, .pointer (some ⟨b21, 0, none⟩)), (3, .pointer (some ⟨b28, 0, none⟩)), (5, .int .i64 s42), (6, .pointer (some ⟨b93, 0, none⟩)), (7, .pointer (some ⟨b100, 0, none⟩)), (8, .int .i64 s980), (113, .bool true)] [] 0 rfl (by kernel_rfl) (fun _ _ _ _ _ h => nomatch h.1) hf1168 (by kernel_rfl) trivial fun a1171 hf1172 => ?_
        refine allDone (by kernel_rfl) ⟨rfl, hf1172.sel (l := [2, 3, 5, 6, 7, 8, 113]) (by kernel_rfl), hm1170.sel [0, 1, 2, 3, 4, 5, 6, 7, 8, 9, 10, 11, 12, 13, 14, 15] _ rfl (by kernel_rfl)⟩
      rintro a1173 w1174 ⟨hf1175, hm1176⟩
      refine thenN ?_
      refine condT hf1175 (by kernel_rfl) ?_
      refine wp_seq ?_
      refine reg [] [4] [(4, .bool false)] [] hf1175 (by kernel_rfl) trivial fun a1177 hf1178 => ?_
      have hm1179 := hm1176.sel [] _ rfl (by kernel_rfl)
      refine thenN ?_
      refine wp_ret ?_
      refine blkR ?_
      refine thenR ?_
      refine thenR ?_
      refine .inr ⟨rfl, ?_⟩
      refine blkR ?_
      refine thenR ?_
      refine thenR ?_
      refine .inr ⟨rfl, ?_⟩
      refine thenR ?_
      have hm1180 : Mem [] M w0 [] w1174 := hm1179.sel [] _ rfl (by kernel_rfl)
      obtain rfl := Option.some.inj H2
      obtain rfl := Option.some.inj H1
      obtain rfl := Option.some.inj H0
      refine ret [] [.bool false] [] hf1178 (by kernel_rfl) trivial ?_
      exact ⟨_, rfl, rfl, hm1180⟩
    rintro a1204 w1205 ⟨yr981, rfl, hf1206, hm1207⟩
    refine blkN ?_
    refine thenN ?_
    refine reg [] [2, 3, 5] [(2, .pointer (some ⟨b21, 0, none⟩)), (3, .pointer (some ⟨b28, 0, none⟩)), (5, .int .i64 (w64 (s42 + 1)))] [] hf1206 (by kernel_rfl) trivial fun a1208 hf1209 => ?_
    have hm1210 := hm1207.sel [12, 13, 14, 15] _ rfl (by kernel_rfl)
    exact ⟨(w64 (s42 + 1)), H1, hf1209.sel (l := [2, 3, 5]) (by kernel_rfl), hm1210.sel [0, 1, 2, 3] _ rfl (by kernel_rfl)⟩
  rintro a1318 w1319 ⟨yr43, rfl, hf1320, hm1321⟩
  refine thenN ?_
  refine wp_seq ?_
  refine reg [] [4] [(4, .bool true)] [] hf1320 (by kernel_rfl) trivial fun a1322 hf1323 => ?_
  have hm1324 := hm1321.sel [] _ rfl (by kernel_rfl)
  refine thenN ?_
  refine wp_ret ?_
  have hm1325 : Mem [] M w0 [] w1319 := hm1324.sel [] _ rfl (by kernel_rfl)
  obtain rfl := Option.some.inj H0
  refine ret [] [.bool true] [] hf1323 (by kernel_rfl) trivial ?_
  exact ⟨_, rfl, rfl, hm1325⟩
end Go.Proofs.YtkdhahdfkonilaaDoor
