/- Printed by gen.py. -/
import Derived.Test.YtkcgiolledmbnabF6
import Derived.Test.YtkcgiolledmbnabF7
namespace Go.Proofs.Ytkcgiolledmbnab
open Go Go.RowKit
set_option linter.unusedSimpArgs false
set_option linter.unusedVariables false
set_option linter.unnecessarySimpa false
/-! ### backstitch/backstitchref6.Tree -/
noncomputable def ref6_Tree.l0 (x0 : (List Tensor)) (s50 : Int) : Step Int (Out2 Int (Tensor × Int)) :=
  if s50 < (x0.length : Int) then (if 0 ≤ s50 ∧ s50 < (x0.length : Int) then (bindS (ref1_TensorMay.f (⟨((rd x0 s50).Shape), ((rd x0 s50).Data)⟩ : Tensor)) fun r61 =>
  if r61 = true then (if (0 : Int) ≤ 0 ∧ 0 < (x0.length : Int) then (bindS (ref1_SameInts.f ((rd x0 s50).Shape) ((rd x0 0).Shape)) fun r65 =>
  if r65 = true then (.next (w64 (s50 + 1)))
  else (.done (.ret ((⟨([] : (List Int)), ([] : (List Nat))⟩ : Tensor), 2))))
  else .bad)
  else (.done (.ret ((⟨([] : (List Int)), ([] : (List Nat))⟩ : Tensor), 2))))
  else .bad)
  else (.done (.go s50))
noncomputable def ref6_Tree.l2 (x0 : (List Tensor)) (s483 : (Int × (List Nat))) (s501 : (Int × (List Nat))) : Step (Int × (List Nat)) (Int × (List Nat)) :=
  if s501.1 < (x0.length : Int) then (if 0 ≤ s501.1 ∧ s501.1 < (x0.length : Int) then (if 0 ≤ s483.1 ∧ s483.1 < ((((rd x0 s501.1).Data).length : Nat) : Int) then (if s501.2.length + 1 ≤ 549755813888 then (.next ((w64 (s501.1 + 1)), (s501.2 ++ ([(rd ((rd x0 s501.1).Data) s483.1)] : List Nat))))
  else .bad)
  else .bad)
  else .bad)
  else (.done (s501.1, s501.2))
noncomputable def ref6_Tree.l1 (x0 : (List Tensor)) (s483 : (Int × (List Nat))) : Step (Int × (List Nat)) (Int × (List Nat)) :=
  if s483.1 < (s483.2.length : Int) then (bindS (loop (ref6_Tree.l2 x0 s483) (0, ([] : (List Nat)))) fun r504 =>
  bindS (ref1_Fold.f r504.2) fun r559 =>
  if 0 ≤ s483.1 ∧ s483.1 < (s483.2.length : Int) then (.next ((w64 (s483.1 + 1)), (put s483.2 s483.1 r559)))
  else .bad)
  else (.done (s483.1, s483.2))
noncomputable def ref6_Tree.f (x0 : (List Tensor)) : Option (Tensor × Int) :=
  if (x0.length : Int) = 0 then (some ((⟨([] : (List Int)), ([] : (List Nat))⟩ : Tensor), 1))
  else ((loop (ref6_Tree.l0 x0) 0).bind fun r51 =>
  r51.on (fun yr51 =>
  if (0 : Int) ≤ 0 ∧ 0 < (x0.length : Int) then ((ref1_New.f ((rd x0 0).Shape) 0).bind fun r443 =>
  (loop (ref6_Tree.l1 x0) (0, r443.1.Data)).bind fun r484 =>
  some ((⟨r443.1.Shape, r484.2⟩ : Tensor), 0))
  else none) (fun y => some y))
set_option maxRecDepth 100000 in
set_option maxHeartbeats 4000000 in
theorem ref6_Tree.calls (M : List (Option Nat)) (w0 : World) (x0 : (List Tensor)) (A0 : Option Addr) (n0 c0 : Nat) (e0 : n0 = x0.length) (hm0 : Mem [] M w0 [.sl kTensor A0 c0 x0] w0) (r : (Tensor × Int)) (H0 : ref6_Tree.f x0 = some r) :
    Calls Try.prog 18 [.slice A0 n0 c0].toArray w0 (fun x w' => ∃ v, x = .returned v ∧ ∃ Ar0_0 cr0_0 Ar0_1 cr0_1, v = .tuple #[.agg #[.slice Ar0_0 r.1.Shape.length cr0_0, .slice Ar0_1 r.1.Data.length cr0_1], .int .i64 r.2] ∧ Mem [] M w0 [.ow (Kd.int .i64) 3 Ar0_0 cr0_0 r.1.Shape, .ow Kd.float 44 Ar0_1 cr0_1 r.1.Data] w') := by
  subst e0
  unfold ref6_Tree.f at H0
  refine enter (n := 79) Try.func18 rfl rfl (by kernel_rfl) fun a0 (hf0 : Fr 79 a0 [(0, .slice A0 x0.length c0)]) => ?_
  refine wp_seq ?_
  refine inReg ?_
  refine listOf hf0 rfl (by kernel_rfl) (aNew (cs := [.slice none 0 0, .slice none 0 0]) (T := 28) (d := 2) hf0 (by kernel_rfl) (by kernel_rfl) ?_)
  intro b21 w22 a23 hbb21 hx25 hg26 hf24
  have hm27 := hm0.box hbb21 hx25 hg26
  refine go 1 [] [0, 2] [(0, .slice A0 x0.length c0), (2, .pointer (some ⟨b21, 0, none⟩))] [] hf24 (by kernel_rfl) trivial fun a28 hf29 => ?_
  refine endL rfl ?_
  refine thenN ?_
  refine wp_seq ?_
  refine wp_seq ?_
  rcases if_split H0 with ⟨c30, H0⟩ | ⟨c30, H0⟩
  · refine reg [.bool true] [0, 2, 12] [(0, .slice A0 x0.length c0), (2, .pointer (some ⟨b21, 0, none⟩)), (12, .bool true)] [.is ((((x0.length : Int) : Int) == 0) = true)] hf29 (by kernel_rfl) ⟨(eqT c30), trivial⟩ fun a31 hf32 => ?_
    refine thenN ?_
    refine condT hf32 (by kernel_rfl) ?_
    refine wp_seq ?_
    refine inReg ?_
    refine go 1 [] [2, 13] [(2, .pointer (some ⟨b21, 0, none⟩)), (13, .agg #[.slice none 0 0, .slice none 0 0])] [] hf32 (by kernel_rfl) trivial fun a33 hf34 => ?_
    refine listOf hf34 rfl (by kernel_rfl) (aStoreB (b := b21) (j := 0) (T := 28) (cs := [.slice none 0 0, .slice none 0 0]) (us := [.slice none 0 0, .slice none 0 0]) (cs' := [.slice none 0 0, .slice none 0 0]) hf34 (by kernel_rfl) (hm27.bxAt 0 rfl) (by kernel_rfl) (by kernel_rfl) (by kernel_rfl) ?_)
    intro w35 hx36 hg37
    have hm38 := hm27.setBox 0 _ rfl rfl hx36 hg37
    refine go 1 [] [2, 3] [(2, .pointer (some ⟨b21, 0, none⟩)), (3, .int .i64 1)] [] hf34 (by kernel_rfl) trivial fun a39 hf40 => ?_
    refine endL rfl ?_
    have hm41 := hm38.sel [0] _ rfl (by kernel_rfl)
    refine thenN ?_
    refine wp_ret ?_
    refine thenR ?_
    have hm42 := hm41.nilOw (Kd.int .i64) 3
    have hm43 := hm42.nilOw Kd.float 44
    have hm44 : Mem [] M w0 [.ow (Kd.int .i64) 3 none 0 ([] : (List Int)), .ow Kd.float 44 none 0 ([] : (List Nat))] w35 := hm43.sel [1, 0] _ rfl (by kernel_rfl)
    obtain rfl := Option.some.inj H0
    refine ret [.agg #[.slice none 0 0, .slice none 0 0]] [.agg #[.slice none 0 0, .slice none 0 0], .int .i64 1] [.cell ⟨b21, 0, none⟩ (.slice none 0 0), .cell ⟨b21, 1, none⟩ (.slice none 0 0)] hf40 (by kernel_rfl) ⟨(hm41.cell 0 rfl rfl), (hm41.cell 0 rfl rfl), trivial⟩ ?_
    exact ⟨_, rfl, none, 0, none, 0, rfl, hm44⟩
  refine reg [.bool false] [0, 2, 12] [(0, .slice A0 x0.length c0), (2, .pointer (some ⟨b21, 0, none⟩)), (12, .bool false)] [.is ((((x0.length : Int) : Int) == 0) = false)] hf29 (by kernel_rfl) ⟨(eqF c30), trivial⟩ fun a46 hf47 => ?_
  refine thenN ?_
  refine condF hf47 (by kernel_rfl) ?_
  refine wp_skip ?_
  refine thenN ?_
  refine wp_seq ?_
  refine wp_seq ?_
  refine reg [] [0, 2, 4] [(0, .slice A0 x0.length c0), (2, .pointer (some ⟨b21, 0, none⟩)), (4, .int .i64 0)] [] hf47 (by kernel_rfl) trivial fun a48 hf49 => ?_
  refine thenN ?_
  obtain ⟨r51, hr51, H0⟩ := ob_split H0
  refine wpBlock (Mid := fun (a : Act) (w : World) => ∃ yr51 : Int, r51 = .go yr51 ∧ Fr 79 a [(0, .slice A0 x0.length c0), (2, .pointer (some ⟨b21, 0, none⟩)), (4, .int .i64 yr51)] ∧ Mem [] M w0 [.bx b21 [.slice none 0 0, .slice none 0 0] 28, .sl kTensor A0 c0 x0] w) ?_ ?_
  · refine wpLoop (ref6_Tree.l0 x0) r51 (fun (s50 : Int) (a : Act) (w : World) => Fr 79 a [(0, .slice A0 x0.length c0), (2, .pointer (some ⟨b21, 0, none⟩)), (4, .int .i64 s50)] ∧ Mem [] M w0 [.bx b21 [.slice none 0 0, .slice none 0 0] 28, .sl kTensor A0 c0 x0] w) 0 hr51 ⟨hf49.sel (l := [0, 2, 4]) (by kernel_rfl), hm27.sel [0, 1] _ rfl (by kernel_rfl)⟩ ?_
    rintro g52 s50 a53 w54 H1 ⟨hf55, hm56⟩
    unfold ref6_Tree.l0 at H1
    refine wp_seq ?_
    refine wp_seq ?_
    rcases ifS_split H1 with ⟨c57, H1⟩ | ⟨c57, H1⟩
    rotate_left
    · refine reg [.bool false] [0, 2, 4, 17] [(0, .slice A0 x0.length c0), (2, .pointer (some ⟨b21, 0, none⟩)), (4, .int .i64 s50), (17, .bool false)] [.is (decide (s50 < (x0.length : Int)) = false)] hf55 (by kernel_rfl) ⟨(decide_eq_false c57), trivial⟩ fun a436 hf437 => ?_
      refine thenN ?_
      refine condF hf437 (by kernel_rfl) ?_
      refine wp_exit ?_
      refine thenE ?_
      refine thenE ?_
      obtain rfl := Option.some.inj H1
      exact .inl ⟨rfl, s50, rfl, hf437.sel (l := [0, 2, 4]) (by kernel_rfl), hm56.sel [0, 1] _ rfl (by kernel_rfl)⟩
    refine reg [.bool true] [0, 2, 4, 17] [(0, .slice A0 x0.length c0), (2, .pointer (some ⟨b21, 0, none⟩)), (4, .int .i64 s50), (17, .bool true)] [.is (decide (s50 < (x0.length : Int)) = true)] hf55 (by kernel_rfl) ⟨(decide_eq_true c57), trivial⟩ fun a58 hf59 => ?_
    refine thenN ?_
    refine condT hf59 (by kernel_rfl) ?_
    refine wp_skip ?_
    refine thenN ?_
    refine wp_seq ?_
    refine wp_block ?_
    refine wp_seq ?_
    obtain ⟨g60, H1⟩ := ifS_guard H1
    obtain ⟨r61, hr61, H1⟩ := obS_split H1
    rcases ifbS_split H1 with ⟨c62, H1⟩ | ⟨c62, H1⟩
    rotate_left
    · refine midReg (fun (a : Act) (w : World) => Fr 79 a [(0, .slice A0 x0.length c0), (2, .pointer (some ⟨b21, 0, none⟩)), (4, .int .i64 s50), (38, .bool true)] ∧ Mem [] M w0 [.bx b21 [.slice none 0 0, .slice none 0 0] 28, .sl kTensor A0 c0 x0] w) ?_ ?_
      · refine anyG [] (by kernel_rfl) fun w378 hg379 => ?_
        have hm380 := hm56.still hg379
        have q400 := (hm380.slAt 1 rfl).get s50 g60.1 g60.2
        obtain ⟨us401, hr402, hc403⟩ := q400.2
        obtain ⟨A404, c405, A406, c407, rfl, ⟨pA404, sA404⟩, ⟨pA406, sA406⟩⟩ := kTensor.open hr402
        have hm408 := hm380.elem pA404 sA404
        have hm409 := hm408.elem pA406 sA406
        refine quiet0 [0, 1, 2, 3] [.agg #[.slice A404 (((rd x0 s50).Shape).length) c405, .slice A406 (((rd x0 s50).Data).length) c407]] [0, 2, 4, 23] #[true, true, true, true, false, false, false, false, false, false, false, false, false, false, false, false, false, false, false] [(0, .slice A0 x0.length c0), (2, .pointer (some ⟨b21, 0, none⟩)), (4, .int .i64 s50), (23, .agg #[.slice A404 (((rd x0 s50).Shape).length) c405, .slice A406 (((rd x0 s50).Data).length) c407])] [.is (Option.isSome A0 = true), .is (0 ≤ s50 ∧ s50 < (x0.length : Int)), .cell ((ad A0).add ((s50).toNat * 2)) (.slice A404 (((rd x0 s50).Shape).length) c405), .cell (((ad A0).add ((s50).toNat * 2)).add 1) (.slice A406 (((rd x0 s50).Data).length) c407)] 15 rfl (by kernel_rfl) (fun _ _ _ _ _ h => nomatch h.1) hf59 (by kernel_rfl) ⟨q400.1, g60, (hc403 0 _ rfl), (hc403 1 _ rfl), trivial⟩ fun a410 hf411 => ?_
        refine all1 4 (by kernel_rfl) ?_
        refine opOf hf411 rfl (by kernel_rfl) (aCall (fid := 32) (args := [.agg #[.slice A404 (((rd x0 s50).Shape).length) c405, .slice A406 (((rd x0 s50).Data).length) c407]]) (d := 24) hf411 (by kernel_rfl) (by kernel_rfl) callable32 (ref1_TensorMay.calls _ _ (⟨((rd x0 s50).Shape), ((rd x0 s50).Data)⟩ : Tensor) A404 (((rd x0 s50).Shape).length) c405 rfl A406 (((rd x0 s50).Data).length) c407 rfl (hm409.give [1, 0] [.sl (Kd.int .i64) A404 c405 ((rd x0 s50).Shape), .sl Kd.float A406 c407 ((rd x0 s50).Data)] rfl rfl) r61 hr61) ?_)
        rintro _ w412 a413 ⟨rfl, hk415⟩ hf414
        refine ⟨.inr (Gr.still hk415.cum.none), ?_⟩
        have hm416 := hm409.still hk415.cum.none
        rw [c62] at hf414
        refine quiet0 [5, 6, 7, 8, 9, 10, 11, 12, 13, 14, 15, 16, 17, 18] [] [0, 2, 4, 38] #[true, true, true, true, true, true, true, true, true, true, true, true, true, true, true, true, true, true, true] [(0, .slice A0 x0.length c0), (2, .pointer (some ⟨b21, 0, none⟩)), (4, .int .i64 s50), (38, .bool true)] [] 0 rfl (by kernel_rfl) (fun _ _ _ _ _ h => nomatch h.1) hf414 (by kernel_rfl) trivial fun a417 hf418 => ?_
        refine allDone (by kernel_rfl) ⟨rfl, hf418.sel (l := [0, 2, 4, 38]) (by kernel_rfl), hm416.sel [2, 3] _ rfl (by kernel_rfl)⟩
      rintro a419 w420 ⟨hf421, hm422⟩
      refine thenN ?_
      refine condT hf421 (by kernel_rfl) ?_
      refine wp_seq ?_
      refine inReg ?_
      refine go 1 [] [2, 39] [(2, .pointer (some ⟨b21, 0, none⟩)), (39, .agg #[.slice none 0 0, .slice none 0 0])] [] hf421 (by kernel_rfl) trivial fun a423 hf424 => ?_
      refine listOf hf424 rfl (by kernel_rfl) (aStoreB (b := b21) (j := 0) (T := 28) (cs := [.slice none 0 0, .slice none 0 0]) (us := [.slice none 0 0, .slice none 0 0]) (cs' := [.slice none 0 0, .slice none 0 0]) hf424 (by kernel_rfl) (hm422.bxAt 0 rfl) (by kernel_rfl) (by kernel_rfl) (by kernel_rfl) ?_)
      intro w425 hx426 hg427
      have hm428 := hm422.setBox 0 _ rfl rfl hx426 hg427
      refine go 1 [] [2, 3] [(2, .pointer (some ⟨b21, 0, none⟩)), (3, .int .i64 2)] [] hf424 (by kernel_rfl) trivial fun a429 hf430 => ?_
      refine endL rfl ?_
      have hm431 := hm428.sel [0] _ rfl (by kernel_rfl)
      refine thenN ?_
      refine wp_ret ?_
      refine blkR ?_
      refine thenR ?_
      refine thenR ?_
      refine .inr ⟨rfl, ?_⟩
      refine thenR ?_
      have hm432 := hm431.nilOw (Kd.int .i64) 3
      have hm433 := hm432.nilOw Kd.float 44
      have hm434 : Mem [] M w0 [.ow (Kd.int .i64) 3 none 0 ([] : (List Int)), .ow Kd.float 44 none 0 ([] : (List Nat))] w425 := hm433.sel [1, 0] _ rfl (by kernel_rfl)
      obtain rfl := Option.some.inj H1
      obtain rfl := Option.some.inj H0
      refine ret [.agg #[.slice none 0 0, .slice none 0 0]] [.agg #[.slice none 0 0, .slice none 0 0], .int .i64 2] [.cell ⟨b21, 0, none⟩ (.slice none 0 0), .cell ⟨b21, 1, none⟩ (.slice none 0 0)] hf430 (by kernel_rfl) ⟨(hm431.cell 0 rfl rfl), (hm431.cell 0 rfl rfl), trivial⟩ ?_
      exact ⟨_, rfl, none, 0, none, 0, rfl, hm434⟩
    obtain ⟨g63, H1⟩ := ifS_guard H1
    obtain ⟨r65, hr65, H1⟩ := obS_split H1
    rcases ifbS_split H1 with ⟨c66, H1⟩ | ⟨c66, H1⟩
    · refine midReg (fun (a : Act) (w : World) => Fr 79 a [(0, .slice A0 x0.length c0), (2, .pointer (some ⟨b21, 0, none⟩)), (4, .int .i64 s50), (38, .bool false)] ∧ Mem [] M w0 [.bx b21 [.slice none 0 0, .slice none 0 0] 28, .sl kTensor A0 c0 x0] w) ?_ ?_
      · refine anyG [] (by kernel_rfl) fun w108 hg109 => ?_
        have hm110 := hm56.still hg109
        have q157 := (hm110.slAt 1 rfl).get s50 g60.1 g60.2
        obtain ⟨us158, hr159, hc160⟩ := q157.2
        obtain ⟨A161, c162, A163, c164, rfl, ⟨pA161, sA161⟩, ⟨pA163, sA163⟩⟩ := kTensor.open hr159
        have hm165 := hm110.elem pA161 sA161
        have hm166 := hm165.elem pA163 sA163
        refine quiet0 [0, 1, 2, 3] [.agg #[.slice A161 (((rd x0 s50).Shape).length) c162, .slice A163 (((rd x0 s50).Data).length) c164]] [0, 2, 4, 23] #[true, true, true, true, false, false, false, false, false, false, false, false, false, false, false, false, false, false, false] [(0, .slice A0 x0.length c0), (2, .pointer (some ⟨b21, 0, none⟩)), (4, .int .i64 s50), (23, .agg #[.slice A161 (((rd x0 s50).Shape).length) c162, .slice A163 (((rd x0 s50).Data).length) c164])] [.is (Option.isSome A0 = true), .is (0 ≤ s50 ∧ s50 < (x0.length : Int)), .cell ((ad A0).add ((s50).toNat * 2)) (.slice A161 (((rd x0 s50).Shape).length) c162), .cell (((ad A0).add ((s50).toNat * 2)).add 1) (.slice A163 (((rd x0 s50).Data).length) c164)] 15 rfl (by kernel_rfl) (fun _ _ _ _ _ h => nomatch h.1) hf59 (by kernel_rfl) ⟨q157.1, g60, (hc160 0 _ rfl), (hc160 1 _ rfl), trivial⟩ fun a167 hf168 => ?_
        refine all1 4 (by kernel_rfl) ?_
        refine opOf hf168 rfl (by kernel_rfl) (aCall (fid := 32) (args := [.agg #[.slice A161 (((rd x0 s50).Shape).length) c162, .slice A163 (((rd x0 s50).Data).length) c164]]) (d := 24) hf168 (by kernel_rfl) (by kernel_rfl) callable32 (ref1_TensorMay.calls _ _ (⟨((rd x0 s50).Shape), ((rd x0 s50).Data)⟩ : Tensor) A161 (((rd x0 s50).Shape).length) c162 rfl A163 (((rd x0 s50).Data).length) c164 rfl (hm166.give [1, 0] [.sl (Kd.int .i64) A161 c162 ((rd x0 s50).Shape), .sl Kd.float A163 c164 ((rd x0 s50).Data)] rfl rfl) r61 hr61) ?_)
        rintro _ w169 a170 ⟨rfl, hk172⟩ hf171
        refine ⟨.inr (Gr.still hk172.cum.none), ?_⟩
        have hm173 := hm166.still hk172.cum.none
        rw [c62] at hf171
        have q174 := (hm173.slAt 3 rfl).get s50 g60.1 g60.2
        obtain ⟨us175, hr176, hc177⟩ := q174.2
        obtain ⟨A178, c179, A180, c181, rfl, ⟨pA178, sA178⟩, ⟨pA180, sA180⟩⟩ := kTensor.open hr176
        have hm182 := hm173.elem pA178 sA178
        have hm183 := hm182.elem pA180 sA180
        have q184 := (hm183.slAt 5 rfl).get 0 g63.1 g63.2
        obtain ⟨us185, hr186, hc187⟩ := q184.2
        obtain ⟨A188, c189, A190, c191, rfl, ⟨pA188, sA188⟩, ⟨pA190, sA190⟩⟩ := kTensor.open hr186
        have hm192 := hm183.elem pA188 sA188
        have hm193 := hm192.elem pA190 sA190
        refine quiet0 [5, 6, 7, 8, 9, 10, 11, 12, 13, 14, 15] [.slice A178 (((rd x0 s50).Shape).length) c179, .slice A188 (((rd x0 0).Shape).length) c189] [0, 2, 4, 26, 31, 35] #[true, true, true, true, true, true, true, true, true, true, true, true, true, true, true, true, false, false, false] [(0, .slice A0 x0.length c0), (2, .pointer (some ⟨b21, 0, none⟩)), (4, .int .i64 s50), (26, .bool false), (31, .slice A178 (((rd x0 s50).Shape).length) c179), (35, .slice A188 (((rd x0 0).Shape).length) c189)] [.is (Option.isSome A0 = true), .is (0 ≤ s50 ∧ s50 < (x0.length : Int)), .cell ((ad A0).add ((s50).toNat * 2)) (.slice A178 (((rd x0 s50).Shape).length) c179), .is (Option.isSome A0 = true), .is ((0 : Int) ≤ 0 ∧ 0 < (x0.length : Int)), .cell ((ad A0).add ((0 : Int).toNat * 2)) (.slice A188 (((rd x0 0).Shape).length) c189)] 3 rfl (by kernel_rfl) (fun _ _ _ _ _ h => nomatch h.1) hf171 (by kernel_rfl) ⟨q174.1, g60, (hc177 0 _ rfl), q184.1, g63, (hc187 0 _ rfl), trivial⟩ fun a194 hf195 => ?_
        refine all1 16 (by kernel_rfl) ?_
        refine opOf hf195 rfl (by kernel_rfl) (aCall (fid := 51) (args := [.slice A178 (((rd x0 s50).Shape).length) c179, .slice A188 (((rd x0 0).Shape).length) c189]) (d := 36) hf195 (by kernel_rfl) (by kernel_rfl) callable51 (ref1_SameInts.calls _ _ ((rd x0 s50).Shape) A178 (((rd x0 s50).Shape).length) c179 rfl ((rd x0 0).Shape) A188 (((rd x0 0).Shape).length) c189 rfl (hm193.give [3, 1] [.sl (Kd.int .i64) A178 c179 ((rd x0 s50).Shape), .sl (Kd.int .i64) A188 c189 ((rd x0 0).Shape)] rfl rfl) r65 hr65) ?_)
        rintro _ w196 a197 ⟨rfl, hk199⟩ hf198
        refine ⟨.inr (Gr.still hk199.cum.none), ?_⟩
        have hm200 := hm193.still hk199.cum.none
        rw [c66] at hf198
        refine quiet0 [17, 18] [] [0, 2, 4, 38] #[true, true, true, true, true, true, true, true, true, true, true, true, true, true, true, true, true, true, true] [(0, .slice A0 x0.length c0), (2, .pointer (some ⟨b21, 0, none⟩)), (4, .int .i64 s50), (38, .bool false)] [] 0 rfl (by kernel_rfl) (fun _ _ _ _ _ h => nomatch h.1) hf198 (by kernel_rfl) trivial fun a201 hf202 => ?_
        refine allDone (by kernel_rfl) ⟨rfl, hf202.sel (l := [0, 2, 4, 38]) (by kernel_rfl), hm200.sel [6, 7] _ rfl (by kernel_rfl)⟩
      rintro a203 w204 ⟨hf205, hm206⟩
      refine thenN ?_
      refine condF hf205 (by kernel_rfl) ?_
      refine wp_skip ?_
      refine blkN ?_
      refine thenN ?_
      refine reg [] [0, 2, 4] [(0, .slice A0 x0.length c0), (2, .pointer (some ⟨b21, 0, none⟩)), (4, .int .i64 (w64 (s50 + 1)))] [] hf205 (by kernel_rfl) trivial fun a207 hf208 => ?_
      exact ⟨(w64 (s50 + 1)), H1, hf208.sel (l := [0, 2, 4]) (by kernel_rfl), hm206.sel [0, 1] _ rfl (by kernel_rfl)⟩
    refine midReg (fun (a : Act) (w : World) => Fr 79 a [(0, .slice A0 x0.length c0), (2, .pointer (some ⟨b21, 0, none⟩)), (4, .int .i64 s50), (38, .bool true)] ∧ Mem [] M w0 [.bx b21 [.slice none 0 0, .slice none 0 0] 28, .sl kTensor A0 c0 x0] w) ?_ ?_
    · refine anyG [] (by kernel_rfl) fun w250 hg251 => ?_
      have hm252 := hm56.still hg251
      have q299 := (hm252.slAt 1 rfl).get s50 g60.1 g60.2
      obtain ⟨us300, hr301, hc302⟩ := q299.2
      obtain ⟨A303, c304, A305, c306, rfl, ⟨pA303, sA303⟩, ⟨pA305, sA305⟩⟩ := kTensor.open hr301
      have hm307 := hm252.elem pA303 sA303
      have hm308 := hm307.elem pA305 sA305
      refine quiet0 [0, 1, 2, 3] [.agg #[.slice A303 (((rd x0 s50).Shape).length) c304, .slice A305 (((rd x0 s50).Data).length) c306]] [0, 2, 4, 23] #[true, true, true, true, false, false, false, false, false, false, false, false, false, false, false, false, false, false, false] [(0, .slice A0 x0.length c0), (2, .pointer (some ⟨b21, 0, none⟩)), (4, .int .i64 s50), (23, .agg #[.slice A303 (((rd x0 s50).Shape).length) c304, .slice A305 (((rd x0 s50).Data).length) c306])] [.is (Option.isSome A0 = true), .is (0 ≤ s50 ∧ s50 < (x0.length : Int)), .cell ((ad A0).add ((s50).toNat * 2)) (.slice A303 (((rd x0 s50).Shape).length) c304), .cell (((ad A0).add ((s50).toNat * 2)).add 1) (.slice A305 (((rd x0 s50).Data).length) c306)] 15 rfl (by kernel_rfl) (fun _ _ _ _ _ h => nomatch h.1) hf59 (by kernel_rfl) ⟨q299.1, g60, (hc302 0 _ rfl), (hc302 1 _ rfl), trivial⟩ fun a309 hf310 => ?_
      refine all1 4 (by kernel_rfl) ?_
      refine opOf hf310 rfl (by kernel_rfl) (aCall (fid := 32) (args := [.agg #[.slice A303 (((rd x0 s50).Shape).length) c304, .slice A305 (((rd x0 s50).Data).length) c306]]) (d := 24) hf310 (by kernel_rfl) (by kernel_rfl) callable32 (ref1_TensorMay.calls _ _ (⟨((rd x0 s50).Shape), ((rd x0 s50).Data)⟩ : Tensor) A303 (((rd x0 s50).Shape).length) c304 rfl A305 (((rd x0 s50).Data).length) c306 rfl (hm308.give [1, 0] [.sl (Kd.int .i64) A303 c304 ((rd x0 s50).Shape), .sl Kd.float A305 c306 ((rd x0 s50).Data)] rfl rfl) r61 hr61) ?_)
      rintro _ w311 a312 ⟨rfl, hk314⟩ hf313
      refine ⟨.inr (Gr.still hk314.cum.none), ?_⟩
      have hm315 := hm308.still hk314.cum.none
      rw [c62] at hf313
      have q316 := (hm315.slAt 3 rfl).get s50 g60.1 g60.2
      obtain ⟨us317, hr318, hc319⟩ := q316.2
      obtain ⟨A320, c321, A322, c323, rfl, ⟨pA320, sA320⟩, ⟨pA322, sA322⟩⟩ := kTensor.open hr318
      have hm324 := hm315.elem pA320 sA320
      have hm325 := hm324.elem pA322 sA322
      have q326 := (hm325.slAt 5 rfl).get 0 g63.1 g63.2
      obtain ⟨us327, hr328, hc329⟩ := q326.2
      obtain ⟨A330, c331, A332, c333, rfl, ⟨pA330, sA330⟩, ⟨pA332, sA332⟩⟩ := kTensor.open hr328
      have hm334 := hm325.elem pA330 sA330
      have hm335 := hm334.elem pA332 sA332
      refine quiet0 [5, 6, 7, 8, 9, 10, 11, 12, 13, 14, 15] [.slice A320 (((rd x0 s50).Shape).length) c321, .slice A330 (((rd x0 0).Shape).length) c331] [0, 2, 4, 26, 31, 35] #[true, true, true, true, true, true, true, true, true, true, true, true, true, true, true, true, false, false, false] [(0, .slice A0 x0.length c0), (2, .pointer (some ⟨b21, 0, none⟩)), (4, .int .i64 s50), (26, .bool false), (31, .slice A320 (((rd x0 s50).Shape).length) c321), (35, .slice A330 (((rd x0 0).Shape).length) c331)] [.is (Option.isSome A0 = true), .is (0 ≤ s50 ∧ s50 < (x0.length : Int)), .cell ((ad A0).add ((s50).toNat * 2)) (.slice A320 (((rd x0 s50).Shape).length) c321), .is (Option.isSome A0 = true), .is ((0 : Int) ≤ 0 ∧ 0 < (x0.length : Int)), .cell ((ad A0).add ((0 : Int).toNat * 2)) (.slice A330 (((rd x0 0).Shape).length) c331)] 3 rfl (by kernel_rfl) (fun _ _ _ _ _ h => nomatch h.1) hf313 (by kernel_rfl) ⟨q316.1, g60, (hc319 0 _ rfl), q326.1, g63, (hc329 0 _ rfl), trivial⟩ fun a336 hf337 => ?_
      refine all1 16 (by kernel_rfl) ?_
      refine opOf hf337 rfl (by kernel_rfl) (aCall (fid := 51) (args := [.slice A320 (((rd x0 s50).Shape).length) c321, .slice A330 (((rd x0 0).Shape).length) c331]) (d := 36) hf337 (by kernel_rfl) (by kernel_rfl) callable51 (ref1_SameInts.calls _ _ ((rd x0 s50).Shape) A320 (((rd x0 s50).Shape).length) c321 rfl ((rd x0 0).Shape) A330 (((rd x0 0).Shape).length) c331 rfl (hm335.give [3, 1] [.sl (Kd.int .i64) A320 c321 ((rd x0 s50).Shape), .sl (Kd.int .i64) A330 c331 ((rd x0 0).Shape)] rfl rfl) r65 hr65) ?_)
      rintro _ w338 a339 ⟨rfl, hk341⟩ hf340
      refine ⟨.inr (Gr.still hk341.cum.none), ?_⟩
      have hm342 := hm335.still hk341.cum.none
      rw [c66] at hf340
      refine quiet0 [17, 18] [] [0, 2, 4, 38] #[true, true, true, true, true, true, true, true, true, true, true, true, true, true, true, true, true, true, true] [(0, .slice A0 x0.length c0), (2, .pointer (some ⟨b21, 0, none⟩)), (4, .int .i64 s50), (38, .bool true)] [] 0 rfl (by kernel_rfl) (fun _ _ _ _ _ h => nomatch h.1) hf340 (by kernel_rfl) trivial fun a343 hf344 => ?_
      refine allDone (by kernel_rfl) ⟨rfl, hf344.sel (l := [0, 2, 4, 38]) (by kernel_rfl), hm342.sel [6, 7] _ rfl (by kernel_rfl)⟩
    rintro a345 w346 ⟨hf347, hm348⟩
    refine thenN ?_
    refine condT hf347 (by kernel_rfl) ?_
    refine wp_seq ?_
    refine inReg ?_
    refine go 1 [] [2, 39] [(2, .pointer (some ⟨b21, 0, none⟩)), (39, .agg #[.slice none 0 0, .slice none 0 0])] [] hf347 (by kernel_rfl) trivial fun a349 hf350 => ?_
    refine listOf hf350 rfl (by kernel_rfl) (aStoreB (b := b21) (j := 0) (T := 28) (cs := [.slice none 0 0, .slice none 0 0]) (us := [.slice none 0 0, .slice none 0 0]) (cs' := [.slice none 0 0, .slice none 0 0]) hf350 (by kernel_rfl) (hm348.bxAt 0 rfl) (by kernel_rfl) (by kernel_rfl) (by kernel_rfl) ?_)
    intro w351 hx352 hg353
    have hm354 := hm348.setBox 0 _ rfl rfl hx352 hg353
    refine go 1 [] [2, 3] [(2, .pointer (some ⟨b21, 0, none⟩)), (3, .int .i64 2)] [] hf350 (by kernel_rfl) trivial fun a355 hf356 => ?_
    refine endL rfl ?_
    have hm357 := hm354.sel [0] _ rfl (by kernel_rfl)
    refine thenN ?_
    refine wp_ret ?_
    refine blkR ?_
    refine thenR ?_
    refine thenR ?_
    refine .inr ⟨rfl, ?_⟩
    refine thenR ?_
    have hm358 := hm357.nilOw (Kd.int .i64) 3
    have hm359 := hm358.nilOw Kd.float 44
    have hm360 : Mem [] M w0 [.ow (Kd.int .i64) 3 none 0 ([] : (List Int)), .ow Kd.float 44 none 0 ([] : (List Nat))] w351 := hm359.sel [1, 0] _ rfl (by kernel_rfl)
    obtain rfl := Option.some.inj H1
    obtain rfl := Option.some.inj H0
    refine ret [.agg #[.slice none 0 0, .slice none 0 0]] [.agg #[.slice none 0 0, .slice none 0 0], .int .i64 2] [.cell ⟨b21, 0, none⟩ (.slice none 0 0), .cell ⟨b21, 1, none⟩ (.slice none 0 0)] hf356 (by kernel_rfl) ⟨(hm357.cell 0 rfl rfl), (hm357.cell 0 rfl rfl), trivial⟩ ?_
    exact ⟨_, rfl, none, 0, none, 0, rfl, hm360⟩
  rintro a438 w439 ⟨yr51, rfl, hf440, hm441⟩
  refine thenN ?_
  refine wp_seq ?_
  obtain ⟨g442, H0⟩ := if_guard H0
  obtain ⟨r443, hr443, H0⟩ := ob_split H0
  have q444 := (hm441.slAt 1 rfl).get 0 g442.1 g442.2
  obtain ⟨us445, hr446, hc447⟩ := q444.2
  obtain ⟨A448, c449, A450, c451, rfl, ⟨pA448, sA448⟩, ⟨pA450, sA450⟩⟩ := kTensor.open hr446
  have hm452 := hm441.elem pA448 sA448
  have hm453 := hm452.elem pA450 sA450
  refine inReg ?_
  refine go 4 [.slice A448 (((rd x0 0).Shape).length) c449] [0, 2, 44] [(0, .slice A0 x0.length c0), (2, .pointer (some ⟨b21, 0, none⟩)), (44, .slice A448 (((rd x0 0).Shape).length) c449)] [.is (Option.isSome A0 = true), .is ((0 : Int) ≤ 0 ∧ 0 < (x0.length : Int)), .cell ((ad A0).add ((0 : Int).toNat * 2)) (.slice A448 (((rd x0 0).Shape).length) c449)] hf440 (by kernel_rfl) ⟨q444.1, g442, (hc447 0 _ rfl), trivial⟩ fun a454 hf455 => ?_
  refine listOf hf455 rfl (by kernel_rfl) (aCall (fid := 28) (args := [.slice A448 (((rd x0 0).Shape).length) c449, .float .f64 0]) (d := 45) hf455 (by kernel_rfl) (by kernel_rfl) callable28 (ref1_New.calls _ _ ((rd x0 0).Shape) A448 (((rd x0 0).Shape).length) c449 rfl 0 0 ((FR.lit (by kernel_rfl) (by kernel_rfl))) (hm453.give [1] [.sl (Kd.int .i64) A448 c449 ((rd x0 0).Shape)] rfl rfl) r443 hr443) ?_)
  rintro _ w460 a461 ⟨A456, c457, A458, c459, rfl, hk463⟩ hf462
  have hm464 := hm453.back hk463
  refine go 3 [] [0, 2, 46, 47] [(0, .slice A0 x0.length c0), (2, .pointer (some ⟨b21, 0, none⟩)), (46, .agg #[.slice A456 r443.1.Shape.length c457, .slice A458 r443.1.Data.length c459]), (47, .int .i64 r443.2)] [] hf462 (by kernel_rfl) trivial fun a465 hf466 => ?_
  refine listOf hf466 rfl (by kernel_rfl) (aNew (cs := [.slice none 0 0, .slice none 0 0]) (T := 28) (d := 5) hf466 (by kernel_rfl) (by kernel_rfl) ?_)
  intro b467 w468 a469 hbb467 hx471 hg472 hf470
  have hm473 := hm464.box hbb467 hx471 hg472
  refine listOf hf470 rfl (by kernel_rfl) (aStoreB (b := b467) (j := 0) (T := 28) (cs := [.slice none 0 0, .slice none 0 0]) (us := [.slice A456 r443.1.Shape.length c457, .slice A458 r443.1.Data.length c459]) (cs' := [.slice A456 r443.1.Shape.length c457, .slice A458 r443.1.Data.length c459]) hf470 (by kernel_rfl) (hm473.bxAt 0 rfl) (by kernel_rfl) (by kernel_rfl) (by kernel_rfl) ?_)
  intro w474 hx475 hg476
  have hm477 := hm473.setBox 0 _ rfl rfl hx475 hg476
  refine go 1 [] [0, 2, 5] [(0, .slice A0 x0.length c0), (2, .pointer (some ⟨b21, 0, none⟩)), (5, .pointer (some ⟨b467, 0, none⟩))] [] hf470 (by kernel_rfl) trivial fun a478 hf479 => ?_
  refine endL rfl ?_
  have hm480 := hm477.sel [0, 1, 2, 5, 6] _ rfl (by kernel_rfl)
  refine thenN ?_
  refine wp_seq ?_
  refine wp_seq ?_
  refine reg [] [0, 2, 5, 7] [(0, .slice A0 x0.length c0), (2, .pointer (some ⟨b21, 0, none⟩)), (5, .pointer (some ⟨b467, 0, none⟩)), (7, .int .i64 0)] [] hf479 (by kernel_rfl) trivial fun a481 hf482 => ?_
  refine thenN ?_
  obtain ⟨r484, hr484, H0⟩ := ob_split H0
  refine wpBlock (Mid := fun (a : Act) (w : World) => Fr 79 a [(0, .slice A0 x0.length c0), (2, .pointer (some ⟨b21, 0, none⟩)), (5, .pointer (some ⟨b467, 0, none⟩)), (7, .int .i64 r484.1)] ∧ Mem [] M w0 [.bx b467 [.slice A456 r443.1.Shape.length c457, .slice A458 r484.2.length c459] 28, .ow (Kd.int .i64) 3 A456 c457 r443.1.Shape, .ow Kd.float 44 A458 c459 r484.2, .bx b21 [.slice none 0 0, .slice none 0 0] 28, .sl kTensor A0 c0 x0] w) ?_ ?_
  · refine wpLoop (ref6_Tree.l1 x0) r484 (fun (s483 : (Int × (List Nat))) (a : Act) (w : World) => Fr 79 a [(0, .slice A0 x0.length c0), (2, .pointer (some ⟨b21, 0, none⟩)), (5, .pointer (some ⟨b467, 0, none⟩)), (7, .int .i64 s483.1)] ∧ Mem [] M w0 [.bx b467 [.slice A456 r443.1.Shape.length c457, .slice A458 s483.2.length c459] 28, .ow (Kd.int .i64) 3 A456 c457 r443.1.Shape, .ow Kd.float 44 A458 c459 s483.2, .bx b21 [.slice none 0 0, .slice none 0 0] 28, .sl kTensor A0 c0 x0] w) (0, r443.1.Data) hr484 ⟨hf482.sel (l := [0, 2, 5, 7]) (by kernel_rfl), hm480.sel [0, 1, 2, 3, 4] _ rfl (by kernel_rfl)⟩ ?_
    rintro g485 s483 a486 w487 H1 ⟨hf488, hm489⟩
    unfold ref6_Tree.l1 at H1
    refine wp_seq ?_
    refine wp_seq ?_
    rcases ifS_split H1 with ⟨c490, H1⟩ | ⟨c490, H1⟩
    rotate_left
    · refine reg [.slice A458 s483.2.length c459, .bool false] [0, 2, 5, 7, 52] [(0, .slice A0 x0.length c0), (2, .pointer (some ⟨b21, 0, none⟩)), (5, .pointer (some ⟨b467, 0, none⟩)), (7, .int .i64 s483.1), (52, .bool false)] [.cell ⟨b467, 1, none⟩ (.slice A458 s483.2.length c459), .is (decide (s483.1 < (s483.2.length : Int)) = false)] hf488 (by kernel_rfl) ⟨(hm489.cell 0 rfl rfl), (decide_eq_false c490), trivial⟩ fun a618 hf619 => ?_
      refine thenN ?_
      refine condF hf619 (by kernel_rfl) ?_
      refine wp_exit ?_
      refine thenE ?_
      refine thenE ?_
      obtain rfl := Option.some.inj H1
      exact .inl ⟨rfl, hf619.sel (l := [0, 2, 5, 7]) (by kernel_rfl), hm489.sel [0, 1, 2, 3, 4] _ rfl (by kernel_rfl)⟩
    refine reg [.slice A458 s483.2.length c459, .bool true] [0, 2, 5, 7, 52] [(0, .slice A0 x0.length c0), (2, .pointer (some ⟨b21, 0, none⟩)), (5, .pointer (some ⟨b467, 0, none⟩)), (7, .int .i64 s483.1), (52, .bool true)] [.cell ⟨b467, 1, none⟩ (.slice A458 s483.2.length c459), .is (decide (s483.1 < (s483.2.length : Int)) = true)] hf488 (by kernel_rfl) ⟨(hm489.cell 0 rfl rfl), (decide_eq_true c490), trivial⟩ fun a491 hf492 => ?_
    refine thenN ?_
    refine condT hf492 (by kernel_rfl) ?_
    refine wp_skip ?_
    refine thenN ?_
    refine wp_seq ?_
    refine wp_block ?_
    refine wp_seq ?_
    refine reg [] [0, 2, 5, 7, 8] [(0, .slice A0 x0.length c0), (2, .pointer (some ⟨b21, 0, none⟩)), (5, .pointer (some ⟨b467, 0, none⟩)), (7, .int .i64 s483.1), (8, .slice none 0 0)] [] hf492 (by kernel_rfl) trivial fun a493 hf494 => ?_
    refine thenN ?_
    refine wp_seq ?_
    refine wp_seq ?_
    refine reg [] [0, 2, 5, 7, 8, 9] [(0, .slice A0 x0.length c0), (2, .pointer (some ⟨b21, 0, none⟩)), (5, .pointer (some ⟨b467, 0, none⟩)), (7, .int .i64 s483.1), (8, .slice none 0 0), (9, .int .i64 0)] [] hf494 (by kernel_rfl) trivial fun a495 hf496 => ?_
    refine thenN ?_
    have hm498 := hm489.nilOw Kd.float 44
    obtain ⟨r504, hr504, H1⟩ := obS_split H1
    refine wpBlock (Mid := fun (a : Act) (w : World) => ∃ (A502 : Option Addr) (c503 : Nat), Fr 79 a [(0, .slice A0 x0.length c0), (2, .pointer (some ⟨b21, 0, none⟩)), (5, .pointer (some ⟨b467, 0, none⟩)), (7, .int .i64 s483.1), (8, .slice A502 r504.2.length c503), (9, .int .i64 r504.1)] ∧ Mem [] M w0 [.ow Kd.float 44 A502 c503 r504.2, .bx b467 [.slice A456 r443.1.Shape.length c457, .slice A458 s483.2.length c459] 28, .ow (Kd.int .i64) 3 A456 c457 r443.1.Shape, .ow Kd.float 44 A458 c459 s483.2, .bx b21 [.slice none 0 0, .slice none 0 0] 28, .sl kTensor A0 c0 x0] w) ?_ ?_
    · refine wpLoop (ref6_Tree.l2 x0 s483) r504 (fun (s501 : (Int × (List Nat))) (a : Act) (w : World) => ∃ (A502 : Option Addr) (c503 : Nat), Fr 79 a [(0, .slice A0 x0.length c0), (2, .pointer (some ⟨b21, 0, none⟩)), (5, .pointer (some ⟨b467, 0, none⟩)), (7, .int .i64 s483.1), (8, .slice A502 s501.2.length c503), (9, .int .i64 s501.1)] ∧ Mem [] M w0 [.ow Kd.float 44 A502 c503 s501.2, .bx b467 [.slice A456 r443.1.Shape.length c457, .slice A458 s483.2.length c459] 28, .ow (Kd.int .i64) 3 A456 c457 r443.1.Shape, .ow Kd.float 44 A458 c459 s483.2, .bx b21 [.slice none 0 0, .slice none 0 0] 28, .sl kTensor A0 c0 x0] w) (0, ([] : (List Nat))) hr504 ⟨none, 0, hf496.sel (l := [0, 2, 5, 7, 8, 9]) (by kernel_rfl), hm498.sel [0, 1, 2, 3, 4, 5] _ rfl (by kernel_rfl)⟩ ?_
      rintro g505 s501 a506 w507 H2 ⟨A502, c503, hf508, hm509⟩
      unfold ref6_Tree.l2 at H2
      refine wp_seq ?_
      refine wp_seq ?_
      rcases ifS_split H2 with ⟨c510, H2⟩ | ⟨c510, H2⟩
      rotate_left
      · refine reg [.bool false] [0, 2, 5, 7, 8, 9, 58] [(0, .slice A0 x0.length c0), (2, .pointer (some ⟨b21, 0, none⟩)), (5, .pointer (some ⟨b467, 0, none⟩)), (7, .int .i64 s483.1), (8, .slice A502 s501.2.length c503), (9, .int .i64 s501.1), (58, .bool false)] [.is (decide (s501.1 < (x0.length : Int)) = false)] hf508 (by kernel_rfl) ⟨(decide_eq_false c510), trivial⟩ fun a553 hf554 => ?_
        refine thenN ?_
        refine condF hf554 (by kernel_rfl) ?_
        refine wp_exit ?_
        refine thenE ?_
        refine thenE ?_
        obtain rfl := Option.some.inj H2
        exact .inl ⟨rfl, A502, c503, hf554.sel (l := [0, 2, 5, 7, 8, 9]) (by kernel_rfl), hm509.sel [0, 1, 2, 3, 4, 5] _ rfl (by kernel_rfl)⟩
      refine reg [.bool true] [0, 2, 5, 7, 8, 9, 58] [(0, .slice A0 x0.length c0), (2, .pointer (some ⟨b21, 0, none⟩)), (5, .pointer (some ⟨b467, 0, none⟩)), (7, .int .i64 s483.1), (8, .slice A502 s501.2.length c503), (9, .int .i64 s501.1), (58, .bool true)] [.is (decide (s501.1 < (x0.length : Int)) = true)] hf508 (by kernel_rfl) ⟨(decide_eq_true c510), trivial⟩ fun a511 hf512 => ?_
      refine thenN ?_
      refine condT hf512 (by kernel_rfl) ?_
      refine wp_skip ?_
      refine thenN ?_
      refine wp_seq ?_
      refine wp_block ?_
      obtain ⟨g513, H2⟩ := ifS_guard H2
      obtain ⟨g514, H2⟩ := ifS_guard H2
      obtain ⟨g515, H2⟩ := ifS_guard H2
      have q516 := (hm509.slAt 5 rfl).get s501.1 g513.1 g513.2
      obtain ⟨us517, hr518, hc519⟩ := q516.2
      obtain ⟨A520, c521, A522, c523, rfl, ⟨pA520, sA520⟩, ⟨pA522, sA522⟩⟩ := kTensor.open hr518
      have hm524 := hm509.elem pA520 sA520
      have hm525 := hm524.elem pA522 sA522
      have q526 := (hm525.slAt 0 rfl).float s483.1 g514.1 g514.2
      obtain ⟨b527, hb527, kb527⟩ := q526.2
      refine inReg ?_
      refine go 9 [.slice A522 (((rd x0 s501.1).Data).length) c523, .float .f64 b527] [0, 2, 5, 7, 8, 9, 61, 69] [(0, .slice A0 x0.length c0), (2, .pointer (some ⟨b21, 0, none⟩)), (5, .pointer (some ⟨b467, 0, none⟩)), (7, .int .i64 s483.1), (8, .slice A502 s501.2.length c503), (9, .int .i64 s501.1), (61, .slice A502 s501.2.length c503), (69, .float .f64 b527)] [.is (Option.isSome A0 = true), .is (0 ≤ s501.1 ∧ s501.1 < (x0.length : Int)), .cell (((ad A0).add ((s501.1).toNat * 2)).add 1) (.slice A522 (((rd x0 s501.1).Data).length) c523), .is (Option.isSome A522 = true), .is (0 ≤ s483.1 ∧ s483.1 < ((((rd x0 s501.1).Data).length : Nat) : Int)), .cell ((ad A522).add ((s483.1).toNat * 1)) (.float .f64 b527)] hf512 (by kernel_rfl) ⟨q516.1, g513, (hc519 1 _ rfl), q526.1, g514, kb527, trivial⟩ fun a528 hf529 => ?_
      refine listOf hf529 rfl (by kernel_rfl) (aLit (cs := [.float .f64 b527]) (E := 44) (len := 1) (d := 70) hf529 (by kernel_rfl) (by kernel_rfl) ?_)
      intro b530 w531 a532 hbb530 hx534 hg535 hf533
      have hm525s := hm525.still hg535
      have hm536 := Mem.lit (kd := Kd.float) (xs := ([(rd ((rd x0 s501.1).Data) s483.1)] : List Nat)) hm525 hbb530 hx534 hg535 (Els.one (kd := Kd.float) (us := [.float .f64 b527]) (x := (rd ((rd x0 s501.1).Data) s483.1)) ⟨_, rfl, hb527⟩)
      have e545 : s501.2.length = s501.2.length := rfl
      have e546 : 1 = ([(rd ((rd x0 s501.1).Data) s483.1)] : List Nat).length := rfl
      refine listOf hf533 rfl (by kernel_rfl) (aApp (kd := Kd.float) (base := 0) (E := 44) (A := A502) (B := (some ⟨b530, 0, none⟩)) (c := c503) (c2 := 1) (xs := s501.2) (ys := ([(rd ((rd x0 s501.1).Data) s483.1)] : List Nat)) (k := s501.2.length) (m := 1) (sz := 1) (d := 71) hf533 (by kernel_rfl) e545 e546 (by kernel_rfl) rfl (by kernel_rfl) (hm536.at 3 rfl) (hm536.at2 3 0 rfl rfl).2 (hm536.cpAt 0 rfl) (Nat.zero_le _) (by have := g515; omega) ?_)
      intro A537 c538 w539 a540 ho542 hg543 hr544 hf541
      have hm547 := hm536.setOwn 3 _ rfl rfl ho542 hg543 hr544
      refine go 1 [] [0, 2, 5, 7, 8, 9] [(0, .slice A0 x0.length c0), (2, .pointer (some ⟨b21, 0, none⟩)), (5, .pointer (some ⟨b467, 0, none⟩)), (7, .int .i64 s483.1), (8, .slice A537 ((s501.2 ++ ([(rd ((rd x0 s501.1).Data) s483.1)] : List Nat)).length) c538), (9, .int .i64 s501.1)] [] hf541 (by kernel_rfl) trivial fun a548 hf549 => ?_
      refine endL rfl ?_
      have hm550 := hm547.sel [3, 4, 5, 6, 7, 8] _ rfl (by kernel_rfl)
      refine blkN ?_
      refine thenN ?_
      refine reg [] [0, 2, 5, 7, 8, 9] [(0, .slice A0 x0.length c0), (2, .pointer (some ⟨b21, 0, none⟩)), (5, .pointer (some ⟨b467, 0, none⟩)), (7, .int .i64 s483.1), (8, .slice A537 ((s501.2 ++ ([(rd ((rd x0 s501.1).Data) s483.1)] : List Nat)).length) c538), (9, .int .i64 (w64 (s501.1 + 1)))] [] hf549 (by kernel_rfl) trivial fun a551 hf552 => ?_
      exact ⟨((w64 (s501.1 + 1)), (s501.2 ++ ([(rd ((rd x0 s501.1).Data) s483.1)] : List Nat))), H2, A537, c538, hf552.sel (l := [0, 2, 5, 7, 8, 9]) (by kernel_rfl), hm550.sel [0, 1, 2, 3, 4, 5] _ rfl (by kernel_rfl)⟩
    rintro a555 w556 ⟨A502, c503, hf557, hm558⟩
    refine thenN ?_
    obtain ⟨r559, hr559, H1⟩ := obS_split H1
    obtain ⟨g560, H1⟩ := ifS_guard H1
    refine midReg (fun (a : Act) (w : World) => Fr 79 a [(0, .slice A0 x0.length c0), (2, .pointer (some ⟨b21, 0, none⟩)), (5, .pointer (some ⟨b467, 0, none⟩)), (7, .int .i64 s483.1)] ∧ Mem [] M w0 [.bx b467 [.slice A456 r443.1.Shape.length c457, .slice A458 s483.2.length c459] 28, .ow (Kd.int .i64) 3 A456 c457 r443.1.Shape, .ow Kd.float 44 A458 c459 (put s483.2 s483.1 r559), .bx b21 [.slice none 0 0, .slice none 0 0] 28, .sl kTensor A0 c0 x0] w) ?_ ?_
    · refine anyG [6] (by kernel_rfl) fun w574 hg575 => ?_
      have hm576 := hm558.still hg575
      refine quiet0 [0, 1, 2, 3] [.slice A458 s483.2.length c459] [0, 2, 5, 7, 73, 74, 75] #[true, true, true, true, false, false, false] [(0, .slice A0 x0.length c0), (2, .pointer (some ⟨b21, 0, none⟩)), (5, .pointer (some ⟨b467, 0, none⟩)), (7, .int .i64 s483.1), (73, .slice A458 s483.2.length c459), (74, .int .i64 s483.1), (75, .slice A502 r504.2.length c503)] [.cell ⟨b467, 1, none⟩ (.slice A458 s483.2.length c459)] 3 rfl (by kernel_rfl) (fun _ _ _ _ _ h => nomatch h.1) hf557 (by kernel_rfl) ⟨(hm576.cell 1 rfl rfl), trivial⟩ fun a593 hf594 => ?_
      refine all1 4 (by kernel_rfl) ?_
      have hm595 : Mem [] M w0 [.sl Kd.float A502 c503 r504.2, .bx b467 [.slice A456 r443.1.Shape.length c457, .slice A458 s483.2.length c459] 28, .ow (Kd.int .i64) 3 A456 c457 r443.1.Shape, .ow Kd.float 44 A458 c459 s483.2, .bx b21 [.slice none 0 0, .slice none 0 0] 28, .sl kTensor A0 c0 x0] w574 := hm576.seal 0 _ rfl rfl
      refine opOf hf594 rfl (by kernel_rfl) (aCall (fid := 52) (args := [.slice A502 r504.2.length c503]) (d := 76) hf594 (by kernel_rfl) (by kernel_rfl) callable52 (ref1_Fold.calls _ _ r504.2 A502 r504.2.length c503 rfl (hm595.give [0] [.sl Kd.float A502 c503 r504.2] rfl rfl) r559 hr559) ?_)
      rintro _ w597 a598 ⟨b596, rfl, hb596, hk600⟩ hf599
      refine ⟨.inr (Gr.still hk600.cum.none), ?_⟩
      have hm601 := hm576.still hk600.cum.none
      have q602 := (hm601.owAt 3 rfl).float s483.1 g560.1 g560.2
      obtain ⟨b603, hb603, kb603⟩ := q602.2
      refine quiet0 [5] [] [0, 2, 5, 7, 76, 77] #[true, true, true, true, true, true, false] [(0, .slice A0 x0.length c0), (2, .pointer (some ⟨b21, 0, none⟩)), (5, .pointer (some ⟨b467, 0, none⟩)), (7, .int .i64 s483.1), (76, .float .f64 b596), (77, .pointer (some ((ad A458).add ((s483.1).toNat * 1))))] [.is (Option.isSome A458 = true), .is (0 ≤ s483.1 ∧ s483.1 < (s483.2.length : Int))] 1 rfl (by kernel_rfl) (fun _ _ _ _ _ h => nomatch h.1) hf599 (by kernel_rfl) ⟨q602.1, g560, trivial⟩ fun a604 hf605 => ?_
      refine all1 6 (by kernel_rfl) ?_
      refine opOf hf605 rfl (by kernel_rfl) (aStoreO (kd := Kd.float) (base := 0) (E := 44) (A := A458) (c := c459) (xs := s483.2) (i := s483.1) (x := r559) (us := [.float .f64 b596]) (sz := 1) hf605 (by kernel_rfl) rfl (by kernel_rfl) (hm601.at 3 rfl) ⟨_, rfl, hb596⟩ g560.1 g560.2 ?_)
      intro w606 hx607 hg608
      refine ⟨.inl (by decide), ?_⟩
      have hm609 := hm601.setOwn 3 _ rfl rfl hx607 hg608 (.inl rfl)
      refine allDone (by kernel_rfl) ⟨rfl, hf605.sel (l := [0, 2, 5, 7]) (by kernel_rfl), hm609.sel [1, 2, 3, 4, 5] _ rfl (by kernel_rfl)⟩
    rintro a610 w611 ⟨hf612, hm613⟩
    refine blkN ?_
    refine thenN ?_
    refine reg [] [0, 2, 5, 7] [(0, .slice A0 x0.length c0), (2, .pointer (some ⟨b21, 0, none⟩)), (5, .pointer (some ⟨b467, 0, none⟩)), (7, .int .i64 (w64 (s483.1 + 1)))] [] hf612 (by kernel_rfl) trivial fun a614 hf615 => ?_
    have hf616 : Fr 79 a614 [(0, .slice A0 x0.length c0), (2, .pointer (some ⟨b21, 0, none⟩)), (5, .pointer (some ⟨b467, 0, none⟩)), (7, .int .i64 (w64 (s483.1 + 1)))] := hf615.sel (l := [0, 2, 5, 7]) (by kernel_rfl)
    have hm617 : Mem [] M w0 [.bx b467 [.slice A456 r443.1.Shape.length c457, .slice A458 s483.2.length c459] 28, .ow (Kd.int .i64) 3 A456 c457 r443.1.Shape, .ow Kd.float 44 A458 c459 (put s483.2 s483.1 r559), .bx b21 [.slice none 0 0, .slice none 0 0] 28, .sl kTensor A0 c0 x0] w611 := hm613.sel [0, 1, 2, 3, 4] _ rfl (by kernel_rfl)
    exact ⟨((w64 (s483.1 + 1)), (put s483.2 s483.1 r559)), H1, (by simpa only [put_length, List.length_nil] using hf616), (by simpa only [put_length, List.length_nil] using hm617)⟩
  rintro a620 w621 ⟨hf622, hm623⟩
  refine thenN ?_
  refine wp_seq ?_
  refine inReg ?_
  refine go 1 [.agg #[.slice A456 r443.1.Shape.length c457, .slice A458 r484.2.length c459]] [2, 78] [(2, .pointer (some ⟨b21, 0, none⟩)), (78, .agg #[.slice A456 r443.1.Shape.length c457, .slice A458 r484.2.length c459])] [.cell ⟨b467, 0, none⟩ (.slice A456 r443.1.Shape.length c457), .cell ⟨b467, 1, none⟩ (.slice A458 r484.2.length c459)] hf622 (by kernel_rfl) ⟨(hm623.cell 0 rfl rfl), (hm623.cell 0 rfl rfl), trivial⟩ fun a624 hf625 => ?_
  refine listOf hf625 rfl (by kernel_rfl) (aStoreB (b := b21) (j := 0) (T := 28) (cs := [.slice none 0 0, .slice none 0 0]) (us := [.slice A456 r443.1.Shape.length c457, .slice A458 r484.2.length c459]) (cs' := [.slice A456 r443.1.Shape.length c457, .slice A458 r484.2.length c459]) hf625 (by kernel_rfl) (hm623.bxAt 3 rfl) (by kernel_rfl) (by kernel_rfl) (by kernel_rfl) ?_)
  intro w626 hx627 hg628
  have hm629 := hm623.setBox 3 _ rfl rfl hx627 hg628
  refine go 1 [] [2, 3] [(2, .pointer (some ⟨b21, 0, none⟩)), (3, .int .i64 0)] [] hf625 (by kernel_rfl) trivial fun a630 hf631 => ?_
  refine endL rfl ?_
  have hm632 := hm629.sel [1, 2, 3] _ rfl (by kernel_rfl)
  refine thenN ?_
  refine wp_ret ?_
  have hm633 : Mem [] M w0 [.ow (Kd.int .i64) 3 A456 c457 r443.1.Shape, .ow Kd.float 44 A458 c459 r484.2] w626 := hm632.sel [0, 1] _ rfl (by kernel_rfl)
  obtain rfl := Option.some.inj H0
  refine ret [.agg #[.slice A456 r443.1.Shape.length c457, .slice A458 r484.2.length c459]] [.agg #[.slice A456 r443.1.Shape.length c457, .slice A458 r484.2.length c459], .int .i64 0] [.cell ⟨b21, 0, none⟩ (.slice A456 r443.1.Shape.length c457), .cell ⟨b21, 1, none⟩ (.slice A458 r484.2.length c459)] hf631 (by kernel_rfl) ⟨(hm632.cell 2 rfl rfl), (hm632.cell 2 rfl rfl), trivial⟩ ?_
  exact ⟨_, rfl, A456, c457, A458, c459, rfl, hm633⟩
end Go.Proofs.Ytkcgiolledmbnab
