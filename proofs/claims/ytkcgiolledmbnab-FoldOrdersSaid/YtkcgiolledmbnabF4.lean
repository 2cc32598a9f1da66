/- Printed by gen.py. -/
import Derived.Test.YtkcgiolledmbnabF1
import Derived.Test.YtkcgiolledmbnabF2
import Derived.Test.YtkcgiolledmbnabF3
namespace Go.Proofs.Ytkcgiolledmbnab
open Go Go.RowKit
set_option linter.unusedSimpArgs false
set_option linter.unusedVariables false
set_option linter.unnecessarySimpa false
/-! ### backstitch/fold.Tree -/
noncomputable def fold_Tree.l0 (x0 : (List Tensor)) (s50 : Int) : Step Int (Out2 Int (Tensor × Int)) :=
  if s50 < (x0.length : Int) then (if 0 ≤ s50 ∧ s50 < (x0.length : Int) then (bindS (tensor_May.f (⟨((rd x0 s50).Shape), ((rd x0 s50).Data)⟩ : Tensor)) fun r85 =>
  if r85 = true then (if (0 : Int) ≤ 0 ∧ 0 < (x0.length : Int) then (bindS (shape_Same.f ((rd x0 s50).Shape) ((rd x0 0).Shape)) fun r88 =>
  if r88 = true then (.next (w64 (s50 + 1)))
  else (.done (.ret ((⟨([] : (List Int)), ([] : (List Nat))⟩ : Tensor), 2))))
  else .bad)
  else (.done (.ret ((⟨([] : (List Int)), ([] : (List Nat))⟩ : Tensor), 2))))
  else .bad)
  else (.done (.go s50))
noncomputable def fold_Tree.l2 (x0 : (List Tensor)) (s366 : (Int × (List Nat) × (List Nat))) (s380 : (Int × (List Nat))) : Step (Int × (List Nat)) (Int × (List Nat)) :=
  if s380.1 < (x0.length : Int) then (if 0 ≤ s380.1 ∧ s380.1 < (x0.length : Int) then (if 0 ≤ s366.1 ∧ s366.1 < ((((rd x0 s380.1).Data).length : Nat) : Int) then (if 0 ≤ s380.1 ∧ s380.1 < (s380.2.length : Int) then (.next ((w64 (s380.1 + 1)), (put s380.2 s380.1 (rd ((rd x0 s380.1).Data) s366.1))))
  else .bad)
  else .bad)
  else .bad)
  else (.done (s380.1, s380.2))
noncomputable def fold_Tree.l1 (r316 : Tensor) (x0 : (List Tensor)) (s366 : (Int × (List Nat) × (List Nat))) : Step (Int × (List Nat) × (List Nat)) (Int × (List Nat) × (List Nat)) :=
  if s366.1 < (r316.Data.length : Int) then (bindS (loop (fold_Tree.l2 x0 s366) (0, s366.2.1)) fun r381 =>
  bindS (real_Fold.f r381.2) fun r439 =>
  if 0 ≤ s366.1 ∧ s366.1 < (s366.2.2.length : Int) then (.next ((w64 (s366.1 + 1)), r381.2, (put s366.2.2 s366.1 r439)))
  else .bad)
  else (.done (s366.1, s366.2.1, s366.2.2))
noncomputable def fold_Tree.f (x0 : (List Tensor)) : Option (Tensor × Int) :=
  if (x0.length : Int) = 0 then (some ((⟨([] : (List Int)), ([] : (List Nat))⟩ : Tensor), 1))
  else ((loop (fold_Tree.l0 x0) 0).bind fun r51 =>
  r51.on (fun yr51 =>
  if (0 : Int) ≤ 0 ∧ 0 < (x0.length : Int) then ((tensor_Copy.f (⟨((rd x0 0).Shape), ((rd x0 0).Data)⟩ : Tensor)).bind fun r316 =>
  if 0 ≤ (x0.length : Int) ∧ (x0.length : Int) ≤ 1099511627776 then ((loop (fold_Tree.l1 r316 x0) (0, (List.replicate ((x0.length : Int)).toNat (0 : Nat)), r316.Data)).bind fun r367 =>
  some ((⟨r316.Shape, r367.2.2⟩ : Tensor), 0))
  else none)
  else none) (fun y => some y))
set_option maxRecDepth 100000 in
set_option maxHeartbeats 4000000 in
theorem fold_Tree.calls (M : List (Option Nat)) (w0 : World) (x0 : (List Tensor)) (A0 : Option Addr) (n0 c0 : Nat) (e0 : n0 = x0.length) (hm0 : Mem [] M w0 [.sl kTensor A0 c0 x0] w0) (r : (Tensor × Int)) (H0 : fold_Tree.f x0 = some r) :
    Calls Try.prog 17 [.slice A0 n0 c0].toArray w0 (fun x w' => ∃ v, x = .returned v ∧ ∃ Ar0_0 cr0_0 Ar0_1 cr0_1, v = .tuple #[.agg #[.slice Ar0_0 r.1.Shape.length cr0_0, .slice Ar0_1 r.1.Data.length cr0_1], .int .i64 r.2] ∧ Mem [] M w0 [.ow (Kd.int .i64) 3 Ar0_0 cr0_0 r.1.Shape, .ow Kd.float 44 Ar0_1 cr0_1 r.1.Data] w') := by
  subst e0
  unfold fold_Tree.f at H0
  refine enter (n := 73) Try.func17 rfl rfl (by kernel_rfl) fun a0 (hf0 : Fr 73 a0 [(0, .slice A0 x0.length c0)]) => ?_
  refine wp_seq ?_
  refine inReg ?_
  refine listOf hf0 rfl (by kernel_rfl) (aNew (cs := [.slice none 0 0, .slice none 0 0]) (T := 28) (d := 2) hf0 (by kernel_rfl) (by kernel_rfl) ?_)
  intro b21 w22 a23 hbb21 hx25 hg26 hf24
  have hm27 := hm0.box hbb21 hx25 hg26
  refine go 1 [] [0, 2] [(0, .slice A0 x0.length c0), (2, .pointer (some ⟨b21, 0, none⟩))] [] hf24 (by kernel_rfl) trivial fun a28 hf29 => ?_
  refine endL rfl ?_
  refine thenN ?_
  refine wp_seq ?_
  refine wp_seq ?_
  rcases if_split H0 with ⟨c30, H0⟩ | ⟨c30, H0⟩
  · refine reg [.bool true] [0, 2, 13] [(0, .slice A0 x0.length c0), (2, .pointer (some ⟨b21, 0, none⟩)), (13, .bool true)] [.is ((((x0.length : Int) : Int) == 0) = true)] hf29 (by kernel_rfl) ⟨(eqT c30), trivial⟩ fun a31 hf32 => ?_
    refine thenN ?_
    refine condT hf32 (by kernel_rfl) ?_
    refine wp_seq ?_
    refine inReg ?_
    refine go 1 [] [2, 14] [(2, .pointer (some ⟨b21, 0, none⟩)), (14, .agg #[.slice none 0 0, .slice none 0 0])] [] hf32 (by kernel_rfl) trivial fun a33 hf34 => ?_
    refine listOf hf34 rfl (by kernel_rfl) (aStoreB (b := b21) (j := 0) (T := 28) (cs := [.slice none 0 0, .slice none 0 0]) (us := [.slice none 0 0, .slice none 0 0]) (cs' := [.slice none 0 0, .slice none 0 0]) hf34 (by kernel_rfl) (hm27.bxAt 0 rfl) (by kernel_rfl) (by kernel_rfl) (by kernel_rfl) ?_)
    intro w35 hx36 hg37
    have hm38 := hm27.setBox 0 _ rfl rfl hx36 hg37
    refine go 1 [] [2, 3] [(2, .pointer (some ⟨b21, 0, none⟩)), (3, .int .i64 1)] [] hf34 (by kernel_rfl) trivial fun a39 hf40 => ?_
    refine endL rfl ?_
    have hm41 := hm38.sel [0] _ rfl (by kernel_rfl)
    refine thenN ?_
    refine wp_ret ?_
    refine thenR ?_
    have hm42 := hm41.nilOw (Kd.int .i64) 3
    have hm43 := hm42.nilOw Kd.float 44
    have hm44 : Mem [] M w0 [.ow (Kd.int .i64) 3 none 0 ([] : (List Int)), .ow Kd.float 44 none 0 ([] : (List Nat))] w35 := hm43.sel [1, 0] _ rfl (by kernel_rfl)
    obtain rfl := Option.some.inj H0
    refine ret [.agg #[.slice none 0 0, .slice none 0 0]] [.agg #[.slice none 0 0, .slice none 0 0], .int .i64 1] [.cell ⟨b21, 0, none⟩ (.slice none 0 0), .cell ⟨b21, 1, none⟩ (.slice none 0 0)] hf40 (by kernel_rfl) ⟨(hm41.cell 0 rfl rfl), (hm41.cell 0 rfl rfl), trivial⟩ ?_
    exact ⟨_, rfl, none, 0, none, 0, rfl, hm44⟩
  refine reg [.bool false] [0, 2, 13] [(0, .slice A0 x0.length c0), (2, .pointer (some ⟨b21, 0, none⟩)), (13, .bool false)] [.is ((((x0.length : Int) : Int) == 0) = false)] hf29 (by kernel_rfl) ⟨(eqF c30), trivial⟩ fun a46 hf47 => ?_
  refine thenN ?_
  refine condF hf47 (by kernel_rfl) ?_
  refine wp_skip ?_
  refine thenN ?_
  refine wp_seq ?_
  refine wp_seq ?_
  refine reg [] [0, 2, 15, 16, 17] [(0, .slice A0 x0.length c0), (2, .pointer (some ⟨b21, 0, none⟩)), (15, .slice A0 x0.length c0), (16, .int .i64 (x0.length : Int)), (17, .int .i64 0)] [] hf47 (by kernel_rfl) trivial fun a48 hf49 => ?_
  refine thenN ?_
  obtain ⟨r51, hr51, H0⟩ := ob_split H0
  refine wpBlock (Mid := fun (a : Act) (w : World) => ∃ yr51 : Int, r51 = .go yr51 ∧ Fr 73 a [(0, .slice A0 x0.length c0), (2, .pointer (some ⟨b21, 0, none⟩)), (15, .slice A0 x0.length c0), (16, .int .i64 (x0.length : Int)), (17, .int .i64 yr51)] ∧ Mem [] M w0 [.bx b21 [.slice none 0 0, .slice none 0 0] 28, .sl kTensor A0 c0 x0] w) ?_ ?_
  · refine wpLoop (fold_Tree.l0 x0) r51 (fun (s50 : Int) (a : Act) (w : World) => Fr 73 a [(0, .slice A0 x0.length c0), (2, .pointer (some ⟨b21, 0, none⟩)), (15, .slice A0 x0.length c0), (16, .int .i64 (x0.length : Int)), (17, .int .i64 s50)] ∧ Mem [] M w0 [.bx b21 [.slice none 0 0, .slice none 0 0] 28, .sl kTensor A0 c0 x0] w) 0 hr51 ⟨hf49.sel (l := [0, 2, 15, 16, 17]) (by kernel_rfl), hm27.sel [0, 1] _ rfl (by kernel_rfl)⟩ ?_
    rintro g52 s50 a53 w54 H1 ⟨hf55, hm56⟩
    unfold fold_Tree.l0 at H1
    refine wp_seq ?_
    rcases ifS_split H1 with ⟨c57, H1⟩ | ⟨c57, H1⟩
    rotate_left
    · refine reg [.bool false] [0, 2, 15, 16, 17, 18] [(0, .slice A0 x0.length c0), (2, .pointer (some ⟨b21, 0, none⟩)), (15, .slice A0 x0.length c0), (16, .int .i64 (x0.length : Int)), (17, .int .i64 s50), (18, .bool false)] [.is (decide (s50 < (x0.length : Int)) = false)] hf55 (by kernel_rfl) ⟨(decide_eq_false c57), trivial⟩ fun a309 hf310 => ?_
      refine thenN ?_
      refine wp_seq ?_
      refine condF hf310 (by kernel_rfl) ?_
      refine wp_exit ?_
      refine thenE ?_
      refine thenE ?_
      obtain rfl := Option.some.inj H1
      exact .inl ⟨rfl, s50, rfl, hf310.sel (l := [0, 2, 15, 16, 17]) (by kernel_rfl), hm56.sel [0, 1] _ rfl (by kernel_rfl)⟩
    refine reg [.bool true] [0, 2, 15, 16, 17, 18] [(0, .slice A0 x0.length c0), (2, .pointer (some ⟨b21, 0, none⟩)), (15, .slice A0 x0.length c0), (16, .int .i64 (x0.length : Int)), (17, .int .i64 s50), (18, .bool true)] [.is (decide (s50 < (x0.length : Int)) = true)] hf55 (by kernel_rfl) ⟨(decide_eq_true c57), trivial⟩ fun a58 hf59 => ?_
    refine thenN ?_
    refine wp_seq ?_
    refine condT hf59 (by kernel_rfl) ?_
    refine wp_skip ?_
    refine thenN ?_
    refine wp_seq ?_
    refine wp_block ?_
    refine wp_seq ?_
    obtain ⟨g60, H1⟩ := ifS_guard H1
    have q61 := (hm56.slAt 1 rfl).get s50 g60.1 g60.2
    obtain ⟨us62, hr63, hc65⟩ := q61.2
    obtain ⟨A66, c67, A68, c69, rfl, ⟨pA66, sA66⟩, ⟨pA68, sA68⟩⟩ := kTensor.open hr63
    have hm70 := hm56.elem pA66 sA66
    have hm71 := hm70.elem pA68 sA68
    refine inReg ?_
    refine go 2 [.agg #[.slice A66 (((rd x0 s50).Shape).length) c67, .slice A68 (((rd x0 s50).Data).length) c69]] [0, 2, 15, 16, 17, 20] [(0, .slice A0 x0.length c0), (2, .pointer (some ⟨b21, 0, none⟩)), (15, .slice A0 x0.length c0), (16, .int .i64 (x0.length : Int)), (17, .int .i64 s50), (20, .agg #[.slice A66 (((rd x0 s50).Shape).length) c67, .slice A68 (((rd x0 s50).Data).length) c69])] [.is (Option.isSome A0 = true), .is (0 ≤ s50 ∧ s50 < (x0.length : Int)), .cell ((ad A0).add ((s50).toNat * 2)) (.slice A66 (((rd x0 s50).Shape).length) c67), .cell (((ad A0).add ((s50).toNat * 2)).add 1) (.slice A68 (((rd x0 s50).Data).length) c69)] hf59 (by kernel_rfl) ⟨q61.1, g60, (hc65 0 _ rfl), (hc65 1 _ rfl), trivial⟩ fun a72 hf73 => ?_
    refine listOf hf73 rfl (by kernel_rfl) (aNew (cs := [.slice none 0 0, .slice none 0 0]) (T := 28) (d := 5) hf73 (by kernel_rfl) (by kernel_rfl) ?_)
    intro b74 w75 a76 hbb74 hx78 hg79 hf77
    have hm80 := hm71.box hbb74 hx78 hg79
    refine listOf hf77 rfl (by kernel_rfl) (aStoreB (b := b74) (j := 0) (T := 28) (cs := [.slice none 0 0, .slice none 0 0]) (us := [.slice A66 (((rd x0 s50).Shape).length) c67, .slice A68 (((rd x0 s50).Data).length) c69]) (cs' := [.slice A66 (((rd x0 s50).Shape).length) c67, .slice A68 (((rd x0 s50).Data).length) c69]) hf77 (by kernel_rfl) (hm80.bxAt 0 rfl) (by kernel_rfl) (by kernel_rfl) (by kernel_rfl) ?_)
    intro w81 hx82 hg83
    have hm84 := hm80.setBox 0 _ rfl rfl hx82 hg83
    refine endL rfl ?_
    refine thenN ?_
    refine wp_seq ?_
    obtain ⟨r85, hr85, H1⟩ := obS_split H1
    rcases ifbS_split H1 with ⟨c86, H1⟩ | ⟨c86, H1⟩
    rotate_left
    · refine midReg (fun (a : Act) (w : World) => Fr 73 a [(0, .slice A0 x0.length c0), (2, .pointer (some ⟨b21, 0, none⟩)), (15, .slice A0 x0.length c0), (16, .int .i64 (x0.length : Int)), (17, .int .i64 s50), (33, .bool true)] ∧ Mem [] M w0 [.bx b21 [.slice none 0 0, .slice none 0 0] 28, .sl kTensor A0 c0 x0] w) ?_ ?_
      · refine anyG [] (by kernel_rfl) fun w271 hg272 => ?_
        have hm273 := hm84.still hg272
        refine quiet0 [0] [.agg #[.slice A66 (((rd x0 s50).Shape).length) c67, .slice A68 (((rd x0 s50).Data).length) c69]] [0, 2, 5, 15, 16, 17, 21] #[true, false, false, false, false, false, false, false, false, false, false, false, false] [(0, .slice A0 x0.length c0), (2, .pointer (some ⟨b21, 0, none⟩)), (5, .pointer (some ⟨b74, 0, none⟩)), (15, .slice A0 x0.length c0), (16, .int .i64 (x0.length : Int)), (17, .int .i64 s50), (21, .agg #[.slice A66 (((rd x0 s50).Shape).length) c67, .slice A68 (((rd x0 s50).Data).length) c69])] [.cell ⟨b74, 0, none⟩ (.slice A66 (((rd x0 s50).Shape).length) c67), .cell ⟨b74, 1, none⟩ (.slice A68 (((rd x0 s50).Data).length) c69)] 12 rfl (by kernel_rfl) (fun _ _ _ _ _ h => nomatch h.1) hf77 (by kernel_rfl) ⟨(hm273.cell 0 rfl rfl), (hm273.cell 0 rfl rfl), trivial⟩ fun a283 hf284 => ?_
        refine all1 1 (by kernel_rfl) ?_
        refine opOf hf284 rfl (by kernel_rfl) (aCall (fid := 38) (args := [.agg #[.slice A66 (((rd x0 s50).Shape).length) c67, .slice A68 (((rd x0 s50).Data).length) c69]]) (d := 22) hf284 (by kernel_rfl) (by kernel_rfl) callable38 (tensor_May.calls _ _ (⟨((rd x0 s50).Shape), ((rd x0 s50).Data)⟩ : Tensor) A66 (((rd x0 s50).Shape).length) c67 rfl A68 (((rd x0 s50).Data).length) c69 rfl (hm273.give [2, 1] [.sl (Kd.int .i64) A66 c67 ((rd x0 s50).Shape), .sl Kd.float A68 c69 ((rd x0 s50).Data)] rfl rfl) r85 hr85) ?_)
        rintro _ w285 a286 ⟨rfl, hk288⟩ hf287
        refine ⟨.inr (Gr.still hk288.cum.none), ?_⟩
        have hm289 := hm273.still hk288.cum.none
        rw [c86] at hf287
        refine quiet0 [2, 3, 4, 5, 6, 7, 8, 9, 10, 11, 12] [] [0, 2, 15, 16, 17, 33] #[true, true, true, true, true, true, true, true, true, true, true, true, true] [(0, .slice A0 x0.length c0), (2, .pointer (some ⟨b21, 0, none⟩)), (15, .slice A0 x0.length c0), (16, .int .i64 (x0.length : Int)), (17, .int .i64 s50), (33, .bool true)] [] 0 rfl (by kernel_rfl) (fun _ _ _ _ _ h => nomatch h.1) hf287 (by kernel_rfl) trivial fun a290 hf291 => ?_
        refine allDone (by kernel_rfl) ⟨rfl, hf291.sel (l := [0, 2, 15, 16, 17, 33]) (by kernel_rfl), hm289.sel [3, 4] _ rfl (by kernel_rfl)⟩
      rintro a292 w293 ⟨hf294, hm295⟩
      refine thenN ?_
      refine condT hf294 (by kernel_rfl) ?_
      refine wp_seq ?_
      refine inReg ?_
      refine go 1 [] [2, 34] [(2, .pointer (some ⟨b21, 0, none⟩)), (34, .agg #[.slice none 0 0, .slice none 0 0])] [] hf294 (by kernel_rfl) trivial fun a296 hf297 => ?_
      refine listOf hf297 rfl (by kernel_rfl) (aStoreB (b := b21) (j := 0) (T := 28) (cs := [.slice none 0 0, .slice none 0 0]) (us := [.slice none 0 0, .slice none 0 0]) (cs' := [.slice none 0 0, .slice none 0 0]) hf297 (by kernel_rfl) (hm295.bxAt 0 rfl) (by kernel_rfl) (by kernel_rfl) (by kernel_rfl) ?_)
      intro w298 hx299 hg300
      have hm301 := hm295.setBox 0 _ rfl rfl hx299 hg300
      refine go 1 [] [2, 3] [(2, .pointer (some ⟨b21, 0, none⟩)), (3, .int .i64 2)] [] hf297 (by kernel_rfl) trivial fun a302 hf303 => ?_
      refine endL rfl ?_
      have hm304 := hm301.sel [0] _ rfl (by kernel_rfl)
      refine thenN ?_
      refine wp_ret ?_
      refine blkR ?_
      refine thenR ?_
      refine thenR ?_
      refine .inr ⟨rfl, ?_⟩
      refine thenR ?_
      have hm305 := hm304.nilOw (Kd.int .i64) 3
      have hm306 := hm305.nilOw Kd.float 44
      have hm307 : Mem [] M w0 [.ow (Kd.int .i64) 3 none 0 ([] : (List Int)), .ow Kd.float 44 none 0 ([] : (List Nat))] w298 := hm306.sel [1, 0] _ rfl (by kernel_rfl)
      obtain rfl := Option.some.inj H1
      obtain rfl := Option.some.inj H0
      refine ret [.agg #[.slice none 0 0, .slice none 0 0]] [.agg #[.slice none 0 0, .slice none 0 0], .int .i64 2] [.cell ⟨b21, 0, none⟩ (.slice none 0 0), .cell ⟨b21, 1, none⟩ (.slice none 0 0)] hf303 (by kernel_rfl) ⟨(hm304.cell 0 rfl rfl), (hm304.cell 0 rfl rfl), trivial⟩ ?_
      exact ⟨_, rfl, none, 0, none, 0, rfl, hm307⟩
    obtain ⟨g87, H1⟩ := ifS_guard H1
    obtain ⟨r88, hr88, H1⟩ := obS_split H1
    rcases ifbS_split H1 with ⟨c89, H1⟩ | ⟨c89, H1⟩
    · refine midReg (fun (a : Act) (w : World) => Fr 73 a [(0, .slice A0 x0.length c0), (2, .pointer (some ⟨b21, 0, none⟩)), (15, .slice A0 x0.length c0), (16, .int .i64 (x0.length : Int)), (17, .int .i64 s50), (33, .bool false)] ∧ Mem [] M w0 [.bx b21 [.slice none 0 0, .slice none 0 0] 28, .sl kTensor A0 c0 x0] w) ?_ ?_
      · refine anyG [] (by kernel_rfl) fun w111 hg112 => ?_
        have hm113 := hm84.still hg112
        refine quiet0 [0] [.agg #[.slice A66 (((rd x0 s50).Shape).length) c67, .slice A68 (((rd x0 s50).Data).length) c69]] [0, 2, 5, 15, 16, 17, 21] #[true, false, false, false, false, false, false, false, false, false, false, false, false] [(0, .slice A0 x0.length c0), (2, .pointer (some ⟨b21, 0, none⟩)), (5, .pointer (some ⟨b74, 0, none⟩)), (15, .slice A0 x0.length c0), (16, .int .i64 (x0.length : Int)), (17, .int .i64 s50), (21, .agg #[.slice A66 (((rd x0 s50).Shape).length) c67, .slice A68 (((rd x0 s50).Data).length) c69])] [.cell ⟨b74, 0, none⟩ (.slice A66 (((rd x0 s50).Shape).length) c67), .cell ⟨b74, 1, none⟩ (.slice A68 (((rd x0 s50).Data).length) c69)] 12 rfl (by kernel_rfl) (fun _ _ _ _ _ h => nomatch h.1) hf77 (by kernel_rfl) ⟨(hm113.cell 0 rfl rfl), (hm113.cell 0 rfl rfl), trivial⟩ fun a140 hf141 => ?_
        refine all1 1 (by kernel_rfl) ?_
        refine opOf hf141 rfl (by kernel_rfl) (aCall (fid := 38) (args := [.agg #[.slice A66 (((rd x0 s50).Shape).length) c67, .slice A68 (((rd x0 s50).Data).length) c69]]) (d := 22) hf141 (by kernel_rfl) (by kernel_rfl) callable38 (tensor_May.calls _ _ (⟨((rd x0 s50).Shape), ((rd x0 s50).Data)⟩ : Tensor) A66 (((rd x0 s50).Shape).length) c67 rfl A68 (((rd x0 s50).Data).length) c69 rfl (hm113.give [2, 1] [.sl (Kd.int .i64) A66 c67 ((rd x0 s50).Shape), .sl Kd.float A68 c69 ((rd x0 s50).Data)] rfl rfl) r85 hr85) ?_)
        rintro _ w142 a143 ⟨rfl, hk145⟩ hf144
        refine ⟨.inr (Gr.still hk145.cum.none), ?_⟩
        have hm146 := hm113.still hk145.cum.none
        rw [c86] at hf144
        have q147 := (hm146.slAt 4 rfl).get 0 g87.1 g87.2
        obtain ⟨us148, hr149, hc150⟩ := q147.2
        obtain ⟨A151, c152, A153, c154, rfl, ⟨pA151, sA151⟩, ⟨pA153, sA153⟩⟩ := kTensor.open hr149
        have hm155 := hm146.elem pA151 sA151
        have hm156 := hm155.elem pA153 sA153
        refine quiet0 [2, 3, 4, 5, 6, 7, 8, 9] [.slice A66 (((rd x0 s50).Shape).length) c67, .slice A151 (((rd x0 0).Shape).length) c152] [0, 2, 15, 16, 17, 24, 26, 30] #[true, true, true, true, true, true, true, true, true, true, false, false, false] [(0, .slice A0 x0.length c0), (2, .pointer (some ⟨b21, 0, none⟩)), (15, .slice A0 x0.length c0), (16, .int .i64 (x0.length : Int)), (17, .int .i64 s50), (24, .bool false), (26, .slice A66 (((rd x0 s50).Shape).length) c67), (30, .slice A151 (((rd x0 0).Shape).length) c152)] [.cell ⟨b74, 0, none⟩ (.slice A66 (((rd x0 s50).Shape).length) c67), .is (Option.isSome A0 = true), .is ((0 : Int) ≤ 0 ∧ 0 < (x0.length : Int)), .cell ((ad A0).add ((0 : Int).toNat * 2)) (.slice A151 (((rd x0 0).Shape).length) c152)] 3 rfl (by kernel_rfl) (fun _ _ _ _ _ h => nomatch h.1) hf144 (by kernel_rfl) ⟨(hm146.cell 0 rfl rfl), q147.1, g87, (hc150 0 _ rfl), trivial⟩ fun a157 hf158 => ?_
        refine all1 10 (by kernel_rfl) ?_
        refine opOf hf158 rfl (by kernel_rfl) (aCall (fid := 48) (args := [.slice A66 (((rd x0 s50).Shape).length) c67, .slice A151 (((rd x0 0).Shape).length) c152]) (d := 31) hf158 (by kernel_rfl) (by kernel_rfl) callable48 (shape_Same.calls _ _ ((rd x0 s50).Shape) A66 (((rd x0 s50).Shape).length) c67 rfl ((rd x0 0).Shape) A151 (((rd x0 0).Shape).length) c152 rfl (hm156.give [4, 1] [.sl (Kd.int .i64) A66 c67 ((rd x0 s50).Shape), .sl (Kd.int .i64) A151 c152 ((rd x0 0).Shape)] rfl rfl) r88 hr88) ?_)
        rintro _ w159 a160 ⟨rfl, hk162⟩ hf161
        refine ⟨.inr (Gr.still hk162.cum.none), ?_⟩
        have hm163 := hm156.still hk162.cum.none
        rw [c89] at hf161
        refine quiet0 [11, 12] [] [0, 2, 15, 16, 17, 33] #[true, true, true, true, true, true, true, true, true, true, true, true, true] [(0, .slice A0 x0.length c0), (2, .pointer (some ⟨b21, 0, none⟩)), (15, .slice A0 x0.length c0), (16, .int .i64 (x0.length : Int)), (17, .int .i64 s50), (33, .bool false)] [] 0 rfl (by kernel_rfl) (fun _ _ _ _ _ h => nomatch h.1) hf161 (by kernel_rfl) trivial fun a164 hf165 => ?_
        refine allDone (by kernel_rfl) ⟨rfl, hf165.sel (l := [0, 2, 15, 16, 17, 33]) (by kernel_rfl), hm163.sel [5, 6] _ rfl (by kernel_rfl)⟩
      rintro a166 w167 ⟨hf168, hm169⟩
      refine thenN ?_
      refine condF hf168 (by kernel_rfl) ?_
      refine wp_skip ?_
      refine blkN ?_
      refine thenN ?_
      refine reg [] [0, 2, 15, 16, 17] [(0, .slice A0 x0.length c0), (2, .pointer (some ⟨b21, 0, none⟩)), (15, .slice A0 x0.length c0), (16, .int .i64 (x0.length : Int)), (17, .int .i64 (w64 (s50 + 1)))] [] hf168 (by kernel_rfl) trivial fun a170 hf171 => ?_
      exact ⟨(w64 (s50 + 1)), H1, hf171.sel (l := [0, 2, 15, 16, 17]) (by kernel_rfl), hm169.sel [0, 1] _ rfl (by kernel_rfl)⟩
    refine midReg (fun (a : Act) (w : World) => Fr 73 a [(0, .slice A0 x0.length c0), (2, .pointer (some ⟨b21, 0, none⟩)), (15, .slice A0 x0.length c0), (16, .int .i64 (x0.length : Int)), (17, .int .i64 s50), (33, .bool true)] ∧ Mem [] M w0 [.bx b21 [.slice none 0 0, .slice none 0 0] 28, .sl kTensor A0 c0 x0] w) ?_ ?_
    · refine anyG [] (by kernel_rfl) fun w193 hg194 => ?_
      have hm195 := hm84.still hg194
      refine quiet0 [0] [.agg #[.slice A66 (((rd x0 s50).Shape).length) c67, .slice A68 (((rd x0 s50).Data).length) c69]] [0, 2, 5, 15, 16, 17, 21] #[true, false, false, false, false, false, false, false, false, false, false, false, false] [(0, .slice A0 x0.length c0), (2, .pointer (some ⟨b21, 0, none⟩)), (5, .pointer (some ⟨b74, 0, none⟩)), (15, .slice A0 x0.length c0), (16, .int .i64 (x0.length : Int)), (17, .int .i64 s50), (21, .agg #[.slice A66 (((rd x0 s50).Shape).length) c67, .slice A68 (((rd x0 s50).Data).length) c69])] [.cell ⟨b74, 0, none⟩ (.slice A66 (((rd x0 s50).Shape).length) c67), .cell ⟨b74, 1, none⟩ (.slice A68 (((rd x0 s50).Data).length) c69)] 12 rfl (by kernel_rfl) (fun _ _ _ _ _ h => nomatch h.1) hf77 (by kernel_rfl) ⟨(hm195.cell 0 rfl rfl), (hm195.cell 0 rfl rfl), trivial⟩ fun a222 hf223 => ?_
      refine all1 1 (by kernel_rfl) ?_
      refine opOf hf223 rfl (by kernel_rfl) (aCall (fid := 38) (args := [.agg #[.slice A66 (((rd x0 s50).Shape).length) c67, .slice A68 (((rd x0 s50).Data).length) c69]]) (d := 22) hf223 (by kernel_rfl) (by kernel_rfl) callable38 (tensor_May.calls _ _ (⟨((rd x0 s50).Shape), ((rd x0 s50).Data)⟩ : Tensor) A66 (((rd x0 s50).Shape).length) c67 rfl A68 (((rd x0 s50).Data).length) c69 rfl (hm195.give [2, 1] [.sl (Kd.int .i64) A66 c67 ((rd x0 s50).Shape), .sl Kd.float A68 c69 ((rd x0 s50).Data)] rfl rfl) r85 hr85) ?_)
      rintro _ w224 a225 ⟨rfl, hk227⟩ hf226
      refine ⟨.inr (Gr.still hk227.cum.none), ?_⟩
      have hm228 := hm195.still hk227.cum.none
      rw [c86] at hf226
      have q229 := (hm228.slAt 4 rfl).get 0 g87.1 g87.2
      obtain ⟨us230, hr231, hc232⟩ := q229.2
      obtain ⟨A233, c234, A235, c236, rfl, ⟨pA233, sA233⟩, ⟨pA235, sA235⟩⟩ := kTensor.open hr231
      have hm237 := hm228.elem pA233 sA233
      have hm238 := hm237.elem pA235 sA235
      refine quiet0 [2, 3, 4, 5, 6, 7, 8, 9] [.slice A66 (((rd x0 s50).Shape).length) c67, .slice A233 (((rd x0 0).Shape).length) c234] [0, 2, 15, 16, 17, 24, 26, 30] #[true, true, true, true, true, true, true, true, true, true, false, false, false] [(0, .slice A0 x0.length c0), (2, .pointer (some ⟨b21, 0, none⟩)), (15, .slice A0 x0.length c0), (16, .int .i64 (x0.length : Int)), (17, .int .i64 s50), (24, .bool false), (26, .slice A66 (((rd x0 s50).Shape).length) c67), (30, .slice A233 (((rd x0 0).Shape).length) c234)] [.cell ⟨b74, 0, none⟩ (.slice A66 (((rd x0 s50).Shape).length) c67), .is (Option.isSome A0 = true), .is ((0 : Int) ≤ 0 ∧ 0 < (x0.length : Int)), .cell ((ad A0).add ((0 : Int).toNat * 2)) (.slice A233 (((rd x0 0).Shape).length) c234)] 3 rfl (by kernel_rfl) (fun _ _ _ _ _ h => nomatch h.1) hf226 (by kernel_rfl) ⟨(hm228.cell 0 rfl rfl), q229.1, g87, (hc232 0 _ rfl), trivial⟩ fun a239 hf240 => ?_
      refine all1 10 (by kernel_rfl) ?_
      refine opOf hf240 rfl (by kernel_rfl) (aCall (fid := 48) (args := [.slice A66 (((rd x0 s50).Shape).length) c67, .slice A233 (((rd x0 0).Shape).length) c234]) (d := 31) hf240 (by kernel_rfl) (by kernel_rfl) callable48 (shape_Same.calls _ _ ((rd x0 s50).Shape) A66 (((rd x0 s50).Shape).length) c67 rfl ((rd x0 0).Shape) A233 (((rd x0 0).Shape).length) c234 rfl (hm238.give [4, 1] [.sl (Kd.int .i64) A66 c67 ((rd x0 s50).Shape), .sl (Kd.int .i64) A233 c234 ((rd x0 0).Shape)] rfl rfl) r88 hr88) ?_)
      rintro _ w241 a242 ⟨rfl, hk244⟩ hf243
      refine ⟨.inr (Gr.still hk244.cum.none), ?_⟩
      have hm245 := hm238.still hk244.cum.none
      rw [c89] at hf243
      refine quiet0 [11, 12] [] [0, 2, 15, 16, 17, 33] #[true, true, true, true, true, true, true, true, true, true, true, true, true] [(0, .slice A0 x0.length c0), (2, .pointer (some ⟨b21, 0, none⟩)), (15, .slice A0 x0.length c0), (16, .int .i64 (x0.length : Int)), (17, .int .i64 s50), (33, .bool true)] [] 0 rfl (by kernel_rfl) (fun _ _ _ _ _ h => nomatch h.1) hf243 (by kernel_rfl) trivial fun a246 hf247 => ?_
      refine allDone (by kernel_rfl) ⟨rfl, hf247.sel (l := [0, 2, 15, 16, 17, 33]) (by kernel_rfl), hm245.sel [5, 6] _ rfl (by kernel_rfl)⟩
    rintro a248 w249 ⟨hf250, hm251⟩
    refine thenN ?_
    refine condT hf250 (by kernel_rfl) ?_
    refine wp_seq ?_
    refine inReg ?_
    refine go 1 [] [2, 34] [(2, .pointer (some ⟨b21, 0, none⟩)), (34, .agg #[.slice none 0 0, .slice none 0 0])] [] hf250 (by kernel_rfl) trivial fun a252 hf253 => ?_
    refine listOf hf253 rfl (by kernel_rfl) (aStoreB (b := b21) (j := 0) (T := 28) (cs := [.slice none 0 0, .slice none 0 0]) (us := [.slice none 0 0, .slice none 0 0]) (cs' := [.slice none 0 0, .slice none 0 0]) hf253 (by kernel_rfl) (hm251.bxAt 0 rfl) (by kernel_rfl) (by kernel_rfl) (by kernel_rfl) ?_)
    intro w254 hx255 hg256
    have hm257 := hm251.setBox 0 _ rfl rfl hx255 hg256
    refine go 1 [] [2, 3] [(2, .pointer (some ⟨b21, 0, none⟩)), (3, .int .i64 2)] [] hf253 (by kernel_rfl) trivial fun a258 hf259 => ?_
    refine endL rfl ?_
    have hm260 := hm257.sel [0] _ rfl (by kernel_rfl)
    refine thenN ?_
    refine wp_ret ?_
    refine blkR ?_
    refine thenR ?_
    refine thenR ?_
    refine .inr ⟨rfl, ?_⟩
    refine thenR ?_
    have hm261 := hm260.nilOw (Kd.int .i64) 3
    have hm262 := hm261.nilOw Kd.float 44
    have hm263 : Mem [] M w0 [.ow (Kd.int .i64) 3 none 0 ([] : (List Int)), .ow Kd.float 44 none 0 ([] : (List Nat))] w254 := hm262.sel [1, 0] _ rfl (by kernel_rfl)
    obtain rfl := Option.some.inj H1
    obtain rfl := Option.some.inj H0
    refine ret [.agg #[.slice none 0 0, .slice none 0 0]] [.agg #[.slice none 0 0, .slice none 0 0], .int .i64 2] [.cell ⟨b21, 0, none⟩ (.slice none 0 0), .cell ⟨b21, 1, none⟩ (.slice none 0 0)] hf259 (by kernel_rfl) ⟨(hm260.cell 0 rfl rfl), (hm260.cell 0 rfl rfl), trivial⟩ ?_
    exact ⟨_, rfl, none, 0, none, 0, rfl, hm263⟩
  rintro a311 w312 ⟨yr51, rfl, hf313, hm314⟩
  refine thenN ?_
  refine wp_seq ?_
  obtain ⟨g315, H0⟩ := if_guard H0
  obtain ⟨r316, hr316, H0⟩ := ob_split H0
  have q317 := (hm314.slAt 1 rfl).get 0 g315.1 g315.2
  obtain ⟨us318, hr319, hc320⟩ := q317.2
  obtain ⟨A321, c322, A323, c324, rfl, ⟨pA321, sA321⟩, ⟨pA323, sA323⟩⟩ := kTensor.open hr319
  have hm325 := hm314.elem pA321 sA321
  have hm326 := hm325.elem pA323 sA323
  refine inReg ?_
  refine go 3 [.agg #[.slice A321 (((rd x0 0).Shape).length) c322, .slice A323 (((rd x0 0).Data).length) c324]] [0, 2, 38] [(0, .slice A0 x0.length c0), (2, .pointer (some ⟨b21, 0, none⟩)), (38, .agg #[.slice A321 (((rd x0 0).Shape).length) c322, .slice A323 (((rd x0 0).Data).length) c324])] [.is (Option.isSome A0 = true), .is ((0 : Int) ≤ 0 ∧ 0 < (x0.length : Int)), .cell ((ad A0).add ((0 : Int).toNat * 2)) (.slice A321 (((rd x0 0).Shape).length) c322), .cell (((ad A0).add ((0 : Int).toNat * 2)).add 1) (.slice A323 (((rd x0 0).Data).length) c324)] hf313 (by kernel_rfl) ⟨q317.1, g315, (hc320 0 _ rfl), (hc320 1 _ rfl), trivial⟩ fun a327 hf328 => ?_
  refine listOf hf328 rfl (by kernel_rfl) (aCall (fid := 49) (args := [.agg #[.slice A321 (((rd x0 0).Shape).length) c322, .slice A323 (((rd x0 0).Data).length) c324]]) (d := 39) hf328 (by kernel_rfl) (by kernel_rfl) callable49 (tensor_Copy.calls _ _ (⟨((rd x0 0).Shape), ((rd x0 0).Data)⟩ : Tensor) A321 (((rd x0 0).Shape).length) c322 rfl A323 (((rd x0 0).Data).length) c324 rfl (hm326.give [1, 0] [.sl (Kd.int .i64) A321 c322 ((rd x0 0).Shape), .sl Kd.float A323 c324 ((rd x0 0).Data)] rfl rfl) r316 hr316) ?_)
  rintro _ w333 a334 ⟨A329, c330, A331, c332, rfl, hk336⟩ hf335
  have hm337 := hm326.back hk336
  refine listOf hf335 rfl (by kernel_rfl) (aNew (cs := [.slice none 0 0, .slice none 0 0]) (T := 28) (d := 6) hf335 (by kernel_rfl) (by kernel_rfl) ?_)
  intro b338 w339 a340 hbb338 hx342 hg343 hf341
  have hm344 := hm337.box hbb338 hx342 hg343
  refine listOf hf341 rfl (by kernel_rfl) (aStoreB (b := b338) (j := 0) (T := 28) (cs := [.slice none 0 0, .slice none 0 0]) (us := [.slice A329 r316.Shape.length c330, .slice A331 r316.Data.length c332]) (cs' := [.slice A329 r316.Shape.length c330, .slice A331 r316.Data.length c332]) hf341 (by kernel_rfl) (hm344.bxAt 0 rfl) (by kernel_rfl) (by kernel_rfl) (by kernel_rfl) ?_)
  intro w345 hx346 hg347
  have hm348 := hm344.setBox 0 _ rfl rfl hx346 hg347
  refine endL rfl ?_
  have hm349 := hm348.sel [0, 1, 2, 5, 6] _ rfl (by kernel_rfl)
  refine thenN ?_
  refine wp_seq ?_
  obtain ⟨g350, H0⟩ := if_guard H0
  refine inReg ?_
  refine go 2 [] [0, 2, 6, 41] [(0, .slice A0 x0.length c0), (2, .pointer (some ⟨b21, 0, none⟩)), (6, .pointer (some ⟨b338, 0, none⟩)), (41, .int .i64 (x0.length : Int))] [] hf341 (by kernel_rfl) trivial fun a351 hf352 => ?_
  refine listOf hf352 rfl (by kernel_rfl) (aMake (kd := Kd.float) (x := 0) (E := 44) (L := (x0.length : Int)) (z := [.float .f64 0]) (sz := 1) (d := 42) hf352 (by kernel_rfl) (by kernel_rfl) rfl (fun _ _ => ⟨0, rfl, FR.lit (by kernel_rfl) (by kernel_rfl)⟩) g350.1 g350.2 ?_)
  intro A353 c354 w355 a356 ho358 hb360 hg359 hf357
  have hm361 : Mem [] M w0 [.ow Kd.float 44 A353 c354 (List.replicate ((x0.length : Int)).toNat (0 : Nat)), .bx b338 [.slice A329 r316.Shape.length c330, .slice A331 r316.Data.length c332] 28, .ow (Kd.int .i64) 3 A329 c330 r316.Shape, .ow Kd.float 44 A331 c332 r316.Data, .bx b21 [.slice none 0 0, .slice none 0 0] 28, .sl kTensor A0 c0 x0] w355 := hm349.own (ho358 _) hg359
  refine go 1 [] [0, 2, 6, 7] [(0, .slice A0 x0.length c0), (2, .pointer (some ⟨b21, 0, none⟩)), (6, .pointer (some ⟨b338, 0, none⟩)), (7, .slice A353 ((List.replicate ((x0.length : Int)).toNat (0 : Nat)).length) c354)] [] hf357 (by kernel_rfl) trivial fun a362 hf363 => ?_
  refine endL rfl ?_
  refine thenN ?_
  refine wp_seq ?_
  refine wp_seq ?_
  refine reg [.slice A331 r316.Data.length c332] [0, 2, 6, 7, 45, 46] [(0, .slice A0 x0.length c0), (2, .pointer (some ⟨b21, 0, none⟩)), (6, .pointer (some ⟨b338, 0, none⟩)), (7, .slice A353 ((List.replicate ((x0.length : Int)).toNat (0 : Nat)).length) c354), (45, .int .i64 (r316.Data.length : Int)), (46, .int .i64 0)] [.cell ⟨b338, 1, none⟩ (.slice A331 r316.Data.length c332)] hf363 (by kernel_rfl) ⟨(hm361.cell 1 rfl rfl), trivial⟩ fun a364 hf365 => ?_
  refine thenN ?_
  obtain ⟨r367, hr367, H0⟩ := ob_split H0
  refine wpBlock (Mid := fun (a : Act) (w : World) => Fr 73 a [(0, .slice A0 x0.length c0), (2, .pointer (some ⟨b21, 0, none⟩)), (6, .pointer (some ⟨b338, 0, none⟩)), (7, .slice A353 r367.2.1.length c354), (45, .int .i64 (r316.Data.length : Int)), (46, .int .i64 r367.1)] ∧ Mem [] M w0 [.ow Kd.float 44 A353 c354 r367.2.1, .bx b338 [.slice A329 r316.Shape.length c330, .slice A331 r367.2.2.length c332] 28, .ow (Kd.int .i64) 3 A329 c330 r316.Shape, .ow Kd.float 44 A331 c332 r367.2.2, .bx b21 [.slice none 0 0, .slice none 0 0] 28, .sl kTensor A0 c0 x0] w) ?_ ?_
  · refine wpLoop (fold_Tree.l1 r316 x0) r367 (fun (s366 : (Int × (List Nat) × (List Nat))) (a : Act) (w : World) => Fr 73 a [(0, .slice A0 x0.length c0), (2, .pointer (some ⟨b21, 0, none⟩)), (6, .pointer (some ⟨b338, 0, none⟩)), (7, .slice A353 s366.2.1.length c354), (45, .int .i64 (r316.Data.length : Int)), (46, .int .i64 s366.1)] ∧ Mem [] M w0 [.ow Kd.float 44 A353 c354 s366.2.1, .bx b338 [.slice A329 r316.Shape.length c330, .slice A331 s366.2.2.length c332] 28, .ow (Kd.int .i64) 3 A329 c330 r316.Shape, .ow Kd.float 44 A331 c332 s366.2.2, .bx b21 [.slice none 0 0, .slice none 0 0] 28, .sl kTensor A0 c0 x0] w) (0, (List.replicate ((x0.length : Int)).toNat (0 : Nat)), r316.Data) hr367 ⟨hf365.sel (l := [0, 2, 6, 7, 45, 46]) (by kernel_rfl), hm361.sel [0, 1, 2, 3, 4, 5] _ rfl (by kernel_rfl)⟩ ?_
    rintro g368 s366 a369 w370 H1 ⟨hf371, hm372⟩
    unfold fold_Tree.l1 at H1
    refine wp_seq ?_
    rcases ifS_split H1 with ⟨c373, H1⟩ | ⟨c373, H1⟩
    rotate_left
    · refine reg [.bool false] [0, 2, 6, 7, 45, 46, 47] [(0, .slice A0 x0.length c0), (2, .pointer (some ⟨b21, 0, none⟩)), (6, .pointer (some ⟨b338, 0, none⟩)), (7, .slice A353 s366.2.1.length c354), (45, .int .i64 (r316.Data.length : Int)), (46, .int .i64 s366.1), (47, .bool false)] [.is (decide (s366.1 < (r316.Data.length : Int)) = false)] hf371 (by kernel_rfl) ⟨(decide_eq_false c373), trivial⟩ fun a497 hf498 => ?_
      refine thenN ?_
      refine wp_seq ?_
      refine condF hf498 (by kernel_rfl) ?_
      refine wp_exit ?_
      refine thenE ?_
      refine thenE ?_
      obtain rfl := Option.some.inj H1
      exact .inl ⟨rfl, hf498.sel (l := [0, 2, 6, 7, 45, 46]) (by kernel_rfl), hm372.sel [0, 1, 2, 3, 4, 5] _ rfl (by kernel_rfl)⟩
    refine reg [.bool true] [0, 2, 6, 7, 45, 46, 47] [(0, .slice A0 x0.length c0), (2, .pointer (some ⟨b21, 0, none⟩)), (6, .pointer (some ⟨b338, 0, none⟩)), (7, .slice A353 s366.2.1.length c354), (45, .int .i64 (r316.Data.length : Int)), (46, .int .i64 s366.1), (47, .bool true)] [.is (decide (s366.1 < (r316.Data.length : Int)) = true)] hf371 (by kernel_rfl) ⟨(decide_eq_true c373), trivial⟩ fun a374 hf375 => ?_
    refine thenN ?_
    refine wp_seq ?_
    refine condT hf375 (by kernel_rfl) ?_
    refine wp_skip ?_
    refine thenN ?_
    refine wp_seq ?_
    refine wp_block ?_
    refine wp_seq ?_
    refine reg [] [0, 2, 6, 7, 8, 45, 46] [(0, .slice A0 x0.length c0), (2, .pointer (some ⟨b21, 0, none⟩)), (6, .pointer (some ⟨b338, 0, none⟩)), (7, .slice A353 s366.2.1.length c354), (8, .int .i64 s366.1), (45, .int .i64 (r316.Data.length : Int)), (46, .int .i64 s366.1)] [] hf375 (by kernel_rfl) trivial fun a376 hf377 => ?_
    refine thenN ?_
    refine wp_seq ?_
    refine wp_seq ?_
    refine reg [] [0, 2, 6, 7, 8, 45, 46, 49, 50, 51] [(0, .slice A0 x0.length c0), (2, .pointer (some ⟨b21, 0, none⟩)), (6, .pointer (some ⟨b338, 0, none⟩)), (7, .slice A353 s366.2.1.length c354), (8, .int .i64 s366.1), (45, .int .i64 (r316.Data.length : Int)), (46, .int .i64 s366.1), (49, .slice A0 x0.length c0), (50, .int .i64 (x0.length : Int)), (51, .int .i64 0)] [] hf377 (by kernel_rfl) trivial fun a378 hf379 => ?_
    refine thenN ?_
    obtain ⟨r381, hr381, H1⟩ := obS_split H1
    refine wpBlock (Mid := fun (a : Act) (w : World) => Fr 73 a [(0, .slice A0 x0.length c0), (2, .pointer (some ⟨b21, 0, none⟩)), (6, .pointer (some ⟨b338, 0, none⟩)), (7, .slice A353 r381.2.length c354), (8, .int .i64 s366.1), (45, .int .i64 (r316.Data.length : Int)), (46, .int .i64 s366.1), (49, .slice A0 x0.length c0), (50, .int .i64 (x0.length : Int)), (51, .int .i64 r381.1)] ∧ Mem [] M w0 [.ow Kd.float 44 A353 c354 r381.2, .bx b338 [.slice A329 r316.Shape.length c330, .slice A331 s366.2.2.length c332] 28, .ow (Kd.int .i64) 3 A329 c330 r316.Shape, .ow Kd.float 44 A331 c332 s366.2.2, .bx b21 [.slice none 0 0, .slice none 0 0] 28, .sl kTensor A0 c0 x0] w) ?_ ?_
    · refine wpLoop (fold_Tree.l2 x0 s366) r381 (fun (s380 : (Int × (List Nat))) (a : Act) (w : World) => Fr 73 a [(0, .slice A0 x0.length c0), (2, .pointer (some ⟨b21, 0, none⟩)), (6, .pointer (some ⟨b338, 0, none⟩)), (7, .slice A353 s380.2.length c354), (8, .int .i64 s366.1), (45, .int .i64 (r316.Data.length : Int)), (46, .int .i64 s366.1), (49, .slice A0 x0.length c0), (50, .int .i64 (x0.length : Int)), (51, .int .i64 s380.1)] ∧ Mem [] M w0 [.ow Kd.float 44 A353 c354 s380.2, .bx b338 [.slice A329 r316.Shape.length c330, .slice A331 s366.2.2.length c332] 28, .ow (Kd.int .i64) 3 A329 c330 r316.Shape, .ow Kd.float 44 A331 c332 s366.2.2, .bx b21 [.slice none 0 0, .slice none 0 0] 28, .sl kTensor A0 c0 x0] w) (0, s366.2.1) hr381 ⟨hf379.sel (l := [0, 2, 6, 7, 8, 45, 46, 49, 50, 51]) (by kernel_rfl), hm372.sel [0, 1, 2, 3, 4, 5] _ rfl (by kernel_rfl)⟩ ?_
      rintro g382 s380 a383 w384 H2 ⟨hf385, hm386⟩
      unfold fold_Tree.l2 at H2
      refine wp_seq ?_
      rcases ifS_split H2 with ⟨c387, H2⟩ | ⟨c387, H2⟩
      rotate_left
      · refine reg [.bool false] [0, 2, 6, 7, 8, 45, 46, 49, 50, 51, 52] [(0, .slice A0 x0.length c0), (2, .pointer (some ⟨b21, 0, none⟩)), (6, .pointer (some ⟨b338, 0, none⟩)), (7, .slice A353 s380.2.length c354), (8, .int .i64 s366.1), (45, .int .i64 (r316.Data.length : Int)), (46, .int .i64 s366.1), (49, .slice A0 x0.length c0), (50, .int .i64 (x0.length : Int)), (51, .int .i64 s380.1), (52, .bool false)] [.is (decide (s380.1 < (x0.length : Int)) = false)] hf385 (by kernel_rfl) ⟨(decide_eq_false c387), trivial⟩ fun a433 hf434 => ?_
        refine thenN ?_
        refine wp_seq ?_
        refine condF hf434 (by kernel_rfl) ?_
        refine wp_exit ?_
        refine thenE ?_
        refine thenE ?_
        obtain rfl := Option.some.inj H2
        exact .inl ⟨rfl, hf434.sel (l := [0, 2, 6, 7, 8, 45, 46, 49, 50, 51]) (by kernel_rfl), hm386.sel [0, 1, 2, 3, 4, 5] _ rfl (by kernel_rfl)⟩
      refine reg [.bool true] [0, 2, 6, 7, 8, 45, 46, 49, 50, 51, 52] [(0, .slice A0 x0.length c0), (2, .pointer (some ⟨b21, 0, none⟩)), (6, .pointer (some ⟨b338, 0, none⟩)), (7, .slice A353 s380.2.length c354), (8, .int .i64 s366.1), (45, .int .i64 (r316.Data.length : Int)), (46, .int .i64 s366.1), (49, .slice A0 x0.length c0), (50, .int .i64 (x0.length : Int)), (51, .int .i64 s380.1), (52, .bool true)] [.is (decide (s380.1 < (x0.length : Int)) = true)] hf385 (by kernel_rfl) ⟨(decide_eq_true c387), trivial⟩ fun a388 hf389 => ?_
      refine thenN ?_
      refine wp_seq ?_
      refine condT hf389 (by kernel_rfl) ?_
      refine wp_skip ?_
      refine thenN ?_
      refine wp_seq ?_
      refine wp_block ?_
      refine wp_seq ?_
      obtain ⟨g390, H2⟩ := ifS_guard H2
      have q391 := (hm386.slAt 5 rfl).get s380.1 g390.1 g390.2
      obtain ⟨us392, hr393, hc394⟩ := q391.2
      obtain ⟨A395, c396, A397, c398, rfl, ⟨pA395, sA395⟩, ⟨pA397, sA397⟩⟩ := kTensor.open hr393
      have hm399 := hm386.elem pA395 sA395
      have hm400 := hm399.elem pA397 sA397
      refine inReg ?_
      refine go 3 [.agg #[.slice A395 (((rd x0 s380.1).Shape).length) c396, .slice A397 (((rd x0 s380.1).Data).length) c398]] [0, 2, 6, 7, 8, 45, 46, 49, 50, 51, 53, 55] [(0, .slice A0 x0.length c0), (2, .pointer (some ⟨b21, 0, none⟩)), (6, .pointer (some ⟨b338, 0, none⟩)), (7, .slice A353 s380.2.length c354), (8, .int .i64 s366.1), (45, .int .i64 (r316.Data.length : Int)), (46, .int .i64 s366.1), (49, .slice A0 x0.length c0), (50, .int .i64 (x0.length : Int)), (51, .int .i64 s380.1), (53, .int .i64 s380.1), (55, .agg #[.slice A395 (((rd x0 s380.1).Shape).length) c396, .slice A397 (((rd x0 s380.1).Data).length) c398])] [.is (Option.isSome A0 = true), .is (0 ≤ s380.1 ∧ s380.1 < (x0.length : Int)), .cell ((ad A0).add ((s380.1).toNat * 2)) (.slice A395 (((rd x0 s380.1).Shape).length) c396), .cell (((ad A0).add ((s380.1).toNat * 2)).add 1) (.slice A397 (((rd x0 s380.1).Data).length) c398)] hf389 (by kernel_rfl) ⟨q391.1, g390, (hc394 0 _ rfl), (hc394 1 _ rfl), trivial⟩ fun a401 hf402 => ?_
      refine listOf hf402 rfl (by kernel_rfl) (aNew (cs := [.slice none 0 0, .slice none 0 0]) (T := 28) (d := 10) hf402 (by kernel_rfl) (by kernel_rfl) ?_)
      intro b403 w404 a405 hbb403 hx407 hg408 hf406
      have hm409 := hm400.box hbb403 hx407 hg408
      refine go 1 [] [0, 2, 6, 7, 8, 9, 10, 45, 46, 49, 50, 51, 55] [(0, .slice A0 x0.length c0), (2, .pointer (some ⟨b21, 0, none⟩)), (6, .pointer (some ⟨b338, 0, none⟩)), (7, .slice A353 s380.2.length c354), (8, .int .i64 s366.1), (9, .int .i64 s380.1), (10, .pointer (some ⟨b403, 0, none⟩)), (45, .int .i64 (r316.Data.length : Int)), (46, .int .i64 s366.1), (49, .slice A0 x0.length c0), (50, .int .i64 (x0.length : Int)), (51, .int .i64 s380.1), (55, .agg #[.slice A395 (((rd x0 s380.1).Shape).length) c396, .slice A397 (((rd x0 s380.1).Data).length) c398])] [] hf406 (by kernel_rfl) trivial fun a410 hf411 => ?_
      refine listOf hf411 rfl (by kernel_rfl) (aStoreB (b := b403) (j := 0) (T := 28) (cs := [.slice none 0 0, .slice none 0 0]) (us := [.slice A395 (((rd x0 s380.1).Shape).length) c396, .slice A397 (((rd x0 s380.1).Data).length) c398]) (cs' := [.slice A395 (((rd x0 s380.1).Shape).length) c396, .slice A397 (((rd x0 s380.1).Data).length) c398]) hf411 (by kernel_rfl) (hm409.bxAt 0 rfl) (by kernel_rfl) (by kernel_rfl) (by kernel_rfl) ?_)
      intro w412 hx413 hg414
      have hm415 := hm409.setBox 0 _ rfl rfl hx413 hg414
      refine endL rfl ?_
      refine thenN ?_
      obtain ⟨g416, H2⟩ := ifS_guard H2
      obtain ⟨g417, H2⟩ := ifS_guard H2
      have q418 := (hm415.slAt 1 rfl).float s366.1 g416.1 g416.2
      obtain ⟨b419, hb419, kb419⟩ := q418.2
      have q420 := (hm415.owAt 3 rfl).float s380.1 g417.1 g417.2
      obtain ⟨b421, hb421, kb421⟩ := q420.2
      refine inReg ?_
      refine go 8 [.slice A397 (((rd x0 s380.1).Data).length) c398, .float .f64 b419] [0, 2, 6, 7, 8, 45, 46, 49, 50, 51, 62, 63] [(0, .slice A0 x0.length c0), (2, .pointer (some ⟨b21, 0, none⟩)), (6, .pointer (some ⟨b338, 0, none⟩)), (7, .slice A353 s380.2.length c354), (8, .int .i64 s366.1), (45, .int .i64 (r316.Data.length : Int)), (46, .int .i64 s366.1), (49, .slice A0 x0.length c0), (50, .int .i64 (x0.length : Int)), (51, .int .i64 s380.1), (62, .float .f64 b419), (63, .pointer (some ((ad A353).add ((s380.1).toNat * 1))))] [.cell ⟨b403, 1, none⟩ (.slice A397 (((rd x0 s380.1).Data).length) c398), .is (Option.isSome A397 = true), .is (0 ≤ s366.1 ∧ s366.1 < ((((rd x0 s380.1).Data).length : Nat) : Int)), .cell ((ad A397).add ((s366.1).toNat * 1)) (.float .f64 b419), .is (Option.isSome A353 = true), .is (0 ≤ s380.1 ∧ s380.1 < (s380.2.length : Int))] hf411 (by kernel_rfl) ⟨(hm415.cell 0 rfl rfl), q418.1, g416, kb419, q420.1, g417, trivial⟩ fun a422 hf423 => ?_
      refine listOf hf423 rfl (by kernel_rfl) (aStoreO (kd := Kd.float) (base := 0) (E := 44) (A := A353) (c := c354) (xs := s380.2) (i := s380.1) (x := (rd ((rd x0 s380.1).Data) s366.1)) (us := [.float .f64 b419]) (sz := 1) hf423 (by kernel_rfl) rfl (by kernel_rfl) (hm415.at 3 rfl) ⟨_, rfl, hb419⟩ g417.1 g417.2 ?_)
      intro w424 hx425 hg426
      have hm427 := hm415.setOwn 3 _ rfl rfl hx425 hg426 (.inl rfl)
      refine endL rfl ?_
      have hm428 := hm427.sel [3, 4, 5, 6, 7, 8] _ rfl (by kernel_rfl)
      refine blkN ?_
      refine thenN ?_
      refine reg [] [0, 2, 6, 7, 8, 45, 46, 49, 50, 51] [(0, .slice A0 x0.length c0), (2, .pointer (some ⟨b21, 0, none⟩)), (6, .pointer (some ⟨b338, 0, none⟩)), (7, .slice A353 s380.2.length c354), (8, .int .i64 s366.1), (45, .int .i64 (r316.Data.length : Int)), (46, .int .i64 s366.1), (49, .slice A0 x0.length c0), (50, .int .i64 (x0.length : Int)), (51, .int .i64 (w64 (s380.1 + 1)))] [] hf423 (by kernel_rfl) trivial fun a429 hf430 => ?_
      have hf431 : Fr 73 a429 [(0, .slice A0 x0.length c0), (2, .pointer (some ⟨b21, 0, none⟩)), (6, .pointer (some ⟨b338, 0, none⟩)), (7, .slice A353 s380.2.length c354), (8, .int .i64 s366.1), (45, .int .i64 (r316.Data.length : Int)), (46, .int .i64 s366.1), (49, .slice A0 x0.length c0), (50, .int .i64 (x0.length : Int)), (51, .int .i64 (w64 (s380.1 + 1)))] := hf430.sel (l := [0, 2, 6, 7, 8, 45, 46, 49, 50, 51]) (by kernel_rfl)
      have hm432 : Mem [] M w0 [.ow Kd.float 44 A353 c354 (put s380.2 s380.1 (rd ((rd x0 s380.1).Data) s366.1)), .bx b338 [.slice A329 r316.Shape.length c330, .slice A331 s366.2.2.length c332] 28, .ow (Kd.int .i64) 3 A329 c330 r316.Shape, .ow Kd.float 44 A331 c332 s366.2.2, .bx b21 [.slice none 0 0, .slice none 0 0] 28, .sl kTensor A0 c0 x0] w424 := hm428.sel [0, 1, 2, 3, 4, 5] _ rfl (by kernel_rfl)
      exact ⟨((w64 (s380.1 + 1)), (put s380.2 s380.1 (rd ((rd x0 s380.1).Data) s366.1))), H2, (by simpa only [put_length, List.length_nil] using hf431), (by simpa only [put_length, List.length_nil] using hm432)⟩
    rintro a435 w436 ⟨hf437, hm438⟩
    refine thenN ?_
    obtain ⟨r439, hr439, H1⟩ := obS_split H1
    obtain ⟨g440, H1⟩ := ifS_guard H1
    refine midReg (fun (a : Act) (w : World) => Fr 73 a [(0, .slice A0 x0.length c0), (2, .pointer (some ⟨b21, 0, none⟩)), (6, .pointer (some ⟨b338, 0, none⟩)), (7, .slice A353 r381.2.length c354), (45, .int .i64 (r316.Data.length : Int)), (46, .int .i64 s366.1)] ∧ Mem [] M w0 [.ow Kd.float 44 A353 c354 r381.2, .bx b338 [.slice A329 r316.Shape.length c330, .slice A331 s366.2.2.length c332] 28, .ow (Kd.int .i64) 3 A329 c330 r316.Shape, .ow Kd.float 44 A331 c332 (put s366.2.2 s366.1 r439), .bx b21 [.slice none 0 0, .slice none 0 0] 28, .sl kTensor A0 c0 x0] w) ?_ ?_
    · refine anyG [6] (by kernel_rfl) fun w453 hg454 => ?_
      have hm455 := hm438.still hg454
      refine quiet0 [0, 1, 2, 3] [.slice A331 s366.2.2.length c332] [0, 2, 6, 7, 45, 46, 66, 67, 68] #[true, true, true, true, false, false, false] [(0, .slice A0 x0.length c0), (2, .pointer (some ⟨b21, 0, none⟩)), (6, .pointer (some ⟨b338, 0, none⟩)), (7, .slice A353 r381.2.length c354), (45, .int .i64 (r316.Data.length : Int)), (46, .int .i64 s366.1), (66, .slice A331 s366.2.2.length c332), (67, .int .i64 s366.1), (68, .slice A353 r381.2.length c354)] [.cell ⟨b338, 1, none⟩ (.slice A331 s366.2.2.length c332)] 3 rfl (by kernel_rfl) (fun _ _ _ _ _ h => nomatch h.1) hf437 (by kernel_rfl) ⟨(hm455.cell 1 rfl rfl), trivial⟩ fun a472 hf473 => ?_
      refine all1 4 (by kernel_rfl) ?_
      have hm474 : Mem [] M w0 [.sl Kd.float A353 c354 r381.2, .bx b338 [.slice A329 r316.Shape.length c330, .slice A331 s366.2.2.length c332] 28, .ow (Kd.int .i64) 3 A329 c330 r316.Shape, .ow Kd.float 44 A331 c332 s366.2.2, .bx b21 [.slice none 0 0, .slice none 0 0] 28, .sl kTensor A0 c0 x0] w453 := hm455.seal 0 _ rfl rfl
      refine opOf hf473 rfl (by kernel_rfl) (aCall (fid := 50) (args := [.slice A353 r381.2.length c354]) (d := 69) hf473 (by kernel_rfl) (by kernel_rfl) callable50 (real_Fold.calls _ _ r381.2 A353 r381.2.length c354 rfl (hm474.give [0] [.sl Kd.float A353 c354 r381.2] rfl rfl) r439 hr439) ?_)
      rintro _ w476 a477 ⟨b475, rfl, hb475, hk479⟩ hf478
      refine ⟨.inr (Gr.still hk479.cum.none), ?_⟩
      have hm480 := hm455.still hk479.cum.none
      have q481 := (hm480.owAt 3 rfl).float s366.1 g440.1 g440.2
      obtain ⟨b482, hb482, kb482⟩ := q481.2
      refine quiet0 [5] [] [0, 2, 6, 7, 45, 46, 69, 70] #[true, true, true, true, true, true, false] [(0, .slice A0 x0.length c0), (2, .pointer (some ⟨b21, 0, none⟩)), (6, .pointer (some ⟨b338, 0, none⟩)), (7, .slice A353 r381.2.length c354), (45, .int .i64 (r316.Data.length : Int)), (46, .int .i64 s366.1), (69, .float .f64 b475), (70, .pointer (some ((ad A331).add ((s366.1).toNat * 1))))] [.is (Option.isSome A331 = true), .is (0 ≤ s366.1 ∧ s366.1 < (s366.2.2.length : Int))] 1 rfl (by kernel_rfl) (fun _ _ _ _ _ h => nomatch h.1) hf478 (by kernel_rfl) ⟨q481.1, g440, trivial⟩ fun a483 hf484 => ?_
      refine all1 6 (by kernel_rfl) ?_
      refine opOf hf484 rfl (by kernel_rfl) (aStoreO (kd := Kd.float) (base := 0) (E := 44) (A := A331) (c := c332) (xs := s366.2.2) (i := s366.1) (x := r439) (us := [.float .f64 b475]) (sz := 1) hf484 (by kernel_rfl) rfl (by kernel_rfl) (hm480.at 3 rfl) ⟨_, rfl, hb475⟩ g440.1 g440.2 ?_)
      intro w485 hx486 hg487
      refine ⟨.inl (by decide), ?_⟩
      have hm488 := hm480.setOwn 3 _ rfl rfl hx486 hg487 (.inl rfl)
      refine allDone (by kernel_rfl) ⟨rfl, hf484.sel (l := [0, 2, 6, 7, 45, 46]) (by kernel_rfl), hm488.sel [0, 1, 2, 3, 4, 5] _ rfl (by kernel_rfl)⟩
    rintro a489 w490 ⟨hf491, hm492⟩
    refine blkN ?_
    refine thenN ?_
    refine reg [] [0, 2, 6, 7, 45, 46] [(0, .slice A0 x0.length c0), (2, .pointer (some ⟨b21, 0, none⟩)), (6, .pointer (some ⟨b338, 0, none⟩)), (7, .slice A353 r381.2.length c354), (45, .int .i64 (r316.Data.length : Int)), (46, .int .i64 (w64 (s366.1 + 1)))] [] hf491 (by kernel_rfl) trivial fun a493 hf494 => ?_
    have hf495 : Fr 73 a493 [(0, .slice A0 x0.length c0), (2, .pointer (some ⟨b21, 0, none⟩)), (6, .pointer (some ⟨b338, 0, none⟩)), (7, .slice A353 r381.2.length c354), (45, .int .i64 (r316.Data.length : Int)), (46, .int .i64 (w64 (s366.1 + 1)))] := hf494.sel (l := [0, 2, 6, 7, 45, 46]) (by kernel_rfl)
    have hm496 : Mem [] M w0 [.ow Kd.float 44 A353 c354 r381.2, .bx b338 [.slice A329 r316.Shape.length c330, .slice A331 s366.2.2.length c332] 28, .ow (Kd.int .i64) 3 A329 c330 r316.Shape, .ow Kd.float 44 A331 c332 (put s366.2.2 s366.1 r439), .bx b21 [.slice none 0 0, .slice none 0 0] 28, .sl kTensor A0 c0 x0] w490 := hm492.sel [0, 1, 2, 3, 4, 5] _ rfl (by kernel_rfl)
    exact ⟨((w64 (s366.1 + 1)), r381.2, (put s366.2.2 s366.1 r439)), H1, (by simpa only [put_length, List.length_nil] using hf495), (by simpa only [put_length, List.length_nil] using hm496)⟩
  rintro a499 w500 ⟨hf501, hm502⟩
  refine thenN ?_
  refine wp_seq ?_
  refine inReg ?_
  refine go 1 [.agg #[.slice A329 r316.Shape.length c330, .slice A331 r367.2.2.length c332]] [2, 72] [(2, .pointer (some ⟨b21, 0, none⟩)), (72, .agg #[.slice A329 r316.Shape.length c330, .slice A331 r367.2.2.length c332])] [.cell ⟨b338, 0, none⟩ (.slice A329 r316.Shape.length c330), .cell ⟨b338, 1, none⟩ (.slice A331 r367.2.2.length c332)] hf501 (by kernel_rfl) ⟨(hm502.cell 1 rfl rfl), (hm502.cell 1 rfl rfl), trivial⟩ fun a503 hf504 => ?_
  refine listOf hf504 rfl (by kernel_rfl) (aStoreB (b := b21) (j := 0) (T := 28) (cs := [.slice none 0 0, .slice none 0 0]) (us := [.slice A329 r316.Shape.length c330, .slice A331 r367.2.2.length c332]) (cs' := [.slice A329 r316.Shape.length c330, .slice A331 r367.2.2.length c332]) hf504 (by kernel_rfl) (hm502.bxAt 4 rfl) (by kernel_rfl) (by kernel_rfl) (by kernel_rfl) ?_)
  intro w505 hx506 hg507
  have hm508 := hm502.setBox 4 _ rfl rfl hx506 hg507
  refine go 1 [] [2, 3] [(2, .pointer (some ⟨b21, 0, none⟩)), (3, .int .i64 0)] [] hf504 (by kernel_rfl) trivial fun a509 hf510 => ?_
  refine endL rfl ?_
  have hm511 := hm508.sel [2, 3, 4] _ rfl (by kernel_rfl)
  refine thenN ?_
  refine wp_ret ?_
  have hm512 : Mem [] M w0 [.ow (Kd.int .i64) 3 A329 c330 r316.Shape, .ow Kd.float 44 A331 c332 r367.2.2] w505 := hm511.sel [0, 1] _ rfl (by kernel_rfl)
  obtain rfl := Option.some.inj H0
  refine ret [.agg #[.slice A329 r316.Shape.length c330, .slice A331 r367.2.2.length c332]] [.agg #[.slice A329 r316.Shape.length c330, .slice A331 r367.2.2.length c332], .int .i64 0] [.cell ⟨b21, 0, none⟩ (.slice A329 r316.Shape.length c330), .cell ⟨b21, 1, none⟩ (.slice A331 r367.2.2.length c332)] hf510 (by kernel_rfl) ⟨(hm511.cell 2 rfl rfl), (hm511.cell 2 rfl rfl), trivial⟩ ?_
  exact ⟨_, rfl, A329, c330, A331, c332, rfl, hm512⟩
end Go.Proofs.Ytkcgiolledmbnab
