/- Printed by gen.py. -/
import Derived.Test.YtolhkamfpfjodaaF0
import Derived.Test.YtolhkamfpfjodaaF1
import Derived.Test.YtolhkamfpfjodaaF2
namespace Go.Proofs.Ytolhkamfpfjodaa
open Go Go.RowKit
set_option linter.unusedSimpArgs false
set_option linter.unusedVariables false
set_option linter.unnecessarySimpa false
/-! ### backstitch/shelf.New -/
noncomputable def shelf_New.l0 (x0 : (List Tensor)) (s83 : (Int × (List Tensor) × (List Tensor))) : Step (Int × (List Tensor) × (List Tensor)) (Int × (List Tensor) × (List Tensor)) :=
  if s83.1 < (x0.length : Int) then (if 0 ≤ s83.1 ∧ s83.1 < (x0.length : Int) then (bindS (tensor_Copy.f (⟨((rd x0 s83.1).Shape), ((rd x0 s83.1).Data)⟩ : Tensor)) fun r121 =>
  if s83.2.2.length + 1 ≤ 549755813888 then (bindS (shelf_noughts.f (⟨((rd x0 s83.1).Shape), ((rd x0 s83.1).Data)⟩ : Tensor)) fun r123 =>
  if s83.2.1.length + 1 ≤ 549755813888 then (.next ((w64 (s83.1 + 1)), (s83.2.1 ++ ([r123] : List Tensor)), (s83.2.2 ++ ([r121] : List Tensor))))
  else .bad)
  else .bad)
  else .bad)
  else (.done (s83.1, s83.2.1, s83.2.2))
noncomputable def shelf_New.f (x0 : (List Tensor)) : Option ((Option Shelf) × Int) :=
  if 32 < (x0.length : Int) then (some (none, 13))
  else ((slices_ContainsFunc_api_Tensor_shelf_New_1.f x0).bind fun r33 =>
  if r33 = true then (some (none, 2))
  else (if 0 ≤ (x0.length : Int) ∧ (x0.length : Int) ≤ 1099511627776 then ((loop (shelf_New.l0 x0) (0, ([] : (List Tensor)), ([] : (List Tensor)))).bind fun r88 =>
  some ((some (⟨r88.2.2, (List.replicate ((x0.length : Int)).toNat (0 : Int)), r88.2.1⟩ : Shelf)), 0))
  else none))
set_option maxRecDepth 100000 in
set_option maxHeartbeats 4000000 in
theorem shelf_New.calls_x (M : List (Option Nat)) (w0 : World) (x0 : (List Tensor)) (A0 : Option Addr) (n0 c0 : Nat) (e0 : n0 = x0.length) (hm0 : Mem [] M w0 [.sl kTensor A0 c0 x0] w0) (r : ((Option Shelf) × Int)) (H0 : shelf_New.f x0 = some r) :
    Calls Try.prog 10 [.slice A0 n0 c0].toArray w0 (fun x w' => PtrP (r.1) (∃ v, x = .returned v ∧ v = .tuple #[.pointer none, .int .i64 r.2] ∧ Mem [] M w0 [] w') (fun (y : Shelf) => ∃ v, x = .returned v ∧ ∃ bp Aq_0 cq_0 Aq_1 cq_1 Aq_2 cq_2, v = .tuple #[.pointer (some ⟨bp, 0, none⟩), .int .i64 r.2] ∧ Mem [] M w0 [.bx bp [.slice Aq_0 y.l.length cq_0, .slice Aq_1 y.vers.length cq_1, .slice Aq_2 y.grads.length cq_2] 72, .ow kTensor 29 Aq_0 cq_0 y.l, .ow (Kd.int .i64) 3 Aq_1 cq_1 y.vers, .ow kTensor 29 Aq_2 cq_2 y.grads] w')) := by
  subst e0
  unfold shelf_New.f at H0
  refine enter (n := 49) Try.func10 rfl rfl (by kernel_rfl) fun a0 (hf0 : Fr 49 a0 [(0, .slice A0 x0.length c0)]) => ?_
  refine wp_seq ?_
  refine reg [] [0] [(0, .slice A0 x0.length c0)] [] hf0 (by kernel_rfl) trivial fun a21 hf22 => ?_
  refine thenN ?_
  refine wp_seq ?_
  refine wp_block ?_
  refine wp_seq ?_
  rcases if_split H0 with ⟨c23, H0⟩ | ⟨c23, H0⟩
  · refine reg [.bool true] [0, 7] [(0, .slice A0 x0.length c0), (7, .bool true)] [.is (decide (32 < (x0.length : Int)) = true)] hf22 (by kernel_rfl) ⟨(decide_eq_true c23), trivial⟩ fun a24 hf25 => ?_
    refine thenN ?_
    refine condT hf25 (by kernel_rfl) ?_
    refine wp_seq ?_
    refine reg [] [2, 3] [(2, .pointer none), (3, .int .i64 13)] [] hf25 (by kernel_rfl) trivial fun a26 hf27 => ?_
    have hm28 := hm0.sel [] _ rfl (by kernel_rfl)
    refine thenN ?_
    refine wp_ret ?_
    refine blkR ?_
    refine thenR ?_
    have hm29 : Mem [] M w0 [] w0 := hm28.sel [] _ rfl (by kernel_rfl)
    obtain rfl := Option.some.inj H0
    refine ret [] [.pointer none, .int .i64 13] [] hf27 (by kernel_rfl) trivial ?_
    exact PtrP_no ⟨_, rfl, rfl, hm29⟩
  refine reg [.bool false] [0, 7] [(0, .slice A0 x0.length c0), (7, .bool false)] [.is (decide (32 < (x0.length : Int)) = false)] hf22 (by kernel_rfl) ⟨(decide_eq_false c23), trivial⟩ fun a31 hf32 => ?_
  refine thenN ?_
  refine condF hf32 (by kernel_rfl) ?_
  refine wp_seq ?_
  obtain ⟨r33, hr33, H0⟩ := ob_split H0
  refine inReg ?_
  refine go 1 [] [0, 12] [(0, .slice A0 x0.length c0), (12, .slice A0 x0.length c0)] [] hf32 (by kernel_rfl) trivial fun a34 hf35 => ?_
  refine listOf hf35 rfl (by kernel_rfl) (aCall (fid := 30) (args := [.slice A0 x0.length c0, .func (.func 31) #[] #[]]) (d := 13) hf35 (by kernel_rfl) (by kernel_rfl) callable30 (slices_ContainsFunc_api_Tensor_shelf_New_1.calls _ _ x0 A0 x0.length c0 rfl (hm0.give [0] [.sl kTensor A0 c0 x0] rfl rfl) r33 hr33) ?_)
  rintro _ w36 a37 ⟨rfl, hk39⟩ hf38
  have hm40 := hm0.still hk39.cum.none
  refine go 1 [] [0, 11] [(0, .slice A0 x0.length c0), (11, .bool r33)] [] hf38 (by kernel_rfl) trivial fun a41 hf42 => ?_
  refine endL rfl ?_
  refine thenN ?_
  rcases ifb_split H0 with ⟨c43, H0⟩ | ⟨c43, H0⟩
  · rw [c43] at hf42
    refine condT hf42 (by kernel_rfl) ?_
    refine wp_seq ?_
    refine reg [] [2, 3] [(2, .pointer none), (3, .int .i64 2)] [] hf42 (by kernel_rfl) trivial fun a44 hf45 => ?_
    have hm46 := hm40.sel [] _ rfl (by kernel_rfl)
    refine thenN ?_
    refine wp_ret ?_
    refine blkR ?_
    refine thenR ?_
    have hm47 : Mem [] M w0 [] w36 := hm46.sel [] _ rfl (by kernel_rfl)
    obtain rfl := Option.some.inj H0
    refine ret [] [.pointer none, .int .i64 2] [] hf45 (by kernel_rfl) trivial ?_
    exact PtrP_no ⟨_, rfl, rfl, hm47⟩
  rw [c43] at hf42
  refine condF hf42 (by kernel_rfl) ?_
  refine wp_skip ?_
  refine blkN ?_
  refine thenN ?_
  refine wp_seq ?_
  obtain ⟨g49, H0⟩ := if_guard H0
  refine inReg ?_
  refine go 2 [] [0, 15] [(0, .slice A0 x0.length c0), (15, .int .i64 (x0.length : Int))] [] hf42 (by kernel_rfl) trivial fun a50 hf51 => ?_
  refine listOf hf51 rfl (by kernel_rfl) (aMake (kd := (Kd.int .i64)) (x := 0) (E := 3) (L := (x0.length : Int)) (z := [.int .i64 0]) (sz := 1) (d := 16) hf51 (by kernel_rfl) (by kernel_rfl) rfl (fun _ _ => rfl) g49.1 g49.2 ?_)
  intro A52 c53 w54 a55 ho57 hb59 hg58 hf56
  have hm60 : Mem [] M w0 [.ow (Kd.int .i64) 3 A52 c53 (List.replicate ((x0.length : Int)).toNat (0 : Int)), .sl kTensor A0 c0 x0] w54 := hm40.own (ho57 _) hg58
  refine go 1 [] [0, 17] [(0, .slice A0 x0.length c0), (17, .agg #[.slice none 0 0, .slice A52 ((List.replicate ((x0.length : Int)).toNat (0 : Int)).length) c53, .slice none 0 0])] [] hf56 (by kernel_rfl) trivial fun a61 hf62 => ?_
  refine listOf hf62 rfl (by kernel_rfl) (aNew (cs := [.slice none 0 0, .slice A52 ((List.replicate ((x0.length : Int)).toNat (0 : Int)).length) c53, .slice none 0 0]) (T := 72) (d := 18) hf62 (by kernel_rfl) (by kernel_rfl) ?_)
  intro b63 w65 a66 hbb63 hx68 hg69 hf67
  have hm70 := hm60.box hbb63 hx68 hg69
  refine go 1 [] [0, 4] [(0, .slice A0 x0.length c0), (4, .pointer (some ⟨b63, 0, none⟩))] [] hf67 (by kernel_rfl) trivial fun a71 hf72 => ?_
  refine endL rfl ?_
  refine thenN ?_
  refine wp_seq ?_
  refine wp_seq ?_
  refine reg [] [4, 19, 20, 21] [(4, .pointer (some ⟨b63, 0, none⟩)), (19, .slice A0 x0.length c0), (20, .int .i64 (x0.length : Int)), (21, .int .i64 0)] [] hf72 (by kernel_rfl) trivial fun a73 hf74 => ?_
  refine thenN ?_
  have hm76 := hm70.nilOw kTensor 29
  have hm78 := hm76.nilOw kTensor 29
  obtain ⟨r88, hr88, H0⟩ := ob_split H0
  refine wpBlock (Mid := fun (a : Act) (w : World) => ∃ (A84 : Option Addr) (c85 : Nat) (A86 : Option Addr) (c87 : Nat), Fr 49 a [(4, .pointer (some ⟨b63, 0, none⟩)), (19, .slice A0 x0.length c0), (20, .int .i64 (x0.length : Int)), (21, .int .i64 r88.1)] ∧ Mem [] M w0 [.ow kTensor 29 A84 c85 r88.2.1, .ow kTensor 29 A86 c87 r88.2.2, .bx b63 [.slice A86 r88.2.2.length c87, .slice A52 ((List.replicate ((x0.length : Int)).toNat (0 : Int)).length) c53, .slice A84 r88.2.1.length c85] 72, .ow (Kd.int .i64) 3 A52 c53 (List.replicate ((x0.length : Int)).toNat (0 : Int)), .sl kTensor A0 c0 x0] w) ?_ ?_
  · refine wpLoop (shelf_New.l0 x0) r88 (fun (s83 : (Int × (List Tensor) × (List Tensor))) (a : Act) (w : World) => ∃ (A84 : Option Addr) (c85 : Nat) (A86 : Option Addr) (c87 : Nat), Fr 49 a [(4, .pointer (some ⟨b63, 0, none⟩)), (19, .slice A0 x0.length c0), (20, .int .i64 (x0.length : Int)), (21, .int .i64 s83.1)] ∧ Mem [] M w0 [.ow kTensor 29 A84 c85 s83.2.1, .ow kTensor 29 A86 c87 s83.2.2, .bx b63 [.slice A86 s83.2.2.length c87, .slice A52 ((List.replicate ((x0.length : Int)).toNat (0 : Int)).length) c53, .slice A84 s83.2.1.length c85] 72, .ow (Kd.int .i64) 3 A52 c53 (List.replicate ((x0.length : Int)).toNat (0 : Int)), .sl kTensor A0 c0 x0] w) (0, ([] : (List Tensor)), ([] : (List Tensor))) hr88 ⟨none, 0, none, 0, hf74.sel (l := [4, 19, 20, 21]) (by kernel_rfl), hm78.sel [0, 1, 2, 3, 4] _ rfl (by kernel_rfl)⟩ ?_
    rintro g89 s83 a90 w91 H1 ⟨A84, c85, A86, c87, hf92, hm93⟩
    unfold shelf_New.l0 at H1
    refine wp_seq ?_
    rcases ifS_split H1 with ⟨c94, H1⟩ | ⟨c94, H1⟩
    rotate_left
    · refine reg [.bool false] [4, 19, 20, 21, 22] [(4, .pointer (some ⟨b63, 0, none⟩)), (19, .slice A0 x0.length c0), (20, .int .i64 (x0.length : Int)), (21, .int .i64 s83.1), (22, .bool false)] [.is (decide (s83.1 < (x0.length : Int)) = false)] hf92 (by kernel_rfl) ⟨(decide_eq_false c94), trivial⟩ fun a1627 hf1628 => ?_
      refine thenN ?_
      refine wp_seq ?_
      refine condF hf1628 (by kernel_rfl) ?_
      refine wp_exit ?_
      refine thenE ?_
      refine thenE ?_
      obtain rfl := Option.some.inj H1
      exact .inl ⟨rfl, A84, c85, A86, c87, hf1628.sel (l := [4, 19, 20, 21]) (by kernel_rfl), hm93.sel [0, 1, 2, 3, 4] _ rfl (by kernel_rfl)⟩
    refine reg [.bool true] [4, 19, 20, 21, 22] [(4, .pointer (some ⟨b63, 0, none⟩)), (19, .slice A0 x0.length c0), (20, .int .i64 (x0.length : Int)), (21, .int .i64 s83.1), (22, .bool true)] [.is (decide (s83.1 < (x0.length : Int)) = true)] hf92 (by kernel_rfl) ⟨(decide_eq_true c94), trivial⟩ fun a95 hf96 => ?_
    refine thenN ?_
    refine wp_seq ?_
    refine condT hf96 (by kernel_rfl) ?_
    refine wp_skip ?_
    refine thenN ?_
    refine wp_seq ?_
    refine wp_block ?_
    refine wp_seq ?_
    obtain ⟨g97, H1⟩ := ifS_guard H1
    have q98 := (hm93.slAt 4 rfl).get s83.1 g97.1 g97.2
    obtain ⟨us99, hr100, hc101⟩ := q98.2
    obtain ⟨A102, c103, A104, c105, rfl, ⟨pA102, sA102⟩, ⟨pA104, sA104⟩⟩ := kTensor.open hr100
    have hm106 := hm93.elem pA102 sA102
    have hm107 := hm106.elem pA104 sA104
    refine inReg ?_
    refine go 2 [.agg #[.slice A102 (((rd x0 s83.1).Shape).length) c103, .slice A104 (((rd x0 s83.1).Data).length) c105]] [4, 19, 20, 21, 24] [(4, .pointer (some ⟨b63, 0, none⟩)), (19, .slice A0 x0.length c0), (20, .int .i64 (x0.length : Int)), (21, .int .i64 s83.1), (24, .agg #[.slice A102 (((rd x0 s83.1).Shape).length) c103, .slice A104 (((rd x0 s83.1).Data).length) c105])] [.is (Option.isSome A0 = true), .is (0 ≤ s83.1 ∧ s83.1 < (x0.length : Int)), .cell ((ad A0).add ((s83.1).toNat * 2)) (.slice A102 (((rd x0 s83.1).Shape).length) c103), .cell (((ad A0).add ((s83.1).toNat * 2)).add 1) (.slice A104 (((rd x0 s83.1).Data).length) c105)] hf96 (by kernel_rfl) ⟨q98.1, g97, (hc101 0 _ rfl), (hc101 1 _ rfl), trivial⟩ fun a108 hf109 => ?_
    refine listOf hf109 rfl (by kernel_rfl) (aNew (cs := [.slice none 0 0, .slice none 0 0]) (T := 29) (d := 6) hf109 (by kernel_rfl) (by kernel_rfl) ?_)
    intro b110 w111 a112 hbb110 hx114 hg115 hf113
    have hm116 := hm107.box hbb110 hx114 hg115
    refine listOf hf113 rfl (by kernel_rfl) (aStoreB (b := b110) (j := 0) (T := 29) (cs := [.slice none 0 0, .slice none 0 0]) (us := [.slice A102 (((rd x0 s83.1).Shape).length) c103, .slice A104 (((rd x0 s83.1).Data).length) c105]) (cs' := [.slice A102 (((rd x0 s83.1).Shape).length) c103, .slice A104 (((rd x0 s83.1).Data).length) c105]) hf113 (by kernel_rfl) (hm116.bxAt 0 rfl) (by kernel_rfl) (by kernel_rfl) (by kernel_rfl) ?_)
    intro w117 hx118 hg119
    have hm120 := hm116.setBox 0 _ rfl rfl hx118 hg119
    refine endL rfl ?_
    refine thenN ?_
    obtain ⟨r121, hr121, H1⟩ := obS_split H1
    obtain ⟨g122, H1⟩ := ifS_guard H1
    obtain ⟨r123, hr123, H1⟩ := obS_split H1
    obtain ⟨g124, H1⟩ := ifS_guard H1
    refine midReg (fun (a : Act) (w : World) => ∃ (A172 : Option Addr) (c173 : Nat) (A143 : Option Addr) (c144 : Nat), Fr 49 a [(4, .pointer (some ⟨b63, 0, none⟩)), (19, .slice A0 x0.length c0), (20, .int .i64 (x0.length : Int)), (21, .int .i64 s83.1)] ∧ Mem [] M w0 [.ow kTensor 29 A172 c173 (s83.2.1 ++ ([r123] : List Tensor)), .ow kTensor 29 A143 c144 (s83.2.2 ++ ([r121] : List Tensor)), .bx b63 [.slice A143 ((s83.2.2 ++ ([r121] : List Tensor)).length) c144, .slice A52 ((List.replicate ((x0.length : Int)).toNat (0 : Int)).length) c53, .slice A172 ((s83.2.1 ++ ([r123] : List Tensor)).length) c173] 72, .ow (Kd.int .i64) 3 A52 c53 (List.replicate ((x0.length : Int)).toNat (0 : Int)), .sl kTensor A0 c0 x0] w) ?_ ?_
    · refine anyG [9, 17, 20, 23] (by kernel_rfl) fun w192 hg193 => ?_
      have hm194 := hm120.still hg193
      refine memoStep (R := fun (a : Act) (w : World) => ∃ (A197 : Option Addr) (c198 : Nat) (A199 : Option Addr) (c200 : Nat) (b208 : Nat) (A215 : Option Addr) (c216 : Nat) (A316 : Option Addr) (c317 : Nat) (A318 : Option Addr) (c319 : Nat), Fr 49 a [(4, .pointer (some ⟨b63, 0, none⟩)), (6, .pointer (some ⟨b110, 0, none⟩)), (19, .slice A0 x0.length c0), (20, .int .i64 (x0.length : Int)), (21, .int .i64 s83.1), (25, .pointer (some ⟨b63, 0, none⟩)), (26, .pointer (some ⟨b63, 0, none⟩)), (31, .agg #[.slice A102 (((rd x0 s83.1).Shape).length) c103, .slice A104 (((rd x0 s83.1).Data).length) c105]), (32, .agg #[.slice A197 r121.Shape.length c198, .slice A199 r121.Data.length c200]), (33, .slice (some ⟨b208, 0, none⟩) 1 1), (34, .slice A215 ((s83.2.2 ++ ([r121] : List Tensor)).length) c216), (37, .pointer (some ⟨b63, 2, none⟩)), (39, .agg #[.slice A102 (((rd x0 s83.1).Shape).length) c103, .slice A104 (((rd x0 s83.1).Data).length) c105]), (40, .agg #[.slice A316 r123.Shape.length c317, .slice A318 r123.Data.length c319])] ∧ Mem [] M w0 [.sl (Kd.int .i64) A316 c317 r123.Shape, .sl Kd.float A318 c319 r123.Data, .sl kTensor (some ⟨b208, 0, none⟩) 1 ([r121] : List Tensor), .sl (Kd.int .i64) A197 c198 r121.Shape, .sl Kd.float A199 c200 r121.Data, .bx b110 [.slice A102 (((rd x0 s83.1).Shape).length) c103, .slice A104 (((rd x0 s83.1).Data).length) c105] 29, .sl Kd.float A104 c105 ((rd x0 s83.1).Data), .sl (Kd.int .i64) A102 c103 ((rd x0 s83.1).Shape), .ow kTensor 29 A84 c85 s83.2.1, .ow kTensor 29 A215 c216 (s83.2.2 ++ ([r121] : List Tensor)), .bx b63 [.slice A86 s83.2.2.length c87, .slice A52 ((List.replicate ((x0.length : Int)).toNat (0 : Int)).length) c53, .slice A84 s83.2.1.length c85] 72, .ow (Kd.int .i64) 3 A52 c53 (List.replicate ((x0.length : Int)).toNat (0 : Int)), .sl kTensor A0 c0 x0] w) #[true, true, true, true, true, true, true, true, true, true, true, true, true, false, true, true, false, false, false, false, false, false, false, false] 9 ?_ fun L878 => ?_
      · rintro a879 w880 ⟨A197, c198, A199, c200, b208, A215, c216, A316, c317, A318, c319, hf881, hm882⟩
        refine all2 13 16 (by kernel_rfl) ?_ ?_
        · refine opOf hf881 rfl (by kernel_rfl) (aOne [.slice A84 s83.2.1.length c85] (.slice A84 s83.2.1.length c85) [.cell ⟨b63, 2, none⟩ (.slice A84 s83.2.1.length c85)] 38 hf881 (by kernel_rfl) rfl (by kernel_rfl) ⟨(hm882.cell 10 rfl rfl), trivial⟩ fun a883 hf884 => ?_)
          refine ⟨.inr (Gr.refl _ _), ?_⟩
          refine all1 16 (by kernel_rfl) ?_
          refine opOf hf884 rfl (by kernel_rfl) (aLit (cs := [.slice A316 r123.Shape.length c317, .slice A318 r123.Data.length c319]) (E := 29) (len := 1) (d := 41) hf884 (by kernel_rfl) (by kernel_rfl) ?_)
          intro b885 w886 a887 hbb885 hx889 hg890 hf888
          refine ⟨.inr (Gr.still hg890), ?_⟩
          have hm882s := hm882.still hg890
          have hm891 := Mem.lit (kd := kTensor) (xs := ([r123] : List Tensor)) hm882 hbb885 hx889 hg890 (Els.one (kd := kTensor) (us := [.slice A316 r123.Shape.length c317, .slice A318 r123.Data.length c319]) (x := r123) (kTensor.mk r123 ⟨hm882s.cpAt 0 rfl, (hm882s.slAt 0 rfl)⟩ ⟨hm882s.cpAt 1 rfl, (hm882s.slAt 1 rfl)⟩))
          refine all1 17 (by kernel_rfl) ?_
          have e900 : s83.2.1.length = s83.2.1.length := rfl
          have e901 : 1 = ([r123] : List Tensor).length := rfl
          refine opOf hf888 rfl (by kernel_rfl) (aApp (kd := kTensor) (base := 0) (E := 29) (A := A84) (B := (some ⟨b885, 0, none⟩)) (c := c85) (c2 := 1) (xs := s83.2.1) (ys := ([r123] : List Tensor)) (k := s83.2.1.length) (m := 1) (sz := 2) (d := 42) hf888 (by kernel_rfl) e900 e901 (by kernel_rfl) rfl (by kernel_rfl) (hm891.at 9 rfl) (hm891.at2 9 0 rfl rfl).2 (hm891.cpAt 0 rfl) (Nat.zero_le _) (by have := g124; omega) ?_)
          intro A892 c893 w894 a895 ho897 hg898 hr899 hf896
          refine ⟨.inl (by decide), ?_⟩
          have hm902 := hm891.setOwn 9 _ rfl rfl ho897 hg898 hr899
          refine quiet0 [18, 19] [] [4, 19, 20, 21, 26, 34, 42, 44] #[true, true, true, true, true, true, true, true, true, true, true, true, true, true, true, true, true, true, true, true, false, false, false, false] [(4, .pointer (some ⟨b63, 0, none⟩)), (19, .slice A0 x0.length c0), (20, .int .i64 (x0.length : Int)), (21, .int .i64 s83.1), (26, .pointer (some ⟨b63, 0, none⟩)), (34, .slice A215 ((s83.2.2 ++ ([r121] : List Tensor)).length) c216), (42, .slice A892 ((s83.2.1 ++ ([r123] : List Tensor)).length) c893), (44, .pointer (some ⟨b63, 0, none⟩))] [] 4 rfl (by kernel_rfl) (fun _ _ _ _ _ h => nomatch h.1) hf896 (by kernel_rfl) trivial fun a903 hf904 => ?_
          refine all1 20 (by kernel_rfl) ?_
          refine opOf hf904 rfl (by kernel_rfl) (aStoreB (b := b63) (j := 0) (T := 72) (cs := [.slice A86 s83.2.2.length c87, .slice A52 ((List.replicate ((x0.length : Int)).toNat (0 : Int)).length) c53, .slice A84 s83.2.1.length c85]) (us := [.slice A215 ((s83.2.2 ++ ([r121] : List Tensor)).length) c216]) (cs' := [.slice A215 ((s83.2.2 ++ ([r121] : List Tensor)).length) c216, .slice A52 ((List.replicate ((x0.length : Int)).toNat (0 : Int)).length) c53, .slice A84 s83.2.1.length c85]) hf904 (by kernel_rfl) (hm902.bxAt 11 rfl) (by kernel_rfl) (by kernel_rfl) (by kernel_rfl) ?_)
          intro w905 hx906 hg907
          refine ⟨.inl (by decide), ?_⟩
          have hm908 := hm902.setBox 11 _ rfl rfl hx906 hg907
          refine quiet0 [21, 22] [] [4, 19, 20, 21, 42, 46] #[true, true, true, true, true, true, true, true, true, true, true, true, true, true, true, true, true, true, true, true, true, true, true, false] [(4, .pointer (some ⟨b63, 0, none⟩)), (19, .slice A0 x0.length c0), (20, .int .i64 (x0.length : Int)), (21, .int .i64 s83.1), (42, .slice A892 ((s83.2.1 ++ ([r123] : List Tensor)).length) c893), (46, .pointer (some ⟨b63, 2, none⟩))] [] 1 rfl (by kernel_rfl) (fun _ _ _ _ _ h => nomatch h.1) hf904 (by kernel_rfl) trivial fun a909 hf910 => ?_
          refine all1 23 (by kernel_rfl) ?_
          refine opOf hf910 rfl (by kernel_rfl) (aStoreB (b := b63) (j := 2) (T := 72) (cs := [.slice A215 ((s83.2.2 ++ ([r121] : List Tensor)).length) c216, .slice A52 ((List.replicate ((x0.length : Int)).toNat (0 : Int)).length) c53, .slice A84 s83.2.1.length c85]) (us := [.slice A892 ((s83.2.1 ++ ([r123] : List Tensor)).length) c893]) (cs' := [.slice A215 ((s83.2.2 ++ ([r121] : List Tensor)).length) c216, .slice A52 ((List.replicate ((x0.length : Int)).toNat (0 : Int)).length) c53, .slice A892 ((s83.2.1 ++ ([r123] : List Tensor)).length) c893]) hf910 (by kernel_rfl) (hm908.bxAt 11 rfl) (by kernel_rfl) (by kernel_rfl) (by kernel_rfl) ?_)
          intro w911 hx912 hg913
          refine ⟨.inl (by decide), ?_⟩
          have hm914 := hm908.setBox 11 _ rfl rfl hx912 hg913
          refine allDone (by kernel_rfl) ⟨rfl, A892, c893, A215, c216, hf910.sel (l := [4, 19, 20, 21]) (by kernel_rfl), hm914.sel [9, 10, 11, 12, 13] _ rfl (by kernel_rfl)⟩
        · refine opOf hf881 rfl (by kernel_rfl) (aLit (cs := [.slice A316 r123.Shape.length c317, .slice A318 r123.Data.length c319]) (E := 29) (len := 1) (d := 41) hf881 (by kernel_rfl) (by kernel_rfl) ?_)
          intro b915 w916 a917 hbb915 hx919 hg920 hf918
          refine ⟨.inr (Gr.still hg920), ?_⟩
          have hm882s := hm882.still hg920
          have hm921 := Mem.lit (kd := kTensor) (xs := ([r123] : List Tensor)) hm882 hbb915 hx919 hg920 (Els.one (kd := kTensor) (us := [.slice A316 r123.Shape.length c317, .slice A318 r123.Data.length c319]) (x := r123) (kTensor.mk r123 ⟨hm882s.cpAt 0 rfl, (hm882s.slAt 0 rfl)⟩ ⟨hm882s.cpAt 1 rfl, (hm882s.slAt 1 rfl)⟩))
          refine all1 13 (by kernel_rfl) ?_
          refine opOf hf918 rfl (by kernel_rfl) (aOne [.slice A84 s83.2.1.length c85] (.slice A84 s83.2.1.length c85) [.cell ⟨b63, 2, none⟩ (.slice A84 s83.2.1.length c85)] 38 hf918 (by kernel_rfl) rfl (by kernel_rfl) ⟨(hm921.cell 11 rfl rfl), trivial⟩ fun a922 hf923 => ?_)
          refine ⟨.inr (Gr.refl _ _), ?_⟩
          refine all1 17 (by kernel_rfl) ?_
          have e932 : s83.2.1.length = s83.2.1.length := rfl
          have e933 : 1 = ([r123] : List Tensor).length := rfl
          refine opOf hf923 rfl (by kernel_rfl) (aApp (kd := kTensor) (base := 0) (E := 29) (A := A84) (B := (some ⟨b915, 0, none⟩)) (c := c85) (c2 := 1) (xs := s83.2.1) (ys := ([r123] : List Tensor)) (k := s83.2.1.length) (m := 1) (sz := 2) (d := 42) hf923 (by kernel_rfl) e932 e933 (by kernel_rfl) rfl (by kernel_rfl) (hm921.at 9 rfl) (hm921.at2 9 0 rfl rfl).2 (hm921.cpAt 0 rfl) (Nat.zero_le _) (by have := g124; omega) ?_)
          intro A924 c925 w926 a927 ho929 hg930 hr931 hf928
          refine ⟨.inl (by decide), ?_⟩
          have hm934 := hm921.setOwn 9 _ rfl rfl ho929 hg930 hr931
          refine quiet0 [18, 19] [] [4, 19, 20, 21, 26, 34, 42, 44] #[true, true, true, true, true, true, true, true, true, true, true, true, true, true, true, true, true, true, true, true, false, false, false, false] [(4, .pointer (some ⟨b63, 0, none⟩)), (19, .slice A0 x0.length c0), (20, .int .i64 (x0.length : Int)), (21, .int .i64 s83.1), (26, .pointer (some ⟨b63, 0, none⟩)), (34, .slice A215 ((s83.2.2 ++ ([r121] : List Tensor)).length) c216), (42, .slice A924 ((s83.2.1 ++ ([r123] : List Tensor)).length) c925), (44, .pointer (some ⟨b63, 0, none⟩))] [] 4 rfl (by kernel_rfl) (fun _ _ _ _ _ h => nomatch h.1) hf928 (by kernel_rfl) trivial fun a935 hf936 => ?_
          refine all1 20 (by kernel_rfl) ?_
          refine opOf hf936 rfl (by kernel_rfl) (aStoreB (b := b63) (j := 0) (T := 72) (cs := [.slice A86 s83.2.2.length c87, .slice A52 ((List.replicate ((x0.length : Int)).toNat (0 : Int)).length) c53, .slice A84 s83.2.1.length c85]) (us := [.slice A215 ((s83.2.2 ++ ([r121] : List Tensor)).length) c216]) (cs' := [.slice A215 ((s83.2.2 ++ ([r121] : List Tensor)).length) c216, .slice A52 ((List.replicate ((x0.length : Int)).toNat (0 : Int)).length) c53, .slice A84 s83.2.1.length c85]) hf936 (by kernel_rfl) (hm934.bxAt 11 rfl) (by kernel_rfl) (by kernel_rfl) (by kernel_rfl) ?_)
          intro w937 hx938 hg939
          refine ⟨.inl (by decide), ?_⟩
          have hm940 := hm934.setBox 11 _ rfl rfl hx938 hg939
          refine quiet0 [21, 22] [] [4, 19, 20, 21, 42, 46] #[true, true, true, true, true, true, true, true, true, true, true, true, true, true, true, true, true, true, true, true, true, true, true, false] [(4, .pointer (some ⟨b63, 0, none⟩)), (19, .slice A0 x0.length c0), (20, .int .i64 (x0.length : Int)), (21, .int .i64 s83.1), (42, .slice A924 ((s83.2.1 ++ ([r123] : List Tensor)).length) c925), (46, .pointer (some ⟨b63, 2, none⟩))] [] 1 rfl (by kernel_rfl) (fun _ _ _ _ _ h => nomatch h.1) hf936 (by kernel_rfl) trivial fun a941 hf942 => ?_
          refine all1 23 (by kernel_rfl) ?_
          refine opOf hf942 rfl (by kernel_rfl) (aStoreB (b := b63) (j := 2) (T := 72) (cs := [.slice A215 ((s83.2.2 ++ ([r121] : List Tensor)).length) c216, .slice A52 ((List.replicate ((x0.length : Int)).toNat (0 : Int)).length) c53, .slice A84 s83.2.1.length c85]) (us := [.slice A924 ((s83.2.1 ++ ([r123] : List Tensor)).length) c925]) (cs' := [.slice A215 ((s83.2.2 ++ ([r121] : List Tensor)).length) c216, .slice A52 ((List.replicate ((x0.length : Int)).toNat (0 : Int)).length) c53, .slice A924 ((s83.2.1 ++ ([r123] : List Tensor)).length) c925]) hf942 (by kernel_rfl) (hm940.bxAt 11 rfl) (by kernel_rfl) (by kernel_rfl) (by kernel_rfl) ?_)
          intro w943 hx944 hg945
          refine ⟨.inl (by decide), ?_⟩
          have hm946 := hm940.setBox 11 _ rfl rfl hx944 hg945
          refine allDone (by kernel_rfl) ⟨rfl, A924, c925, A215, c216, hf942.sel (l := [4, 19, 20, 21]) (by kernel_rfl), hm946.sel [9, 10, 11, 12, 13] _ rfl (by kernel_rfl)⟩
      refine memoStep (R := fun (a : Act) (w : World) => ∃ (A197 : Option Addr) (c198 : Nat) (A199 : Option Addr) (c200 : Nat) (b208 : Nat) (A215 : Option Addr) (c216 : Nat), Fr 49 a [(4, .pointer (some ⟨b63, 0, none⟩)), (6, .pointer (some ⟨b110, 0, none⟩)), (19, .slice A0 x0.length c0), (20, .int .i64 (x0.length : Int)), (21, .int .i64 s83.1), (25, .pointer (some ⟨b63, 0, none⟩)), (26, .pointer (some ⟨b63, 0, none⟩)), (31, .agg #[.slice A102 (((rd x0 s83.1).Shape).length) c103, .slice A104 (((rd x0 s83.1).Data).length) c105]), (32, .agg #[.slice A197 r121.Shape.length c198, .slice A199 r121.Data.length c200]), (33, .slice (some ⟨b208, 0, none⟩) 1 1), (34, .slice A215 ((s83.2.2 ++ ([r121] : List Tensor)).length) c216), (37, .pointer (some ⟨b63, 2, none⟩)), (39, .agg #[.slice A102 (((rd x0 s83.1).Shape).length) c103, .slice A104 (((rd x0 s83.1).Data).length) c105])] ∧ Mem [] M w0 [.sl kTensor (some ⟨b208, 0, none⟩) 1 ([r121] : List Tensor), .sl (Kd.int .i64) A197 c198 r121.Shape, .sl Kd.float A199 c200 r121.Data, .bx b110 [.slice A102 (((rd x0 s83.1).Shape).length) c103, .slice A104 (((rd x0 s83.1).Data).length) c105] 29, .sl Kd.float A104 c105 ((rd x0 s83.1).Data), .sl (Kd.int .i64) A102 c103 ((rd x0 s83.1).Shape), .ow kTensor 29 A84 c85 s83.2.1, .ow kTensor 29 A215 c216 (s83.2.2 ++ ([r121] : List Tensor)), .bx b63 [.slice A86 s83.2.2.length c87, .slice A52 ((List.replicate ((x0.length : Int)).toNat (0 : Int)).length) c53, .slice A84 s83.2.1.length c85] 72, .ow (Kd.int .i64) 3 A52 c53 (List.replicate ((x0.length : Int)).toNat (0 : Int)), .sl kTensor A0 c0 x0] w) #[true, true, true, true, true, true, true, true, true, true, true, true, true, false, true, false, false, false, false, false, false, false, false, false] 10 ?_ fun L947 => ?_
      · rintro a948 w949 ⟨A197, c198, A199, c200, b208, A215, c216, hf950, hm951⟩
        refine all2 13 15 (by kernel_rfl) ?_ ?_
        · refine opOf hf950 rfl (by kernel_rfl) (aOne [.slice A84 s83.2.1.length c85] (.slice A84 s83.2.1.length c85) [.cell ⟨b63, 2, none⟩ (.slice A84 s83.2.1.length c85)] 38 hf950 (by kernel_rfl) rfl (by kernel_rfl) ⟨(hm951.cell 8 rfl rfl), trivial⟩ fun a952 hf953 => ?_)
          refine ⟨.inr (Gr.refl _ _), ?_⟩
          refine all1 15 (by kernel_rfl) ?_
          refine opOf hf953 rfl (by kernel_rfl) (aCall (fid := 34) (args := [.agg #[.slice A102 (((rd x0 s83.1).Shape).length) c103, .slice A104 (((rd x0 s83.1).Data).length) c105]]) (d := 40) hf953 (by kernel_rfl) (by kernel_rfl) callable34 (shelf_noughts.calls _ _ (⟨((rd x0 s83.1).Shape), ((rd x0 s83.1).Data)⟩ : Tensor) A102 (((rd x0 s83.1).Shape).length) c103 rfl A104 (((rd x0 s83.1).Data).length) c105 rfl (hm951.give [5, 4] [.sl (Kd.int .i64) A102 c103 ((rd x0 s83.1).Shape), .sl Kd.float A104 c105 ((rd x0 s83.1).Data)] rfl rfl) r123 hr123) ?_)
          rintro _ w958 a959 ⟨A954, c955, A956, c957, rfl, hk961⟩ hf960
          refine ⟨.inr (Gr.still hk961.cum.none), ?_⟩
          have hm962 := hm951.back hk961
          have hm963 := hm962.seal 0 _ rfl rfl
          have hm964 := hm963.seal 1 _ rfl rfl
          refine all1 16 (by kernel_rfl) ?_
          refine opOf hf960 rfl (by kernel_rfl) (aLit (cs := [.slice A954 r123.Shape.length c955, .slice A956 r123.Data.length c957]) (E := 29) (len := 1) (d := 41) hf960 (by kernel_rfl) (by kernel_rfl) ?_)
          intro b965 w966 a967 hbb965 hx969 hg970 hf968
          refine ⟨.inr (Gr.still hg970), ?_⟩
          have hm964s := hm964.still hg970
          have hm971 := Mem.lit (kd := kTensor) (xs := ([r123] : List Tensor)) hm964 hbb965 hx969 hg970 (Els.one (kd := kTensor) (us := [.slice A954 r123.Shape.length c955, .slice A956 r123.Data.length c957]) (x := r123) (kTensor.mk r123 ⟨hm964s.cpAt 0 rfl, (hm964s.slAt 0 rfl)⟩ ⟨hm964s.cpAt 1 rfl, (hm964s.slAt 1 rfl)⟩))
          refine all1 17 (by kernel_rfl) ?_
          have e980 : s83.2.1.length = s83.2.1.length := rfl
          have e981 : 1 = ([r123] : List Tensor).length := rfl
          refine opOf hf968 rfl (by kernel_rfl) (aApp (kd := kTensor) (base := 0) (E := 29) (A := A84) (B := (some ⟨b965, 0, none⟩)) (c := c85) (c2 := 1) (xs := s83.2.1) (ys := ([r123] : List Tensor)) (k := s83.2.1.length) (m := 1) (sz := 2) (d := 42) hf968 (by kernel_rfl) e980 e981 (by kernel_rfl) rfl (by kernel_rfl) (hm971.at 9 rfl) (hm971.at2 9 0 rfl rfl).2 (hm971.cpAt 0 rfl) (Nat.zero_le _) (by have := g124; omega) ?_)
          intro A972 c973 w974 a975 ho977 hg978 hr979 hf976
          refine ⟨.inl (by decide), ?_⟩
          have hm982 := hm971.setOwn 9 _ rfl rfl ho977 hg978 hr979
          refine quiet0 [18, 19] [] [4, 19, 20, 21, 26, 34, 42, 44] #[true, true, true, true, true, true, true, true, true, true, true, true, true, true, true, true, true, true, true, true, false, false, false, false] [(4, .pointer (some ⟨b63, 0, none⟩)), (19, .slice A0 x0.length c0), (20, .int .i64 (x0.length : Int)), (21, .int .i64 s83.1), (26, .pointer (some ⟨b63, 0, none⟩)), (34, .slice A215 ((s83.2.2 ++ ([r121] : List Tensor)).length) c216), (42, .slice A972 ((s83.2.1 ++ ([r123] : List Tensor)).length) c973), (44, .pointer (some ⟨b63, 0, none⟩))] [] 4 rfl (by kernel_rfl) (fun _ _ _ _ _ h => nomatch h.1) hf976 (by kernel_rfl) trivial fun a983 hf984 => ?_
          refine all1 20 (by kernel_rfl) ?_
          refine opOf hf984 rfl (by kernel_rfl) (aStoreB (b := b63) (j := 0) (T := 72) (cs := [.slice A86 s83.2.2.length c87, .slice A52 ((List.replicate ((x0.length : Int)).toNat (0 : Int)).length) c53, .slice A84 s83.2.1.length c85]) (us := [.slice A215 ((s83.2.2 ++ ([r121] : List Tensor)).length) c216]) (cs' := [.slice A215 ((s83.2.2 ++ ([r121] : List Tensor)).length) c216, .slice A52 ((List.replicate ((x0.length : Int)).toNat (0 : Int)).length) c53, .slice A84 s83.2.1.length c85]) hf984 (by kernel_rfl) (hm982.bxAt 11 rfl) (by kernel_rfl) (by kernel_rfl) (by kernel_rfl) ?_)
          intro w985 hx986 hg987
          refine ⟨.inl (by decide), ?_⟩
          have hm988 := hm982.setBox 11 _ rfl rfl hx986 hg987
          refine quiet0 [21, 22] [] [4, 19, 20, 21, 42, 46] #[true, true, true, true, true, true, true, true, true, true, true, true, true, true, true, true, true, true, true, true, true, true, true, false] [(4, .pointer (some ⟨b63, 0, none⟩)), (19, .slice A0 x0.length c0), (20, .int .i64 (x0.length : Int)), (21, .int .i64 s83.1), (42, .slice A972 ((s83.2.1 ++ ([r123] : List Tensor)).length) c973), (46, .pointer (some ⟨b63, 2, none⟩))] [] 1 rfl (by kernel_rfl) (fun _ _ _ _ _ h => nomatch h.1) hf984 (by kernel_rfl) trivial fun a989 hf990 => ?_
          refine all1 23 (by kernel_rfl) ?_
          refine opOf hf990 rfl (by kernel_rfl) (aStoreB (b := b63) (j := 2) (T := 72) (cs := [.slice A215 ((s83.2.2 ++ ([r121] : List Tensor)).length) c216, .slice A52 ((List.replicate ((x0.length : Int)).toNat (0 : Int)).length) c53, .slice A84 s83.2.1.length c85]) (us := [.slice A972 ((s83.2.1 ++ ([r123] : List Tensor)).length) c973]) (cs' := [.slice A215 ((s83.2.2 ++ ([r121] : List Tensor)).length) c216, .slice A52 ((List.replicate ((x0.length : Int)).toNat (0 : Int)).length) c53, .slice A972 ((s83.2.1 ++ ([r123] : List Tensor)).length) c973]) hf990 (by kernel_rfl) (hm988.bxAt 11 rfl) (by kernel_rfl) (by kernel_rfl) (by kernel_rfl) ?_)
          intro w991 hx992 hg993
          refine ⟨.inl (by decide), ?_⟩
          have hm994 := hm988.setBox 11 _ rfl rfl hx992 hg993
          refine allDone (by kernel_rfl) ⟨rfl, A972, c973, A215, c216, hf990.sel (l := [4, 19, 20, 21]) (by kernel_rfl), hm994.sel [9, 10, 11, 12, 13] _ rfl (by kernel_rfl)⟩
        · refine opOf hf950 rfl (by kernel_rfl) (aCall (fid := 34) (args := [.agg #[.slice A102 (((rd x0 s83.1).Shape).length) c103, .slice A104 (((rd x0 s83.1).Data).length) c105]]) (d := 40) hf950 (by kernel_rfl) (by kernel_rfl) callable34 (shelf_noughts.calls _ _ (⟨((rd x0 s83.1).Shape), ((rd x0 s83.1).Data)⟩ : Tensor) A102 (((rd x0 s83.1).Shape).length) c103 rfl A104 (((rd x0 s83.1).Data).length) c105 rfl (hm951.give [5, 4] [.sl (Kd.int .i64) A102 c103 ((rd x0 s83.1).Shape), .sl Kd.float A104 c105 ((rd x0 s83.1).Data)] rfl rfl) r123 hr123) ?_)
          rintro _ w999 a1000 ⟨A995, c996, A997, c998, rfl, hk1002⟩ hf1001
          refine ⟨.inr (Gr.still hk1002.cum.none), ?_⟩
          have hm1003 := hm951.back hk1002
          have hm1004 := hm1003.seal 0 _ rfl rfl
          have hm1005 := hm1004.seal 1 _ rfl rfl
          exact L878 _ _ ⟨A197, c198, A199, c200, b208, A215, c216, A995, c996, A997, c998, hf1001.sel (l := [4, 6, 19, 20, 21, 25, 26, 31, 32, 33, 34, 37, 39, 40]) (by kernel_rfl), hm1005.sel [0, 1, 2, 3, 4, 5, 6, 7, 8, 9, 10, 11, 12] _ rfl (by kernel_rfl)⟩
      refine memoStep (R := fun (a : Act) (w : World) => ∃ (A197 : Option Addr) (c198 : Nat) (A199 : Option Addr) (c200 : Nat) (b208 : Nat) (A215 : Option Addr) (c216 : Nat), Fr 49 a [(4, .pointer (some ⟨b63, 0, none⟩)), (6, .pointer (some ⟨b110, 0, none⟩)), (19, .slice A0 x0.length c0), (20, .int .i64 (x0.length : Int)), (21, .int .i64 s83.1), (25, .pointer (some ⟨b63, 0, none⟩)), (26, .pointer (some ⟨b63, 0, none⟩)), (31, .agg #[.slice A102 (((rd x0 s83.1).Shape).length) c103, .slice A104 (((rd x0 s83.1).Data).length) c105]), (32, .agg #[.slice A197 r121.Shape.length c198, .slice A199 r121.Data.length c200]), (33, .slice (some ⟨b208, 0, none⟩) 1 1), (34, .slice A215 ((s83.2.2 ++ ([r121] : List Tensor)).length) c216), (37, .pointer (some ⟨b63, 2, none⟩))] ∧ Mem [] M w0 [.sl kTensor (some ⟨b208, 0, none⟩) 1 ([r121] : List Tensor), .sl (Kd.int .i64) A197 c198 r121.Shape, .sl Kd.float A199 c200 r121.Data, .bx b110 [.slice A102 (((rd x0 s83.1).Shape).length) c103, .slice A104 (((rd x0 s83.1).Data).length) c105] 29, .sl Kd.float A104 c105 ((rd x0 s83.1).Data), .sl (Kd.int .i64) A102 c103 ((rd x0 s83.1).Shape), .ow kTensor 29 A84 c85 s83.2.1, .ow kTensor 29 A215 c216 (s83.2.2 ++ ([r121] : List Tensor)), .bx b63 [.slice A86 s83.2.2.length c87, .slice A52 ((List.replicate ((x0.length : Int)).toNat (0 : Int)).length) c53, .slice A84 s83.2.1.length c85] 72, .ow (Kd.int .i64) 3 A52 c53 (List.replicate ((x0.length : Int)).toNat (0 : Int)), .sl kTensor A0 c0 x0] w) #[true, true, true, true, true, true, true, true, true, true, true, true, true, false, false, false, false, false, false, false, false, false, false, false] 11 ?_ fun L1006 => ?_
      · rintro a1007 w1008 ⟨A197, c198, A199, c200, b208, A215, c216, hf1009, hm1010⟩
        refine all2 13 14 (by kernel_rfl) ?_ ?_
        · refine opOf hf1009 rfl (by kernel_rfl) (aOne [.slice A84 s83.2.1.length c85] (.slice A84 s83.2.1.length c85) [.cell ⟨b63, 2, none⟩ (.slice A84 s83.2.1.length c85)] 38 hf1009 (by kernel_rfl) rfl (by kernel_rfl) ⟨(hm1010.cell 8 rfl rfl), trivial⟩ fun a1011 hf1012 => ?_)
          refine ⟨.inr (Gr.refl _ _), ?_⟩
          refine all1 14 (by kernel_rfl) ?_
          refine opOf hf1012 rfl (by kernel_rfl) (aOne [.agg #[.slice A102 (((rd x0 s83.1).Shape).length) c103, .slice A104 (((rd x0 s83.1).Data).length) c105]] (.agg #[.slice A102 (((rd x0 s83.1).Shape).length) c103, .slice A104 (((rd x0 s83.1).Data).length) c105]) [.cell ⟨b110, 0, none⟩ (.slice A102 (((rd x0 s83.1).Shape).length) c103), .cell ⟨b110, 1, none⟩ (.slice A104 (((rd x0 s83.1).Data).length) c105)] 39 hf1012 (by kernel_rfl) rfl (by kernel_rfl) ⟨(hm1010.cell 3 rfl rfl), (hm1010.cell 3 rfl rfl), trivial⟩ fun a1013 hf1014 => ?_)
          refine ⟨.inr (Gr.refl _ _), ?_⟩
          refine all1 15 (by kernel_rfl) ?_
          refine opOf hf1014 rfl (by kernel_rfl) (aCall (fid := 34) (args := [.agg #[.slice A102 (((rd x0 s83.1).Shape).length) c103, .slice A104 (((rd x0 s83.1).Data).length) c105]]) (d := 40) hf1014 (by kernel_rfl) (by kernel_rfl) callable34 (shelf_noughts.calls _ _ (⟨((rd x0 s83.1).Shape), ((rd x0 s83.1).Data)⟩ : Tensor) A102 (((rd x0 s83.1).Shape).length) c103 rfl A104 (((rd x0 s83.1).Data).length) c105 rfl (hm1010.give [5, 4] [.sl (Kd.int .i64) A102 c103 ((rd x0 s83.1).Shape), .sl Kd.float A104 c105 ((rd x0 s83.1).Data)] rfl rfl) r123 hr123) ?_)
          rintro _ w1019 a1020 ⟨A1015, c1016, A1017, c1018, rfl, hk1022⟩ hf1021
          refine ⟨.inr (Gr.still hk1022.cum.none), ?_⟩
          have hm1023 := hm1010.back hk1022
          have hm1024 := hm1023.seal 0 _ rfl rfl
          have hm1025 := hm1024.seal 1 _ rfl rfl
          refine all1 16 (by kernel_rfl) ?_
          refine opOf hf1021 rfl (by kernel_rfl) (aLit (cs := [.slice A1015 r123.Shape.length c1016, .slice A1017 r123.Data.length c1018]) (E := 29) (len := 1) (d := 41) hf1021 (by kernel_rfl) (by kernel_rfl) ?_)
          intro b1026 w1027 a1028 hbb1026 hx1030 hg1031 hf1029
          refine ⟨.inr (Gr.still hg1031), ?_⟩
          have hm1025s := hm1025.still hg1031
          have hm1032 := Mem.lit (kd := kTensor) (xs := ([r123] : List Tensor)) hm1025 hbb1026 hx1030 hg1031 (Els.one (kd := kTensor) (us := [.slice A1015 r123.Shape.length c1016, .slice A1017 r123.Data.length c1018]) (x := r123) (kTensor.mk r123 ⟨hm1025s.cpAt 0 rfl, (hm1025s.slAt 0 rfl)⟩ ⟨hm1025s.cpAt 1 rfl, (hm1025s.slAt 1 rfl)⟩))
          refine all1 17 (by kernel_rfl) ?_
          have e1041 : s83.2.1.length = s83.2.1.length := rfl
          have e1042 : 1 = ([r123] : List Tensor).length := rfl
          refine opOf hf1029 rfl (by kernel_rfl) (aApp (kd := kTensor) (base := 0) (E := 29) (A := A84) (B := (some ⟨b1026, 0, none⟩)) (c := c85) (c2 := 1) (xs := s83.2.1) (ys := ([r123] : List Tensor)) (k := s83.2.1.length) (m := 1) (sz := 2) (d := 42) hf1029 (by kernel_rfl) e1041 e1042 (by kernel_rfl) rfl (by kernel_rfl) (hm1032.at 9 rfl) (hm1032.at2 9 0 rfl rfl).2 (hm1032.cpAt 0 rfl) (Nat.zero_le _) (by have := g124; omega) ?_)
          intro A1033 c1034 w1035 a1036 ho1038 hg1039 hr1040 hf1037
          refine ⟨.inl (by decide), ?_⟩
          have hm1043 := hm1032.setOwn 9 _ rfl rfl ho1038 hg1039 hr1040
          refine quiet0 [18, 19] [] [4, 19, 20, 21, 26, 34, 42, 44] #[true, true, true, true, true, true, true, true, true, true, true, true, true, true, true, true, true, true, true, true, false, false, false, false] [(4, .pointer (some ⟨b63, 0, none⟩)), (19, .slice A0 x0.length c0), (20, .int .i64 (x0.length : Int)), (21, .int .i64 s83.1), (26, .pointer (some ⟨b63, 0, none⟩)), (34, .slice A215 ((s83.2.2 ++ ([r121] : List Tensor)).length) c216), (42, .slice A1033 ((s83.2.1 ++ ([r123] : List Tensor)).length) c1034), (44, .pointer (some ⟨b63, 0, none⟩))] [] 4 rfl (by kernel_rfl) (fun _ _ _ _ _ h => nomatch h.1) hf1037 (by kernel_rfl) trivial fun a1044 hf1045 => ?_
          refine all1 20 (by kernel_rfl) ?_
          refine opOf hf1045 rfl (by kernel_rfl) (aStoreB (b := b63) (j := 0) (T := 72) (cs := [.slice A86 s83.2.2.length c87, .slice A52 ((List.replicate ((x0.length : Int)).toNat (0 : Int)).length) c53, .slice A84 s83.2.1.length c85]) (us := [.slice A215 ((s83.2.2 ++ ([r121] : List Tensor)).length) c216]) (cs' := [.slice A215 ((s83.2.2 ++ ([r121] : List Tensor)).length) c216, .slice A52 ((List.replicate ((x0.length : Int)).toNat (0 : Int)).length) c53, .slice A84 s83.2.1.length c85]) hf1045 (by kernel_rfl) (hm1043.bxAt 11 rfl) (by kernel_rfl) (by kernel_rfl) (by kernel_rfl) ?_)
          intro w1046 hx1047 hg1048
          refine ⟨.inl (by decide), ?_⟩
          have hm1049 := hm1043.setBox 11 _ rfl rfl hx1047 hg1048
          refine quiet0 [21, 22] [] [4, 19, 20, 21, 42, 46] #[true, true, true, true, true, true, true, true, true, true, true, true, true, true, true, true, true, true, true, true, true, true, true, false] [(4, .pointer (some ⟨b63, 0, none⟩)), (19, .slice A0 x0.length c0), (20, .int .i64 (x0.length : Int)), (21, .int .i64 s83.1), (42, .slice A1033 ((s83.2.1 ++ ([r123] : List Tensor)).length) c1034), (46, .pointer (some ⟨b63, 2, none⟩))] [] 1 rfl (by kernel_rfl) (fun _ _ _ _ _ h => nomatch h.1) hf1045 (by kernel_rfl) trivial fun a1050 hf1051 => ?_
          refine all1 23 (by kernel_rfl) ?_
          refine opOf hf1051 rfl (by kernel_rfl) (aStoreB (b := b63) (j := 2) (T := 72) (cs := [.slice A215 ((s83.2.2 ++ ([r121] : List Tensor)).length) c216, .slice A52 ((List.replicate ((x0.length : Int)).toNat (0 : Int)).length) c53, .slice A84 s83.2.1.length c85]) (us := [.slice A1033 ((s83.2.1 ++ ([r123] : List Tensor)).length) c1034]) (cs' := [.slice A215 ((s83.2.2 ++ ([r121] : List Tensor)).length) c216, .slice A52 ((List.replicate ((x0.length : Int)).toNat (0 : Int)).length) c53, .slice A1033 ((s83.2.1 ++ ([r123] : List Tensor)).length) c1034]) hf1051 (by kernel_rfl) (hm1049.bxAt 11 rfl) (by kernel_rfl) (by kernel_rfl) (by kernel_rfl) ?_)
          intro w1052 hx1053 hg1054
          refine ⟨.inl (by decide), ?_⟩
          have hm1055 := hm1049.setBox 11 _ rfl rfl hx1053 hg1054
          refine allDone (by kernel_rfl) ⟨rfl, A1033, c1034, A215, c216, hf1051.sel (l := [4, 19, 20, 21]) (by kernel_rfl), hm1055.sel [9, 10, 11, 12, 13] _ rfl (by kernel_rfl)⟩
        · refine opOf hf1009 rfl (by kernel_rfl) (aOne [.agg #[.slice A102 (((rd x0 s83.1).Shape).length) c103, .slice A104 (((rd x0 s83.1).Data).length) c105]] (.agg #[.slice A102 (((rd x0 s83.1).Shape).length) c103, .slice A104 (((rd x0 s83.1).Data).length) c105]) [.cell ⟨b110, 0, none⟩ (.slice A102 (((rd x0 s83.1).Shape).length) c103), .cell ⟨b110, 1, none⟩ (.slice A104 (((rd x0 s83.1).Data).length) c105)] 39 hf1009 (by kernel_rfl) rfl (by kernel_rfl) ⟨(hm1010.cell 3 rfl rfl), (hm1010.cell 3 rfl rfl), trivial⟩ fun a1056 hf1057 => ?_)
          refine ⟨.inr (Gr.refl _ _), ?_⟩
          exact L947 _ _ ⟨A197, c198, A199, c200, b208, A215, c216, hf1057.sel (l := [4, 6, 19, 20, 21, 25, 26, 31, 32, 33, 34, 37, 39]) (by kernel_rfl), hm1010.sel [0, 1, 2, 3, 4, 5, 6, 7, 8, 9, 10] _ rfl (by kernel_rfl)⟩
      refine memoStep (R := fun (a : Act) (w : World) => ∃ (A197 : Option Addr) (c198 : Nat) (A199 : Option Addr) (c200 : Nat) (b208 : Nat), Fr 49 a [(4, .pointer (some ⟨b63, 0, none⟩)), (6, .pointer (some ⟨b110, 0, none⟩)), (19, .slice A0 x0.length c0), (20, .int .i64 (x0.length : Int)), (21, .int .i64 s83.1), (25, .pointer (some ⟨b63, 0, none⟩)), (26, .pointer (some ⟨b63, 0, none⟩)), (30, .slice A86 s83.2.2.length c87), (31, .agg #[.slice A102 (((rd x0 s83.1).Shape).length) c103, .slice A104 (((rd x0 s83.1).Data).length) c105]), (32, .agg #[.slice A197 r121.Shape.length c198, .slice A199 r121.Data.length c200]), (33, .slice (some ⟨b208, 0, none⟩) 1 1), (37, .pointer (some ⟨b63, 2, none⟩)), (38, .slice A84 s83.2.1.length c85)] ∧ Mem [] M w0 [.sl kTensor (some ⟨b208, 0, none⟩) 1 ([r121] : List Tensor), .sl (Kd.int .i64) A197 c198 r121.Shape, .sl Kd.float A199 c200 r121.Data, .bx b110 [.slice A102 (((rd x0 s83.1).Shape).length) c103, .slice A104 (((rd x0 s83.1).Data).length) c105] 29, .sl Kd.float A104 c105 ((rd x0 s83.1).Data), .sl (Kd.int .i64) A102 c103 ((rd x0 s83.1).Shape), .ow kTensor 29 A84 c85 s83.2.1, .ow kTensor 29 A86 c87 s83.2.2, .bx b63 [.slice A86 s83.2.2.length c87, .slice A52 ((List.replicate ((x0.length : Int)).toNat (0 : Int)).length) c53, .slice A84 s83.2.1.length c85] 72, .ow (Kd.int .i64) 3 A52 c53 (List.replicate ((x0.length : Int)).toNat (0 : Int)), .sl kTensor A0 c0 x0] w) #[true, true, true, true, true, true, true, true, true, false, true, true, true, true, false, false, false, false, false, false, false, false, false, false] 11 ?_ fun L1058 => ?_
      · rintro a1059 w1060 ⟨A197, c198, A199, c200, b208, hf1061, hm1062⟩
        refine all2 9 14 (by kernel_rfl) ?_ ?_
        · have e1071 : s83.2.2.length = s83.2.2.length := rfl
          have e1072 : 1 = ([r121] : List Tensor).length := rfl
          refine opOf hf1061 rfl (by kernel_rfl) (aApp (kd := kTensor) (base := 0) (E := 29) (A := A86) (B := (some ⟨b208, 0, none⟩)) (c := c87) (c2 := 1) (xs := s83.2.2) (ys := ([r121] : List Tensor)) (k := s83.2.2.length) (m := 1) (sz := 2) (d := 34) hf1061 (by kernel_rfl) e1071 e1072 (by kernel_rfl) rfl (by kernel_rfl) (hm1062.at 7 rfl) (hm1062.at2 7 0 rfl rfl).2 (hm1062.cpAt 0 rfl) (Nat.zero_le _) (by have := g122; omega) ?_)
          intro A1063 c1064 w1065 a1066 ho1068 hg1069 hr1070 hf1067
          refine ⟨.inl (by decide), ?_⟩
          have hm1073 := hm1062.setOwn 7 _ rfl rfl ho1068 hg1069 hr1070
          refine all1 14 (by kernel_rfl) ?_
          refine opOf hf1067 rfl (by kernel_rfl) (aOne [.agg #[.slice A102 (((rd x0 s83.1).Shape).length) c103, .slice A104 (((rd x0 s83.1).Data).length) c105]] (.agg #[.slice A102 (((rd x0 s83.1).Shape).length) c103, .slice A104 (((rd x0 s83.1).Data).length) c105]) [.cell ⟨b110, 0, none⟩ (.slice A102 (((rd x0 s83.1).Shape).length) c103), .cell ⟨b110, 1, none⟩ (.slice A104 (((rd x0 s83.1).Data).length) c105)] 39 hf1067 (by kernel_rfl) rfl (by kernel_rfl) ⟨(hm1073.cell 3 rfl rfl), (hm1073.cell 3 rfl rfl), trivial⟩ fun a1074 hf1075 => ?_)
          refine ⟨.inr (Gr.refl _ _), ?_⟩
          refine all1 15 (by kernel_rfl) ?_
          refine opOf hf1075 rfl (by kernel_rfl) (aCall (fid := 34) (args := [.agg #[.slice A102 (((rd x0 s83.1).Shape).length) c103, .slice A104 (((rd x0 s83.1).Data).length) c105]]) (d := 40) hf1075 (by kernel_rfl) (by kernel_rfl) callable34 (shelf_noughts.calls _ _ (⟨((rd x0 s83.1).Shape), ((rd x0 s83.1).Data)⟩ : Tensor) A102 (((rd x0 s83.1).Shape).length) c103 rfl A104 (((rd x0 s83.1).Data).length) c105 rfl (hm1073.give [5, 4] [.sl (Kd.int .i64) A102 c103 ((rd x0 s83.1).Shape), .sl Kd.float A104 c105 ((rd x0 s83.1).Data)] rfl rfl) r123 hr123) ?_)
          rintro _ w1080 a1081 ⟨A1076, c1077, A1078, c1079, rfl, hk1083⟩ hf1082
          refine ⟨.inr (Gr.still hk1083.cum.none), ?_⟩
          have hm1084 := hm1073.back hk1083
          have hm1085 := hm1084.seal 0 _ rfl rfl
          have hm1086 := hm1085.seal 1 _ rfl rfl
          refine all1 16 (by kernel_rfl) ?_
          refine opOf hf1082 rfl (by kernel_rfl) (aLit (cs := [.slice A1076 r123.Shape.length c1077, .slice A1078 r123.Data.length c1079]) (E := 29) (len := 1) (d := 41) hf1082 (by kernel_rfl) (by kernel_rfl) ?_)
          intro b1087 w1088 a1089 hbb1087 hx1091 hg1092 hf1090
          refine ⟨.inr (Gr.still hg1092), ?_⟩
          have hm1086s := hm1086.still hg1092
          have hm1093 := Mem.lit (kd := kTensor) (xs := ([r123] : List Tensor)) hm1086 hbb1087 hx1091 hg1092 (Els.one (kd := kTensor) (us := [.slice A1076 r123.Shape.length c1077, .slice A1078 r123.Data.length c1079]) (x := r123) (kTensor.mk r123 ⟨hm1086s.cpAt 0 rfl, (hm1086s.slAt 0 rfl)⟩ ⟨hm1086s.cpAt 1 rfl, (hm1086s.slAt 1 rfl)⟩))
          refine all1 17 (by kernel_rfl) ?_
          have e1102 : s83.2.1.length = s83.2.1.length := rfl
          have e1103 : 1 = ([r123] : List Tensor).length := rfl
          refine opOf hf1090 rfl (by kernel_rfl) (aApp (kd := kTensor) (base := 0) (E := 29) (A := A84) (B := (some ⟨b1087, 0, none⟩)) (c := c85) (c2 := 1) (xs := s83.2.1) (ys := ([r123] : List Tensor)) (k := s83.2.1.length) (m := 1) (sz := 2) (d := 42) hf1090 (by kernel_rfl) e1102 e1103 (by kernel_rfl) rfl (by kernel_rfl) (hm1093.at 9 rfl) (hm1093.at2 9 0 rfl rfl).2 (hm1093.cpAt 0 rfl) (Nat.zero_le _) (by have := g124; omega) ?_)
          intro A1094 c1095 w1096 a1097 ho1099 hg1100 hr1101 hf1098
          refine ⟨.inl (by decide), ?_⟩
          have hm1104 := hm1093.setOwn 9 _ rfl rfl ho1099 hg1100 hr1101
          refine quiet0 [18, 19] [] [4, 19, 20, 21, 26, 34, 42, 44] #[true, true, true, true, true, true, true, true, true, true, true, true, true, true, true, true, true, true, true, true, false, false, false, false] [(4, .pointer (some ⟨b63, 0, none⟩)), (19, .slice A0 x0.length c0), (20, .int .i64 (x0.length : Int)), (21, .int .i64 s83.1), (26, .pointer (some ⟨b63, 0, none⟩)), (34, .slice A1063 ((s83.2.2 ++ ([r121] : List Tensor)).length) c1064), (42, .slice A1094 ((s83.2.1 ++ ([r123] : List Tensor)).length) c1095), (44, .pointer (some ⟨b63, 0, none⟩))] [] 4 rfl (by kernel_rfl) (fun _ _ _ _ _ h => nomatch h.1) hf1098 (by kernel_rfl) trivial fun a1105 hf1106 => ?_
          refine all1 20 (by kernel_rfl) ?_
          refine opOf hf1106 rfl (by kernel_rfl) (aStoreB (b := b63) (j := 0) (T := 72) (cs := [.slice A86 s83.2.2.length c87, .slice A52 ((List.replicate ((x0.length : Int)).toNat (0 : Int)).length) c53, .slice A84 s83.2.1.length c85]) (us := [.slice A1063 ((s83.2.2 ++ ([r121] : List Tensor)).length) c1064]) (cs' := [.slice A1063 ((s83.2.2 ++ ([r121] : List Tensor)).length) c1064, .slice A52 ((List.replicate ((x0.length : Int)).toNat (0 : Int)).length) c53, .slice A84 s83.2.1.length c85]) hf1106 (by kernel_rfl) (hm1104.bxAt 11 rfl) (by kernel_rfl) (by kernel_rfl) (by kernel_rfl) ?_)
          intro w1107 hx1108 hg1109
          refine ⟨.inl (by decide), ?_⟩
          have hm1110 := hm1104.setBox 11 _ rfl rfl hx1108 hg1109
          refine quiet0 [21, 22] [] [4, 19, 20, 21, 42, 46] #[true, true, true, true, true, true, true, true, true, true, true, true, true, true, true, true, true, true, true, true, true, true, true, false] [(4, .pointer (some ⟨b63, 0, none⟩)), (19, .slice A0 x0.length c0), (20, .int .i64 (x0.length : Int)), (21, .int .i64 s83.1), (42, .slice A1094 ((s83.2.1 ++ ([r123] : List Tensor)).length) c1095), (46, .pointer (some ⟨b63, 2, none⟩))] [] 1 rfl (by kernel_rfl) (fun _ _ _ _ _ h => nomatch h.1) hf1106 (by kernel_rfl) trivial fun a1111 hf1112 => ?_
          refine all1 23 (by kernel_rfl) ?_
          refine opOf hf1112 rfl (by kernel_rfl) (aStoreB (b := b63) (j := 2) (T := 72) (cs := [.slice A1063 ((s83.2.2 ++ ([r121] : List Tensor)).length) c1064, .slice A52 ((List.replicate ((x0.length : Int)).toNat (0 : Int)).length) c53, .slice A84 s83.2.1.length c85]) (us := [.slice A1094 ((s83.2.1 ++ ([r123] : List Tensor)).length) c1095]) (cs' := [.slice A1063 ((s83.2.2 ++ ([r121] : List Tensor)).length) c1064, .slice A52 ((List.replicate ((x0.length : Int)).toNat (0 : Int)).length) c53, .slice A1094 ((s83.2.1 ++ ([r123] : List Tensor)).length) c1095]) hf1112 (by kernel_rfl) (hm1110.bxAt 11 rfl) (by kernel_rfl) (by kernel_rfl) (by kernel_rfl) ?_)
          intro w1113 hx1114 hg1115
          refine ⟨.inl (by decide), ?_⟩
          have hm1116 := hm1110.setBox 11 _ rfl rfl hx1114 hg1115
          refine allDone (by kernel_rfl) ⟨rfl, A1094, c1095, A1063, c1064, hf1112.sel (l := [4, 19, 20, 21]) (by kernel_rfl), hm1116.sel [9, 10, 11, 12, 13] _ rfl (by kernel_rfl)⟩
        · refine opOf hf1061 rfl (by kernel_rfl) (aOne [.agg #[.slice A102 (((rd x0 s83.1).Shape).length) c103, .slice A104 (((rd x0 s83.1).Data).length) c105]] (.agg #[.slice A102 (((rd x0 s83.1).Shape).length) c103, .slice A104 (((rd x0 s83.1).Data).length) c105]) [.cell ⟨b110, 0, none⟩ (.slice A102 (((rd x0 s83.1).Shape).length) c103), .cell ⟨b110, 1, none⟩ (.slice A104 (((rd x0 s83.1).Data).length) c105)] 39 hf1061 (by kernel_rfl) rfl (by kernel_rfl) ⟨(hm1062.cell 3 rfl rfl), (hm1062.cell 3 rfl rfl), trivial⟩ fun a1117 hf1118 => ?_)
          refine ⟨.inr (Gr.refl _ _), ?_⟩
          refine all1 9 (by kernel_rfl) ?_
          have e1127 : s83.2.2.length = s83.2.2.length := rfl
          have e1128 : 1 = ([r121] : List Tensor).length := rfl
          refine opOf hf1118 rfl (by kernel_rfl) (aApp (kd := kTensor) (base := 0) (E := 29) (A := A86) (B := (some ⟨b208, 0, none⟩)) (c := c87) (c2 := 1) (xs := s83.2.2) (ys := ([r121] : List Tensor)) (k := s83.2.2.length) (m := 1) (sz := 2) (d := 34) hf1118 (by kernel_rfl) e1127 e1128 (by kernel_rfl) rfl (by kernel_rfl) (hm1062.at 7 rfl) (hm1062.at2 7 0 rfl rfl).2 (hm1062.cpAt 0 rfl) (Nat.zero_le _) (by have := g122; omega) ?_)
          intro A1119 c1120 w1121 a1122 ho1124 hg1125 hr1126 hf1123
          refine ⟨.inl (by decide), ?_⟩
          have hm1129 := hm1062.setOwn 7 _ rfl rfl ho1124 hg1125 hr1126
          refine all1 15 (by kernel_rfl) ?_
          refine opOf hf1123 rfl (by kernel_rfl) (aCall (fid := 34) (args := [.agg #[.slice A102 (((rd x0 s83.1).Shape).length) c103, .slice A104 (((rd x0 s83.1).Data).length) c105]]) (d := 40) hf1123 (by kernel_rfl) (by kernel_rfl) callable34 (shelf_noughts.calls _ _ (⟨((rd x0 s83.1).Shape), ((rd x0 s83.1).Data)⟩ : Tensor) A102 (((rd x0 s83.1).Shape).length) c103 rfl A104 (((rd x0 s83.1).Data).length) c105 rfl (hm1129.give [5, 4] [.sl (Kd.int .i64) A102 c103 ((rd x0 s83.1).Shape), .sl Kd.float A104 c105 ((rd x0 s83.1).Data)] rfl rfl) r123 hr123) ?_)
          rintro _ w1134 a1135 ⟨A1130, c1131, A1132, c1133, rfl, hk1137⟩ hf1136
          refine ⟨.inr (Gr.still hk1137.cum.none), ?_⟩
          have hm1138 := hm1129.back hk1137
          have hm1139 := hm1138.seal 0 _ rfl rfl
          have hm1140 := hm1139.seal 1 _ rfl rfl
          refine all1 16 (by kernel_rfl) ?_
          refine opOf hf1136 rfl (by kernel_rfl) (aLit (cs := [.slice A1130 r123.Shape.length c1131, .slice A1132 r123.Data.length c1133]) (E := 29) (len := 1) (d := 41) hf1136 (by kernel_rfl) (by kernel_rfl) ?_)
          intro b1141 w1142 a1143 hbb1141 hx1145 hg1146 hf1144
          refine ⟨.inr (Gr.still hg1146), ?_⟩
          have hm1140s := hm1140.still hg1146
          have hm1147 := Mem.lit (kd := kTensor) (xs := ([r123] : List Tensor)) hm1140 hbb1141 hx1145 hg1146 (Els.one (kd := kTensor) (us := [.slice A1130 r123.Shape.length c1131, .slice A1132 r123.Data.length c1133]) (x := r123) (kTensor.mk r123 ⟨hm1140s.cpAt 0 rfl, (hm1140s.slAt 0 rfl)⟩ ⟨hm1140s.cpAt 1 rfl, (hm1140s.slAt 1 rfl)⟩))
          refine all1 17 (by kernel_rfl) ?_
          have e1156 : s83.2.1.length = s83.2.1.length := rfl
          have e1157 : 1 = ([r123] : List Tensor).length := rfl
          refine opOf hf1144 rfl (by kernel_rfl) (aApp (kd := kTensor) (base := 0) (E := 29) (A := A84) (B := (some ⟨b1141, 0, none⟩)) (c := c85) (c2 := 1) (xs := s83.2.1) (ys := ([r123] : List Tensor)) (k := s83.2.1.length) (m := 1) (sz := 2) (d := 42) hf1144 (by kernel_rfl) e1156 e1157 (by kernel_rfl) rfl (by kernel_rfl) (hm1147.at 9 rfl) (hm1147.at2 9 0 rfl rfl).2 (hm1147.cpAt 0 rfl) (Nat.zero_le _) (by have := g124; omega) ?_)
          intro A1148 c1149 w1150 a1151 ho1153 hg1154 hr1155 hf1152
          refine ⟨.inl (by decide), ?_⟩
          have hm1158 := hm1147.setOwn 9 _ rfl rfl ho1153 hg1154 hr1155
          refine quiet0 [18, 19] [] [4, 19, 20, 21, 26, 34, 42, 44] #[true, true, true, true, true, true, true, true, true, true, true, true, true, true, true, true, true, true, true, true, false, false, false, false] [(4, .pointer (some ⟨b63, 0, none⟩)), (19, .slice A0 x0.length c0), (20, .int .i64 (x0.length : Int)), (21, .int .i64 s83.1), (26, .pointer (some ⟨b63, 0, none⟩)), (34, .slice A1119 ((s83.2.2 ++ ([r121] : List Tensor)).length) c1120), (42, .slice A1148 ((s83.2.1 ++ ([r123] : List Tensor)).length) c1149), (44, .pointer (some ⟨b63, 0, none⟩))] [] 4 rfl (by kernel_rfl) (fun _ _ _ _ _ h => nomatch h.1) hf1152 (by kernel_rfl) trivial fun a1159 hf1160 => ?_
          refine all1 20 (by kernel_rfl) ?_
          refine opOf hf1160 rfl (by kernel_rfl) (aStoreB (b := b63) (j := 0) (T := 72) (cs := [.slice A86 s83.2.2.length c87, .slice A52 ((List.replicate ((x0.length : Int)).toNat (0 : Int)).length) c53, .slice A84 s83.2.1.length c85]) (us := [.slice A1119 ((s83.2.2 ++ ([r121] : List Tensor)).length) c1120]) (cs' := [.slice A1119 ((s83.2.2 ++ ([r121] : List Tensor)).length) c1120, .slice A52 ((List.replicate ((x0.length : Int)).toNat (0 : Int)).length) c53, .slice A84 s83.2.1.length c85]) hf1160 (by kernel_rfl) (hm1158.bxAt 11 rfl) (by kernel_rfl) (by kernel_rfl) (by kernel_rfl) ?_)
          intro w1161 hx1162 hg1163
          refine ⟨.inl (by decide), ?_⟩
          have hm1164 := hm1158.setBox 11 _ rfl rfl hx1162 hg1163
          refine quiet0 [21, 22] [] [4, 19, 20, 21, 42, 46] #[true, true, true, true, true, true, true, true, true, true, true, true, true, true, true, true, true, true, true, true, true, true, true, false] [(4, .pointer (some ⟨b63, 0, none⟩)), (19, .slice A0 x0.length c0), (20, .int .i64 (x0.length : Int)), (21, .int .i64 s83.1), (42, .slice A1148 ((s83.2.1 ++ ([r123] : List Tensor)).length) c1149), (46, .pointer (some ⟨b63, 2, none⟩))] [] 1 rfl (by kernel_rfl) (fun _ _ _ _ _ h => nomatch h.1) hf1160 (by kernel_rfl) trivial fun a1165 hf1166 => ?_
          refine all1 23 (by kernel_rfl) ?_
          refine opOf hf1166 rfl (by kernel_rfl) (aStoreB (b := b63) (j := 2) (T := 72) (cs := [.slice A1119 ((s83.2.2 ++ ([r121] : List Tensor)).length) c1120, .slice A52 ((List.replicate ((x0.length : Int)).toNat (0 : Int)).length) c53, .slice A84 s83.2.1.length c85]) (us := [.slice A1148 ((s83.2.1 ++ ([r123] : List Tensor)).length) c1149]) (cs' := [.slice A1119 ((s83.2.2 ++ ([r121] : List Tensor)).length) c1120, .slice A52 ((List.replicate ((x0.length : Int)).toNat (0 : Int)).length) c53, .slice A1148 ((s83.2.1 ++ ([r123] : List Tensor)).length) c1149]) hf1166 (by kernel_rfl) (hm1164.bxAt 11 rfl) (by kernel_rfl) (by kernel_rfl) (by kernel_rfl) ?_)
          intro w1167 hx1168 hg1169
          refine ⟨.inl (by decide), ?_⟩
          have hm1170 := hm1164.setBox 11 _ rfl rfl hx1168 hg1169
          refine allDone (by kernel_rfl) ⟨rfl, A1148, c1149, A1119, c1120, hf1166.sel (l := [4, 19, 20, 21]) (by kernel_rfl), hm1170.sel [9, 10, 11, 12, 13] _ rfl (by kernel_rfl)⟩
      refine memoStep (R := fun (a : Act) (w : World) => ∃ (A197 : Option Addr) (c198 : Nat) (A199 : Option Addr) (c200 : Nat) (b208 : Nat), Fr 49 a [(4, .pointer (some ⟨b63, 0, none⟩)), (6, .pointer (some ⟨b110, 0, none⟩)), (19, .slice A0 x0.length c0), (20, .int .i64 (x0.length : Int)), (21, .int .i64 s83.1), (25, .pointer (some ⟨b63, 0, none⟩)), (26, .pointer (some ⟨b63, 0, none⟩)), (30, .slice A86 s83.2.2.length c87), (31, .agg #[.slice A102 (((rd x0 s83.1).Shape).length) c103, .slice A104 (((rd x0 s83.1).Data).length) c105]), (32, .agg #[.slice A197 r121.Shape.length c198, .slice A199 r121.Data.length c200]), (33, .slice (some ⟨b208, 0, none⟩) 1 1), (37, .pointer (some ⟨b63, 2, none⟩)), (39, .agg #[.slice A102 (((rd x0 s83.1).Shape).length) c103, .slice A104 (((rd x0 s83.1).Data).length) c105])] ∧ Mem [] M w0 [.sl kTensor (some ⟨b208, 0, none⟩) 1 ([r121] : List Tensor), .sl (Kd.int .i64) A197 c198 r121.Shape, .sl Kd.float A199 c200 r121.Data, .bx b110 [.slice A102 (((rd x0 s83.1).Shape).length) c103, .slice A104 (((rd x0 s83.1).Data).length) c105] 29, .sl Kd.float A104 c105 ((rd x0 s83.1).Data), .sl (Kd.int .i64) A102 c103 ((rd x0 s83.1).Shape), .ow kTensor 29 A84 c85 s83.2.1, .ow kTensor 29 A86 c87 s83.2.2, .bx b63 [.slice A86 s83.2.2.length c87, .slice A52 ((List.replicate ((x0.length : Int)).toNat (0 : Int)).length) c53, .slice A84 s83.2.1.length c85] 72, .ow (Kd.int .i64) 3 A52 c53 (List.replicate ((x0.length : Int)).toNat (0 : Int)), .sl kTensor A0 c0 x0] w) #[true, true, true, true, true, true, true, true, true, false, true, true, true, false, true, false, false, false, false, false, false, false, false, false] 11 ?_ fun L1171 => ?_
      · rintro a1172 w1173 ⟨A197, c198, A199, c200, b208, hf1174, hm1175⟩
        refine all2 9 13 (by kernel_rfl) ?_ ?_
        · have e1184 : s83.2.2.length = s83.2.2.length := rfl
          have e1185 : 1 = ([r121] : List Tensor).length := rfl
          refine opOf hf1174 rfl (by kernel_rfl) (aApp (kd := kTensor) (base := 0) (E := 29) (A := A86) (B := (some ⟨b208, 0, none⟩)) (c := c87) (c2 := 1) (xs := s83.2.2) (ys := ([r121] : List Tensor)) (k := s83.2.2.length) (m := 1) (sz := 2) (d := 34) hf1174 (by kernel_rfl) e1184 e1185 (by kernel_rfl) rfl (by kernel_rfl) (hm1175.at 7 rfl) (hm1175.at2 7 0 rfl rfl).2 (hm1175.cpAt 0 rfl) (Nat.zero_le _) (by have := g122; omega) ?_)
          intro A1176 c1177 w1178 a1179 ho1181 hg1182 hr1183 hf1180
          refine ⟨.inl (by decide), ?_⟩
          have hm1186 := hm1175.setOwn 7 _ rfl rfl ho1181 hg1182 hr1183
          exact L947 _ _ ⟨A197, c198, A199, c200, b208, A1176, c1177, hf1180.sel (l := [4, 6, 19, 20, 21, 25, 26, 31, 32, 33, 34, 37, 39]) (by kernel_rfl), hm1186.sel [0, 1, 2, 3, 4, 5, 6, 7, 8, 9, 10] _ rfl (by kernel_rfl)⟩
        · refine opOf hf1174 rfl (by kernel_rfl) (aOne [.slice A84 s83.2.1.length c85] (.slice A84 s83.2.1.length c85) [.cell ⟨b63, 2, none⟩ (.slice A84 s83.2.1.length c85)] 38 hf1174 (by kernel_rfl) rfl (by kernel_rfl) ⟨(hm1175.cell 8 rfl rfl), trivial⟩ fun a1187 hf1188 => ?_)
          refine ⟨.inr (Gr.refl _ _), ?_⟩
          refine all1 9 (by kernel_rfl) ?_
          have e1197 : s83.2.2.length = s83.2.2.length := rfl
          have e1198 : 1 = ([r121] : List Tensor).length := rfl
          refine opOf hf1188 rfl (by kernel_rfl) (aApp (kd := kTensor) (base := 0) (E := 29) (A := A86) (B := (some ⟨b208, 0, none⟩)) (c := c87) (c2 := 1) (xs := s83.2.2) (ys := ([r121] : List Tensor)) (k := s83.2.2.length) (m := 1) (sz := 2) (d := 34) hf1188 (by kernel_rfl) e1197 e1198 (by kernel_rfl) rfl (by kernel_rfl) (hm1175.at 7 rfl) (hm1175.at2 7 0 rfl rfl).2 (hm1175.cpAt 0 rfl) (Nat.zero_le _) (by have := g122; omega) ?_)
          intro A1189 c1190 w1191 a1192 ho1194 hg1195 hr1196 hf1193
          refine ⟨.inl (by decide), ?_⟩
          have hm1199 := hm1175.setOwn 7 _ rfl rfl ho1194 hg1195 hr1196
          refine all1 15 (by kernel_rfl) ?_
          refine opOf hf1193 rfl (by kernel_rfl) (aCall (fid := 34) (args := [.agg #[.slice A102 (((rd x0 s83.1).Shape).length) c103, .slice A104 (((rd x0 s83.1).Data).length) c105]]) (d := 40) hf1193 (by kernel_rfl) (by kernel_rfl) callable34 (shelf_noughts.calls _ _ (⟨((rd x0 s83.1).Shape), ((rd x0 s83.1).Data)⟩ : Tensor) A102 (((rd x0 s83.1).Shape).length) c103 rfl A104 (((rd x0 s83.1).Data).length) c105 rfl (hm1199.give [5, 4] [.sl (Kd.int .i64) A102 c103 ((rd x0 s83.1).Shape), .sl Kd.float A104 c105 ((rd x0 s83.1).Data)] rfl rfl) r123 hr123) ?_)
          rintro _ w1204 a1205 ⟨A1200, c1201, A1202, c1203, rfl, hk1207⟩ hf1206
          refine ⟨.inr (Gr.still hk1207.cum.none), ?_⟩
          have hm1208 := hm1199.back hk1207
          have hm1209 := hm1208.seal 0 _ rfl rfl
          have hm1210 := hm1209.seal 1 _ rfl rfl
          refine all1 16 (by kernel_rfl) ?_
          refine opOf hf1206 rfl (by kernel_rfl) (aLit (cs := [.slice A1200 r123.Shape.length c1201, .slice A1202 r123.Data.length c1203]) (E := 29) (len := 1) (d := 41) hf1206 (by kernel_rfl) (by kernel_rfl) ?_)
          intro b1211 w1212 a1213 hbb1211 hx1215 hg1216 hf1214
          refine ⟨.inr (Gr.still hg1216), ?_⟩
          have hm1210s := hm1210.still hg1216
          have hm1217 := Mem.lit (kd := kTensor) (xs := ([r123] : List Tensor)) hm1210 hbb1211 hx1215 hg1216 (Els.one (kd := kTensor) (us := [.slice A1200 r123.Shape.length c1201, .slice A1202 r123.Data.length c1203]) (x := r123) (kTensor.mk r123 ⟨hm1210s.cpAt 0 rfl, (hm1210s.slAt 0 rfl)⟩ ⟨hm1210s.cpAt 1 rfl, (hm1210s.slAt 1 rfl)⟩))
          refine all1 17 (by kernel_rfl) ?_
          have e1226 : s83.2.1.length = s83.2.1.length := rfl
          have e1227 : 1 = ([r123] : List Tensor).length := rfl
          refine opOf hf1214 rfl (by kernel_rfl) (aApp (kd := kTensor) (base := 0) (E := 29) (A := A84) (B := (some ⟨b1211, 0, none⟩)) (c := c85) (c2 := 1) (xs := s83.2.1) (ys := ([r123] : List Tensor)) (k := s83.2.1.length) (m := 1) (sz := 2) (d := 42) hf1214 (by kernel_rfl) e1226 e1227 (by kernel_rfl) rfl (by kernel_rfl) (hm1217.at 9 rfl) (hm1217.at2 9 0 rfl rfl).2 (hm1217.cpAt 0 rfl) (Nat.zero_le _) (by have := g124; omega) ?_)
          intro A1218 c1219 w1220 a1221 ho1223 hg1224 hr1225 hf1222
          refine ⟨.inl (by decide), ?_⟩
          have hm1228 := hm1217.setOwn 9 _ rfl rfl ho1223 hg1224 hr1225
          refine quiet0 [18, 19] [] [4, 19, 20, 21, 26, 34, 42, 44] #[true, true, true, true, true, true, true, true, true, true, true, true, true, true, true, true, true, true, true, true, false, false, false, false] [(4, .pointer (some ⟨b63, 0, none⟩)), (19, .slice A0 x0.length c0), (20, .int .i64 (x0.length : Int)), (21, .int .i64 s83.1), (26, .pointer (some ⟨b63, 0, none⟩)), (34, .slice A1189 ((s83.2.2 ++ ([r121] : List Tensor)).length) c1190), (42, .slice A1218 ((s83.2.1 ++ ([r123] : List Tensor)).length) c1219), (44, .pointer (some ⟨b63, 0, none⟩))] [] 4 rfl (by kernel_rfl) (fun _ _ _ _ _ h => nomatch h.1) hf1222 (by kernel_rfl) trivial fun a1229 hf1230 => ?_
          refine all1 20 (by kernel_rfl) ?_
          refine opOf hf1230 rfl (by kernel_rfl) (aStoreB (b := b63) (j := 0) (T := 72) (cs := [.slice A86 s83.2.2.length c87, .slice A52 ((List.replicate ((x0.length : Int)).toNat (0 : Int)).length) c53, .slice A84 s83.2.1.length c85]) (us := [.slice A1189 ((s83.2.2 ++ ([r121] : List Tensor)).length) c1190]) (cs' := [.slice A1189 ((s83.2.2 ++ ([r121] : List Tensor)).length) c1190, .slice A52 ((List.replicate ((x0.length : Int)).toNat (0 : Int)).length) c53, .slice A84 s83.2.1.length c85]) hf1230 (by kernel_rfl) (hm1228.bxAt 11 rfl) (by kernel_rfl) (by kernel_rfl) (by kernel_rfl) ?_)
          intro w1231 hx1232 hg1233
          refine ⟨.inl (by decide), ?_⟩
          have hm1234 := hm1228.setBox 11 _ rfl rfl hx1232 hg1233
          refine quiet0 [21, 22] [] [4, 19, 20, 21, 42, 46] #[true, true, true, true, true, true, true, true, true, true, true, true, true, true, true, true, true, true, true, true, true, true, true, false] [(4, .pointer (some ⟨b63, 0, none⟩)), (19, .slice A0 x0.length c0), (20, .int .i64 (x0.length : Int)), (21, .int .i64 s83.1), (42, .slice A1218 ((s83.2.1 ++ ([r123] : List Tensor)).length) c1219), (46, .pointer (some ⟨b63, 2, none⟩))] [] 1 rfl (by kernel_rfl) (fun _ _ _ _ _ h => nomatch h.1) hf1230 (by kernel_rfl) trivial fun a1235 hf1236 => ?_
          refine all1 23 (by kernel_rfl) ?_
          refine opOf hf1236 rfl (by kernel_rfl) (aStoreB (b := b63) (j := 2) (T := 72) (cs := [.slice A1189 ((s83.2.2 ++ ([r121] : List Tensor)).length) c1190, .slice A52 ((List.replicate ((x0.length : Int)).toNat (0 : Int)).length) c53, .slice A84 s83.2.1.length c85]) (us := [.slice A1218 ((s83.2.1 ++ ([r123] : List Tensor)).length) c1219]) (cs' := [.slice A1189 ((s83.2.2 ++ ([r121] : List Tensor)).length) c1190, .slice A52 ((List.replicate ((x0.length : Int)).toNat (0 : Int)).length) c53, .slice A1218 ((s83.2.1 ++ ([r123] : List Tensor)).length) c1219]) hf1236 (by kernel_rfl) (hm1234.bxAt 11 rfl) (by kernel_rfl) (by kernel_rfl) (by kernel_rfl) ?_)
          intro w1237 hx1238 hg1239
          refine ⟨.inl (by decide), ?_⟩
          have hm1240 := hm1234.setBox 11 _ rfl rfl hx1238 hg1239
          refine allDone (by kernel_rfl) ⟨rfl, A1218, c1219, A1189, c1190, hf1236.sel (l := [4, 19, 20, 21]) (by kernel_rfl), hm1240.sel [9, 10, 11, 12, 13] _ rfl (by kernel_rfl)⟩
      refine memoStep (R := fun (a : Act) (w : World) => ∃ (A197 : Option Addr) (c198 : Nat) (A199 : Option Addr) (c200 : Nat) (b208 : Nat), Fr 49 a [(4, .pointer (some ⟨b63, 0, none⟩)), (6, .pointer (some ⟨b110, 0, none⟩)), (19, .slice A0 x0.length c0), (20, .int .i64 (x0.length : Int)), (21, .int .i64 s83.1), (25, .pointer (some ⟨b63, 0, none⟩)), (26, .pointer (some ⟨b63, 0, none⟩)), (30, .slice A86 s83.2.2.length c87), (31, .agg #[.slice A102 (((rd x0 s83.1).Shape).length) c103, .slice A104 (((rd x0 s83.1).Data).length) c105]), (32, .agg #[.slice A197 r121.Shape.length c198, .slice A199 r121.Data.length c200]), (33, .slice (some ⟨b208, 0, none⟩) 1 1), (37, .pointer (some ⟨b63, 2, none⟩))] ∧ Mem [] M w0 [.sl kTensor (some ⟨b208, 0, none⟩) 1 ([r121] : List Tensor), .sl (Kd.int .i64) A197 c198 r121.Shape, .sl Kd.float A199 c200 r121.Data, .bx b110 [.slice A102 (((rd x0 s83.1).Shape).length) c103, .slice A104 (((rd x0 s83.1).Data).length) c105] 29, .sl Kd.float A104 c105 ((rd x0 s83.1).Data), .sl (Kd.int .i64) A102 c103 ((rd x0 s83.1).Shape), .ow kTensor 29 A84 c85 s83.2.1, .ow kTensor 29 A86 c87 s83.2.2, .bx b63 [.slice A86 s83.2.2.length c87, .slice A52 ((List.replicate ((x0.length : Int)).toNat (0 : Int)).length) c53, .slice A84 s83.2.1.length c85] 72, .ow (Kd.int .i64) 3 A52 c53 (List.replicate ((x0.length : Int)).toNat (0 : Int)), .sl kTensor A0 c0 x0] w) #[true, true, true, true, true, true, true, true, true, false, true, true, true, false, false, false, false, false, false, false, false, false, false, false] 12 ?_ fun L1241 => ?_
      · rintro a1242 w1243 ⟨A197, c198, A199, c200, b208, hf1244, hm1245⟩
        refine all3 9 13 14 (by kernel_rfl) ?_ ?_ ?_
        · have e1254 : s83.2.2.length = s83.2.2.length := rfl
          have e1255 : 1 = ([r121] : List Tensor).length := rfl
          refine opOf hf1244 rfl (by kernel_rfl) (aApp (kd := kTensor) (base := 0) (E := 29) (A := A86) (B := (some ⟨b208, 0, none⟩)) (c := c87) (c2 := 1) (xs := s83.2.2) (ys := ([r121] : List Tensor)) (k := s83.2.2.length) (m := 1) (sz := 2) (d := 34) hf1244 (by kernel_rfl) e1254 e1255 (by kernel_rfl) rfl (by kernel_rfl) (hm1245.at 7 rfl) (hm1245.at2 7 0 rfl rfl).2 (hm1245.cpAt 0 rfl) (Nat.zero_le _) (by have := g122; omega) ?_)
          intro A1246 c1247 w1248 a1249 ho1251 hg1252 hr1253 hf1250
          refine ⟨.inl (by decide), ?_⟩
          have hm1256 := hm1245.setOwn 7 _ rfl rfl ho1251 hg1252 hr1253
          exact L1006 _ _ ⟨A197, c198, A199, c200, b208, A1246, c1247, hf1250.sel (l := [4, 6, 19, 20, 21, 25, 26, 31, 32, 33, 34, 37]) (by kernel_rfl), hm1256.sel [0, 1, 2, 3, 4, 5, 6, 7, 8, 9, 10] _ rfl (by kernel_rfl)⟩
        · refine opOf hf1244 rfl (by kernel_rfl) (aOne [.slice A84 s83.2.1.length c85] (.slice A84 s83.2.1.length c85) [.cell ⟨b63, 2, none⟩ (.slice A84 s83.2.1.length c85)] 38 hf1244 (by kernel_rfl) rfl (by kernel_rfl) ⟨(hm1245.cell 8 rfl rfl), trivial⟩ fun a1257 hf1258 => ?_)
          refine ⟨.inr (Gr.refl _ _), ?_⟩
          exact L1058 _ _ ⟨A197, c198, A199, c200, b208, hf1258.sel (l := [4, 6, 19, 20, 21, 25, 26, 30, 31, 32, 33, 37, 38]) (by kernel_rfl), hm1245.sel [0, 1, 2, 3, 4, 5, 6, 7, 8, 9, 10] _ rfl (by kernel_rfl)⟩
        · refine opOf hf1244 rfl (by kernel_rfl) (aOne [.agg #[.slice A102 (((rd x0 s83.1).Shape).length) c103, .slice A104 (((rd x0 s83.1).Data).length) c105]] (.agg #[.slice A102 (((rd x0 s83.1).Shape).length) c103, .slice A104 (((rd x0 s83.1).Data).length) c105]) [.cell ⟨b110, 0, none⟩ (.slice A102 (((rd x0 s83.1).Shape).length) c103), .cell ⟨b110, 1, none⟩ (.slice A104 (((rd x0 s83.1).Data).length) c105)] 39 hf1244 (by kernel_rfl) rfl (by kernel_rfl) ⟨(hm1245.cell 3 rfl rfl), (hm1245.cell 3 rfl rfl), trivial⟩ fun a1259 hf1260 => ?_)
          refine ⟨.inr (Gr.refl _ _), ?_⟩
          exact L1171 _ _ ⟨A197, c198, A199, c200, b208, hf1260.sel (l := [4, 6, 19, 20, 21, 25, 26, 30, 31, 32, 33, 37, 39]) (by kernel_rfl), hm1245.sel [0, 1, 2, 3, 4, 5, 6, 7, 8, 9, 10] _ rfl (by kernel_rfl)⟩
      refine memoStep (R := fun (a : Act) (w : World) => ∃ (A197 : Option Addr) (c198 : Nat) (A199 : Option Addr) (c200 : Nat), Fr 49 a [(4, .pointer (some ⟨b63, 0, none⟩)), (6, .pointer (some ⟨b110, 0, none⟩)), (19, .slice A0 x0.length c0), (20, .int .i64 (x0.length : Int)), (21, .int .i64 s83.1), (25, .pointer (some ⟨b63, 0, none⟩)), (26, .pointer (some ⟨b63, 0, none⟩)), (30, .slice A86 s83.2.2.length c87), (31, .agg #[.slice A102 (((rd x0 s83.1).Shape).length) c103, .slice A104 (((rd x0 s83.1).Data).length) c105]), (32, .agg #[.slice A197 r121.Shape.length c198, .slice A199 r121.Data.length c200]), (37, .pointer (some ⟨b63, 2, none⟩)), (38, .slice A84 s83.2.1.length c85)] ∧ Mem [] M w0 [.sl (Kd.int .i64) A197 c198 r121.Shape, .sl Kd.float A199 c200 r121.Data, .bx b110 [.slice A102 (((rd x0 s83.1).Shape).length) c103, .slice A104 (((rd x0 s83.1).Data).length) c105] 29, .sl Kd.float A104 c105 ((rd x0 s83.1).Data), .sl (Kd.int .i64) A102 c103 ((rd x0 s83.1).Shape), .ow kTensor 29 A84 c85 s83.2.1, .ow kTensor 29 A86 c87 s83.2.2, .bx b63 [.slice A86 s83.2.2.length c87, .slice A52 ((List.replicate ((x0.length : Int)).toNat (0 : Int)).length) c53, .slice A84 s83.2.1.length c85] 72, .ow (Kd.int .i64) 3 A52 c53 (List.replicate ((x0.length : Int)).toNat (0 : Int)), .sl kTensor A0 c0 x0] w) #[true, true, true, true, true, true, true, true, false, false, true, true, true, true, false, false, false, false, false, false, false, false, false, false] 12 ?_ fun L1261 => ?_
      · rintro a1262 w1263 ⟨A197, c198, A199, c200, hf1264, hm1265⟩
        refine all2 8 14 (by kernel_rfl) ?_ ?_
        · refine opOf hf1264 rfl (by kernel_rfl) (aLit (cs := [.slice A197 r121.Shape.length c198, .slice A199 r121.Data.length c200]) (E := 29) (len := 1) (d := 33) hf1264 (by kernel_rfl) (by kernel_rfl) ?_)
          intro b1266 w1267 a1268 hbb1266 hx1270 hg1271 hf1269
          refine ⟨.inr (Gr.still hg1271), ?_⟩
          have hm1265s := hm1265.still hg1271
          have hm1272 := Mem.lit (kd := kTensor) (xs := ([r121] : List Tensor)) hm1265 hbb1266 hx1270 hg1271 (Els.one (kd := kTensor) (us := [.slice A197 r121.Shape.length c198, .slice A199 r121.Data.length c200]) (x := r121) (kTensor.mk r121 ⟨hm1265s.cpAt 0 rfl, (hm1265s.slAt 0 rfl)⟩ ⟨hm1265s.cpAt 1 rfl, (hm1265s.slAt 1 rfl)⟩))
          exact L1058 _ _ ⟨A197, c198, A199, c200, b1266, hf1269.sel (l := [4, 6, 19, 20, 21, 25, 26, 30, 31, 32, 33, 37, 38]) (by kernel_rfl), hm1272.sel [0, 1, 2, 3, 4, 5, 6, 7, 8, 9, 10] _ rfl (by kernel_rfl)⟩
        · refine opOf hf1264 rfl (by kernel_rfl) (aOne [.agg #[.slice A102 (((rd x0 s83.1).Shape).length) c103, .slice A104 (((rd x0 s83.1).Data).length) c105]] (.agg #[.slice A102 (((rd x0 s83.1).Shape).length) c103, .slice A104 (((rd x0 s83.1).Data).length) c105]) [.cell ⟨b110, 0, none⟩ (.slice A102 (((rd x0 s83.1).Shape).length) c103), .cell ⟨b110, 1, none⟩ (.slice A104 (((rd x0 s83.1).Data).length) c105)] 39 hf1264 (by kernel_rfl) rfl (by kernel_rfl) ⟨(hm1265.cell 2 rfl rfl), (hm1265.cell 2 rfl rfl), trivial⟩ fun a1273 hf1274 => ?_)
          refine ⟨.inr (Gr.refl _ _), ?_⟩
          refine all1 8 (by kernel_rfl) ?_
          refine opOf hf1274 rfl (by kernel_rfl) (aLit (cs := [.slice A197 r121.Shape.length c198, .slice A199 r121.Data.length c200]) (E := 29) (len := 1) (d := 33) hf1274 (by kernel_rfl) (by kernel_rfl) ?_)
          intro b1275 w1276 a1277 hbb1275 hx1279 hg1280 hf1278
          refine ⟨.inr (Gr.still hg1280), ?_⟩
          have hm1265s := hm1265.still hg1280
          have hm1281 := Mem.lit (kd := kTensor) (xs := ([r121] : List Tensor)) hm1265 hbb1275 hx1279 hg1280 (Els.one (kd := kTensor) (us := [.slice A197 r121.Shape.length c198, .slice A199 r121.Data.length c200]) (x := r121) (kTensor.mk r121 ⟨hm1265s.cpAt 0 rfl, (hm1265s.slAt 0 rfl)⟩ ⟨hm1265s.cpAt 1 rfl, (hm1265s.slAt 1 rfl)⟩))
          refine all1 9 (by kernel_rfl) ?_
          have e1290 : s83.2.2.length = s83.2.2.length := rfl
          have e1291 : 1 = ([r121] : List Tensor).length := rfl
          refine opOf hf1278 rfl (by kernel_rfl) (aApp (kd := kTensor) (base := 0) (E := 29) (A := A86) (B := (some ⟨b1275, 0, none⟩)) (c := c87) (c2 := 1) (xs := s83.2.2) (ys := ([r121] : List Tensor)) (k := s83.2.2.length) (m := 1) (sz := 2) (d := 34) hf1278 (by kernel_rfl) e1290 e1291 (by kernel_rfl) rfl (by kernel_rfl) (hm1281.at 7 rfl) (hm1281.at2 7 0 rfl rfl).2 (hm1281.cpAt 0 rfl) (Nat.zero_le _) (by have := g122; omega) ?_)
          intro A1282 c1283 w1284 a1285 ho1287 hg1288 hr1289 hf1286
          refine ⟨.inl (by decide), ?_⟩
          have hm1292 := hm1281.setOwn 7 _ rfl rfl ho1287 hg1288 hr1289
          refine all1 15 (by kernel_rfl) ?_
          refine opOf hf1286 rfl (by kernel_rfl) (aCall (fid := 34) (args := [.agg #[.slice A102 (((rd x0 s83.1).Shape).length) c103, .slice A104 (((rd x0 s83.1).Data).length) c105]]) (d := 40) hf1286 (by kernel_rfl) (by kernel_rfl) callable34 (shelf_noughts.calls _ _ (⟨((rd x0 s83.1).Shape), ((rd x0 s83.1).Data)⟩ : Tensor) A102 (((rd x0 s83.1).Shape).length) c103 rfl A104 (((rd x0 s83.1).Data).length) c105 rfl (hm1292.give [5, 4] [.sl (Kd.int .i64) A102 c103 ((rd x0 s83.1).Shape), .sl Kd.float A104 c105 ((rd x0 s83.1).Data)] rfl rfl) r123 hr123) ?_)
          rintro _ w1297 a1298 ⟨A1293, c1294, A1295, c1296, rfl, hk1300⟩ hf1299
          refine ⟨.inr (Gr.still hk1300.cum.none), ?_⟩
          have hm1301 := hm1292.back hk1300
          have hm1302 := hm1301.seal 0 _ rfl rfl
          have hm1303 := hm1302.seal 1 _ rfl rfl
          refine all1 16 (by kernel_rfl) ?_
          refine opOf hf1299 rfl (by kernel_rfl) (aLit (cs := [.slice A1293 r123.Shape.length c1294, .slice A1295 r123.Data.length c1296]) (E := 29) (len := 1) (d := 41) hf1299 (by kernel_rfl) (by kernel_rfl) ?_)
          intro b1304 w1305 a1306 hbb1304 hx1308 hg1309 hf1307
          refine ⟨.inr (Gr.still hg1309), ?_⟩
          have hm1303s := hm1303.still hg1309
          have hm1310 := Mem.lit (kd := kTensor) (xs := ([r123] : List Tensor)) hm1303 hbb1304 hx1308 hg1309 (Els.one (kd := kTensor) (us := [.slice A1293 r123.Shape.length c1294, .slice A1295 r123.Data.length c1296]) (x := r123) (kTensor.mk r123 ⟨hm1303s.cpAt 0 rfl, (hm1303s.slAt 0 rfl)⟩ ⟨hm1303s.cpAt 1 rfl, (hm1303s.slAt 1 rfl)⟩))
          refine all1 17 (by kernel_rfl) ?_
          have e1319 : s83.2.1.length = s83.2.1.length := rfl
          have e1320 : 1 = ([r123] : List Tensor).length := rfl
          refine opOf hf1307 rfl (by kernel_rfl) (aApp (kd := kTensor) (base := 0) (E := 29) (A := A84) (B := (some ⟨b1304, 0, none⟩)) (c := c85) (c2 := 1) (xs := s83.2.1) (ys := ([r123] : List Tensor)) (k := s83.2.1.length) (m := 1) (sz := 2) (d := 42) hf1307 (by kernel_rfl) e1319 e1320 (by kernel_rfl) rfl (by kernel_rfl) (hm1310.at 9 rfl) (hm1310.at2 9 0 rfl rfl).2 (hm1310.cpAt 0 rfl) (Nat.zero_le _) (by have := g124; omega) ?_)
          intro A1311 c1312 w1313 a1314 ho1316 hg1317 hr1318 hf1315
          refine ⟨.inl (by decide), ?_⟩
          have hm1321 := hm1310.setOwn 9 _ rfl rfl ho1316 hg1317 hr1318
          refine quiet0 [18, 19] [] [4, 19, 20, 21, 26, 34, 42, 44] #[true, true, true, true, true, true, true, true, true, true, true, true, true, true, true, true, true, true, true, true, false, false, false, false] [(4, .pointer (some ⟨b63, 0, none⟩)), (19, .slice A0 x0.length c0), (20, .int .i64 (x0.length : Int)), (21, .int .i64 s83.1), (26, .pointer (some ⟨b63, 0, none⟩)), (34, .slice A1282 ((s83.2.2 ++ ([r121] : List Tensor)).length) c1283), (42, .slice A1311 ((s83.2.1 ++ ([r123] : List Tensor)).length) c1312), (44, .pointer (some ⟨b63, 0, none⟩))] [] 4 rfl (by kernel_rfl) (fun _ _ _ _ _ h => nomatch h.1) hf1315 (by kernel_rfl) trivial fun a1322 hf1323 => ?_
          refine all1 20 (by kernel_rfl) ?_
          refine opOf hf1323 rfl (by kernel_rfl) (aStoreB (b := b63) (j := 0) (T := 72) (cs := [.slice A86 s83.2.2.length c87, .slice A52 ((List.replicate ((x0.length : Int)).toNat (0 : Int)).length) c53, .slice A84 s83.2.1.length c85]) (us := [.slice A1282 ((s83.2.2 ++ ([r121] : List Tensor)).length) c1283]) (cs' := [.slice A1282 ((s83.2.2 ++ ([r121] : List Tensor)).length) c1283, .slice A52 ((List.replicate ((x0.length : Int)).toNat (0 : Int)).length) c53, .slice A84 s83.2.1.length c85]) hf1323 (by kernel_rfl) (hm1321.bxAt 11 rfl) (by kernel_rfl) (by kernel_rfl) (by kernel_rfl) ?_)
          intro w1324 hx1325 hg1326
          refine ⟨.inl (by decide), ?_⟩
          have hm1327 := hm1321.setBox 11 _ rfl rfl hx1325 hg1326
          refine quiet0 [21, 22] [] [4, 19, 20, 21, 42, 46] #[true, true, true, true, true, true, true, true, true, true, true, true, true, true, true, true, true, true, true, true, true, true, true, false] [(4, .pointer (some ⟨b63, 0, none⟩)), (19, .slice A0 x0.length c0), (20, .int .i64 (x0.length : Int)), (21, .int .i64 s83.1), (42, .slice A1311 ((s83.2.1 ++ ([r123] : List Tensor)).length) c1312), (46, .pointer (some ⟨b63, 2, none⟩))] [] 1 rfl (by kernel_rfl) (fun _ _ _ _ _ h => nomatch h.1) hf1323 (by kernel_rfl) trivial fun a1328 hf1329 => ?_
          refine all1 23 (by kernel_rfl) ?_
          refine opOf hf1329 rfl (by kernel_rfl) (aStoreB (b := b63) (j := 2) (T := 72) (cs := [.slice A1282 ((s83.2.2 ++ ([r121] : List Tensor)).length) c1283, .slice A52 ((List.replicate ((x0.length : Int)).toNat (0 : Int)).length) c53, .slice A84 s83.2.1.length c85]) (us := [.slice A1311 ((s83.2.1 ++ ([r123] : List Tensor)).length) c1312]) (cs' := [.slice A1282 ((s83.2.2 ++ ([r121] : List Tensor)).length) c1283, .slice A52 ((List.replicate ((x0.length : Int)).toNat (0 : Int)).length) c53, .slice A1311 ((s83.2.1 ++ ([r123] : List Tensor)).length) c1312]) hf1329 (by kernel_rfl) (hm1327.bxAt 11 rfl) (by kernel_rfl) (by kernel_rfl) (by kernel_rfl) ?_)
          intro w1330 hx1331 hg1332
          refine ⟨.inl (by decide), ?_⟩
          have hm1333 := hm1327.setBox 11 _ rfl rfl hx1331 hg1332
          refine allDone (by kernel_rfl) ⟨rfl, A1311, c1312, A1282, c1283, hf1329.sel (l := [4, 19, 20, 21]) (by kernel_rfl), hm1333.sel [9, 10, 11, 12, 13] _ rfl (by kernel_rfl)⟩
      refine memoStep (R := fun (a : Act) (w : World) => ∃ (A197 : Option Addr) (c198 : Nat) (A199 : Option Addr) (c200 : Nat), Fr 49 a [(4, .pointer (some ⟨b63, 0, none⟩)), (6, .pointer (some ⟨b110, 0, none⟩)), (19, .slice A0 x0.length c0), (20, .int .i64 (x0.length : Int)), (21, .int .i64 s83.1), (25, .pointer (some ⟨b63, 0, none⟩)), (26, .pointer (some ⟨b63, 0, none⟩)), (30, .slice A86 s83.2.2.length c87), (31, .agg #[.slice A102 (((rd x0 s83.1).Shape).length) c103, .slice A104 (((rd x0 s83.1).Data).length) c105]), (32, .agg #[.slice A197 r121.Shape.length c198, .slice A199 r121.Data.length c200]), (37, .pointer (some ⟨b63, 2, none⟩)), (39, .agg #[.slice A102 (((rd x0 s83.1).Shape).length) c103, .slice A104 (((rd x0 s83.1).Data).length) c105])] ∧ Mem [] M w0 [.sl (Kd.int .i64) A197 c198 r121.Shape, .sl Kd.float A199 c200 r121.Data, .bx b110 [.slice A102 (((rd x0 s83.1).Shape).length) c103, .slice A104 (((rd x0 s83.1).Data).length) c105] 29, .sl Kd.float A104 c105 ((rd x0 s83.1).Data), .sl (Kd.int .i64) A102 c103 ((rd x0 s83.1).Shape), .ow kTensor 29 A84 c85 s83.2.1, .ow kTensor 29 A86 c87 s83.2.2, .bx b63 [.slice A86 s83.2.2.length c87, .slice A52 ((List.replicate ((x0.length : Int)).toNat (0 : Int)).length) c53, .slice A84 s83.2.1.length c85] 72, .ow (Kd.int .i64) 3 A52 c53 (List.replicate ((x0.length : Int)).toNat (0 : Int)), .sl kTensor A0 c0 x0] w) #[true, true, true, true, true, true, true, true, false, false, true, true, true, false, true, false, false, false, false, false, false, false, false, false] 12 ?_ fun L1334 => ?_
      · rintro a1335 w1336 ⟨A197, c198, A199, c200, hf1337, hm1338⟩
        refine all2 8 13 (by kernel_rfl) ?_ ?_
        · refine opOf hf1337 rfl (by kernel_rfl) (aLit (cs := [.slice A197 r121.Shape.length c198, .slice A199 r121.Data.length c200]) (E := 29) (len := 1) (d := 33) hf1337 (by kernel_rfl) (by kernel_rfl) ?_)
          intro b1339 w1340 a1341 hbb1339 hx1343 hg1344 hf1342
          refine ⟨.inr (Gr.still hg1344), ?_⟩
          have hm1338s := hm1338.still hg1344
          have hm1345 := Mem.lit (kd := kTensor) (xs := ([r121] : List Tensor)) hm1338 hbb1339 hx1343 hg1344 (Els.one (kd := kTensor) (us := [.slice A197 r121.Shape.length c198, .slice A199 r121.Data.length c200]) (x := r121) (kTensor.mk r121 ⟨hm1338s.cpAt 0 rfl, (hm1338s.slAt 0 rfl)⟩ ⟨hm1338s.cpAt 1 rfl, (hm1338s.slAt 1 rfl)⟩))
          exact L1171 _ _ ⟨A197, c198, A199, c200, b1339, hf1342.sel (l := [4, 6, 19, 20, 21, 25, 26, 30, 31, 32, 33, 37, 39]) (by kernel_rfl), hm1345.sel [0, 1, 2, 3, 4, 5, 6, 7, 8, 9, 10] _ rfl (by kernel_rfl)⟩
        · refine opOf hf1337 rfl (by kernel_rfl) (aOne [.slice A84 s83.2.1.length c85] (.slice A84 s83.2.1.length c85) [.cell ⟨b63, 2, none⟩ (.slice A84 s83.2.1.length c85)] 38 hf1337 (by kernel_rfl) rfl (by kernel_rfl) ⟨(hm1338.cell 7 rfl rfl), trivial⟩ fun a1346 hf1347 => ?_)
          refine ⟨.inr (Gr.refl _ _), ?_⟩
          refine all1 8 (by kernel_rfl) ?_
          refine opOf hf1347 rfl (by kernel_rfl) (aLit (cs := [.slice A197 r121.Shape.length c198, .slice A199 r121.Data.length c200]) (E := 29) (len := 1) (d := 33) hf1347 (by kernel_rfl) (by kernel_rfl) ?_)
          intro b1348 w1349 a1350 hbb1348 hx1352 hg1353 hf1351
          refine ⟨.inr (Gr.still hg1353), ?_⟩
          have hm1338s := hm1338.still hg1353
          have hm1354 := Mem.lit (kd := kTensor) (xs := ([r121] : List Tensor)) hm1338 hbb1348 hx1352 hg1353 (Els.one (kd := kTensor) (us := [.slice A197 r121.Shape.length c198, .slice A199 r121.Data.length c200]) (x := r121) (kTensor.mk r121 ⟨hm1338s.cpAt 0 rfl, (hm1338s.slAt 0 rfl)⟩ ⟨hm1338s.cpAt 1 rfl, (hm1338s.slAt 1 rfl)⟩))
          refine all1 9 (by kernel_rfl) ?_
          have e1363 : s83.2.2.length = s83.2.2.length := rfl
          have e1364 : 1 = ([r121] : List Tensor).length := rfl
          refine opOf hf1351 rfl (by kernel_rfl) (aApp (kd := kTensor) (base := 0) (E := 29) (A := A86) (B := (some ⟨b1348, 0, none⟩)) (c := c87) (c2 := 1) (xs := s83.2.2) (ys := ([r121] : List Tensor)) (k := s83.2.2.length) (m := 1) (sz := 2) (d := 34) hf1351 (by kernel_rfl) e1363 e1364 (by kernel_rfl) rfl (by kernel_rfl) (hm1354.at 7 rfl) (hm1354.at2 7 0 rfl rfl).2 (hm1354.cpAt 0 rfl) (Nat.zero_le _) (by have := g122; omega) ?_)
          intro A1355 c1356 w1357 a1358 ho1360 hg1361 hr1362 hf1359
          refine ⟨.inl (by decide), ?_⟩
          have hm1365 := hm1354.setOwn 7 _ rfl rfl ho1360 hg1361 hr1362
          refine all1 15 (by kernel_rfl) ?_
          refine opOf hf1359 rfl (by kernel_rfl) (aCall (fid := 34) (args := [.agg #[.slice A102 (((rd x0 s83.1).Shape).length) c103, .slice A104 (((rd x0 s83.1).Data).length) c105]]) (d := 40) hf1359 (by kernel_rfl) (by kernel_rfl) callable34 (shelf_noughts.calls _ _ (⟨((rd x0 s83.1).Shape), ((rd x0 s83.1).Data)⟩ : Tensor) A102 (((rd x0 s83.1).Shape).length) c103 rfl A104 (((rd x0 s83.1).Data).length) c105 rfl (hm1365.give [5, 4] [.sl (Kd.int .i64) A102 c103 ((rd x0 s83.1).Shape), .sl Kd.float A104 c105 ((rd x0 s83.1).Data)] rfl rfl) r123 hr123) ?_)
          rintro _ w1370 a1371 ⟨A1366, c1367, A1368, c1369, rfl, hk1373⟩ hf1372
          refine ⟨.inr (Gr.still hk1373.cum.none), ?_⟩
          have hm1374 := hm1365.back hk1373
          have hm1375 := hm1374.seal 0 _ rfl rfl
          have hm1376 := hm1375.seal 1 _ rfl rfl
          refine all1 16 (by kernel_rfl) ?_
          refine opOf hf1372 rfl (by kernel_rfl) (aLit (cs := [.slice A1366 r123.Shape.length c1367, .slice A1368 r123.Data.length c1369]) (E := 29) (len := 1) (d := 41) hf1372 (by kernel_rfl) (by kernel_rfl) ?_)
          intro b1377 w1378 a1379 hbb1377 hx1381 hg1382 hf1380
          refine ⟨.inr (Gr.still hg1382), ?_⟩
          have hm1376s := hm1376.still hg1382
          have hm1383 := Mem.lit (kd := kTensor) (xs := ([r123] : List Tensor)) hm1376 hbb1377 hx1381 hg1382 (Els.one (kd := kTensor) (us := [.slice A1366 r123.Shape.length c1367, .slice A1368 r123.Data.length c1369]) (x := r123) (kTensor.mk r123 ⟨hm1376s.cpAt 0 rfl, (hm1376s.slAt 0 rfl)⟩ ⟨hm1376s.cpAt 1 rfl, (hm1376s.slAt 1 rfl)⟩))
          refine all1 17 (by kernel_rfl) ?_
          have e1392 : s83.2.1.length = s83.2.1.length := rfl
          have e1393 : 1 = ([r123] : List Tensor).length := rfl
          refine opOf hf1380 rfl (by kernel_rfl) (aApp (kd := kTensor) (base := 0) (E := 29) (A := A84) (B := (some ⟨b1377, 0, none⟩)) (c := c85) (c2 := 1) (xs := s83.2.1) (ys := ([r123] : List Tensor)) (k := s83.2.1.length) (m := 1) (sz := 2) (d := 42) hf1380 (by kernel_rfl) e1392 e1393 (by kernel_rfl) rfl (by kernel_rfl) (hm1383.at 9 rfl) (hm1383.at2 9 0 rfl rfl).2 (hm1383.cpAt 0 rfl) (Nat.zero_le _) (by have := g124; omega) ?_)
          intro A1384 c1385 w1386 a1387 ho1389 hg1390 hr1391 hf1388
          refine ⟨.inl (by decide), ?_⟩
          have hm1394 := hm1383.setOwn 9 _ rfl rfl ho1389 hg1390 hr1391
          refine quiet0 [18, 19] [] [4, 19, 20, 21, 26, 34, 42, 44] #[true, true, true, true, true, true, true, true, true, true, true, true, true, true, true, true, true, true, true, true, false, false, false, false] [(4, .pointer (some ⟨b63, 0, none⟩)), (19, .slice A0 x0.length c0), (20, .int .i64 (x0.length : Int)), (21, .int .i64 s83.1), (26, .pointer (some ⟨b63, 0, none⟩)), (34, .slice A1355 ((s83.2.2 ++ ([r121] : List Tensor)).length) c1356), (42, .slice A1384 ((s83.2.1 ++ ([r123] : List Tensor)).length) c1385), (44, .pointer (some ⟨b63, 0, none⟩))] [] 4 rfl (by kernel_rfl) (fun _ _ _ _ _ h => nomatch h.1) hf1388 (by kernel_rfl) trivial fun a1395 hf1396 => ?_
          refine all1 20 (by kernel_rfl) ?_
          refine opOf hf1396 rfl (by kernel_rfl) (aStoreB (b := b63) (j := 0) (T := 72) (cs := [.slice A86 s83.2.2.length c87, .slice A52 ((List.replicate ((x0.length : Int)).toNat (0 : Int)).length) c53, .slice A84 s83.2.1.length c85]) (us := [.slice A1355 ((s83.2.2 ++ ([r121] : List Tensor)).length) c1356]) (cs' := [.slice A1355 ((s83.2.2 ++ ([r121] : List Tensor)).length) c1356, .slice A52 ((List.replicate ((x0.length : Int)).toNat (0 : Int)).length) c53, .slice A84 s83.2.1.length c85]) hf1396 (by kernel_rfl) (hm1394.bxAt 11 rfl) (by kernel_rfl) (by kernel_rfl) (by kernel_rfl) ?_)
          intro w1397 hx1398 hg1399
          refine ⟨.inl (by decide), ?_⟩
          have hm1400 := hm1394.setBox 11 _ rfl rfl hx1398 hg1399
          refine quiet0 [21, 22] [] [4, 19, 20, 21, 42, 46] #[true, true, true, true, true, true, true, true, true, true, true, true, true, true, true, true, true, true, true, true, true, true, true, false] [(4, .pointer (some ⟨b63, 0, none⟩)), (19, .slice A0 x0.length c0), (20, .int .i64 (x0.length : Int)), (21, .int .i64 s83.1), (42, .slice A1384 ((s83.2.1 ++ ([r123] : List Tensor)).length) c1385), (46, .pointer (some ⟨b63, 2, none⟩))] [] 1 rfl (by kernel_rfl) (fun _ _ _ _ _ h => nomatch h.1) hf1396 (by kernel_rfl) trivial fun a1401 hf1402 => ?_
          refine all1 23 (by kernel_rfl) ?_
          refine opOf hf1402 rfl (by kernel_rfl) (aStoreB (b := b63) (j := 2) (T := 72) (cs := [.slice A1355 ((s83.2.2 ++ ([r121] : List Tensor)).length) c1356, .slice A52 ((List.replicate ((x0.length : Int)).toNat (0 : Int)).length) c53, .slice A84 s83.2.1.length c85]) (us := [.slice A1384 ((s83.2.1 ++ ([r123] : List Tensor)).length) c1385]) (cs' := [.slice A1355 ((s83.2.2 ++ ([r121] : List Tensor)).length) c1356, .slice A52 ((List.replicate ((x0.length : Int)).toNat (0 : Int)).length) c53, .slice A1384 ((s83.2.1 ++ ([r123] : List Tensor)).length) c1385]) hf1402 (by kernel_rfl) (hm1400.bxAt 11 rfl) (by kernel_rfl) (by kernel_rfl) (by kernel_rfl) ?_)
          intro w1403 hx1404 hg1405
          refine ⟨.inl (by decide), ?_⟩
          have hm1406 := hm1400.setBox 11 _ rfl rfl hx1404 hg1405
          refine allDone (by kernel_rfl) ⟨rfl, A1384, c1385, A1355, c1356, hf1402.sel (l := [4, 19, 20, 21]) (by kernel_rfl), hm1406.sel [9, 10, 11, 12, 13] _ rfl (by kernel_rfl)⟩
      refine memoStep (R := fun (a : Act) (w : World) => ∃ (A197 : Option Addr) (c198 : Nat) (A199 : Option Addr) (c200 : Nat), Fr 49 a [(4, .pointer (some ⟨b63, 0, none⟩)), (6, .pointer (some ⟨b110, 0, none⟩)), (19, .slice A0 x0.length c0), (20, .int .i64 (x0.length : Int)), (21, .int .i64 s83.1), (25, .pointer (some ⟨b63, 0, none⟩)), (26, .pointer (some ⟨b63, 0, none⟩)), (30, .slice A86 s83.2.2.length c87), (31, .agg #[.slice A102 (((rd x0 s83.1).Shape).length) c103, .slice A104 (((rd x0 s83.1).Data).length) c105]), (32, .agg #[.slice A197 r121.Shape.length c198, .slice A199 r121.Data.length c200]), (37, .pointer (some ⟨b63, 2, none⟩))] ∧ Mem [] M w0 [.sl (Kd.int .i64) A197 c198 r121.Shape, .sl Kd.float A199 c200 r121.Data, .bx b110 [.slice A102 (((rd x0 s83.1).Shape).length) c103, .slice A104 (((rd x0 s83.1).Data).length) c105] 29, .sl Kd.float A104 c105 ((rd x0 s83.1).Data), .sl (Kd.int .i64) A102 c103 ((rd x0 s83.1).Shape), .ow kTensor 29 A84 c85 s83.2.1, .ow kTensor 29 A86 c87 s83.2.2, .bx b63 [.slice A86 s83.2.2.length c87, .slice A52 ((List.replicate ((x0.length : Int)).toNat (0 : Int)).length) c53, .slice A84 s83.2.1.length c85] 72, .ow (Kd.int .i64) 3 A52 c53 (List.replicate ((x0.length : Int)).toNat (0 : Int)), .sl kTensor A0 c0 x0] w) #[true, true, true, true, true, true, true, true, false, false, true, true, true, false, false, false, false, false, false, false, false, false, false, false] 13 ?_ fun L1407 => ?_
      · rintro a1408 w1409 ⟨A197, c198, A199, c200, hf1410, hm1411⟩
        refine all3 8 13 14 (by kernel_rfl) ?_ ?_ ?_
        · refine opOf hf1410 rfl (by kernel_rfl) (aLit (cs := [.slice A197 r121.Shape.length c198, .slice A199 r121.Data.length c200]) (E := 29) (len := 1) (d := 33) hf1410 (by kernel_rfl) (by kernel_rfl) ?_)
          intro b1412 w1413 a1414 hbb1412 hx1416 hg1417 hf1415
          refine ⟨.inr (Gr.still hg1417), ?_⟩
          have hm1411s := hm1411.still hg1417
          have hm1418 := Mem.lit (kd := kTensor) (xs := ([r121] : List Tensor)) hm1411 hbb1412 hx1416 hg1417 (Els.one (kd := kTensor) (us := [.slice A197 r121.Shape.length c198, .slice A199 r121.Data.length c200]) (x := r121) (kTensor.mk r121 ⟨hm1411s.cpAt 0 rfl, (hm1411s.slAt 0 rfl)⟩ ⟨hm1411s.cpAt 1 rfl, (hm1411s.slAt 1 rfl)⟩))
          exact L1241 _ _ ⟨A197, c198, A199, c200, b1412, hf1415.sel (l := [4, 6, 19, 20, 21, 25, 26, 30, 31, 32, 33, 37]) (by kernel_rfl), hm1418.sel [0, 1, 2, 3, 4, 5, 6, 7, 8, 9, 10] _ rfl (by kernel_rfl)⟩
        · refine opOf hf1410 rfl (by kernel_rfl) (aOne [.slice A84 s83.2.1.length c85] (.slice A84 s83.2.1.length c85) [.cell ⟨b63, 2, none⟩ (.slice A84 s83.2.1.length c85)] 38 hf1410 (by kernel_rfl) rfl (by kernel_rfl) ⟨(hm1411.cell 7 rfl rfl), trivial⟩ fun a1419 hf1420 => ?_)
          refine ⟨.inr (Gr.refl _ _), ?_⟩
          exact L1261 _ _ ⟨A197, c198, A199, c200, hf1420.sel (l := [4, 6, 19, 20, 21, 25, 26, 30, 31, 32, 37, 38]) (by kernel_rfl), hm1411.sel [0, 1, 2, 3, 4, 5, 6, 7, 8, 9] _ rfl (by kernel_rfl)⟩
        · refine opOf hf1410 rfl (by kernel_rfl) (aOne [.agg #[.slice A102 (((rd x0 s83.1).Shape).length) c103, .slice A104 (((rd x0 s83.1).Data).length) c105]] (.agg #[.slice A102 (((rd x0 s83.1).Shape).length) c103, .slice A104 (((rd x0 s83.1).Data).length) c105]) [.cell ⟨b110, 0, none⟩ (.slice A102 (((rd x0 s83.1).Shape).length) c103), .cell ⟨b110, 1, none⟩ (.slice A104 (((rd x0 s83.1).Data).length) c105)] 39 hf1410 (by kernel_rfl) rfl (by kernel_rfl) ⟨(hm1411.cell 2 rfl rfl), (hm1411.cell 2 rfl rfl), trivial⟩ fun a1421 hf1422 => ?_)
          refine ⟨.inr (Gr.refl _ _), ?_⟩
          exact L1334 _ _ ⟨A197, c198, A199, c200, hf1422.sel (l := [4, 6, 19, 20, 21, 25, 26, 30, 31, 32, 37, 39]) (by kernel_rfl), hm1411.sel [0, 1, 2, 3, 4, 5, 6, 7, 8, 9] _ rfl (by kernel_rfl)⟩
      refine memoStep (R := fun (a : Act) (w : World) => Fr 49 a [(4, .pointer (some ⟨b63, 0, none⟩)), (6, .pointer (some ⟨b110, 0, none⟩)), (19, .slice A0 x0.length c0), (20, .int .i64 (x0.length : Int)), (21, .int .i64 s83.1), (25, .pointer (some ⟨b63, 0, none⟩)), (26, .pointer (some ⟨b63, 0, none⟩)), (30, .slice A86 s83.2.2.length c87), (31, .agg #[.slice A102 (((rd x0 s83.1).Shape).length) c103, .slice A104 (((rd x0 s83.1).Data).length) c105]), (37, .pointer (some ⟨b63, 2, none⟩)), (38, .slice A84 s83.2.1.length c85)] ∧ Mem [] M w0 [.bx b110 [.slice A102 (((rd x0 s83.1).Shape).length) c103, .slice A104 (((rd x0 s83.1).Data).length) c105] 29, .sl Kd.float A104 c105 ((rd x0 s83.1).Data), .sl (Kd.int .i64) A102 c103 ((rd x0 s83.1).Shape), .ow kTensor 29 A84 c85 s83.2.1, .ow kTensor 29 A86 c87 s83.2.2, .bx b63 [.slice A86 s83.2.2.length c87, .slice A52 ((List.replicate ((x0.length : Int)).toNat (0 : Int)).length) c53, .slice A84 s83.2.1.length c85] 72, .ow (Kd.int .i64) 3 A52 c53 (List.replicate ((x0.length : Int)).toNat (0 : Int)), .sl kTensor A0 c0 x0] w) #[true, true, true, true, true, true, true, false, false, false, true, true, true, true, false, false, false, false, false, false, false, false, false, false] 13 ?_ fun L1423 => ?_
      · rintro a1424 w1425 ⟨hf1426, hm1427⟩
        refine all2 7 14 (by kernel_rfl) ?_ ?_
        · refine opOf hf1426 rfl (by kernel_rfl) (aCall (fid := 33) (args := [.agg #[.slice A102 (((rd x0 s83.1).Shape).length) c103, .slice A104 (((rd x0 s83.1).Data).length) c105]]) (d := 32) hf1426 (by kernel_rfl) (by kernel_rfl) callable33 (tensor_Copy.calls _ _ (⟨((rd x0 s83.1).Shape), ((rd x0 s83.1).Data)⟩ : Tensor) A102 (((rd x0 s83.1).Shape).length) c103 rfl A104 (((rd x0 s83.1).Data).length) c105 rfl (hm1427.give [2, 1] [.sl (Kd.int .i64) A102 c103 ((rd x0 s83.1).Shape), .sl Kd.float A104 c105 ((rd x0 s83.1).Data)] rfl rfl) r121 hr121) ?_)
          rintro _ w1432 a1433 ⟨A1428, c1429, A1430, c1431, rfl, hk1435⟩ hf1434
          refine ⟨.inr (Gr.still hk1435.cum.none), ?_⟩
          have hm1436 := hm1427.back hk1435
          have hm1437 := hm1436.seal 0 _ rfl rfl
          have hm1438 := hm1437.seal 1 _ rfl rfl
          exact L1261 _ _ ⟨A1428, c1429, A1430, c1431, hf1434.sel (l := [4, 6, 19, 20, 21, 25, 26, 30, 31, 32, 37, 38]) (by kernel_rfl), hm1438.sel [0, 1, 2, 3, 4, 5, 6, 7, 8, 9] _ rfl (by kernel_rfl)⟩
        · refine opOf hf1426 rfl (by kernel_rfl) (aOne [.agg #[.slice A102 (((rd x0 s83.1).Shape).length) c103, .slice A104 (((rd x0 s83.1).Data).length) c105]] (.agg #[.slice A102 (((rd x0 s83.1).Shape).length) c103, .slice A104 (((rd x0 s83.1).Data).length) c105]) [.cell ⟨b110, 0, none⟩ (.slice A102 (((rd x0 s83.1).Shape).length) c103), .cell ⟨b110, 1, none⟩ (.slice A104 (((rd x0 s83.1).Data).length) c105)] 39 hf1426 (by kernel_rfl) rfl (by kernel_rfl) ⟨(hm1427.cell 0 rfl rfl), (hm1427.cell 0 rfl rfl), trivial⟩ fun a1439 hf1440 => ?_)
          refine ⟨.inr (Gr.refl _ _), ?_⟩
          refine all1 7 (by kernel_rfl) ?_
          refine opOf hf1440 rfl (by kernel_rfl) (aCall (fid := 33) (args := [.agg #[.slice A102 (((rd x0 s83.1).Shape).length) c103, .slice A104 (((rd x0 s83.1).Data).length) c105]]) (d := 32) hf1440 (by kernel_rfl) (by kernel_rfl) callable33 (tensor_Copy.calls _ _ (⟨((rd x0 s83.1).Shape), ((rd x0 s83.1).Data)⟩ : Tensor) A102 (((rd x0 s83.1).Shape).length) c103 rfl A104 (((rd x0 s83.1).Data).length) c105 rfl (hm1427.give [2, 1] [.sl (Kd.int .i64) A102 c103 ((rd x0 s83.1).Shape), .sl Kd.float A104 c105 ((rd x0 s83.1).Data)] rfl rfl) r121 hr121) ?_)
          rintro _ w1445 a1446 ⟨A1441, c1442, A1443, c1444, rfl, hk1448⟩ hf1447
          refine ⟨.inr (Gr.still hk1448.cum.none), ?_⟩
          have hm1449 := hm1427.back hk1448
          have hm1450 := hm1449.seal 0 _ rfl rfl
          have hm1451 := hm1450.seal 1 _ rfl rfl
          refine all1 8 (by kernel_rfl) ?_
          refine opOf hf1447 rfl (by kernel_rfl) (aLit (cs := [.slice A1441 r121.Shape.length c1442, .slice A1443 r121.Data.length c1444]) (E := 29) (len := 1) (d := 33) hf1447 (by kernel_rfl) (by kernel_rfl) ?_)
          intro b1452 w1453 a1454 hbb1452 hx1456 hg1457 hf1455
          refine ⟨.inr (Gr.still hg1457), ?_⟩
          have hm1451s := hm1451.still hg1457
          have hm1458 := Mem.lit (kd := kTensor) (xs := ([r121] : List Tensor)) hm1451 hbb1452 hx1456 hg1457 (Els.one (kd := kTensor) (us := [.slice A1441 r121.Shape.length c1442, .slice A1443 r121.Data.length c1444]) (x := r121) (kTensor.mk r121 ⟨hm1451s.cpAt 0 rfl, (hm1451s.slAt 0 rfl)⟩ ⟨hm1451s.cpAt 1 rfl, (hm1451s.slAt 1 rfl)⟩))
          refine all1 9 (by kernel_rfl) ?_
          have e1467 : s83.2.2.length = s83.2.2.length := rfl
          have e1468 : 1 = ([r121] : List Tensor).length := rfl
          refine opOf hf1455 rfl (by kernel_rfl) (aApp (kd := kTensor) (base := 0) (E := 29) (A := A86) (B := (some ⟨b1452, 0, none⟩)) (c := c87) (c2 := 1) (xs := s83.2.2) (ys := ([r121] : List Tensor)) (k := s83.2.2.length) (m := 1) (sz := 2) (d := 34) hf1455 (by kernel_rfl) e1467 e1468 (by kernel_rfl) rfl (by kernel_rfl) (hm1458.at 7 rfl) (hm1458.at2 7 0 rfl rfl).2 (hm1458.cpAt 0 rfl) (Nat.zero_le _) (by have := g122; omega) ?_)
          intro A1459 c1460 w1461 a1462 ho1464 hg1465 hr1466 hf1463
          refine ⟨.inl (by decide), ?_⟩
          have hm1469 := hm1458.setOwn 7 _ rfl rfl ho1464 hg1465 hr1466
          refine all1 15 (by kernel_rfl) ?_
          refine opOf hf1463 rfl (by kernel_rfl) (aCall (fid := 34) (args := [.agg #[.slice A102 (((rd x0 s83.1).Shape).length) c103, .slice A104 (((rd x0 s83.1).Data).length) c105]]) (d := 40) hf1463 (by kernel_rfl) (by kernel_rfl) callable34 (shelf_noughts.calls _ _ (⟨((rd x0 s83.1).Shape), ((rd x0 s83.1).Data)⟩ : Tensor) A102 (((rd x0 s83.1).Shape).length) c103 rfl A104 (((rd x0 s83.1).Data).length) c105 rfl (hm1469.give [5, 4] [.sl (Kd.int .i64) A102 c103 ((rd x0 s83.1).Shape), .sl Kd.float A104 c105 ((rd x0 s83.1).Data)] rfl rfl) r123 hr123) ?_)
          rintro _ w1474 a1475 ⟨A1470, c1471, A1472, c1473, rfl, hk1477⟩ hf1476
          refine ⟨.inr (Gr.still hk1477.cum.none), ?_⟩
          have hm1478 := hm1469.back hk1477
          have hm1479 := hm1478.seal 0 _ rfl rfl
          have hm1480 := hm1479.seal 1 _ rfl rfl
          refine all1 16 (by kernel_rfl) ?_
          refine opOf hf1476 rfl (by kernel_rfl) (aLit (cs := [.slice A1470 r123.Shape.length c1471, .slice A1472 r123.Data.length c1473]) (E := 29) (len := 1) (d := 41) hf1476 (by kernel_rfl) (by kernel_rfl) ?_)
          intro b1481 w1482 a1483 hbb1481 hx1485 hg1486 hf1484
          refine ⟨.inr (Gr.still hg1486), ?_⟩
          have hm1480s := hm1480.still hg1486
          have hm1487 := Mem.lit (kd := kTensor) (xs := ([r123] : List Tensor)) hm1480 hbb1481 hx1485 hg1486 (Els.one (kd := kTensor) (us := [.slice A1470 r123.Shape.length c1471, .slice A1472 r123.Data.length c1473]) (x := r123) (kTensor.mk r123 ⟨hm1480s.cpAt 0 rfl, (hm1480s.slAt 0 rfl)⟩ ⟨hm1480s.cpAt 1 rfl, (hm1480s.slAt 1 rfl)⟩))
          refine all1 17 (by kernel_rfl) ?_
          have e1496 : s83.2.1.length = s83.2.1.length := rfl
          have e1497 : 1 = ([r123] : List Tensor).length := rfl
          refine opOf hf1484 rfl (by kernel_rfl) (aApp (kd := kTensor) (base := 0) (E := 29) (A := A84) (B := (some ⟨b1481, 0, none⟩)) (c := c85) (c2 := 1) (xs := s83.2.1) (ys := ([r123] : List Tensor)) (k := s83.2.1.length) (m := 1) (sz := 2) (d := 42) hf1484 (by kernel_rfl) e1496 e1497 (by kernel_rfl) rfl (by kernel_rfl) (hm1487.at 9 rfl) (hm1487.at2 9 0 rfl rfl).2 (hm1487.cpAt 0 rfl) (Nat.zero_le _) (by have := g124; omega) ?_)
          intro A1488 c1489 w1490 a1491 ho1493 hg1494 hr1495 hf1492
          refine ⟨.inl (by decide), ?_⟩
          have hm1498 := hm1487.setOwn 9 _ rfl rfl ho1493 hg1494 hr1495
          refine quiet0 [18, 19] [] [4, 19, 20, 21, 26, 34, 42, 44] #[true, true, true, true, true, true, true, true, true, true, true, true, true, true, true, true, true, true, true, true, false, false, false, false] [(4, .pointer (some ⟨b63, 0, none⟩)), (19, .slice A0 x0.length c0), (20, .int .i64 (x0.length : Int)), (21, .int .i64 s83.1), (26, .pointer (some ⟨b63, 0, none⟩)), (34, .slice A1459 ((s83.2.2 ++ ([r121] : List Tensor)).length) c1460), (42, .slice A1488 ((s83.2.1 ++ ([r123] : List Tensor)).length) c1489), (44, .pointer (some ⟨b63, 0, none⟩))] [] 4 rfl (by kernel_rfl) (fun _ _ _ _ _ h => nomatch h.1) hf1492 (by kernel_rfl) trivial fun a1499 hf1500 => ?_
          refine all1 20 (by kernel_rfl) ?_
          refine opOf hf1500 rfl (by kernel_rfl) (aStoreB (b := b63) (j := 0) (T := 72) (cs := [.slice A86 s83.2.2.length c87, .slice A52 ((List.replicate ((x0.length : Int)).toNat (0 : Int)).length) c53, .slice A84 s83.2.1.length c85]) (us := [.slice A1459 ((s83.2.2 ++ ([r121] : List Tensor)).length) c1460]) (cs' := [.slice A1459 ((s83.2.2 ++ ([r121] : List Tensor)).length) c1460, .slice A52 ((List.replicate ((x0.length : Int)).toNat (0 : Int)).length) c53, .slice A84 s83.2.1.length c85]) hf1500 (by kernel_rfl) (hm1498.bxAt 11 rfl) (by kernel_rfl) (by kernel_rfl) (by kernel_rfl) ?_)
          intro w1501 hx1502 hg1503
          refine ⟨.inl (by decide), ?_⟩
          have hm1504 := hm1498.setBox 11 _ rfl rfl hx1502 hg1503
          refine quiet0 [21, 22] [] [4, 19, 20, 21, 42, 46] #[true, true, true, true, true, true, true, true, true, true, true, true, true, true, true, true, true, true, true, true, true, true, true, false] [(4, .pointer (some ⟨b63, 0, none⟩)), (19, .slice A0 x0.length c0), (20, .int .i64 (x0.length : Int)), (21, .int .i64 s83.1), (42, .slice A1488 ((s83.2.1 ++ ([r123] : List Tensor)).length) c1489), (46, .pointer (some ⟨b63, 2, none⟩))] [] 1 rfl (by kernel_rfl) (fun _ _ _ _ _ h => nomatch h.1) hf1500 (by kernel_rfl) trivial fun a1505 hf1506 => ?_
          refine all1 23 (by kernel_rfl) ?_
          refine opOf hf1506 rfl (by kernel_rfl) (aStoreB (b := b63) (j := 2) (T := 72) (cs := [.slice A1459 ((s83.2.2 ++ ([r121] : List Tensor)).length) c1460, .slice A52 ((List.replicate ((x0.length : Int)).toNat (0 : Int)).length) c53, .slice A84 s83.2.1.length c85]) (us := [.slice A1488 ((s83.2.1 ++ ([r123] : List Tensor)).length) c1489]) (cs' := [.slice A1459 ((s83.2.2 ++ ([r121] : List Tensor)).length) c1460, .slice A52 ((List.replicate ((x0.length : Int)).toNat (0 : Int)).length) c53, .slice A1488 ((s83.2.1 ++ ([r123] : List Tensor)).length) c1489]) hf1506 (by kernel_rfl) (hm1504.bxAt 11 rfl) (by kernel_rfl) (by kernel_rfl) (by kernel_rfl) ?_)
          intro w1507 hx1508 hg1509
          refine ⟨.inl (by decide), ?_⟩
          have hm1510 := hm1504.setBox 11 _ rfl rfl hx1508 hg1509
          refine allDone (by kernel_rfl) ⟨rfl, A1488, c1489, A1459, c1460, hf1506.sel (l := [4, 19, 20, 21]) (by kernel_rfl), hm1510.sel [9, 10, 11, 12, 13] _ rfl (by kernel_rfl)⟩
      refine memoStep (R := fun (a : Act) (w : World) => Fr 49 a [(4, .pointer (some ⟨b63, 0, none⟩)), (6, .pointer (some ⟨b110, 0, none⟩)), (19, .slice A0 x0.length c0), (20, .int .i64 (x0.length : Int)), (21, .int .i64 s83.1), (25, .pointer (some ⟨b63, 0, none⟩)), (26, .pointer (some ⟨b63, 0, none⟩)), (30, .slice A86 s83.2.2.length c87), (31, .agg #[.slice A102 (((rd x0 s83.1).Shape).length) c103, .slice A104 (((rd x0 s83.1).Data).length) c105]), (37, .pointer (some ⟨b63, 2, none⟩)), (39, .agg #[.slice A102 (((rd x0 s83.1).Shape).length) c103, .slice A104 (((rd x0 s83.1).Data).length) c105])] ∧ Mem [] M w0 [.bx b110 [.slice A102 (((rd x0 s83.1).Shape).length) c103, .slice A104 (((rd x0 s83.1).Data).length) c105] 29, .sl Kd.float A104 c105 ((rd x0 s83.1).Data), .sl (Kd.int .i64) A102 c103 ((rd x0 s83.1).Shape), .ow kTensor 29 A84 c85 s83.2.1, .ow kTensor 29 A86 c87 s83.2.2, .bx b63 [.slice A86 s83.2.2.length c87, .slice A52 ((List.replicate ((x0.length : Int)).toNat (0 : Int)).length) c53, .slice A84 s83.2.1.length c85] 72, .ow (Kd.int .i64) 3 A52 c53 (List.replicate ((x0.length : Int)).toNat (0 : Int)), .sl kTensor A0 c0 x0] w) #[true, true, true, true, true, true, true, false, false, false, true, true, true, false, true, false, false, false, false, false, false, false, false, false] 13 ?_ fun L1511 => ?_
      · rintro a1512 w1513 ⟨hf1514, hm1515⟩
        refine all2 7 13 (by kernel_rfl) ?_ ?_
        · refine opOf hf1514 rfl (by kernel_rfl) (aCall (fid := 33) (args := [.agg #[.slice A102 (((rd x0 s83.1).Shape).length) c103, .slice A104 (((rd x0 s83.1).Data).length) c105]]) (d := 32) hf1514 (by kernel_rfl) (by kernel_rfl) callable33 (tensor_Copy.calls _ _ (⟨((rd x0 s83.1).Shape), ((rd x0 s83.1).Data)⟩ : Tensor) A102 (((rd x0 s83.1).Shape).length) c103 rfl A104 (((rd x0 s83.1).Data).length) c105 rfl (hm1515.give [2, 1] [.sl (Kd.int .i64) A102 c103 ((rd x0 s83.1).Shape), .sl Kd.float A104 c105 ((rd x0 s83.1).Data)] rfl rfl) r121 hr121) ?_)
          rintro _ w1520 a1521 ⟨A1516, c1517, A1518, c1519, rfl, hk1523⟩ hf1522
          refine ⟨.inr (Gr.still hk1523.cum.none), ?_⟩
          have hm1524 := hm1515.back hk1523
          have hm1525 := hm1524.seal 0 _ rfl rfl
          have hm1526 := hm1525.seal 1 _ rfl rfl
          exact L1334 _ _ ⟨A1516, c1517, A1518, c1519, hf1522.sel (l := [4, 6, 19, 20, 21, 25, 26, 30, 31, 32, 37, 39]) (by kernel_rfl), hm1526.sel [0, 1, 2, 3, 4, 5, 6, 7, 8, 9] _ rfl (by kernel_rfl)⟩
        · refine opOf hf1514 rfl (by kernel_rfl) (aOne [.slice A84 s83.2.1.length c85] (.slice A84 s83.2.1.length c85) [.cell ⟨b63, 2, none⟩ (.slice A84 s83.2.1.length c85)] 38 hf1514 (by kernel_rfl) rfl (by kernel_rfl) ⟨(hm1515.cell 5 rfl rfl), trivial⟩ fun a1527 hf1528 => ?_)
          refine ⟨.inr (Gr.refl _ _), ?_⟩
          refine all1 7 (by kernel_rfl) ?_
          refine opOf hf1528 rfl (by kernel_rfl) (aCall (fid := 33) (args := [.agg #[.slice A102 (((rd x0 s83.1).Shape).length) c103, .slice A104 (((rd x0 s83.1).Data).length) c105]]) (d := 32) hf1528 (by kernel_rfl) (by kernel_rfl) callable33 (tensor_Copy.calls _ _ (⟨((rd x0 s83.1).Shape), ((rd x0 s83.1).Data)⟩ : Tensor) A102 (((rd x0 s83.1).Shape).length) c103 rfl A104 (((rd x0 s83.1).Data).length) c105 rfl (hm1515.give [2, 1] [.sl (Kd.int .i64) A102 c103 ((rd x0 s83.1).Shape), .sl Kd.float A104 c105 ((rd x0 s83.1).Data)] rfl rfl) r121 hr121) ?_)
          rintro _ w1533 a1534 ⟨A1529, c1530, A1531, c1532, rfl, hk1536⟩ hf1535
          refine ⟨.inr (Gr.still hk1536.cum.none), ?_⟩
          have hm1537 := hm1515.back hk1536
          have hm1538 := hm1537.seal 0 _ rfl rfl
          have hm1539 := hm1538.seal 1 _ rfl rfl
          refine all1 8 (by kernel_rfl) ?_
          refine opOf hf1535 rfl (by kernel_rfl) (aLit (cs := [.slice A1529 r121.Shape.length c1530, .slice A1531 r121.Data.length c1532]) (E := 29) (len := 1) (d := 33) hf1535 (by kernel_rfl) (by kernel_rfl) ?_)
          intro b1540 w1541 a1542 hbb1540 hx1544 hg1545 hf1543
          refine ⟨.inr (Gr.still hg1545), ?_⟩
          have hm1539s := hm1539.still hg1545
          have hm1546 := Mem.lit (kd := kTensor) (xs := ([r121] : List Tensor)) hm1539 hbb1540 hx1544 hg1545 (Els.one (kd := kTensor) (us := [.slice A1529 r121.Shape.length c1530, .slice A1531 r121.Data.length c1532]) (x := r121) (kTensor.mk r121 ⟨hm1539s.cpAt 0 rfl, (hm1539s.slAt 0 rfl)⟩ ⟨hm1539s.cpAt 1 rfl, (hm1539s.slAt 1 rfl)⟩))
          refine all1 9 (by kernel_rfl) ?_
          have e1555 : s83.2.2.length = s83.2.2.length := rfl
          have e1556 : 1 = ([r121] : List Tensor).length := rfl
          refine opOf hf1543 rfl (by kernel_rfl) (aApp (kd := kTensor) (base := 0) (E := 29) (A := A86) (B := (some ⟨b1540, 0, none⟩)) (c := c87) (c2 := 1) (xs := s83.2.2) (ys := ([r121] : List Tensor)) (k := s83.2.2.length) (m := 1) (sz := 2) (d := 34) hf1543 (by kernel_rfl) e1555 e1556 (by kernel_rfl) rfl (by kernel_rfl) (hm1546.at 7 rfl) (hm1546.at2 7 0 rfl rfl).2 (hm1546.cpAt 0 rfl) (Nat.zero_le _) (by have := g122; omega) ?_)
          intro A1547 c1548 w1549 a1550 ho1552 hg1553 hr1554 hf1551
          refine ⟨.inl (by decide), ?_⟩
          have hm1557 := hm1546.setOwn 7 _ rfl rfl ho1552 hg1553 hr1554
          refine all1 15 (by kernel_rfl) ?_
          refine opOf hf1551 rfl (by kernel_rfl) (aCall (fid := 34) (args := [.agg #[.slice A102 (((rd x0 s83.1).Shape).length) c103, .slice A104 (((rd x0 s83.1).Data).length) c105]]) (d := 40) hf1551 (by kernel_rfl) (by kernel_rfl) callable34 (shelf_noughts.calls _ _ (⟨((rd x0 s83.1).Shape), ((rd x0 s83.1).Data)⟩ : Tensor) A102 (((rd x0 s83.1).Shape).length) c103 rfl A104 (((rd x0 s83.1).Data).length) c105 rfl (hm1557.give [5, 4] [.sl (Kd.int .i64) A102 c103 ((rd x0 s83.1).Shape), .sl Kd.float A104 c105 ((rd x0 s83.1).Data)] rfl rfl) r123 hr123) ?_)
          rintro _ w1562 a1563 ⟨A1558, c1559, A1560, c1561, rfl, hk1565⟩ hf1564
          refine ⟨.inr (Gr.still hk1565.cum.none), ?_⟩
          have hm1566 := hm1557.back hk1565
          have hm1567 := hm1566.seal 0 _ rfl rfl
          have hm1568 := hm1567.seal 1 _ rfl rfl
          refine all1 16 (by kernel_rfl) ?_
          refine opOf hf1564 rfl (by kernel_rfl) (aLit (cs := [.slice A1558 r123.Shape.length c1559, .slice A1560 r123.Data.length c1561]) (E := 29) (len := 1) (d := 41) hf1564 (by kernel_rfl) (by kernel_rfl) ?_)
          intro b1569 w1570 a1571 hbb1569 hx1573 hg1574 hf1572
          refine ⟨.inr (Gr.still hg1574), ?_⟩
          have hm1568s := hm1568.still hg1574
          have hm1575 := Mem.lit (kd := kTensor) (xs := ([r123] : List Tensor)) hm1568 hbb1569 hx1573 hg1574 (Els.one (kd := kTensor) (us := [.slice A1558 r123.Shape.length c1559, .slice A1560 r123.Data.length c1561]) (x := r123) (kTensor.mk r123 ⟨hm1568s.cpAt 0 rfl, (hm1568s.slAt 0 rfl)⟩ ⟨hm1568s.cpAt 1 rfl, (hm1568s.slAt 1 rfl)⟩))
          refine all1 17 (by kernel_rfl) ?_
          have e1584 : s83.2.1.length = s83.2.1.length := rfl
          have e1585 : 1 = ([r123] : List Tensor).length := rfl
          refine opOf hf1572 rfl (by kernel_rfl) (aApp (kd := kTensor) (base := 0) (E := 29) (A := A84) (B := (some ⟨b1569, 0, none⟩)) (c := c85) (c2 := 1) (xs := s83.2.1) (ys := ([r123] : List Tensor)) (k := s83.2.1.length) (m := 1) (sz := 2) (d := 42) hf1572 (by kernel_rfl) e1584 e1585 (by kernel_rfl) rfl (by kernel_rfl) (hm1575.at 9 rfl) (hm1575.at2 9 0 rfl rfl).2 (hm1575.cpAt 0 rfl) (Nat.zero_le _) (by have := g124; omega) ?_)
          intro A1576 c1577 w1578 a1579 ho1581 hg1582 hr1583 hf1580
          refine ⟨.inl (by decide), ?_⟩
          have hm1586 := hm1575.setOwn 9 _ rfl rfl ho1581 hg1582 hr1583
          refine quiet0 [18, 19] [] [4, 19, 20, 21, 26, 34, 42, 44] #[true, true, true, true, true, true, true, true, true, true, true, true, true, true, true, true, true, true, true, true, false, false, false, false] [(4, .pointer (some ⟨b63, 0, none⟩)), (19, .slice A0 x0.length c0), (20, .int .i64 (x0.length : Int)), (21, .int .i64 s83.1), (26, .pointer (some ⟨b63, 0, none⟩)), (34, .slice A1547 ((s83.2.2 ++ ([r121] : List Tensor)).length) c1548), (42, .slice A1576 ((s83.2.1 ++ ([r123] : List Tensor)).length) c1577), (44, .pointer (some ⟨b63, 0, none⟩))] [] 4 rfl (by kernel_rfl) (fun _ _ _ _ _ h => nomatch h.1) hf1580 (by kernel_rfl) trivial fun a1587 hf1588 => ?_
          refine all1 20 (by kernel_rfl) ?_
          refine opOf hf1588 rfl (by kernel_rfl) (aStoreB (b := b63) (j := 0) (T := 72) (cs := [.slice A86 s83.2.2.length c87, .slice A52 ((List.replicate ((x0.length : Int)).toNat (0 : Int)).length) c53, .slice A84 s83.2.1.length c85]) (us := [.slice A1547 ((s83.2.2 ++ ([r121] : List Tensor)).length) c1548]) (cs' := [.slice A1547 ((s83.2.2 ++ ([r121] : List Tensor)).length) c1548, .slice A52 ((List.replicate ((x0.length : Int)).toNat (0 : Int)).length) c53, .slice A84 s83.2.1.length c85]) hf1588 (by kernel_rfl) (hm1586.bxAt 11 rfl) (by kernel_rfl) (by kernel_rfl) (by kernel_rfl) ?_)
          intro w1589 hx1590 hg1591
          refine ⟨.inl (by decide), ?_⟩
          have hm1592 := hm1586.setBox 11 _ rfl rfl hx1590 hg1591
          refine quiet0 [21, 22] [] [4, 19, 20, 21, 42, 46] #[true, true, true, true, true, true, true, true, true, true, true, true, true, true, true, true, true, true, true, true, true, true, true, false] [(4, .pointer (some ⟨b63, 0, none⟩)), (19, .slice A0 x0.length c0), (20, .int .i64 (x0.length : Int)), (21, .int .i64 s83.1), (42, .slice A1576 ((s83.2.1 ++ ([r123] : List Tensor)).length) c1577), (46, .pointer (some ⟨b63, 2, none⟩))] [] 1 rfl (by kernel_rfl) (fun _ _ _ _ _ h => nomatch h.1) hf1588 (by kernel_rfl) trivial fun a1593 hf1594 => ?_
          refine all1 23 (by kernel_rfl) ?_
          refine opOf hf1594 rfl (by kernel_rfl) (aStoreB (b := b63) (j := 2) (T := 72) (cs := [.slice A1547 ((s83.2.2 ++ ([r121] : List Tensor)).length) c1548, .slice A52 ((List.replicate ((x0.length : Int)).toNat (0 : Int)).length) c53, .slice A84 s83.2.1.length c85]) (us := [.slice A1576 ((s83.2.1 ++ ([r123] : List Tensor)).length) c1577]) (cs' := [.slice A1547 ((s83.2.2 ++ ([r121] : List Tensor)).length) c1548, .slice A52 ((List.replicate ((x0.length : Int)).toNat (0 : Int)).length) c53, .slice A1576 ((s83.2.1 ++ ([r123] : List Tensor)).length) c1577]) hf1594 (by kernel_rfl) (hm1592.bxAt 11 rfl) (by kernel_rfl) (by kernel_rfl) (by kernel_rfl) ?_)
          intro w1595 hx1596 hg1597
          refine ⟨.inl (by decide), ?_⟩
          have hm1598 := hm1592.setBox 11 _ rfl rfl hx1596 hg1597
          refine allDone (by kernel_rfl) ⟨rfl, A1576, c1577, A1547, c1548, hf1594.sel (l := [4, 19, 20, 21]) (by kernel_rfl), hm1598.sel [9, 10, 11, 12, 13] _ rfl (by kernel_rfl)⟩
      refine memoStep (R := fun (a : Act) (w : World) => Fr 49 a [(4, .pointer (some ⟨b63, 0, none⟩)), (6, .pointer (some ⟨b110, 0, none⟩)), (19, .slice A0 x0.length c0), (20, .int .i64 (x0.length : Int)), (21, .int .i64 s83.1), (25, .pointer (some ⟨b63, 0, none⟩)), (26, .pointer (some ⟨b63, 0, none⟩)), (30, .slice A86 s83.2.2.length c87), (31, .agg #[.slice A102 (((rd x0 s83.1).Shape).length) c103, .slice A104 (((rd x0 s83.1).Data).length) c105]), (37, .pointer (some ⟨b63, 2, none⟩))] ∧ Mem [] M w0 [.bx b110 [.slice A102 (((rd x0 s83.1).Shape).length) c103, .slice A104 (((rd x0 s83.1).Data).length) c105] 29, .sl Kd.float A104 c105 ((rd x0 s83.1).Data), .sl (Kd.int .i64) A102 c103 ((rd x0 s83.1).Shape), .ow kTensor 29 A84 c85 s83.2.1, .ow kTensor 29 A86 c87 s83.2.2, .bx b63 [.slice A86 s83.2.2.length c87, .slice A52 ((List.replicate ((x0.length : Int)).toNat (0 : Int)).length) c53, .slice A84 s83.2.1.length c85] 72, .ow (Kd.int .i64) 3 A52 c53 (List.replicate ((x0.length : Int)).toNat (0 : Int)), .sl kTensor A0 c0 x0] w) #[true, true, true, true, true, true, true, false, false, false, true, true, true, false, false, false, false, false, false, false, false, false, false, false] 14 ?_ fun L1599 => ?_
      · rintro a1600 w1601 ⟨hf1602, hm1603⟩
        refine all3 7 13 14 (by kernel_rfl) ?_ ?_ ?_
        · refine opOf hf1602 rfl (by kernel_rfl) (aCall (fid := 33) (args := [.agg #[.slice A102 (((rd x0 s83.1).Shape).length) c103, .slice A104 (((rd x0 s83.1).Data).length) c105]]) (d := 32) hf1602 (by kernel_rfl) (by kernel_rfl) callable33 (tensor_Copy.calls _ _ (⟨((rd x0 s83.1).Shape), ((rd x0 s83.1).Data)⟩ : Tensor) A102 (((rd x0 s83.1).Shape).length) c103 rfl A104 (((rd x0 s83.1).Data).length) c105 rfl (hm1603.give [2, 1] [.sl (Kd.int .i64) A102 c103 ((rd x0 s83.1).Shape), .sl Kd.float A104 c105 ((rd x0 s83.1).Data)] rfl rfl) r121 hr121) ?_)
          rintro _ w1608 a1609 ⟨A1604, c1605, A1606, c1607, rfl, hk1611⟩ hf1610
          refine ⟨.inr (Gr.still hk1611.cum.none), ?_⟩
          have hm1612 := hm1603.back hk1611
          have hm1613 := hm1612.seal 0 _ rfl rfl
          have hm1614 := hm1613.seal 1 _ rfl rfl
          exact L1407 _ _ ⟨A1604, c1605, A1606, c1607, hf1610.sel (l := [4, 6, 19, 20, 21, 25, 26, 30, 31, 32, 37]) (by kernel_rfl), hm1614.sel [0, 1, 2, 3, 4, 5, 6, 7, 8, 9] _ rfl (by kernel_rfl)⟩
        · refine opOf hf1602 rfl (by kernel_rfl) (aOne [.slice A84 s83.2.1.length c85] (.slice A84 s83.2.1.length c85) [.cell ⟨b63, 2, none⟩ (.slice A84 s83.2.1.length c85)] 38 hf1602 (by kernel_rfl) rfl (by kernel_rfl) ⟨(hm1603.cell 5 rfl rfl), trivial⟩ fun a1615 hf1616 => ?_)
          refine ⟨.inr (Gr.refl _ _), ?_⟩
          exact L1423 _ _ ⟨hf1616.sel (l := [4, 6, 19, 20, 21, 25, 26, 30, 31, 37, 38]) (by kernel_rfl), hm1603.sel [0, 1, 2, 3, 4, 5, 6, 7] _ rfl (by kernel_rfl)⟩
        · refine opOf hf1602 rfl (by kernel_rfl) (aOne [.agg #[.slice A102 (((rd x0 s83.1).Shape).length) c103, .slice A104 (((rd x0 s83.1).Data).length) c105]] (.agg #[.slice A102 (((rd x0 s83.1).Shape).length) c103, .slice A104 (((rd x0 s83.1).Data).length) c105]) [.cell ⟨b110, 0, none⟩ (.slice A102 (((rd x0 s83.1).Shape).length) c103), .cell ⟨b110, 1, none⟩ (.slice A104 (((rd x0 s83.1).Data).length) c105)] 39 hf1602 (by kernel_rfl) rfl (by kernel_rfl) ⟨(hm1603.cell 0 rfl rfl), (hm1603.cell 0 rfl rfl), trivial⟩ fun a1617 hf1618 => ?_)
          refine ⟨.inr (Gr.refl _ _), ?_⟩
          exact L1511 _ _ ⟨hf1618.sel (l := [4, 6, 19, 20, 21, 25, 26, 30, 31, 37, 39]) (by kernel_rfl), hm1603.sel [0, 1, 2, 3, 4, 5, 6, 7] _ rfl (by kernel_rfl)⟩
      refine quiet0 [0, 1, 2, 3, 4, 5, 6, 10, 11, 12] [.slice A86 s83.2.2.length c87, .agg #[.slice A102 (((rd x0 s83.1).Shape).length) c103, .slice A104 (((rd x0 s83.1).Data).length) c105]] [4, 6, 19, 20, 21, 25, 26, 30, 31, 37] #[true, true, true, true, true, true, true, false, false, false, true, true, true, false, false, false, false, false, false, false, false, false, false, false] [(4, .pointer (some ⟨b63, 0, none⟩)), (6, .pointer (some ⟨b110, 0, none⟩)), (19, .slice A0 x0.length c0), (20, .int .i64 (x0.length : Int)), (21, .int .i64 s83.1), (25, .pointer (some ⟨b63, 0, none⟩)), (26, .pointer (some ⟨b63, 0, none⟩)), (30, .slice A86 s83.2.2.length c87), (31, .agg #[.slice A102 (((rd x0 s83.1).Shape).length) c103, .slice A104 (((rd x0 s83.1).Data).length) c105]), (37, .pointer (some ⟨b63, 2, none⟩))] [.cell ⟨b63, 0, none⟩ (.slice A86 s83.2.2.length c87), .cell ⟨b110, 0, none⟩ (.slice A102 (((rd x0 s83.1).Shape).length) c103), .cell ⟨b110, 1, none⟩ (.slice A104 (((rd x0 s83.1).Data).length) c105)] 14 rfl (by kernel_rfl) (fun _ _ _ _ _ h => nomatch h.1) hf113 (by kernel_rfl) ⟨(hm194.cell 5 rfl rfl), (hm194.cell 0 rfl rfl), (hm194.cell 0 rfl rfl), trivial⟩ fun a1619 hf1620 => ?_
      exact L1599 _ _ ⟨hf1620.sel (l := [4, 6, 19, 20, 21, 25, 26, 30, 31, 37]) (by kernel_rfl), hm194.sel [0, 1, 2, 3, 4, 5, 6, 7] _ rfl (by kernel_rfl)⟩
    rintro a1621 w1622 ⟨A172, c173, A143, c144, hf1623, hm1624⟩
    refine blkN ?_
    refine thenN ?_
    refine reg [] [4, 19, 20, 21] [(4, .pointer (some ⟨b63, 0, none⟩)), (19, .slice A0 x0.length c0), (20, .int .i64 (x0.length : Int)), (21, .int .i64 (w64 (s83.1 + 1)))] [] hf1623 (by kernel_rfl) trivial fun a1625 hf1626 => ?_
    exact ⟨((w64 (s83.1 + 1)), (s83.2.1 ++ ([r123] : List Tensor)), (s83.2.2 ++ ([r121] : List Tensor))), H1, A172, c173, A143, c144, hf1626.sel (l := [4, 19, 20, 21]) (by kernel_rfl), hm1624.sel [0, 1, 2, 3, 4] _ rfl (by kernel_rfl)⟩
  rintro a1629 w1630 ⟨A84, c85, A86, c87, hf1631, hm1632⟩
  refine thenN ?_
  refine wp_seq ?_
  refine reg [] [2, 3] [(2, .pointer (some ⟨b63, 0, none⟩)), (3, .int .i64 0)] [] hf1631 (by kernel_rfl) trivial fun a1633 hf1634 => ?_
  have hm1635 := hm1632.sel [0, 1, 2, 3] _ rfl (by kernel_rfl)
  refine thenN ?_
  refine wp_ret ?_
  have hm1636 : Mem [] M w0 [.bx b63 [.slice A86 r88.2.2.length c87, .slice A52 ((List.replicate ((x0.length : Int)).toNat (0 : Int)).length) c53, .slice A84 r88.2.1.length c85] 72, .ow kTensor 29 A86 c87 r88.2.2, .ow (Kd.int .i64) 3 A52 c53 (List.replicate ((x0.length : Int)).toNat (0 : Int)), .ow kTensor 29 A84 c85 r88.2.1] w1630 := hm1635.sel [2, 1, 3, 0] _ rfl (by kernel_rfl)
  obtain rfl := Option.some.inj H0
  refine ret [] [.pointer (some ⟨b63, 0, none⟩), .int .i64 0] [] hf1634 (by kernel_rfl) trivial ?_
  exact PtrP_so ⟨_, rfl, b63, A86, c87, A52, c53, A84, c85, rfl, hm1636⟩
theorem shelf_New.calls_n (M : List (Option Nat)) (w0 : World) (x0 : (List Tensor)) (A0 : Option Addr) (n0 c0 : Nat) (e0 : n0 = x0.length) (hm0 : Mem [] M w0 [.sl kTensor A0 c0 x0] w0) (r : ((Option Shelf) × Int)) (hp : r.1 = none) (H0 : shelf_New.f x0 = some r) :
    Calls Try.prog 10 [.slice A0 n0 c0].toArray w0 (fun x w' => ∃ v, x = .returned v ∧ v = .tuple #[.pointer none, .int .i64 r.2] ∧ Mem [] M w0 [] w') :=
  (shelf_New.calls_x M w0 x0 A0 n0 c0 e0 hm0 r H0).mono (fun _ _ h => by rw [hp] at h; exact h)
theorem shelf_New.calls_s (M : List (Option Nat)) (w0 : World) (x0 : (List Tensor)) (A0 : Option Addr) (n0 c0 : Nat) (e0 : n0 = x0.length) (hm0 : Mem [] M w0 [.sl kTensor A0 c0 x0] w0) (r : ((Option Shelf) × Int)) (y : Shelf) (hp : r.1 = some y) (H0 : shelf_New.f x0 = some r) :
    Calls Try.prog 10 [.slice A0 n0 c0].toArray w0 (fun x w' => ∃ v, x = .returned v ∧ ∃ bp Aq_0 cq_0 Aq_1 cq_1 Aq_2 cq_2, v = .tuple #[.pointer (some ⟨bp, 0, none⟩), .int .i64 r.2] ∧ Mem [] M w0 [.bx bp [.slice Aq_0 y.l.length cq_0, .slice Aq_1 y.vers.length cq_1, .slice Aq_2 y.grads.length cq_2] 72, .ow kTensor 29 Aq_0 cq_0 y.l, .ow (Kd.int .i64) 3 Aq_1 cq_1 y.vers, .ow kTensor 29 Aq_2 cq_2 y.grads] w') :=
  (shelf_New.calls_x M w0 x0 A0 n0 c0 e0 hm0 r H0).mono (fun _ _ h => by rw [hp] at h; exact h)
theorem shelf_New.calls_d (M : List (Option Nat)) (w0 : World) (x0 : (List Tensor)) (A0 : Option Addr) (n0 c0 : Nat) (e0 : n0 = x0.length) (hm0 : Mem [] M w0 [.sl kTensor A0 c0 x0] w0) (r : ((Option Shelf) × Int)) (H0 : shelf_New.f x0 = some r) :
    Calls Try.prog 10 [.slice A0 n0 c0].toArray w0 (fun x w' => ∃ v, x = .returned v ∧ ∃ p, v = .tuple #[p, .int .i64 r.2] ∧ Mem [] M w0 [] w') := by
  cases hp : r.1 with
  | none => exact (shelf_New.calls_n M w0 x0 A0 n0 c0 e0 hm0 r hp H0).mono (fun _ _ ⟨v, e, hv, hm⟩ => ⟨v, e, _, hv, hm⟩)
  | some y => exact (shelf_New.calls_s M w0 x0 A0 n0 c0 e0 hm0 r y hp H0).mono (fun _ _ ⟨v, e, bp, Aq_0, cq_0, Aq_1, cq_1, Aq_2, cq_2, hv, hm⟩ => ⟨v, e, _, hv, hm.sel [] _ rfl (by kernel_rfl)⟩)
end Go.Proofs.Ytolhkamfpfjodaa
