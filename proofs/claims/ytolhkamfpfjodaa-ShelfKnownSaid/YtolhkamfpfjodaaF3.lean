/- Printed by gen.py. -/
import Derived.Test.YtolhkamfpfjodaaF0
import Derived.Test.YtolhkamfpfjodaaF1
import Derived.Test.YtolhkamfpfjodaaF2
namespace Go.Proofs.Ytolhkamfpfjodaa
open Go Go.RowKit
set_option linter.unusedSimpArgs false
set_option linter.unusedVariables false
set_option linter.unnecessarySimpa false
/-! ### backstitch/shelf.New -/
noncomputable def shelf_New.l0 (x0 : (List Tensor)) (s79 : (Int × (List Tensor) × (List Tensor))) : Step (Int × (List Tensor) × (List Tensor)) (Int × (List Tensor) × (List Tensor)) :=
  if s79.1 < (x0.length : Int) then (if 0 ≤ s79.1 ∧ s79.1 < (x0.length : Int) then (bindS (tensor_Copy.f (⟨((rd x0 s79.1).Shape), ((rd x0 s79.1).Data)⟩ : Tensor)) fun r117 =>
  if s79.2.2.length + 1 ≤ 549755813888 then (bindS (shelf_noughts.f (⟨((rd x0 s79.1).Shape), ((rd x0 s79.1).Data)⟩ : Tensor)) fun r119 =>
  if s79.2.1.length + 1 ≤ 549755813888 then (.next ((w64 (s79.1 + 1)), (s79.2.1 ++ ([r119] : List Tensor)), (s79.2.2 ++ ([r117] : List Tensor))))
  else .bad)
  else .bad)
  else .bad)
  else (.done (s79.1, s79.2.1, s79.2.2))
noncomputable def shelf_New.f (x0 : (List Tensor)) : Option ((Option Shelf) × Int) :=
  if 32 < (x0.length : Int) then (some (none, 13))
  else ((slices_ContainsFunc_api_Tensor_shelf_New_1.f x0).bind fun r31 =>
  if r31 = true then (some (none, 2))
  else (if 0 ≤ (x0.length : Int) ∧ (x0.length : Int) ≤ 1099511627776 then ((loop (shelf_New.l0 x0) (0, ([] : (List Tensor)), ([] : (List Tensor)))).bind fun r84 =>
  some ((some (⟨r84.2.2, (List.replicate ((x0.length : Int)).toNat (0 : Int)), r84.2.1⟩ : Shelf)), 0))
  else none))
set_option maxRecDepth 100000 in
set_option maxHeartbeats 4000000 in
theorem shelf_New.calls_s (M : List (Option Nat)) (w0 : World) (x0 : (List Tensor)) (A0 : Option Addr) (n0 c0 : Nat) (e0 : n0 = x0.length) (hm0 : Mem [] M w0 [.sl kTensor A0 c0 x0] w0) (r : ((Option Shelf) × Int)) (y : Shelf) (hp : r.1 = some y) (H0 : shelf_New.f x0 = some r) :
    Calls Try.prog 10 [.slice A0 n0 c0].toArray w0 (fun x w' => ∃ v, x = .returned v ∧ ∃ bp Aq_0 cq_0 Aq_1 cq_1 Aq_2 cq_2, v = .tuple #[.pointer (some ⟨bp, 0, none⟩), .int .i64 r.2] ∧ Mem [] M w0 [.bx bp [.slice Aq_0 y.l.length cq_0, .slice Aq_1 y.vers.length cq_1, .slice Aq_2 y.grads.length cq_2] 72, .ow kTensor 29 Aq_0 cq_0 y.l, .ow (Kd.int .i64) 3 Aq_1 cq_1 y.vers, .ow kTensor 29 Aq_2 cq_2 y.grads] w') := by
  subst e0
  unfold shelf_New.f at H0
  refine enter (n := 49) Try.func10 rfl rfl (by kernel_rfl) fun a0 (hf0 : Fr 49 a0 [(0, .slice A0 x0.length c0)]) => ?_
  refine wp_seq ?_
  refine reg [] [0] [(0, .slice A0 x0.length c0)] [] hf0 (by kernel_rfl) trivial fun a21 hf22 => ?_
  refine thenN ?_
  refine wp_seq ?_
  refine wp_block ?_
  refine wp_seq ?_
  rcases if_split H0 with ⟨c23, H0⟩ | ⟨c23, H0⟩
  · refine reg [.bool true] [0, 7] [(0, .slice A0 x0.length c0), (7, .bool true)] [.is (decide (32 < (x0.length : Int)) = true)] hf22 (by kernel_rfl) ⟨(decide_eq_true c23), trivial⟩ fun a24 hf25 => ?_
    refine thenN ?_
    refine condT hf25 (by kernel_rfl) ?_
    refine wp_seq ?_
    refine reg [] [2, 3] [(2, .pointer none), (3, .int .i64 13)] [] hf25 (by kernel_rfl) trivial fun a26 hf27 => ?_
    have hm28 := hm0.sel [] _ rfl (by kernel_rfl)
    refine thenN ?_
    refine wp_ret ?_
    refine blkR ?_
    refine thenR ?_
    obtain rfl := Option.some.inj H0
    exact absurd hp (by simp)
  refine reg [.bool false] [0, 7] [(0, .slice A0 x0.length c0), (7, .bool false)] [.is (decide (32 < (x0.length : Int)) = false)] hf22 (by kernel_rfl) ⟨(decide_eq_false c23), trivial⟩ fun a29 hf30 => ?_
  refine thenN ?_
  refine condF hf30 (by kernel_rfl) ?_
  refine wp_seq ?_
  obtain ⟨r31, hr31, H0⟩ := ob_split H0
  refine inReg ?_
  refine go 1 [] [0, 12] [(0, .slice A0 x0.length c0), (12, .slice A0 x0.length c0)] [] hf30 (by kernel_rfl) trivial fun a32 hf33 => ?_
  refine listOf hf33 rfl (by kernel_rfl) (aCall (fid := 30) (args := [.slice A0 x0.length c0, .func (.func 31) #[] #[]]) (d := 13) hf33 (by kernel_rfl) (by kernel_rfl) callable30 (slices_ContainsFunc_api_Tensor_shelf_New_1.calls _ _ x0 A0 x0.length c0 rfl (hm0.give [0] [.sl kTensor A0 c0 x0] rfl rfl) r31 hr31) ?_)
  rintro _ w34 a35 ⟨rfl, hk37⟩ hf36
  have hm38 := hm0.still hk37.cum.none
  refine go 1 [] [0, 11] [(0, .slice A0 x0.length c0), (11, .bool r31)] [] hf36 (by kernel_rfl) trivial fun a39 hf40 => ?_
  refine endL rfl ?_
  refine thenN ?_
  rcases ifb_split H0 with ⟨c41, H0⟩ | ⟨c41, H0⟩
  · rw [c41] at hf40
    refine condT hf40 (by kernel_rfl) ?_
    refine wp_seq ?_
    refine reg [] [2, 3] [(2, .pointer none), (3, .int .i64 2)] [] hf40 (by kernel_rfl) trivial fun a42 hf43 => ?_
    have hm44 := hm38.sel [] _ rfl (by kernel_rfl)
    refine thenN ?_
    refine wp_ret ?_
    refine blkR ?_
    refine thenR ?_
    obtain rfl := Option.some.inj H0
    exact absurd hp (by simp)
  rw [c41] at hf40
  refine condF hf40 (by kernel_rfl) ?_
  refine wp_skip ?_
  refine blkN ?_
  refine thenN ?_
  refine wp_seq ?_
  obtain ⟨g45, H0⟩ := if_guard H0
  refine inReg ?_
  refine go 2 [] [0, 15] [(0, .slice A0 x0.length c0), (15, .int .i64 (x0.length : Int))] [] hf40 (by kernel_rfl) trivial fun a46 hf47 => ?_
  refine listOf hf47 rfl (by kernel_rfl) (aMake (kd := (Kd.int .i64)) (x := 0) (E := 3) (L := (x0.length : Int)) (z := [.int .i64 0]) (sz := 1) (d := 16) hf47 (by kernel_rfl) (by kernel_rfl) rfl (fun _ _ => rfl) g45.1 g45.2 ?_)
  intro A48 c49 w50 a51 ho53 hb55 hg54 hf52
  have hm56 : Mem [] M w0 [.ow (Kd.int .i64) 3 A48 c49 (List.replicate ((x0.length : Int)).toNat (0 : Int)), .sl kTensor A0 c0 x0] w50 := hm38.own (ho53 _) hg54
  refine go 1 [] [0, 17] [(0, .slice A0 x0.length c0), (17, .agg #[.slice none 0 0, .slice A48 ((List.replicate ((x0.length : Int)).toNat (0 : Int)).length) c49, .slice none 0 0])] [] hf52 (by kernel_rfl) trivial fun a57 hf58 => ?_
  refine listOf hf58 rfl (by kernel_rfl) (aNew (cs := [.slice none 0 0, .slice A48 ((List.replicate ((x0.length : Int)).toNat (0 : Int)).length) c49, .slice none 0 0]) (T := 72) (d := 18) hf58 (by kernel_rfl) (by kernel_rfl) ?_)
  intro b59 w60 a61 hbb59 hx63 hg65 hf62
  have hm66 := hm56.box hbb59 hx63 hg65
  refine go 1 [] [0, 4] [(0, .slice A0 x0.length c0), (4, .pointer (some ⟨b59, 0, none⟩))] [] hf62 (by kernel_rfl) trivial fun a67 hf68 => ?_
  refine endL rfl ?_
  refine thenN ?_
  refine wp_seq ?_
  refine wp_seq ?_
  refine reg [] [4, 19, 20, 21] [(4, .pointer (some ⟨b59, 0, none⟩)), (19, .slice A0 x0.length c0), (20, .int .i64 (x0.length : Int)), (21, .int .i64 0)] [] hf68 (by kernel_rfl) trivial fun a69 hf70 => ?_
  refine thenN ?_
  have hm72 := hm66.nilOw kTensor 29
  have hm74 := hm72.nilOw kTensor 29
  obtain ⟨r84, hr84, H0⟩ := ob_split H0
  refine wpBlock (Mid := fun (a : Act) (w : World) => ∃ (A80 : Option Addr) (c81 : Nat) (A82 : Option Addr) (c83 : Nat), Fr 49 a [(4, .pointer (some ⟨b59, 0, none⟩)), (19, .slice A0 x0.length c0), (20, .int .i64 (x0.length : Int)), (21, .int .i64 r84.1)] ∧ Mem [] M w0 [.ow kTensor 29 A80 c81 r84.2.1, .ow kTensor 29 A82 c83 r84.2.2, .bx b59 [.slice A82 r84.2.2.length c83, .slice A48 ((List.replicate ((x0.length : Int)).toNat (0 : Int)).length) c49, .slice A80 r84.2.1.length c81] 72, .ow (Kd.int .i64) 3 A48 c49 (List.replicate ((x0.length : Int)).toNat (0 : Int)), .sl kTensor A0 c0 x0] w) ?_ ?_
  · refine wpLoop (shelf_New.l0 x0) r84 (fun (s79 : (Int × (List Tensor) × (List Tensor))) (a : Act) (w : World) => ∃ (A80 : Option Addr) (c81 : Nat) (A82 : Option Addr) (c83 : Nat), Fr 49 a [(4, .pointer (some ⟨b59, 0, none⟩)), (19, .slice A0 x0.length c0), (20, .int .i64 (x0.length : Int)), (21, .int .i64 s79.1)] ∧ Mem [] M w0 [.ow kTensor 29 A80 c81 s79.2.1, .ow kTensor 29 A82 c83 s79.2.2, .bx b59 [.slice A82 s79.2.2.length c83, .slice A48 ((List.replicate ((x0.length : Int)).toNat (0 : Int)).length) c49, .slice A80 s79.2.1.length c81] 72, .ow (Kd.int .i64) 3 A48 c49 (List.replicate ((x0.length : Int)).toNat (0 : Int)), .sl kTensor A0 c0 x0] w) (0, ([] : (List Tensor)), ([] : (List Tensor))) hr84 ⟨none, 0, none, 0, hf70.sel (l := [4, 19, 20, 21]) (by kernel_rfl), hm74.sel [0, 1, 2, 3, 4] _ rfl (by kernel_rfl)⟩ ?_
    rintro g85 s79 a86 w87 H1 ⟨A80, c81, A82, c83, hf88, hm89⟩
    unfold shelf_New.l0 at H1
    refine wp_seq ?_
    rcases ifS_split H1 with ⟨c90, H1⟩ | ⟨c90, H1⟩
    rotate_left
    · refine reg [.bool false] [4, 19, 20, 21, 22] [(4, .pointer (some ⟨b59, 0, none⟩)), (19, .slice A0 x0.length c0), (20, .int .i64 (x0.length : Int)), (21, .int .i64 s79.1), (22, .bool false)] [.is (decide (s79.1 < (x0.length : Int)) = false)] hf88 (by kernel_rfl) ⟨(decide_eq_false c90), trivial⟩ fun a1623 hf1624 => ?_
      refine thenN ?_
      refine wp_seq ?_
      refine condF hf1624 (by kernel_rfl) ?_
      refine wp_exit ?_
      refine thenE ?_
      refine thenE ?_
      obtain rfl := Option.some.inj H1
      exact .inl ⟨rfl, A80, c81, A82, c83, hf1624.sel (l := [4, 19, 20, 21]) (by kernel_rfl), hm89.sel [0, 1, 2, 3, 4] _ rfl (by kernel_rfl)⟩
    refine reg [.bool true] [4, 19, 20, 21, 22] [(4, .pointer (some ⟨b59, 0, none⟩)), (19, .slice A0 x0.length c0), (20, .int .i64 (x0.length : Int)), (21, .int .i64 s79.1), (22, .bool true)] [.is (decide (s79.1 < (x0.length : Int)) = true)] hf88 (by kernel_rfl) ⟨(decide_eq_true c90), trivial⟩ fun a91 hf92 => ?_
    refine thenN ?_
    refine wp_seq ?_
    refine condT hf92 (by kernel_rfl) ?_
    refine wp_skip ?_
    refine thenN ?_
    refine wp_seq ?_
    refine wp_block ?_
    refine wp_seq ?_
    obtain ⟨g93, H1⟩ := ifS_guard H1
    have q94 := (hm89.slAt 4 rfl).get s79.1 g93.1 g93.2
    obtain ⟨us95, hr96, hc97⟩ := q94.2
    obtain ⟨A98, c99, A100, c101, rfl, ⟨pA98, sA98⟩, ⟨pA100, sA100⟩⟩ := kTensor.open hr96
    have hm102 := hm89.elem pA98 sA98
    have hm103 := hm102.elem pA100 sA100
    refine inReg ?_
    refine go 2 [.agg #[.slice A98 (((rd x0 s79.1).Shape).length) c99, .slice A100 (((rd x0 s79.1).Data).length) c101]] [4, 19, 20, 21, 24] [(4, .pointer (some ⟨b59, 0, none⟩)), (19, .slice A0 x0.length c0), (20, .int .i64 (x0.length : Int)), (21, .int .i64 s79.1), (24, .agg #[.slice A98 (((rd x0 s79.1).Shape).length) c99, .slice A100 (((rd x0 s79.1).Data).length) c101])] [.is (Option.isSome A0 = true), .is (0 ≤ s79.1 ∧ s79.1 < (x0.length : Int)), .cell ((ad A0).add ((s79.1).toNat * 2)) (.slice A98 (((rd x0 s79.1).Shape).length) c99), .cell (((ad A0).add ((s79.1).toNat * 2)).add 1) (.slice A100 (((rd x0 s79.1).Data).length) c101)] hf92 (by kernel_rfl) ⟨q94.1, g93, (hc97 0 _ rfl), (hc97 1 _ rfl), trivial⟩ fun a104 hf105 => ?_
    refine listOf hf105 rfl (by kernel_rfl) (aNew (cs := [.slice none 0 0, .slice none 0 0]) (T := 29) (d := 6) hf105 (by kernel_rfl) (by kernel_rfl) ?_)
    intro b106 w107 a108 hbb106 hx110 hg111 hf109
    have hm112 := hm103.box hbb106 hx110 hg111
    refine listOf hf109 rfl (by kernel_rfl) (aStoreB (b := b106) (j := 0) (T := 29) (cs := [.slice none 0 0, .slice none 0 0]) (us := [.slice A98 (((rd x0 s79.1).Shape).length) c99, .slice A100 (((rd x0 s79.1).Data).length) c101]) (cs' := [.slice A98 (((rd x0 s79.1).Shape).length) c99, .slice A100 (((rd x0 s79.1).Data).length) c101]) hf109 (by kernel_rfl) (hm112.bxAt 0 rfl) (by kernel_rfl) (by kernel_rfl) (by kernel_rfl) ?_)
    intro w113 hx114 hg115
    have hm116 := hm112.setBox 0 _ rfl rfl hx114 hg115
    refine endL rfl ?_
    refine thenN ?_
    obtain ⟨r117, hr117, H1⟩ := obS_split H1
    obtain ⟨g118, H1⟩ := ifS_guard H1
    obtain ⟨r119, hr119, H1⟩ := obS_split H1
    obtain ⟨g120, H1⟩ := ifS_guard H1
    refine midReg (fun (a : Act) (w : World) => ∃ (A168 : Option Addr) (c169 : Nat) (A139 : Option Addr) (c140 : Nat), Fr 49 a [(4, .pointer (some ⟨b59, 0, none⟩)), (19, .slice A0 x0.length c0), (20, .int .i64 (x0.length : Int)), (21, .int .i64 s79.1)] ∧ Mem [] M w0 [.ow kTensor 29 A168 c169 (s79.2.1 ++ ([r119] : List Tensor)), .ow kTensor 29 A139 c140 (s79.2.2 ++ ([r117] : List Tensor)), .bx b59 [.slice A139 ((s79.2.2 ++ ([r117] : List Tensor)).length) c140, .slice A48 ((List.replicate ((x0.length : Int)).toNat (0 : Int)).length) c49, .slice A168 ((s79.2.1 ++ ([r119] : List Tensor)).length) c169] 72, .ow (Kd.int .i64) 3 A48 c49 (List.replicate ((x0.length : Int)).toNat (0 : Int)), .sl kTensor A0 c0 x0] w) ?_ ?_
    · refine anyG [9, 17, 20, 23] (by kernel_rfl) fun w188 hg189 => ?_
      have hm190 := hm116.still hg189
      refine memoStep (R := fun (a : Act) (w : World) => ∃ (A193 : Option Addr) (c194 : Nat) (A195 : Option Addr) (c196 : Nat) (b204 : Nat) (A211 : Option Addr) (c212 : Nat) (A312 : Option Addr) (c313 : Nat) (A314 : Option Addr) (c315 : Nat), Fr 49 a [(4, .pointer (some ⟨b59, 0, none⟩)), (6, .pointer (some ⟨b106, 0, none⟩)), (19, .slice A0 x0.length c0), (20, .int .i64 (x0.length : Int)), (21, .int .i64 s79.1), (25, .pointer (some ⟨b59, 0, none⟩)), (26, .pointer (some ⟨b59, 0, none⟩)), (31, .agg #[.slice A98 (((rd x0 s79.1).Shape).length) c99, .slice A100 (((rd x0 s79.1).Data).length) c101]), (32, .agg #[.slice A193 r117.Shape.length c194, .slice A195 r117.Data.length c196]), (33, .slice (some ⟨b204, 0, none⟩) 1 1), (34, .slice A211 ((s79.2.2 ++ ([r117] : List Tensor)).length) c212), (37, .pointer (some ⟨b59, 2, none⟩)), (39, .agg #[.slice A98 (((rd x0 s79.1).Shape).length) c99, .slice A100 (((rd x0 s79.1).Data).length) c101]), (40, .agg #[.slice A312 r119.Shape.length c313, .slice A314 r119.Data.length c315])] ∧ Mem [] M w0 [.sl (Kd.int .i64) A312 c313 r119.Shape, .sl Kd.float A314 c315 r119.Data, .sl kTensor (some ⟨b204, 0, none⟩) 1 ([r117] : List Tensor), .sl (Kd.int .i64) A193 c194 r117.Shape, .sl Kd.float A195 c196 r117.Data, .bx b106 [.slice A98 (((rd x0 s79.1).Shape).length) c99, .slice A100 (((rd x0 s79.1).Data).length) c101] 29, .sl Kd.float A100 c101 ((rd x0 s79.1).Data), .sl (Kd.int .i64) A98 c99 ((rd x0 s79.1).Shape), .ow kTensor 29 A80 c81 s79.2.1, .ow kTensor 29 A211 c212 (s79.2.2 ++ ([r117] : List Tensor)), .bx b59 [.slice A82 s79.2.2.length c83, .slice A48 ((List.replicate ((x0.length : Int)).toNat (0 : Int)).length) c49, .slice A80 s79.2.1.length c81] 72, .ow (Kd.int .i64) 3 A48 c49 (List.replicate ((x0.length : Int)).toNat (0 : Int)), .sl kTensor A0 c0 x0] w) #[true, true, true, true, true, true, true, true, true, true, true, true, true, false, true, true, false, false, false, false, false, false, false, false] 9 ?_ fun L874 => ?_
      · rintro a875 w876 ⟨A193, c194, A195, c196, b204, A211, c212, A312, c313, A314, c315, hf877, hm878⟩
        refine all2 13 16 (by kernel_rfl) ?_ ?_
        · refine opOf hf877 rfl (by kernel_rfl) (aOne [.slice A80 s79.2.1.length c81] (.slice A80 s79.2.1.length c81) [.cell ⟨b59, 2, none⟩ (.slice A80 s79.2.1.length c81)] 38 hf877 (by kernel_rfl) rfl (by kernel_rfl) ⟨(hm878.cell 10 rfl rfl), trivial⟩ fun a879 hf880 => ?_)
          refine ⟨.inr (Gr.refl _ _), ?_⟩
          refine all1 16 (by kernel_rfl) ?_
          refine opOf hf880 rfl (by kernel_rfl) (aLit (cs := [.slice A312 r119.Shape.length c313, .slice A314 r119.Data.length c315]) (E := 29) (len := 1) (d := 41) hf880 (by kernel_rfl) (by kernel_rfl) ?_)
          intro b881 w882 a883 hbb881 hx885 hg886 hf884
          refine ⟨.inr (Gr.still hg886), ?_⟩
          have hm878s := hm878.still hg886
          have hm887 := Mem.lit (kd := kTensor) (xs := ([r119] : List Tensor)) hm878 hbb881 hx885 hg886 (Els.one (kd := kTensor) (us := [.slice A312 r119.Shape.length c313, .slice A314 r119.Data.length c315]) (x := r119) (kTensor.mk r119 ⟨hm878s.cpAt 0 rfl, (hm878s.slAt 0 rfl)⟩ ⟨hm878s.cpAt 1 rfl, (hm878s.slAt 1 rfl)⟩))
          refine all1 17 (by kernel_rfl) ?_
          have e896 : s79.2.1.length = s79.2.1.length := rfl
          have e897 : 1 = ([r119] : List Tensor).length := rfl
          refine opOf hf884 rfl (by kernel_rfl) (aApp (kd := kTensor) (base := 0) (E := 29) (A := A80) (B := (some ⟨b881, 0, none⟩)) (c := c81) (c2 := 1) (xs := s79.2.1) (ys := ([r119] : List Tensor)) (k := s79.2.1.length) (m := 1) (sz := 2) (d := 42) hf884 (by kernel_rfl) e896 e897 (by kernel_rfl) rfl (by kernel_rfl) (hm887.at 9 rfl) (hm887.at2 9 0 rfl rfl).2 (hm887.cpAt 0 rfl) (Nat.zero_le _) (by have := g120; omega) ?_)
          intro A888 c889 w890 a891 ho893 hg894 hr895 hf892
          refine ⟨.inl (by decide), ?_⟩
          have hm898 := hm887.setOwn 9 _ rfl rfl ho893 hg894 hr895
          refine quiet0 [18, 19] [] [4, 19, 20, 21, 26, 34, 42, 44] #[true, true, true, true, true, true, true, true, true, true, true, true, true, true, true, true, true, true, true, true, false, false, false, false] [(4, .pointer (some ⟨b59, 0, none⟩)), (19, .slice A0 x0.length c0), (20, .int .i64 (x0.length : Int)), (21, .int .i64 s79.1), (26, .pointer (some ⟨b59, 0, none⟩)), (34, .slice A211 ((s79.2.2 ++ ([r117] : List Tensor)).length) c212), (42, .slice A888 ((s79.2.1 ++ ([r119] : List Tensor)).length) c889), (44, .pointer (some ⟨b59, 0, none⟩))] [] 4 rfl (by kernel_rfl) (fun _ _ _ _ _ h => nomatch h.1) hf892 (by kernel_rfl) trivial fun a899 hf900 => ?_
          refine all1 20 (by kernel_rfl) ?_
          refine opOf hf900 rfl (by kernel_rfl) (aStoreB (b := b59) (j := 0) (T := 72) (cs := [.slice A82 s79.2.2.length c83, .slice A48 ((List.replicate ((x0.length : Int)).toNat (0 : Int)).length) c49, .slice A80 s79.2.1.length c81]) (us := [.slice A211 ((s79.2.2 ++ ([r117] : List Tensor)).length) c212]) (cs' := [.slice A211 ((s79.2.2 ++ ([r117] : List Tensor)).length) c212, .slice A48 ((List.replicate ((x0.length : Int)).toNat (0 : Int)).length) c49, .slice A80 s79.2.1.length c81]) hf900 (by kernel_rfl) (hm898.bxAt 11 rfl) (by kernel_rfl) (by kernel_rfl) (by kernel_rfl) ?_)
          intro w901 hx902 hg903
          refine ⟨.inl (by decide), ?_⟩
          have hm904 := hm898.setBox 11 _ rfl rfl hx902 hg903
          refine quiet0 [21, 22] [] [4, 19, 20, 21, 42, 46] #[true, true, true, true, true, true, true, true, true, true, true, true, true, true, true, true, true, true, true, true, true, true, true, false] [(4, .pointer (some ⟨b59, 0, none⟩)), (19, .slice A0 x0.length c0), (20, .int .i64 (x0.length : Int)), (21, .int .i64 s79.1), (42, .slice A888 ((s79.2.1 ++ ([r119] : List Tensor)).length) c889), (46, .pointer (some ⟨b59, 2, none⟩))] [] 1 rfl (by kernel_rfl) (fun _ _ _ _ _ h => nomatch h.1) hf900 (by kernel_rfl) trivial fun a905 hf906 => ?_
          refine all1 23 (by kernel_rfl) ?_
          refine opOf hf906 rfl (by kernel_rfl) (aStoreB (b := b59) (j := 2) (T := 72) (cs := [.slice A211 ((s79.2.2 ++ ([r117] : List Tensor)).length) c212, .slice A48 ((List.replicate ((x0.length : Int)).toNat (0 : Int)).length) c49, .slice A80 s79.2.1.length c81]) (us := [.slice A888 ((s79.2.1 ++ ([r119] : List Tensor)).length) c889]) (cs' := [.slice A211 ((s79.2.2 ++ ([r117] : List Tensor)).length) c212, .slice A48 ((List.replicate ((x0.length : Int)).toNat (0 : Int)).length) c49, .slice A888 ((s79.2.1 ++ ([r119] : List Tensor)).length) c889]) hf906 (by kernel_rfl) (hm904.bxAt 11 rfl) (by kernel_rfl) (by kernel_rfl) (by kernel_rfl) ?_)
          intro w907 hx908 hg909
          refine ⟨.inl (by decide), ?_⟩
          have hm910 := hm904.setBox 11 _ rfl rfl hx908 hg909
          refine allDone (by kernel_rfl) ⟨rfl, A888, c889, A211, c212, hf906.sel (l := [4, 19, 20, 21]) (by kernel_rfl), hm910.sel [9, 10, 11, 12, 13] _ rfl (by kernel_rfl)⟩
        · refine opOf hf877 rfl (by kernel_rfl) (aLit (cs := [.slice A312 r119.Shape.length c313, .slice A314 r119.Data.length c315]) (E := 29) (len := 1) (d := 41) hf877 (by kernel_rfl) (by kernel_rfl) ?_)
          intro b911 w912 a913 hbb911 hx915 hg916 hf914
          refine ⟨.inr (Gr.still hg916), ?_⟩
          have hm878s := hm878.still hg916
          have hm917 := Mem.lit (kd := kTensor) (xs := ([r119] : List Tensor)) hm878 hbb911 hx915 hg916 (Els.one (kd := kTensor) (us := [.slice A312 r119.Shape.length c313, .slice A314 r119.Data.length c315]) (x := r119) (kTensor.mk r119 ⟨hm878s.cpAt 0 rfl, (hm878s.slAt 0 rfl)⟩ ⟨hm878s.cpAt 1 rfl, (hm878s.slAt 1 rfl)⟩))
          refine all1 13 (by kernel_rfl) ?_
          refine opOf hf914 rfl (by kernel_rfl) (aOne [.slice A80 s79.2.1.length c81] (.slice A80 s79.2.1.length c81) [.cell ⟨b59, 2, none⟩ (.slice A80 s79.2.1.length c81)] 38 hf914 (by kernel_rfl) rfl (by kernel_rfl) ⟨(hm917.cell 11 rfl rfl), trivial⟩ fun a918 hf919 => ?_)
          refine ⟨.inr (Gr.refl _ _), ?_⟩
          refine all1 17 (by kernel_rfl) ?_
          have e928 : s79.2.1.length = s79.2.1.length := rfl
          have e929 : 1 = ([r119] : List Tensor).length := rfl
          refine opOf hf919 rfl (by kernel_rfl) (aApp (kd := kTensor) (base := 0) (E := 29) (A := A80) (B := (some ⟨b911, 0, none⟩)) (c := c81) (c2 := 1) (xs := s79.2.1) (ys := ([r119] : List Tensor)) (k := s79.2.1.length) (m := 1) (sz := 2) (d := 42) hf919 (by kernel_rfl) e928 e929 (by kernel_rfl) rfl (by kernel_rfl) (hm917.at 9 rfl) (hm917.at2 9 0 rfl rfl).2 (hm917.cpAt 0 rfl) (Nat.zero_le _) (by have := g120; omega) ?_)
          intro A920 c921 w922 a923 ho925 hg926 hr927 hf924
          refine ⟨.inl (by decide), ?_⟩
          have hm930 := hm917.setOwn 9 _ rfl rfl ho925 hg926 hr927
          refine quiet0 [18, 19] [] [4, 19, 20, 21, 26, 34, 42, 44] #[true, true, true, true, true, true, true, true, true, true, true, true, true, true, true, true, true, true, true, true, false, false, false, false] [(4, .pointer (some ⟨b59, 0, none⟩)), (19, .slice A0 x0.length c0), (20, .int .i64 (x0.length : Int)), (21, .int .i64 s79.1), (26, .pointer (some ⟨b59, 0, none⟩)), (34, .slice A211 ((s79.2.2 ++ ([r117] : List Tensor)).length) c212), (42, .slice A920 ((s79.2.1 ++ ([r119] : List Tensor)).length) c921), (44, .pointer (some ⟨b59, 0, none⟩))] [] 4 rfl (by kernel_rfl) (fun _ _ _ _ _ h => nomatch h.1) hf924 (by kernel_rfl) trivial fun a931 hf932 => ?_
          refine all1 20 (by kernel_rfl) ?_
          refine opOf hf932 rfl (by kernel_rfl) (aStoreB (b := b59) (j := 0) (T := 72) (cs := [.slice A82 s79.2.2.length c83, .slice A48 ((List.replicate ((x0.length : Int)).toNat (0 : Int)).length) c49, .slice A80 s79.2.1.length c81]) (us := [.slice A211 ((s79.2.2 ++ ([r117] : List Tensor)).length) c212]) (cs' := [.slice A211 ((s79.2.2 ++ ([r117] : List Tensor)).length) c212, .slice A48 ((List.replicate ((x0.length : Int)).toNat (0 : Int)).length) c49, .slice A80 s79.2.1.length c81]) hf932 (by kernel_rfl) (hm930.bxAt 11 rfl) (by kernel_rfl) (by kernel_rfl) (by kernel_rfl) ?_)
          intro w933 hx934 hg935
          refine ⟨.inl (by decide), ?_⟩
          have hm936 := hm930.setBox 11 _ rfl rfl hx934 hg935
          refine quiet0 [21, 22] [] [4, 19, 20, 21, 42, 46] #[true, true, true, true, true, true, true, true, true, true, true, true, true, true, true, true, true, true, true, true, true, true, true, false] [(4, .pointer (some ⟨b59, 0, none⟩)), (19, .slice A0 x0.length c0), (20, .int .i64 (x0.length : Int)), (21, .int .i64 s79.1), (42, .slice A920 ((s79.2.1 ++ ([r119] : List Tensor)).length) c921), (46, .pointer (some ⟨b59, 2, none⟩))] [] 1 rfl (by kernel_rfl) (fun _ _ _ _ _ h => nomatch h.1) hf932 (by kernel_rfl) trivial fun a937 hf938 => ?_
          refine all1 23 (by kernel_rfl) ?_
          refine opOf hf938 rfl (by kernel_rfl) (aStoreB (b := b59) (j := 2) (T := 72) (cs := [.slice A211 ((s79.2.2 ++ ([r117] : List Tensor)).length) c212, .slice A48 ((List.replicate ((x0.length : Int)).toNat (0 : Int)).length) c49, .slice A80 s79.2.1.length c81]) (us := [.slice A920 ((s79.2.1 ++ ([r119] : List Tensor)).length) c921]) (cs' := [.slice A211 ((s79.2.2 ++ ([r117] : List Tensor)).length) c212, .slice A48 ((List.replicate ((x0.length : Int)).toNat (0 : Int)).length) c49, .slice A920 ((s79.2.1 ++ ([r119] : List Tensor)).length) c921]) hf938 (by kernel_rfl) (hm936.bxAt 11 rfl) (by kernel_rfl) (by kernel_rfl) (by kernel_rfl) ?_)
          intro w939 hx940 hg941
          refine ⟨.inl (by decide), ?_⟩
          have hm942 := hm936.setBox 11 _ rfl rfl hx940 hg941
          refine allDone (by kernel_rfl) ⟨rfl, A920, c921, A211, c212, hf938.sel (l := [4, 19, 20, 21]) (by kernel_rfl), hm942.sel [9, 10, 11, 12, 13] _ rfl (by kernel_rfl)⟩
      refine memoStep (R := fun (a : Act) (w : World) => ∃ (A193 : Option Addr) (c194 : Nat) (A195 : Option Addr) (c196 : Nat) (b204 : Nat) (A211 : Option Addr) (c212 : Nat), Fr 49 a [(4, .pointer (some ⟨b59, 0, none⟩)), (6, .pointer (some ⟨b106, 0, none⟩)), (19, .slice A0 x0.length c0), (20, .int .i64 (x0.length : Int)), (21, .int .i64 s79.1), (25, .pointer (some ⟨b59, 0, none⟩)), (26, .pointer (some ⟨b59, 0, none⟩)), (31, .agg #[.slice A98 (((rd x0 s79.1).Shape).length) c99, .slice A100 (((rd x0 s79.1).Data).length) c101]), (32, .agg #[.slice A193 r117.Shape.length c194, .slice A195 r117.Data.length c196]), (33, .slice (some ⟨b204, 0, none⟩) 1 1), (34, .slice A211 ((s79.2.2 ++ ([r117] : List Tensor)).length) c212), (37, .pointer (some ⟨b59, 2, none⟩)), (39, .agg #[.slice A98 (((rd x0 s79.1).Shape).length) c99, .slice A100 (((rd x0 s79.1).Data).length) c101])] ∧ Mem [] M w0 [.sl kTensor (some ⟨b204, 0, none⟩) 1 ([r117] : List Tensor), .sl (Kd.int .i64) A193 c194 r117.Shape, .sl Kd.float A195 c196 r117.Data, .bx b106 [.slice A98 (((rd x0 s79.1).Shape).length) c99, .slice A100 (((rd x0 s79.1).Data).length) c101] 29, .sl Kd.float A100 c101 ((rd x0 s79.1).Data), .sl (Kd.int .i64) A98 c99 ((rd x0 s79.1).Shape), .ow kTensor 29 A80 c81 s79.2.1, .ow kTensor 29 A211 c212 (s79.2.2 ++ ([r117] : List Tensor)), .bx b59 [.slice A82 s79.2.2.length c83, .slice A48 ((List.replicate ((x0.length : Int)).toNat (0 : Int)).length) c49, .slice A80 s79.2.1.length c81] 72, .ow (Kd.int .i64) 3 A48 c49 (List.replicate ((x0.length : Int)).toNat (0 : Int)), .sl kTensor A0 c0 x0] w) #[true, true, true, true, true, true, true, true, true, true, true, true, true, false, true, false, false, false, false, false, false, false, false, false] 10 ?_ fun L943 => ?_
      · rintro a944 w945 ⟨A193, c194, A195, c196, b204, A211, c212, hf946, hm947⟩
        refine all2 13 15 (by kernel_rfl) ?_ ?_
        · refine opOf hf946 rfl (by kernel_rfl) (aOne [.slice A80 s79.2.1.length c81] (.slice A80 s79.2.1.length c81) [.cell ⟨b59, 2, none⟩ (.slice A80 s79.2.1.length c81)] 38 hf946 (by kernel_rfl) rfl (by kernel_rfl) ⟨(hm947.cell 8 rfl rfl), trivial⟩ fun a948 hf949 => ?_)
          refine ⟨.inr (Gr.refl _ _), ?_⟩
          refine all1 15 (by kernel_rfl) ?_
          refine opOf hf949 rfl (by kernel_rfl) (aCall (fid := 34) (args := [.agg #[.slice A98 (((rd x0 s79.1).Shape).length) c99, .slice A100 (((rd x0 s79.1).Data).length) c101]]) (d := 40) hf949 (by kernel_rfl) (by kernel_rfl) callable34 (shelf_noughts.calls _ _ (⟨((rd x0 s79.1).Shape), ((rd x0 s79.1).Data)⟩ : Tensor) A98 (((rd x0 s79.1).Shape).length) c99 rfl A100 (((rd x0 s79.1).Data).length) c101 rfl (hm947.give [5, 4] [.sl (Kd.int .i64) A98 c99 ((rd x0 s79.1).Shape), .sl Kd.float A100 c101 ((rd x0 s79.1).Data)] rfl rfl) r119 hr119) ?_)
          rintro _ w954 a955 ⟨A950, c951, A952, c953, rfl, hk957⟩ hf956
          refine ⟨.inr (Gr.still hk957.cum.none), ?_⟩
          have hm958 := hm947.back hk957
          have hm959 := hm958.seal 0 _ rfl rfl
          have hm960 := hm959.seal 1 _ rfl rfl
          refine all1 16 (by kernel_rfl) ?_
          refine opOf hf956 rfl (by kernel_rfl) (aLit (cs := [.slice A950 r119.Shape.length c951, .slice A952 r119.Data.length c953]) (E := 29) (len := 1) (d := 41) hf956 (by kernel_rfl) (by kernel_rfl) ?_)
          intro b961 w962 a963 hbb961 hx965 hg966 hf964
          refine ⟨.inr (Gr.still hg966), ?_⟩
          have hm960s := hm960.still hg966
          have hm967 := Mem.lit (kd := kTensor) (xs := ([r119] : List Tensor)) hm960 hbb961 hx965 hg966 (Els.one (kd := kTensor) (us := [.slice A950 r119.Shape.length c951, .slice A952 r119.Data.length c953]) (x := r119) (kTensor.mk r119 ⟨hm960s.cpAt 0 rfl, (hm960s.slAt 0 rfl)⟩ ⟨hm960s.cpAt 1 rfl, (hm960s.slAt 1 rfl)⟩))
          refine all1 17 (by kernel_rfl) ?_
          have e976 : s79.2.1.length = s79.2.1.length := rfl
          have e977 : 1 = ([r119] : List Tensor).length := rfl
          refine opOf hf964 rfl (by kernel_rfl) (aApp (kd := kTensor) (base := 0) (E := 29) (A := A80) (B := (some ⟨b961, 0, none⟩)) (c := c81) (c2 := 1) (xs := s79.2.1) (ys := ([r119] : List Tensor)) (k := s79.2.1.length) (m := 1) (sz := 2) (d := 42) hf964 (by kernel_rfl) e976 e977 (by kernel_rfl) rfl (by kernel_rfl) (hm967.at 9 rfl) (hm967.at2 9 0 rfl rfl).2 (hm967.cpAt 0 rfl) (Nat.zero_le _) (by have := g120; omega) ?_)
          intro A968 c969 w970 a971 ho973 hg974 hr975 hf972
          refine ⟨.inl (by decide), ?_⟩
          have hm978 := hm967.setOwn 9 _ rfl rfl ho973 hg974 hr975
          refine quiet0 [18, 19] [] [4, 19, 20, 21, 26, 34, 42, 44] #[true, true, true, true, true, true, true, true, true, true, true, true, true, true, true, true, true, true, true, true, false, false, false, false] [(4, .pointer (some ⟨b59, 0, none⟩)), (19, .slice A0 x0.length c0), (20, .int .i64 (x0.length : Int)), (21, .int .i64 s79.1), (26, .pointer (some ⟨b59, 0, none⟩)), (34, .slice A211 ((s79.2.2 ++ ([r117] : List Tensor)).length) c212), (42, .slice A968 ((s79.2.1 ++ ([r119] : List Tensor)).length) c969), (44, .pointer (some ⟨b59, 0, none⟩))] [] 4 rfl (by kernel_rfl) (fun _ _ _ _ _ h => nomatch h.1) hf972 (by kernel_rfl) trivial fun a979 hf980 => ?_
          refine all1 20 (by kernel_rfl) ?_
          refine opOf hf980 rfl (by kernel_rfl) (aStoreB (b := b59) (j := 0) (T := 72) (cs := [.slice A82 s79.2.2.length c83, .slice A48 ((List.replicate ((x0.length : Int)).toNat (0 : Int)).length) c49, .slice A80 s79.2.1.length c81]) (us := [.slice A211 ((s79.2.2 ++ ([r117] : List Tensor)).length) c212]) (cs' := [.slice A211 ((s79.2.2 ++ ([r117] : List Tensor)).length) c212, .slice A48 ((List.replicate ((x0.length : Int)).toNat (0 : Int)).length) c49, .slice A80 s79.2.1.length c81]) hf980 (by kernel_rfl) (hm978.bxAt 11 rfl) (by kernel_rfl) (by kernel_rfl) (by kernel_rfl) ?_)
          intro w981 hx982 hg983
          refine ⟨.inl (by decide), ?_⟩
          have hm984 := hm978.setBox 11 _ rfl rfl hx982 hg983
          refine quiet0 [21, 22] [] [4, 19, 20, 21, 42, 46] #[true, true, true, true, true, true, true, true, true, true, true, true, true, true, true, true, true, true, true, true, true, true, true, false] [(4, .pointer (some ⟨b59, 0, none⟩)), (19, .slice A0 x0.length c0), (20, .int .i64 (x0.length : Int)), (21, .int .i64 s79.1), (42, .slice A968 ((s79.2.1 ++ ([r119] : List Tensor)).length) c969), (46, .pointer (some ⟨b59, 2, none⟩))] [] 1 rfl (by kernel_rfl) (fun _ _ _ _ _ h => nomatch h.1) hf980 (by kernel_rfl) trivial fun a985 hf986 => ?_
          refine all1 23 (by kernel_rfl) ?_
          refine opOf hf986 rfl (by kernel_rfl) (aStoreB (b := b59) (j := 2) (T := 72) (cs := [.slice A211 ((s79.2.2 ++ ([r117] : List Tensor)).length) c212, .slice A48 ((List.replicate ((x0.length : Int)).toNat (0 : Int)).length) c49, .slice A80 s79.2.1.length c81]) (us := [.slice A968 ((s79.2.1 ++ ([r119] : List Tensor)).length) c969]) (cs' := [.slice A211 ((s79.2.2 ++ ([r117] : List Tensor)).length) c212, .slice A48 ((List.replicate ((x0.length : Int)).toNat (0 : Int)).length) c49, .slice A968 ((s79.2.1 ++ ([r119] : List Tensor)).length) c969]) hf986 (by kernel_rfl) (hm984.bxAt 11 rfl) (by kernel_rfl) (by kernel_rfl) (by kernel_rfl) ?_)
          intro w987 hx988 hg989
          refine ⟨.inl (by decide), ?_⟩
          have hm990 := hm984.setBox 11 _ rfl rfl hx988 hg989
          refine allDone (by kernel_rfl) ⟨rfl, A968, c969, A211, c212, hf986.sel (l := [4, 19, 20, 21]) (by kernel_rfl), hm990.sel [9, 10, 11, 12, 13] _ rfl (by kernel_rfl)⟩
        · refine opOf hf946 rfl (by kernel_rfl) (aCall (fid := 34) (args := [.agg #[.slice A98 (((rd x0 s79.1).Shape).length) c99, .slice A100 (((rd x0 s79.1).Data).length) c101]]) (d := 40) hf946 (by kernel_rfl) (by kernel_rfl) callable34 (shelf_noughts.calls _ _ (⟨((rd x0 s79.1).Shape), ((rd x0 s79.1).Data)⟩ : Tensor) A98 (((rd x0 s79.1).Shape).length) c99 rfl A100 (((rd x0 s79.1).Data).length) c101 rfl (hm947.give [5, 4] [.sl (Kd.int .i64) A98 c99 ((rd x0 s79.1).Shape), .sl Kd.float A100 c101 ((rd x0 s79.1).Data)] rfl rfl) r119 hr119) ?_)
          rintro _ w995 a996 ⟨A991, c992, A993, c994, rfl, hk998⟩ hf997
          refine ⟨.inr (Gr.still hk998.cum.none), ?_⟩
          have hm999 := hm947.back hk998
          have hm1000 := hm999.seal 0 _ rfl rfl
          have hm1001 := hm1000.seal 1 _ rfl rfl
          exact L874 _ _ ⟨A193, c194, A195, c196, b204, A211, c212, A991, c992, A993, c994, hf997.sel (l := [4, 6, 19, 20, 21, 25, 26, 31, 32, 33, 34, 37, 39, 40]) (by kernel_rfl), hm1001.sel [0, 1, 2, 3, 4, 5, 6, 7, 8, 9, 10, 11, 12] _ rfl (by kernel_rfl)⟩
      refine memoStep (R := fun (a : Act) (w : World) => ∃ (A193 : Option Addr) (c194 : Nat) (A195 : Option Addr) (c196 : Nat) (b204 : Nat) (A211 : Option Addr) (c212 : Nat), Fr 49 a [(4, .pointer (some ⟨b59, 0, none⟩)), (6, .pointer (some ⟨b106, 0, none⟩)), (19, .slice A0 x0.length c0), (20, .int .i64 (x0.length : Int)), (21, .int .i64 s79.1), (25, .pointer (some ⟨b59, 0, none⟩)), (26, .pointer (some ⟨b59, 0, none⟩)), (31, .agg #[.slice A98 (((rd x0 s79.1).Shape).length) c99, .slice A100 (((rd x0 s79.1).Data).length) c101]), (32, .agg #[.slice A193 r117.Shape.length c194, .slice A195 r117.Data.length c196]), (33, .slice (some ⟨b204, 0, none⟩) 1 1), (34, .slice A211 ((s79.2.2 ++ ([r117] : List Tensor)).length) c212), (37, .pointer (some ⟨b59, 2, none⟩))] ∧ Mem [] M w0 [.sl kTensor (some ⟨b204, 0, none⟩) 1 ([r117] : List Tensor), .sl (Kd.int .i64) A193 c194 r117.Shape, .sl Kd.float A195 c196 r117.Data, .bx b106 [.slice A98 (((rd x0 s79.1).Shape).length) c99, .slice A100 (((rd x0 s79.1).Data).length) c101] 29, .sl Kd.float A100 c101 ((rd x0 s79.1).Data), .sl (Kd.int .i64) A98 c99 ((rd x0 s79.1).Shape), .ow kTensor 29 A80 c81 s79.2.1, .ow kTensor 29 A211 c212 (s79.2.2 ++ ([r117] : List Tensor)), .bx b59 [.slice A82 s79.2.2.length c83, .slice A48 ((List.replicate ((x0.length : Int)).toNat (0 : Int)).length) c49, .slice A80 s79.2.1.length c81] 72, .ow (Kd.int .i64) 3 A48 c49 (List.replicate ((x0.length : Int)).toNat (0 : Int)), .sl kTensor A0 c0 x0] w) #[true, true, true, true, true, true, true, true, true, true, true, true, true, false, false, false, false, false, false, false, false, false, false, false] 11 ?_ fun L1002 => ?_
      · rintro a1003 w1004 ⟨A193, c194, A195, c196, b204, A211, c212, hf1005, hm1006⟩
        refine all2 13 14 (by kernel_rfl) ?_ ?_
        · refine opOf hf1005 rfl (by kernel_rfl) (aOne [.slice A80 s79.2.1.length c81] (.slice A80 s79.2.1.length c81) [.cell ⟨b59, 2, none⟩ (.slice A80 s79.2.1.length c81)] 38 hf1005 (by kernel_rfl) rfl (by kernel_rfl) ⟨(hm1006.cell 8 rfl rfl), trivial⟩ fun a1007 hf1008 => ?_)
          refine ⟨.inr (Gr.refl _ _), ?_⟩
          refine all1 14 (by kernel_rfl) ?_
          refine opOf hf1008 rfl (by kernel_rfl) (aOne [.agg #[.slice A98 (((rd x0 s79.1).Shape).length) c99, .slice A100 (((rd x0 s79.1).Data).length) c101]] (.agg #[.slice A98 (((rd x0 s79.1).Shape).length) c99, .slice A100 (((rd x0 s79.1).Data).length) c101]) [.cell ⟨b106, 0, none⟩ (.slice A98 (((rd x0 s79.1).Shape).length) c99), .cell ⟨b106, 1, none⟩ (.slice A100 (((rd x0 s79.1).Data).length) c101)] 39 hf1008 (by kernel_rfl) rfl (by kernel_rfl) ⟨(hm1006.cell 3 rfl rfl), (hm1006.cell 3 rfl rfl), trivial⟩ fun a1009 hf1010 => ?_)
          refine ⟨.inr (Gr.refl _ _), ?_⟩
          refine all1 15 (by kernel_rfl) ?_
          refine opOf hf1010 rfl (by kernel_rfl) (aCall (fid := 34) (args := [.agg #[.slice A98 (((rd x0 s79.1).Shape).length) c99, .slice A100 (((rd x0 s79.1).Data).length) c101]]) (d := 40) hf1010 (by kernel_rfl) (by kernel_rfl) callable34 (shelf_noughts.calls _ _ (⟨((rd x0 s79.1).Shape), ((rd x0 s79.1).Data)⟩ : Tensor) A98 (((rd x0 s79.1).Shape).length) c99 rfl A100 (((rd x0 s79.1).Data).length) c101 rfl (hm1006.give [5, 4] [.sl (Kd.int .i64) A98 c99 ((rd x0 s79.1).Shape), .sl Kd.float A100 c101 ((rd x0 s79.1).Data)] rfl rfl) r119 hr119) ?_)
          rintro _ w1015 a1016 ⟨A1011, c1012, A1013, c1014, rfl, hk1018⟩ hf1017
          refine ⟨.inr (Gr.still hk1018.cum.none), ?_⟩
          have hm1019 := hm1006.back hk1018
          have hm1020 := hm1019.seal 0 _ rfl rfl
          have hm1021 := hm1020.seal 1 _ rfl rfl
          refine all1 16 (by kernel_rfl) ?_
          refine opOf hf1017 rfl (by kernel_rfl) (aLit (cs := [.slice A1011 r119.Shape.length c1012, .slice A1013 r119.Data.length c1014]) (E := 29) (len := 1) (d := 41) hf1017 (by kernel_rfl) (by kernel_rfl) ?_)
          intro b1022 w1023 a1024 hbb1022 hx1026 hg1027 hf1025
          refine ⟨.inr (Gr.still hg1027), ?_⟩
          have hm1021s := hm1021.still hg1027
          have hm1028 := Mem.lit (kd := kTensor) (xs := ([r119] : List Tensor)) hm1021 hbb1022 hx1026 hg1027 (Els.one (kd := kTensor) (us := [.slice A1011 r119.Shape.length c1012, .slice A1013 r119.Data.length c1014]) (x := r119) (kTensor.mk r119 ⟨hm1021s.cpAt 0 rfl, (hm1021s.slAt 0 rfl)⟩ ⟨hm1021s.cpAt 1 rfl, (hm1021s.slAt 1 rfl)⟩))
          refine all1 17 (by kernel_rfl) ?_
          have e1037 : s79.2.1.length = s79.2.1.length := rfl
          have e1038 : 1 = ([r119] : List Tensor).length := rfl
          refine opOf hf1025 rfl (by kernel_rfl) (aApp (kd := kTensor) (base := 0) (E := 29) (A := A80) (B := (some ⟨b1022, 0, none⟩)) (c := c81) (c2 := 1) (xs := s79.2.1) (ys := ([r119] : List Tensor)) (k := s79.2.1.length) (m := 1) (sz := 2) (d := 42) hf1025 (by kernel_rfl) e1037 e1038 (by kernel_rfl) rfl (by kernel_rfl) (hm1028.at 9 rfl) (hm1028.at2 9 0 rfl rfl).2 (hm1028.cpAt 0 rfl) (Nat.zero_le _) (by have := g120; omega) ?_)
          intro A1029 c1030 w1031 a1032 ho1034 hg1035 hr1036 hf1033
          refine ⟨.inl (by decide), ?_⟩
          have hm1039 := hm1028.setOwn 9 _ rfl rfl ho1034 hg1035 hr1036
          refine quiet0 [18, 19] [] [4, 19, 20, 21, 26, 34, 42, 44] #[true, true, true, true, true, true, true, true, true, true, true, true, true, true, true, true, true, true, true, true, false, false, false, false] [(4, .pointer (some ⟨b59, 0, none⟩)), (19, .slice A0 x0.length c0), (20, .int .i64 (x0.length : Int)), (21, .int .i64 s79.1), (26, .pointer (some ⟨b59, 0, none⟩)), (34, .slice A211 ((s79.2.2 ++ ([r117] : List Tensor)).length) c212), (42, .slice A1029 ((s79.2.1 ++ ([r119] : List Tensor)).length) c1030), (44, .pointer (some ⟨b59, 0, none⟩))] [] 4 rfl (by kernel_rfl) (fun _ _ _ _ _ h => nomatch h.1) hf1033 (by kernel_rfl) trivial fun a1040 hf1041 => ?_
          refine all1 20 (by kernel_rfl) ?_
          refine opOf hf1041 rfl (by kernel_rfl) (aStoreB (b := b59) (j := 0) (T := 72) (cs := [.slice A82 s79.2.2.length c83, .slice A48 ((List.replicate ((x0.length : Int)).toNat (0 : Int)).length) c49, .slice A80 s79.2.1.length c81]) (us := [.slice A211 ((s79.2.2 ++ ([r117] : List Tensor)).length) c212]) (cs' := [.slice A211 ((s79.2.2 ++ ([r117] : List Tensor)).length) c212, .slice A48 ((List.replicate ((x0.length : Int)).toNat (0 : Int)).length) c49, .slice A80 s79.2.1.length c81]) hf1041 (by kernel_rfl) (hm1039.bxAt 11 rfl) (by kernel_rfl) (by kernel_rfl) (by kernel_rfl) ?_)
          intro w1042 hx1043 hg1044
          refine ⟨.inl (by decide), ?_⟩
          have hm1045 := hm1039.setBox 11 _ rfl rfl hx1043 hg1044
          refine quiet0 [21, 22] [] [4, 19, 20, 21, 42, 46] #[true, true, true, true, true, true, true, true, true, true, true, true, true, true, true, true, true, true, true, true, true, true, true, false] [(4, .pointer (some ⟨b59, 0, none⟩)), (19, .slice A0 x0.length c0), (20, .int .i64 (x0.length : Int)), (21, .int .i64 s79.1), (42, .slice A1029 ((s79.2.1 ++ ([r119] : List Tensor)).length) c1030), (46, .pointer (some ⟨b59, 2, none⟩))] [] 1 rfl (by kernel_rfl) (fun _ _ _ _ _ h => nomatch h.1) hf1041 (by kernel_rfl) trivial fun a1046 hf1047 => ?_
          refine all1 23 (by kernel_rfl) ?_
          refine opOf hf1047 rfl (by kernel_rfl) (aStoreB (b := b59) (j := 2) (T := 72) (cs := [.slice A211 ((s79.2.2 ++ ([r117] : List Tensor)).length) c212, .slice A48 ((List.replicate ((x0.length : Int)).toNat (0 : Int)).length) c49, .slice A80 s79.2.1.length c81]) (us := [.slice A1029 ((s79.2.1 ++ ([r119] : List Tensor)).length) c1030]) (cs' := [.slice A211 ((s79.2.2 ++ ([r117] : List Tensor)).length) c212, .slice A48 ((List.replicate ((x0.length : Int)).toNat (0 : Int)).length) c49, .slice A1029 ((s79.2.1 ++ ([r119] : List Tensor)).length) c1030]) hf1047 (by kernel_rfl) (hm1045.bxAt 11 rfl) (by kernel_rfl) (by kernel_rfl) (by kernel_rfl) ?_)
          intro w1048 hx1049 hg1050
          refine ⟨.inl (by decide), ?_⟩
          have hm1051 := hm1045.setBox 11 _ rfl rfl hx1049 hg1050
          refine allDone (by kernel_rfl) ⟨rfl, A1029, c1030, A211, c212, hf1047.sel (l := [4, 19, 20, 21]) (by kernel_rfl), hm1051.sel [9, 10, 11, 12, 13] _ rfl (by kernel_rfl)⟩
        · refine opOf hf1005 rfl (by kernel_rfl) (aOne [.agg #[.slice A98 (((rd x0 s79.1).Shape).length) c99, .slice A100 (((rd x0 s79.1).Data).length) c101]] (.agg #[.slice A98 (((rd x0 s79.1).Shape).length) c99, .slice A100 (((rd x0 s79.1).Data).length) c101]) [.cell ⟨b106, 0, none⟩ (.slice A98 (((rd x0 s79.1).Shape).length) c99), .cell ⟨b106, 1, none⟩ (.slice A100 (((rd x0 s79.1).Data).length) c101)] 39 hf1005 (by kernel_rfl) rfl (by kernel_rfl) ⟨(hm1006.cell 3 rfl rfl), (hm1006.cell 3 rfl rfl), trivial⟩ fun a1052 hf1053 => ?_)
          refine ⟨.inr (Gr.refl _ _), ?_⟩
          exact L943 _ _ ⟨A193, c194, A195, c196, b204, A211, c212, hf1053.sel (l := [4, 6, 19, 20, 21, 25, 26, 31, 32, 33, 34, 37, 39]) (by kernel_rfl), hm1006.sel [0, 1, 2, 3, 4, 5, 6, 7, 8, 9, 10] _ rfl (by kernel_rfl)⟩
      refine memoStep (R := fun (a : Act) (w : World) => ∃ (A193 : Option Addr) (c194 : Nat) (A195 : Option Addr) (c196 : Nat) (b204 : Nat), Fr 49 a [(4, .pointer (some ⟨b59, 0, none⟩)), (6, .pointer (some ⟨b106, 0, none⟩)), (19, .slice A0 x0.length c0), (20, .int .i64 (x0.length : Int)), (21, .int .i64 s79.1), (25, .pointer (some ⟨b59, 0, none⟩)), (26, .pointer (some ⟨b59, 0, none⟩)), (30, .slice A82 s79.2.2.length c83), (31, .agg #[.slice A98 (((rd x0 s79.1).Shape).length) c99, .slice A100 (((rd x0 s79.1).Data).length) c101]), (32, .agg #[.slice A193 r117.Shape.length c194, .slice A195 r117.Data.length c196]), (33, .slice (some ⟨b204, 0, none⟩) 1 1), (37, .pointer (some ⟨b59, 2, none⟩)), (38, .slice A80 s79.2.1.length c81)] ∧ Mem [] M w0 [.sl kTensor (some ⟨b204, 0, none⟩) 1 ([r117] : List Tensor), .sl (Kd.int .i64) A193 c194 r117.Shape, .sl Kd.float A195 c196 r117.Data, .bx b106 [.slice A98 (((rd x0 s79.1).Shape).length) c99, .slice A100 (((rd x0 s79.1).Data).length) c101] 29, .sl Kd.float A100 c101 ((rd x0 s79.1).Data), .sl (Kd.int .i64) A98 c99 ((rd x0 s79.1).Shape), .ow kTensor 29 A80 c81 s79.2.1, .ow kTensor 29 A82 c83 s79.2.2, .bx b59 [.slice A82 s79.2.2.length c83, .slice A48 ((List.replicate ((x0.length : Int)).toNat (0 : Int)).length) c49, .slice A80 s79.2.1.length c81] 72, .ow (Kd.int .i64) 3 A48 c49 (List.replicate ((x0.length : Int)).toNat (0 : Int)), .sl kTensor A0 c0 x0] w) #[true, true, true, true, true, true, true, true, true, false, true, true, true, true, false, false, false, false, false, false, false, false, false, false] 11 ?_ fun L1054 => ?_
      · rintro a1055 w1056 ⟨A193, c194, A195, c196, b204, hf1057, hm1058⟩
        refine all2 9 14 (by kernel_rfl) ?_ ?_
        · have e1067 : s79.2.2.length = s79.2.2.length := rfl
          have e1068 : 1 = ([r117] : List Tensor).length := rfl
          refine opOf hf1057 rfl (by kernel_rfl) (aApp (kd := kTensor) (base := 0) (E := 29) (A := A82) (B := (some ⟨b204, 0, none⟩)) (c := c83) (c2 := 1) (xs := s79.2.2) (ys := ([r117] : List Tensor)) (k := s79.2.2.length) (m := 1) (sz := 2) (d := 34) hf1057 (by kernel_rfl) e1067 e1068 (by kernel_rfl) rfl (by kernel_rfl) (hm1058.at 7 rfl) (hm1058.at2 7 0 rfl rfl).2 (hm1058.cpAt 0 rfl) (Nat.zero_le _) (by have := g118; omega) ?_)
          intro A1059 c1060 w1061 a1062 ho1064 hg1065 hr1066 hf1063
          refine ⟨.inl (by decide), ?_⟩
          have hm1069 := hm1058.setOwn 7 _ rfl rfl ho1064 hg1065 hr1066
          refine all1 14 (by kernel_rfl) ?_
          refine opOf hf1063 rfl (by kernel_rfl) (aOne [.agg #[.slice A98 (((rd x0 s79.1).Shape).length) c99, .slice A100 (((rd x0 s79.1).Data).length) c101]] (.agg #[.slice A98 (((rd x0 s79.1).Shape).length) c99, .slice A100 (((rd x0 s79.1).Data).length) c101]) [.cell ⟨b106, 0, none⟩ (.slice A98 (((rd x0 s79.1).Shape).length) c99), .cell ⟨b106, 1, none⟩ (.slice A100 (((rd x0 s79.1).Data).length) c101)] 39 hf1063 (by kernel_rfl) rfl (by kernel_rfl) ⟨(hm1069.cell 3 rfl rfl), (hm1069.cell 3 rfl rfl), trivial⟩ fun a1070 hf1071 => ?_)
          refine ⟨.inr (Gr.refl _ _), ?_⟩
          refine all1 15 (by kernel_rfl) ?_
          refine opOf hf1071 rfl (by kernel_rfl) (aCall (fid := 34) (args := [.agg #[.slice A98 (((rd x0 s79.1).Shape).length) c99, .slice A100 (((rd x0 s79.1).Data).length) c101]]) (d := 40) hf1071 (by kernel_rfl) (by kernel_rfl) callable34 (shelf_noughts.calls _ _ (⟨((rd x0 s79.1).Shape), ((rd x0 s79.1).Data)⟩ : Tensor) A98 (((rd x0 s79.1).Shape).length) c99 rfl A100 (((rd x0 s79.1).Data).length) c101 rfl (hm1069.give [5, 4] [.sl (Kd.int .i64) A98 c99 ((rd x0 s79.1).Shape), .sl Kd.float A100 c101 ((rd x0 s79.1).Data)] rfl rfl) r119 hr119) ?_)
          rintro _ w1076 a1077 ⟨A1072, c1073, A1074, c1075, rfl, hk1079⟩ hf1078
          refine ⟨.inr (Gr.still hk1079.cum.none), ?_⟩
          have hm1080 := hm1069.back hk1079
          have hm1081 := hm1080.seal 0 _ rfl rfl
          have hm1082 := hm1081.seal 1 _ rfl rfl
          refine all1 16 (by kernel_rfl) ?_
          refine opOf hf1078 rfl (by kernel_rfl) (aLit (cs := [.slice A1072 r119.Shape.length c1073, .slice A1074 r119.Data.length c1075]) (E := 29) (len := 1) (d := 41) hf1078 (by kernel_rfl) (by kernel_rfl) ?_)
          intro b1083 w1084 a1085 hbb1083 hx1087 hg1088 hf1086
          refine ⟨.inr (Gr.still hg1088), ?_⟩
          have hm1082s := hm1082.still hg1088
          have hm1089 := Mem.lit (kd := kTensor) (xs := ([r119] : List Tensor)) hm1082 hbb1083 hx1087 hg1088 (Els.one (kd := kTensor) (us := [.slice A1072 r119.Shape.length c1073, .slice A1074 r119.Data.length c1075]) (x := r119) (kTensor.mk r119 ⟨hm1082s.cpAt 0 rfl, (hm1082s.slAt 0 rfl)⟩ ⟨hm1082s.cpAt 1 rfl, (hm1082s.slAt 1 rfl)⟩))
          refine all1 17 (by kernel_rfl) ?_
          have e1098 : s79.2.1.length = s79.2.1.length := rfl
          have e1099 : 1 = ([r119] : List Tensor).length := rfl
          refine opOf hf1086 rfl (by kernel_rfl) (aApp (kd := kTensor) (base := 0) (E := 29) (A := A80) (B := (some ⟨b1083, 0, none⟩)) (c := c81) (c2 := 1) (xs := s79.2.1) (ys := ([r119] : List Tensor)) (k := s79.2.1.length) (m := 1) (sz := 2) (d := 42) hf1086 (by kernel_rfl) e1098 e1099 (by kernel_rfl) rfl (by kernel_rfl) (hm1089.at 9 rfl) (hm1089.at2 9 0 rfl rfl).2 (hm1089.cpAt 0 rfl) (Nat.zero_le _) (by have := g120; omega) ?_)
          intro A1090 c1091 w1092 a1093 ho1095 hg1096 hr1097 hf1094
          refine ⟨.inl (by decide), ?_⟩
          have hm1100 := hm1089.setOwn 9 _ rfl rfl ho1095 hg1096 hr1097
          refine quiet0 [18, 19] [] [4, 19, 20, 21, 26, 34, 42, 44] #[true, true, true, true, true, true, true, true, true, true, true, true, true, true, true, true, true, true, true, true, false, false, false, false] [(4, .pointer (some ⟨b59, 0, none⟩)), (19, .slice A0 x0.length c0), (20, .int .i64 (x0.length : Int)), (21, .int .i64 s79.1), (26, .pointer (some ⟨b59, 0, none⟩)), (34, .slice A1059 ((s79.2.2 ++ ([r117] : List Tensor)).length) c1060), (42, .slice A1090 ((s79.2.1 ++ ([r119] : List Tensor)).length) c1091), (44, .pointer (some ⟨b59, 0, none⟩))] [] 4 rfl (by kernel_rfl) (fun _ _ _ _ _ h => nomatch h.1) hf1094 (by kernel_rfl) trivial fun a1101 hf1102 => ?_
          refine all1 20 (by kernel_rfl) ?_
          refine opOf hf1102 rfl (by kernel_rfl) (aStoreB (b := b59) (j := 0) (T := 72) (cs := [.slice A82 s79.2.2.length c83, .slice A48 ((List.replicate ((x0.length : Int)).toNat (0 : Int)).length) c49, .slice A80 s79.2.1.length c81]) (us := [.slice A1059 ((s79.2.2 ++ ([r117] : List Tensor)).length) c1060]) (cs' := [.slice A1059 ((s79.2.2 ++ ([r117] : List Tensor)).length) c1060, .slice A48 ((List.replicate ((x0.length : Int)).toNat (0 : Int)).length) c49, .slice A80 s79.2.1.length c81]) hf1102 (by kernel_rfl) (hm1100.bxAt 11 rfl) (by kernel_rfl) (by kernel_rfl) (by kernel_rfl) ?_)
          intro w1103 hx1104 hg1105
          refine ⟨.inl (by decide), ?_⟩
          have hm1106 := hm1100.setBox 11 _ rfl rfl hx1104 hg1105
          refine quiet0 [21, 22] [] [4, 19, 20, 21, 42, 46] #[true, true, true, true, true, true, true, true, true, true, true, true, true, true, true, true, true, true, true, true, true, true, true, false] [(4, .pointer (some ⟨b59, 0, none⟩)), (19, .slice A0 x0.length c0), (20, .int .i64 (x0.length : Int)), (21, .int .i64 s79.1), (42, .slice A1090 ((s79.2.1 ++ ([r119] : List Tensor)).length) c1091), (46, .pointer (some ⟨b59, 2, none⟩))] [] 1 rfl (by kernel_rfl) (fun _ _ _ _ _ h => nomatch h.1) hf1102 (by kernel_rfl) trivial fun a1107 hf1108 => ?_
          refine all1 23 (by kernel_rfl) ?_
          refine opOf hf1108 rfl (by kernel_rfl) (aStoreB (b := b59) (j := 2) (T := 72) (cs := [.slice A1059 ((s79.2.2 ++ ([r117] : List Tensor)).length) c1060, .slice A48 ((List.replicate ((x0.length : Int)).toNat (0 : Int)).length) c49, .slice A80 s79.2.1.length c81]) (us := [.slice A1090 ((s79.2.1 ++ ([r119] : List Tensor)).length) c1091]) (cs' := [.slice A1059 ((s79.2.2 ++ ([r117] : List Tensor)).length) c1060, .slice A48 ((List.replicate ((x0.length : Int)).toNat (0 : Int)).length) c49, .slice A1090 ((s79.2.1 ++ ([r119] : List Tensor)).length) c1091]) hf1108 (by kernel_rfl) (hm1106.bxAt 11 rfl) (by kernel_rfl) (by kernel_rfl) (by kernel_rfl) ?_)
          intro w1109 hx1110 hg1111
          refine ⟨.inl (by decide), ?_⟩
          have hm1112 := hm1106.setBox 11 _ rfl rfl hx1110 hg1111
          refine allDone (by kernel_rfl) ⟨rfl, A1090, c1091, A1059, c1060, hf1108.sel (l := [4, 19, 20, 21]) (by kernel_rfl), hm1112.sel [9, 10, 11, 12, 13] _ rfl (by kernel_rfl)⟩
        · refine opOf hf1057 rfl (by kernel_rfl) (aOne [.agg #[.slice A98 (((rd x0 s79.1).Shape).length) c99, .slice A100 (((rd x0 s79.1).Data).length) c101]] (.agg #[.slice A98 (((rd x0 s79.1).Shape).length) c99, .slice A100 (((rd x0 s79.1).Data).length) c101]) [.cell ⟨b106, 0, none⟩ (.slice A98 (((rd x0 s79.1).Shape).length) c99), .cell ⟨b106, 1, none⟩ (.slice A100 (((rd x0 s79.1).Data).length) c101)] 39 hf1057 (by kernel_rfl) rfl (by kernel_rfl) ⟨(hm1058.cell 3 rfl rfl), (hm1058.cell 3 rfl rfl), trivial⟩ fun a1113 hf1114 => ?_)
          refine ⟨.inr (Gr.refl _ _), ?_⟩
          refine all1 9 (by kernel_rfl) ?_
          have e1123 : s79.2.2.length = s79.2.2.length := rfl
          have e1124 : 1 = ([r117] : List Tensor).length := rfl
          refine opOf hf1114 rfl (by kernel_rfl) (aApp (kd := kTensor) (base := 0) (E := 29) (A := A82) (B := (some ⟨b204, 0, none⟩)) (c := c83) (c2 := 1) (xs := s79.2.2) (ys := ([r117] : List Tensor)) (k := s79.2.2.length) (m := 1) (sz := 2) (d := 34) hf1114 (by kernel_rfl) e1123 e1124 (by kernel_rfl) rfl (by kernel_rfl) (hm1058.at 7 rfl) (hm1058.at2 7 0 rfl rfl).2 (hm1058.cpAt 0 rfl) (Nat.zero_le _) (by have := g118; omega) ?_)
          intro A1115 c1116 w1117 a1118 ho1120 hg1121 hr1122 hf1119
          refine ⟨.inl (by decide), ?_⟩
          have hm1125 := hm1058.setOwn 7 _ rfl rfl ho1120 hg1121 hr1122
          refine all1 15 (by kernel_rfl) ?_
          refine opOf hf1119 rfl (by kernel_rfl) (aCall (fid := 34) (args := [.agg #[.slice A98 (((rd x0 s79.1).Shape).length) c99, .slice A100 (((rd x0 s79.1).Data).length) c101]]) (d := 40) hf1119 (by kernel_rfl) (by kernel_rfl) callable34 (shelf_noughts.calls _ _ (⟨((rd x0 s79.1).Shape), ((rd x0 s79.1).Data)⟩ : Tensor) A98 (((rd x0 s79.1).Shape).length) c99 rfl A100 (((rd x0 s79.1).Data).length) c101 rfl (hm1125.give [5, 4] [.sl (Kd.int .i64) A98 c99 ((rd x0 s79.1).Shape), .sl Kd.float A100 c101 ((rd x0 s79.1).Data)] rfl rfl) r119 hr119) ?_)
          rintro _ w1130 a1131 ⟨A1126, c1127, A1128, c1129, rfl, hk1133⟩ hf1132
          refine ⟨.inr (Gr.still hk1133.cum.none), ?_⟩
          have hm1134 := hm1125.back hk1133
          have hm1135 := hm1134.seal 0 _ rfl rfl
          have hm1136 := hm1135.seal 1 _ rfl rfl
          refine all1 16 (by kernel_rfl) ?_
          refine opOf hf1132 rfl (by kernel_rfl) (aLit (cs := [.slice A1126 r119.Shape.length c1127, .slice A1128 r119.Data.length c1129]) (E := 29) (len := 1) (d := 41) hf1132 (by kernel_rfl) (by kernel_rfl) ?_)
          intro b1137 w1138 a1139 hbb1137 hx1141 hg1142 hf1140
          refine ⟨.inr (Gr.still hg1142), ?_⟩
          have hm1136s := hm1136.still hg1142
          have hm1143 := Mem.lit (kd := kTensor) (xs := ([r119] : List Tensor)) hm1136 hbb1137 hx1141 hg1142 (Els.one (kd := kTensor) (us := [.slice A1126 r119.Shape.length c1127, .slice A1128 r119.Data.length c1129]) (x := r119) (kTensor.mk r119 ⟨hm1136s.cpAt 0 rfl, (hm1136s.slAt 0 rfl)⟩ ⟨hm1136s.cpAt 1 rfl, (hm1136s.slAt 1 rfl)⟩))
          refine all1 17 (by kernel_rfl) ?_
          have e1152 : s79.2.1.length = s79.2.1.length := rfl
          have e1153 : 1 = ([r119] : List Tensor).length := rfl
          refine opOf hf1140 rfl (by kernel_rfl) (aApp (kd := kTensor) (base := 0) (E := 29) (A := A80) (B := (some ⟨b1137, 0, none⟩)) (c := c81) (c2 := 1) (xs := s79.2.1) (ys := ([r119] : List Tensor)) (k := s79.2.1.length) (m := 1) (sz := 2) (d := 42) hf1140 (by kernel_rfl) e1152 e1153 (by kernel_rfl) rfl (by kernel_rfl) (hm1143.at 9 rfl) (hm1143.at2 9 0 rfl rfl).2 (hm1143.cpAt 0 rfl) (Nat.zero_le _) (by have := g120; omega) ?_)
          intro A1144 c1145 w1146 a1147 ho1149 hg1150 hr1151 hf1148
          refine ⟨.inl (by decide), ?_⟩
          have hm1154 := hm1143.setOwn 9 _ rfl rfl ho1149 hg1150 hr1151
          refine quiet0 [18, 19] [] [4, 19, 20, 21, 26, 34, 42, 44] #[true, true, true, true, true, true, true, true, true, true, true, true, true, true, true, true, true, true, true, true, false, false, false, false] [(4, .pointer (some ⟨b59, 0, none⟩)), (19, .slice A0 x0.length c0), (20, .int .i64 (x0.length : Int)), (21, .int .i64 s79.1), (26, .pointer (some ⟨b59, 0, none⟩)), (34, .slice A1115 ((s79.2.2 ++ ([r117] : List Tensor)).length) c1116), (42, .slice A1144 ((s79.2.1 ++ ([r119] : List Tensor)).length) c1145), (44, .pointer (some ⟨b59, 0, none⟩))] [] 4 rfl (by kernel_rfl) (fun _ _ _ _ _ h => nomatch h.1) hf1148 (by kernel_rfl) trivial fun a1155 hf1156 => ?_
          refine all1 20 (by kernel_rfl) ?_
          refine opOf hf1156 rfl (by kernel_rfl) (aStoreB (b := b59) (j := 0) (T := 72) (cs := [.slice A82 s79.2.2.length c83, .slice A48 ((List.replicate ((x0.length : Int)).toNat (0 : Int)).length) c49, .slice A80 s79.2.1.length c81]) (us := [.slice A1115 ((s79.2.2 ++ ([r117] : List Tensor)).length) c1116]) (cs' := [.slice A1115 ((s79.2.2 ++ ([r117] : List Tensor)).length) c1116, .slice A48 ((List.replicate ((x0.length : Int)).toNat (0 : Int)).length) c49, .slice A80 s79.2.1.length c81]) hf1156 (by kernel_rfl) (hm1154.bxAt 11 rfl) (by kernel_rfl) (by kernel_rfl) (by kernel_rfl) ?_)
          intro w1157 hx1158 hg1159
          refine ⟨.inl (by decide), ?_⟩
          have hm1160 := hm1154.setBox 11 _ rfl rfl hx1158 hg1159
          refine quiet0 [21, 22] [] [4, 19, 20, 21, 42, 46] #[true, true, true, true, true, true, true, true, true, true, true, true, true, true, true, true, true, true, true, true, true, true, true, false] [(4, .pointer (some ⟨b59, 0, none⟩)), (19, .slice A0 x0.length c0), (20, .int .i64 (x0.length : Int)), (21, .int .i64 s79.1), (42, .slice A1144 ((s79.2.1 ++ ([r119] : List Tensor)).length) c1145), (46, .pointer (some ⟨b59, 2, none⟩))] [] 1 rfl (by kernel_rfl) (fun _ _ _ _ _ h => nomatch h.1) hf1156 (by kernel_rfl) trivial fun a1161 hf1162 => ?_
          refine all1 23 (by kernel_rfl) ?_
          refine opOf hf1162 rfl (by kernel_rfl) (aStoreB (b := b59) (j := 2) (T := 72) (cs := [.slice A1115 ((s79.2.2 ++ ([r117] : List Tensor)).length) c1116, .slice A48 ((List.replicate ((x0.length : Int)).toNat (0 : Int)).length) c49, .slice A80 s79.2.1.length c81]) (us := [.slice A1144 ((s79.2.1 ++ ([r119] : List Tensor)).length) c1145]) (cs' := [.slice A1115 ((s79.2.2 ++ ([r117] : List Tensor)).length) c1116, .slice A48 ((List.replicate ((x0.length : Int)).toNat (0 : Int)).length) c49, .slice A1144 ((s79.2.1 ++ ([r119] : List Tensor)).length) c1145]) hf1162 (by kernel_rfl) (hm1160.bxAt 11 rfl) (by kernel_rfl) (by kernel_rfl) (by kernel_rfl) ?_)
          intro w1163 hx1164 hg1165
          refine ⟨.inl (by decide), ?_⟩
          have hm1166 := hm1160.setBox 11 _ rfl rfl hx1164 hg1165
          refine allDone (by kernel_rfl) ⟨rfl, A1144, c1145, A1115, c1116, hf1162.sel (l := [4, 19, 20, 21]) (by kernel_rfl), hm1166.sel [9, 10, 11, 12, 13] _ rfl (by kernel_rfl)⟩
      refine memoStep (R := fun (a : Act) (w : World) => ∃ (A193 : Option Addr) (c194 : Nat) (A195 : Option Addr) (c196 : Nat) (b204 : Nat), Fr 49 a [(4, .pointer (some ⟨b59, 0, none⟩)), (6, .pointer (some ⟨b106, 0, none⟩)), (19, .slice A0 x0.length c0), (20, .int .i64 (x0.length : Int)), (21, .int .i64 s79.1), (25, .pointer (some ⟨b59, 0, none⟩)), (26, .pointer (some ⟨b59, 0, none⟩)), (30, .slice A82 s79.2.2.length c83), (31, .agg #[.slice A98 (((rd x0 s79.1).Shape).length) c99, .slice A100 (((rd x0 s79.1).Data).length) c101]), (32, .agg #[.slice A193 r117.Shape.length c194, .slice A195 r117.Data.length c196]), (33, .slice (some ⟨b204, 0, none⟩) 1 1), (37, .pointer (some ⟨b59, 2, none⟩)), (39, .agg #[.slice A98 (((rd x0 s79.1).Shape).length) c99, .slice A100 (((rd x0 s79.1).Data).length) c101])] ∧ Mem [] M w0 [.sl kTensor (some ⟨b204, 0, none⟩) 1 ([r117] : List Tensor), .sl (Kd.int .i64) A193 c194 r117.Shape, .sl Kd.float A195 c196 r117.Data, .bx b106 [.slice A98 (((rd x0 s79.1).Shape).length) c99, .slice A100 (((rd x0 s79.1).Data).length) c101] 29, .sl Kd.float A100 c101 ((rd x0 s79.1).Data), .sl (Kd.int .i64) A98 c99 ((rd x0 s79.1).Shape), .ow kTensor 29 A80 c81 s79.2.1, .ow kTensor 29 A82 c83 s79.2.2, .bx b59 [.slice A82 s79.2.2.length c83, .slice A48 ((List.replicate ((x0.length : Int)).toNat (0 : Int)).length) c49, .slice A80 s79.2.1.length c81] 72, .ow (Kd.int .i64) 3 A48 c49 (List.replicate ((x0.length : Int)).toNat (0 : Int)), .sl kTensor A0 c0 x0] w) #[true, true, true, true, true, true, true, true, true, false, true, true, true, false, true, false, false, false, false, false, false, false, false, false] 11 ?_ fun L1167 => ?_
      · rintro a1168 w1169 ⟨A193, c194, A195, c196, b204, hf1170, hm1171⟩
        refine all2 9 13 (by kernel_rfl) ?_ ?_
        · have e1180 : s79.2.2.length = s79.2.2.length := rfl
          have e1181 : 1 = ([r117] : List Tensor).length := rfl
          refine opOf hf1170 rfl (by kernel_rfl) (aApp (kd := kTensor) (base := 0) (E := 29) (A := A82) (B := (some ⟨b204, 0, none⟩)) (c := c83) (c2 := 1) (xs := s79.2.2) (ys := ([r117] : List Tensor)) (k := s79.2.2.length) (m := 1) (sz := 2) (d := 34) hf1170 (by kernel_rfl) e1180 e1181 (by kernel_rfl) rfl (by kernel_rfl) (hm1171.at 7 rfl) (hm1171.at2 7 0 rfl rfl).2 (hm1171.cpAt 0 rfl) (Nat.zero_le _) (by have := g118; omega) ?_)
          intro A1172 c1173 w1174 a1175 ho1177 hg1178 hr1179 hf1176
          refine ⟨.inl (by decide), ?_⟩
          have hm1182 := hm1171.setOwn 7 _ rfl rfl ho1177 hg1178 hr1179
          exact L943 _ _ ⟨A193, c194, A195, c196, b204, A1172, c1173, hf1176.sel (l := [4, 6, 19, 20, 21, 25, 26, 31, 32, 33, 34, 37, 39]) (by kernel_rfl), hm1182.sel [0, 1, 2, 3, 4, 5, 6, 7, 8, 9, 10] _ rfl (by kernel_rfl)⟩
        · refine opOf hf1170 rfl (by kernel_rfl) (aOne [.slice A80 s79.2.1.length c81] (.slice A80 s79.2.1.length c81) [.cell ⟨b59, 2, none⟩ (.slice A80 s79.2.1.length c81)] 38 hf1170 (by kernel_rfl) rfl (by kernel_rfl) ⟨(hm1171.cell 8 rfl rfl), trivial⟩ fun a1183 hf1184 => ?_)
          refine ⟨.inr (Gr.refl _ _), ?_⟩
          refine all1 9 (by kernel_rfl) ?_
          have e1193 : s79.2.2.length = s79.2.2.length := rfl
          have e1194 : 1 = ([r117] : List Tensor).length := rfl
          refine opOf hf1184 rfl (by kernel_rfl) (aApp (kd := kTensor) (base := 0) (E := 29) (A := A82) (B := (some ⟨b204, 0, none⟩)) (c := c83) (c2 := 1) (xs := s79.2.2) (ys := ([r117] : List Tensor)) (k := s79.2.2.length) (m := 1) (sz := 2) (d := 34) hf1184 (by kernel_rfl) e1193 e1194 (by kernel_rfl) rfl (by kernel_rfl) (hm1171.at 7 rfl) (hm1171.at2 7 0 rfl rfl).2 (hm1171.cpAt 0 rfl) (Nat.zero_le _) (by have := g118; omega) ?_)
          intro A1185 c1186 w1187 a1188 ho1190 hg1191 hr1192 hf1189
          refine ⟨.inl (by decide), ?_⟩
          have hm1195 := hm1171.setOwn 7 _ rfl rfl ho1190 hg1191 hr1192
          refine all1 15 (by kernel_rfl) ?_
          refine opOf hf1189 rfl (by kernel_rfl) (aCall (fid := 34) (args := [.agg #[.slice A98 (((rd x0 s79.1).Shape).length) c99, .slice A100 (((rd x0 s79.1).Data).length) c101]]) (d := 40) hf1189 (by kernel_rfl) (by kernel_rfl) callable34 (shelf_noughts.calls _ _ (⟨((rd x0 s79.1).Shape), ((rd x0 s79.1).Data)⟩ : Tensor) A98 (((rd x0 s79.1).Shape).length) c99 rfl A100 (((rd x0 s79.1).Data).length) c101 rfl (hm1195.give [5, 4] [.sl (Kd.int .i64) A98 c99 ((rd x0 s79.1).Shape), .sl Kd.float A100 c101 ((rd x0 s79.1).Data)] rfl rfl) r119 hr119) ?_)
          rintro _ w1200 a1201 ⟨A1196, c1197, A1198, c1199, rfl, hk1203⟩ hf1202
          refine ⟨.inr (Gr.still hk1203.cum.none), ?_⟩
          have hm1204 := hm1195.back hk1203
          have hm1205 := hm1204.seal 0 _ rfl rfl
          have hm1206 := hm1205.seal 1 _ rfl rfl
          refine all1 16 (by kernel_rfl) ?_
          refine opOf hf1202 rfl (by kernel_rfl) (aLit (cs := [.slice A1196 r119.Shape.length c1197, .slice A1198 r119.Data.length c1199]) (E := 29) (len := 1) (d := 41) hf1202 (by kernel_rfl) (by kernel_rfl) ?_)
          intro b1207 w1208 a1209 hbb1207 hx1211 hg1212 hf1210
          refine ⟨.inr (Gr.still hg1212), ?_⟩
          have hm1206s := hm1206.still hg1212
          have hm1213 := Mem.lit (kd := kTensor) (xs := ([r119] : List Tensor)) hm1206 hbb1207 hx1211 hg1212 (Els.one (kd := kTensor) (us := [.slice A1196 r119.Shape.length c1197, .slice A1198 r119.Data.length c1199]) (x := r119) (kTensor.mk r119 ⟨hm1206s.cpAt 0 rfl, (hm1206s.slAt 0 rfl)⟩ ⟨hm1206s.cpAt 1 rfl, (hm1206s.slAt 1 rfl)⟩))
          refine all1 17 (by kernel_rfl) ?_
          have e1222 : s79.2.1.length = s79.2.1.length := rfl
          have e1223 : 1 = ([r119] : List Tensor).length := rfl
          refine opOf hf1210 rfl (by kernel_rfl) (aApp (kd := kTensor) (base := 0) (E := 29) (A := A80) (B := (some ⟨b1207, 0, none⟩)) (c := c81) (c2 := 1) (xs := s79.2.1) (ys := ([r119] : List Tensor)) (k := s79.2.1.length) (m := 1) (sz := 2) (d := 42) hf1210 (by kernel_rfl) e1222 e1223 (by kernel_rfl) rfl (by kernel_rfl) (hm1213.at 9 rfl) (hm1213.at2 9 0 rfl rfl).2 (hm1213.cpAt 0 rfl) (Nat.zero_le _) (by have := g120; omega) ?_)
          intro A1214 c1215 w1216 a1217 ho1219 hg1220 hr1221 hf1218
          refine ⟨.inl (by decide), ?_⟩
          have hm1224 := hm1213.setOwn 9 _ rfl rfl ho1219 hg1220 hr1221
          refine quiet0 [18, 19] [] [4, 19, 20, 21, 26, 34, 42, 44] #[true, true, true, true, true, true, true, true, true, true, true, true, true, true, true, true, true, true, true, true, false, false, false, false] [(4, .pointer (some ⟨b59, 0, none⟩)), (19, .slice A0 x0.length c0), (20, .int .i64 (x0.length : Int)), (21, .int .i64 s79.1), (26, .pointer (some ⟨b59, 0, none⟩)), (34, .slice A1185 ((s79.2.2 ++ ([r117] : List Tensor)).length) c1186), (42, .slice A1214 ((s79.2.1 ++ ([r119] : List Tensor)).length) c1215), (44, .pointer (some ⟨b59, 0, none⟩))] [] 4 rfl (by kernel_rfl) (fun _ _ _ _ _ h => nomatch h.1) hf1218 (by kernel_rfl) trivial fun a1225 hf1226 => ?_
          refine all1 20 (by kernel_rfl) ?_
          refine opOf hf1226 rfl (by kernel_rfl) (aStoreB (b := b59) (j := 0) (T := 72) (cs := [.slice A82 s79.2.2.length c83, .slice A48 ((List.replicate ((x0.length : Int)).toNat (0 : Int)).length) c49, .slice A80 s79.2.1.length c81]) (us := [.slice A1185 ((s79.2.2 ++ ([r117] : List Tensor)).length) c1186]) (cs' := [.slice A1185 ((s79.2.2 ++ ([r117] : List Tensor)).length) c1186, .slice A48 ((List.replicate ((x0.length : Int)).toNat (0 : Int)).length) c49, .slice A80 s79.2.1.length c81]) hf1226 (by kernel_rfl) (hm1224.bxAt 11 rfl) (by kernel_rfl) (by kernel_rfl) (by kernel_rfl) ?_)
          intro w1227 hx1228 hg1229
          refine ⟨.inl (by decide), ?_⟩
          have hm1230 := hm1224.setBox 11 _ rfl rfl hx1228 hg1229
          refine quiet0 [21, 22] [] [4, 19, 20, 21, 42, 46] #[true, true, true, true, true, true, true, true, true, true, true, true, true, true, true, true, true, true, true, true, true, true, true, false] [(4, .pointer (some ⟨b59, 0, none⟩)), (19, .slice A0 x0.length c0), (20, .int .i64 (x0.length : Int)), (21, .int .i64 s79.1), (42, .slice A1214 ((s79.2.1 ++ ([r119] : List Tensor)).length) c1215), (46, .pointer (some ⟨b59, 2, none⟩))] [] 1 rfl (by kernel_rfl) (fun _ _ _ _ _ h => nomatch h.1) hf1226 (by kernel_rfl) trivial fun a1231 hf1232 => ?_
          refine all1 23 (by kernel_rfl) ?_
          refine opOf hf1232 rfl (by kernel_rfl) (aStoreB (b := b59) (j := 2) (T := 72) (cs := [.slice A1185 ((s79.2.2 ++ ([r117] : List Tensor)).length) c1186, .slice A48 ((List.replicate ((x0.length : Int)).toNat (0 : Int)).length) c49, .slice A80 s79.2.1.length c81]) (us := [.slice A1214 ((s79.2.1 ++ ([r119] : List Tensor)).length) c1215]) (cs' := [.slice A1185 ((s79.2.2 ++ ([r117] : List Tensor)).length) c1186, .slice A48 ((List.replicate ((x0.length : Int)).toNat (0 : Int)).length) c49, .slice A1214 ((s79.2.1 ++ ([r119] : List Tensor)).length) c1215]) hf1232 (by kernel_rfl) (hm1230.bxAt 11 rfl) (by kernel_rfl) (by kernel_rfl) (by kernel_rfl) ?_)
          intro w1233 hx1234 hg1235
          refine ⟨.inl (by decide), ?_⟩
          have hm1236 := hm1230.setBox 11 _ rfl rfl hx1234 hg1235
          refine allDone (by kernel_rfl) ⟨rfl, A1214, c1215, A1185, c1186, hf1232.sel (l := [4, 19, 20, 21]) (by kernel_rfl), hm1236.sel [9, 10, 11, 12, 13] _ rfl (by kernel_rfl)⟩
      refine memoStep (R := fun (a : Act) (w : World) => ∃ (A193 : Option Addr) (c194 : Nat) (A195 : Option Addr) (c196 : Nat) (b204 : Nat), Fr 49 a [(4, .pointer (some ⟨b59, 0, none⟩)), (6, .pointer (some ⟨b106, 0, none⟩)), (19, .slice A0 x0.length c0), (20, .int .i64 (x0.length : Int)), (21, .int .i64 s79.1), (25, .pointer (some ⟨b59, 0, none⟩)), (26, .pointer (some ⟨b59, 0, none⟩)), (30, .slice A82 s79.2.2.length c83), (31, .agg #[.slice A98 (((rd x0 s79.1).Shape).length) c99, .slice A100 (((rd x0 s79.1).Data).length) c101]), (32, .agg #[.slice A193 r117.Shape.length c194, .slice A195 r117.Data.length c196]), (33, .slice (some ⟨b204, 0, none⟩) 1 1), (37, .pointer (some ⟨b59, 2, none⟩))] ∧ Mem [] M w0 [.sl kTensor (some ⟨b204, 0, none⟩) 1 ([r117] : List Tensor), .sl (Kd.int .i64) A193 c194 r117.Shape, .sl Kd.float A195 c196 r117.Data, .bx b106 [.slice A98 (((rd x0 s79.1).Shape).length) c99, .slice A100 (((rd x0 s79.1).Data).length) c101] 29, .sl Kd.float A100 c101 ((rd x0 s79.1).Data), .sl (Kd.int .i64) A98 c99 ((rd x0 s79.1).Shape), .ow kTensor 29 A80 c81 s79.2.1, .ow kTensor 29 A82 c83 s79.2.2, .bx b59 [.slice A82 s79.2.2.length c83, .slice A48 ((List.replicate ((x0.length : Int)).toNat (0 : Int)).length) c49, .slice A80 s79.2.1.length c81] 72, .ow (Kd.int .i64) 3 A48 c49 (List.replicate ((x0.length : Int)).toNat (0 : Int)), .sl kTensor A0 c0 x0] w) #[true, true, true, true, true, true, true, true, true, false, true, true, true, false, false, false, false, false, false, false, false, false, false, false] 12 ?_ fun L1237 => ?_
      · rintro a1238 w1239 ⟨A193, c194, A195, c196, b204, hf1240, hm1241⟩
        refine all3 9 13 14 (by kernel_rfl) ?_ ?_ ?_
        · have e1250 : s79.2.2.length = s79.2.2.length := rfl
          have e1251 : 1 = ([r117] : List Tensor).length := rfl
          refine opOf hf1240 rfl (by kernel_rfl) (aApp (kd := kTensor) (base := 0) (E := 29) (A := A82) (B := (some ⟨b204, 0, none⟩)) (c := c83) (c2 := 1) (xs := s79.2.2) (ys := ([r117] : List Tensor)) (k := s79.2.2.length) (m := 1) (sz := 2) (d := 34) hf1240 (by kernel_rfl) e1250 e1251 (by kernel_rfl) rfl (by kernel_rfl) (hm1241.at 7 rfl) (hm1241.at2 7 0 rfl rfl).2 (hm1241.cpAt 0 rfl) (Nat.zero_le _) (by have := g118; omega) ?_)
          intro A1242 c1243 w1244 a1245 ho1247 hg1248 hr1249 hf1246
          refine ⟨.inl (by decide), ?_⟩
          have hm1252 := hm1241.setOwn 7 _ rfl rfl ho1247 hg1248 hr1249
          exact L1002 _ _ ⟨A193, c194, A195, c196, b204, A1242, c1243, hf1246.sel (l := [4, 6, 19, 20, 21, 25, 26, 31, 32, 33, 34, 37]) (by kernel_rfl), hm1252.sel [0, 1, 2, 3, 4, 5, 6, 7, 8, 9, 10] _ rfl (by kernel_rfl)⟩
        · refine opOf hf1240 rfl (by kernel_rfl) (aOne [.slice A80 s79.2.1.length c81] (.slice A80 s79.2.1.length c81) [.cell ⟨b59, 2, none⟩ (.slice A80 s79.2.1.length c81)] 38 hf1240 (by kernel_rfl) rfl (by kernel_rfl) ⟨(hm1241.cell 8 rfl rfl), trivial⟩ fun a1253 hf1254 => ?_)
          refine ⟨.inr (Gr.refl _ _), ?_⟩
          exact L1054 _ _ ⟨A193, c194, A195, c196, b204, hf1254.sel (l := [4, 6, 19, 20, 21, 25, 26, 30, 31, 32, 33, 37, 38]) (by kernel_rfl), hm1241.sel [0, 1, 2, 3, 4, 5, 6, 7, 8, 9, 10] _ rfl (by kernel_rfl)⟩
        · refine opOf hf1240 rfl (by kernel_rfl) (aOne [.agg #[.slice A98 (((rd x0 s79.1).Shape).length) c99, .slice A100 (((rd x0 s79.1).Data).length) c101]] (.agg #[.slice A98 (((rd x0 s79.1).Shape).length) c99, .slice A100 (((rd x0 s79.1).Data).length) c101]) [.cell ⟨b106, 0, none⟩ (.slice A98 (((rd x0 s79.1).Shape).length) c99), .cell ⟨b106, 1, none⟩ (.slice A100 (((rd x0 s79.1).Data).length) c101)] 39 hf1240 (by kernel_rfl) rfl (by kernel_rfl) ⟨(hm1241.cell 3 rfl rfl), (hm1241.cell 3 rfl rfl), trivial⟩ fun a1255 hf1256 => ?_)
          refine ⟨.inr (Gr.refl _ _), ?_⟩
          exact L1167 _ _ ⟨A193, c194, A195, c196, b204, hf1256.sel (l := [4, 6, 19, 20, 21, 25, 26, 30, 31, 32, 33, 37, 39]) (by kernel_rfl), hm1241.sel [0, 1, 2, 3, 4, 5, 6, 7, 8, 9, 10] _ rfl (by kernel_rfl)⟩
      refine memoStep (R := fun (a : Act) (w : World) => ∃ (A193 : Option Addr) (c194 : Nat) (A195 : Option Addr) (c196 : Nat), Fr 49 a [(4, .pointer (some ⟨b59, 0, none⟩)), (6, .pointer (some ⟨b106, 0, none⟩)), (19, .slice A0 x0.length c0), (20, .int .i64 (x0.length : Int)), (21, .int .i64 s79.1), (25, .pointer (some ⟨b59, 0, none⟩)), (26, .pointer (some ⟨b59, 0, none⟩)), (30, .slice A82 s79.2.2.length c83), (31, .agg #[.slice A98 (((rd x0 s79.1).Shape).length) c99, .slice A100 (((rd x0 s79.1).Data).length) c101]), (32, .agg #[.slice A193 r117.Shape.length c194, .slice A195 r117.Data.length c196]), (37, .pointer (some ⟨b59, 2, none⟩)), (38, .slice A80 s79.2.1.length c81)] ∧ Mem [] M w0 [.sl (Kd.int .i64) A193 c194 r117.Shape, .sl Kd.float A195 c196 r117.Data, .bx b106 [.slice A98 (((rd x0 s79.1).Shape).length) c99, .slice A100 (((rd x0 s79.1).Data).length) c101] 29, .sl Kd.float A100 c101 ((rd x0 s79.1).Data), .sl (Kd.int .i64) A98 c99 ((rd x0 s79.1).Shape), .ow kTensor 29 A80 c81 s79.2.1, .ow kTensor 29 A82 c83 s79.2.2, .bx b59 [.slice A82 s79.2.2.length c83, .slice A48 ((List.replicate ((x0.length : Int)).toNat (0 : Int)).length) c49, .slice A80 s79.2.1.length c81] 72, .ow (Kd.int .i64) 3 A48 c49 (List.replicate ((x0.length : Int)).toNat (0 : Int)), .sl kTensor A0 c0 x0] w) #[true, true, true, true, true, true, true, true, false, false, true, true, true, true, false, false, false, false, false, false, false, false, false, false] 12 ?_ fun L1257 => ?_
      · rintro a1258 w1259 ⟨A193, c194, A195, c196, hf1260, hm1261⟩
        refine all2 8 14 (by kernel_rfl) ?_ ?_
        · refine opOf hf1260 rfl (by kernel_rfl) (aLit (cs := [.slice A193 r117.Shape.length c194, .slice A195 r117.Data.length c196]) (E := 29) (len := 1) (d := 33) hf1260 (by kernel_rfl) (by kernel_rfl) ?_)
          intro b1262 w1263 a1264 hbb1262 hx1266 hg1267 hf1265
          refine ⟨.inr (Gr.still hg1267), ?_⟩
          have hm1261s := hm1261.still hg1267
          have hm1268 := Mem.lit (kd := kTensor) (xs := ([r117] : List Tensor)) hm1261 hbb1262 hx1266 hg1267 (Els.one (kd := kTensor) (us := [.slice A193 r117.Shape.length c194, .slice A195 r117.Data.length c196]) (x := r117) (kTensor.mk r117 ⟨hm1261s.cpAt 0 rfl, (hm1261s.slAt 0 rfl)⟩ ⟨hm1261s.cpAt 1 rfl, (hm1261s.slAt 1 rfl)⟩))
          exact L1054 _ _ ⟨A193, c194, A195, c196, b1262, hf1265.sel (l := [4, 6, 19, 20, 21, 25, 26, 30, 31, 32, 33, 37, 38]) (by kernel_rfl), hm1268.sel [0, 1, 2, 3, 4, 5, 6, 7, 8, 9, 10] _ rfl (by kernel_rfl)⟩
        · refine opOf hf1260 rfl (by kernel_rfl) (aOne [.agg #[.slice A98 (((rd x0 s79.1).Shape).length) c99, .slice A100 (((rd x0 s79.1).Data).length) c101]] (.agg #[.slice A98 (((rd x0 s79.1).Shape).length) c99, .slice A100 (((rd x0 s79.1).Data).length) c101]) [.cell ⟨b106, 0, none⟩ (.slice A98 (((rd x0 s79.1).Shape).length) c99), .cell ⟨b106, 1, none⟩ (.slice A100 (((rd x0 s79.1).Data).length) c101)] 39 hf1260 (by kernel_rfl) rfl (by kernel_rfl) ⟨(hm1261.cell 2 rfl rfl), (hm1261.cell 2 rfl rfl), trivial⟩ fun a1269 hf1270 => ?_)
          refine ⟨.inr (Gr.refl _ _), ?_⟩
          refine all1 8 (by kernel_rfl) ?_
          refine opOf hf1270 rfl (by kernel_rfl) (aLit (cs := [.slice A193 r117.Shape.length c194, .slice A195 r117.Data.length c196]) (E := 29) (len := 1) (d := 33) hf1270 (by kernel_rfl) (by kernel_rfl) ?_)
          intro b1271 w1272 a1273 hbb1271 hx1275 hg1276 hf1274
          refine ⟨.inr (Gr.still hg1276), ?_⟩
          have hm1261s := hm1261.still hg1276
          have hm1277 := Mem.lit (kd := kTensor) (xs := ([r117] : List Tensor)) hm1261 hbb1271 hx1275 hg1276 (Els.one (kd := kTensor) (us := [.slice A193 r117.Shape.length c194, .slice A195 r117.Data.length c196]) (x := r117) (kTensor.mk r117 ⟨hm1261s.cpAt 0 rfl, (hm1261s.slAt 0 rfl)⟩ ⟨hm1261s.cpAt 1 rfl, (hm1261s.slAt 1 rfl)⟩))
          refine all1 9 (by kernel_rfl) ?_
          have e1286 : s79.2.2.length = s79.2.2.length := rfl
          have e1287 : 1 = ([r117] : List Tensor).length := rfl
          refine opOf hf1274 rfl (by kernel_rfl) (aApp (kd := kTensor) (base := 0) (E := 29) (A := A82) (B := (some ⟨b1271, 0, none⟩)) (c := c83) (c2 := 1) (xs := s79.2.2) (ys := ([r117] : List Tensor)) (k := s79.2.2.length) (m := 1) (sz := 2) (d := 34) hf1274 (by kernel_rfl) e1286 e1287 (by kernel_rfl) rfl (by kernel_rfl) (hm1277.at 7 rfl) (hm1277.at2 7 0 rfl rfl).2 (hm1277.cpAt 0 rfl) (Nat.zero_le _) (by have := g118; omega) ?_)
          intro A1278 c1279 w1280 a1281 ho1283 hg1284 hr1285 hf1282
          refine ⟨.inl (by decide), ?_⟩
          have hm1288 := hm1277.setOwn 7 _ rfl rfl ho1283 hg1284 hr1285
          refine all1 15 (by kernel_rfl) ?_
          refine opOf hf1282 rfl (by kernel_rfl) (aCall (fid := 34) (args := [.agg #[.slice A98 (((rd x0 s79.1).Shape).length) c99, .slice A100 (((rd x0 s79.1).Data).length) c101]]) (d := 40) hf1282 (by kernel_rfl) (by kernel_rfl) callable34 (shelf_noughts.calls _ _ (⟨((rd x0 s79.1).Shape), ((rd x0 s79.1).Data)⟩ : Tensor) A98 (((rd x0 s79.1).Shape).length) c99 rfl A100 (((rd x0 s79.1).Data).length) c101 rfl (hm1288.give [5, 4] [.sl (Kd.int .i64) A98 c99 ((rd x0 s79.1).Shape), .sl Kd.float A100 c101 ((rd x0 s79.1).Data)] rfl rfl) r119 hr119) ?_)
          rintro _ w1293 a1294 ⟨A1289, c1290, A1291, c1292, rfl, hk1296⟩ hf1295
          refine ⟨.inr (Gr.still hk1296.cum.none), ?_⟩
          have hm1297 := hm1288.back hk1296
          have hm1298 := hm1297.seal 0 _ rfl rfl
          have hm1299 := hm1298.seal 1 _ rfl rfl
          refine all1 16 (by kernel_rfl) ?_
          refine opOf hf1295 rfl (by kernel_rfl) (aLit (cs := [.slice A1289 r119.Shape.length c1290, .slice A1291 r119.Data.length c1292]) (E := 29) (len := 1) (d := 41) hf1295 (by kernel_rfl) (by kernel_rfl) ?_)
          intro b1300 w1301 a1302 hbb1300 hx1304 hg1305 hf1303
          refine ⟨.inr (Gr.still hg1305), ?_⟩
          have hm1299s := hm1299.still hg1305
          have hm1306 := Mem.lit (kd := kTensor) (xs := ([r119] : List Tensor)) hm1299 hbb1300 hx1304 hg1305 (Els.one (kd := kTensor) (us := [.slice A1289 r119.Shape.length c1290, .slice A1291 r119.Data.length c1292]) (x := r119) (kTensor.mk r119 ⟨hm1299s.cpAt 0 rfl, (hm1299s.slAt 0 rfl)⟩ ⟨hm1299s.cpAt 1 rfl, (hm1299s.slAt 1 rfl)⟩))
          refine all1 17 (by kernel_rfl) ?_
          have e1315 : s79.2.1.length = s79.2.1.length := rfl
          have e1316 : 1 = ([r119] : List Tensor).length := rfl
          refine opOf hf1303 rfl (by kernel_rfl) (aApp (kd := kTensor) (base := 0) (E := 29) (A := A80) (B := (some ⟨b1300, 0, none⟩)) (c := c81) (c2 := 1) (xs := s79.2.1) (ys := ([r119] : List Tensor)) (k := s79.2.1.length) (m := 1) (sz := 2) (d := 42) hf1303 (by kernel_rfl) e1315 e1316 (by kernel_rfl) rfl (by kernel_rfl) (hm1306.at 9 rfl) (hm1306.at2 9 0 rfl rfl).2 (hm1306.cpAt 0 rfl) (Nat.zero_le _) (by have := g120; omega) ?_)
          intro A1307 c1308 w1309 a1310 ho1312 hg1313 hr1314 hf1311
          refine ⟨.inl (by decide), ?_⟩
          have hm1317 := hm1306.setOwn 9 _ rfl rfl ho1312 hg1313 hr1314
          refine quiet0 [18, 19] [] [4, 19, 20, 21, 26, 34, 42, 44] #[true, true, true, true, true, true, true, true, true, true, true, true, true, true, true, true, true, true, true, true, false, false, false, false] [(4, .pointer (some ⟨b59, 0, none⟩)), (19, .slice A0 x0.length c0), (20, .int .i64 (x0.length : Int)), (21, .int .i64 s79.1), (26, .pointer (some ⟨b59, 0, none⟩)), (34, .slice A1278 ((s79.2.2 ++ ([r117] : List Tensor)).length) c1279), (42, .slice A1307 ((s79.2.1 ++ ([r119] : List Tensor)).length) c1308), (44, .pointer (some ⟨b59, 0, none⟩))] [] 4 rfl (by kernel_rfl) (fun _ _ _ _ _ h => nomatch h.1) hf1311 (by kernel_rfl) trivial fun a1318 hf1319 => ?_
          refine all1 20 (by kernel_rfl) ?_
          refine opOf hf1319 rfl (by kernel_rfl) (aStoreB (b := b59) (j := 0) (T := 72) (cs := [.slice A82 s79.2.2.length c83, .slice A48 ((List.replicate ((x0.length : Int)).toNat (0 : Int)).length) c49, .slice A80 s79.2.1.length c81]) (us := [.slice A1278 ((s79.2.2 ++ ([r117] : List Tensor)).length) c1279]) (cs' := [.slice A1278 ((s79.2.2 ++ ([r117] : List Tensor)).length) c1279, .slice A48 ((List.replicate ((x0.length : Int)).toNat (0 : Int)).length) c49, .slice A80 s79.2.1.length c81]) hf1319 (by kernel_rfl) (hm1317.bxAt 11 rfl) (by kernel_rfl) (by kernel_rfl) (by kernel_rfl) ?_)
          intro w1320 hx1321 hg1322
          refine ⟨.inl (by decide), ?_⟩
          have hm1323 := hm1317.setBox 11 _ rfl rfl hx1321 hg1322
          refine quiet0 [21, 22] [] [4, 19, 20, 21, 42, 46] #[true, true, true, true, true, true, true, true, true, true, true, true, true, true, true, true, true, true, true, true, true, true, true, false] [(4, .pointer (some ⟨b59, 0, none⟩)), (19, .slice A0 x0.length c0), (20, .int .i64 (x0.length : Int)), (21, .int .i64 s79.1), (42, .slice A1307 ((s79.2.1 ++ ([r119] : List Tensor)).length) c1308), (46, .pointer (some ⟨b59, 2, none⟩))] [] 1 rfl (by kernel_rfl) (fun _ _ _ _ _ h => nomatch h.1) hf1319 (by kernel_rfl) trivial fun a1324 hf1325 => ?_
          refine all1 23 (by kernel_rfl) ?_
          refine opOf hf1325 rfl (by kernel_rfl) (aStoreB (b := b59) (j := 2) (T := 72) (cs := [.slice A1278 ((s79.2.2 ++ ([r117] : List Tensor)).length) c1279, .slice A48 ((List.replicate ((x0.length : Int)).toNat (0 : Int)).length) c49, .slice A80 s79.2.1.length c81]) (us := [.slice A1307 ((s79.2.1 ++ ([r119] : List Tensor)).length) c1308]) (cs' := [.slice A1278 ((s79.2.2 ++ ([r117] : List Tensor)).length) c1279, .slice A48 ((List.replicate ((x0.length : Int)).toNat (0 : Int)).length) c49, .slice A1307 ((s79.2.1 ++ ([r119] : List Tensor)).length) c1308]) hf1325 (by kernel_rfl) (hm1323.bxAt 11 rfl) (by kernel_rfl) (by kernel_rfl) (by kernel_rfl) ?_)
          intro w1326 hx1327 hg1328
          refine ⟨.inl (by decide), ?_⟩
          have hm1329 := hm1323.setBox 11 _ rfl rfl hx1327 hg1328
          refine allDone (by kernel_rfl) ⟨rfl, A1307, c1308, A1278, c1279, hf1325.sel (l := [4, 19, 20, 21]) (by kernel_rfl), hm1329.sel [9, 10, 11, 12, 13] _ rfl (by kernel_rfl)⟩
      refine memoStep (R := fun (a : Act) (w : World) => ∃ (A193 : Option Addr) (c194 : Nat) (A195 : Option Addr) (c196 : Nat), Fr 49 a [(4, .pointer (some ⟨b59, 0, none⟩)), (6, .pointer (some ⟨b106, 0, none⟩)), (19, .slice A0 x0.length c0), (20, .int .i64 (x0.length : Int)), (21, .int .i64 s79.1), (25, .pointer (some ⟨b59, 0, none⟩)), (26, .pointer (some ⟨b59, 0, none⟩)), (30, .slice A82 s79.2.2.length c83), (31, .agg #[.slice A98 (((rd x0 s79.1).Shape).length) c99, .slice A100 (((rd x0 s79.1).Data).length) c101]), (32, .agg #[.slice A193 r117.Shape.length c194, .slice A195 r117.Data.length c196]), (37, .pointer (some ⟨b59, 2, none⟩)), (39, .agg #[.slice A98 (((rd x0 s79.1).Shape).length) c99, .slice A100 (((rd x0 s79.1).Data).length) c101])] ∧ Mem [] M w0 [.sl (Kd.int .i64) A193 c194 r117.Shape, .sl Kd.float A195 c196 r117.Data, .bx b106 [.slice A98 (((rd x0 s79.1).Shape).length) c99, .slice A100 (((rd x0 s79.1).Data).length) c101] 29, .sl Kd.float A100 c101 ((rd x0 s79.1).Data), .sl (Kd.int .i64) A98 c99 ((rd x0 s79.1).Shape), .ow kTensor 29 A80 c81 s79.2.1, .ow kTensor 29 A82 c83 s79.2.2, .bx b59 [.slice A82 s79.2.2.length c83, .slice A48 ((List.replicate ((x0.length : Int)).toNat (0 : Int)).length) c49, .slice A80 s79.2.1.length c81] 72, .ow (Kd.int .i64) 3 A48 c49 (List.replicate ((x0.length : Int)).toNat (0 : Int)), .sl kTensor A0 c0 x0] w) #[true, true, true, true, true, true, true, true, false, false, true, true, true, false, true, false, false, false, false, false, false, false, false, false] 12 ?_ fun L1330 => ?_
      · rintro a1331 w1332 ⟨A193, c194, A195, c196, hf1333, hm1334⟩
        refine all2 8 13 (by kernel_rfl) ?_ ?_
        · refine opOf hf1333 rfl (by kernel_rfl) (aLit (cs := [.slice A193 r117.Shape.length c194, .slice A195 r117.Data.length c196]) (E := 29) (len := 1) (d := 33) hf1333 (by kernel_rfl) (by kernel_rfl) ?_)
          intro b1335 w1336 a1337 hbb1335 hx1339 hg1340 hf1338
          refine ⟨.inr (Gr.still hg1340), ?_⟩
          have hm1334s := hm1334.still hg1340
          have hm1341 := Mem.lit (kd := kTensor) (xs := ([r117] : List Tensor)) hm1334 hbb1335 hx1339 hg1340 (Els.one (kd := kTensor) (us := [.slice A193 r117.Shape.length c194, .slice A195 r117.Data.length c196]) (x := r117) (kTensor.mk r117 ⟨hm1334s.cpAt 0 rfl, (hm1334s.slAt 0 rfl)⟩ ⟨hm1334s.cpAt 1 rfl, (hm1334s.slAt 1 rfl)⟩))
          exact L1167 _ _ ⟨A193, c194, A195, c196, b1335, hf1338.sel (l := [4, 6, 19, 20, 21, 25, 26, 30, 31, 32, 33, 37, 39]) (by kernel_rfl), hm1341.sel [0, 1, 2, 3, 4, 5, 6, 7, 8, 9, 10] _ rfl (by kernel_rfl)⟩
        · refine opOf hf1333 rfl (by kernel_rfl) (aOne [.slice A80 s79.2.1.length c81] (.slice A80 s79.2.1.length c81) [.cell ⟨b59, 2, none⟩ (.slice A80 s79.2.1.length c81)] 38 hf1333 (by kernel_rfl) rfl (by kernel_rfl) ⟨(hm1334.cell 7 rfl rfl), trivial⟩ fun a1342 hf1343 => ?_)
          refine ⟨.inr (Gr.refl _ _), ?_⟩
          refine all1 8 (by kernel_rfl) ?_
          refine opOf hf1343 rfl (by kernel_rfl) (aLit (cs := [.slice A193 r117.Shape.length c194, .slice A195 r117.Data.length c196]) (E := 29) (len := 1) (d := 33) hf1343 (by kernel_rfl) (by kernel_rfl) ?_)
          intro b1344 w1345 a1346 hbb1344 hx1348 hg1349 hf1347
          refine ⟨.inr (Gr.still hg1349), ?_⟩
          have hm1334s := hm1334.still hg1349
          have hm1350 := Mem.lit (kd := kTensor) (xs := ([r117] : List Tensor)) hm1334 hbb1344 hx1348 hg1349 (Els.one (kd := kTensor) (us := [.slice A193 r117.Shape.length c194, .slice A195 r117.Data.length c196]) (x := r117) (kTensor.mk r117 ⟨hm1334s.cpAt 0 rfl, (hm1334s.slAt 0 rfl)⟩ ⟨hm1334s.cpAt 1 rfl, (hm1334s.slAt 1 rfl)⟩))
          refine all1 9 (by kernel_rfl) ?_
          have e1359 : s79.2.2.length = s79.2.2.length := rfl
          have e1360 : 1 = ([r117] : List Tensor).length := rfl
          refine opOf hf1347 rfl (by kernel_rfl) (aApp (kd := kTensor) (base := 0) (E := 29) (A := A82) (B := (some ⟨b1344, 0, none⟩)) (c := c83) (c2 := 1) (xs := s79.2.2) (ys := ([r117] : List Tensor)) (k := s79.2.2.length) (m := 1) (sz := 2) (d := 34) hf1347 (by kernel_rfl) e1359 e1360 (by kernel_rfl) rfl (by kernel_rfl) (hm1350.at 7 rfl) (hm1350.at2 7 0 rfl rfl).2 (hm1350.cpAt 0 rfl) (Nat.zero_le _) (by have := g118; omega) ?_)
          intro A1351 c1352 w1353 a1354 ho1356 hg1357 hr1358 hf1355
          refine ⟨.inl (by decide), ?_⟩
          have hm1361 := hm1350.setOwn 7 _ rfl rfl ho1356 hg1357 hr1358
          refine all1 15 (by kernel_rfl) ?_
          refine opOf hf1355 rfl (by kernel_rfl) (aCall (fid := 34) (args := [.agg #[.slice A98 (((rd x0 s79.1).Shape).length) c99, .slice A100 (((rd x0 s79.1).Data).length) c101]]) (d := 40) hf1355 (by kernel_rfl) (by kernel_rfl) callable34 (shelf_noughts.calls _ _ (⟨((rd x0 s79.1).Shape), ((rd x0 s79.1).Data)⟩ : Tensor) A98 (((rd x0 s79.1).Shape).length) c99 rfl A100 (((rd x0 s79.1).Data).length) c101 rfl (hm1361.give [5, 4] [.sl (Kd.int .i64) A98 c99 ((rd x0 s79.1).Shape), .sl Kd.float A100 c101 ((rd x0 s79.1).Data)] rfl rfl) r119 hr119) ?_)
          rintro _ w1366 a1367 ⟨A1362, c1363, A1364, c1365, rfl, hk1369⟩ hf1368
          refine ⟨.inr (Gr.still hk1369.cum.none), ?_⟩
          have hm1370 := hm1361.back hk1369
          have hm1371 := hm1370.seal 0 _ rfl rfl
          have hm1372 := hm1371.seal 1 _ rfl rfl
          refine all1 16 (by kernel_rfl) ?_
          refine opOf hf1368 rfl (by kernel_rfl) (aLit (cs := [.slice A1362 r119.Shape.length c1363, .slice A1364 r119.Data.length c1365]) (E := 29) (len := 1) (d := 41) hf1368 (by kernel_rfl) (by kernel_rfl) ?_)
          intro b1373 w1374 a1375 hbb1373 hx1377 hg1378 hf1376
          refine ⟨.inr (Gr.still hg1378), ?_⟩
          have hm1372s := hm1372.still hg1378
          have hm1379 := Mem.lit (kd := kTensor) (xs := ([r119] : List Tensor)) hm1372 hbb1373 hx1377 hg1378 (Els.one (kd := kTensor) (us := [.slice A1362 r119.Shape.length c1363, .slice A1364 r119.Data.length c1365]) (x := r119) (kTensor.mk r119 ⟨hm1372s.cpAt 0 rfl, (hm1372s.slAt 0 rfl)⟩ ⟨hm1372s.cpAt 1 rfl, (hm1372s.slAt 1 rfl)⟩))
          refine all1 17 (by kernel_rfl) ?_
          have e1388 : s79.2.1.length = s79.2.1.length := rfl
          have e1389 : 1 = ([r119] : List Tensor).length := rfl
          refine opOf hf1376 rfl (by kernel_rfl) (aApp (kd := kTensor) (base := 0) (E := 29) (A := A80) (B := (some ⟨b1373, 0, none⟩)) (c := c81) (c2 := 1) (xs := s79.2.1) (ys := ([r119] : List Tensor)) (k := s79.2.1.length) (m := 1) (sz := 2) (d := 42) hf1376 (by kernel_rfl) e1388 e1389 (by kernel_rfl) rfl (by kernel_rfl) (hm1379.at 9 rfl) (hm1379.at2 9 0 rfl rfl).2 (hm1379.cpAt 0 rfl) (Nat.zero_le _) (by have := g120; omega) ?_)
          intro A1380 c1381 w1382 a1383 ho1385 hg1386 hr1387 hf1384
          refine ⟨.inl (by decide), ?_⟩
          have hm1390 := hm1379.setOwn 9 _ rfl rfl ho1385 hg1386 hr1387
          refine quiet0 [18, 19] [] [4, 19, 20, 21, 26, 34, 42, 44] #[true, true, true, true, true, true, true, true, true, true, true, true, true, true, true, true, true, true, true, true, false, false, false, false] [(4, .pointer (some ⟨b59, 0, none⟩)), (19, .slice A0 x0.length c0), (20, .int .i64 (x0.length : Int)), (21, .int .i64 s79.1), (26, .pointer (some ⟨b59, 0, none⟩)), (34, .slice A1351 ((s79.2.2 ++ ([r117] : List Tensor)).length) c1352), (42, .slice A1380 ((s79.2.1 ++ ([r119] : List Tensor)).length) c1381), (44, .pointer (some ⟨b59, 0, none⟩))] [] 4 rfl (by kernel_rfl) (fun _ _ _ _ _ h => nomatch h.1) hf1384 (by kernel_rfl) trivial fun a1391 hf1392 => ?_
          refine all1 20 (by kernel_rfl) ?_
          refine opOf hf1392 rfl (by kernel_rfl) (aStoreB (b := b59) (j := 0) (T := 72) (cs := [.slice A82 s79.2.2.length c83, .slice A48 ((List.replicate ((x0.length : Int)).toNat (0 : Int)).length) c49, .slice A80 s79.2.1.length c81]) (us := [.slice A1351 ((s79.2.2 ++ ([r117] : List Tensor)).length) c1352]) (cs' := [.slice A1351 ((s79.2.2 ++ ([r117] : List Tensor)).length) c1352, .slice A48 ((List.replicate ((x0.length : Int)).toNat (0 : Int)).length) c49, .slice A80 s79.2.1.length c81]) hf1392 (by kernel_rfl) (hm1390.bxAt 11 rfl) (by kernel_rfl) (by kernel_rfl) (by kernel_rfl) ?_)
          intro w1393 hx1394 hg1395
          refine ⟨.inl (by decide), ?_⟩
          have hm1396 := hm1390.setBox 11 _ rfl rfl hx1394 hg1395
          refine quiet0 [21, 22] [] [4, 19, 20, 21, 42, 46] #[true, true, true, true, true, true, true, true, true, true, true, true, true, true, true, true, true, true, true, true, true, true, true, false] [(4, .pointer (some ⟨b59, 0, none⟩)), (19, .slice A0 x0.length c0), (20, .int .i64 (x0.length : Int)), (21, .int .i64 s79.1), (42, .slice A1380 ((s79.2.1 ++ ([r119] : List Tensor)).length) c1381), (46, .pointer (some ⟨b59, 2, none⟩))] [] 1 rfl (by kernel_rfl) (fun _ _ _ _ _ h => nomatch h.1) hf1392 (by kernel_rfl) trivial fun a1397 hf1398 => ?_
          refine all1 23 (by kernel_rfl) ?_
          refine opOf hf1398 rfl (by kernel_rfl) (aStoreB (b := b59) (j := 2) (T := 72) (cs := [.slice A1351 ((s79.2.2 ++ ([r117] : List Tensor)).length) c1352, .slice A48 ((List.replicate ((x0.length : Int)).toNat (0 : Int)).length) c49, .slice A80 s79.2.1.length c81]) (us := [.slice A1380 ((s79.2.1 ++ ([r119] : List Tensor)).length) c1381]) (cs' := [.slice A1351 ((s79.2.2 ++ ([r117] : List Tensor)).length) c1352, .slice A48 ((List.replicate ((x0.length : Int)).toNat (0 : Int)).length) c49, .slice A1380 ((s79.2.1 ++ ([r119] : List Tensor)).length) c1381]) hf1398 (by kernel_rfl) (hm1396.bxAt 11 rfl) (by kernel_rfl) (by kernel_rfl) (by kernel_rfl) ?_)
          intro w1399 hx1400 hg1401
          refine ⟨.inl (by decide), ?_⟩
          have hm1402 := hm1396.setBox 11 _ rfl rfl hx1400 hg1401
          refine allDone (by kernel_rfl) ⟨rfl, A1380, c1381, A1351, c1352, hf1398.sel (l := [4, 19, 20, 21]) (by kernel_rfl), hm1402.sel [9, 10, 11, 12, 13] _ rfl (by kernel_rfl)⟩
      refine memoStep (R := fun (a : Act) (w : World) => ∃ (A193 : Option Addr) (c194 : Nat) (A195 : Option Addr) (c196 : Nat), Fr 49 a [(4, .pointer (some ⟨b59, 0, none⟩)), (6, .pointer (some ⟨b106, 0, none⟩)), (19, .slice A0 x0.length c0), (20, .int .i64 (x0.length : Int)), (21, .int .i64 s79.1), (25, .pointer (some ⟨b59, 0, none⟩)), (26, .pointer (some ⟨b59, 0, none⟩)), (30, .slice A82 s79.2.2.length c83), (31, .agg #[.slice A98 (((rd x0 s79.1).Shape).length) c99, .slice A100 (((rd x0 s79.1).Data).length) c101]), (32, .agg #[.slice A193 r117.Shape.length c194, .slice A195 r117.Data.length c196]), (37, .pointer (some ⟨b59, 2, none⟩))] ∧ Mem [] M w0 [.sl (Kd.int .i64) A193 c194 r117.Shape, .sl Kd.float A195 c196 r117.Data, .bx b106 [.slice A98 (((rd x0 s79.1).Shape).length) c99, .slice A100 (((rd x0 s79.1).Data).length) c101] 29, .sl Kd.float A100 c101 ((rd x0 s79.1).Data), .sl (Kd.int .i64) A98 c99 ((rd x0 s79.1).Shape), .ow kTensor 29 A80 c81 s79.2.1, .ow kTensor 29 A82 c83 s79.2.2, .bx b59 [.slice A82 s79.2.2.length c83, .slice A48 ((List.replicate ((x0.length : Int)).toNat (0 : Int)).length) c49, .slice A80 s79.2.1.length c81] 72, .ow (Kd.int .i64) 3 A48 c49 (List.replicate ((x0.length : Int)).toNat (0 : Int)), .sl kTensor A0 c0 x0] w) #[true, true, true, true, true, true, true, true, false, false, true, true, true, false, false, false, false, false, false, false, false, false, false, false] 13 ?_ fun L1403 => ?_
      · rintro a1404 w1405 ⟨A193, c194, A195, c196, hf1406, hm1407⟩
        refine all3 8 13 14 (by kernel_rfl) ?_ ?_ ?_
        · refine opOf hf1406 rfl (by kernel_rfl) (aLit (cs := [.slice A193 r117.Shape.length c194, .slice A195 r117.Data.length c196]) (E := 29) (len := 1) (d := 33) hf1406 (by kernel_rfl) (by kernel_rfl) ?_)
          intro b1408 w1409 a1410 hbb1408 hx1412 hg1413 hf1411
          refine ⟨.inr (Gr.still hg1413), ?_⟩
          have hm1407s := hm1407.still hg1413
          have hm1414 := Mem.lit (kd := kTensor) (xs := ([r117] : List Tensor)) hm1407 hbb1408 hx1412 hg1413 (Els.one (kd := kTensor) (us := [.slice A193 r117.Shape.length c194, .slice A195 r117.Data.length c196]) (x := r117) (kTensor.mk r117 ⟨hm1407s.cpAt 0 rfl, (hm1407s.slAt 0 rfl)⟩ ⟨hm1407s.cpAt 1 rfl, (hm1407s.slAt 1 rfl)⟩))
          exact L1237 _ _ ⟨A193, c194, A195, c196, b1408, hf1411.sel (l := [4, 6, 19, 20, 21, 25, 26, 30, 31, 32, 33, 37]) (by kernel_rfl), hm1414.sel [0, 1, 2, 3, 4, 5, 6, 7, 8, 9, 10] _ rfl (by kernel_rfl)⟩
        · refine opOf hf1406 rfl (by kernel_rfl) (aOne [.slice A80 s79.2.1.length c81] (.slice A80 s79.2.1.length c81) [.cell ⟨b59, 2, none⟩ (.slice A80 s79.2.1.length c81)] 38 hf1406 (by kernel_rfl) rfl (by kernel_rfl) ⟨(hm1407.cell 7 rfl rfl), trivial⟩ fun a1415 hf1416 => ?_)
          refine ⟨.inr (Gr.refl _ _), ?_⟩
          exact L1257 _ _ ⟨A193, c194, A195, c196, hf1416.sel (l := [4, 6, 19, 20, 21, 25, 26, 30, 31, 32, 37, 38]) (by kernel_rfl), hm1407.sel [0, 1, 2, 3, 4, 5, 6, 7, 8, 9] _ rfl (by kernel_rfl)⟩
        · refine opOf hf1406 rfl (by kernel_rfl) (aOne [.agg #[.slice A98 (((rd x0 s79.1).Shape).length) c99, .slice A100 (((rd x0 s79.1).Data).length) c101]] (.agg #[.slice A98 (((rd x0 s79.1).Shape).length) c99, .slice A100 (((rd x0 s79.1).Data).length) c101]) [.cell ⟨b106, 0, none⟩ (.slice A98 (((rd x0 s79.1).Shape).length) c99), .cell ⟨b106, 1, none⟩ (.slice A100 (((rd x0 s79.1).Data).length) c101)] 39 hf1406 (by kernel_rfl) rfl (by kernel_rfl) ⟨(hm1407.cell 2 rfl rfl), (hm1407.cell 2 rfl rfl), trivial⟩ fun a1417 hf1418 => ?_)
          refine ⟨.inr (Gr.refl _ _), ?_⟩
          exact L1330 _ _ ⟨A193, c194, A195, c196, hf1418.sel (l := [4, 6, 19, 20, 21, 25, 26, 30, 31, 32, 37, 39]) (by kernel_rfl), hm1407.sel [0, 1, 2, 3, 4, 5, 6, 7, 8, 9] _ rfl (by kernel_rfl)⟩
      refine memoStep (R := fun (a : Act) (w : World) => Fr 49 a [(4, .pointer (some ⟨b59, 0, none⟩)), (6, .pointer (some ⟨b106, 0, none⟩)), (19, .slice A0 x0.length c0), (20, .int .i64 (x0.length : Int)), (21, .int .i64 s79.1), (25, .pointer (some ⟨b59, 0, none⟩)), (26, .pointer (some ⟨b59, 0, none⟩)), (30, .slice A82 s79.2.2.length c83), (31, .agg #[.slice A98 (((rd x0 s79.1).Shape).length) c99, .slice A100 (((rd x0 s79.1).Data).length) c101]), (37, .pointer (some ⟨b59, 2, none⟩)), (38, .slice A80 s79.2.1.length c81)] ∧ Mem [] M w0 [.bx b106 [.slice A98 (((rd x0 s79.1).Shape).length) c99, .slice A100 (((rd x0 s79.1).Data).length) c101] 29, .sl Kd.float A100 c101 ((rd x0 s79.1).Data), .sl (Kd.int .i64) A98 c99 ((rd x0 s79.1).Shape), .ow kTensor 29 A80 c81 s79.2.1, .ow kTensor 29 A82 c83 s79.2.2, .bx b59 [.slice A82 s79.2.2.length c83, .slice A48 ((List.replicate ((x0.length : Int)).toNat (0 : Int)).length) c49, .slice A80 s79.2.1.length c81] 72, .ow (Kd.int .i64) 3 A48 c49 (List.replicate ((x0.length : Int)).toNat (0 : Int)), .sl kTensor A0 c0 x0] w) #[true, true, true, true, true, true, true, false, false, false, true, true, true, true, false, false, false, false, false, false, false, false, false, false] 13 ?_ fun L1419 => ?_
      · rintro a1420 w1421 ⟨hf1422, hm1423⟩
        refine all2 7 14 (by kernel_rfl) ?_ ?_
        · refine opOf hf1422 rfl (by kernel_rfl) (aCall (fid := 33) (args := [.agg #[.slice A98 (((rd x0 s79.1).Shape).length) c99, .slice A100 (((rd x0 s79.1).Data).length) c101]]) (d := 32) hf1422 (by kernel_rfl) (by kernel_rfl) callable33 (tensor_Copy.calls _ _ (⟨((rd x0 s79.1).Shape), ((rd x0 s79.1).Data)⟩ : Tensor) A98 (((rd x0 s79.1).Shape).length) c99 rfl A100 (((rd x0 s79.1).Data).length) c101 rfl (hm1423.give [2, 1] [.sl (Kd.int .i64) A98 c99 ((rd x0 s79.1).Shape), .sl Kd.float A100 c101 ((rd x0 s79.1).Data)] rfl rfl) r117 hr117) ?_)
          rintro _ w1428 a1429 ⟨A1424, c1425, A1426, c1427, rfl, hk1431⟩ hf1430
          refine ⟨.inr (Gr.still hk1431.cum.none), ?_⟩
          have hm1432 := hm1423.back hk1431
          have hm1433 := hm1432.seal 0 _ rfl rfl
          have hm1434 := hm1433.seal 1 _ rfl rfl
          exact L1257 _ _ ⟨A1424, c1425, A1426, c1427, hf1430.sel (l := [4, 6, 19, 20, 21, 25, 26, 30, 31, 32, 37, 38]) (by kernel_rfl), hm1434.sel [0, 1, 2, 3, 4, 5, 6, 7, 8, 9] _ rfl (by kernel_rfl)⟩
        · refine opOf hf1422 rfl (by kernel_rfl) (aOne [.agg #[.slice A98 (((rd x0 s79.1).Shape).length) c99, .slice A100 (((rd x0 s79.1).Data).length) c101]] (.agg #[.slice A98 (((rd x0 s79.1).Shape).length) c99, .slice A100 (((rd x0 s79.1).Data).length) c101]) [.cell ⟨b106, 0, none⟩ (.slice A98 (((rd x0 s79.1).Shape).length) c99), .cell ⟨b106, 1, none⟩ (.slice A100 (((rd x0 s79.1).Data).length) c101)] 39 hf1422 (by kernel_rfl) rfl (by kernel_rfl) ⟨(hm1423.cell 0 rfl rfl), (hm1423.cell 0 rfl rfl), trivial⟩ fun a1435 hf1436 => ?_)
          refine ⟨.inr (Gr.refl _ _), ?_⟩
          refine all1 7 (by kernel_rfl) ?_
          refine opOf hf1436 rfl (by kernel_rfl) (aCall (fid := 33) (args := [.agg #[.slice A98 (((rd x0 s79.1).Shape).length) c99, .slice A100 (((rd x0 s79.1).Data).length) c101]]) (d := 32) hf1436 (by kernel_rfl) (by kernel_rfl) callable33 (tensor_Copy.calls _ _ (⟨((rd x0 s79.1).Shape), ((rd x0 s79.1).Data)⟩ : Tensor) A98 (((rd x0 s79.1).Shape).length) c99 rfl A100 (((rd x0 s79.1).Data).length) c101 rfl (hm1423.give [2, 1] [.sl (Kd.int .i64) A98 c99 ((rd x0 s79.1).Shape), .sl Kd.float A100 c101 ((rd x0 s79.1).Data)] rfl rfl) r117 hr117) ?_)
          rintro _ w1441 a1442 ⟨A1437, c1438, A1439, c1440, rfl, hk1444⟩ hf1443
          refine ⟨.inr (Gr.still hk1444.cum.none), ?_⟩
          have hm1445 := hm1423.back hk1444
          have hm1446 := hm1445.seal 0 _ rfl rfl
          have hm1447 := hm1446.seal 1 _ rfl rfl
          refine all1 8 (by kernel_rfl) ?_
          refine opOf hf1443 rfl (by kernel_rfl) (aLit (cs := [.slice A1437 r117.Shape.length c1438, .slice A1439 r117.Data.length c1440]) (E := 29) (len := 1) (d := 33) hf1443 (by kernel_rfl) (by kernel_rfl) ?_)
          intro b1448 w1449 a1450 hbb1448 hx1452 hg1453 hf1451
          refine ⟨.inr (Gr.still hg1453), ?_⟩
          have hm1447s := hm1447.still hg1453
          have hm1454 := Mem.lit (kd := kTensor) (xs := ([r117] : List Tensor)) hm1447 hbb1448 hx1452 hg1453 (Els.one (kd := kTensor) (us := [.slice A1437 r117.Shape.length c1438, .slice A1439 r117.Data.length c1440]) (x := r117) (kTensor.mk r117 ⟨hm1447s.cpAt 0 rfl, (hm1447s.slAt 0 rfl)⟩ ⟨hm1447s.cpAt 1 rfl, (hm1447s.slAt 1 rfl)⟩))
          refine all1 9 (by kernel_rfl) ?_
          have e1463 : s79.2.2.length = s79.2.2.length := rfl
          have e1464 : 1 = ([r117] : List Tensor).length := rfl
          refine opOf hf1451 rfl (by kernel_rfl) (aApp (kd := kTensor) (base := 0) (E := 29) (A := A82) (B := (some ⟨b1448, 0, none⟩)) (c := c83) (c2 := 1) (xs := s79.2.2) (ys := ([r117] : List Tensor)) (k := s79.2.2.length) (m := 1) (sz := 2) (d := 34) hf1451 (by kernel_rfl) e1463 e1464 (by kernel_rfl) rfl (by kernel_rfl) (hm1454.at 7 rfl) (hm1454.at2 7 0 rfl rfl).2 (hm1454.cpAt 0 rfl) (Nat.zero_le _) (by have := g118; omega) ?_)
          intro A1455 c1456 w1457 a1458 ho1460 hg1461 hr1462 hf1459
          refine ⟨.inl (by decide), ?_⟩
          have hm1465 := hm1454.setOwn 7 _ rfl rfl ho1460 hg1461 hr1462
          refine all1 15 (by kernel_rfl) ?_
          refine opOf hf1459 rfl (by kernel_rfl) (aCall (fid := 34) (args := [.agg #[.slice A98 (((rd x0 s79.1).Shape).length) c99, .slice A100 (((rd x0 s79.1).Data).length) c101]]) (d := 40) hf1459 (by kernel_rfl) (by kernel_rfl) callable34 (shelf_noughts.calls _ _ (⟨((rd x0 s79.1).Shape), ((rd x0 s79.1).Data)⟩ : Tensor) A98 (((rd x0 s79.1).Shape).length) c99 rfl A100 (((rd x0 s79.1).Data).length) c101 rfl (hm1465.give [5, 4] [.sl (Kd.int .i64) A98 c99 ((rd x0 s79.1).Shape), .sl Kd.float A100 c101 ((rd x0 s79.1).Data)] rfl rfl) r119 hr119) ?_)
          rintro _ w1470 a1471 ⟨A1466, c1467, A1468, c1469, rfl, hk1473⟩ hf1472
          refine ⟨.inr (Gr.still hk1473.cum.none), ?_⟩
          have hm1474 := hm1465.back hk1473
          have hm1475 := hm1474.seal 0 _ rfl rfl
          have hm1476 := hm1475.seal 1 _ rfl rfl
          refine all1 16 (by kernel_rfl) ?_
          refine opOf hf1472 rfl (by kernel_rfl) (aLit (cs := [.slice A1466 r119.Shape.length c1467, .slice A1468 r119.Data.length c1469]) (E := 29) (len := 1) (d := 41) hf1472 (by kernel_rfl) (by kernel_rfl) ?_)
          intro b1477 w1478 a1479 hbb1477 hx1481 hg1482 hf1480
          refine ⟨.inr (Gr.still hg1482), ?_⟩
          have hm1476s := hm1476.still hg1482
          have hm1483 := Mem.lit (kd := kTensor) (xs := ([r119] : List Tensor)) hm1476 hbb1477 hx1481 hg1482 (Els.one (kd := kTensor) (us := [.slice A1466 r119.Shape.length c1467, .slice A1468 r119.Data.length c1469]) (x := r119) (kTensor.mk r119 ⟨hm1476s.cpAt 0 rfl, (hm1476s.slAt 0 rfl)⟩ ⟨hm1476s.cpAt 1 rfl, (hm1476s.slAt 1 rfl)⟩))
          refine all1 17 (by kernel_rfl) ?_
          have e1492 : s79.2.1.length = s79.2.1.length := rfl
          have e1493 : 1 = ([r119] : List Tensor).length := rfl
          refine opOf hf1480 rfl (by kernel_rfl) (aApp (kd := kTensor) (base := 0) (E := 29) (A := A80) (B := (some ⟨b1477, 0, none⟩)) (c := c81) (c2 := 1) (xs := s79.2.1) (ys := ([r119] : List Tensor)) (k := s79.2.1.length) (m := 1) (sz := 2) (d := 42) hf1480 (by kernel_rfl) e1492 e1493 (by kernel_rfl) rfl (by kernel_rfl) (hm1483.at 9 rfl) (hm1483.at2 9 0 rfl rfl).2 (hm1483.cpAt 0 rfl) (Nat.zero_le _) (by have := g120; omega) ?_)
          intro A1484 c1485 w1486 a1487 ho1489 hg1490 hr1491 hf1488
          refine ⟨.inl (by decide), ?_⟩
          have hm1494 := hm1483.setOwn 9 _ rfl rfl ho1489 hg1490 hr1491
          refine quiet0 [18, 19] [] [4, 19, 20, 21, 26, 34, 42, 44] #[true, true, true, true, true, true, true, true, true, true, true, true, true, true, true, true, true, true, true, true, false, false, false, false] [(4, .pointer (some ⟨b59, 0, none⟩)), (19, .slice A0 x0.length c0), (20, .int .i64 (x0.length : Int)), (21, .int .i64 s79.1), (26, .pointer (some ⟨b59, 0, none⟩)), (34, .slice A1455 ((s79.2.2 ++ ([r117] : List Tensor)).length) c1456), (42, .slice A1484 ((s79.2.1 ++ ([r119] : List Tensor)).length) c1485), (44, .pointer (some ⟨b59, 0, none⟩))] [] 4 rfl (by kernel_rfl) (fun _ _ _ _ _ h => nomatch h.1) hf1488 (by kernel_rfl) trivial fun a1495 hf1496 => ?_
          refine all1 20 (by kernel_rfl) ?_
          refine opOf hf1496 rfl (by kernel_rfl) (aStoreB (b := b59) (j := 0) (T := 72) (cs := [.slice A82 s79.2.2.length c83, .slice A48 ((List.replicate ((x0.length : Int)).toNat (0 : Int)).length) c49, .slice A80 s79.2.1.length c81]) (us := [.slice A1455 ((s79.2.2 ++ ([r117] : List Tensor)).length) c1456]) (cs' := [.slice A1455 ((s79.2.2 ++ ([r117] : List Tensor)).length) c1456, .slice A48 ((List.replicate ((x0.length : Int)).toNat (0 : Int)).length) c49, .slice A80 s79.2.1.length c81]) hf1496 (by kernel_rfl) (hm1494.bxAt 11 rfl) (by kernel_rfl) (by kernel_rfl) (by kernel_rfl) ?_)
          intro w1497 hx1498 hg1499
          refine ⟨.inl (by decide), ?_⟩
          have hm1500 := hm1494.setBox 11 _ rfl rfl hx1498 hg1499
          refine quiet0 [21, 22] [] [4, 19, 20, 21, 42, 46] #[true, true, true, true, true, true, true, true, true, true, true, true, true, true, true, true, true, true, true, true, true, true, true, false] [(4, .pointer (some ⟨b59, 0, none⟩)), (19, .slice A0 x0.length c0), (20, .int .i64 (x0.length : Int)), (21, .int .i64 s79.1), (42, .slice A1484 ((s79.2.1 ++ ([r119] : List Tensor)).length) c1485), (46, .pointer (some ⟨b59, 2, none⟩))] [] 1 rfl (by kernel_rfl) (fun _ _ _ _ _ h => nomatch h.1) hf1496 (by kernel_rfl) trivial fun a1501 hf1502 => ?_
          refine all1 23 (by kernel_rfl) ?_
          refine opOf hf1502 rfl (by kernel_rfl) (aStoreB (b := b59) (j := 2) (T := 72) (cs := [.slice A1455 ((s79.2.2 ++ ([r117] : List Tensor)).length) c1456, .slice A48 ((List.replicate ((x0.length : Int)).toNat (0 : Int)).length) c49, .slice A80 s79.2.1.length c81]) (us := [.slice A1484 ((s79.2.1 ++ ([r119] : List Tensor)).length) c1485]) (cs' := [.slice A1455 ((s79.2.2 ++ ([r117] : List Tensor)).length) c1456, .slice A48 ((List.replicate ((x0.length : Int)).toNat (0 : Int)).length) c49, .slice A1484 ((s79.2.1 ++ ([r119] : List Tensor)).length) c1485]) hf1502 (by kernel_rfl) (hm1500.bxAt 11 rfl) (by kernel_rfl) (by kernel_rfl) (by kernel_rfl) ?_)
          intro w1503 hx1504 hg1505
          refine ⟨.inl (by decide), ?_⟩
          have hm1506 := hm1500.setBox 11 _ rfl rfl hx1504 hg1505
          refine allDone (by kernel_rfl) ⟨rfl, A1484, c1485, A1455, c1456, hf1502.sel (l := [4, 19, 20, 21]) (by kernel_rfl), hm1506.sel [9, 10, 11, 12, 13] _ rfl (by kernel_rfl)⟩
      refine memoStep (R := fun (a : Act) (w : World) => Fr 49 a [(4, .pointer (some ⟨b59, 0, none⟩)), (6, .pointer (some ⟨b106, 0, none⟩)), (19, .slice A0 x0.length c0), (20, .int .i64 (x0.length : Int)), (21, .int .i64 s79.1), (25, .pointer (some ⟨b59, 0, none⟩)), (26, .pointer (some ⟨b59, 0, none⟩)), (30, .slice A82 s79.2.2.length c83), (31, .agg #[.slice A98 (((rd x0 s79.1).Shape).length) c99, .slice A100 (((rd x0 s79.1).Data).length) c101]), (37, .pointer (some ⟨b59, 2, none⟩)), (39, .agg #[.slice A98 (((rd x0 s79.1).Shape).length) c99, .slice A100 (((rd x0 s79.1).Data).length) c101])] ∧ Mem [] M w0 [.bx b106 [.slice A98 (((rd x0 s79.1).Shape).length) c99, .slice A100 (((rd x0 s79.1).Data).length) c101] 29, .sl Kd.float A100 c101 ((rd x0 s79.1).Data), .sl (Kd.int .i64) A98 c99 ((rd x0 s79.1).Shape), .ow kTensor 29 A80 c81 s79.2.1, .ow kTensor 29 A82 c83 s79.2.2, .bx b59 [.slice A82 s79.2.2.length c83, .slice A48 ((List.replicate ((x0.length : Int)).toNat (0 : Int)).length) c49, .slice A80 s79.2.1.length c81] 72, .ow (Kd.int .i64) 3 A48 c49 (List.replicate ((x0.length : Int)).toNat (0 : Int)), .sl kTensor A0 c0 x0] w) #[true, true, true, true, true, true, true, false, false, false, true, true, true, false, true, false, false, false, false, false, false, false, false, false] 13 ?_ fun L1507 => ?_
      · rintro a1508 w1509 ⟨hf1510, hm1511⟩
        refine all2 7 13 (by kernel_rfl) ?_ ?_
        · refine opOf hf1510 rfl (by kernel_rfl) (aCall (fid := 33) (args := [.agg #[.slice A98 (((rd x0 s79.1).Shape).length) c99, .slice A100 (((rd x0 s79.1).Data).length) c101]]) (d := 32) hf1510 (by kernel_rfl) (by kernel_rfl) callable33 (tensor_Copy.calls _ _ (⟨((rd x0 s79.1).Shape), ((rd x0 s79.1).Data)⟩ : Tensor) A98 (((rd x0 s79.1).Shape).length) c99 rfl A100 (((rd x0 s79.1).Data).length) c101 rfl (hm1511.give [2, 1] [.sl (Kd.int .i64) A98 c99 ((rd x0 s79.1).Shape), .sl Kd.float A100 c101 ((rd x0 s79.1).Data)] rfl rfl) r117 hr117) ?_)
          rintro _ w1516 a1517 ⟨A1512, c1513, A1514, c1515, rfl, hk1519⟩ hf1518
          refine ⟨.inr (Gr.still hk1519.cum.none), ?_⟩
          have hm1520 := hm1511.back hk1519
          have hm1521 := hm1520.seal 0 _ rfl rfl
          have hm1522 := hm1521.seal 1 _ rfl rfl
          exact L1330 _ _ ⟨A1512, c1513, A1514, c1515, hf1518.sel (l := [4, 6, 19, 20, 21, 25, 26, 30, 31, 32, 37, 39]) (by kernel_rfl), hm1522.sel [0, 1, 2, 3, 4, 5, 6, 7, 8, 9] _ rfl (by kernel_rfl)⟩
        · refine opOf hf1510 rfl (by kernel_rfl) (aOne [.slice A80 s79.2.1.length c81] (.slice A80 s79.2.1.length c81) [.cell ⟨b59, 2, none⟩ (.slice A80 s79.2.1.length c81)] 38 hf1510 (by kernel_rfl) rfl (by kernel_rfl) ⟨(hm1511.cell 5 rfl rfl), trivial⟩ fun a1523 hf1524 => ?_)
          refine ⟨.inr (Gr.refl _ _), ?_⟩
          refine all1 7 (by kernel_rfl) ?_
          refine opOf hf1524 rfl (by kernel_rfl) (aCall (fid := 33) (args := [.agg #[.slice A98 (((rd x0 s79.1).Shape).length) c99, .slice A100 (((rd x0 s79.1).Data).length) c101]]) (d := 32) hf1524 (by kernel_rfl) (by kernel_rfl) callable33 (tensor_Copy.calls _ _ (⟨((rd x0 s79.1).Shape), ((rd x0 s79.1).Data)⟩ : Tensor) A98 (((rd x0 s79.1).Shape).length) c99 rfl A100 (((rd x0 s79.1).Data).length) c101 rfl (hm1511.give [2, 1] [.sl (Kd.int .i64) A98 c99 ((rd x0 s79.1).Shape), .sl Kd.float A100 c101 ((rd x0 s79.1).Data)] rfl rfl) r117 hr117) ?_)
          rintro _ w1529 a1530 ⟨A1525, c1526, A1527, c1528, rfl, hk1532⟩ hf1531
          refine ⟨.inr (Gr.still hk1532.cum.none), ?_⟩
          have hm1533 := hm1511.back hk1532
          have hm1534 := hm1533.seal 0 _ rfl rfl
          have hm1535 := hm1534.seal 1 _ rfl rfl
          refine all1 8 (by kernel_rfl) ?_
          refine opOf hf1531 rfl (by kernel_rfl) (aLit (cs := [.slice A1525 r117.Shape.length c1526, .slice A1527 r117.Data.length c1528]) (E := 29) (len := 1) (d := 33) hf1531 (by kernel_rfl) (by kernel_rfl) ?_)
          intro b1536 w1537 a1538 hbb1536 hx1540 hg1541 hf1539
          refine ⟨.inr (Gr.still hg1541), ?_⟩
          have hm1535s := hm1535.still hg1541
          have hm1542 := Mem.lit (kd := kTensor) (xs := ([r117] : List Tensor)) hm1535 hbb1536 hx1540 hg1541 (Els.one (kd := kTensor) (us := [.slice A1525 r117.Shape.length c1526, .slice A1527 r117.Data.length c1528]) (x := r117) (kTensor.mk r117 ⟨hm1535s.cpAt 0 rfl, (hm1535s.slAt 0 rfl)⟩ ⟨hm1535s.cpAt 1 rfl, (hm1535s.slAt 1 rfl)⟩))
          refine all1 9 (by kernel_rfl) ?_
          have e1551 : s79.2.2.length = s79.2.2.length := rfl
          have e1552 : 1 = ([r117] : List Tensor).length := rfl
          refine opOf hf1539 rfl (by kernel_rfl) (aApp (kd := kTensor) (base := 0) (E := 29) (A := A82) (B := (some ⟨b1536, 0, none⟩)) (c := c83) (c2 := 1) (xs := s79.2.2) (ys := ([r117] : List Tensor)) (k := s79.2.2.length) (m := 1) (sz := 2) (d := 34) hf1539 (by kernel_rfl) e1551 e1552 (by kernel_rfl) rfl (by kernel_rfl) (hm1542.at 7 rfl) (hm1542.at2 7 0 rfl rfl).2 (hm1542.cpAt 0 rfl) (Nat.zero_le _) (by have := g118; omega) ?_)
          intro A1543 c1544 w1545 a1546 ho1548 hg1549 hr1550 hf1547
          refine ⟨.inl (by decide), ?_⟩
          have hm1553 := hm1542.setOwn 7 _ rfl rfl ho1548 hg1549 hr1550
          refine all1 15 (by kernel_rfl) ?_
          refine opOf hf1547 rfl (by kernel_rfl) (aCall (fid := 34) (args := [.agg #[.slice A98 (((rd x0 s79.1).Shape).length) c99, .slice A100 (((rd x0 s79.1).Data).length) c101]]) (d := 40) hf1547 (by kernel_rfl) (by kernel_rfl) callable34 (shelf_noughts.calls _ _ (⟨((rd x0 s79.1).Shape), ((rd x0 s79.1).Data)⟩ : Tensor) A98 (((rd x0 s79.1).Shape).length) c99 rfl A100 (((rd x0 s79.1).Data).length) c101 rfl (hm1553.give [5, 4] [.sl (Kd.int .i64) A98 c99 ((rd x0 s79.1).Shape), .sl Kd.float A100 c101 ((rd x0 s79.1).Data)] rfl rfl) r119 hr119) ?_)
          rintro _ w1558 a1559 ⟨A1554, c1555, A1556, c1557, rfl, hk1561⟩ hf1560
          refine ⟨.inr (Gr.still hk1561.cum.none), ?_⟩
          have hm1562 := hm1553.back hk1561
          have hm1563 := hm1562.seal 0 _ rfl rfl
          have hm1564 := hm1563.seal 1 _ rfl rfl
          refine all1 16 (by kernel_rfl) ?_
          refine opOf hf1560 rfl (by kernel_rfl) (aLit (cs := [.slice A1554 r119.Shape.length c1555, .slice A1556 r119.Data.length c1557]) (E := 29) (len := 1) (d := 41) hf1560 (by kernel_rfl) (by kernel_rfl) ?_)
          intro b1565 w1566 a1567 hbb1565 hx1569 hg1570 hf1568
          refine ⟨.inr (Gr.still hg1570), ?_⟩
          have hm1564s := hm1564.still hg1570
          have hm1571 := Mem.lit (kd := kTensor) (xs := ([r119] : List Tensor)) hm1564 hbb1565 hx1569 hg1570 (Els.one (kd := kTensor) (us := [.slice A1554 r119.Shape.length c1555, .slice A1556 r119.Data.length c1557]) (x := r119) (kTensor.mk r119 ⟨hm1564s.cpAt 0 rfl, (hm1564s.slAt 0 rfl)⟩ ⟨hm1564s.cpAt 1 rfl, (hm1564s.slAt 1 rfl)⟩))
          refine all1 17 (by kernel_rfl) ?_
          have e1580 : s79.2.1.length = s79.2.1.length := rfl
          have e1581 : 1 = ([r119] : List Tensor).length := rfl
          refine opOf hf1568 rfl (by kernel_rfl) (aApp (kd := kTensor) (base := 0) (E := 29) (A := A80) (B := (some ⟨b1565, 0, none⟩)) (c := c81) (c2 := 1) (xs := s79.2.1) (ys := ([r119] : List Tensor)) (k := s79.2.1.length) (m := 1) (sz := 2) (d := 42) hf1568 (by kernel_rfl) e1580 e1581 (by kernel_rfl) rfl (by kernel_rfl) (hm1571.at 9 rfl) (hm1571.at2 9 0 rfl rfl).2 (hm1571.cpAt 0 rfl) (Nat.zero_le _) (by have := g120; omega) ?_)
          intro A1572 c1573 w1574 a1575 ho1577 hg1578 hr1579 hf1576
          refine ⟨.inl (by decide), ?_⟩
          have hm1582 := hm1571.setOwn 9 _ rfl rfl ho1577 hg1578 hr1579
          refine quiet0 [18, 19] [] [4, 19, 20, 21, 26, 34, 42, 44] #[true, true, true, true, true, true, true, true, true, true, true, true, true, true, true, true, true, true, true, true, false, false, false, false] [(4, .pointer (some ⟨b59, 0, none⟩)), (19, .slice A0 x0.length c0), (20, .int .i64 (x0.length : Int)), (21, .int .i64 s79.1), (26, .pointer (some ⟨b59, 0, none⟩)), (34, .slice A1543 ((s79.2.2 ++ ([r117] : List Tensor)).length) c1544), (42, .slice A1572 ((s79.2.1 ++ ([r119] : List Tensor)).length) c1573), (44, .pointer (some ⟨b59, 0, none⟩))] [] 4 rfl (by kernel_rfl) (fun _ _ _ _ _ h => nomatch h.1) hf1576 (by kernel_rfl) trivial fun a1583 hf1584 => ?_
          refine all1 20 (by kernel_rfl) ?_
          refine opOf hf1584 rfl (by kernel_rfl) (aStoreB (b := b59) (j := 0) (T := 72) (cs := [.slice A82 s79.2.2.length c83, .slice A48 ((List.replicate ((x0.length : Int)).toNat (0 : Int)).length) c49, .slice A80 s79.2.1.length c81]) (us := [.slice A1543 ((s79.2.2 ++ ([r117] : List Tensor)).length) c1544]) (cs' := [.slice A1543 ((s79.2.2 ++ ([r117] : List Tensor)).length) c1544, .slice A48 ((List.replicate ((x0.length : Int)).toNat (0 : Int)).length) c49, .slice A80 s79.2.1.length c81]) hf1584 (by kernel_rfl) (hm1582.bxAt 11 rfl) (by kernel_rfl) (by kernel_rfl) (by kernel_rfl) ?_)
          intro w1585 hx1586 hg1587
          refine ⟨.inl (by decide), ?_⟩
          have hm1588 := hm1582.setBox 11 _ rfl rfl hx1586 hg1587
          refine quiet0 [21, 22] [] [4, 19, 20, 21, 42, 46] #[true, true, true, true, true, true, true, true, true, true, true, true, true, true, true, true, true, true, true, true, true, true, true, false] [(4, .pointer (some ⟨b59, 0, none⟩)), (19, .slice A0 x0.length c0), (20, .int .i64 (x0.length : Int)), (21, .int .i64 s79.1), (42, .slice A1572 ((s79.2.1 ++ ([r119] : List Tensor)).length) c1573), (46, .pointer (some ⟨b59, 2, none⟩))] [] 1 rfl (by kernel_rfl) (fun _ _ _ _ _ h => nomatch h.1) hf1584 (by kernel_rfl) trivial fun a1589 hf1590 => ?_
          refine all1 23 (by kernel_rfl) ?_
          refine opOf hf1590 rfl (by kernel_rfl) (aStoreB (b := b59) (j := 2) (T := 72) (cs := [.slice A1543 ((s79.2.2 ++ ([r117] : List Tensor)).length) c1544, .slice A48 ((List.replicate ((x0.length : Int)).toNat (0 : Int)).length) c49, .slice A80 s79.2.1.length c81]) (us := [.slice A1572 ((s79.2.1 ++ ([r119] : List Tensor)).length) c1573]) (cs' := [.slice A1543 ((s79.2.2 ++ ([r117] : List Tensor)).length) c1544, .slice A48 ((List.replicate ((x0.length : Int)).toNat (0 : Int)).length) c49, .slice A1572 ((s79.2.1 ++ ([r119] : List Tensor)).length) c1573]) hf1590 (by kernel_rfl) (hm1588.bxAt 11 rfl) (by kernel_rfl) (by kernel_rfl) (by kernel_rfl) ?_)
          intro w1591 hx1592 hg1593
          refine ⟨.inl (by decide), ?_⟩
          have hm1594 := hm1588.setBox 11 _ rfl rfl hx1592 hg1593
          refine allDone (by kernel_rfl) ⟨rfl, A1572, c1573, A1543, c1544, hf1590.sel (l := [4, 19, 20, 21]) (by kernel_rfl), hm1594.sel [9, 10, 11, 12, 13] _ rfl (by kernel_rfl)⟩
      refine memoStep (R := fun (a : Act) (w : World) => Fr 49 a [(4, .pointer (some ⟨b59, 0, none⟩)), (6, .pointer (some ⟨b106, 0, none⟩)), (19, .slice A0 x0.length c0), (20, .int .i64 (x0.length : Int)), (21, .int .i64 s79.1), (25, .pointer (some ⟨b59, 0, none⟩)), (26, .pointer (some ⟨b59, 0, none⟩)), (30, .slice A82 s79.2.2.length c83), (31, .agg #[.slice A98 (((rd x0 s79.1).Shape).length) c99, .slice A100 (((rd x0 s79.1).Data).length) c101]), (37, .pointer (some ⟨b59, 2, none⟩))] ∧ Mem [] M w0 [.bx b106 [.slice A98 (((rd x0 s79.1).Shape).length) c99, .slice A100 (((rd x0 s79.1).Data).length) c101] 29, .sl Kd.float A100 c101 ((rd x0 s79.1).Data), .sl (Kd.int .i64) A98 c99 ((rd x0 s79.1).Shape), .ow kTensor 29 A80 c81 s79.2.1, .ow kTensor 29 A82 c83 s79.2.2, .bx b59 [.slice A82 s79.2.2.length c83, .slice A48 ((List.replicate ((x0.length : Int)).toNat (0 : Int)).length) c49, .slice A80 s79.2.1.length c81] 72, .ow (Kd.int .i64) 3 A48 c49 (List.replicate ((x0.length : Int)).toNat (0 : Int)), .sl kTensor A0 c0 x0] w) #[true, true, true, true, true, true, true, false, false, false, true, true, true, false, false, false, false, false, false, false, false, false, false, false] 14 ?_ fun L1595 => ?_
      · rintro a1596 w1597 ⟨hf1598, hm1599⟩
        refine all3 7 13 14 (by kernel_rfl) ?_ ?_ ?_
        · refine opOf hf1598 rfl (by kernel_rfl) (aCall (fid := 33) (args := [.agg #[.slice A98 (((rd x0 s79.1).Shape).length) c99, .slice A100 (((rd x0 s79.1).Data).length) c101]]) (d := 32) hf1598 (by kernel_rfl) (by kernel_rfl) callable33 (tensor_Copy.calls _ _ (⟨((rd x0 s79.1).Shape), ((rd x0 s79.1).Data)⟩ : Tensor) A98 (((rd x0 s79.1).Shape).length) c99 rfl A100 (((rd x0 s79.1).Data).length) c101 rfl (hm1599.give [2, 1] [.sl (Kd.int .i64) A98 c99 ((rd x0 s79.1).Shape), .sl Kd.float A100 c101 ((rd x0 s79.1).Data)] rfl rfl) r117 hr117) ?_)
          rintro _ w1604 a1605 ⟨A1600, c1601, A1602, c1603, rfl, hk1607⟩ hf1606
          refine ⟨.inr (Gr.still hk1607.cum.none), ?_⟩
          have hm1608 := hm1599.back hk1607
          have hm1609 := hm1608.seal 0 _ rfl rfl
          have hm1610 := hm1609.seal 1 _ rfl rfl
          exact L1403 _ _ ⟨A1600, c1601, A1602, c1603, hf1606.sel (l := [4, 6, 19, 20, 21, 25, 26, 30, 31, 32, 37]) (by kernel_rfl), hm1610.sel [0, 1, 2, 3, 4, 5, 6, 7, 8, 9] _ rfl (by kernel_rfl)⟩
        · refine opOf hf1598 rfl (by kernel_rfl) (aOne [.slice A80 s79.2.1.length c81] (.slice A80 s79.2.1.length c81) [.cell ⟨b59, 2, none⟩ (.slice A80 s79.2.1.length c81)] 38 hf1598 (by kernel_rfl) rfl (by kernel_rfl) ⟨(hm1599.cell 5 rfl rfl), trivial⟩ fun a1611 hf1612 => ?_)
          refine ⟨.inr (Gr.refl _ _), ?_⟩
          exact L1419 _ _ ⟨hf1612.sel (l := [4, 6, 19, 20, 21, 25, 26, 30, 31, 37, 38]) (by kernel_rfl), hm1599.sel [0, 1, 2, 3, 4, 5, 6, 7] _ rfl (by kernel_rfl)⟩
        · refine opOf hf1598 rfl (by kernel_rfl) (aOne [.agg #[.slice A98 (((rd x0 s79.1).Shape).length) c99, .slice A100 (((rd x0 s79.1).Data).length) c101]] (.agg #[.slice A98 (((rd x0 s79.1).Shape).length) c99, .slice A100 (((rd x0 s79.1).Data).length) c101]) [.cell ⟨b106, 0, none⟩ (.slice A98 (((rd x0 s79.1).Shape).length) c99), .cell ⟨b106, 1, none⟩ (.slice A100 (((rd x0 s79.1).Data).length) c101)] 39 hf1598 (by kernel_rfl) rfl (by kernel_rfl) ⟨(hm1599.cell 0 rfl rfl), (hm1599.cell 0 rfl rfl), trivial⟩ fun a1613 hf1614 => ?_)
          refine ⟨.inr (Gr.refl _ _), ?_⟩
          exact L1507 _ _ ⟨hf1614.sel (l := [4, 6, 19, 20, 21, 25, 26, 30, 31, 37, 39]) (by kernel_rfl), hm1599.sel [0, 1, 2, 3, 4, 5, 6, 7] _ rfl (by kernel_rfl)⟩
      refine quiet0 [0, 1, 2, 3, 4, 5, 6, 10, 11, 12] [.slice A82 s79.2.2.length c83, .agg #[.slice A98 (((rd x0 s79.1).Shape).length) c99, .slice A100 (((rd x0 s79.1).Data).length) c101]] [4, 6, 19, 20, 21, 25, 26, 30, 31, 37] #[true, true, true, true, true, true, true, false, false, false, true, true, true, false, false, false, false, false, false, false, false, false, false, false] [(4, .pointer (some ⟨b59, 0, none⟩)), (6, .pointer (some ⟨b106, 0, none⟩)), (19, .slice A0 x0.length c0), (20, .int .i64 (x0.length : Int)), (21, .int .i64 s79.1), (25, .pointer (some ⟨b59, 0, none⟩)), (26, .pointer (some ⟨b59, 0, none⟩)), (30, .slice A82 s79.2.2.length c83), (31, .agg #[.slice A98 (((rd x0 s79.1).Shape).length) c99, .slice A100 (((rd x0 s79.1).Data).length) c101]), (37, .pointer (some ⟨b59, 2, none⟩))] [.cell ⟨b59, 0, none⟩ (.slice A82 s79.2.2.length c83), .cell ⟨b106, 0, none⟩ (.slice A98 (((rd x0 s79.1).Shape).length) c99), .cell ⟨b106, 1, none⟩ (.slice A100 (((rd x0 s79.1).Data).length) c101)] 14 rfl (by kernel_rfl) (fun _ _ _ _ _ h => nomatch h.1) hf109 (by kernel_rfl) ⟨(hm190.cell 5 rfl rfl), (hm190.cell 0 rfl rfl), (hm190.cell 0 rfl rfl), trivial⟩ fun a1615 hf1616 => ?_
      exact L1595 _ _ ⟨hf1616.sel (l := [4, 6, 19, 20, 21, 25, 26, 30, 31, 37]) (by kernel_rfl), hm190.sel [0, 1, 2, 3, 4, 5, 6, 7] _ rfl (by kernel_rfl)⟩
    rintro a1617 w1618 ⟨A168, c169, A139, c140, hf1619, hm1620⟩
    refine blkN ?_
    refine thenN ?_
    refine reg [] [4, 19, 20, 21] [(4, .pointer (some ⟨b59, 0, none⟩)), (19, .slice A0 x0.length c0), (20, .int .i64 (x0.length : Int)), (21, .int .i64 (w64 (s79.1 + 1)))] [] hf1619 (by kernel_rfl) trivial fun a1621 hf1622 => ?_
    exact ⟨((w64 (s79.1 + 1)), (s79.2.1 ++ ([r119] : List Tensor)), (s79.2.2 ++ ([r117] : List Tensor))), H1, A168, c169, A139, c140, hf1622.sel (l := [4, 19, 20, 21]) (by kernel_rfl), hm1620.sel [0, 1, 2, 3, 4] _ rfl (by kernel_rfl)⟩
  rintro a1625 w1626 ⟨A80, c81, A82, c83, hf1627, hm1628⟩
  refine thenN ?_
  refine wp_seq ?_
  refine reg [] [2, 3] [(2, .pointer (some ⟨b59, 0, none⟩)), (3, .int .i64 0)] [] hf1627 (by kernel_rfl) trivial fun a1629 hf1630 => ?_
  have hm1631 := hm1628.sel [0, 1, 2, 3] _ rfl (by kernel_rfl)
  refine thenN ?_
  refine wp_ret ?_
  have hm1632 : Mem [] M w0 [.bx b59 [.slice A82 r84.2.2.length c83, .slice A48 ((List.replicate ((x0.length : Int)).toNat (0 : Int)).length) c49, .slice A80 r84.2.1.length c81] 72, .ow kTensor 29 A82 c83 r84.2.2, .ow (Kd.int .i64) 3 A48 c49 (List.replicate ((x0.length : Int)).toNat (0 : Int)), .ow kTensor 29 A80 c81 r84.2.1] w1626 := hm1631.sel [2, 1, 3, 0] _ rfl (by kernel_rfl)
  obtain rfl := Option.some.inj H0
  obtain rfl := Option.some.inj hp
  refine ret [] [.pointer (some ⟨b59, 0, none⟩), .int .i64 0] [] hf1630 (by kernel_rfl) trivial ?_
  exact ⟨_, rfl, b59, A82, c83, A48, c49, A80, c81, rfl, hm1632⟩
set_option maxRecDepth 100000 in
set_option maxHeartbeats 4000000 in
theorem shelf_New.calls_n (M : List (Option Nat)) (w0 : World) (x0 : (List Tensor)) (A0 : Option Addr) (n0 c0 : Nat) (e0 : n0 = x0.length) (hm0 : Mem [] M w0 [.sl kTensor A0 c0 x0] w0) (r : ((Option Shelf) × Int)) (hp : r.1 = none) (H0 : shelf_New.f x0 = some r) :
    Calls Try.prog 10 [.slice A0 n0 c0].toArray w0 (fun x w' => ∃ v, x = .returned v ∧ v = .tuple #[.pointer none, .int .i64 r.2] ∧ Mem [] M w0 [] w') := by
  subst e0
  unfold shelf_New.f at H0
  refine enter (n := 49) Try.func10 rfl rfl (by kernel_rfl) fun a0 (hf0 : Fr 49 a0 [(0, .slice A0 x0.length c0)]) => ?_
  refine wp_seq ?_
  refine reg [] [0] [(0, .slice A0 x0.length c0)] [] hf0 (by kernel_rfl) trivial fun a21 hf22 => ?_
  refine thenN ?_
  refine wp_seq ?_
  refine wp_block ?_
  refine wp_seq ?_
  rcases if_split H0 with ⟨c23, H0⟩ | ⟨c23, H0⟩
  · refine reg [.bool true] [0, 7] [(0, .slice A0 x0.length c0), (7, .bool true)] [.is (decide (32 < (x0.length : Int)) = true)] hf22 (by kernel_rfl) ⟨(decide_eq_true c23), trivial⟩ fun a24 hf25 => ?_
    refine thenN ?_
    refine condT hf25 (by kernel_rfl) ?_
    refine wp_seq ?_
    refine reg [] [2, 3] [(2, .pointer none), (3, .int .i64 13)] [] hf25 (by kernel_rfl) trivial fun a26 hf27 => ?_
    have hm28 := hm0.sel [] _ rfl (by kernel_rfl)
    refine thenN ?_
    refine wp_ret ?_
    refine blkR ?_
    refine thenR ?_
    have hm29 : Mem [] M w0 [] w0 := hm28.sel [] _ rfl (by kernel_rfl)
    obtain rfl := Option.some.inj H0
    refine ret [] [.pointer none, .int .i64 13] [] hf27 (by kernel_rfl) trivial ?_
    exact ⟨_, rfl, rfl, hm29⟩
  refine reg [.bool false] [0, 7] [(0, .slice A0 x0.length c0), (7, .bool false)] [.is (decide (32 < (x0.length : Int)) = false)] hf22 (by kernel_rfl) ⟨(decide_eq_false c23), trivial⟩ fun a31 hf32 => ?_
  refine thenN ?_
  refine condF hf32 (by kernel_rfl) ?_
  refine wp_seq ?_
  obtain ⟨r33, hr33, H0⟩ := ob_split H0
  refine inReg ?_
  refine go 1 [] [0, 12] [(0, .slice A0 x0.length c0), (12, .slice A0 x0.length c0)] [] hf32 (by kernel_rfl) trivial fun a34 hf35 => ?_
  refine listOf hf35 rfl (by kernel_rfl) (aCall (fid := 30) (args := [.slice A0 x0.length c0, .func (.func 31) #[] #[]]) (d := 13) hf35 (by kernel_rfl) (by kernel_rfl) callable30 (slices_ContainsFunc_api_Tensor_shelf_New_1.calls _ _ x0 A0 x0.length c0 rfl (hm0.give [0] [.sl kTensor A0 c0 x0] rfl rfl) r33 hr33) ?_)
  rintro _ w36 a37 ⟨rfl, hk39⟩ hf38
  have hm40 := hm0.still hk39.cum.none
  refine go 1 [] [0, 11] [(0, .slice A0 x0.length c0), (11, .bool r33)] [] hf38 (by kernel_rfl) trivial fun a41 hf42 => ?_
  refine endL rfl ?_
  refine thenN ?_
  rcases ifb_split H0 with ⟨c43, H0⟩ | ⟨c43, H0⟩
  · rw [c43] at hf42
    refine condT hf42 (by kernel_rfl) ?_
    refine wp_seq ?_
    refine reg [] [2, 3] [(2, .pointer none), (3, .int .i64 2)] [] hf42 (by kernel_rfl) trivial fun a44 hf45 => ?_
    have hm46 := hm40.sel [] _ rfl (by kernel_rfl)
    refine thenN ?_
    refine wp_ret ?_
    refine blkR ?_
    refine thenR ?_
    have hm47 : Mem [] M w0 [] w36 := hm46.sel [] _ rfl (by kernel_rfl)
    obtain rfl := Option.some.inj H0
    refine ret [] [.pointer none, .int .i64 2] [] hf45 (by kernel_rfl) trivial ?_
    exact ⟨_, rfl, rfl, hm47⟩
  rw [c43] at hf42
  refine condF hf42 (by kernel_rfl) ?_
  refine wp_skip ?_
  refine blkN ?_
  refine thenN ?_
  refine wp_seq ?_
  obtain ⟨g49, H0⟩ := if_guard H0
  refine inReg ?_
  refine go 2 [] [0, 15] [(0, .slice A0 x0.length c0), (15, .int .i64 (x0.length : Int))] [] hf42 (by kernel_rfl) trivial fun a50 hf51 => ?_
  refine listOf hf51 rfl (by kernel_rfl) (aMake (kd := (Kd.int .i64)) (x := 0) (E := 3) (L := (x0.length : Int)) (z := [.int .i64 0]) (sz := 1) (d := 16) hf51 (by kernel_rfl) (by kernel_rfl) rfl (fun _ _ => rfl) g49.1 g49.2 ?_)
  intro A52 c53 w54 a55 ho57 hb59 hg58 hf56
  have hm60 : Mem [] M w0 [.ow (Kd.int .i64) 3 A52 c53 (List.replicate ((x0.length : Int)).toNat (0 : Int)), .sl kTensor A0 c0 x0] w54 := hm40.own (ho57 _) hg58
  refine go 1 [] [0, 17] [(0, .slice A0 x0.length c0), (17, .agg #[.slice none 0 0, .slice A52 ((List.replicate ((x0.length : Int)).toNat (0 : Int)).length) c53, .slice none 0 0])] [] hf56 (by kernel_rfl) trivial fun a61 hf62 => ?_
  refine listOf hf62 rfl (by kernel_rfl) (aNew (cs := [.slice none 0 0, .slice A52 ((List.replicate ((x0.length : Int)).toNat (0 : Int)).length) c53, .slice none 0 0]) (T := 72) (d := 18) hf62 (by kernel_rfl) (by kernel_rfl) ?_)
  intro b63 w65 a66 hbb63 hx68 hg69 hf67
  have hm70 := hm60.box hbb63 hx68 hg69
  refine go 1 [] [0, 4] [(0, .slice A0 x0.length c0), (4, .pointer (some ⟨b63, 0, none⟩))] [] hf67 (by kernel_rfl) trivial fun a71 hf72 => ?_
  refine endL rfl ?_
  refine thenN ?_
  refine wp_seq ?_
  refine wp_seq ?_
  refine reg [] [4, 19, 20, 21] [(4, .pointer (some ⟨b63, 0, none⟩)), (19, .slice A0 x0.length c0), (20, .int .i64 (x0.length : Int)), (21, .int .i64 0)] [] hf72 (by kernel_rfl) trivial fun a73 hf74 => ?_
  refine thenN ?_
  have hm76 := hm70.nilOw kTensor 29
  have hm78 := hm76.nilOw kTensor 29
  obtain ⟨r88, hr88, H0⟩ := ob_split H0
  refine wpBlock (Mid := fun (a : Act) (w : World) => ∃ (A84 : Option Addr) (c85 : Nat) (A86 : Option Addr) (c87 : Nat), Fr 49 a [(4, .pointer (some ⟨b63, 0, none⟩)), (19, .slice A0 x0.length c0), (20, .int .i64 (x0.length : Int)), (21, .int .i64 r88.1)] ∧ Mem [] M w0 [.ow kTensor 29 A84 c85 r88.2.1, .ow kTensor 29 A86 c87 r88.2.2, .bx b63 [.slice A86 r88.2.2.length c87, .slice A52 ((List.replicate ((x0.length : Int)).toNat (0 : Int)).length) c53, .slice A84 r88.2.1.length c85] 72, .ow (Kd.int .i64) 3 A52 c53 (List.replicate ((x0.length : Int)).toNat (0 : Int)), .sl kTensor A0 c0 x0] w) ?_ ?_
  · refine wpLoop (shelf_New.l0 x0) r88 (fun (s83 : (Int × (List Tensor) × (List Tensor))) (a : Act) (w : World) => ∃ (A84 : Option Addr) (c85 : Nat) (A86 : Option Addr) (c87 : Nat), Fr 49 a [(4, .pointer (some ⟨b63, 0, none⟩)), (19, .slice A0 x0.length c0), (20, .int .i64 (x0.length : Int)), (21, .int .i64 s83.1)] ∧ Mem [] M w0 [.ow kTensor 29 A84 c85 s83.2.1, .ow kTensor 29 A86 c87 s83.2.2, .bx b63 [.slice A86 s83.2.2.length c87, .slice A52 ((List.replicate ((x0.length : Int)).toNat (0 : Int)).length) c53, .slice A84 s83.2.1.length c85] 72, .ow (Kd.int .i64) 3 A52 c53 (List.replicate ((x0.length : Int)).toNat (0 : Int)), .sl kTensor A0 c0 x0] w) (0, ([] : (List Tensor)), ([] : (List Tensor))) hr88 ⟨none, 0, none, 0, hf74.sel (l := [4, 19, 20, 21]) (by kernel_rfl), hm78.sel [0, 1, 2, 3, 4] _ rfl (by kernel_rfl)⟩ ?_
    rintro g89 s83 a90 w91 H1 ⟨A84, c85, A86, c87, hf92, hm93⟩
    unfold shelf_New.l0 at H1
    refine wp_seq ?_
    rcases ifS_split H1 with ⟨c94, H1⟩ | ⟨c94, H1⟩
    rotate_left
    · refine reg [.bool false] [4, 19, 20, 21, 22] [(4, .pointer (some ⟨b63, 0, none⟩)), (19, .slice A0 x0.length c0), (20, .int .i64 (x0.length : Int)), (21, .int .i64 s83.1), (22, .bool false)] [.is (decide (s83.1 < (x0.length : Int)) = false)] hf92 (by kernel_rfl) ⟨(decide_eq_false c94), trivial⟩ fun a1627 hf1628 => ?_
      refine thenN ?_
      refine wp_seq ?_
      refine condF hf1628 (by kernel_rfl) ?_
      refine wp_exit ?_
      refine thenE ?_
      refine thenE ?_
      obtain rfl := Option.some.inj H1
      exact .inl ⟨rfl, A84, c85, A86, c87, hf1628.sel (l := [4, 19, 20, 21]) (by kernel_rfl), hm93.sel [0, 1, 2, 3, 4] _ rfl (by kernel_rfl)⟩
    refine reg [.bool true] [4, 19, 20, 21, 22] [(4, .pointer (some ⟨b63, 0, none⟩)), (19, .slice A0 x0.length c0), (20, .int .i64 (x0.length : Int)), (21, .int .i64 s83.1), (22, .bool true)] [.is (decide (s83.1 < (x0.length : Int)) = true)] hf92 (by kernel_rfl) ⟨(decide_eq_true c94), trivial⟩ fun a95 hf96 => ?_
    refine thenN ?_
    refine wp_seq ?_
    refine condT hf96 (by kernel_rfl) ?_
    refine wp_skip ?_
    refine thenN ?_
    refine wp_seq ?_
    refine wp_block ?_
    refine wp_seq ?_
    obtain ⟨g97, H1⟩ := ifS_guard H1
    have q98 := (hm93.slAt 4 rfl).get s83.1 g97.1 g97.2
    obtain ⟨us99, hr100, hc101⟩ := q98.2
    obtain ⟨A102, c103, A104, c105, rfl, ⟨pA102, sA102⟩, ⟨pA104, sA104⟩⟩ := kTensor.open hr100
    have hm106 := hm93.elem pA102 sA102
    have hm107 := hm106.elem pA104 sA104
    refine inReg ?_
    refine go 2 [.agg #[.slice A102 (((rd x0 s83.1).Shape).length) c103, .slice A104 (((rd x0 s83.1).Data).length) c105]] [4, 19, 20, 21, 24] [(4, .pointer (some ⟨b63, 0, none⟩)), (19, .slice A0 x0.length c0), (20, .int .i64 (x0.length : Int)), (21, .int .i64 s83.1), (24, .agg #[.slice A102 (((rd x0 s83.1).Shape).length) c103, .slice A104 (((rd x0 s83.1).Data).length) c105])] [.is (Option.isSome A0 = true), .is (0 ≤ s83.1 ∧ s83.1 < (x0.length : Int)), .cell ((ad A0).add ((s83.1).toNat * 2)) (.slice A102 (((rd x0 s83.1).Shape).length) c103), .cell (((ad A0).add ((s83.1).toNat * 2)).add 1) (.slice A104 (((rd x0 s83.1).Data).length) c105)] hf96 (by kernel_rfl) ⟨q98.1, g97, (hc101 0 _ rfl), (hc101 1 _ rfl), trivial⟩ fun a108 hf109 => ?_
    refine listOf hf109 rfl (by kernel_rfl) (aNew (cs := [.slice none 0 0, .slice none 0 0]) (T := 29) (d := 6) hf109 (by kernel_rfl) (by kernel_rfl) ?_)
    intro b110 w111 a112 hbb110 hx114 hg115 hf113
    have hm116 := hm107.box hbb110 hx114 hg115
    refine listOf hf113 rfl (by kernel_rfl) (aStoreB (b := b110) (j := 0) (T := 29) (cs := [.slice none 0 0, .slice none 0 0]) (us := [.slice A102 (((rd x0 s83.1).Shape).length) c103, .slice A104 (((rd x0 s83.1).Data).length) c105]) (cs' := [.slice A102 (((rd x0 s83.1).Shape).length) c103, .slice A104 (((rd x0 s83.1).Data).length) c105]) hf113 (by kernel_rfl) (hm116.bxAt 0 rfl) (by kernel_rfl) (by kernel_rfl) (by kernel_rfl) ?_)
    intro w117 hx118 hg119
    have hm120 := hm116.setBox 0 _ rfl rfl hx118 hg119
    refine endL rfl ?_
    refine thenN ?_
    obtain ⟨r121, hr121, H1⟩ := obS_split H1
    obtain ⟨g122, H1⟩ := ifS_guard H1
    obtain ⟨r123, hr123, H1⟩ := obS_split H1
    obtain ⟨g124, H1⟩ := ifS_guard H1
    refine midReg (fun (a : Act) (w : World) => ∃ (A172 : Option Addr) (c173 : Nat) (A143 : Option Addr) (c144 : Nat), Fr 49 a [(4, .pointer (some ⟨b63, 0, none⟩)), (19, .slice A0 x0.length c0), (20, .int .i64 (x0.length : Int)), (21, .int .i64 s83.1)] ∧ Mem [] M w0 [.ow kTensor 29 A172 c173 (s83.2.1 ++ ([r123] : List Tensor)), .ow kTensor 29 A143 c144 (s83.2.2 ++ ([r121] : List Tensor)), .bx b63 [.slice A143 ((s83.2.2 ++ ([r121] : List Tensor)).length) c144, .slice A52 ((List.replicate ((x0.length : Int)).toNat (0 : Int)).length) c53, .slice A172 ((s83.2.1 ++ ([r123] : List Tensor)).length) c173] 72, .ow (Kd.int .i64) 3 A52 c53 (List.replicate ((x0.length : Int)).toNat (0 : Int)), .sl kTensor A0 c0 x0] w) ?_ ?_
    · refine anyG [9, 17, 20, 23] (by kernel_rfl) fun w192 hg193 => ?_
      have hm194 := hm120.still hg193
      refine memoStep (R := fun (a : Act) (w : World) => ∃ (A197 : Option Addr) (c198 : Nat) (A199 : Option Addr) (c200 : Nat) (b208 : Nat) (A215 : Option Addr) (c216 : Nat) (A316 : Option Addr) (c317 : Nat) (A318 : Option Addr) (c319 : Nat), Fr 49 a [(4, .pointer (some ⟨b63, 0, none⟩)), (6, .pointer (some ⟨b110, 0, none⟩)), (19, .slice A0 x0.length c0), (20, .int .i64 (x0.length : Int)), (21, .int .i64 s83.1), (25, .pointer (some ⟨b63, 0, none⟩)), (26, .pointer (some ⟨b63, 0, none⟩)), (31, .agg #[.slice A102 (((rd x0 s83.1).Shape).length) c103, .slice A104 (((rd x0 s83.1).Data).length) c105]), (32, .agg #[.slice A197 r121.Shape.length c198, .slice A199 r121.Data.length c200]), (33, .slice (some ⟨b208, 0, none⟩) 1 1), (34, .slice A215 ((s83.2.2 ++ ([r121] : List Tensor)).length) c216), (37, .pointer (some ⟨b63, 2, none⟩)), (39, .agg #[.slice A102 (((rd x0 s83.1).Shape).length) c103, .slice A104 (((rd x0 s83.1).Data).length) c105]), (40, .agg #[.slice A316 r123.Shape.length c317, .slice A318 r123.Data.length c319])] ∧ Mem [] M w0 [.sl (Kd.int .i64) A316 c317 r123.Shape, .sl Kd.float A318 c319 r123.Data, .sl kTensor (some ⟨b208, 0, none⟩) 1 ([r121] : List Tensor), .sl (Kd.int .i64) A197 c198 r121.Shape, .sl Kd.float A199 c200 r121.Data, .bx b110 [.slice A102 (((rd x0 s83.1).Shape).length) c103, .slice A104 (((rd x0 s83.1).Data).length) c105] 29, .sl Kd.float A104 c105 ((rd x0 s83.1).Data), .sl (Kd.int .i64) A102 c103 ((rd x0 s83.1).Shape), .ow kTensor 29 A84 c85 s83.2.1, .ow kTensor 29 A215 c216 (s83.2.2 ++ ([r121] : List Tensor)), .bx b63 [.slice A86 s83.2.2.length c87, .slice A52 ((List.replicate ((x0.length : Int)).toNat (0 : Int)).length) c53, .slice A84 s83.2.1.length c85] 72, .ow (Kd.int .i64) 3 A52 c53 (List.replicate ((x0.length : Int)).toNat (0 : Int)), .sl kTensor A0 c0 x0] w) #[true, true, true, true, true, true, true, true, true, true, true, true, true, false, true, true, false, false, false, false, false, false, false, false] 9 ?_ fun L878 => ?_
      · rintro a879 w880 ⟨A197, c198, A199, c200, b208, A215, c216, A316, c317, A318, c319, hf881, hm882⟩
        refine all2 13 16 (by kernel_rfl) ?_ ?_
        · refine opOf hf881 rfl (by kernel_rfl) (aOne [.slice A84 s83.2.1.length c85] (.slice A84 s83.2.1.length c85) [.cell ⟨b63, 2, none⟩ (.slice A84 s83.2.1.length c85)] 38 hf881 (by kernel_rfl) rfl (by kernel_rfl) ⟨(hm882.cell 10 rfl rfl), trivial⟩ fun a883 hf884 => ?_)
          refine ⟨.inr (Gr.refl _ _), ?_⟩
          refine all1 16 (by kernel_rfl) ?_
          refine opOf hf884 rfl (by kernel_rfl) (aLit (cs := [.slice A316 r123.Shape.length c317, .slice A318 r123.Data.length c319]) (E := 29) (len := 1) (d := 41) hf884 (by kernel_rfl) (by kernel_rfl) ?_)
          intro b885 w886 a887 hbb885 hx889 hg890 hf888
          refine ⟨.inr (Gr.still hg890), ?_⟩
          have hm882s := hm882.still hg890
          have hm891 := Mem.lit (kd := kTensor) (xs := ([r123] : List Tensor)) hm882 hbb885 hx889 hg890 (Els.one (kd := kTensor) (us := [.slice A316 r123.Shape.length c317, .slice A318 r123.Data.length c319]) (x := r123) (kTensor.mk r123 ⟨hm882s.cpAt 0 rfl, (hm882s.slAt 0 rfl)⟩ ⟨hm882s.cpAt 1 rfl, (hm882s.slAt 1 rfl)⟩))
          refine all1 17 (by kernel_rfl) ?_
          have e900 : s83.2.1.length = s83.2.1.length := rfl
          have e901 : 1 = ([r123] : List Tensor).length := rfl
          refine opOf hf888 rfl (by kernel_rfl) (aApp (kd := kTensor) (base := 0) (E := 29) (A := A84) (B := (some ⟨b885, 0, none⟩)) (c := c85) (c2 := 1) (xs := s83.2.1) (ys := ([r123] : List Tensor)) (k := s83.2.1.length) (m := 1) (sz := 2) (d := 42) hf888 (by kernel_rfl) e900 e901 (by kernel_rfl) rfl (by kernel_rfl) (hm891.at 9 rfl) (hm891.at2 9 0 rfl rfl).2 (hm891.cpAt 0 rfl) (Nat.zero_le _) (by have := g124; omega) ?_)
          intro A892 c893 w894 a895 ho897 hg898 hr899 hf896
          refine ⟨.inl (by decide), ?_⟩
          have hm902 := hm891.setOwn 9 _ rfl rfl ho897 hg898 hr899
          refine quiet0 [18, 19] [] [4, 19, 20, 21, 26, 34, 42, 44] #[true, true, true, true, true, true, true, true, true, true, true, true, true, true, true, true, true, true, true, true, false, false, false, false] [(4, .pointer (some ⟨b63, 0, none⟩)), (19, .slice A0 x0.length c0), (20, .int .i64 (x0.length : Int)), (21, .int .i64 s83.1), (26, .pointer (some ⟨b63, 0, none⟩)), (34, .slice A215 ((s83.2.2 ++ ([r121] : List Tensor)).length) c216), (42, .slice A892 ((s83.2.1 ++ ([r123] : List Tensor)).length) c893), (44, .pointer (some ⟨b63, 0, none⟩))] [] 4 rfl (by kernel_rfl) (fun _ _ _ _ _ h => nomatch h.1) hf896 (by kernel_rfl) trivial fun a903 hf904 => ?_
          refine all1 20 (by kernel_rfl) ?_
          refine opOf hf904 rfl (by kernel_rfl) (aStoreB (b := b63) (j := 0) (T := 72) (cs := [.slice A86 s83.2.2.length c87, .slice A52 ((List.replicate ((x0.length : Int)).toNat (0 : Int)).length) c53, .slice A84 s83.2.1.length c85]) (us := [.slice A215 ((s83.2.2 ++ ([r121] : List Tensor)).length) c216]) (cs' := [.slice A215 ((s83.2.2 ++ ([r121] : List Tensor)).length) c216, .slice A52 ((List.replicate ((x0.length : Int)).toNat (0 : Int)).length) c53, .slice A84 s83.2.1.length c85]) hf904 (by kernel_rfl) (hm902.bxAt 11 rfl) (by kernel_rfl) (by kernel_rfl) (by kernel_rfl) ?_)
          intro w905 hx906 hg907
          refine ⟨.inl (by decide), ?_⟩
          have hm908 := hm902.setBox 11 _ rfl rfl hx906 hg907
          refine quiet0 [21, 22] [] [4, 19, 20, 21, 42, 46] #[true, true, true, true, true, true, true, true, true, true, true, true, true, true, true, true, true, true, true, true, true, true, true, false] [(4, .pointer (some ⟨b63, 0, none⟩)), (19, .slice A0 x0.length c0), (20, .int .i64 (x0.length : Int)), (21, .int .i64 s83.1), (42, .slice A892 ((s83.2.1 ++ ([r123] : List Tensor)).length) c893), (46, .pointer (some ⟨b63, 2, none⟩))] [] 1 rfl (by kernel_rfl) (fun _ _ _ _ _ h => nomatch h.1) hf904 (by kernel_rfl) trivial fun a909 hf910 => ?_
          refine all1 23 (by kernel_rfl) ?_
          refine opOf hf910 rfl (by kernel_rfl) (aStoreB (b := b63) (j := 2) (T := 72) (cs := [.slice A215 ((s83.2.2 ++ ([r121] : List Tensor)).length) c216, .slice A52 ((List.replicate ((x0.length : Int)).toNat (0 : Int)).length) c53, .slice A84 s83.2.1.length c85]) (us := [.slice A892 ((s83.2.1 ++ ([r123] : List Tensor)).length) c893]) (cs' := [.slice A215 ((s83.2.2 ++ ([r121] : List Tensor)).length) c216, .slice A52 ((List.replicate ((x0.length : Int)).toNat (0 : Int)).length) c53, .slice A892 ((s83.2.1 ++ ([r123] : List Tensor)).length) c893]) hf910 (by kernel_rfl) (hm908.bxAt 11 rfl) (by kernel_rfl) (by kernel_rfl) (by kernel_rfl) ?_)
          intro w911 hx912 hg913
          refine ⟨.inl (by decide), ?_⟩
          have hm914 := hm908.setBox 11 _ rfl rfl hx912 hg913
          refine allDone (by kernel_rfl) ⟨rfl, A892, c893, A215, c216, hf910.sel (l := [4, 19, 20, 21]) (by kernel_rfl), hm914.sel [9, 10, 11, 12, 13] _ rfl (by kernel_rfl)⟩
        · refine opOf hf881 rfl (by kernel_rfl) (aLit (cs := [.slice A316 r123.Shape.length c317, .slice A318 r123.Data.length c319]) (E := 29) (len := 1) (d := 41) hf881 (by kernel_rfl) (by kernel_rfl) ?_)
          intro b915 w916 a917 hbb915 hx919 hg920 hf918
          refine ⟨.inr (Gr.still hg920), ?_⟩
          have hm882s := hm882.still hg920
          have hm921 := Mem.lit (kd := kTensor) (xs := ([r123] : List Tensor)) hm882 hbb915 hx919 hg920 (Els.one (kd := kTensor) (us := [.slice A316 r123.Shape.length c317, .slice A318 r123.Data.length c319]) (x := r123) (kTensor.mk r123 ⟨hm882s.cpAt 0 rfl, (hm882s.slAt 0 rfl)⟩ ⟨hm882s.cpAt 1 rfl, (hm882s.slAt 1 rfl)⟩))
          refine all1 13 (by kernel_rfl) ?_
          refine opOf hf918 rfl (by kernel_rfl) (aOne [.slice A84 s83.2.1.length c85] (.slice A84 s83.2.1.length c85) [.cell ⟨b63, 2, none⟩ (.slice A84 s83.2.1.length c85)] 38 hf918 (by kernel_rfl) rfl (by kernel_rfl) ⟨(hm921.cell 11 rfl rfl), trivial⟩ fun a922 hf923 => ?_)
          refine ⟨.inr (Gr.refl _ _), ?_⟩
          refine all1 17 (by kernel_rfl) ?_
          have e932 : s83.2.1.length = s83.2.1.length := rfl
          have e933 : 1 = ([r123] : List Tensor).length := rfl
          refine opOf hf923 rfl (by kernel_rfl) (aApp (kd := kTensor) (base := 0) (E := 29) (A := A84) (B := (some ⟨b915, 0, none⟩)) (c := c85) (c2 := 1) (xs := s83.2.1) (ys := ([r123] : List Tensor)) (k := s83.2.1.length) (m := 1) (sz := 2) (d := 42) hf923 (by kernel_rfl) e932 e933 (by kernel_rfl) rfl (by kernel_rfl) (hm921.at 9 rfl) (hm921.at2 9 0 rfl rfl).2 (hm921.cpAt 0 rfl) (Nat.zero_le _) (by have := g124; omega) ?_)
          intro A924 c925 w926 a927 ho929 hg930 hr931 hf928
          refine ⟨.inl (by decide), ?_⟩
          have hm934 := hm921.setOwn 9 _ rfl rfl ho929 hg930 hr931
          refine quiet0 [18, 19] [] [4, 19, 20, 21, 26, 34, 42, 44] #[true, true, true, true, true, true, true, true, true, true, true, true, true, true, true, true, true, true, true, true, false, false, false, false] [(4, .pointer (some ⟨b63, 0, none⟩)), (19, .slice A0 x0.length c0), (20, .int .i64 (x0.length : Int)), (21, .int .i64 s83.1), (26, .pointer (some ⟨b63, 0, none⟩)), (34, .slice A215 ((s83.2.2 ++ ([r121] : List Tensor)).length) c216), (42, .slice A924 ((s83.2.1 ++ ([r123] : List Tensor)).length) c925), (44, .pointer (some ⟨b63, 0, none⟩))] [] 4 rfl (by kernel_rfl) (fun _ _ _ _ _ h => nomatch h.1) hf928 (by kernel_rfl) trivial fun a935 hf936 => ?_
          refine all1 20 (by kernel_rfl) ?_
          refine opOf hf936 rfl (by kernel_rfl) (aStoreB (b := b63) (j := 0) (T := 72) (cs := [.slice A86 s83.2.2.length c87, .slice A52 ((List.replicate ((x0.length : Int)).toNat (0 : Int)).length) c53, .slice A84 s83.2.1.length c85]) (us := [.slice A215 ((s83.2.2 ++ ([r121] : List Tensor)).length) c216]) (cs' := [.slice A215 ((s83.2.2 ++ ([r121] : List Tensor)).length) c216, .slice A52 ((List.replicate ((x0.length : Int)).toNat (0 : Int)).length) c53, .slice A84 s83.2.1.length c85]) hf936 (by kernel_rfl) (hm934.bxAt 11 rfl) (by kernel_rfl) (by kernel_rfl) (by kernel_rfl) ?_)
          intro w937 hx938 hg939
          refine ⟨.inl (by decide), ?_⟩
          have hm940 := hm934.setBox 11 _ rfl rfl hx938 hg939
          refine quiet0 [21, 22] [] [4, 19, 20, 21, 42, 46] #[true, true, true, true, true, true, true, true, true, true, true, true, true, true, true, true, true, true, true, true, true, true, true, false] [(4, .pointer (some ⟨b63, 0, none⟩)), (19, .slice A0 x0.length c0), (20, .int .i64 (x0.length : Int)), (21, .int .i64 s83.1), (42, .slice A924 ((s83.2.1 ++ ([r123] : List Tensor)).length) c925), (46, .pointer (some ⟨b63, 2, none⟩))] [] 1 rfl (by kernel_rfl) (fun _ _ _ _ _ h => nomatch h.1) hf936 (by kernel_rfl) trivial fun a941 hf942 => ?_
          refine all1 23 (by kernel_rfl) ?_
          refine opOf hf942 rfl (by kernel_rfl) (aStoreB (b := b63) (j := 2) (T := 72) (cs := [.slice A215 ((s83.2.2 ++ ([r121] : List Tensor)).length) c216, .slice A52 ((List.replicate ((x0.length : Int)).toNat (0 : Int)).length) c53, .slice A84 s83.2.1.length c85]) (us := [.slice A924 ((s83.2.1 ++ ([r123] : List Tensor)).length) c925]) (cs' := [.slice A215 ((s83.2.2 ++ ([r121] : List Tensor)).length) c216, .slice A52 ((List.replicate ((x0.length : Int)).toNat (0 : Int)).length) c53, .slice A924 ((s83.2.1 ++ ([r123] : List Tensor)).length) c925]) hf942 (by kernel_rfl) (hm940.bxAt 11 rfl) (by kernel_rfl) (by kernel_rfl) (by kernel_rfl) ?_)
          intro w943 hx944 hg945
          refine ⟨.inl (by decide), ?_⟩
          have hm946 := hm940.setBox 11 _ rfl rfl hx944 hg945
          refine allDone (by kernel_rfl) ⟨rfl, A924, c925, A215, c216, hf942.sel (l := [4, 19, 20, 21]) (by kernel_rfl), hm946.sel [9, 10, 11, 12, 13] _ rfl (by kernel_rfl)⟩
      refine memoStep (R := fun (a : Act) (w : World) => ∃ (A197 : Option Addr) (c198 : Nat) (A199 : Option Addr) (c200 : Nat) (b208 : Nat) (A215 : Option Addr) (c216 : Nat), Fr 49 a [(4, .pointer (some ⟨b63, 0, none⟩)), (6, .pointer (some ⟨b110, 0, none⟩)), (19, .slice A0 x0.length c0), (20, .int .i64 (x0.length : Int)), (21, .int .i64 s83.1), (25, .pointer (some ⟨b63, 0, none⟩)), (26, .pointer (some ⟨b63, 0, none⟩)), (31, .agg #[.slice A102 (((rd x0 s83.1).Shape).length) c103, .slice A104 (((rd x0 s83.1).Data).length) c105]), (32, .agg #[.slice A197 r121.Shape.length c198, .slice A199 r121.Data.length c200]), (33, .slice (some ⟨b208, 0, none⟩) 1 1), (34, .slice A215 ((s83.2.2 ++ ([r121] : List Tensor)).length) c216), (37, .pointer (some ⟨b63, 2, none⟩)), (39, .agg #[.slice A102 (((rd x0 s83.1).Shape).length) c103, .slice A104 (((rd x0 s83.1).Data).length) c105])] ∧ Mem [] M w0 [.sl kTensor (some ⟨b208, 0, none⟩) 1 ([r121] : List Tensor), .sl (Kd.int .i64) A197 c198 r121.Shape, .sl Kd.float A199 c200 r121.Data, .bx b110 [.slice A102 (((rd x0 s83.1).Shape).length) c103, .slice A104 (((rd x0 s83.1).Data).length) c105] 29, .sl Kd.float A104 c105 ((rd x0 s83.1).Data), .sl (Kd.int .i64) A102 c103 ((rd x0 s83.1).Shape), .ow kTensor 29 A84 c85 s83.2.1, .ow kTensor 29 A215 c216 (s83.2.2 ++ ([r121] : List Tensor)), .bx b63 [.slice A86 s83.2.2.length c87, .slice A52 ((List.replicate ((x0.length : Int)).toNat (0 : Int)).length) c53, .slice A84 s83.2.1.length c85] 72, .ow (Kd.int .i64) 3 A52 c53 (List.replicate ((x0.length : Int)).toNat (0 : Int)), .sl kTensor A0 c0 x0] w) #[true, true, true, true, true, true, true, true, true, true, true, true, true, false, true, false, false, false, false, false, false, false, false, false] 10 ?_ fun L947 => ?_
      · rintro a948 w949 ⟨A197, c198, A199, c200, b208, A215, c216, hf950, hm951⟩
        refine all2 13 15 (by kernel_rfl) ?_ ?_
        · refine opOf hf950 rfl (by kernel_rfl) (aOne [.slice A84 s83.2.1.length c85] (.slice A84 s83.2.1.length c85) [.cell ⟨b63, 2, none⟩ (.slice A84 s83.2.1.length c85)] 38 hf950 (by kernel_rfl) rfl (by kernel_rfl) ⟨(hm951.cell 8 rfl rfl), trivial⟩ fun a952 hf953 => ?_)
          refine ⟨.inr (Gr.refl _ _), ?_⟩
          refine all1 15 (by kernel_rfl) ?_
          refine opOf hf953 rfl (by kernel_rfl) (aCall (fid := 34) (args := [.agg #[.slice A102 (((rd x0 s83.1).Shape).length) c103, .slice A104 (((rd x0 s83.1).Data).length) c105]]) (d := 40) hf953 (by kernel_rfl) (by kernel_rfl) callable34 (shelf_noughts.calls _ _ (⟨((rd x0 s83.1).Shape), ((rd x0 s83.1).Data)⟩ : Tensor) A102 (((rd x0 s83.1).Shape).length) c103 rfl A104 (((rd x0 s83.1).Data).length) c105 rfl (hm951.give [5, 4] [.sl (Kd.int .i64) A102 c103 ((rd x0 s83.1).Shape), .sl Kd.float A104 c105 ((rd x0 s83.1).Data)] rfl rfl) r123 hr123) ?_)
          rintro _ w958 a959 ⟨A954, c955, A956, c957, rfl, hk961⟩ hf960
          refine ⟨.inr (Gr.still hk961.cum.none), ?_⟩
          have hm962 := hm951.back hk961
          have hm963 := hm962.seal 0 _ rfl rfl
          have hm964 := hm963.seal 1 _ rfl rfl
          refine all1 16 (by kernel_rfl) ?_
          refine opOf hf960 rfl (by kernel_rfl) (aLit (cs := [.slice A954 r123.Shape.length c955, .slice A956 r123.Data.length c957]) (E := 29) (len := 1) (d := 41) hf960 (by kernel_rfl) (by kernel_rfl) ?_)
          intro b965 w966 a967 hbb965 hx969 hg970 hf968
          refine ⟨.inr (Gr.still hg970), ?_⟩
          have hm964s := hm964.still hg970
          have hm971 := Mem.lit (kd := kTensor) (xs := ([r123] : List Tensor)) hm964 hbb965 hx969 hg970 (Els.one (kd := kTensor) (us := [.slice A954 r123.Shape.length c955, .slice A956 r123.Data.length c957]) (x := r123) (kTensor.mk r123 ⟨hm964s.cpAt 0 rfl, (hm964s.slAt 0 rfl)⟩ ⟨hm964s.cpAt 1 rfl, (hm964s.slAt 1 rfl)⟩))
          refine all1 17 (by kernel_rfl) ?_
          have e980 : s83.2.1.length = s83.2.1.length := rfl
          have e981 : 1 = ([r123] : List Tensor).length := rfl
          refine opOf hf968 rfl (by kernel_rfl) (aApp (kd := kTensor) (base := 0) (E := 29) (A := A84) (B := (some ⟨b965, 0, none⟩)) (c := c85) (c2 := 1) (xs := s83.2.1) (ys := ([r123] : List Tensor)) (k := s83.2.1.length) (m := 1) (sz := 2) (d := 42) hf968 (by kernel_rfl) e980 e981 (by kernel_rfl) rfl (by kernel_rfl) (hm971.at 9 rfl) (hm971.at2 9 0 rfl rfl).2 (hm971.cpAt 0 rfl) (Nat.zero_le _) (by have := g124; omega) ?_)
          intro A972 c973 w974 a975 ho977 hg978 hr979 hf976
          refine ⟨.inl (by decide), ?_⟩
          have hm982 := hm971.setOwn 9 _ rfl rfl ho977 hg978 hr979
          refine quiet0 [18, 19] [] [4, 19, 20, 21, 26, 34, 42, 44] #[true, true, true, true, true, true, true, true, true, true, true, true, true, true, true, true, true, true, true, true, false, false, false, false] [(4, .pointer (some ⟨b63, 0, none⟩)), (19, .slice A0 x0.length c0), (20, .int .i64 (x0.length : Int)), (21, .int .i64 s83.1), (26, .pointer (some ⟨b63, 0, none⟩)), (34, .slice A215 ((s83.2.2 ++ ([r121] : List Tensor)).length) c216), (42, .slice A972 ((s83.2.1 ++ ([r123] : List Tensor)).length) c973), (44, .pointer (some ⟨b63, 0, none⟩))] [] 4 rfl (by kernel_rfl) (fun _ _ _ _ _ h => nomatch h.1) hf976 (by kernel_rfl) trivial fun a983 hf984 => ?_
          refine all1 20 (by kernel_rfl) ?_
          refine opOf hf984 rfl (by kernel_rfl) (aStoreB (b := b63) (j := 0) (T := 72) (cs := [.slice A86 s83.2.2.length c87, .slice A52 ((List.replicate ((x0.length : Int)).toNat (0 : Int)).length) c53, .slice A84 s83.2.1.length c85]) (us := [.slice A215 ((s83.2.2 ++ ([r121] : List Tensor)).length) c216]) (cs' := [.slice A215 ((s83.2.2 ++ ([r121] : List Tensor)).length) c216, .slice A52 ((List.replicate ((x0.length : Int)).toNat (0 : Int)).length) c53, .slice A84 s83.2.1.length c85]) hf984 (by kernel_rfl) (hm982.bxAt 11 rfl) (by kernel_rfl) (by kernel_rfl) (by kernel_rfl) ?_)
          intro w985 hx986 hg987
          refine ⟨.inl (by decide), ?_⟩
          have hm988 := hm982.setBox 11 _ rfl rfl hx986 hg987
          refine quiet0 [21, 22] [] [4, 19, 20, 21, 42, 46] #[true, true, true, true, true, true, true, true, true, true, true, true, true, true, true, true, true, true, true, true, true, true, true, false] [(4, .pointer (some ⟨b63, 0, none⟩)), (19, .slice A0 x0.length c0), (20, .int .i64 (x0.length : Int)), (21, .int .i64 s83.1), (42, .slice A972 ((s83.2.1 ++ ([r123] : List Tensor)).length) c973), (46, .pointer (some ⟨b63, 2, none⟩))] [] 1 rfl (by kernel_rfl) (fun _ _ _ _ _ h => nomatch h.1) hf984 (by kernel_rfl) trivial fun a989 hf990 => ?_
          refine all1 23 (by kernel_rfl) ?_
          refine opOf hf990 rfl (by kernel_rfl) (aStoreB (b := b63) (j := 2) (T := 72) (cs := [.slice A215 ((s83.2.2 ++ ([r121] : List Tensor)).length) c216, .slice A52 ((List.replicate ((x0.length : Int)).toNat (0 : Int)).length) c53, .slice A84 s83.2.1.length c85]) (us := [.slice A972 ((s83.2.1 ++ ([r123] : List Tensor)).length) c973]) (cs' := [.slice A215 ((s83.2.2 ++ ([r121] : List Tensor)).length) c216, .slice A52 ((List.replicate ((x0.length : Int)).toNat (0 : Int)).length) c53, .slice A972 ((s83.2.1 ++ ([r123] : List Tensor)).length) c973]) hf990 (by kernel_rfl) (hm988.bxAt 11 rfl) (by kernel_rfl) (by kernel_rfl) (by kernel_rfl) ?_)
          intro w991 hx992 hg993
          refine ⟨.inl (by decide), ?_⟩
          have hm994 := hm988.setBox 11 _ rfl rfl hx992 hg993
          refine allDone (by kernel_rfl) ⟨rfl, A972, c973, A215, c216, hf990.sel (l := [4, 19, 20, 21]) (by kernel_rfl), hm994.sel [9, 10, 11, 12, 13] _ rfl (by kernel_rfl)⟩
        · refine opOf hf950 rfl (by kernel_rfl) (aCall (fid := 34) (args := [.agg #[.slice A102 (((rd x0 s83.1).Shape).length) c103, .slice A104 (((rd x0 s83.1).Data).length) c105]]) (d := 40) hf950 (by kernel_rfl) (by kernel_rfl) callable34 (shelf_noughts.calls _ _ (⟨((rd x0 s83.1).Shape), ((rd x0 s83.1).Data)⟩ : Tensor) A102 (((rd x0 s83.1).Shape).length) c103 rfl A104 (((rd x0 s83.1).Data).length) c105 rfl (hm951.give [5, 4] [.sl (Kd.int .i64) A102 c103 ((rd x0 s83.1).Shape), .sl Kd.float A104 c105 ((rd x0 s83.1).Data)] rfl rfl) r123 hr123) ?_)
          rintro _ w999 a1000 ⟨A995, c996, A997, c998, rfl, hk1002⟩ hf1001
          refine ⟨.inr (Gr.still hk1002.cum.none), ?_⟩
          have hm1003 := hm951.back hk1002
          have hm1004 := hm1003.seal 0 _ rfl rfl
          have hm1005 := hm1004.seal 1 _ rfl rfl
          exact L878 _ _ ⟨A197, c198, A199, c200, b208, A215, c216, A995, c996, A997, c998, hf1001.sel (l := [4, 6, 19, 20, 21, 25, 26, 31, 32, 33, 34, 37, 39, 40]) (by kernel_rfl), hm1005.sel [0, 1, 2, 3, 4, 5, 6, 7, 8, 9, 10, 11, 12] _ rfl (by kernel_rfl)⟩
      refine memoStep (R := fun (a : Act) (w : World) => ∃ (A197 : Option Addr) (c198 : Nat) (A199 : Option Addr) (c200 : Nat) (b208 : Nat) (A215 : Option Addr) (c216 : Nat), Fr 49 a [(4, .pointer (some ⟨b63, 0, none⟩)), (6, .pointer (some ⟨b110, 0, none⟩)), (19, .slice A0 x0.length c0), (20, .int .i64 (x0.length : Int)), (21, .int .i64 s83.1), (25, .pointer (some ⟨b63, 0, none⟩)), (26, .pointer (some ⟨b63, 0, none⟩)), (31, .agg #[.slice A102 (((rd x0 s83.1).Shape).length) c103, .slice A104 (((rd x0 s83.1).Data).length) c105]), (32, .agg #[.slice A197 r121.Shape.length c198, .slice A199 r121.Data.length c200]), (33, .slice (some ⟨b208, 0, none⟩) 1 1), (34, .slice A215 ((s83.2.2 ++ ([r121] : List Tensor)).length) c216), (37, .pointer (some ⟨b63, 2, none⟩))] ∧ Mem [] M w0 [.sl kTensor (some ⟨b208, 0, none⟩) 1 ([r121] : List Tensor), .sl (Kd.int .i64) A197 c198 r121.Shape, .sl Kd.float A199 c200 r121.Data, .bx b110 [.slice A102 (((rd x0 s83.1).Shape).length) c103, .slice A104 (((rd x0 s83.1).Data).length) c105] 29, .sl Kd.float A104 c105 ((rd x0 s83.1).Data), .sl (Kd.int .i64) A102 c103 ((rd x0 s83.1).Shape), .ow kTensor 29 A84 c85 s83.2.1, .ow kTensor 29 A215 c216 (s83.2.2 ++ ([r121] : List Tensor)), .bx b63 [.slice A86 s83.2.2.length c87, .slice A52 ((List.replicate ((x0.length : Int)).toNat (0 : Int)).length) c53, .slice A84 s83.2.1.length c85] 72, .ow (Kd.int .i64) 3 A52 c53 (List.replicate ((x0.length : Int)).toNat (0 : Int)), .sl kTensor A0 c0 x0] w) #[true, true, true, true, true, true, true, true, true, true, true, true, true, false, false, false, false, false, false, false, false, false, false, false] 11 ?_ fun L1006 => ?_
      · rintro a1007 w1008 ⟨A197, c198, A199, c200, b208, A215, c216, hf1009, hm1010⟩
        refine all2 13 14 (by kernel_rfl) ?_ ?_
        · refine opOf hf1009 rfl (by kernel_rfl) (aOne [.slice A84 s83.2.1.length c85] (.slice A84 s83.2.1.length c85) [.cell ⟨b63, 2, none⟩ (.slice A84 s83.2.1.length c85)] 38 hf1009 (by kernel_rfl) rfl (by kernel_rfl) ⟨(hm1010.cell 8 rfl rfl), trivial⟩ fun a1011 hf1012 => ?_)
          refine ⟨.inr (Gr.refl _ _), ?_⟩
          refine all1 14 (by kernel_rfl) ?_
          refine opOf hf1012 rfl (by kernel_rfl) (aOne [.agg #[.slice A102 (((rd x0 s83.1).Shape).length) c103, .slice A104 (((rd x0 s83.1).Data).length) c105]] (.agg #[.slice A102 (((rd x0 s83.1).Shape).length) c103, .slice A104 (((rd x0 s83.1).Data).length) c105]) [.cell ⟨b110, 0, none⟩ (.slice A102 (((rd x0 s83.1).Shape).length) c103), .cell ⟨b110, 1, none⟩ (.slice A104 (((rd x0 s83.1).Data).length) c105)] 39 hf1012 (by kernel_rfl) rfl (by kernel_rfl) ⟨(hm1010.cell 3 rfl rfl), (hm1010.cell 3 rfl rfl), trivial⟩ fun a1013 hf1014 => ?_)
          refine ⟨.inr (Gr.refl _ _), ?_⟩
          refine all1 15 (by kernel_rfl) ?_
          refine opOf hf1014 rfl (by kernel_rfl) (aCall (fid := 34) (args := [.agg #[.slice A102 (((rd x0 s83.1).Shape).length) c103, .slice A104 (((rd x0 s83.1).Data).length) c105]]) (d := 40) hf1014 (by kernel_rfl) (by kernel_rfl) callable34 (shelf_noughts.calls _ _ (⟨((rd x0 s83.1).Shape), ((rd x0 s83.1).Data)⟩ : Tensor) A102 (((rd x0 s83.1).Shape).length) c103 rfl A104 (((rd x0 s83.1).Data).length) c105 rfl (hm1010.give [5, 4] [.sl (Kd.int .i64) A102 c103 ((rd x0 s83.1).Shape), .sl Kd.float A104 c105 ((rd x0 s83.1).Data)] rfl rfl) r123 hr123) ?_)
          rintro _ w1019 a1020 ⟨A1015, c1016, A1017, c1018, rfl, hk1022⟩ hf1021
          refine ⟨.inr (Gr.still hk1022.cum.none), ?_⟩
          have hm1023 := hm1010.back hk1022
          have hm1024 := hm1023.seal 0 _ rfl rfl
          have hm1025 := hm1024.seal 1 _ rfl rfl
          refine all1 16 (by kernel_rfl) ?_
          refine opOf hf1021 rfl (by kernel_rfl) (aLit (cs := [.slice A1015 r123.Shape.length c1016, .slice A1017 r123.Data.length c1018]) (E := 29) (len := 1) (d := 41) hf1021 (by kernel_rfl) (by kernel_rfl) ?_)
          intro b1026 w1027 a1028 hbb1026 hx1030 hg1031 hf1029
          refine ⟨.inr (Gr.still hg1031), ?_⟩
          have hm1025s := hm1025.still hg1031
          have hm1032 := Mem.lit (kd := kTensor) (xs := ([r123] : List Tensor)) hm1025 hbb1026 hx1030 hg1031 (Els.one (kd := kTensor) (us := [.slice A1015 r123.Shape.length c1016, .slice A1017 r123.Data.length c1018]) (x := r123) (kTensor.mk r123 ⟨hm1025s.cpAt 0 rfl, (hm1025s.slAt 0 rfl)⟩ ⟨hm1025s.cpAt 1 rfl, (hm1025s.slAt 1 rfl)⟩))
          refine all1 17 (by kernel_rfl) ?_
          have e1041 : s83.2.1.length = s83.2.1.length := rfl
          have e1042 : 1 = ([r123] : List Tensor).length := rfl
          refine opOf hf1029 rfl (by kernel_rfl) (aApp (kd := kTensor) (base := 0) (E := 29) (A := A84) (B := (some ⟨b1026, 0, none⟩)) (c := c85) (c2 := 1) (xs := s83.2.1) (ys := ([r123] : List Tensor)) (k := s83.2.1.length) (m := 1) (sz := 2) (d := 42) hf1029 (by kernel_rfl) e1041 e1042 (by kernel_rfl) rfl (by kernel_rfl) (hm1032.at 9 rfl) (hm1032.at2 9 0 rfl rfl).2 (hm1032.cpAt 0 rfl) (Nat.zero_le _) (by have := g124; omega) ?_)
          intro A1033 c1034 w1035 a1036 ho1038 hg1039 hr1040 hf1037
          refine ⟨.inl (by decide), ?_⟩
          have hm1043 := hm1032.setOwn 9 _ rfl rfl ho1038 hg1039 hr1040
          refine quiet0 [18, 19] [] [4, 19, 20, 21, 26, 34, 42, 44] #[true, true, true, true, true, true, true, true, true, true, true, true, true, true, true, true, true, true, true, true, false, false, false, false] [(4, .pointer (some ⟨b63, 0, none⟩)), (19, .slice A0 x0.length c0), (20, .int .i64 (x0.length : Int)), (21, .int .i64 s83.1), (26, .pointer (some ⟨b63, 0, none⟩)), (34, .slice A215 ((s83.2.2 ++ ([r121] : List Tensor)).length) c216), (42, .slice A1033 ((s83.2.1 ++ ([r123] : List Tensor)).length) c1034), (44, .pointer (some ⟨b63, 0, none⟩))] [] 4 rfl (by kernel_rfl) (fun _ _ _ _ _ h => nomatch h.1) hf1037 (by kernel_rfl) trivial fun a1044 hf1045 => ?_
          refine all1 20 (by kernel_rfl) ?_
          refine opOf hf1045 rfl (by kernel_rfl) (aStoreB (b := b63) (j := 0) (T := 72) (cs := [.slice A86 s83.2.2.length c87, .slice A52 ((List.replicate ((x0.length : Int)).toNat (0 : Int)).length) c53, .slice A84 s83.2.1.length c85]) (us := [.slice A215 ((s83.2.2 ++ ([r121] : List Tensor)).length) c216]) (cs' := [.slice A215 ((s83.2.2 ++ ([r121] : List Tensor)).length) c216, .slice A52 ((List.replicate ((x0.length : Int)).toNat (0 : Int)).length) c53, .slice A84 s83.2.1.length c85]) hf1045 (by kernel_rfl) (hm1043.bxAt 11 rfl) (by kernel_rfl) (by kernel_rfl) (by kernel_rfl) ?_)
          intro w1046 hx1047 hg1048
          refine ⟨.inl (by decide), ?_⟩
          have hm1049 := hm1043.setBox 11 _ rfl rfl hx1047 hg1048
          refine quiet0 [21, 22] [] [4, 19, 20, 21, 42, 46] #[true, true, true, true, true, true, true, true, true, true, true, true, true, true, true, true, true, true, true, true, true, true, true, false] [(4, .pointer (some ⟨b63, 0, none⟩)), (19, .slice A0 x0.length c0), (20, .int .i64 (x0.length : Int)), (21, .int .i64 s83.1), (42, .slice A1033 ((s83.2.1 ++ ([r123] : List Tensor)).length) c1034), (46, .pointer (some ⟨b63, 2, none⟩))] [] 1 rfl (by kernel_rfl) (fun _ _ _ _ _ h => nomatch h.1) hf1045 (by kernel_rfl) trivial fun a1050 hf1051 => ?_
          refine all1 23 (by kernel_rfl) ?_
          refine opOf hf1051 rfl (by kernel_rfl) (aStoreB (b := b63) (j := 2) (T := 72) (cs := [.slice A215 ((s83.2.2 ++ ([r121] : List Tensor)).length) c216, .slice A52 ((List.replicate ((x0.length : Int)).toNat (0 : Int)).length) c53, .slice A84 s83.2.1.length c85]) (us := [.slice A1033 ((s83.2.1 ++ ([r123] : List Tensor)).length) c1034]) (cs' := [.slice A215 ((s83.2.2 ++ ([r121] : List Tensor)).length) c216, .slice A52 ((List.replicate ((x0.length : Int)).toNat (0 : Int)).length) c53, .slice A1033 ((s83.2.1 ++ ([r123] : List Tensor)).length) c1034]) hf1051 (by kernel_rfl) (hm1049.bxAt 11 rfl) (by kernel_rfl) (by kernel_rfl) (by kernel_rfl) ?_)
          intro w1052 hx1053 hg1054
          refine ⟨.inl (by decide), ?_⟩
          have hm1055 := hm1049.setBox 11 _ rfl rfl hx1053 hg1054
          refine allDone (by kernel_rfl) ⟨rfl, A1033, c1034, A215, c216, hf1051.sel (l := [4, 19, 20, 21]) (by kernel_rfl), hm1055.sel [9, 10, 11, 12, 13] _ rfl (by kernel_rfl)⟩
        · refine opOf hf1009 rfl (by kernel_rfl) (aOne [.agg #[.slice A102 (((rd x0 s83.1).Shape).length) c103, .slice A104 (((rd x0 s83.1).Data).length) c105]] (.agg #[.slice A102 (((rd x0 s83.1).Shape).length) c103, .slice A104 (((rd x0 s83.1).Data).length) c105]) [.cell ⟨b110, 0, none⟩ (.slice A102 (((rd x0 s83.1).Shape).length) c103), .cell ⟨b110, 1, none⟩ (.slice A104 (((rd x0 s83.1).Data).length) c105)] 39 hf1009 (by kernel_rfl) rfl (by kernel_rfl) ⟨(hm1010.cell 3 rfl rfl), (hm1010.cell 3 rfl rfl), trivial⟩ fun a1056 hf1057 => ?_)
          refine ⟨.inr (Gr.refl _ _), ?_⟩
          exact L947 _ _ ⟨A197, c198, A199, c200, b208, A215, c216, hf1057.sel (l := [4, 6, 19, 20, 21, 25, 26, 31, 32, 33, 34, 37, 39]) (by kernel_rfl), hm1010.sel [0, 1, 2, 3, 4, 5, 6, 7, 8, 9, 10] _ rfl (by kernel_rfl)⟩
      refine memoStep (R := fun (a : Act) (w : World) => ∃ (A197 : Option Addr) (c198 : Nat) (A199 : Option Addr) (c200 : Nat) (b208 : Nat), Fr 49 a [(4, .pointer (some ⟨b63, 0, none⟩)), (6, .pointer (some ⟨b110, 0, none⟩)), (19, .slice A0 x0.length c0), (20, .int .i64 (x0.length : Int)), (21, .int .i64 s83.1), (25, .pointer (some ⟨b63, 0, none⟩)), (26, .pointer (some ⟨b63, 0, none⟩)), (30, .slice A86 s83.2.2.length c87), (31, .agg #[.slice A102 (((rd x0 s83.1).Shape).length) c103, .slice A104 (((rd x0 s83.1).Data).length) c105]), (32, .agg #[.slice A197 r121.Shape.length c198, .slice A199 r121.Data.length c200]), (33, .slice (some ⟨b208, 0, none⟩) 1 1), (37, .pointer (some ⟨b63, 2, none⟩)), (38, .slice A84 s83.2.1.length c85)] ∧ Mem [] M w0 [.sl kTensor (some ⟨b208, 0, none⟩) 1 ([r121] : List Tensor), .sl (Kd.int .i64) A197 c198 r121.Shape, .sl Kd.float A199 c200 r121.Data, .bx b110 [.slice A102 (((rd x0 s83.1).Shape).length) c103, .slice A104 (((rd x0 s83.1).Data).length) c105] 29, .sl Kd.float A104 c105 ((rd x0 s83.1).Data), .sl (Kd.int .i64) A102 c103 ((rd x0 s83.1).Shape), .ow kTensor 29 A84 c85 s83.2.1, .ow kTensor 29 A86 c87 s83.2.2, .bx b63 [.slice A86 s83.2.2.length c87, .slice A52 ((List.replicate ((x0.length : Int)).toNat (0 : Int)).length) c53, .slice A84 s83.2.1.length c85] 72, .ow (Kd.int .i64) 3 A52 c53 (List.replicate ((x0.length : Int)).toNat (0 : Int)), .sl kTensor A0 c0 x0] w) #[true, true, true, true, true, true, true, true, true, false, true, true, true, true, false, false, false, false, false, false, false, false, false, false] 11 ?_ fun L1058 => ?_
      · rintro a1059 w1060 ⟨A197, c198, A199, c200, b208, hf1061, hm1062⟩
        refine all2 9 14 (by kernel_rfl) ?_ ?_
        · have e1071 : s83.2.2.length = s83.2.2.length := rfl
          have e1072 : 1 = ([r121] : List Tensor).length := rfl
          refine opOf hf1061 rfl (by kernel_rfl) (aApp (kd := kTensor) (base := 0) (E := 29) (A := A86) (B := (some ⟨b208, 0, none⟩)) (c := c87) (c2 := 1) (xs := s83.2.2) (ys := ([r121] : List Tensor)) (k := s83.2.2.length) (m := 1) (sz := 2) (d := 34) hf1061 (by kernel_rfl) e1071 e1072 (by kernel_rfl) rfl (by kernel_rfl) (hm1062.at 7 rfl) (hm1062.at2 7 0 rfl rfl).2 (hm1062.cpAt 0 rfl) (Nat.zero_le _) (by have := g122; omega) ?_)
          intro A1063 c1064 w1065 a1066 ho1068 hg1069 hr1070 hf1067
          refine ⟨.inl (by decide), ?_⟩
          have hm1073 := hm1062.setOwn 7 _ rfl rfl ho1068 hg1069 hr1070
          refine all1 14 (by kernel_rfl) ?_
          refine opOf hf1067 rfl (by kernel_rfl) (aOne [.agg #[.slice A102 (((rd x0 s83.1).Shape).length) c103, .slice A104 (((rd x0 s83.1).Data).length) c105]] (.agg #[.slice A102 (((rd x0 s83.1).Shape).length) c103, .slice A104 (((rd x0 s83.1).Data).length) c105]) [.cell ⟨b110, 0, none⟩ (.slice A102 (((rd x0 s83.1).Shape).length) c103), .cell ⟨b110, 1, none⟩ (.slice A104 (((rd x0 s83.1).Data).length) c105)] 39 hf1067 (by kernel_rfl) rfl (by kernel_rfl) ⟨(hm1073.cell 3 rfl rfl), (hm1073.cell 3 rfl rfl), trivial⟩ fun a1074 hf1075 => ?_)
          refine ⟨.inr (Gr.refl _ _), ?_⟩
          refine all1 15 (by kernel_rfl) ?_
          refine opOf hf1075 rfl (by kernel_rfl) (aCall (fid := 34) (args := [.agg #[.slice A102 (((rd x0 s83.1).Shape).length) c103, .slice A104 (((rd x0 s83.1).Data).length) c105]]) (d := 40) hf1075 (by kernel_rfl) (by kernel_rfl) callable34 (shelf_noughts.calls _ _ (⟨((rd x0 s83.1).Shape), ((rd x0 s83.1).Data)⟩ : Tensor) A102 (((rd x0 s83.1).Shape).length) c103 rfl A104 (((rd x0 s83.1).Data).length) c105 rfl (hm1073.give [5, 4] [.sl (Kd.int .i64) A102 c103 ((rd x0 s83.1).Shape), .sl Kd.float A104 c105 ((rd x0 s83.1).Data)] rfl rfl) r123 hr123) ?_)
          rintro _ w1080 a1081 ⟨A1076, c1077, A1078, c1079, rfl, hk1083⟩ hf1082
          refine ⟨.inr (Gr.still hk1083.cum.none), ?_⟩
          have hm1084 := hm1073.back hk1083
          have hm1085 := hm1084.seal 0 _ rfl rfl
          have hm1086 := hm1085.seal 1 _ rfl rfl
          refine all1 16 (by kernel_rfl) ?_
          refine opOf hf1082 rfl (by kernel_rfl) (aLit (cs := [.slice A1076 r123.Shape.length c1077, .slice A1078 r123.Data.length c1079]) (E := 29) (len := 1) (d := 41) hf1082 (by kernel_rfl) (by kernel_rfl) ?_)
          intro b1087 w1088 a1089 hbb1087 hx1091 hg1092 hf1090
          refine ⟨.inr (Gr.still hg1092), ?_⟩
          have hm1086s := hm1086.still hg1092
          have hm1093 := Mem.lit (kd := kTensor) (xs := ([r123] : List Tensor)) hm1086 hbb1087 hx1091 hg1092 (Els.one (kd := kTensor) (us := [.slice A1076 r123.Shape.length c1077, .slice A1078 r123.Data.length c1079]) (x := r123) (kTensor.mk r123 ⟨hm1086s.cpAt 0 rfl, (hm1086s.slAt 0 rfl)⟩ ⟨hm1086s.cpAt 1 rfl, (hm1086s.slAt 1 rfl)⟩))
          refine all1 17 (by kernel_rfl) ?_
          have e1102 : s83.2.1.length = s83.2.1.length := rfl
          have e1103 : 1 = ([r123] : List Tensor).length := rfl
          refine opOf hf1090 rfl (by kernel_rfl) (aApp (kd := kTensor) (base := 0) (E := 29) (A := A84) (B := (some ⟨b1087, 0, none⟩)) (c := c85) (c2 := 1) (xs := s83.2.1) (ys := ([r123] : List Tensor)) (k := s83.2.1.length) (m := 1) (sz := 2) (d := 42) hf1090 (by kernel_rfl) e1102 e1103 (by kernel_rfl) rfl (by kernel_rfl) (hm1093.at 9 rfl) (hm1093.at2 9 0 rfl rfl).2 (hm1093.cpAt 0 rfl) (Nat.zero_le _) (by have := g124; omega) ?_)
          intro A1094 c1095 w1096 a1097 ho1099 hg1100 hr1101 hf1098
          refine ⟨.inl (by decide), ?_⟩
          have hm1104 := hm1093.setOwn 9 _ rfl rfl ho1099 hg1100 hr1101
          refine quiet0 [18, 19] [] [4, 19, 20, 21, 26, 34, 42, 44] #[true, true, true, true, true, true, true, true, true, true, true, true, true, true, true, true, true, true, true, true, false, false, false, false] [(4, .pointer (some ⟨b63, 0, none⟩)), (19, .slice A0 x0.length c0), (20, .int .i64 (x0.length : Int)), (21, .int .i64 s83.1), (26, .pointer (some ⟨b63, 0, none⟩)), (34, .slice A1063 ((s83.2.2 ++ ([r121] : List Tensor)).length) c1064), (42, .slice A1094 ((s83.2.1 ++ ([r123] : List Tensor)).length) c1095), (44, .pointer (some ⟨b63, 0, none⟩))] [] 4 rfl (by kernel_rfl) (fun _ _ _ _ _ h => nomatch h.1) hf1098 (by kernel_rfl) trivial fun a1105 hf1106 => ?_
          refine all1 20 (by kernel_rfl) ?_
          refine opOf hf1106 rfl (by kernel_rfl) (aStoreB (b := b63) (j := 0) (T := 72) (cs := [.slice A86 s83.2.2.length c87, .slice A52 ((List.replicate ((x0.length : Int)).toNat (0 : Int)).length) c53, .slice A84 s83.2.1.length c85]) (us := [.slice A1063 ((s83.2.2 ++ ([r121] : List Tensor)).length) c1064]) (cs' := [.slice A1063 ((s83.2.2 ++ ([r121] : List Tensor)).length) c1064, .slice A52 ((List.replicate ((x0.length : Int)).toNat (0 : Int)).length) c53, .slice A84 s83.2.1.length c85]) hf1106 (by kernel_rfl) (hm1104.bxAt 11 rfl) (by kernel_rfl) (by kernel_rfl) (by kernel_rfl) ?_)
          intro w1107 hx1108 hg1109
          refine ⟨.inl (by decide), ?_⟩
          have hm1110 := hm1104.setBox 11 _ rfl rfl hx1108 hg1109
          refine quiet0 [21, 22] [] [4, 19, 20, 21, 42, 46] #[true, true, true, true, true, true, true, true, true, true, true, true, true, true, true, true, true, true, true, true, true, true, true, false] [(4, .pointer (some ⟨b63, 0, none⟩)), (19, .slice A0 x0.length c0), (20, .int .i64 (x0.length : Int)), (21, .int .i64 s83.1), (42, .slice A1094 ((s83.2.1 ++ ([r123] : List Tensor)).length) c1095), (46, .pointer (some ⟨b63, 2, none⟩))] [] 1 rfl (by kernel_rfl) (fun _ _ _ _ _ h => nomatch h.1) hf1106 (by kernel_rfl) trivial fun a1111 hf1112 => ?_
          refine all1 23 (by kernel_rfl) ?_
          refine opOf hf1112 rfl (by kernel_rfl) (aStoreB (b := b63) (j := 2) (T := 72) (cs := [.slice A1063 ((s83.2.2 ++ ([r121] : List Tensor)).length) c1064, .slice A52 ((List.replicate ((x0.length : Int)).toNat (0 : Int)).length) c53, .slice A84 s83.2.1.length c85]) (us := [.slice A1094 ((s83.2.1 ++ ([r123] : List Tensor)).length) c1095]) (cs' := [.slice A1063 ((s83.2.2 ++ ([r121] : List Tensor)).length) c1064, .slice A52 ((List.replicate ((x0.length : Int)).toNat (0 : Int)).length) c53, .slice A1094 ((s83.2.1 ++ ([r123] : List Tensor)).length) c1095]) hf1112 (by kernel_rfl) (hm1110.bxAt 11 rfl) (by kernel_rfl) (by kernel_rfl) (by kernel_rfl) ?_)
          intro w1113 hx1114 hg1115
          refine ⟨.inl (by decide), ?_⟩
          have hm1116 := hm1110.setBox 11 _ rfl rfl hx1114 hg1115
          refine allDone (by kernel_rfl) ⟨rfl, A1094, c1095, A1063, c1064, hf1112.sel (l := [4, 19, 20, 21]) (by kernel_rfl), hm1116.sel [9, 10, 11, 12, 13] _ rfl (by kernel_rfl)⟩
        · refine opOf hf1061 rfl (by kernel_rfl) (aOne [.agg #[.slice A102 (((rd x0 s83.1).Shape).length) c103, .slice A104 (((rd x0 s83.1).Data).length) c105]] (.agg #[.slice A102 (((rd x0 s83.1).Shape).length) c103, .slice A104 (((rd x0 s83.1).Data).length) c105]) [.cell ⟨b110, 0, none⟩ (.slice A102 (((rd x0 s83.1).Shape).length) c103), .cell ⟨b110, 1, none⟩ (.slice A104 (((rd x0 s83.1).Data).length) c105)] 39 hf1061 (by kernel_rfl) rfl (by kernel_rfl) ⟨(hm1062.cell 3 rfl rfl), (hm1062.cell 3 rfl rfl), trivial⟩ fun a1117 hf1118 => ?_)
          refine ⟨.inr (Gr.refl _ _), ?_⟩
          refine all1 9 (by kernel_rfl) ?_
          have e1127 : s83.2.2.length = s83.2.2.length := rfl
          have e1128 : 1 = ([r121] : List Tensor).length := rfl
          refine opOf hf1118 rfl (by kernel_rfl) (aApp (kd := kTensor) (base := 0) (E := 29) (A := A86) (B := (some ⟨b208, 0, none⟩)) (c := c87) (c2 := 1) (xs := s83.2.2) (ys := ([r121] : List Tensor)) (k := s83.2.2.length) (m := 1) (sz := 2) (d := 34) hf1118 (by kernel_rfl) e1127 e1128 (by kernel_rfl) rfl (by kernel_rfl) (hm1062.at 7 rfl) (hm1062.at2 7 0 rfl rfl).2 (hm1062.cpAt 0 rfl) (Nat.zero_le _) (by have := g122; omega) ?_)
          intro A1119 c1120 w1121 a1122 ho1124 hg1125 hr1126 hf1123
          refine ⟨.inl (by decide), ?_⟩
          have hm1129 := hm1062.setOwn 7 _ rfl rfl ho1124 hg1125 hr1126
          refine all1 15 (by kernel_rfl) ?_
          refine opOf hf1123 rfl (by kernel_rfl) (aCall (fid := 34) (args := [.agg #[.slice A102 (((rd x0 s83.1).Shape).length) c103, .slice A104 (((rd x0 s83.1).Data).length) c105]]) (d := 40) hf1123 (by kernel_rfl) (by kernel_rfl) callable34 (shelf_noughts.calls _ _ (⟨((rd x0 s83.1).Shape), ((rd x0 s83.1).Data)⟩ : Tensor) A102 (((rd x0 s83.1).Shape).length) c103 rfl A104 (((rd x0 s83.1).Data).length) c105 rfl (hm1129.give [5, 4] [.sl (Kd.int .i64) A102 c103 ((rd x0 s83.1).Shape), .sl Kd.float A104 c105 ((rd x0 s83.1).Data)] rfl rfl) r123 hr123) ?_)
          rintro _ w1134 a1135 ⟨A1130, c1131, A1132, c1133, rfl, hk1137⟩ hf1136
          refine ⟨.inr (Gr.still hk1137.cum.none), ?_⟩
          have hm1138 := hm1129.back hk1137
          have hm1139 := hm1138.seal 0 _ rfl rfl
          have hm1140 := hm1139.seal 1 _ rfl rfl
          refine all1 16 (by kernel_rfl) ?_
          refine opOf hf1136 rfl (by kernel_rfl) (aLit (cs := [.slice A1130 r123.Shape.length c1131, .slice A1132 r123.Data.length c1133]) (E := 29) (len := 1) (d := 41) hf1136 (by kernel_rfl) (by kernel_rfl) ?_)
          intro b1141 w1142 a1143 hbb1141 hx1145 hg1146 hf1144
          refine ⟨.inr (Gr.still hg1146), ?_⟩
          have hm1140s := hm1140.still hg1146
          have hm1147 := Mem.lit (kd := kTensor) (xs := ([r123] : List Tensor)) hm1140 hbb1141 hx1145 hg1146 (Els.one (kd := kTensor) (us := [.slice A1130 r123.Shape.length c1131, .slice A1132 r123.Data.length c1133]) (x := r123) (kTensor.mk r123 ⟨hm1140s.cpAt 0 rfl, (hm1140s.slAt 0 rfl)⟩ ⟨hm1140s.cpAt 1 rfl, (hm1140s.slAt 1 rfl)⟩))
          refine all1 17 (by kernel_rfl) ?_
          have e1156 : s83.2.1.length = s83.2.1.length := rfl
          have e1157 : 1 = ([r123] : List Tensor).length := rfl
          refine opOf hf1144 rfl (by kernel_rfl) (aApp (kd := kTensor) (base := 0) (E := 29) (A := A84) (B := (some ⟨b1141, 0, none⟩)) (c := c85) (c2 := 1) (xs := s83.2.1) (ys := ([r123] : List Tensor)) (k := s83.2.1.length) (m := 1) (sz := 2) (d := 42) hf1144 (by kernel_rfl) e1156 e1157 (by kernel_rfl) rfl (by kernel_rfl) (hm1147.at 9 rfl) (hm1147.at2 9 0 rfl rfl).2 (hm1147.cpAt 0 rfl) (Nat.zero_le _) (by have := g124; omega) ?_)
          intro A1148 c1149 w1150 a1151 ho1153 hg1154 hr1155 hf1152
          refine ⟨.inl (by decide), ?_⟩
          have hm1158 := hm1147.setOwn 9 _ rfl rfl ho1153 hg1154 hr1155
          refine quiet0 [18, 19] [] [4, 19, 20, 21, 26, 34, 42, 44] #[true, true, true, true, true, true, true, true, true, true, true, true, true, true, true, true, true, true, true, true, false, false, false, false] [(4, .pointer (some ⟨b63, 0, none⟩)), (19, .slice A0 x0.length c0), (20, .int .i64 (x0.length : Int)), (21, .int .i64 s83.1), (26, .pointer (some ⟨b63, 0, none⟩)), (34, .slice A1119 ((s83.2.2 ++ ([r121] : List Tensor)).length) c1120), (42, .slice A1148 ((s83.2.1 ++ ([r123] : List Tensor)).length) c1149), (44, .pointer (some ⟨b63, 0, none⟩))] [] 4 rfl (by kernel_rfl) (fun _ _ _ _ _ h => nomatch h.1) hf1152 (by kernel_rfl) trivial fun a1159 hf1160 => ?_
          refine all1 20 (by kernel_rfl) ?_
          refine opOf hf1160 rfl (by kernel_rfl) (aStoreB (b := b63) (j := 0) (T := 72) (cs := [.slice A86 s83.2.2.length c87, .slice A52 ((List.replicate ((x0.length : Int)).toNat (0 : Int)).length) c53, .slice A84 s83.2.1.length c85]) (us := [.slice A1119 ((s83.2.2 ++ ([r121] : List Tensor)).length) c1120]) (cs' := [.slice A1119 ((s83.2.2 ++ ([r121] : List Tensor)).length) c1120, .slice A52 ((List.replicate ((x0.length : Int)).toNat (0 : Int)).length) c53, .slice A84 s83.2.1.length c85]) hf1160 (by kernel_rfl) (hm1158.bxAt 11 rfl) (by kernel_rfl) (by kernel_rfl) (by kernel_rfl) ?_)
          intro w1161 hx1162 hg1163
          refine ⟨.inl (by decide), ?_⟩
          have hm1164 := hm1158.setBox 11 _ rfl rfl hx1162 hg1163
          refine quiet0 [21, 22] [] [4, 19, 20, 21, 42, 46] #[true, true, true, true, true, true, true, true, true, true, true, true, true, true, true, true, true, true, true, true, true, true, true, false] [(4, .pointer (some ⟨b63, 0, none⟩)), (19, .slice A0 x0.length c0), (20, .int .i64 (x0.length : Int)), (21, .int .i64 s83.1), (42, .slice A1148 ((s83.2.1 ++ ([r123] : List Tensor)).length) c1149), (46, .pointer (some ⟨b63, 2, none⟩))] [] 1 rfl (by kernel_rfl) (fun _ _ _ _ _ h => nomatch h.1) hf1160 (by kernel_rfl) trivial fun a1165 hf1166 => ?_
          refine all1 23 (by kernel_rfl) ?_
          refine opOf hf1166 rfl (by kernel_rfl) (aStoreB (b := b63) (j := 2) (T := 72) (cs := [.slice A1119 ((s83.2.2 ++ ([r121] : List Tensor)).length) c1120, .slice A52 ((List.replicate ((x0.length : Int)).toNat (0 : Int)).length) c53, .slice A84 s83.2.1.length c85]) (us := [.slice A1148 ((s83.2.1 ++ ([r123] : List Tensor)).length) c1149]) (cs' := [.slice A1119 ((s83.2.2 ++ ([r121] : List Tensor)).length) c1120, .slice A52 ((List.replicate ((x0.length : Int)).toNat (0 : Int)).length) c53, .slice A1148 ((s83.2.1 ++ ([r123] : List Tensor)).length) c1149]) hf1166 (by kernel_rfl) (hm1164.bxAt 11 rfl) (by kernel_rfl) (by kernel_rfl) (by kernel_rfl) ?_)
          intro w1167 hx1168 hg1169
          refine ⟨.inl (by decide), ?_⟩
          have hm1170 := hm1164.setBox 11 _ rfl rfl hx1168 hg1169
          refine allDone (by kernel_rfl) ⟨rfl, A1148, c1149, A1119, c1120, hf1166.sel (l := [4, 19, 20, 21]) (by kernel_rfl), hm1170.sel [9, 10, 11, 12, 13] _ rfl (by kernel_rfl)⟩
      refine memoStep (R := fun (a : Act) (w : World) => ∃ (A197 : Option Addr) (c198 : Nat) (A199 : Option Addr) (c200 : Nat) (b208 : Nat), Fr 49 a [(4, .pointer (some ⟨b63, 0, none⟩)), (6, .pointer (some ⟨b110, 0, none⟩)), (19, .slice A0 x0.length c0), (20, .int .i64 (x0.length : Int)), (21, .int .i64 s83.1), (25, .pointer (some ⟨b63, 0, none⟩)), (26, .pointer (some ⟨b63, 0, none⟩)), (30, .slice A86 s83.2.2.length c87), (31, .agg #[.slice A102 (((rd x0 s83.1).Shape).length) c103, .slice A104 (((rd x0 s83.1).Data).length) c105]), (32, .agg #[.slice A197 r121.Shape.length c198, .slice A199 r121.Data.length c200]), (33, .slice (some ⟨b208, 0, none⟩) 1 1), (37, .pointer (some ⟨b63, 2, none⟩)), (39, .agg #[.slice A102 (((rd x0 s83.1).Shape).length) c103, .slice A104 (((rd x0 s83.1).Data).length) c105])] ∧ Mem [] M w0 [.sl kTensor (some ⟨b208, 0, none⟩) 1 ([r121] : List Tensor), .sl (Kd.int .i64) A197 c198 r121.Shape, .sl Kd.float A199 c200 r121.Data, .bx b110 [.slice A102 (((rd x0 s83.1).Shape).length) c103, .slice A104 (((rd x0 s83.1).Data).length) c105] 29, .sl Kd.float A104 c105 ((rd x0 s83.1).Data), .sl (Kd.int .i64) A102 c103 ((rd x0 s83.1).Shape), .ow kTensor 29 A84 c85 s83.2.1, .ow kTensor 29 A86 c87 s83.2.2, .bx b63 [.slice A86 s83.2.2.length c87, .slice A52 ((List.replicate ((x0.length : Int)).toNat (0 : Int)).length) c53, .slice A84 s83.2.1.length c85] 72, .ow (Kd.int .i64) 3 A52 c53 (List.replicate ((x0.length : Int)).toNat (0 : Int)), .sl kTensor A0 c0 x0] w) #[true, true, true, true, true, true, true, true, true, false, true, true, true, false, true, false, false, false, false, false, false, false, false, false] 11 ?_ fun L1171 => ?_
      · rintro a1172 w1173 ⟨A197, c198, A199, c200, b208, hf1174, hm1175⟩
        refine all2 9 13 (by kernel_rfl) ?_ ?_
        · have e1184 : s83.2.2.length = s83.2.2.length := rfl
          have e1185 : 1 = ([r121] : List Tensor).length := rfl
          refine opOf hf1174 rfl (by kernel_rfl) (aApp (kd := kTensor) (base := 0) (E := 29) (A := A86) (B := (some ⟨b208, 0, none⟩)) (c := c87) (c2 := 1) (xs := s83.2.2) (ys := ([r121] : List Tensor)) (k := s83.2.2.length) (m := 1) (sz := 2) (d := 34) hf1174 (by kernel_rfl) e1184 e1185 (by kernel_rfl) rfl (by kernel_rfl) (hm1175.at 7 rfl) (hm1175.at2 7 0 rfl rfl).2 (hm1175.cpAt 0 rfl) (Nat.zero_le _) (by have := g122; omega) ?_)
          intro A1176 c1177 w1178 a1179 ho1181 hg1182 hr1183 hf1180
          refine ⟨.inl (by decide), ?_⟩
          have hm1186 := hm1175.setOwn 7 _ rfl rfl ho1181 hg1182 hr1183
          exact L947 _ _ ⟨A197, c198, A199, c200, b208, A1176, c1177, hf1180.sel (l := [4, 6, 19, 20, 21, 25, 26, 31, 32, 33, 34, 37, 39]) (by kernel_rfl), hm1186.sel [0, 1, 2, 3, 4, 5, 6, 7, 8, 9, 10] _ rfl (by kernel_rfl)⟩
        · refine opOf hf1174 rfl (by kernel_rfl) (aOne [.slice A84 s83.2.1.length c85] (.slice A84 s83.2.1.length c85) [.cell ⟨b63, 2, none⟩ (.slice A84 s83.2.1.length c85)] 38 hf1174 (by kernel_rfl) rfl (by kernel_rfl) ⟨(hm1175.cell 8 rfl rfl), trivial⟩ fun a1187 hf1188 => ?_)
          refine ⟨.inr (Gr.refl _ _), ?_⟩
          refine all1 9 (by kernel_rfl) ?_
          have e1197 : s83.2.2.length = s83.2.2.length := rfl
          have e1198 : 1 = ([r121] : List Tensor).length := rfl
          refine opOf hf1188 rfl (by kernel_rfl) (aApp (kd := kTensor) (base := 0) (E := 29) (A := A86) (B := (some ⟨b208, 0, none⟩)) (c := c87) (c2 := 1) (xs := s83.2.2) (ys := ([r121] : List Tensor)) (k := s83.2.2.length) (m := 1) (sz := 2) (d := 34) hf1188 (by kernel_rfl) e1197 e1198 (by kernel_rfl) rfl (by kernel_rfl) (hm1175.at 7 rfl) (hm1175.at2 7 0 rfl rfl).2 (hm1175.cpAt 0 rfl) (Nat.zero_le _) (by have := g122; omega) ?_)
          intro A1189 c1190 w1191 a1192 ho1194 hg1195 hr1196 hf1193
          refine ⟨.inl (by decide), ?_⟩
          have hm1199 := hm1175.setOwn 7 _ rfl rfl ho1194 hg1195 hr1196
          refine all1 15 (by kernel_rfl) ?_
          refine opOf hf1193 rfl (by kernel_rfl) (aCall (fid := 34) (args := [.agg #[.slice A102 (((rd x0 s83.1).Shape).length) c103, .slice A104 (((rd x0 s83.1).Data).length) c105]]) (d := 40) hf1193 (by kernel_rfl) (by kernel_rfl) callable34 (shelf_noughts.calls _ _ (⟨((rd x0 s83.1).Shape), ((rd x0 s83.1).Data)⟩ : Tensor) A102 (((rd x0 s83.1).Shape).length) c103 rfl A104 (((rd x0 s83.1).Data).length) c105 rfl (hm1199.give [5, 4] [.sl (Kd.int .i64) A102 c103 ((rd x0 s83.1).Shape), .sl Kd.float A104 c105 ((rd x0 s83.1).Data)] rfl rfl) r123 hr123) ?_)
          rintro _ w1204 a1205 ⟨A1200, c1201, A1202, c1203, rfl, hk1207⟩ hf1206
          refine ⟨.inr (Gr.still hk1207.cum.none), ?_⟩
          have hm1208 := hm1199.back hk1207
          have hm1209 := hm1208.seal 0 _ rfl rfl
          have hm1210 := hm1209.seal 1 _ rfl rfl
          refine all1 16 (by kernel_rfl) ?_
          refine opOf hf1206 rfl (by kernel_rfl) (aLit (cs := [.slice A1200 r123.Shape.length c1201, .slice A1202 r123.Data.length c1203]) (E := 29) (len := 1) (d := 41) hf1206 (by kernel_rfl) (by kernel_rfl) ?_)
          intro b1211 w1212 a1213 hbb1211 hx1215 hg1216 hf1214
          refine ⟨.inr (Gr.still hg1216), ?_⟩
          have hm1210s := hm1210.still hg1216
          have hm1217 := Mem.lit (kd := kTensor) (xs := ([r123] : List Tensor)) hm1210 hbb1211 hx1215 hg1216 (Els.one (kd := kTensor) (us := [.slice A1200 r123.Shape.length c1201, .slice A1202 r123.Data.length c1203]) (x := r123) (kTensor.mk r123 ⟨hm1210s.cpAt 0 rfl, (hm1210s.slAt 0 rfl)⟩ ⟨hm1210s.cpAt 1 rfl, (hm1210s.slAt 1 rfl)⟩))
          refine all1 17 (by kernel_rfl) ?_
          have e1226 : s83.2.1.length = s83.2.1.length := rfl
          have e1227 : 1 = ([r123] : List Tensor).length := rfl
          refine opOf hf1214 rfl (by kernel_rfl) (aApp (kd := kTensor) (base := 0) (E := 29) (A := A84) (B := (some ⟨b1211, 0, none⟩)) (c := c85) (c2 := 1) (xs := s83.2.1) (ys := ([r123] : List Tensor)) (k := s83.2.1.length) (m := 1) (sz := 2) (d := 42) hf1214 (by kernel_rfl) e1226 e1227 (by kernel_rfl) rfl (by kernel_rfl) (hm1217.at 9 rfl) (hm1217.at2 9 0 rfl rfl).2 (hm1217.cpAt 0 rfl) (Nat.zero_le _) (by have := g124; omega) ?_)
          intro A1218 c1219 w1220 a1221 ho1223 hg1224 hr1225 hf1222
          refine ⟨.inl (by decide), ?_⟩
          have hm1228 := hm1217.setOwn 9 _ rfl rfl ho1223 hg1224 hr1225
          refine quiet0 [18, 19] [] [4, 19, 20, 21, 26, 34, 42, 44] #[true, true, true, true, true, true, true, true, true, true, true, true, true, true, true, true, true, true, true, true, false, false, false, false] [(4, .pointer (some ⟨b63, 0, none⟩)), (19, .slice A0 x0.length c0), (20, .int .i64 (x0.length : Int)), (21, .int .i64 s83.1), (26, .pointer (some ⟨b63, 0, none⟩)), (34, .slice A1189 ((s83.2.2 ++ ([r121] : List Tensor)).length) c1190), (42, .slice A1218 ((s83.2.1 ++ ([r123] : List Tensor)).length) c1219), (44, .pointer (some ⟨b63, 0, none⟩))] [] 4 rfl (by kernel_rfl) (fun _ _ _ _ _ h => nomatch h.1) hf1222 (by kernel_rfl) trivial fun a1229 hf1230 => ?_
          refine all1 20 (by kernel_rfl) ?_
          refine opOf hf1230 rfl (by kernel_rfl) (aStoreB (b := b63) (j := 0) (T := 72) (cs := [.slice A86 s83.2.2.length c87, .slice A52 ((List.replicate ((x0.length : Int)).toNat (0 : Int)).length) c53, .slice A84 s83.2.1.length c85]) (us := [.slice A1189 ((s83.2.2 ++ ([r121] : List Tensor)).length) c1190]) (cs' := [.slice A1189 ((s83.2.2 ++ ([r121] : List Tensor)).length) c1190, .slice A52 ((List.replicate ((x0.length : Int)).toNat (0 : Int)).length) c53, .slice A84 s83.2.1.length c85]) hf1230 (by kernel_rfl) (hm1228.bxAt 11 rfl) (by kernel_rfl) (by kernel_rfl) (by kernel_rfl) ?_)
          intro w1231 hx1232 hg1233
          refine ⟨.inl (by decide), ?_⟩
          have hm1234 := hm1228.setBox 11 _ rfl rfl hx1232 hg1233
          refine quiet0 [21, 22] [] [4, 19, 20, 21, 42, 46] #[true, true, true, true, true, true, true, true, true, true, true, true, true, true, true, true, true, true, true, true, true, true, true, false] [(4, .pointer (some ⟨b63, 0, none⟩)), (19, .slice A0 x0.length c0), (20, .int .i64 (x0.length : Int)), (21, .int .i64 s83.1), (42, .slice A1218 ((s83.2.1 ++ ([r123] : List Tensor)).length) c1219), (46, .pointer (some ⟨b63, 2, none⟩))] [] 1 rfl (by kernel_rfl) (fun _ _ _ _ _ h => nomatch h.1) hf1230 (by kernel_rfl) trivial fun a1235 hf1236 => ?_
          refine all1 23 (by kernel_rfl) ?_
          refine opOf hf1236 rfl (by kernel_rfl) (aStoreB (b := b63) (j := 2) (T := 72) (cs := [.slice A1189 ((s83.2.2 ++ ([r121] : List Tensor)).length) c1190, .slice A52 ((List.replicate ((x0.length : Int)).toNat (0 : Int)).length) c53, .slice A84 s83.2.1.length c85]) (us := [.slice A1218 ((s83.2.1 ++ ([r123] : List Tensor)).length) c1219]) (cs' := [.slice A1189 ((s83.2.2 ++ ([r121] : List Tensor)).length) c1190, .slice A52 ((List.replicate ((x0.length : Int)).toNat (0 : Int)).length) c53, .slice A1218 ((s83.2.1 ++ ([r123] : List Tensor)).length) c1219]) hf1236 (by kernel_rfl) (hm1234.bxAt 11 rfl) (by kernel_rfl) (by kernel_rfl) (by kernel_rfl) ?_)
          intro w1237 hx1238 hg1239
          refine ⟨.inl (by decide), ?_⟩
          have hm1240 := hm1234.setBox 11 _ rfl rfl hx1238 hg1239
          refine allDone (by kernel_rfl) ⟨rfl, A1218, c1219, A1189, c1190, hf1236.sel (l := [4, 19, 20, 21]) (by kernel_rfl), hm1240.sel [9, 10, 11, 12, 13] _ rfl (by kernel_rfl)⟩
      refine memoStep (R := fun (a : Act) (w : World) => ∃ (A197 : Option Addr) (c198 : Nat) (A199 : Option Addr) (c200 : Nat) (b208 : Nat), Fr 49 a [(4, .pointer (some ⟨b63, 0, none⟩)), (6, .pointer (some ⟨b110, 0, none⟩)), (19, .slice A0 x0.length c0), (20, .int .i64 (x0.length : Int)), (21, .int .i64 s83.1), (25, .pointer (some ⟨b63, 0, none⟩)), (26, .pointer (some ⟨b63, 0, none⟩)), (30, .slice A86 s83.2.2.length c87), (31, .agg #[.slice A102 (((rd x0 s83.1).Shape).length) c103, .slice A104 (((rd x0 s83.1).Data).length) c105]), (32, .agg #[.slice A197 r121.Shape.length c198, .slice A199 r121.Data.length c200]), (33, .slice (some ⟨b208, 0, none⟩) 1 1), (37, .pointer (some ⟨b63, 2, none⟩))] ∧ Mem [] M w0 [.sl kTensor (some ⟨b208, 0, none⟩) 1 ([r121] : List Tensor), .sl (Kd.int .i64) A197 c198 r121.Shape, .sl Kd.float A199 c200 r121.Data, .bx b110 [.slice A102 (((rd x0 s83.1).Shape).length) c103, .slice A104 (((rd x0 s83.1).Data).length) c105] 29, .sl Kd.float A104 c105 ((rd x0 s83.1).Data), .sl (Kd.int .i64) A102 c103 ((rd x0 s83.1).Shape), .ow kTensor 29 A84 c85 s83.2.1, .ow kTensor 29 A86 c87 s83.2.2, .bx b63 [.slice A86 s83.2.2.length c87, .slice A52 ((List.replicate ((x0.length : Int)).toNat (0 : Int)).length) c53, .slice A84 s83.2.1.length c85] 72, .ow (Kd.int .i64) 3 A52 c53 (List.replicate ((x0.length : Int)).toNat (0 : Int)), .sl kTensor A0 c0 x0] w) #[true, true, true, true, true, true, true, true, true, false, true, true, true, false, false, false, false, false, false, false, false, false, false, false] 12 ?_ fun L1241 => ?_
      · rintro a1242 w1243 ⟨A197, c198, A199, c200, b208, hf1244, hm1245⟩
        refine all3 9 13 14 (by kernel_rfl) ?_ ?_ ?_
        · have e1254 : s83.2.2.length = s83.2.2.length := rfl
          have e1255 : 1 = ([r121] : List Tensor).length := rfl
          refine opOf hf1244 rfl (by kernel_rfl) (aApp (kd := kTensor) (base := 0) (E := 29) (A := A86) (B := (some ⟨b208, 0, none⟩)) (c := c87) (c2 := 1) (xs := s83.2.2) (ys := ([r121] : List Tensor)) (k := s83.2.2.length) (m := 1) (sz := 2) (d := 34) hf1244 (by kernel_rfl) e1254 e1255 (by kernel_rfl) rfl (by kernel_rfl) (hm1245.at 7 rfl) (hm1245.at2 7 0 rfl rfl).2 (hm1245.cpAt 0 rfl) (Nat.zero_le _) (by have := g122; omega) ?_)
          intro A1246 c1247 w1248 a1249 ho1251 hg1252 hr1253 hf1250
          refine ⟨.inl (by decide), ?_⟩
          have hm1256 := hm1245.setOwn 7 _ rfl rfl ho1251 hg1252 hr1253
          exact L1006 _ _ ⟨A197, c198, A199, c200, b208, A1246, c1247, hf1250.sel (l := [4, 6, 19, 20, 21, 25, 26, 31, 32, 33, 34, 37]) (by kernel_rfl), hm1256.sel [0, 1, 2, 3, 4, 5, 6, 7, 8, 9, 10] _ rfl (by kernel_rfl)⟩
        · refine opOf hf1244 rfl (by kernel_rfl) (aOne [.slice A84 s83.2.1.length c85] (.slice A84 s83.2.1.length c85) [.cell ⟨b63, 2, none⟩ (.slice A84 s83.2.1.length c85)] 38 hf1244 (by kernel_rfl) rfl (by kernel_rfl) ⟨(hm1245.cell 8 rfl rfl), trivial⟩ fun a1257 hf1258 => ?_)
          refine ⟨.inr (Gr.refl _ _), ?_⟩
          exact L1058 _ _ ⟨A197, c198, A199, c200, b208, hf1258.sel (l := [4, 6, 19, 20, 21, 25, 26, 30, 31, 32, 33, 37, 38]) (by kernel_rfl), hm1245.sel [0, 1, 2, 3, 4, 5, 6, 7, 8, 9, 10] _ rfl (by kernel_rfl)⟩
        · refine opOf hf1244 rfl (by kernel_rfl) (aOne [.agg #[.slice A102 (((rd x0 s83.1).Shape).length) c103, .slice A104 (((rd x0 s83.1).Data).length) c105]] (.agg #[.slice A102 (((rd x0 s83.1).Shape).length) c103, .slice A104 (((rd x0 s83.1).Data).length) c105]) [.cell ⟨b110, 0, none⟩ (.slice A102 (((rd x0 s83.1).Shape).length) c103), .cell ⟨b110, 1, none⟩ (.slice A104 (((rd x0 s83.1).Data).length) c105)] 39 hf1244 (by kernel_rfl) rfl (by kernel_rfl) ⟨(hm1245.cell 3 rfl rfl), (hm1245.cell 3 rfl rfl), trivial⟩ fun a1259 hf1260 => ?_)
          refine ⟨.inr (Gr.refl _ _), ?_⟩
          exact L1171 _ _ ⟨A197, c198, A199, c200, b208, hf1260.sel (l := [4, 6, 19, 20, 21, 25, 26, 30, 31, 32, 33, 37, 39]) (by kernel_rfl), hm1245.sel [0, 1, 2, 3, 4, 5, 6, 7, 8, 9, 10] _ rfl (by kernel_rfl)⟩
      refine memoStep (R := fun (a : Act) (w : World) => ∃ (A197 : Option Addr) (c198 : Nat) (A199 : Option Addr) (c200 : Nat), Fr 49 a [(4, .pointer (some ⟨b63, 0, none⟩)), (6, .pointer (some ⟨b110, 0, none⟩)), (19, .slice A0 x0.length c0), (20, .int .i64 (x0.length : Int)), (21, .int .i64 s83.1), (25, .pointer (some ⟨b63, 0, none⟩)), (26, .pointer (some ⟨b63, 0, none⟩)), (30, .slice A86 s83.2.2.length c87), (31, .agg #[.slice A102 (((rd x0 s83.1).Shape).length) c103, .slice A104 (((rd x0 s83.1).Data).length) c105]), (32, .agg #[.slice A197 r121.Shape.length c198, .slice A199 r121.Data.length c200]), (37, .pointer (some ⟨b63, 2, none⟩)), (38, .slice A84 s83.2.1.length c85)] ∧ Mem [] M w0 [.sl (Kd.int .i64) A197 c198 r121.Shape, .sl Kd.float A199 c200 r121.Data, .bx b110 [.slice A102 (((rd x0 s83.1).Shape).length) c103, .slice A104 (((rd x0 s83.1).Data).length) c105] 29, .sl Kd.float A104 c105 ((rd x0 s83.1).Data), .sl (Kd.int .i64) A102 c103 ((rd x0 s83.1).Shape), .ow kTensor 29 A84 c85 s83.2.1, .ow kTensor 29 A86 c87 s83.2.2, .bx b63 [.slice A86 s83.2.2.length c87, .slice A52 ((List.replicate ((x0.length : Int)).toNat (0 : Int)).length) c53, .slice A84 s83.2.1.length c85] 72, .ow (Kd.int .i64) 3 A52 c53 (List.replicate ((x0.length : Int)).toNat (0 : Int)), .sl kTensor A0 c0 x0] w) #[true, true, true, true, true, true, true, true, false, false, true, true, true, true, false, false, false, false, false, false, false, false, false, false] 12 ?_ fun L1261 => ?_
      · rintro a1262 w1263 ⟨A197, c198, A199, c200, hf1264, hm1265⟩
        refine all2 8 14 (by kernel_rfl) ?_ ?_
        · refine opOf hf1264 rfl (by kernel_rfl) (aLit (cs := [.slice A197 r121.Shape.length c198, .slice A199 r121.Data.length c200]) (E := 29) (len := 1) (d := 33) hf1264 (by kernel_rfl) (by kernel_rfl) ?_)
          intro b1266 w1267 a1268 hbb1266 hx1270 hg1271 hf1269
          refine ⟨.inr (Gr.still hg1271), ?_⟩
          have hm1265s := hm1265.still hg1271
          have hm1272 := Mem.lit (kd := kTensor) (xs := ([r121] : List Tensor)) hm1265 hbb1266 hx1270 hg1271 (Els.one (kd := kTensor) (us := [.slice A197 r121.Shape.length c198, .slice A199 r121.Data.length c200]) (x := r121) (kTensor.mk r121 ⟨hm1265s.cpAt 0 rfl, (hm1265s.slAt 0 rfl)⟩ ⟨hm1265s.cpAt 1 rfl, (hm1265s.slAt 1 rfl)⟩))
          exact L1058 _ _ ⟨A197, c198, A199, c200, b1266, hf1269.sel (l := [4, 6, 19, 20, 21, 25, 26, 30, 31, 32, 33, 37, 38]) (by kernel_rfl), hm1272.sel [0, 1, 2, 3, 4, 5, 6, 7, 8, 9, 10] _ rfl (by kernel_rfl)⟩
        · refine opOf hf1264 rfl (by kernel_rfl) (aOne [.agg #[.slice A102 (((rd x0 s83.1).Shape).length) c103, .slice A104 (((rd x0 s83.1).Data).length) c105]] (.agg #[.slice A102 (((rd x0 s83.1).Shape).length) c103, .slice A104 (((rd x0 s83.1).Data).length) c105]) [.cell ⟨b110, 0, none⟩ (.slice A102 (((rd x0 s83.1).Shape).length) c103), .cell ⟨b110, 1, none⟩ (.slice A104 (((rd x0 s83.1).Data).length) c105)] 39 hf1264 (by kernel_rfl) rfl (by kernel_rfl) ⟨(hm1265.cell 2 rfl rfl), (hm1265.cell 2 rfl rfl), trivial⟩ fun a1273 hf1274 => ?_)
          refine ⟨.inr (Gr.refl _ _), ?_⟩
          refine all1 8 (by kernel_rfl) ?_
          refine opOf hf1274 rfl (by kernel_rfl) (aLit (cs := [.slice A197 r121.Shape.length c198, .slice A199 r121.Data.length c200]) (E := 29) (len := 1) (d := 33) hf1274 (by kernel_rfl) (by kernel_rfl) ?_)
          intro b1275 w1276 a1277 hbb1275 hx1279 hg1280 hf1278
          refine ⟨.inr (Gr.still hg1280), ?_⟩
          have hm1265s := hm1265.still hg1280
          have hm1281 := Mem.lit (kd := kTensor) (xs := ([r121] : List Tensor)) hm1265 hbb1275 hx1279 hg1280 (Els.one (kd := kTensor) (us := [.slice A197 r121.Shape.length c198, .slice A199 r121.Data.length c200]) (x := r121) (kTensor.mk r121 ⟨hm1265s.cpAt 0 rfl, (hm1265s.slAt 0 rfl)⟩ ⟨hm1265s.cpAt 1 rfl, (hm1265s.slAt 1 rfl)⟩))
          refine all1 9 (by kernel_rfl) ?_
          have e1290 : s83.2.2.length = s83.2.2.length := rfl
          have e1291 : 1 = ([r121] : List Tensor).length := rfl
          refine opOf hf1278 rfl (by kernel_rfl) (aApp (kd := kTensor) (base := 0) (E := 29) (A := A86) (B := (some ⟨b1275, 0, none⟩)) (c := c87) (c2 := 1) (xs := s83.2.2) (ys := ([r121] : List Tensor)) (k := s83.2.2.length) (m := 1) (sz := 2) (d := 34) hf1278 (by kernel_rfl) e1290 e1291 (by kernel_rfl) rfl (by kernel_rfl) (hm1281.at 7 rfl) (hm1281.at2 7 0 rfl rfl).2 (hm1281.cpAt 0 rfl) (Nat.zero_le _) (by have := g122; omega) ?_)
          intro A1282 c1283 w1284 a1285 ho1287 hg1288 hr1289 hf1286
          refine ⟨.inl (by decide), ?_⟩
          have hm1292 := hm1281.setOwn 7 _ rfl rfl ho1287 hg1288 hr1289
          refine all1 15 (by kernel_rfl) ?_
          refine opOf hf1286 rfl (by kernel_rfl) (aCall (fid := 34) (args := [.agg #[.slice A102 (((rd x0 s83.1).Shape).length) c103, .slice A104 (((rd x0 s83.1).Data).length) c105]]) (d := 40) hf1286 (by kernel_rfl) (by kernel_rfl) callable34 (shelf_noughts.calls _ _ (⟨((rd x0 s83.1).Shape), ((rd x0 s83.1).Data)⟩ : Tensor) A102 (((rd x0 s83.1).Shape).length) c103 rfl A104 (((rd x0 s83.1).Data).length) c105 rfl (hm1292.give [5, 4] [.sl (Kd.int .i64) A102 c103 ((rd x0 s83.1).Shape), .sl Kd.float A104 c105 ((rd x0 s83.1).Data)] rfl rfl) r123 hr123) ?_)
          rintro _ w1297 a1298 ⟨A1293, c1294, A1295, c1296, rfl, hk1300⟩ hf1299
          refine ⟨.inr (Gr.still hk1300.cum.none), ?_⟩
          have hm1301 := hm1292.back hk1300
          have hm1302 := hm1301.seal 0 _ rfl rfl
          have hm1303 := hm1302.seal 1 _ rfl rfl
          refine all1 16 (by kernel_rfl) ?_
          refine opOf hf1299 rfl (by kernel_rfl) (aLit (cs := [.slice A1293 r123.Shape.length c1294, .slice A1295 r123.Data.length c1296]) (E := 29) (len := 1) (d := 41) hf1299 (by kernel_rfl) (by kernel_rfl) ?_)
          intro b1304 w1305 a1306 hbb1304 hx1308 hg1309 hf1307
          refine ⟨.inr (Gr.still hg1309), ?_⟩
          have hm1303s := hm1303.still hg1309
          have hm1310 := Mem.lit (kd := kTensor) (xs := ([r123] : List Tensor)) hm1303 hbb1304 hx1308 hg1309 (Els.one (kd := kTensor) (us := [.slice A1293 r123.Shape.length c1294, .slice A1295 r123.Data.length c1296]) (x := r123) (kTensor.mk r123 ⟨hm1303s.cpAt 0 rfl, (hm1303s.slAt 0 rfl)⟩ ⟨hm1303s.cpAt 1 rfl, (hm1303s.slAt 1 rfl)⟩))
          refine all1 17 (by kernel_rfl) ?_
          have e1319 : s83.2.1.length = s83.2.1.length := rfl
          have e1320 : 1 = ([r123] : List Tensor).length := rfl
          refine opOf hf1307 rfl (by kernel_rfl) (aApp (kd := kTensor) (base := 0) (E := 29) (A := A84) (B := (some ⟨b1304, 0, none⟩)) (c := c85) (c2 := 1) (xs := s83.2.1) (ys := ([r123] : List Tensor)) (k := s83.2.1.length) (m := 1) (sz := 2) (d := 42) hf1307 (by kernel_rfl) e1319 e1320 (by kernel_rfl) rfl (by kernel_rfl) (hm1310.at 9 rfl) (hm1310.at2 9 0 rfl rfl).2 (hm1310.cpAt 0 rfl) (Nat.zero_le _) (by have := g124; omega) ?_)
          intro A1311 c1312 w1313 a1314 ho1316 hg1317 hr1318 hf1315
          refine ⟨.inl (by decide), ?_⟩
          have hm1321 := hm1310.setOwn 9 _ rfl rfl ho1316 hg1317 hr1318
          refine quiet0 [18, 19] [] [4, 19, 20, 21, 26, 34, 42, 44] #[true, true, true, true, true, true, true, true, true, true, true, true, true, true, true, true, true, true, true, true, false, false, false, false] [(4, .pointer (some ⟨b63, 0, none⟩)), (19, .slice A0 x0.length c0), (20, .int .i64 (x0.length : Int)), (21, .int .i64 s83.1), (26, .pointer (some ⟨b63, 0, none⟩)), (34, .slice A1282 ((s83.2.2 ++ ([r121] : List Tensor)).length) c1283), (42, .slice A1311 ((s83.2.1 ++ ([r123] : List Tensor)).length) c1312), (44, .pointer (some ⟨b63, 0, none⟩))] [] 4 rfl (by kernel_rfl) (fun _ _ _ _ _ h => nomatch h.1) hf1315 (by kernel_rfl) trivial fun a1322 hf1323 => ?_
          refine all1 20 (by kernel_rfl) ?_
          refine opOf hf1323 rfl (by kernel_rfl) (aStoreB (b := b63) (j := 0) (T := 72) (cs := [.slice A86 s83.2.2.length c87, .slice A52 ((List.replicate ((x0.length : Int)).toNat (0 : Int)).length) c53, .slice A84 s83.2.1.length c85]) (us := [.slice A1282 ((s83.2.2 ++ ([r121] : List Tensor)).length) c1283]) (cs' := [.slice A1282 ((s83.2.2 ++ ([r121] : List Tensor)).length) c1283, .slice A52 ((List.replicate ((x0.length : Int)).toNat (0 : Int)).length) c53, .slice A84 s83.2.1.length c85]) hf1323 (by kernel_rfl) (hm1321.bxAt 11 rfl) (by kernel_rfl) (by kernel_rfl) (by kernel_rfl) ?_)
          intro w1324 hx1325 hg1326
          refine ⟨.inl (by decide), ?_⟩
          have hm1327 := hm1321.setBox 11 _ rfl rfl hx1325 hg1326
          refine quiet0 [21, 22] [] [4, 19, 20, 21, 42, 46] #[true, true, true, true, true, true, true, true, true, true, true, true, true, true, true, true, true, true, true, true, true, true, true, false] [(4, .pointer (some ⟨b63, 0, none⟩)), (19, .slice A0 x0.length c0), (20, .int .i64 (x0.length : Int)), (21, .int .i64 s83.1), (42, .slice A1311 ((s83.2.1 ++ ([r123] : List Tensor)).length) c1312), (46, .pointer (some ⟨b63, 2, none⟩))] [] 1 rfl (by kernel_rfl) (fun _ _ _ _ _ h => nomatch h.1) hf1323 (by kernel_rfl) trivial fun a1328 hf1329 => ?_
          refine all1 23 (by kernel_rfl) ?_
          refine opOf hf1329 rfl (by kernel_rfl) (aStoreB (b := b63) (j := 2) (T := 72) (cs := [.slice A1282 ((s83.2.2 ++ ([r121] : List Tensor)).length) c1283, .slice A52 ((List.replicate ((x0.length : Int)).toNat (0 : Int)).length) c53, .slice A84 s83.2.1.length c85]) (us := [.slice A1311 ((s83.2.1 ++ ([r123] : List Tensor)).length) c1312]) (cs' := [.slice A1282 ((s83.2.2 ++ ([r121] : List Tensor)).length) c1283, .slice A52 ((List.replicate ((x0.length : Int)).toNat (0 : Int)).length) c53, .slice A1311 ((s83.2.1 ++ ([r123] : List Tensor)).length) c1312]) hf1329 (by kernel_rfl) (hm1327.bxAt 11 rfl) (by kernel_rfl) (by kernel_rfl) (by kernel_rfl) ?_)
          intro w1330 hx1331 hg1332
          refine ⟨.inl (by decide), ?_⟩
          have hm1333 := hm1327.setBox 11 _ rfl rfl hx1331 hg1332
          refine allDone (by kernel_rfl) ⟨rfl, A1311, c1312, A1282, c1283, hf1329.sel (l := [4, 19, 20, 21]) (by kernel_rfl), hm1333.sel [9, 10, 11, 12, 13] _ rfl (by kernel_rfl)⟩
      refine memoStep (R := fun (a : Act) (w : World) => ∃ (A197 : Option Addr) (c198 : Nat) (A199 : Option Addr) (c200 : Nat), Fr 49 a [(4, .pointer (some ⟨b63, 0, none⟩)), (6, .pointer (some ⟨b110, 0, none⟩)), (19, .slice A0 x0.length c0), (20, .int .i64 (x0.length : Int)), (21, .int .i64 s83.1), (25, .pointer (some ⟨b63, 0, none⟩)), (26, .pointer (some ⟨b63, 0, none⟩)), (30, .slice A86 s83.2.2.length c87), (31, .agg #[.slice A102 (((rd x0 s83.1).Shape).length) c103, .slice A104 (((rd x0 s83.1).Data).length) c105]), (32, .agg #[.slice A197 r121.Shape.length c198, .slice A199 r121.Data.length c200]), (37, .pointer (some ⟨b63, 2, none⟩)), (39, .agg #[.slice A102 (((rd x0 s83.1).Shape).length) c103, .slice A104 (((rd x0 s83.1).Data).length) c105])] ∧ Mem [] M w0 [.sl (Kd.int .i64) A197 c198 r121.Shape, .sl Kd.float A199 c200 r121.Data, .bx b110 [.slice A102 (((rd x0 s83.1).Shape).length) c103, .slice A104 (((rd x0 s83.1).Data).length) c105] 29, .sl Kd.float A104 c105 ((rd x0 s83.1).Data), .sl (Kd.int .i64) A102 c103 ((rd x0 s83.1).Shape), .ow kTensor 29 A84 c85 s83.2.1, .ow kTensor 29 A86 c87 s83.2.2, .bx b63 [.slice A86 s83.2.2.length c87, .slice A52 ((List.replicate ((x0.length : Int)).toNat (0 : Int)).length) c53, .slice A84 s83.2.1.length c85] 72, .ow (Kd.int .i64) 3 A52 c53 (List.replicate ((x0.length : Int)).toNat (0 : Int)), .sl kTensor A0 c0 x0] w) #[true, true, true, true, true, true, true, true, false, false, true, true, true, false, true, false, false, false, false, false, false, false, false, false] 12 ?_ fun L1334 => ?_
      · rintro a1335 w1336 ⟨A197, c198, A199, c200, hf1337, hm1338⟩
        refine all2 8 13 (by kernel_rfl) ?_ ?_
        · refine opOf hf1337 rfl (by kernel_rfl) (aLit (cs := [.slice A197 r121.Shape.length c198, .slice A199 r121.Data.length c200]) (E := 29) (len := 1) (d := 33) hf1337 (by kernel_rfl) (by kernel_rfl) ?_)
          intro b1339 w1340 a1341 hbb1339 hx1343 hg1344 hf1342
          refine ⟨.inr (Gr.still hg1344), ?_⟩
          have hm1338s := hm1338.still hg1344
          have hm1345 := Mem.lit (kd := kTensor) (xs := ([r121] : List Tensor)) hm1338 hbb1339 hx1343 hg1344 (Els.one (kd := kTensor) (us := [.slice A197 r121.Shape.length c198, .slice A199 r121.Data.length c200]) (x := r121) (kTensor.mk r121 ⟨hm1338s.cpAt 0 rfl, (hm1338s.slAt 0 rfl)⟩ ⟨hm1338s.cpAt 1 rfl, (hm1338s.slAt 1 rfl)⟩))
          exact L1171 _ _ ⟨A197, c198, A199, c200, b1339, hf1342.sel (l := [4, 6, 19, 20, 21, 25, 26, 30, 31, 32, 33, 37, 39]) (by kernel_rfl), hm1345.sel [0, 1, 2, 3, 4, 5, 6, 7, 8, 9, 10] _ rfl (by kernel_rfl)⟩
        · refine opOf hf1337 rfl (by kernel_rfl) (aOne [.slice A84 s83.2.1.length c85] (.slice A84 s83.2.1.length c85) [.cell ⟨b63, 2, none⟩ (.slice A84 s83.2.1.length c85)] 38 hf1337 (by kernel_rfl) rfl (by kernel_rfl) ⟨(hm1338.cell 7 rfl rfl), trivial⟩ fun a1346 hf1347 => ?_)
          refine ⟨.inr (Gr.refl _ _), ?_⟩
          refine all1 8 (by kernel_rfl) ?_
          refine opOf hf1347 rfl (by kernel_rfl) (aLit (cs := [.slice A197 r121.Shape.length c198, .slice A199 r121.Data.length c200]) (E := 29) (len := 1) (d := 33) hf1347 (by kernel_rfl) (by kernel_rfl) ?_)
          intro b1348 w1349 a1350 hbb1348 hx1352 hg1353 hf1351
          refine ⟨.inr (Gr.still hg1353), ?_⟩
          have hm1338s := hm1338.still hg1353
          have hm1354 := Mem.lit (kd := kTensor) (xs := ([r121] : List Tensor)) hm1338 hbb1348 hx1352 hg1353 (Els.one (kd := kTensor) (us := [.slice A197 r121.Shape.length c198, .slice A199 r121.Data.length c200]) (x := r121) (kTensor.mk r121 ⟨hm1338s.cpAt 0 rfl, (hm1338s.slAt 0 rfl)⟩ ⟨hm1338s.cpAt 1 rfl, (hm1338s.slAt 1 rfl)⟩))
          refine all1 9 (by kernel_rfl) ?_
          have e1363 : s83.2.2.length = s83.2.2.length := rfl
          have e1364 : 1 = ([r121] : List Tensor).length := rfl
          refine opOf hf1351 rfl (by kernel_rfl) (aApp (kd := kTensor) (base := 0) (E := 29) (A := A86) (B := (some ⟨b1348, 0, none⟩)) (c := c87) (c2 := 1) (xs := s83.2.2) (ys := ([r121] : List Tensor)) (k := s83.2.2.length) (m := 1) (sz := 2) (d := 34) hf1351 (by kernel_rfl) e1363 e1364 (by kernel_rfl) rfl (by kernel_rfl) (hm1354.at 7 rfl) (hm1354.at2 7 0 rfl rfl).2 (hm1354.cpAt 0 rfl) (Nat.zero_le _) (by have := g122; omega) ?_)
          intro A1355 c1356 w1357 a1358 ho1360 hg1361 hr1362 hf1359
          refine ⟨.inl (by decide), ?_⟩
          have hm1365 := hm1354.setOwn 7 _ rfl rfl ho1360 hg1361 hr1362
          refine all1 15 (by kernel_rfl) ?_
          refine opOf hf1359 rfl (by kernel_rfl) (aCall (fid := 34) (args := [.agg #[.slice A102 (((rd x0 s83.1).Shape).length) c103, .slice A104 (((rd x0 s83.1).Data).length) c105]]) (d := 40) hf1359 (by kernel_rfl) (by kernel_rfl) callable34 (shelf_noughts.calls _ _ (⟨((rd x0 s83.1).Shape), ((rd x0 s83.1).Data)⟩ : Tensor) A102 (((rd x0 s83.1).Shape).length) c103 rfl A104 (((rd x0 s83.1).Data).length) c105 rfl (hm1365.give [5, 4] [.sl (Kd.int .i64) A102 c103 ((rd x0 s83.1).Shape), .sl Kd.float A104 c105 ((rd x0 s83.1).Data)] rfl rfl) r123 hr123) ?_)
          rintro _ w1370 a1371 ⟨A1366, c1367, A1368, c1369, rfl, hk1373⟩ hf1372
          refine ⟨.inr (Gr.still hk1373.cum.none), ?_⟩
          have hm1374 := hm1365.back hk1373
          have hm1375 := hm1374.seal 0 _ rfl rfl
          have hm1376 := hm1375.seal 1 _ rfl rfl
          refine all1 16 (by kernel_rfl) ?_
          refine opOf hf1372 rfl (by kernel_rfl) (aLit (cs := [.slice A1366 r123.Shape.length c1367, .slice A1368 r123.Data.length c1369]) (E := 29) (len := 1) (d := 41) hf1372 (by kernel_rfl) (by kernel_rfl) ?_)
          intro b1377 w1378 a1379 hbb1377 hx1381 hg1382 hf1380
          refine ⟨.inr (Gr.still hg1382), ?_⟩
          have hm1376s := hm1376.still hg1382
          have hm1383 := Mem.lit (kd := kTensor) (xs := ([r123] : List Tensor)) hm1376 hbb1377 hx1381 hg1382 (Els.one (kd := kTensor) (us := [.slice A1366 r123.Shape.length c1367, .slice A1368 r123.Data.length c1369]) (x := r123) (kTensor.mk r123 ⟨hm1376s.cpAt 0 rfl, (hm1376s.slAt 0 rfl)⟩ ⟨hm1376s.cpAt 1 rfl, (hm1376s.slAt 1 rfl)⟩))
          refine all1 17 (by kernel_rfl) ?_
          have e1392 : s83.2.1.length = s83.2.1.length := rfl
          have e1393 : 1 = ([r123] : List Tensor).length := rfl
          refine opOf hf1380 rfl (by kernel_rfl) (aApp (kd := kTensor) (base := 0) (E := 29) (A := A84) (B := (some ⟨b1377, 0, none⟩)) (c := c85) (c2 := 1) (xs := s83.2.1) (ys := ([r123] : List Tensor)) (k := s83.2.1.length) (m := 1) (sz := 2) (d := 42) hf1380 (by kernel_rfl) e1392 e1393 (by kernel_rfl) rfl (by kernel_rfl) (hm1383.at 9 rfl) (hm1383.at2 9 0 rfl rfl).2 (hm1383.cpAt 0 rfl) (Nat.zero_le _) (by have := g124; omega) ?_)
          intro A1384 c1385 w1386 a1387 ho1389 hg1390 hr1391 hf1388
          refine ⟨.inl (by decide), ?_⟩
          have hm1394 := hm1383.setOwn 9 _ rfl rfl ho1389 hg1390 hr1391
          refine quiet0 [18, 19] [] [4, 19, 20, 21, 26, 34, 42, 44] #[true, true, true, true, true, true, true, true, true, true, true, true, true, true, true, true, true, true, true, true, false, false, false, false] [(4, .pointer (some ⟨b63, 0, none⟩)), (19, .slice A0 x0.length c0), (20, .int .i64 (x0.length : Int)), (21, .int .i64 s83.1), (26, .pointer (some ⟨b63, 0, none⟩)), (34, .slice A1355 ((s83.2.2 ++ ([r121] : List Tensor)).length) c1356), (42, .slice A1384 ((s83.2.1 ++ ([r123] : List Tensor)).length) c1385), (44, .pointer (some ⟨b63, 0, none⟩))] [] 4 rfl (by kernel_rfl) (fun _ _ _ _ _ h => nomatch h.1) hf1388 (by kernel_rfl) trivial fun a1395 hf1396 => ?_
          refine all1 20 (by kernel_rfl) ?_
          refine opOf hf1396 rfl (by kernel_rfl) (aStoreB (b := b63) (j := 0) (T := 72) (cs := [.slice A86 s83.2.2.length c87, .slice A52 ((List.replicate ((x0.length : Int)).toNat (0 : Int)).length) c53, .slice A84 s83.2.1.length c85]) (us := [.slice A1355 ((s83.2.2 ++ ([r121] : List Tensor)).length) c1356]) (cs' := [.slice A1355 ((s83.2.2 ++ ([r121] : List Tensor)).length) c1356, .slice A52 ((List.replicate ((x0.length : Int)).toNat (0 : Int)).length) c53, .slice A84 s83.2.1.length c85]) hf1396 (by kernel_rfl) (hm1394.bxAt 11 rfl) (by kernel_rfl) (by kernel_rfl) (by kernel_rfl) ?_)
          intro w1397 hx1398 hg1399
          refine ⟨.inl (by decide), ?_⟩
          have hm1400 := hm1394.setBox 11 _ rfl rfl hx1398 hg1399
          refine quiet0 [21, 22] [] [4, 19, 20, 21, 42, 46] #[true, true, true, true, true, true, true, true, true, true, true, true, true, true, true, true, true, true, true, true, true, true, true, false] [(4, .pointer (some ⟨b63, 0, none⟩)), (19, .slice A0 x0.length c0), (20, .int .i64 (x0.length : Int)), (21, .int .i64 s83.1), (42, .slice A1384 ((s83.2.1 ++ ([r123] : List Tensor)).length) c1385), (46, .pointer (some ⟨b63, 2, none⟩))] [] 1 rfl (by kernel_rfl) (fun _ _ _ _ _ h => nomatch h.1) hf1396 (by kernel_rfl) trivial fun a1401 hf1402 => ?_
          refine all1 23 (by kernel_rfl) ?_
          refine opOf hf1402 rfl (by kernel_rfl) (aStoreB (b := b63) (j := 2) (T := 72) (cs := [.slice A1355 ((s83.2.2 ++ ([r121] : List Tensor)).length) c1356, .slice A52 ((List.replicate ((x0.length : Int)).toNat (0 : Int)).length) c53, .slice A84 s83.2.1.length c85]) (us := [.slice A1384 ((s83.2.1 ++ ([r123] : List Tensor)).length) c1385]) (cs' := [.slice A1355 ((s83.2.2 ++ ([r121] : List Tensor)).length) c1356, .slice A52 ((List.replicate ((x0.length : Int)).toNat (0 : Int)).length) c53, .slice A1384 ((s83.2.1 ++ ([r123] : List Tensor)).length) c1385]) hf1402 (by kernel_rfl) (hm1400.bxAt 11 rfl) (by kernel_rfl) (by kernel_rfl) (by kernel_rfl) ?_)
          intro w1403 hx1404 hg1405
          refine ⟨.inl (by decide), ?_⟩
          have hm1406 := hm1400.setBox 11 _ rfl rfl hx1404 hg1405
          refine allDone (by kernel_rfl) ⟨rfl, A1384, c1385, A1355, c1356, hf1402.sel (l := [4, 19, 20, 21]) (by kernel_rfl), hm1406.sel [9, 10, 11, 12, 13] _ rfl (by kernel_rfl)⟩
      refine memoStep (R := fun (a : Act) (w : World) => ∃ (A197 : Option Addr) (c198 : Nat) (A199 : Option Addr) (c200 : Nat), Fr 49 a [(4, .pointer (some ⟨b63, 0, none⟩)), (6, .pointer (some ⟨b110, 0, none⟩)), (19, .slice A0 x0.length c0), (20, .int .i64 (x0.length : Int)), (21, .int .i64 s83.1), (25, .pointer (some ⟨b63, 0, none⟩)), (26, .pointer (some ⟨b63, 0, none⟩)), (30, .slice A86 s83.2.2.length c87), (31, .agg #[.slice A102 (((rd x0 s83.1).Shape).length) c103, .slice A104 (((rd x0 s83.1).Data).length) c105]), (32, .agg #[.slice A197 r121.Shape.length c198, .slice A199 r121.Data.length c200]), (37, .pointer (some ⟨b63, 2, none⟩))] ∧ Mem [] M w0 [.sl (Kd.int .i64) A197 c198 r121.Shape, .sl Kd.float A199 c200 r121.Data, .bx b110 [.slice A102 (((rd x0 s83.1).Shape).length) c103, .slice A104 (((rd x0 s83.1).Data).length) c105] 29, .sl Kd.float A104 c105 ((rd x0 s83.1).Data), .sl (Kd.int .i64) A102 c103 ((rd x0 s83.1).Shape), .ow kTensor 29 A84 c85 s83.2.1, .ow kTensor 29 A86 c87 s83.2.2, .bx b63 [.slice A86 s83.2.2.length c87, .slice A52 ((List.replicate ((x0.length : Int)).toNat (0 : Int)).length) c53, .slice A84 s83.2.1.length c85] 72, .ow (Kd.int .i64) 3 A52 c53 (List.replicate ((x0.length : Int)).toNat (0 : Int)), .sl kTensor A0 c0 x0] w) #[true, true, true, true, true, true, true, true, false, false, true, true, true, false, false, false, false, false, false, false, false, false, false, false] 13 ?_ fun L1407 => ?_
      · rintro a1408 w1409 ⟨A197, c198, A199, c200, hf1410, hm1411⟩
        refine all3 8 13 14 (by kernel_rfl) ?_ ?_ ?_
        · refine opOf hf1410 rfl (by kernel_rfl) (aLit (cs := [.slice A197 r121.Shape.length c198, .slice A199 r121.Data.length c200]) (E := 29) (len := 1) (d := 33) hf1410 (by kernel_rfl) (by kernel_rfl) ?_)
          intro b1412 w1413 a1414 hbb1412 hx1416 hg1417 hf1415
          refine ⟨.inr (Gr.still hg1417), ?_⟩
          have hm1411s := hm1411.still hg1417
          have hm1418 := Mem.lit (kd := kTensor) (xs := ([r121] : List Tensor)) hm1411 hbb1412 hx1416 hg1417 (Els.one (kd := kTensor) (us := [.slice A197 r121.Shape.length c198, .slice A199 r121.Data.length c200]) (x := r121) (kTensor.mk r121 ⟨hm1411s.cpAt 0 rfl, (hm1411s.slAt 0 rfl)⟩ ⟨hm1411s.cpAt 1 rfl, (hm1411s.slAt 1 rfl)⟩))
          exact L1241 _ _ ⟨A197, c198, A199, c200, b1412, hf1415.sel (l := [4, 6, 19, 20, 21, 25, 26, 30, 31, 32, 33, 37]) (by kernel_rfl), hm1418.sel [0, 1, 2, 3, 4, 5, 6, 7, 8, 9, 10] _ rfl (by kernel_rfl)⟩
        · refine opOf hf1410 rfl (by kernel_rfl) (aOne [.slice A84 s83.2.1.length c85] (.slice A84 s83.2.1.length c85) [.cell ⟨b63, 2, none⟩ (.slice A84 s83.2.1.length c85)] 38 hf1410 (by kernel_rfl) rfl (by kernel_rfl) ⟨(hm1411.cell 7 rfl rfl), trivial⟩ fun a1419 hf1420 => ?_)
          refine ⟨.inr (Gr.refl _ _), ?_⟩
          exact L1261 _ _ ⟨A197, c198, A199, c200, hf1420.sel (l := [4, 6, 19, 20, 21, 25, 26, 30, 31, 32, 37, 38]) (by kernel_rfl), hm1411.sel [0, 1, 2, 3, 4, 5, 6, 7, 8, 9] _ rfl (by kernel_rfl)⟩
        · refine opOf hf1410 rfl (by kernel_rfl) (aOne [.agg #[.slice A102 (((rd x0 s83.1).Shape).length) c103, .slice A104 (((rd x0 s83.1).Data).length) c105]] (.agg #[.slice A102 (((rd x0 s83.1).Shape).length) c103, .slice A104 (((rd x0 s83.1).Data).length) c105]) [.cell ⟨b110, 0, none⟩ (.slice A102 (((rd x0 s83.1).Shape).length) c103), .cell ⟨b110, 1, none⟩ (.slice A104 (((rd x0 s83.1).Data).length) c105)] 39 hf1410 (by kernel_rfl) rfl (by kernel_rfl) ⟨(hm1411.cell 2 rfl rfl), (hm1411.cell 2 rfl rfl), trivial⟩ fun a1421 hf1422 => ?_)
          refine ⟨.inr (Gr.refl _ _), ?_⟩
          exact L1334 _ _ ⟨A197, c198, A199, c200, hf1422.sel (l := [4, 6, 19, 20, 21, 25, 26, 30, 31, 32, 37, 39]) (by kernel_rfl), hm1411.sel [0, 1, 2, 3, 4, 5, 6, 7, 8, 9] _ rfl (by kernel_rfl)⟩
      refine memoStep (R := fun (a : Act) (w : World) => Fr 49 a [(4, .pointer (some ⟨b63, 0, none⟩)), (6, .pointer (some ⟨b110, 0, none⟩)), (19, .slice A0 x0.length c0), (20, .int .i64 (x0.length : Int)), (21, .int .i64 s83.1), (25, .pointer (some ⟨b63, 0, none⟩)), (26, .pointer (some ⟨b63, 0, none⟩)), (30, .slice A86 s83.2.2.length c87), (31, .agg #[.slice A102 (((rd x0 s83.1).Shape).length) c103, .slice A104 (((rd x0 s83.1).Data).length) c105]), (37, .pointer (some ⟨b63, 2, none⟩)), (38, .slice A84 s83.2.1.length c85)] ∧ Mem [] M w0 [.bx b110 [.slice A102 (((rd x0 s83.1).Shape).length) c103, .slice A104 (((rd x0 s83.1).Data).length) c105] 29, .sl Kd.float A104 c105 ((rd x0 s83.1).Data), .sl (Kd.int .i64) A102 c103 ((rd x0 s83.1).Shape), .ow kTensor 29 A84 c85 s83.2.1, .ow kTensor 29 A86 c87 s83.2.2, .bx b63 [.slice A86 s83.2.2.length c87, .slice A52 ((List.replicate ((x0.length : Int)).toNat (0 : Int)).length) c53, .slice A84 s83.2.1.length c85] 72, .ow (Kd.int .i64) 3 A52 c53 (List.replicate ((x0.length : Int)).toNat (0 : Int)), .sl kTensor A0 c0 x0] w) #[true, true, true, true, true, true, true, false, false, false, true, true, true, true, false, false, false, false, false, false, false, false, false, false] 13 ?_ fun L1423 => ?_
      · rintro a1424 w1425 ⟨hf1426, hm1427⟩
        refine all2 7 14 (by kernel_rfl) ?_ ?_
        · refine opOf hf1426 rfl (by kernel_rfl) (aCall (fid := 33) (args := [.agg #[.slice A102 (((rd x0 s83.1).Shape).length) c103, .slice A104 (((rd x0 s83.1).Data).length) c105]]) (d := 32) hf1426 (by kernel_rfl) (by kernel_rfl) callable33 (tensor_Copy.calls _ _ (⟨((rd x0 s83.1).Shape), ((rd x0 s83.1).Data)⟩ : Tensor) A102 (((rd x0 s83.1).Shape).length) c103 rfl A104 (((rd x0 s83.1).Data).length) c105 rfl (hm1427.give [2, 1] [.sl (Kd.int .i64) A102 c103 ((rd x0 s83.1).Shape), .sl Kd.float A104 c105 ((rd x0 s83.1).Data)] rfl rfl) r121 hr121) ?_)
          rintro _ w1432 a1433 ⟨A1428, c1429, A1430, c1431, rfl, hk1435⟩ hf1434
          refine ⟨.inr (Gr.still hk1435.cum.none), ?_⟩
          have hm1436 := hm1427.back hk1435
          have hm1437 := hm1436.seal 0 _ rfl rfl
          have hm1438 := hm1437.seal 1 _ rfl rfl
          exact L1261 _ _ ⟨A1428, c1429, A1430, c1431, hf1434.sel (l := [4, 6, 19, 20, 21, 25, 26, 30, 31, 32, 37, 38]) (by kernel_rfl), hm1438.sel [0, 1, 2, 3, 4, 5, 6, 7, 8, 9] _ rfl (by kernel_rfl)⟩
        · refine opOf hf1426 rfl (by kernel_rfl) (aOne [.agg #[.slice A102 (((rd x0 s83.1).Shape).length) c103, .slice A104 (((rd x0 s83.1).Data).length) c105]] (.agg #[.slice A102 (((rd x0 s83.1).Shape).length) c103, .slice A104 (((rd x0 s83.1).Data).length) c105]) [.cell ⟨b110, 0, none⟩ (.slice A102 (((rd x0 s83.1).Shape).length) c103), .cell ⟨b110, 1, none⟩ (.slice A104 (((rd x0 s83.1).Data).length) c105)] 39 hf1426 (by kernel_rfl) rfl (by kernel_rfl) ⟨(hm1427.cell 0 rfl rfl), (hm1427.cell 0 rfl rfl), trivial⟩ fun a1439 hf1440 => ?_)
          refine ⟨.inr (Gr.refl _ _), ?_⟩
          refine all1 7 (by kernel_rfl) ?_
          refine opOf hf1440 rfl (by kernel_rfl) (aCall (fid := 33) (args := [.agg #[.slice A102 (((rd x0 s83.1).Shape).length) c103, .slice A104 (((rd x0 s83.1).Data).length) c105]]) (d := 32) hf1440 (by kernel_rfl) (by kernel_rfl) callable33 (tensor_Copy.calls _ _ (⟨((rd x0 s83.1).Shape), ((rd x0 s83.1).Data)⟩ : Tensor) A102 (((rd x0 s83.1).Shape).length) c103 rfl A104 (((rd x0 s83.1).Data).length) c105 rfl (hm1427.give [2, 1] [.sl (Kd.int .i64) A102 c103 ((rd x0 s83.1).Shape), .sl Kd.float A104 c105 ((rd x0 s83.1).Data)] rfl rfl) r121 hr121) ?_)
          rintro _ w1445 a1446 ⟨A1441, c1442, A1443, c1444, rfl, hk1448⟩ hf1447
          refine ⟨.inr (Gr.still hk1448.cum.none), ?_⟩
          have hm1449 := hm1427.back hk1448
          have hm1450 := hm1449.seal 0 _ rfl rfl
          have hm1451 := hm1450.seal 1 _ rfl rfl
          refine all1 8 (by kernel_rfl) ?_
          refine opOf hf1447 rfl (by kernel_rfl) (aLit (cs := [.slice A1441 r121.Shape.length c1442, .slice A1443 r121.Data.length c1444]) (E := 29) (len := 1) (d := 33) hf1447 (by kernel_rfl) (by kernel_rfl) ?_)
          intro b1452 w1453 a1454 hbb1452 hx1456 hg1457 hf1455
          refine ⟨.inr (Gr.still hg1457), ?_⟩
          have hm1451s := hm1451.still hg1457
          have hm1458 := Mem.lit (kd := kTensor) (xs := ([r121] : List Tensor)) hm1451 hbb1452 hx1456 hg1457 (Els.one (kd := kTensor) (us := [.slice A1441 r121.Shape.length c1442, .slice A1443 r121.Data.length c1444]) (x := r121) (kTensor.mk r121 ⟨hm1451s.cpAt 0 rfl, (hm1451s.slAt 0 rfl)⟩ ⟨hm1451s.cpAt 1 rfl, (hm1451s.slAt 1 rfl)⟩))
          refine all1 9 (by kernel_rfl) ?_
          have e1467 : s83.2.2.length = s83.2.2.length := rfl
          have e1468 : 1 = ([r121] : List Tensor).length := rfl
          refine opOf hf1455 rfl (by kernel_rfl) (aApp (kd := kTensor) (base := 0) (E := 29) (A := A86) (B := (some ⟨b1452, 0, none⟩)) (c := c87) (c2 := 1) (xs := s83.2.2) (ys := ([r121] : List Tensor)) (k := s83.2.2.length) (m := 1) (sz := 2) (d := 34) hf1455 (by kernel_rfl) e1467 e1468 (by kernel_rfl) rfl (by kernel_rfl) (hm1458.at 7 rfl) (hm1458.at2 7 0 rfl rfl).2 (hm1458.cpAt 0 rfl) (Nat.zero_le _) (by have := g122; omega) ?_)
          intro A1459 c1460 w1461 a1462 ho1464 hg1465 hr1466 hf1463
          refine ⟨.inl (by decide), ?_⟩
          have hm1469 := hm1458.setOwn 7 _ rfl rfl ho1464 hg1465 hr1466
          refine all1 15 (by kernel_rfl) ?_
          refine opOf hf1463 rfl (by kernel_rfl) (aCall (fid := 34) (args := [.agg #[.slice A102 (((rd x0 s83.1).Shape).length) c103, .slice A104 (((rd x0 s83.1).Data).length) c105]]) (d := 40) hf1463 (by kernel_rfl) (by kernel_rfl) callable34 (shelf_noughts.calls _ _ (⟨((rd x0 s83.1).Shape), ((rd x0 s83.1).Data)⟩ : Tensor) A102 (((rd x0 s83.1).Shape).length) c103 rfl A104 (((rd x0 s83.1).Data).length) c105 rfl (hm1469.give [5, 4] [.sl (Kd.int .i64) A102 c103 ((rd x0 s83.1).Shape), .sl Kd.float A104 c105 ((rd x0 s83.1).Data)] rfl rfl) r123 hr123) ?_)
          rintro _ w1474 a1475 ⟨A1470, c1471, A1472, c1473, rfl, hk1477⟩ hf1476
          refine ⟨.inr (Gr.still hk1477.cum.none), ?_⟩
          have hm1478 := hm1469.back hk1477
          have hm1479 := hm1478.seal 0 _ rfl rfl
          have hm1480 := hm1479.seal 1 _ rfl rfl
          refine all1 16 (by kernel_rfl) ?_
          refine opOf hf1476 rfl (by kernel_rfl) (aLit (cs := [.slice A1470 r123.Shape.length c1471, .slice A1472 r123.Data.length c1473]) (E := 29) (len := 1) (d := 41) hf1476 (by kernel_rfl) (by kernel_rfl) ?_)
          intro b1481 w1482 a1483 hbb1481 hx1485 hg1486 hf1484
          refine ⟨.inr (Gr.still hg1486), ?_⟩
          have hm1480s := hm1480.still hg1486
          have hm1487 := Mem.lit (kd := kTensor) (xs := ([r123] : List Tensor)) hm1480 hbb1481 hx1485 hg1486 (Els.one (kd := kTensor) (us := [.slice A1470 r123.Shape.length c1471, .slice A1472 r123.Data.length c1473]) (x := r123) (kTensor.mk r123 ⟨hm1480s.cpAt 0 rfl, (hm1480s.slAt 0 rfl)⟩ ⟨hm1480s.cpAt 1 rfl, (hm1480s.slAt 1 rfl)⟩))
          refine all1 17 (by kernel_rfl) ?_
          have e1496 : s83.2.1.length = s83.2.1.length := rfl
          have e1497 : 1 = ([r123] : List Tensor).length := rfl
          refine opOf hf1484 rfl (by kernel_rfl) (aApp (kd := kTensor) (base := 0) (E := 29) (A := A84) (B := (some ⟨b1481, 0, none⟩)) (c := c85) (c2 := 1) (xs := s83.2.1) (ys := ([r123] : List Tensor)) (k := s83.2.1.length) (m := 1) (sz := 2) (d := 42) hf1484 (by kernel_rfl) e1496 e1497 (by kernel_rfl) rfl (by kernel_rfl) (hm1487.at 9 rfl) (hm1487.at2 9 0 rfl rfl).2 (hm1487.cpAt 0 rfl) (Nat.zero_le _) (by have := g124; omega) ?_)
          intro A1488 c1489 w1490 a1491 ho1493 hg1494 hr1495 hf1492
          refine ⟨.inl (by decide), ?_⟩
          have hm1498 := hm1487.setOwn 9 _ rfl rfl ho1493 hg1494 hr1495
          refine quiet0 [18, 19] [] [4, 19, 20, 21, 26, 34, 42, 44] #[true, true, true, true, true, true, true, true, true, true, true, true, true, true, true, true, true, true, true, true, false, false, false, false] [(4, .pointer (some ⟨b63, 0, none⟩)), (19, .slice A0 x0.length c0), (20, .int .i64 (x0.length : Int)), (21, .int .i64 s83.1), (26, .pointer (some ⟨b63, 0, none⟩)), (34, .slice A1459 ((s83.2.2 ++ ([r121] : List Tensor)).length) c1460), (42, .slice A1488 ((s83.2.1 ++ ([r123] : List Tensor)).length) c1489), (44, .pointer (some ⟨b63, 0, none⟩))] [] 4 rfl (by kernel_rfl) (fun _ _ _ _ _ h => nomatch h.1) hf1492 (by kernel_rfl) trivial fun a1499 hf1500 => ?_
          refine all1 20 (by kernel_rfl) ?_
          refine opOf hf1500 rfl (by kernel_rfl) (aStoreB (b := b63) (j := 0) (T := 72) (cs := [.slice A86 s83.2.2.length c87, .slice A52 ((List.replicate ((x0.length : Int)).toNat (0 : Int)).length) c53, .slice A84 s83.2.1.length c85]) (us := [.slice A1459 ((s83.2.2 ++ ([r121] : List Tensor)).length) c1460]) (cs' := [.slice A1459 ((s83.2.2 ++ ([r121] : List Tensor)).length) c1460, .slice A52 ((List.replicate ((x0.length : Int)).toNat (0 : Int)).length) c53, .slice A84 s83.2.1.length c85]) hf1500 (by kernel_rfl) (hm1498.bxAt 11 rfl) (by kernel_rfl) (by kernel_rfl) (by kernel_rfl) ?_)
          intro w1501 hx1502 hg1503
          refine ⟨.inl (by decide), ?_⟩
          have hm1504 := hm1498.setBox 11 _ rfl rfl hx1502 hg1503
          refine quiet0 [21, 22] [] [4, 19, 20, 21, 42, 46] #[true, true, true, true, true, true, true, true, true, true, true, true, true, true, true, true, true, true, true, true, true, true, true, false] [(4, .pointer (some ⟨b63, 0, none⟩)), (19, .slice A0 x0.length c0), (20, .int .i64 (x0.length : Int)), (21, .int .i64 s83.1), (42, .slice A1488 ((s83.2.1 ++ ([r123] : List Tensor)).length) c1489), (46, .pointer (some ⟨b63, 2, none⟩))] [] 1 rfl (by kernel_rfl) (fun _ _ _ _ _ h => nomatch h.1) hf1500 (by kernel_rfl) trivial fun a1505 hf1506 => ?_
          refine all1 23 (by kernel_rfl) ?_
          refine opOf hf1506 rfl (by kernel_rfl) (aStoreB (b := b63) (j := 2) (T := 72) (cs := [.slice A1459 ((s83.2.2 ++ ([r121] : List Tensor)).length) c1460, .slice A52 ((List.replicate ((x0.length : Int)).toNat (0 : Int)).length) c53, .slice A84 s83.2.1.length c85]) (us := [.slice A1488 ((s83.2.1 ++ ([r123] : List Tensor)).length) c1489]) (cs' := [.slice A1459 ((s83.2.2 ++ ([r121] : List Tensor)).length) c1460, .slice A52 ((List.replicate ((x0.length : Int)).toNat (0 : Int)).length) c53, .slice A1488 ((s83.2.1 ++ ([r123] : List Tensor)).length) c1489]) hf1506 (by kernel_rfl) (hm1504.bxAt 11 rfl) (by kernel_rfl) (by kernel_rfl) (by kernel_rfl) ?_)
          intro w1507 hx1508 hg1509
          refine ⟨.inl (by decide), ?_⟩
          have hm1510 := hm1504.setBox 11 _ rfl rfl hx1508 hg1509
          refine allDone (by kernel_rfl) ⟨rfl, A1488, c1489, A1459, c1460, hf1506.sel (l := [4, 19, 20, 21]) (by kernel_rfl), hm1510.sel [9, 10, 11, 12, 13] _ rfl (by kernel_rfl)⟩
      refine memoStep (R := fun (a : Act) (w : World) => Fr 49 a [(4, .pointer (some ⟨b63, 0, none⟩)), (6, .pointer (some ⟨b110, 0, none⟩)), (19, .slice A0 x0.length c0), (20, .int .i64 (x0.length : Int)), (21, .int .i64 s83.1), (25, .pointer (some ⟨b63, 0, none⟩)), (26, .pointer (some ⟨b63, 0, none⟩)), (30, .slice A86 s83.2.2.length c87), (31, .agg #[.slice A102 (((rd x0 s83.1).Shape).length) c103, .slice A104 (((rd x0 s83.1).Data).length) c105]), (37, .pointer (some ⟨b63, 2, none⟩)), (39, .agg #[.slice A102 (((rd x0 s83.1).Shape).length) c103, .slice A104 (((rd x0 s83.1).Data).length) c105])] ∧ Mem [] M w0 [.bx b110 [.slice A102 (((rd x0 s83.1).Shape).length) c103, .slice A104 (((rd x0 s83.1).Data).length) c105] 29, .sl Kd.float A104 c105 ((rd x0 s83.1).Data), .sl (Kd.int .i64) A102 c103 ((rd x0 s83.1).Shape), .ow kTensor 29 A84 c85 s83.2.1, .ow kTensor 29 A86 c87 s83.2.2, .bx b63 [.slice A86 s83.2.2.length c87, .slice A52 ((List.replicate ((x0.length : Int)).toNat (0 : Int)).length) c53, .slice A84 s83.2.1.length c85] 72, .ow (Kd.int .i64) 3 A52 c53 (List.replicate ((x0.length : Int)).toNat (0 : Int)), .sl kTensor A0 c0 x0] w) #[true, true, true, true, true, true, true, false, false, false, true, true, true, false, true, false, false, false, false, false, false, false, false, false] 13 ?_ fun L1511 => ?_
      · rintro a1512 w1513 ⟨hf1514, hm1515⟩
        refine all2 7 13 (by kernel_rfl) ?_ ?_
        · refine opOf hf1514 rfl (by kernel_rfl) (aCall (fid := 33) (args := [.agg #[.slice A102 (((rd x0 s83.1).Shape).length) c103, .slice A104 (((rd x0 s83.1).Data).length) c105]]) (d := 32) hf1514 (by kernel_rfl) (by kernel_rfl) callable33 (tensor_Copy.calls _ _ (⟨((rd x0 s83.1).Shape), ((rd x0 s83.1).Data)⟩ : Tensor) A102 (((rd x0 s83.1).Shape).length) c103 rfl A104 (((rd x0 s83.1).Data).length) c105 rfl (hm1515.give [2, 1] [.sl (Kd.int .i64) A102 c103 ((rd x0 s83.1).Shape), .sl Kd.float A104 c105 ((rd x0 s83.1).Data)] rfl rfl) r121 hr121) ?_)
          rintro _ w1520 a1521 ⟨A1516, c1517, A1518, c1519, rfl, hk1523⟩ hf1522
          refine ⟨.inr (Gr.still hk1523.cum.none), ?_⟩
          have hm1524 := hm1515.back hk1523
          have hm1525 := hm1524.seal 0 _ rfl rfl
          have hm1526 := hm1525.seal 1 _ rfl rfl
          exact L1334 _ _ ⟨A1516, c1517, A1518, c1519, hf1522.sel (l := [4, 6, 19, 20, 21, 25, 26, 30, 31, 32, 37, 39]) (by kernel_rfl), hm1526.sel [0, 1, 2, 3, 4, 5, 6, 7, 8, 9] _ rfl (by kernel_rfl)⟩
        · refine opOf hf1514 rfl (by kernel_rfl) (aOne [.slice A84 s83.2.1.length c85] (.slice A84 s83.2.1.length c85) [.cell ⟨b63, 2, none⟩ (.slice A84 s83.2.1.length c85)] 38 hf1514 (by kernel_rfl) rfl (by kernel_rfl) ⟨(hm1515.cell 5 rfl rfl), trivial⟩ fun a1527 hf1528 => ?_)
          refine ⟨.inr (Gr.refl _ _), ?_⟩
          refine all1 7 (by kernel_rfl) ?_
          refine opOf hf1528 rfl (by kernel_rfl) (aCall (fid := 33) (args := [.agg #[.slice A102 (((rd x0 s83.1).Shape).length) c103, .slice A104 (((rd x0 s83.1).Data).length) c105]]) (d := 32) hf1528 (by kernel_rfl) (by kernel_rfl) callable33 (tensor_Copy.calls _ _ (⟨((rd x0 s83.1).Shape), ((rd x0 s83.1).Data)⟩ : Tensor) A102 (((rd x0 s83.1).Shape).length) c103 rfl A104 (((rd x0 s83.1).Data).length) c105 rfl (hm1515.give [2, 1] [.sl (Kd.int .i64) A102 c103 ((rd x0 s83.1).Shape), .sl Kd.float A104 c105 ((rd x0 s83.1).Data)] rfl rfl) r121 hr121) ?_)
          rintro _ w1533 a1534 ⟨A1529, c1530, A1531, c1532, rfl, hk1536⟩ hf1535
          refine ⟨.inr (Gr.still hk1536.cum.none), ?_⟩
          have hm1537 := hm1515.back hk1536
          have hm1538 := hm1537.seal 0 _ rfl rfl
          have hm1539 := hm1538.seal 1 _ rfl rfl
          refine all1 8 (by kernel_rfl) ?_
          refine opOf hf1535 rfl (by kernel_rfl) (aLit (cs := [.slice A1529 r121.Shape.length c1530, .slice A1531 r121.Data.length c1532]) (E := 29) (len := 1) (d := 33) hf1535 (by kernel_rfl) (by kernel_rfl) ?_)
          intro b1540 w1541 a1542 hbb1540 hx1544 hg1545 hf1543
          refine ⟨.inr (Gr.still hg1545), ?_⟩
          have hm1539s := hm1539.still hg1545
          have hm1546 := Mem.lit (kd := kTensor) (xs := ([r121] : List Tensor)) hm1539 hbb1540 hx1544 hg1545 (Els.one (kd := kTensor) (us := [.slice A1529 r121.Shape.length c1530, .slice A1531 r121.Data.length c1532]) (x := r121) (kTensor.mk r121 ⟨hm1539s.cpAt 0 rfl, (hm1539s.slAt 0 rfl)⟩ ⟨hm1539s.cpAt 1 rfl, (hm1539s.slAt 1 rfl)⟩))
          refine all1 9 (by kernel_rfl) ?_
          have e1555 : s83.2.2.length = s83.2.2.length := rfl
          have e1556 : 1 = ([r121] : List Tensor).length := rfl
          refine opOf hf1543 rfl (by kernel_rfl) (aApp (kd := kTensor) (base := 0) (E := 29) (A := A86) (B := (some ⟨b1540, 0, none⟩)) (c := c87) (c2 := 1) (xs := s83.2.2) (ys := ([r121] : List Tensor)) (k := s83.2.2.length) (m := 1) (sz := 2) (d := 34) hf1543 (by kernel_rfl) e1555 e1556 (by kernel_rfl) rfl (by kernel_rfl) (hm1546.at 7 rfl) (hm1546.at2 7 0 rfl rfl).2 (hm1546.cpAt 0 rfl) (Nat.zero_le _) (by have := g122; omega) ?_)
          intro A1547 c1548 w1549 a1550 ho1552 hg1553 hr1554 hf1551
          refine ⟨.inl (by decide), ?_⟩
          have hm1557 := hm1546.setOwn 7 _ rfl rfl ho1552 hg1553 hr1554
          refine all1 15 (by kernel_rfl) ?_
          refine opOf hf1551 rfl (by kernel_rfl) (aCall (fid := 34) (args := [.agg #[.slice A102 (((rd x0 s83.1).Shape).length) c103, .slice A104 (((rd x0 s83.1).Data).length) c105]]) (d := 40) hf1551 (by kernel_rfl) (by kernel_rfl) callable34 (shelf_noughts.calls _ _ (⟨((rd x0 s83.1).Shape), ((rd x0 s83.1).Data)⟩ : Tensor) A102 (((rd x0 s83.1).Shape).length) c103 rfl A104 (((rd x0 s83.1).Data).length) c105 rfl (hm1557.give [5, 4] [.sl (Kd.int .i64) A102 c103 ((rd x0 s83.1).Shape), .sl Kd.float A104 c105 ((rd x0 s83.1).Data)] rfl rfl) r123 hr123) ?_)
          rintro _ w1562 a1563 ⟨A1558, c1559, A1560, c1561, rfl, hk1565⟩ hf1564
          refine ⟨.inr (Gr.still hk1565.cum.none), ?_⟩
          have hm1566 := hm1557.back hk1565
          have hm1567 := hm1566.seal 0 _ rfl rfl
          have hm1568 := hm1567.seal 1 _ rfl rfl
          refine all1 16 (by kernel_rfl) ?_
          refine opOf hf1564 rfl (by kernel_rfl) (aLit (cs := [.slice A1558 r123.Shape.length c1559, .slice A1560 r123.Data.length c1561]) (E := 29) (len := 1) (d := 41) hf1564 (by kernel_rfl) (by kernel_rfl) ?_)
          intro b1569 w1570 a1571 hbb1569 hx1573 hg1574 hf1572
          refine ⟨.inr (Gr.still hg1574), ?_⟩
          have hm1568s := hm1568.still hg1574
          have hm1575 := Mem.lit (kd := kTensor) (xs := ([r123] : List Tensor)) hm1568 hbb1569 hx1573 hg1574 (Els.one (kd := kTensor) (us := [.slice A1558 r123.Shape.length c1559, .slice A1560 r123.Data.length c1561]) (x := r123) (kTensor.mk r123 ⟨hm1568s.cpAt 0 rfl, (hm1568s.slAt 0 rfl)⟩ ⟨hm1568s.cpAt 1 rfl, (hm1568s.slAt 1 rfl)⟩))
          refine all1 17 (by kernel_rfl) ?_
          have e1584 : s83.2.1.length = s83.2.1.length := rfl
          have e1585 : 1 = ([r123] : List Tensor).length := rfl
          refine opOf hf1572 rfl (by kernel_rfl) (aApp (kd := kTensor) (base := 0) (E := 29) (A := A84) (B := (some ⟨b1569, 0, none⟩)) (c := c85) (c2 := 1) (xs := s83.2.1) (ys := ([r123] : List Tensor)) (k := s83.2.1.length) (m := 1) (sz := 2) (d := 42) hf1572 (by kernel_rfl) e1584 e1585 (by kernel_rfl) rfl (by kernel_rfl) (hm1575.at 9 rfl) (hm1575.at2 9 0 rfl rfl).2 (hm1575.cpAt 0 rfl) (Nat.zero_le _) (by have := g124; omega) ?_)
          intro A1576 c1577 w1578 a1579 ho1581 hg1582 hr1583 hf1580
          refine ⟨.inl (by decide), ?_⟩
          have hm1586 := hm1575.setOwn 9 _ rfl rfl ho1581 hg1582 hr1583
          refine quiet0 [18, 19] [] [4, 19, 20, 21, 26, 34, 42, 44] #[true, true, true, true, true, true, true, true, true, true, true, true, true, true, true, true, true, true, true, true, false, false, false, false] [(4, .pointer (some ⟨b63, 0, none⟩)), (19, .slice A0 x0.length c0), (20, .int .i64 (x0.length : Int)), (21, .int .i64 s83.1), (26, .pointer (some ⟨b63, 0, none⟩)), (34, .slice A1547 ((s83.2.2 ++ ([r121] : List Tensor)).length) c1548), (42, .slice A1576 ((s83.2.1 ++ ([r123] : List Tensor)).length) c1577), (44, .pointer (some ⟨b63, 0, none⟩))] [] 4 rfl (by kernel_rfl) (fun _ _ _ _ _ h => nomatch h.1) hf1580 (by kernel_rfl) trivial fun a1587 hf1588 => ?_
          refine all1 20 (by kernel_rfl) ?_
          refine opOf hf1588 rfl (by kernel_rfl) (aStoreB (b := b63) (j := 0) (T := 72) (cs := [.slice A86 s83.2.2.length c87, .slice A52 ((List.replicate ((x0.length : Int)).toNat (0 : Int)).length) c53, .slice A84 s83.2.1.length c85]) (us := [.slice A1547 ((s83.2.2 ++ ([r121] : List Tensor)).length) c1548]) (cs' := [.slice A1547 ((s83.2.2 ++ ([r121] : List Tensor)).length) c1548, .slice A52 ((List.replicate ((x0.length : Int)).toNat (0 : Int)).length) c53, .slice A84 s83.2.1.length c85]) hf1588 (by kernel_rfl) (hm1586.bxAt 11 rfl) (by kernel_rfl) (by kernel_rfl) (by kernel_rfl) ?_)
          intro w1589 hx1590 hg1591
          refine ⟨.inl (by decide), ?_⟩
          have hm1592 := hm1586.setBox 11 _ rfl rfl hx1590 hg1591
          refine quiet0 [21, 22] [] [4, 19, 20, 21, 42, 46] #[true, true, true, true, true, true, true, true, true, true, true, true, true, true, true, true, true, true, true, true, true, true, true, false] [(4, .pointer (some ⟨b63, 0, none⟩)), (19, .slice A0 x0.length c0), (20, .int .i64 (x0.length : Int)), (21, .int .i64 s83.1), (42, .slice A1576 ((s83.2.1 ++ ([r123] : List Tensor)).length) c1577), (46, .pointer (some ⟨b63, 2, none⟩))] [] 1 rfl (by kernel_rfl) (fun _ _ _ _ _ h => nomatch h.1) hf1588 (by kernel_rfl) trivial fun a1593 hf1594 => ?_
          refine all1 23 (by kernel_rfl) ?_
          refine opOf hf1594 rfl (by kernel_rfl) (aStoreB (b := b63) (j := 2) (T := 72) (cs := [.slice A1547 ((s83.2.2 ++ ([r121] : List Tensor)).length) c1548, .slice A52 ((List.replicate ((x0.length : Int)).toNat (0 : Int)).length) c53, .slice A84 s83.2.1.length c85]) (us := [.slice A1576 ((s83.2.1 ++ ([r123] : List Tensor)).length) c1577]) (cs' := [.slice A1547 ((s83.2.2 ++ ([r121] : List Tensor)).length) c1548, .slice A52 ((List.replicate ((x0.length : Int)).toNat (0 : Int)).length) c53, .slice A1576 ((s83.2.1 ++ ([r123] : List Tensor)).length) c1577]) hf1594 (by kernel_rfl) (hm1592.bxAt 11 rfl) (by kernel_rfl) (by kernel_rfl) (by kernel_rfl) ?_)
          intro w1595 hx1596 hg1597
          refine ⟨.inl (by decide), ?_⟩
          have hm1598 := hm1592.setBox 11 _ rfl rfl hx1596 hg1597
          refine allDone (by kernel_rfl) ⟨rfl, A1576, c1577, A1547, c1548, hf1594.sel (l := [4, 19, 20, 21]) (by kernel_rfl), hm1598.sel [9, 10, 11, 12, 13] _ rfl (by kernel_rfl)⟩
      refine memoStep (R := fun (a : Act) (w : World) => Fr 49 a [(4, .pointer (some ⟨b63, 0, none⟩)), (6, .pointer (some ⟨b110, 0, none⟩)), (19, .slice A0 x0.length c0), (20, .int .i64 (x0.length : Int)), (21, .int .i64 s83.1), (25, .pointer (some ⟨b63, 0, none⟩)), (26, .pointer (some ⟨b63, 0, none⟩)), (30, .slice A86 s83.2.2.length c87), (31, .agg #[.slice A102 (((rd x0 s83.1).Shape).length) c103, .slice A104 (((rd x0 s83.1).Data).length) c105]), (37, .pointer (some ⟨b63, 2, none⟩))] ∧ Mem [] M w0 [.bx b110 [.slice A102 (((rd x0 s83.1).Shape).length) c103, .slice A104 (((rd x0 s83.1).Data).length) c105] 29, .sl Kd.float A104 c105 ((rd x0 s83.1).Data), .sl (Kd.int .i64) A102 c103 ((rd x0 s83.1).Shape), .ow kTensor 29 A84 c85 s83.2.1, .ow kTensor 29 A86 c87 s83.2.2, .bx b63 [.slice A86 s83.2.2.length c87, .slice A52 ((List.replicate ((x0.length : Int)).toNat (0 : Int)).length) c53, .slice A84 s83.2.1.length c85] 72, .ow (Kd.int .i64) 3 A52 c53 (List.replicate ((x0.length : Int)).toNat (0 : Int)), .sl kTensor A0 c0 x0] w) #[true, true, true, true, true, true, true, false, false, false, true, true, true, false, false, false, false, false, false, false, false, false, false, false] 14 ?_ fun L1599 => ?_
      · rintro a1600 w1601 ⟨hf1602, hm1603⟩
        refine all3 7 13 14 (by kernel_rfl) ?_ ?_ ?_
        · refine opOf hf1602 rfl (by kernel_rfl) (aCall (fid := 33) (args := [.agg #[.slice A102 (((rd x0 s83.1).Shape).length) c103, .slice A104 (((rd x0 s83.1).Data).length) c105]]) (d := 32) hf1602 (by kernel_rfl) (by kernel_rfl) callable33 (tensor_Copy.calls _ _ (⟨((rd x0 s83.1).Shape), ((rd x0 s83.1).Data)⟩ : Tensor) A102 (((rd x0 s83.1).Shape).length) c103 rfl A104 (((rd x0 s83.1).Data).length) c105 rfl (hm1603.give [2, 1] [.sl (Kd.int .i64) A102 c103 ((rd x0 s83.1).Shape), .sl Kd.float A104 c105 ((rd x0 s83.1).Data)] rfl rfl) r121 hr121) ?_)
          rintro _ w1608 a1609 ⟨A1604, c1605, A1606, c1607, rfl, hk1611⟩ hf1610
          refine ⟨.inr (Gr.still hk1611.cum.none), ?_⟩
          have hm1612 := hm1603.back hk1611
          have hm1613 := hm1612.seal 0 _ rfl rfl
          have hm1614 := hm1613.seal 1 _ rfl rfl
          exact L1407 _ _ ⟨A1604, c1605, A1606, c1607, hf1610.sel (l := [4, 6, 19, 20, 21, 25, 26, 30, 31, 32, 37]) (by kernel_rfl), hm1614.sel [0, 1, 2, 3, 4, 5, 6, 7, 8, 9] _ rfl (by kernel_rfl)⟩
        · refine opOf hf1602 rfl (by kernel_rfl) (aOne [.slice A84 s83.2.1.length c85] (.slice A84 s83.2.1.length c85) [.cell ⟨b63, 2, none⟩ (.slice A84 s83.2.1.length c85)] 38 hf1602 (by kernel_rfl) rfl (by kernel_rfl) ⟨(hm1603.cell 5 rfl rfl), trivial⟩ fun a1615 hf1616 => ?_)
          refine ⟨.inr (Gr.refl _ _), ?_⟩
          exact L1423 _ _ ⟨hf1616.sel (l := [4, 6, 19, 20, 21, 25, 26, 30, 31, 37, 38]) (by kernel_rfl), hm1603.sel [0, 1, 2, 3, 4, 5, 6, 7] _ rfl (by kernel_rfl)⟩
        · refine opOf hf1602 rfl (by kernel_rfl) (aOne [.agg #[.slice A102 (((rd x0 s83.1).Shape).length) c103, .slice A104 (((rd x0 s83.1).Data).length) c105]] (.agg #[.slice A102 (((rd x0 s83.1).Shape).length) c103, .slice A104 (((rd x0 s83.1).Data).length) c105]) [.cell ⟨b110, 0, none⟩ (.slice A102 (((rd x0 s83.1).Shape).length) c103), .cell ⟨b110, 1, none⟩ (.slice A104 (((rd x0 s83.1).Data).length) c105)] 39 hf1602 (by kernel_rfl) rfl (by kernel_rfl) ⟨(hm1603.cell 0 rfl rfl), (hm1603.cell 0 rfl rfl), trivial⟩ fun a1617 hf1618 => ?_)
          refine ⟨.inr (Gr.refl _ _), ?_⟩
          exact L1511 _ _ ⟨hf1618.sel (l := [4, 6, 19, 20, 21, 25, 26, 30, 31, 37, 39]) (by kernel_rfl), hm1603.sel [0, 1, 2, 3, 4, 5, 6, 7] _ rfl (by kernel_rfl)⟩
      refine quiet0 [0, 1, 2, 3, 4, 5, 6, 10, 11, 12] [.slice A86 s83.2.2.length c87, .agg #[.slice A102 (((rd x0 s83.1).Shape).length) c103, .slice A104 (((rd x0 s83.1).Data).length) c105]] [4, 6, 19, 20, 21, 25, 26, 30, 31, 37] #[true, true, true, true, true, true, true, false, false, false, true, true, true, false, false, false, false, false, false, false, false, false, false, false] [(4, .pointer (some ⟨b63, 0, none⟩)), (6, .pointer (some ⟨b110, 0, none⟩)), (19, .slice A0 x0.length c0), (20, .int .i64 (x0.length : Int)), (21, .int .i64 s83.1), (25, .pointer (some ⟨b63, 0, none⟩)), (26, .pointer (some ⟨b63, 0, none⟩)), (30, .slice A86 s83.2.2.length c87), (31, .agg #[.slice A102 (((rd x0 s83.1).Shape).length) c103, .slice A104 (((rd x0 s83.1).Data).length) c105]), (37, .pointer (some ⟨b63, 2, none⟩))] [.cell ⟨b63, 0, none⟩ (.slice A86 s83.2.2.length c87), .cell ⟨b110, 0, none⟩ (.slice A102 (((rd x0 s83.1).Shape).length) c103), .cell ⟨b110, 1, none⟩ (.slice A104 (((rd x0 s83.1).Data).length) c105)] 14 rfl (by kernel_rfl) (fun _ _ _ _ _ h => nomatch h.1) hf113 (by kernel_rfl) ⟨(hm194.cell 5 rfl rfl), (hm194.cell 0 rfl rfl), (hm194.cell 0 rfl rfl), trivial⟩ fun a1619 hf1620 => ?_
      exact L1599 _ _ ⟨hf1620.sel (l := [4, 6, 19, 20, 21, 25, 26, 30, 31, 37]) (by kernel_rfl), hm194.sel [0, 1, 2, 3, 4, 5, 6, 7] _ rfl (by kernel_rfl)⟩
    rintro a1621 w1622 ⟨A172, c173, A143, c144, hf1623, hm1624⟩
    refine blkN ?_
    refine thenN ?_
    refine reg [] [4, 19, 20, 21] [(4, .pointer (some ⟨b63, 0, none⟩)), (19, .slice A0 x0.length c0), (20, .int .i64 (x0.length : Int)), (21, .int .i64 (w64 (s83.1 + 1)))] [] hf1623 (by kernel_rfl) trivial fun a1625 hf1626 => ?_
    exact ⟨((w64 (s83.1 + 1)), (s83.2.1 ++ ([r123] : List Tensor)), (s83.2.2 ++ ([r121] : List Tensor))), H1, A172, c173, A143, c144, hf1626.sel (l := [4, 19, 20, 21]) (by kernel_rfl), hm1624.sel [0, 1, 2, 3, 4] _ rfl (by kernel_rfl)⟩
  rintro a1629 w1630 ⟨A84, c85, A86, c87, hf1631, hm1632⟩
  refine thenN ?_
  refine wp_seq ?_
  refine reg [] [2, 3] [(2, .pointer (some ⟨b63, 0, none⟩)), (3, .int .i64 0)] [] hf1631 (by kernel_rfl) trivial fun a1633 hf1634 => ?_
  have hm1635 := hm1632.sel [0, 1, 2, 3] _ rfl (by kernel_rfl)
  refine thenN ?_
  refine wp_ret ?_
  obtain rfl := Option.some.inj H0
  exact absurd hp (by simp)
theorem shelf_New.calls_d (M : List (Option Nat)) (w0 : World) (x0 : (List Tensor)) (A0 : Option Addr) (n0 c0 : Nat) (e0 : n0 = x0.length) (hm0 : Mem [] M w0 [.sl kTensor A0 c0 x0] w0) (r : ((Option Shelf) × Int)) (H0 : shelf_New.f x0 = some r) :
    Calls Try.prog 10 [.slice A0 n0 c0].toArray w0 (fun x w' => ∃ v, x = .returned v ∧ ∃ p, v = .tuple #[p, .int .i64 r.2] ∧ Mem [] M w0 [] w') := by
  cases hp : r.1 with
  | none => exact (shelf_New.calls_n M w0 x0 A0 n0 c0 e0 hm0 r hp H0).mono (fun _ _ ⟨v, e, hv, hm⟩ => ⟨v, e, _, hv, hm⟩)
  | some y => exact (shelf_New.calls_s M w0 x0 A0 n0 c0 e0 hm0 r y hp H0).mono (fun _ _ ⟨v, e, bp, Aq_0, cq_0, Aq_1, cq_1, Aq_2, cq_2, hv, hm⟩ => ⟨v, e, _, hv, hm.sel [] _ rfl (by kernel_rfl)⟩)
end Go.Proofs.Ytolhkamfpfjodaa
