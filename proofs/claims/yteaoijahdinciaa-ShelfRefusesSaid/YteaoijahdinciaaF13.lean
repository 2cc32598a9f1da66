/- Printed by gen.py. -/
import Derived.Test.YteaoijahdinciaaF1
import Derived.Test.YteaoijahdinciaaF12
namespace Go.Proofs.Yteaoijahdinciaa
open Go Go.RowKit
set_option linter.unusedSimpArgs false
set_option linter.unusedVariables false
set_option linter.unnecessarySimpa false
/-! ### (*backstitch/shelf.Shelf).All -/
noncomputable def shelf_Shelf_All.l0 (x0 : Shelf) (s33 : (Int × (List Tensor))) : Step (Int × (List Tensor)) (Int × (List Tensor)) :=
  if s33.1 < (x0.l.length : Int) then (if 0 ≤ s33.1 ∧ s33.1 < (x0.l.length : Int) then (bindS (tensor_Copy.f (⟨((rd x0.l s33.1).Shape), ((rd x0.l s33.1).Data)⟩ : Tensor)) fun r70 =>
  if s33.2.length + 1 ≤ 549755813888 then (.next ((w64 (s33.1 + 1)), (s33.2 ++ ([r70] : List Tensor))))
  else .bad)
  else .bad)
  else (.done (s33.1, s33.2))
noncomputable def shelf_Shelf_All.f (x0 : Shelf) : Option ((List Tensor) × (List Int)) :=
  (loop (shelf_Shelf_All.l0 x0) (0, ([] : (List Tensor)))).bind fun r36 =>
  (slices_Clone_int.f x0.vers).bind fun r114 =>
  some (r36.2, r114)
set_option maxRecDepth 100000 in
set_option maxHeartbeats 4000000 in
theorem shelf_Shelf_All.calls (B0 : List (Option Nat)) (M : List (Option Nat)) (w0 : World) (x0 : Shelf) (b0 : Nat) (A0_0 : Option Addr) (n0_0 c0_0 : Nat) (e0_0 : n0_0 = x0.l.length) (A0_1 : Option Addr) (n0_1 c0_1 : Nat) (e0_1 : n0_1 = x0.vers.length) (A0_2 : Option Addr) (n0_2 c0_2 : Nat) (e0_2 : n0_2 = x0.grads.length) (hm0 : Mem B0 M w0 [.bx b0 [.slice A0_0 n0_0 c0_0, .slice A0_1 n0_1 c0_1, .slice A0_2 n0_2 c0_2] 72, .ow kTensor 29 A0_0 c0_0 x0.l, .ow (Kd.int .i64) 3 A0_1 c0_1 x0.vers, .ow kTensor 29 A0_2 c0_2 x0.grads] w0) (r : ((List Tensor) × (List Int))) (H0 : shelf_Shelf_All.f x0 = some r) :
    Calls Try.prog 17 [.pointer (some ⟨b0, 0, none⟩)].toArray w0 (fun x w' => ∃ v, x = .returned v ∧ ∃ Ar0 cr0 Ar1 cr1, v = .tuple #[.slice Ar0 r.1.length cr0, .slice Ar1 r.2.length cr1] ∧ Mem B0 M w0 [.bx b0 [.slice A0_0 x0.l.length c0_0, .slice A0_1 x0.vers.length c0_1, .slice A0_2 x0.grads.length c0_2] 72, .ow kTensor 29 A0_0 c0_0 x0.l, .ow (Kd.int .i64) 3 A0_1 c0_1 x0.vers, .ow kTensor 29 A0_2 c0_2 x0.grads, .ow kTensor 29 Ar0 cr0 r.1, .ow (Kd.int .i64) 3 Ar1 cr1 r.2] w') := by
  subst e0_0
  subst e0_1
  subst e0_2
  unfold shelf_Shelf_All.f at H0
  refine enter (n := 30) Try.func17 rfl rfl (by kernel_rfl) fun a0 (hf0 : Fr 30 a0 [(0, .pointer (some ⟨b0, 0, none⟩))]) => ?_
  refine wp_seq ?_
  refine reg [] [0] [(0, .pointer (some ⟨b0, 0, none⟩))] [] hf0 (by kernel_rfl) trivial fun a21 hf22 => ?_
  refine thenN ?_
  refine wp_seq ?_
  refine wp_seq ?_
  refine reg [] [0, 8] [(0, .pointer (some ⟨b0, 0, none⟩)), (8, .bool false)] [] hf22 (by kernel_rfl) trivial fun a23 hf24 => ?_
  refine thenN ?_
  refine condF hf24 (by kernel_rfl) ?_
  refine wp_skip ?_
  refine thenN ?_
  refine wp_seq ?_
  refine reg [] [0, 4] [(0, .pointer (some ⟨b0, 0, none⟩)), (4, .slice none 0 0)] [] hf24 (by kernel_rfl) trivial fun a25 hf26 => ?_
  refine thenN ?_
  refine wp_seq ?_
  refine wp_seq ?_
  refine reg [.slice A0_0 x0.l.length c0_0] [0, 4, 12, 13, 14] [(0, .pointer (some ⟨b0, 0, none⟩)), (4, .slice none 0 0), (12, .slice A0_0 x0.l.length c0_0), (13, .int .i64 (x0.l.length : Int)), (14, .int .i64 0)] [.cell ⟨b0, 0, none⟩ (.slice A0_0 x0.l.length c0_0)] hf26 (by kernel_rfl) ⟨(hm0.cell 0 rfl rfl), trivial⟩ fun a27 hf28 => ?_
  refine thenN ?_
  have hm30 := hm0.nilOw kTensor 29
  obtain ⟨r36, hr36, H0⟩ := ob_split H0
  refine wpBlock (Mid := fun (a : Act) (w : World) => ∃ (A34 : Option Addr) (c35 : Nat), Fr 30 a [(0, .pointer (some ⟨b0, 0, none⟩)), (4, .slice A34 r36.2.length c35), (12, .slice A0_0 x0.l.length c0_0), (13, .int .i64 (x0.l.length : Int)), (14, .int .i64 r36.1)] ∧ Mem B0 M w0 [.ow kTensor 29 A34 c35 r36.2, .bx b0 [.slice A0_0 x0.l.length c0_0, .slice A0_1 x0.vers.length c0_1, .slice A0_2 x0.grads.length c0_2] 72, .ow kTensor 29 A0_0 c0_0 x0.l, .ow (Kd.int .i64) 3 A0_1 c0_1 x0.vers, .ow kTensor 29 A0_2 c0_2 x0.grads] w) ?_ ?_
  · refine wpLoop (shelf_Shelf_All.l0 x0) r36 (fun (s33 : (Int × (List Tensor))) (a : Act) (w : World) => ∃ (A34 : Option Addr) (c35 : Nat), Fr 30 a [(0, .pointer (some ⟨b0, 0, none⟩)), (4, .slice A34 s33.2.length c35), (12, .slice A0_0 x0.l.length c0_0), (13, .int .i64 (x0.l.length : Int)), (14, .int .i64 s33.1)] ∧ Mem B0 M w0 [.ow kTensor 29 A34 c35 s33.2, .bx b0 [.slice A0_0 x0.l.length c0_0, .slice A0_1 x0.vers.length c0_1, .slice A0_2 x0.grads.length c0_2] 72, .ow kTensor 29 A0_0 c0_0 x0.l, .ow (Kd.int .i64) 3 A0_1 c0_1 x0.vers, .ow kTensor 29 A0_2 c0_2 x0.grads] w) (0, ([] : (List Tensor))) hr36 ⟨none, 0, hf28.sel (l := [0, 4, 12, 13, 14]) (by kernel_rfl), hm30.sel [0, 1, 2, 3, 4] _ rfl (by kernel_rfl)⟩ ?_
    rintro g37 s33 a38 w39 H1 ⟨A34, c35, hf40, hm41⟩
    unfold shelf_Shelf_All.l0 at H1
    refine wp_seq ?_
    rcases ifS_split H1 with ⟨c42, H1⟩ | ⟨c42, H1⟩
    rotate_left
    · refine reg [.bool false] [0, 4, 12, 13, 14, 15] [(0, .pointer (some ⟨b0, 0, none⟩)), (4, .slice A34 s33.2.length c35), (12, .slice A0_0 x0.l.length c0_0), (13, .int .i64 (x0.l.length : Int)), (14, .int .i64 s33.1), (15, .bool false)] [.is (decide (s33.1 < (x0.l.length : Int)) = false)] hf40 (by kernel_rfl) ⟨(decide_eq_false c42), trivial⟩ fun a108 hf109 => ?_
      refine thenN ?_
      refine wp_seq ?_
      refine condF hf109 (by kernel_rfl) ?_
      refine wp_exit ?_
      refine thenE ?_
      refine thenE ?_
      obtain rfl := Option.some.inj H1
      exact .inl ⟨rfl, A34, c35, hf109.sel (l := [0, 4, 12, 13, 14]) (by kernel_rfl), hm41.sel [0, 1, 2, 3, 4] _ rfl (by kernel_rfl)⟩
    refine reg [.bool true] [0, 4, 12, 13, 14, 15] [(0, .pointer (some ⟨b0, 0, none⟩)), (4, .slice A34 s33.2.length c35), (12, .slice A0_0 x0.l.length c0_0), (13, .int .i64 (x0.l.length : Int)), (14, .int .i64 s33.1), (15, .bool true)] [.is (decide (s33.1 < (x0.l.length : Int)) = true)] hf40 (by kernel_rfl) ⟨(decide_eq_true c42), trivial⟩ fun a43 hf44 => ?_
    refine thenN ?_
    refine wp_seq ?_
    refine condT hf44 (by kernel_rfl) ?_
    refine wp_skip ?_
    refine thenN ?_
    refine wp_seq ?_
    refine wp_block ?_
    refine wp_seq ?_
    obtain ⟨g45, H1⟩ := ifS_guard H1
    have q46 := (hm41.owAt 2 rfl).cells s33.1 g45.1 g45.2
    obtain ⟨us47, hr48, hc49⟩ := q46.2
    obtain ⟨A50, c51, A52, c53, rfl, ⟨pA50, sA50⟩, ⟨pA52, sA52⟩⟩ := kTensor.open hr48
    have hm54 := hm41.elem pA50 sA50
    have hm55 := hm54.elem pA52 sA52
    refine inReg ?_
    refine go 2 [.agg #[.slice A50 (((rd x0.l s33.1).Shape).length) c51, .slice A52 (((rd x0.l s33.1).Data).length) c53]] [0, 4, 12, 13, 14, 17] [(0, .pointer (some ⟨b0, 0, none⟩)), (4, .slice A34 s33.2.length c35), (12, .slice A0_0 x0.l.length c0_0), (13, .int .i64 (x0.l.length : Int)), (14, .int .i64 s33.1), (17, .agg #[.slice A50 (((rd x0.l s33.1).Shape).length) c51, .slice A52 (((rd x0.l s33.1).Data).length) c53])] [.is (Option.isSome A0_0 = true), .is (0 ≤ s33.1 ∧ s33.1 < (x0.l.length : Int)), .cell ((ad A0_0).add ((s33.1).toNat * 2)) (.slice A50 (((rd x0.l s33.1).Shape).length) c51), .cell (((ad A0_0).add ((s33.1).toNat * 2)).add 1) (.slice A52 (((rd x0.l s33.1).Data).length) c53)] hf44 (by kernel_rfl) ⟨q46.1, g45, (hc49 0 _ rfl), (hc49 1 _ rfl), trivial⟩ fun a56 hf57 => ?_
    refine listOf hf57 rfl (by kernel_rfl) (aNew (cs := [.slice none 0 0, .slice none 0 0]) (T := 29) (d := 6) hf57 (by kernel_rfl) (by kernel_rfl) ?_)
    intro b58 w59 a60 hbb58 hx62 hg63 hf61
    have hm65 := hm55.box hbb58 hx62 hg63
    refine listOf hf61 rfl (by kernel_rfl) (aStoreB (b := b58) (j := 0) (T := 29) (cs := [.slice none 0 0, .slice none 0 0]) (us := [.slice A50 (((rd x0.l s33.1).Shape).length) c51, .slice A52 (((rd x0.l s33.1).Data).length) c53]) (cs' := [.slice A50 (((rd x0.l s33.1).Shape).length) c51, .slice A52 (((rd x0.l s33.1).Data).length) c53]) hf61 (by kernel_rfl) (hm65.bxAt 0 rfl) (by kernel_rfl) (by kernel_rfl) (by kernel_rfl) ?_)
    intro w66 hx67 hg68
    have hm69 := hm65.setBox 0 _ rfl rfl hx67 hg68
    refine endL rfl ?_
    refine thenN ?_
    obtain ⟨r70, hr70, H1⟩ := obS_split H1
    obtain ⟨g71, H1⟩ := ifS_guard H1
    refine inReg ?_
    refine go 2 [.agg #[.slice A50 (((rd x0.l s33.1).Shape).length) c51, .slice A52 (((rd x0.l s33.1).Data).length) c53]] [0, 4, 12, 13, 14, 18, 19] [(0, .pointer (some ⟨b0, 0, none⟩)), (4, .slice A34 s33.2.length c35), (12, .slice A0_0 x0.l.length c0_0), (13, .int .i64 (x0.l.length : Int)), (14, .int .i64 s33.1), (18, .slice A34 s33.2.length c35), (19, .agg #[.slice A50 (((rd x0.l s33.1).Shape).length) c51, .slice A52 (((rd x0.l s33.1).Data).length) c53])] [.cell ⟨b58, 0, none⟩ (.slice A50 (((rd x0.l s33.1).Shape).length) c51), .cell ⟨b58, 1, none⟩ (.slice A52 (((rd x0.l s33.1).Data).length) c53)] hf61 (by kernel_rfl) ⟨(hm69.cell 0 rfl rfl), (hm69.cell 0 rfl rfl), trivial⟩ fun a72 hf73 => ?_
    refine listOf hf73 rfl (by kernel_rfl) (aCall (fid := 33) (args := [.agg #[.slice A50 (((rd x0.l s33.1).Shape).length) c51, .slice A52 (((rd x0.l s33.1).Data).length) c53]]) (d := 20) hf73 (by kernel_rfl) (by kernel_rfl) callable33 (tensor_Copy.calls _ _ (⟨((rd x0.l s33.1).Shape), ((rd x0.l s33.1).Data)⟩ : Tensor) A50 (((rd x0.l s33.1).Shape).length) c51 rfl A52 (((rd x0.l s33.1).Data).length) c53 rfl (hm69.give [2, 1] [.sl (Kd.int .i64) A50 c51 ((rd x0.l s33.1).Shape), .sl Kd.float A52 c53 ((rd x0.l s33.1).Data)] rfl rfl) r70 hr70) ?_)
    rintro _ w78 a79 ⟨A74, c75, A76, c77, rfl, hk81⟩ hf80
    have hm82 := hm69.back hk81
    have hm83 := hm82.seal 0 _ rfl rfl
    have hm84 := hm83.seal 1 _ rfl rfl
    refine listOf hf80 rfl (by kernel_rfl) (aLit (cs := [.slice A74 r70.Shape.length c75, .slice A76 r70.Data.length c77]) (E := 29) (len := 1) (d := 21) hf80 (by kernel_rfl) (by kernel_rfl) ?_)
    intro b85 w86 a87 hbb85 hx89 hg90 hf88
    have hm84s := hm84.still hg90
    have hm91 := Mem.lit (kd := kTensor) (xs := ([r70] : List Tensor)) hm84 hbb85 hx89 hg90 (Els.one (kd := kTensor) (us := [.slice A74 r70.Shape.length c75, .slice A76 r70.Data.length c77]) (x := r70) (kTensor.mk r70 ⟨hm84s.cpAt 0 rfl, (hm84s.slAt 0 rfl)⟩ ⟨hm84s.cpAt 1 rfl, (hm84s.slAt 1 rfl)⟩))
    have e100 : s33.2.length = s33.2.length := rfl
    have e101 : 1 = ([r70] : List Tensor).length := rfl
    refine listOf hf88 rfl (by kernel_rfl) (aApp (kd := kTensor) (base := 0) (E := 29) (A := A34) (B := (some ⟨b85, 0, none⟩)) (c := c35) (c2 := 1) (xs := s33.2) (ys := ([r70] : List Tensor)) (k := s33.2.length) (m := 1) (sz := 2) (d := 22) hf88 (by kernel_rfl) e100 e101 (by kernel_rfl) rfl (by kernel_rfl) (hm91.at 6 rfl) (hm91.at2 6 0 rfl rfl).2 (hm91.cpAt 0 rfl) (Nat.zero_le _) (by have := g71; omega) ?_)
    intro A92 c93 w94 a95 ho97 hg98 hr99 hf96
    have hm102 := hm91.setOwn 6 _ rfl rfl ho97 hg98 hr99
    refine go 1 [] [0, 4, 12, 13, 14] [(0, .pointer (some ⟨b0, 0, none⟩)), (4, .slice A92 ((s33.2 ++ ([r70] : List Tensor)).length) c93), (12, .slice A0_0 x0.l.length c0_0), (13, .int .i64 (x0.l.length : Int)), (14, .int .i64 s33.1)] [] hf96 (by kernel_rfl) trivial fun a103 hf104 => ?_
    refine endL rfl ?_
    have hm105 := hm102.sel [6, 7, 8, 9, 10] _ rfl (by kernel_rfl)
    refine blkN ?_
    refine thenN ?_
    refine reg [] [0, 4, 12, 13, 14] [(0, .pointer (some ⟨b0, 0, none⟩)), (4, .slice A92 ((s33.2 ++ ([r70] : List Tensor)).length) c93), (12, .slice A0_0 x0.l.length c0_0), (13, .int .i64 (x0.l.length : Int)), (14, .int .i64 (w64 (s33.1 + 1)))] [] hf104 (by kernel_rfl) trivial fun a106 hf107 => ?_
    exact ⟨((w64 (s33.1 + 1)), (s33.2 ++ ([r70] : List Tensor))), H1, A92, c93, hf107.sel (l := [0, 4, 12, 13, 14]) (by kernel_rfl), hm105.sel [0, 1, 2, 3, 4] _ rfl (by kernel_rfl)⟩
  rintro a110 w111 ⟨A34, c35, hf112, hm113⟩
  refine thenN ?_
  refine wp_seq ?_
  obtain ⟨r114, hr114, H0⟩ := ob_split H0
  refine inReg ?_
  refine go 5 [.slice A0_1 x0.vers.length c0_1] [24, 28] [(24, .slice A34 r36.2.length c35), (28, .slice A0_1 x0.vers.length c0_1)] [.cell ⟨b0, 1, none⟩ (.slice A0_1 x0.vers.length c0_1)] hf112 (by kernel_rfl) ⟨(hm113.cell 1 rfl rfl), trivial⟩ fun a115 hf116 => ?_
  have hm117 : Mem B0 M w0 [.ow kTensor 29 A34 c35 r36.2, .bx b0 [.slice A0_0 x0.l.length c0_0, .slice A0_1 x0.vers.length c0_1, .slice A0_2 x0.grads.length c0_2] 72, .ow kTensor 29 A0_0 c0_0 x0.l, .sl (Kd.int .i64) A0_1 c0_1 x0.vers, .ow kTensor 29 A0_2 c0_2 x0.grads] w111 := hm113.seal 3 _ rfl rfl
  refine listOf hf116 rfl (by kernel_rfl) (aCall (fid := 39) (args := [.slice A0_1 x0.vers.length c0_1]) (d := 29) hf116 (by kernel_rfl) (by kernel_rfl) callable39 (slices_Clone_int.calls _ _ x0.vers A0_1 x0.vers.length c0_1 rfl (hm117.give [3] [.sl (Kd.int .i64) A0_1 c0_1 x0.vers] rfl rfl) r114 hr114) ?_)
  rintro _ w120 a121 ⟨A118, c119, rfl, hk123⟩ hf122
  have hm124 := hm113.backF hk123 ⟨Kd.flat_int _, trivial⟩
  refine go 2 [] [2, 3] [(2, .slice A34 r36.2.length c35), (3, .slice A118 r114.length c119)] [] hf122 (by kernel_rfl) trivial fun a125 hf126 => ?_
  refine endL rfl ?_
  refine thenN ?_
  refine wp_ret ?_
  have hm127 : Mem B0 M w0 [.bx b0 [.slice A0_0 x0.l.length c0_0, .slice A0_1 x0.vers.length c0_1, .slice A0_2 x0.grads.length c0_2] 72, .ow kTensor 29 A0_0 c0_0 x0.l, .ow (Kd.int .i64) 3 A0_1 c0_1 x0.vers, .ow kTensor 29 A0_2 c0_2 x0.grads, .ow kTensor 29 A34 c35 r36.2, .ow (Kd.int .i64) 3 A118 c119 r114] w120 := hm124.sel [2, 3, 4, 5, 1, 0] _ rfl (by kernel_rfl)
  obtain rfl := Option.some.inj H0
  refine ret [] [.slice A34 r36.2.length c35, .slice A118 r114.length c119] [] hf126 (by kernel_rfl) trivial ?_
  exact ⟨_, rfl, A34, c35, A118, c119, rfl, hm127⟩

/-! ### backstitch/backstitchref1.Bits -/
noncomputable def ref1_Bits.f (x0 : Nat) : Option Int :=
  if (fne x0 x0) = true then (some 9221120237041090561)
  else (some (x0 : Int))
set_option maxRecDepth 100000 in
set_option maxHeartbeats 4000000 in
theorem ref1_Bits.calls (M : List (Option Nat)) (w0 : World) (x0 : Nat) (b0 : Nat) (h0 : FR b0 x0) (hm0 : Mem [] M w0 [] w0) (r : Int) (H0 : ref1_Bits.f x0 = some r) :
    Calls Try.prog 53 [.float .f64 b0].toArray w0 (fun x w' => ∃ v, x = .returned v ∧ v = .int .u64 r ∧ Mem [] M w0 [] w') := by
  unfold ref1_Bits.f at H0
  refine enter (n := 8) Try.func53 rfl rfl (by kernel_rfl) fun a0 (hf0 : Fr 8 a0 [(0, .float .f64 b0)]) => ?_
  refine wp_seq ?_
  refine reg [] [0] [(0, .float .f64 b0)] [] hf0 (by kernel_rfl) trivial fun a21 hf22 => ?_
  refine thenN ?_
  refine wp_seq ?_
  refine wp_seq ?_
  rcases ifb_split H0 with ⟨c23, H0⟩ | ⟨c23, H0⟩
  · refine reg [.bool true] [0, 5] [(0, .float .f64 b0), (5, .bool true)] [.is ((FloatKind.f64.format.order b0 b0 != some .eq) = true)] hf22 (by kernel_rfl) ⟨(ftNe h0 h0 c23), trivial⟩ fun a24 hf25 => ?_
    refine thenN ?_
    refine condT hf25 (by kernel_rfl) ?_
    refine wp_seq ?_
    refine reg [] [2] [(2, .int .u64 9221120237041090561)] [] hf25 (by kernel_rfl) trivial fun a26 hf27 => ?_
    refine thenN ?_
    refine wp_ret ?_
    refine thenR ?_
    have hm28 : Mem [] M w0 [] w0 := hm0.sel [] _ rfl (by kernel_rfl)
    obtain rfl := Option.some.inj H0
    refine ret [] [.int .u64 9221120237041090561] [] hf27 (by kernel_rfl) trivial ?_
    exact ⟨_, rfl, rfl, hm28⟩
  refine reg [.bool false] [0, 5] [(0, .float .f64 b0), (5, .bool false)] [.is ((FloatKind.f64.format.order b0 b0 != some .eq) = false)] hf22 (by kernel_rfl) ⟨(ftNe h0 h0 c23), trivial⟩ fun a30 hf31 => ?_
  refine thenN ?_
  refine condF hf31 (by kernel_rfl) ?_
  refine wp_skip ?_
  refine thenN ?_
  refine wp_seq ?_
  refine inReg ?_
  refine go 1 [] [6] [(6, .float .f64 b0)] [] hf31 (by kernel_rfl) trivial fun a32 hf33 => ?_
  refine listOf hf33 rfl (by kernel_rfl) (aExtern (fid := 68) (args := [.float .f64 b0]) (d := 7) (R := fun v w' => v = .int .u64 (x0 : Int) ∧ w0 = w') hf33 (by kernel_rfl) (by kernel_rfl) ⟨_, Try.func68, rfl, rfl, by kernel_rfl, rfl⟩ ⟨_, _, run_bits _, by rw [FR.bits h0 c23], rfl⟩ ?_)
  rintro _ _ a35 ⟨rfl, rfl⟩ hf36
  refine go 1 [] [2] [(2, .int .u64 (x0 : Int))] [] hf36 (by kernel_rfl) trivial fun a37 hf38 => ?_
  refine endL rfl ?_
  refine thenN ?_
  refine wp_ret ?_
  have hm39 : Mem [] M w0 [] w0 := hm0.sel [] _ rfl (by kernel_rfl)
  obtain rfl := Option.some.inj H0
  refine ret [] [.int .u64 (x0 : Int)] [] hf38 (by kernel_rfl) trivial ?_
  exact ⟨_, rfl, rfl, hm39⟩

/-! ### backstitch/backstitchref1.Same -/
noncomputable def ref1_Same.f (x0 : Nat) (x1 : Nat) : Option Bool :=
  (ref1_Bits.f x0).bind fun r23 =>
  (ref1_Bits.f x1).bind fun r24 =>
  if r23 = r24 then (some true)
  else (some false)
set_option maxRecDepth 100000 in
set_option maxHeartbeats 4000000 in
theorem ref1_Same.calls (M : List (Option Nat)) (w0 : World) (x0 : Nat) (b0 : Nat) (h0 : FR b0 x0) (x1 : Nat) (b1 : Nat) (h1 : FR b1 x1) (hm0 : Mem [] M w0 [] w0) (r : Bool) (H0 : ref1_Same.f x0 x1 = some r) :
    Calls Try.prog 41 [.float .f64 b0, .float .f64 b1].toArray w0 (fun x w' => ∃ v, x = .returned v ∧ v = .bool r ∧ Mem [] M w0 [] w') := by
  unfold ref1_Same.f at H0
  refine enter (n := 10) Try.func41 rfl rfl (by kernel_rfl) fun a0 (hf0 : Fr 10 a0 [(0, .float .f64 b0), (1, .float .f64 b1)]) => ?_
  refine wp_seq ?_
  refine reg [] [0, 1] [(0, .float .f64 b0), (1, .float .f64 b1)] [] hf0 (by kernel_rfl) trivial fun a21 hf22 => ?_
  refine thenN ?_
  refine wp_seq ?_
  obtain ⟨r23, hr23, H0⟩ := ob_split H0
  obtain ⟨r24, hr24, H0⟩ := ob_split H0
  rcases if_split H0 with ⟨c25, H0⟩ | ⟨c25, H0⟩
  · refine inReg ?_
    refine go 1 [] [1, 5] [(1, .float .f64 b1), (5, .float .f64 b0)] [] hf22 (by kernel_rfl) trivial fun a26 hf27 => ?_
    refine listOf hf27 rfl (by kernel_rfl) (aCall (fid := 53) (args := [.float .f64 b0]) (d := 6) hf27 (by kernel_rfl) (by kernel_rfl) callable53 (ref1_Bits.calls _ _ x0 b0 h0 (hm0.give [] [] rfl rfl) r23 hr23) ?_)
    rintro _ w28 a29 ⟨rfl, hk31⟩ hf30
    have hm32 := hm0.still hk31.cum.none
    refine go 1 [] [6, 7] [(6, .int .u64 r23), (7, .float .f64 b1)] [] hf30 (by kernel_rfl) trivial fun a33 hf34 => ?_
    refine listOf hf34 rfl (by kernel_rfl) (aCall (fid := 53) (args := [.float .f64 b1]) (d := 8) hf34 (by kernel_rfl) (by kernel_rfl) callable53 (ref1_Bits.calls _ _ x1 b1 h1 (hm32.give [] [] rfl rfl) r24 hr24) ?_)
    rintro _ w35 a36 ⟨rfl, hk38⟩ hf37
    have hm39 := hm32.still hk38.cum.none
    refine go 2 [.bool true] [4] [(4, .bool true)] [.is (((r23 : Int) == r24) = true)] hf37 (by kernel_rfl) ⟨(eqT c25), trivial⟩ fun a40 hf41 => ?_
    refine endL rfl ?_
    refine thenN ?_
    refine wp_ret ?_
    have hm42 : Mem [] M w0 [] w35 := hm39.sel [] _ rfl (by kernel_rfl)
    obtain rfl := Option.some.inj H0
    refine ret [] [.bool true] [] hf41 (by kernel_rfl) trivial ?_
    exact ⟨_, rfl, rfl, hm42⟩
  refine inReg ?_
  refine go 1 [] [1, 5] [(1, .float .f64 b1), (5, .float .f64 b0)] [] hf22 (by kernel_rfl) trivial fun a44 hf45 => ?_
  refine listOf hf45 rfl (by kernel_rfl) (aCall (fid := 53) (args := [.float .f64 b0]) (d := 6) hf45 (by kernel_rfl) (by kernel_rfl) callable53 (ref1_Bits.calls _ _ x0 b0 h0 (hm0.give [] [] rfl rfl) r23 hr23) ?_)
  rintro _ w46 a47 ⟨rfl, hk49⟩ hf48
  have hm50 := hm0.still hk49.cum.none
  refine go 1 [] [6, 7] [(6, .int .u64 r23), (7, .float .f64 b1)] [] hf48 (by kernel_rfl) trivial fun a51 hf52 => ?_
  refine listOf hf52 rfl (by kernel_rfl) (aCall (fid := 53) (args := [.float .f64 b1]) (d := 8) hf52 (by kernel_rfl) (by kernel_rfl) callable53 (ref1_Bits.calls _ _ x1 b1 h1 (hm50.give [] [] rfl rfl) r24 hr24) ?_)
  rintro _ w53 a54 ⟨rfl, hk56⟩ hf55
  have hm57 := hm50.still hk56.cum.none
  refine go 2 [.bool false] [4] [(4, .bool false)] [.is (((r23 : Int) == r24) = false)] hf55 (by kernel_rfl) ⟨(eqF c25), trivial⟩ fun a58 hf59 => ?_
  refine endL rfl ?_
  refine thenN ?_
  refine wp_ret ?_
  have hm60 : Mem [] M w0 [] w53 := hm57.sel [] _ rfl (by kernel_rfl)
  obtain rfl := Option.some.inj H0
  refine ret [] [.bool false] [] hf59 (by kernel_rfl) trivial ?_
  exact ⟨_, rfl, rfl, hm60⟩

/-! ### backstitch/backstitchref1.SameTensor -/
noncomputable def ref1_SameTensor.l0 (x0 : Tensor) (x1 : Tensor) (s51 : Int) : Step Int (Out2 Int Bool) :=
  if s51 < (x0.Data.length : Int) then (if 0 ≤ s51 ∧ s51 < (x0.Data.length : Int) then (if 0 ≤ s51 ∧ s51 < (x1.Data.length : Int) then (bindS (ref1_Same.f (rd x0.Data s51) (rd x1.Data s51)) fun r63 =>
  if r63 = true then (.next (w64 (s51 + 1)))
  else (.done (.ret false)))
  else .bad)
  else .bad)
  else (.done (.go s51))
noncomputable def ref1_SameTensor.f (x0 : Tensor) (x1 : Tensor) : Option Bool :=
  (ref1_SameInts.f x0.Shape x1.Shape).bind fun r37 =>
  if r37 = true then (if (x0.Data.length : Int) = (x1.Data.length : Int) then ((loop (ref1_SameTensor.l0 x0 x1) 0).bind fun r52 =>
  r52.on (fun yr52 =>
  some true) (fun y => some y))
  else (some false))
  else (some false)
set_option maxRecDepth 100000 in
set_option maxHeartbeats 4000000 in
theorem ref1_SameTensor.calls (M : List (Option Nat)) (w0 : World) (x0 : Tensor) (A0_0 : Option Addr) (n0_0 c0_0 : Nat) (e0_0 : n0_0 = x0.Shape.length) (A0_1 : Option Addr) (n0_1 c0_1 : Nat) (e0_1 : n0_1 = x0.Data.length) (x1 : Tensor) (A1_0 : Option Addr) (n1_0 c1_0 : Nat) (e1_0 : n1_0 = x1.Shape.length) (A1_1 : Option Addr) (n1_1 c1_1 : Nat) (e1_1 : n1_1 = x1.Data.length) (hm0 : Mem [] M w0 [.sl (Kd.int .i64) A0_0 c0_0 x0.Shape, .sl Kd.float A0_1 c0_1 x0.Data, .sl (Kd.int .i64) A1_0 c1_0 x1.Shape, .sl Kd.float A1_1 c1_1 x1.Data] w0) (r : Bool) (H0 : ref1_SameTensor.f x0 x1 = some r) :
    Calls Try.prog 24 [.agg #[.slice A0_0 n0_0 c0_0, .slice A0_1 n0_1 c0_1], .agg #[.slice A1_0 n1_0 c1_0, .slice A1_1 n1_1 c1_1]].toArray w0 (fun x w' => ∃ v, x = .returned v ∧ v = .bool r ∧ Mem [] M w0 [] w') := by
  subst e0_0
  subst e0_1
  subst e1_0
  subst e1_1
  unfold ref1_SameTensor.f at H0
  refine enter (n := 40) Try.func24 rfl rfl (by kernel_rfl) fun a0 (hf0 : Fr 40 a0 [(0, .agg #[.slice A0_0 x0.Shape.length c0_0, .slice A0_1 x0.Data.length c0_1]), (1, .agg #[.slice A1_0 x1.Shape.length c1_0, .slice A1_1 x1.Data.length c1_1])]) => ?_
  refine wp_seq ?_
  refine inReg ?_
  refine listOf hf0 rfl (by kernel_rfl) (aNew (cs := [.slice A0_0 x0.Shape.length c0_0, .slice A0_1 x0.Data.length c0_1]) (T := 29) (d := 2) hf0 (by kernel_rfl) (by kernel_rfl) ?_)
  intro b21 w22 a23 hbb21 hx25 hg26 hf24
  have hm27 := hm0.box hbb21 hx25 hg26
  refine listOf hf24 rfl (by kernel_rfl) (aNew (cs := [.slice A1_0 x1.Shape.length c1_0, .slice A1_1 x1.Data.length c1_1]) (T := 29) (d := 3) hf24 (by kernel_rfl) (by kernel_rfl) ?_)
  intro b28 w29 a30 hbb28 hx32 hg33 hf31
  have hm34 := hm27.box hbb28 hx32 hg33
  refine go 1 [] [2, 3] [(2, .pointer (some ⟨b21, 0, none⟩)), (3, .pointer (some ⟨b28, 0, none⟩))] [] hf31 (by kernel_rfl) trivial fun a35 hf36 => ?_
  refine endL rfl ?_
  refine thenN ?_
  refine wp_seq ?_
  refine wp_seq ?_
  obtain ⟨r37, hr37, H0⟩ := ob_split H0
  rcases ifb_split H0 with ⟨c38, H0⟩ | ⟨c38, H0⟩
  rotate_left
  · refine inReg ?_
    refine go 4 [.slice A0_0 x0.Shape.length c0_0, .slice A1_0 x1.Shape.length c1_0] [2, 3, 7, 9] [(2, .pointer (some ⟨b21, 0, none⟩)), (3, .pointer (some ⟨b28, 0, none⟩)), (7, .slice A0_0 x0.Shape.length c0_0), (9, .slice A1_0 x1.Shape.length c1_0)] [.cell ⟨b21, 0, none⟩ (.slice A0_0 x0.Shape.length c0_0), .cell ⟨b28, 0, none⟩ (.slice A1_0 x1.Shape.length c1_0)] hf36 (by kernel_rfl) ⟨(hm34.cell 1 rfl rfl), (hm34.cell 0 rfl rfl), trivial⟩ fun a182 hf183 => ?_
    refine listOf hf183 rfl (by kernel_rfl) (aCall (fid := 22) (args := [.slice A0_0 x0.Shape.length c0_0, .slice A1_0 x1.Shape.length c1_0]) (d := 10) hf183 (by kernel_rfl) (by kernel_rfl) callable22 (ref1_SameInts.calls _ _ x0.Shape A0_0 x0.Shape.length c0_0 rfl x1.Shape A1_0 x1.Shape.length c1_0 rfl (hm34.give [2, 4] [.sl (Kd.int .i64) A0_0 c0_0 x0.Shape, .sl (Kd.int .i64) A1_0 c1_0 x1.Shape] rfl rfl) r37 hr37) ?_)
    rintro _ w184 a185 ⟨rfl, hk187⟩ hf186
    have hm188 := hm34.still hk187.cum.none
    rw [c38] at hf186
    refine go 10 [] [2, 3, 20] [(2, .pointer (some ⟨b21, 0, none⟩)), (3, .pointer (some ⟨b28, 0, none⟩)), (20, .bool true)] [] hf186 (by kernel_rfl) trivial fun a189 hf190 => ?_
    refine endL rfl ?_
    refine thenN ?_
    refine condT hf190 (by kernel_rfl) ?_
    refine wp_seq ?_
    refine reg [] [4] [(4, .bool false)] [] hf190 (by kernel_rfl) trivial fun a191 hf192 => ?_
    have hm193 := hm188.sel [] _ rfl (by kernel_rfl)
    refine thenN ?_
    refine wp_ret ?_
    refine thenR ?_
    have hm194 : Mem [] M w0 [] w184 := hm193.sel [] _ rfl (by kernel_rfl)
    obtain rfl := Option.some.inj H0
    refine ret [] [.bool false] [] hf192 (by kernel_rfl) trivial ?_
    exact ⟨_, rfl, rfl, hm194⟩
  rcases if_split H0 with ⟨c39, H0⟩ | ⟨c39, H0⟩
  rotate_left
  · refine inReg ?_
    refine go 4 [.slice A0_0 x0.Shape.length c0_0, .slice A1_0 x1.Shape.length c1_0] [2, 3, 7, 9] [(2, .pointer (some ⟨b21, 0, none⟩)), (3, .pointer (some ⟨b28, 0, none⟩)), (7, .slice A0_0 x0.Shape.length c0_0), (9, .slice A1_0 x1.Shape.length c1_0)] [.cell ⟨b21, 0, none⟩ (.slice A0_0 x0.Shape.length c0_0), .cell ⟨b28, 0, none⟩ (.slice A1_0 x1.Shape.length c1_0)] hf36 (by kernel_rfl) ⟨(hm34.cell 1 rfl rfl), (hm34.cell 0 rfl rfl), trivial⟩ fun a168 hf169 => ?_
    refine listOf hf169 rfl (by kernel_rfl) (aCall (fid := 22) (args := [.slice A0_0 x0.Shape.length c0_0, .slice A1_0 x1.Shape.length c1_0]) (d := 10) hf169 (by kernel_rfl) (by kernel_rfl) callable22 (ref1_SameInts.calls _ _ x0.Shape A0_0 x0.Shape.length c0_0 rfl x1.Shape A1_0 x1.Shape.length c1_0 rfl (hm34.give [2, 4] [.sl (Kd.int .i64) A0_0 c0_0 x0.Shape, .sl (Kd.int .i64) A1_0 c1_0 x1.Shape] rfl rfl) r37 hr37) ?_)
    rintro _ w170 a171 ⟨rfl, hk173⟩ hf172
    have hm174 := hm34.still hk173.cum.none
    rw [c38] at hf172
    refine go 10 [.slice A0_1 x0.Data.length c0_1, .slice A1_1 x1.Data.length c1_1, .bool true] [2, 3, 20] [(2, .pointer (some ⟨b21, 0, none⟩)), (3, .pointer (some ⟨b28, 0, none⟩)), (20, .bool true)] [.cell ⟨b21, 1, none⟩ (.slice A0_1 x0.Data.length c0_1), .cell ⟨b28, 1, none⟩ (.slice A1_1 x1.Data.length c1_1), .is ((((x0.Data.length : Int) : Int) != (x1.Data.length : Int)) = true)] hf172 (by kernel_rfl) ⟨(hm174.cell 1 rfl rfl), (hm174.cell 0 rfl rfl), (neT c39), trivial⟩ fun a175 hf176 => ?_
    refine endL rfl ?_
    refine thenN ?_
    refine condT hf176 (by kernel_rfl) ?_
    refine wp_seq ?_
    refine reg [] [4] [(4, .bool false)] [] hf176 (by kernel_rfl) trivial fun a177 hf178 => ?_
    have hm179 := hm174.sel [] _ rfl (by kernel_rfl)
    refine thenN ?_
    refine wp_ret ?_
    refine thenR ?_
    have hm180 : Mem [] M w0 [] w170 := hm179.sel [] _ rfl (by kernel_rfl)
    obtain rfl := Option.some.inj H0
    refine ret [] [.bool false] [] hf178 (by kernel_rfl) trivial ?_
    exact ⟨_, rfl, rfl, hm180⟩
  refine inReg ?_
  refine go 4 [.slice A0_0 x0.Shape.length c0_0, .slice A1_0 x1.Shape.length c1_0] [2, 3, 7, 9] [(2, .pointer (some ⟨b21, 0, none⟩)), (3, .pointer (some ⟨b28, 0, none⟩)), (7, .slice A0_0 x0.Shape.length c0_0), (9, .slice A1_0 x1.Shape.length c1_0)] [.cell ⟨b21, 0, none⟩ (.slice A0_0 x0.Shape.length c0_0), .cell ⟨b28, 0, none⟩ (.slice A1_0 x1.Shape.length c1_0)] hf36 (by kernel_rfl) ⟨(hm34.cell 1 rfl rfl), (hm34.cell 0 rfl rfl), trivial⟩ fun a40 hf41 => ?_
  refine listOf hf41 rfl (by kernel_rfl) (aCall (fid := 22) (args := [.slice A0_0 x0.Shape.length c0_0, .slice A1_0 x1.Shape.length c1_0]) (d := 10) hf41 (by kernel_rfl) (by kernel_rfl) callable22 (ref1_SameInts.calls _ _ x0.Shape A0_0 x0.Shape.length c0_0 rfl x1.Shape A1_0 x1.Shape.length c1_0 rfl (hm34.give [2, 4] [.sl (Kd.int .i64) A0_0 c0_0 x0.Shape, .sl (Kd.int .i64) A1_0 c1_0 x1.Shape] rfl rfl) r37 hr37) ?_)
  rintro _ w42 a43 ⟨rfl, hk45⟩ hf44
  have hm46 := hm34.still hk45.cum.none
  rw [c38] at hf44
  refine go 10 [.slice A0_1 x0.Data.length c0_1, .slice A1_1 x1.Data.length c1_1, .bool false] [2, 3, 20] [(2, .pointer (some ⟨b21, 0, none⟩)), (3, .pointer (some ⟨b28, 0, none⟩)), (20, .bool false)] [.cell ⟨b21, 1, none⟩ (.slice A0_1 x0.Data.length c0_1), .cell ⟨b28, 1, none⟩ (.slice A1_1 x1.Data.length c1_1), .is ((((x0.Data.length : Int) : Int) != (x1.Data.length : Int)) = false)] hf44 (by kernel_rfl) ⟨(hm46.cell 1 rfl rfl), (hm46.cell 0 rfl rfl), (neF c39), trivial⟩ fun a47 hf48 => ?_
  refine endL rfl ?_
  refine thenN ?_
  refine condF hf48 (by kernel_rfl) ?_
  refine wp_skip ?_
  refine thenN ?_
  refine wp_seq ?_
  refine wp_seq ?_
  refine reg [] [2, 3, 5] [(2, .pointer (some ⟨b21, 0, none⟩)), (3, .pointer (some ⟨b28, 0, none⟩)), (5, .int .i64 0)] [] hf48 (by kernel_rfl) trivial fun a49 hf50 => ?_
  refine thenN ?_
  obtain ⟨r52, hr52, H0⟩ := ob_split H0
  refine wpBlock (Mid := fun (a : Act) (w : World) => ∃ yr52 : Int, r52 = .go yr52 ∧ Fr 40 a [(2, .pointer (some ⟨b21, 0, none⟩)), (3, .pointer (some ⟨b28, 0, none⟩)), (5, .int .i64 yr52)] ∧ Mem [] M w0 [.bx b28 [.slice A1_0 x1.Shape.length c1_0, .slice A1_1 x1.Data.length c1_1] 29, .bx b21 [.slice A0_0 x0.Shape.length c0_0, .slice A0_1 x0.Data.length c0_1] 29, .sl (Kd.int .i64) A0_0 c0_0 x0.Shape, .sl Kd.float A0_1 c0_1 x0.Data, .sl (Kd.int .i64) A1_0 c1_0 x1.Shape, .sl Kd.float A1_1 c1_1 x1.Data] w) ?_ ?_
  · refine wpLoop (ref1_SameTensor.l0 x0 x1) r52 (fun (s51 : Int) (a : Act) (w : World) => Fr 40 a [(2, .pointer (some ⟨b21, 0, none⟩)), (3, .pointer (some ⟨b28, 0, none⟩)), (5, .int .i64 s51)] ∧ Mem [] M w0 [.bx b28 [.slice A1_0 x1.Shape.length c1_0, .slice A1_1 x1.Data.length c1_1] 29, .bx b21 [.slice A0_0 x0.Shape.length c0_0, .slice A0_1 x0.Data.length c0_1] 29, .sl (Kd.int .i64) A0_0 c0_0 x0.Shape, .sl Kd.float A0_1 c0_1 x0.Data, .sl (Kd.int .i64) A1_0 c1_0 x1.Shape, .sl Kd.float A1_1 c1_1 x1.Data] w) 0 hr52 ⟨hf50.sel (l := [2, 3, 5]) (by kernel_rfl), hm46.sel [0, 1, 2, 3, 4, 5] _ rfl (by kernel_rfl)⟩ ?_
    rintro g53 s51 a54 w55 H1 ⟨hf56, hm57⟩
    unfold ref1_SameTensor.l0 at H1
    refine wp_seq ?_
    refine wp_seq ?_
    rcases ifS_split H1 with ⟨c58, H1⟩ | ⟨c58, H1⟩
    rotate_left
    · refine reg [.slice A0_1 x0.Data.length c0_1, .bool false] [2, 3, 5, 25] [(2, .pointer (some ⟨b21, 0, none⟩)), (3, .pointer (some ⟨b28, 0, none⟩)), (5, .int .i64 s51), (25, .bool false)] [.cell ⟨b21, 1, none⟩ (.slice A0_1 x0.Data.length c0_1), .is (decide (s51 < (x0.Data.length : Int)) = false)] hf56 (by kernel_rfl) ⟨(hm57.cell 1 rfl rfl), (decide_eq_false c58), trivial⟩ fun a157 hf158 => ?_
      refine thenN ?_
      refine condF hf158 (by kernel_rfl) ?_
      refine wp_exit ?_
      refine thenE ?_
      refine thenE ?_
      obtain rfl := Option.some.inj H1
      exact .inl ⟨rfl, s51, rfl, hf158.sel (l := [2, 3, 5]) (by kernel_rfl), hm57.sel [0, 1, 2, 3, 4, 5] _ rfl (by kernel_rfl)⟩
    refine reg [.slice A0_1 x0.Data.length c0_1, .bool true] [2, 3, 5, 25] [(2, .pointer (some ⟨b21, 0, none⟩)), (3, .pointer (some ⟨b28, 0, none⟩)), (5, .int .i64 s51), (25, .bool true)] [.cell ⟨b21, 1, none⟩ (.slice A0_1 x0.Data.length c0_1), .is (decide (s51 < (x0.Data.length : Int)) = true)] hf56 (by kernel_rfl) ⟨(hm57.cell 1 rfl rfl), (decide_eq_true c58), trivial⟩ fun a59 hf60 => ?_
    refine thenN ?_
    refine condT hf60 (by kernel_rfl) ?_
    refine wp_skip ?_
    refine thenN ?_
    refine wp_seq ?_
    refine wp_block ?_
    refine wp_seq ?_
    obtain ⟨g61, H1⟩ := ifS_guard H1
    obtain ⟨g62, H1⟩ := ifS_guard H1
    obtain ⟨r63, hr63, H1⟩ := obS_split H1
    rcases ifbS_split H1 with ⟨c65, H1⟩ | ⟨c65, H1⟩
    · refine midReg (fun (a : Act) (w : World) => Fr 40 a [(2, .pointer (some ⟨b21, 0, none⟩)), (3, .pointer (some ⟨b28, 0, none⟩)), (5, .int .i64 s51), (39, .bool false)] ∧ Mem [] M w0 [.bx b28 [.slice A1_0 x1.Shape.length c1_0, .slice A1_1 x1.Data.length c1_1] 29, .bx b21 [.slice A0_0 x0.Shape.length c0_0, .slice A0_1 x0.Data.length c0_1] 29, .sl (Kd.int .i64) A0_0 c0_0 x0.Shape, .sl Kd.float A0_1 c0_1 x0.Data, .sl (Kd.int .i64) A1_0 c1_0 x1.Shape, .sl Kd.float A1_1 c1_1 x1.Data] w) ?_ ?_
      · refine anyG (K := []) [] (by kernel_rfl) fun w75 hg76 => ?_
        have hm77 := hm57.still hg76
        have q91 := (hm77.slAt 3 rfl).float s51 g61.1 g61.2
        obtain ⟨b92, hb92, kb92⟩ := q91.2
        have q93 := (hm77.slAt 5 rfl).float s51 g62.1 g62.2
        obtain ⟨b94, hb94, kb94⟩ := q93.2
        refine quiet0 [0, 1, 2, 3, 4, 5, 6, 7, 8, 9] [.slice A0_1 x0.Data.length c0_1, .float .f64 b92, .slice A1_1 x1.Data.length c1_1, .float .f64 b94] [2, 3, 5, 32, 37] #[true, true, true, true, true, true, true, true, true, true, false, false] [(2, .pointer (some ⟨b21, 0, none⟩)), (3, .pointer (some ⟨b28, 0, none⟩)), (5, .int .i64 s51), (32, .float .f64 b92), (37, .float .f64 b94)] [.cell ⟨b21, 1, none⟩ (.slice A0_1 x0.Data.length c0_1), .is (Option.isSome A0_1 = true), .is (0 ≤ s51 ∧ s51 < (x0.Data.length : Int)), .cell ((ad A0_1).add ((s51).toNat * 1)) (.float .f64 b92), .cell ⟨b28, 1, none⟩ (.slice A1_1 x1.Data.length c1_1), .is (Option.isSome A1_1 = true), .is (0 ≤ s51 ∧ s51 < (x1.Data.length : Int)), .cell ((ad A1_1).add ((s51).toNat * 1)) (.float .f64 b94)] 2 rfl (by kernel_rfl) (fun _ _ _ _ _ h => nomatch h.1) hf60 (by kernel_rfl) ⟨(hm77.cell 1 rfl rfl), q91.1, g61, kb92, (hm77.cell 0 rfl rfl), q93.1, g62, kb94, trivial⟩ fun a95 hf96 => ?_
        refine all1 10 (by kernel_rfl) ?_
        refine opOf hf96 rfl (by kernel_rfl) (aCall (fid := 41) (args := [.float .f64 b92, .float .f64 b94]) (d := 38) hf96 (by kernel_rfl) (by kernel_rfl) callable41 (ref1_Same.calls _ _ (rd x0.Data s51) b92 hb92 (rd x1.Data s51) b94 hb94 (hm77.give [] [] rfl rfl) r63 hr63) ?_)
        rintro _ w97 a98 ⟨rfl, hk100⟩ hf99
        refine ⟨.inr (Gr.still hk100.cum.none), ?_⟩
        have hm101 := hm77.still hk100.cum.none
        rw [c65] at hf99
        refine quiet0 [11] [] [2, 3, 5, 39] #[true, true, true, true, true, true, true, true, true, true, true, true] [(2, .pointer (some ⟨b21, 0, none⟩)), (3, .pointer (some ⟨b28, 0, none⟩)), (5, .int .i64 s51), (39, .bool false)] [] 0 rfl (by kernel_rfl) (fun _ _ _ _ _ h => nomatch h.1) hf99 (by kernel_rfl) trivial fun a102 hf103 => ?_
        refine allDone (by kernel_rfl) ⟨rfl, hf103.sel (l := [2, 3, 5, 39]) (by kernel_rfl), hm101.sel [0, 1, 2, 3, 4, 5] _ rfl (by kernel_rfl)⟩
      rintro a104 w105 ⟨hf106, hm107⟩
      refine thenN ?_
      refine condF hf106 (by kernel_rfl) ?_
      refine wp_skip ?_
      refine blkN ?_
      refine thenN ?_
      refine reg [] [2, 3, 5] [(2, .pointer (some ⟨b21, 0, none⟩)), (3, .pointer (some ⟨b28, 0, none⟩)), (5, .int .i64 (w64 (s51 + 1)))] [] hf106 (by kernel_rfl) trivial fun a108 hf109 => ?_
      exact ⟨(w64 (s51 + 1)), H1, hf109.sel (l := [2, 3, 5]) (by kernel_rfl), hm107.sel [0, 1, 2, 3, 4, 5] _ rfl (by kernel_rfl)⟩
    refine midReg (fun (a : Act) (w : World) => Fr 40 a [(2, .pointer (some ⟨b21, 0, none⟩)), (3, .pointer (some ⟨b28, 0, none⟩)), (5, .int .i64 s51), (39, .bool true)] ∧ Mem [] M w0 [.bx b28 [.slice A1_0 x1.Shape.length c1_0, .slice A1_1 x1.Data.length c1_1] 29, .bx b21 [.slice A0_0 x0.Shape.length c0_0, .slice A0_1 x0.Data.length c0_1] 29, .sl (Kd.int .i64) A0_0 c0_0 x0.Shape, .sl Kd.float A0_1 c0_1 x0.Data, .sl (Kd.int .i64) A1_0 c1_0 x1.Shape, .sl Kd.float A1_1 c1_1 x1.Data] w) ?_ ?_
    · refine anyG (K := []) [] (by kernel_rfl) fun w119 hg120 => ?_
      have hm121 := hm57.still hg120
      have q135 := (hm121.slAt 3 rfl).float s51 g61.1 g61.2
      obtain ⟨b136, hb136, kb136⟩ := q135.2
      have q137 := (hm121.slAt 5 rfl).float s51 g62.1 g62.2
      obtain ⟨b138, hb138, kb138⟩ := q137.2
      refine quiet0 [0, 1, 2, 3, 4, 5, 6, 7, 8, 9] [.slice A0_1 x0.Data.length c0_1, .float .f64 b136, .slice A1_1 x1.Data.length c1_1, .float .f64 b138] [2, 3, 5, 32, 37] #[true, true, true, true, true, true, true, true, true, true, false, false] [(2, .pointer (some ⟨b21, 0, none⟩)), (3, .pointer (some ⟨b28, 0, none⟩)), (5, .int .i64 s51), (32, .float .f64 b136), (37, .float .f64 b138)] [.cell ⟨b21, 1, none⟩ (.slice A0_1 x0.Data.length c0_1), .is (Option.isSome A0_1 = true), .is (0 ≤ s51 ∧ s51 < (x0.Data.length : Int)), .cell ((ad A0_1).add ((s51).toNat * 1)) (.float .f64 b136), .cell ⟨b28, 1, none⟩ (.slice A1_1 x1.Data.length c1_1), .is (Option.isSome A1_1 = true), .is (0 ≤ s51 ∧ s51 < (x1.Data.length : Int)), .cell ((ad A1_1).add ((s51).toNat * 1)) (.float .f64 b138)] 2 rfl (by kernel_rfl) (fun _ _ _ _ _ h => nomatch h.1) hf60 (by kernel_rfl) ⟨(hm121.cell 1 rfl rfl), q135.1, g61, kb136, (hm121.cell 0 rfl rfl), q137.1, g62, kb138, trivial⟩ fun a139 hf140 => ?_
      refine all1 10 (by kernel_rfl) ?_
      refine opOf hf140 rfl (by kernel_rfl) (aCall (fid := 41) (args := [.float .f64 b136, .float .f64 b138]) (d := 38) hf140 (by kernel_rfl) (by kernel_rfl) callable41 (ref1_Same.calls _ _ (rd x0.Data s51) b136 hb136 (rd x1.Data s51) b138 hb138 (hm121.give [] [] rfl rfl) r63 hr63) ?_)
      rintro _ w141 a142 ⟨rfl, hk144⟩ hf143
      refine ⟨.inr (Gr.still hk144.cum.none), ?_⟩
      have hm145 := hm121.still hk144.cum.none
      rw [c65] at hf143
      refine quiet0 [11] [] [2, 3, 5, 39] #[true, true, true, true, true, true, true, true, true, true, true, true] [(2, .pointer (some ⟨b21, 0, none⟩)), (3, .pointer (some ⟨b28, 0, none⟩)), (5, .int .i64 s51), (39, .bool true)] [] 0 rfl (by kernel_rfl) (fun _ _ _ _ _ h => nomatch h.1) hf143 (by kernel_rfl) trivial fun a146 hf147 => ?_
      refine allDone (by kernel_rfl) ⟨rfl, hf147.sel (l := [2, 3, 5, 39]) (by kernel_rfl), hm145.sel [0, 1, 2, 3, 4, 5] _ rfl (by kernel_rfl)⟩
    rintro a148 w149 ⟨hf150, hm151⟩
    refine thenN ?_
    refine condT hf150 (by kernel_rfl) ?_
    refine wp_seq ?_
    refine reg [] [4] [(4, .bool false)] [] hf150 (by kernel_rfl) trivial fun a152 hf153 => ?_
    have hm154 := hm151.sel [] _ rfl (by kernel_rfl)
    refine thenN ?_
    refine wp_ret ?_
    refine blkR ?_
    refine thenR ?_
    refine thenR ?_
    refine .inr ⟨rfl, ?_⟩
    refine thenR ?_
    have hm155 : Mem [] M w0 [] w149 := hm154.sel [] _ rfl (by kernel_rfl)
    obtain rfl := Option.some.inj H1
    obtain rfl := Option.some.inj H0
    refine ret [] [.bool false] [] hf153 (by kernel_rfl) trivial ?_
    exact ⟨_, rfl, rfl, hm155⟩
  rintro a159 w160 ⟨yr52, rfl, hf161, hm162⟩
  refine thenN ?_
  refine wp_seq ?_
  refine reg [] [4] [(4, .bool true)] [] hf161 (by kernel_rfl) trivial fun a163 hf164 => ?_
  have hm165 := hm162.sel [] _ rfl (by kernel_rfl)
  refine thenN ?_
  refine wp_ret ?_
  have hm166 : Mem [] M w0 [] w160 := hm165.sel [] _ rfl (by kernel_rfl)
  obtain rfl := Option.some.inj H0
  refine ret [] [.bool true] [] hf164 (by kernel_rfl) trivial ?_
  exact ⟨_, rfl, rfl, hm166⟩
end Go.Proofs.Yteaoijahdinciaa
