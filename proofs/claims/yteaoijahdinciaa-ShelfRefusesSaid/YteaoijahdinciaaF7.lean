/- Printed by gen.py. -/
import Derived.Test.YteaoijahdinciaaF0
import Derived.Test.YteaoijahdinciaaF3
import Derived.Test.YteaoijahdinciaaF6
namespace Go.Proofs.Yteaoijahdinciaa
open Go Go.RowKit
set_option linter.unusedSimpArgs false
set_option linter.unusedVariables false
set_option linter.unnecessarySimpa false
/-! ### (*backstitch/shelf.Shelf).Commit -/
noncomputable def shelf_Shelf_Commit.l0 (x1 : (List Tensor)) (x0 : Shelf) (s28 : Int) : Step Int (Out2 Int ((List Tensor) × Int)) :=
  if s28 < (x1.length : Int) then (if 0 ≤ s28 ∧ s28 < (x1.length : Int) then (bindS (tensor_May.f (⟨((rd x1 s28).Shape), ((rd x1 s28).Data)⟩ : Tensor)) fun r65 =>
  if r65 = true then (if 0 ≤ s28 ∧ s28 < (x0.l.length : Int) then (bindS (shape_Same.f ((rd x1 s28).Shape) ((rd x0.l s28).Shape)) fun r68 =>
  if r68 = true then (.next (w64 (s28 + 1)))
  else (.done (.ret (x0.grads, 2))))
  else .bad)
  else (.done (.ret (x0.grads, 2))))
  else .bad)
  else (.done (.go s28))
noncomputable def shelf_Shelf_Commit.l1 (x1 : (List Tensor)) (s281 : (Int × (List Tensor))) : Step (Int × (List Tensor)) (Int × (List Tensor)) :=
  if s281.1 < (x1.length : Int) then (if 0 ≤ s281.1 ∧ s281.1 < (x1.length : Int) then (if 0 ≤ s281.1 ∧ s281.1 < (s281.2.length : Int) then (bindS (kernel_Two.f 4 (⟨((rd s281.2 s281.1).Shape), ((rd s281.2 s281.1).Data)⟩ : Tensor) (⟨((rd x1 s281.1).Shape), ((rd x1 s281.1).Data)⟩ : Tensor)) fun r318 =>
  .next ((w64 (s281.1 + 1)), (put s281.2 s281.1 r318.1)))
  else .bad)
  else .bad)
  else (.done (s281.1, s281.2))
noncomputable def shelf_Shelf_Commit.f (x0 : Shelf) (x1 : (List Tensor)) : Option ((List Tensor) × Int) :=
  if (x1.length : Int) = (x0.l.length : Int) then ((loop (shelf_Shelf_Commit.l0 x1 x0) 0).bind fun r29 =>
  r29.on (fun yr29 =>
  (loop (shelf_Shelf_Commit.l1 x1) (0, x0.grads)).bind fun r282 =>
  some (r282.2, 0)) (fun y => some y))
  else (some (x0.grads, 1))
set_option maxRecDepth 100000 in
set_option maxHeartbeats 4000000 in
theorem shelf_Shelf_Commit.calls (B0 : List (Option Nat)) (M : List (Option Nat)) (w0 : World) (x0 : Shelf) (b0 : Nat) (A0_0 : Option Addr) (n0_0 c0_0 : Nat) (e0_0 : n0_0 = x0.l.length) (A0_1 : Option Addr) (n0_1 c0_1 : Nat) (e0_1 : n0_1 = x0.vers.length) (A0_2 : Option Addr) (n0_2 c0_2 : Nat) (e0_2 : n0_2 = x0.grads.length) (x1 : (List Tensor)) (A1 : Option Addr) (n1 c1 : Nat) (e1 : n1 = x1.length) (hm0 : Mem B0 M w0 [.bx b0 [.slice A0_0 n0_0 c0_0, .slice A0_1 n0_1 c0_1, .slice A0_2 n0_2 c0_2] 72, .ow kTensor 29 A0_0 c0_0 x0.l, .ow (Kd.int .i64) 3 A0_1 c0_1 x0.vers, .ow kTensor 29 A0_2 c0_2 x0.grads, .sl kTensor A1 c1 x1] w0) (r : ((List Tensor) × Int)) (H0 : shelf_Shelf_Commit.f x0 x1 = some r) :
    Calls Try.prog 11 [.pointer (some ⟨b0, 0, none⟩), .slice A1 n1 c1].toArray w0 (fun x w' => ∃ v, x = .returned v ∧ ∃ Ap0_2 cp0_2, v = .int .i64 r.2 ∧ Mem B0 M w0 [.bx b0 [.slice A0_0 x0.l.length c0_0, .slice A0_1 x0.vers.length c0_1, .slice Ap0_2 r.1.length cp0_2] 72, .ow kTensor 29 A0_0 c0_0 x0.l, .ow (Kd.int .i64) 3 A0_1 c0_1 x0.vers, .ow kTensor 29 Ap0_2 cp0_2 r.1] w') := by
  subst e0_0
  subst e0_1
  subst e0_2
  subst e1
  unfold shelf_Shelf_Commit.f at H0
  refine enter (n := 72) Try.func11 rfl rfl (by kernel_rfl) fun a0 (hf0 : Fr 72 a0 [(0, .pointer (some ⟨b0, 0, none⟩)), (1, .slice A1 x1.length c1)]) => ?_
  refine wp_seq ?_
  refine reg [] [0, 1] [(0, .pointer (some ⟨b0, 0, none⟩)), (1, .slice A1 x1.length c1)] [] hf0 (by kernel_rfl) trivial fun a21 hf22 => ?_
  refine thenN ?_
  refine wp_seq ?_
  refine wp_seq ?_
  rcases if_split H0 with ⟨c23, H0⟩ | ⟨c23, H0⟩
  rotate_left
  · refine reg [.slice A0_0 x0.l.length c0_0, .bool true] [0, 1, 20] [(0, .pointer (some ⟨b0, 0, none⟩)), (1, .slice A1 x1.length c1), (20, .bool true)] [.cell ⟨b0, 0, none⟩ (.slice A0_0 x0.l.length c0_0), .is ((((x1.length : Int) : Int) != (x0.l.length : Int)) = true)] hf22 (by kernel_rfl) ⟨(hm0.cell 0 rfl rfl), (neT c23), trivial⟩ fun a455 hf456 => ?_
    refine thenN ?_
    refine condT hf456 (by kernel_rfl) ?_
    refine wp_seq ?_
    refine reg [] [4] [(4, .int .i64 1)] [] hf456 (by kernel_rfl) trivial fun a457 hf458 => ?_
    have hm459 := hm0.sel [0, 1, 2, 3] _ rfl (by kernel_rfl)
    refine thenN ?_
    refine wp_ret ?_
    refine thenR ?_
    have hm460 : Mem B0 M w0 [.bx b0 [.slice A0_0 x0.l.length c0_0, .slice A0_1 x0.vers.length c0_1, .slice A0_2 x0.grads.length c0_2] 72, .ow kTensor 29 A0_0 c0_0 x0.l, .ow (Kd.int .i64) 3 A0_1 c0_1 x0.vers, .ow kTensor 29 A0_2 c0_2 x0.grads] w0 := hm459.sel [0, 1, 2, 3] _ rfl (by kernel_rfl)
    obtain rfl := Option.some.inj H0
    refine ret [] [.int .i64 1] [] hf458 (by kernel_rfl) trivial ?_
    exact ⟨_, rfl, A0_2, c0_2, rfl, hm460⟩
  refine reg [.slice A0_0 x0.l.length c0_0, .bool false] [0, 1, 20] [(0, .pointer (some ⟨b0, 0, none⟩)), (1, .slice A1 x1.length c1), (20, .bool false)] [.cell ⟨b0, 0, none⟩ (.slice A0_0 x0.l.length c0_0), .is ((((x1.length : Int) : Int) != (x0.l.length : Int)) = false)] hf22 (by kernel_rfl) ⟨(hm0.cell 0 rfl rfl), (neF c23), trivial⟩ fun a24 hf25 => ?_
  refine thenN ?_
  refine condF hf25 (by kernel_rfl) ?_
  refine wp_skip ?_
  refine thenN ?_
  refine wp_seq ?_
  refine wp_seq ?_
  refine reg [] [0, 1, 21, 22, 23] [(0, .pointer (some ⟨b0, 0, none⟩)), (1, .slice A1 x1.length c1), (21, .slice A1 x1.length c1), (22, .int .i64 (x1.length : Int)), (23, .int .i64 0)] [] hf25 (by kernel_rfl) trivial fun a26 hf27 => ?_
  refine thenN ?_
  obtain ⟨r29, hr29, H0⟩ := ob_split H0
  refine wpBlock (Mid := fun (a : Act) (w : World) => ∃ yr29 : Int, r29 = .go yr29 ∧ Fr 72 a [(0, .pointer (some ⟨b0, 0, none⟩)), (1, .slice A1 x1.length c1), (21, .slice A1 x1.length c1), (22, .int .i64 (x1.length : Int)), (23, .int .i64 yr29)] ∧ Mem B0 M w0 [.bx b0 [.slice A0_0 x0.l.length c0_0, .slice A0_1 x0.vers.length c0_1, .slice A0_2 x0.grads.length c0_2] 72, .ow kTensor 29 A0_0 c0_0 x0.l, .ow (Kd.int .i64) 3 A0_1 c0_1 x0.vers, .ow kTensor 29 A0_2 c0_2 x0.grads, .sl kTensor A1 c1 x1] w) ?_ ?_
  · refine wpLoop (shelf_Shelf_Commit.l0 x1 x0) r29 (fun (s28 : Int) (a : Act) (w : World) => Fr 72 a [(0, .pointer (some ⟨b0, 0, none⟩)), (1, .slice A1 x1.length c1), (21, .slice A1 x1.length c1), (22, .int .i64 (x1.length : Int)), (23, .int .i64 s28)] ∧ Mem B0 M w0 [.bx b0 [.slice A0_0 x0.l.length c0_0, .slice A0_1 x0.vers.length c0_1, .slice A0_2 x0.grads.length c0_2] 72, .ow kTensor 29 A0_0 c0_0 x0.l, .ow (Kd.int .i64) 3 A0_1 c0_1 x0.vers, .ow kTensor 29 A0_2 c0_2 x0.grads, .sl kTensor A1 c1 x1] w) 0 hr29 ⟨hf27.sel (l := [0, 1, 21, 22, 23]) (by kernel_rfl), hm0.sel [0, 1, 2, 3, 4] _ rfl (by kernel_rfl)⟩ ?_
    rintro g30 s28 a31 w32 H1 ⟨hf33, hm34⟩
    unfold shelf_Shelf_Commit.l0 at H1
    refine wp_seq ?_
    rcases ifS_split H1 with ⟨c35, H1⟩ | ⟨c35, H1⟩
    rotate_left
    · refine reg [.bool false] [0, 1, 21, 22, 23, 24] [(0, .pointer (some ⟨b0, 0, none⟩)), (1, .slice A1 x1.length c1), (21, .slice A1 x1.length c1), (22, .int .i64 (x1.length : Int)), (23, .int .i64 s28), (24, .bool false)] [.is (decide (s28 < (x1.length : Int)) = false)] hf33 (by kernel_rfl) ⟨(decide_eq_false c35), trivial⟩ fun a273 hf274 => ?_
      refine thenN ?_
      refine wp_seq ?_
      refine condF hf274 (by kernel_rfl) ?_
      refine wp_exit ?_
      refine thenE ?_
      refine thenE ?_
      obtain rfl := Option.some.inj H1
      exact .inl ⟨rfl, s28, rfl, hf274.sel (l := [0, 1, 21, 22, 23]) (by kernel_rfl), hm34.sel [0, 1, 2, 3, 4] _ rfl (by kernel_rfl)⟩
    refine reg [.bool true] [0, 1, 21, 22, 23, 24] [(0, .pointer (some ⟨b0, 0, none⟩)), (1, .slice A1 x1.length c1), (21, .slice A1 x1.length c1), (22, .int .i64 (x1.length : Int)), (23, .int .i64 s28), (24, .bool true)] [.is (decide (s28 < (x1.length : Int)) = true)] hf33 (by kernel_rfl) ⟨(decide_eq_true c35), trivial⟩ fun a36 hf37 => ?_
    refine thenN ?_
    refine wp_seq ?_
    refine condT hf37 (by kernel_rfl) ?_
    refine wp_skip ?_
    refine thenN ?_
    refine wp_seq ?_
    refine wp_block ?_
    refine wp_seq ?_
    obtain ⟨g38, H1⟩ := ifS_guard H1
    have q39 := (hm34.slAt 4 rfl).get s28 g38.1 g38.2
    obtain ⟨us40, hr41, hc42⟩ := q39.2
    obtain ⟨A43, c44, A45, c46, rfl, ⟨pA43, sA43⟩, ⟨pA45, sA45⟩⟩ := kTensor.open hr41
    have hm47 := hm34.elem pA43 sA43
    have hm48 := hm47.elem pA45 sA45
    refine inReg ?_
    refine go 3 [.agg #[.slice A43 (((rd x1 s28).Shape).length) c44, .slice A45 (((rd x1 s28).Data).length) c46]] [0, 1, 21, 22, 23, 25, 27] [(0, .pointer (some ⟨b0, 0, none⟩)), (1, .slice A1 x1.length c1), (21, .slice A1 x1.length c1), (22, .int .i64 (x1.length : Int)), (23, .int .i64 s28), (25, .int .i64 s28), (27, .agg #[.slice A43 (((rd x1 s28).Shape).length) c44, .slice A45 (((rd x1 s28).Data).length) c46])] [.is (Option.isSome A1 = true), .is (0 ≤ s28 ∧ s28 < (x1.length : Int)), .cell ((ad A1).add ((s28).toNat * 2)) (.slice A43 (((rd x1 s28).Shape).length) c44), .cell (((ad A1).add ((s28).toNat * 2)).add 1) (.slice A45 (((rd x1 s28).Data).length) c46)] hf37 (by kernel_rfl) ⟨q39.1, g38, (hc42 0 _ rfl), (hc42 1 _ rfl), trivial⟩ fun a49 hf50 => ?_
    refine listOf hf50 rfl (by kernel_rfl) (aNew (cs := [.slice none 0 0, .slice none 0 0]) (T := 29) (d := 6) hf50 (by kernel_rfl) (by kernel_rfl) ?_)
    intro b51 w52 a53 hbb51 hx55 hg56 hf54
    have hm57 := hm48.box hbb51 hx55 hg56
    refine go 1 [] [0, 1, 5, 6, 21, 22, 23, 27] [(0, .pointer (some ⟨b0, 0, none⟩)), (1, .slice A1 x1.length c1), (5, .int .i64 s28), (6, .pointer (some ⟨b51, 0, none⟩)), (21, .slice A1 x1.length c1), (22, .int .i64 (x1.length : Int)), (23, .int .i64 s28), (27, .agg #[.slice A43 (((rd x1 s28).Shape).length) c44, .slice A45 (((rd x1 s28).Data).length) c46])] [] hf54 (by kernel_rfl) trivial fun a58 hf59 => ?_
    refine listOf hf59 rfl (by kernel_rfl) (aStoreB (b := b51) (j := 0) (T := 29) (cs := [.slice none 0 0, .slice none 0 0]) (us := [.slice A43 (((rd x1 s28).Shape).length) c44, .slice A45 (((rd x1 s28).Data).length) c46]) (cs' := [.slice A43 (((rd x1 s28).Shape).length) c44, .slice A45 (((rd x1 s28).Data).length) c46]) hf59 (by kernel_rfl) (hm57.bxAt 0 rfl) (by kernel_rfl) (by kernel_rfl) (by kernel_rfl) ?_)
    intro w60 hx61 hg62
    have hm63 := hm57.setBox 0 _ rfl rfl hx61 hg62
    refine endL rfl ?_
    refine thenN ?_
    refine wp_seq ?_
    obtain ⟨r65, hr65, H1⟩ := obS_split H1
    rcases ifbS_split H1 with ⟨c66, H1⟩ | ⟨c66, H1⟩
    rotate_left
    · refine midReg (fun (a : Act) (w : World) => Fr 72 a [(0, .pointer (some ⟨b0, 0, none⟩)), (1, .slice A1 x1.length c1), (21, .slice A1 x1.length c1), (22, .int .i64 (x1.length : Int)), (23, .int .i64 s28), (44, .bool true)] ∧ Mem B0 M w0 [.bx b0 [.slice A0_0 x0.l.length c0_0, .slice A0_1 x0.vers.length c0_1, .slice A0_2 x0.grads.length c0_2] 72, .ow kTensor 29 A0_0 c0_0 x0.l, .ow (Kd.int .i64) 3 A0_1 c0_1 x0.vers, .ow kTensor 29 A0_2 c0_2 x0.grads, .sl kTensor A1 c1 x1] w) ?_ ?_
      · refine anyG (K := []) [] (by kernel_rfl) fun w243 hg244 => ?_
        have hm245 := hm63.still hg244
        refine quiet0 [0] [.agg #[.slice A43 (((rd x1 s28).Shape).length) c44, .slice A45 (((rd x1 s28).Data).length) c46]] [0, 1, 5, 6, 21, 22, 23, 28] #[true, false, false, false, false, false, false, false, false, false, false, false, false, false, false, false, false] [(0, .pointer (some ⟨b0, 0, none⟩)), (1, .slice A1 x1.length c1), (5, .int .i64 s28), (6, .pointer (some ⟨b51, 0, none⟩)), (21, .slice A1 x1.length c1), (22, .int .i64 (x1.length : Int)), (23, .int .i64 s28), (28, .agg #[.slice A43 (((rd x1 s28).Shape).length) c44, .slice A45 (((rd x1 s28).Data).length) c46])] [.cell ⟨b51, 0, none⟩ (.slice A43 (((rd x1 s28).Shape).length) c44), .cell ⟨b51, 1, none⟩ (.slice A45 (((rd x1 s28).Data).length) c46)] 16 rfl (by kernel_rfl) (fun _ _ _ _ _ h => nomatch h.1) hf59 (by kernel_rfl) ⟨(hm245.cell 0 rfl rfl), (hm245.cell 0 rfl rfl), trivial⟩ fun a255 hf256 => ?_
        refine all1 1 (by kernel_rfl) ?_
        refine opOf hf256 rfl (by kernel_rfl) (aCall (fid := 32) (args := [.agg #[.slice A43 (((rd x1 s28).Shape).length) c44, .slice A45 (((rd x1 s28).Data).length) c46]]) (d := 29) hf256 (by kernel_rfl) (by kernel_rfl) callable32 (tensor_May.calls _ _ (⟨((rd x1 s28).Shape), ((rd x1 s28).Data)⟩ : Tensor) A43 (((rd x1 s28).Shape).length) c44 rfl A45 (((rd x1 s28).Data).length) c46 rfl (hm245.give [2, 1] [.sl (Kd.int .i64) A43 c44 ((rd x1 s28).Shape), .sl Kd.float A45 c46 ((rd x1 s28).Data)] rfl rfl) r65 hr65) ?_)
        rintro _ w257 a258 ⟨rfl, hk260⟩ hf259
        refine ⟨.inr (Gr.still hk260.cum.none), ?_⟩
        have hm261 := hm245.still hk260.cum.none
        rw [c66] at hf259
        refine quiet0 [2, 3, 4, 5, 6, 7, 8, 9, 10, 11, 12, 13, 14, 15, 16] [] [0, 1, 21, 22, 23, 44] #[true, true, true, true, true, true, true, true, true, true, true, true, true, true, true, true, true] [(0, .pointer (some ⟨b0, 0, none⟩)), (1, .slice A1 x1.length c1), (21, .slice A1 x1.length c1), (22, .int .i64 (x1.length : Int)), (23, .int .i64 s28), (44, .bool true)] [] 0 rfl (by kernel_rfl) (fun _ _ _ _ _ h => nomatch h.1) hf259 (by kernel_rfl) trivial fun a262 hf263 => ?_
        refine allDone (by kernel_rfl) ⟨rfl, hf263.sel (l := [0, 1, 21, 22, 23, 44]) (by kernel_rfl), hm261.sel [3, 4, 5, 6, 7] _ rfl (by kernel_rfl)⟩
      rintro a264 w265 ⟨hf266, hm267⟩
      refine thenN ?_
      refine condT hf266 (by kernel_rfl) ?_
      refine wp_seq ?_
      refine reg [] [4] [(4, .int .i64 2)] [] hf266 (by kernel_rfl) trivial fun a268 hf269 => ?_
      have hm270 := hm267.sel [0, 1, 2, 3] _ rfl (by kernel_rfl)
      refine thenN ?_
      refine wp_ret ?_
      refine blkR ?_
      refine thenR ?_
      refine thenR ?_
      refine .inr ⟨rfl, ?_⟩
      refine thenR ?_
      have hm271 : Mem B0 M w0 [.bx b0 [.slice A0_0 x0.l.length c0_0, .slice A0_1 x0.vers.length c0_1, .slice A0_2 x0.grads.length c0_2] 72, .ow kTensor 29 A0_0 c0_0 x0.l, .ow (Kd.int .i64) 3 A0_1 c0_1 x0.vers, .ow kTensor 29 A0_2 c0_2 x0.grads] w265 := hm270.sel [0, 1, 2, 3] _ rfl (by kernel_rfl)
      obtain rfl := Option.some.inj H1
      obtain rfl := Option.some.inj H0
      refine ret [] [.int .i64 2] [] hf269 (by kernel_rfl) trivial ?_
      exact ⟨_, rfl, A0_2, c0_2, rfl, hm271⟩
    obtain ⟨g67, H1⟩ := ifS_guard H1
    obtain ⟨r68, hr68, H1⟩ := obS_split H1
    rcases ifbS_split H1 with ⟨c69, H1⟩ | ⟨c69, H1⟩
    · refine midReg (fun (a : Act) (w : World) => Fr 72 a [(0, .pointer (some ⟨b0, 0, none⟩)), (1, .slice A1 x1.length c1), (21, .slice A1 x1.length c1), (22, .int .i64 (x1.length : Int)), (23, .int .i64 s28), (44, .bool false)] ∧ Mem B0 M w0 [.bx b0 [.slice A0_0 x0.l.length c0_0, .slice A0_1 x0.vers.length c0_1, .slice A0_2 x0.grads.length c0_2] 72, .ow kTensor 29 A0_0 c0_0 x0.l, .ow (Kd.int .i64) 3 A0_1 c0_1 x0.vers, .ow kTensor 29 A0_2 c0_2 x0.grads, .sl kTensor A1 c1 x1] w) ?_ ?_
      · refine anyG (K := []) [] (by kernel_rfl) fun w91 hg92 => ?_
        have hm93 := hm63.still hg92
        refine quiet0 [0] [.agg #[.slice A43 (((rd x1 s28).Shape).length) c44, .slice A45 (((rd x1 s28).Data).length) c46]] [0, 1, 5, 6, 21, 22, 23, 28] #[true, false, false, false, false, false, false, false, false, false, false, false, false, false, false, false, false] [(0, .pointer (some ⟨b0, 0, none⟩)), (1, .slice A1 x1.length c1), (5, .int .i64 s28), (6, .pointer (some ⟨b51, 0, none⟩)), (21, .slice A1 x1.length c1), (22, .int .i64 (x1.length : Int)), (23, .int .i64 s28), (28, .agg #[.slice A43 (((rd x1 s28).Shape).length) c44, .slice A45 (((rd x1 s28).Data).length) c46])] [.cell ⟨b51, 0, none⟩ (.slice A43 (((rd x1 s28).Shape).length) c44), .cell ⟨b51, 1, none⟩ (.slice A45 (((rd x1 s28).Data).length) c46)] 16 rfl (by kernel_rfl) (fun _ _ _ _ _ h => nomatch h.1) hf59 (by kernel_rfl) ⟨(hm93.cell 0 rfl rfl), (hm93.cell 0 rfl rfl), trivial⟩ fun a120 hf121 => ?_
        refine all1 1 (by kernel_rfl) ?_
        refine opOf hf121 rfl (by kernel_rfl) (aCall (fid := 32) (args := [.agg #[.slice A43 (((rd x1 s28).Shape).length) c44, .slice A45 (((rd x1 s28).Data).length) c46]]) (d := 29) hf121 (by kernel_rfl) (by kernel_rfl) callable32 (tensor_May.calls _ _ (⟨((rd x1 s28).Shape), ((rd x1 s28).Data)⟩ : Tensor) A43 (((rd x1 s28).Shape).length) c44 rfl A45 (((rd x1 s28).Data).length) c46 rfl (hm93.give [2, 1] [.sl (Kd.int .i64) A43 c44 ((rd x1 s28).Shape), .sl Kd.float A45 c46 ((rd x1 s28).Data)] rfl rfl) r65 hr65) ?_)
        rintro _ w122 a123 ⟨rfl, hk125⟩ hf124
        refine ⟨.inr (Gr.still hk125.cum.none), ?_⟩
        have hm126 := hm93.still hk125.cum.none
        rw [c66] at hf124
        have q127 := (hm126.owAt 4 rfl).cells s28 g67.1 g67.2
        obtain ⟨us128, hr129, hc130⟩ := q127.2
        obtain ⟨A131, c132, A133, c134, rfl, ⟨pA131, sA131⟩, ⟨pA133, sA133⟩⟩ := kTensor.open hr129
        have hm135 := hm126.elem pA131 sA131
        have hm136 := hm135.elem pA133 sA133
        refine quiet0 [2, 3, 4, 5, 6, 7, 8, 9, 10, 11, 12, 13] [.slice A43 (((rd x1 s28).Shape).length) c44, .slice A0_0 x0.l.length c0_0, .slice A131 (((rd x0.l s28).Shape).length) c132] [0, 1, 21, 22, 23, 31, 33, 41] #[true, true, true, true, true, true, true, true, true, true, true, true, true, true, false, false, false] [(0, .pointer (some ⟨b0, 0, none⟩)), (1, .slice A1 x1.length c1), (21, .slice A1 x1.length c1), (22, .int .i64 (x1.length : Int)), (23, .int .i64 s28), (31, .bool false), (33, .slice A43 (((rd x1 s28).Shape).length) c44), (41, .slice A131 (((rd x0.l s28).Shape).length) c132)] [.cell ⟨b51, 0, none⟩ (.slice A43 (((rd x1 s28).Shape).length) c44), .cell ⟨b0, 0, none⟩ (.slice A0_0 x0.l.length c0_0), .is (Option.isSome A0_0 = true), .is (0 ≤ s28 ∧ s28 < (x0.l.length : Int)), .cell ((ad A0_0).add ((s28).toNat * 2)) (.slice A131 (((rd x0.l s28).Shape).length) c132)] 3 rfl (by kernel_rfl) (fun _ _ _ _ _ h => nomatch h.1) hf124 (by kernel_rfl) ⟨(hm126.cell 0 rfl rfl), (hm126.cell 3 rfl rfl), q127.1, g67, (hc130 0 _ rfl), trivial⟩ fun a137 hf138 => ?_
        refine all1 14 (by kernel_rfl) ?_
        refine opOf hf138 rfl (by kernel_rfl) (aCall (fid := 35) (args := [.slice A43 (((rd x1 s28).Shape).length) c44, .slice A131 (((rd x0.l s28).Shape).length) c132]) (d := 42) hf138 (by kernel_rfl) (by kernel_rfl) callable35 (shape_Same.calls _ _ ((rd x1 s28).Shape) A43 (((rd x1 s28).Shape).length) c44 rfl ((rd x0.l s28).Shape) A131 (((rd x0.l s28).Shape).length) c132 rfl (hm136.give [4, 1] [.sl (Kd.int .i64) A43 c44 ((rd x1 s28).Shape), .sl (Kd.int .i64) A131 c132 ((rd x0.l s28).Shape)] rfl rfl) r68 hr68) ?_)
        rintro _ w139 a140 ⟨rfl, hk142⟩ hf141
        refine ⟨.inr (Gr.still hk142.cum.none), ?_⟩
        have hm143 := hm136.still hk142.cum.none
        rw [c69] at hf141
        refine quiet0 [15, 16] [] [0, 1, 21, 22, 23, 44] #[true, true, true, true, true, true, true, true, true, true, true, true, true, true, true, true, true] [(0, .pointer (some ⟨b0, 0, none⟩)), (1, .slice A1 x1.length c1), (21, .slice A1 x1.length c1), (22, .int .i64 (x1.length : Int)), (23, .int .i64 s28), (44, .bool false)] [] 0 rfl (by kernel_rfl) (fun _ _ _ _ _ h => nomatch h.1) hf141 (by kernel_rfl) trivial fun a144 hf145 => ?_
        refine allDone (by kernel_rfl) ⟨rfl, hf145.sel (l := [0, 1, 21, 22, 23, 44]) (by kernel_rfl), hm143.sel [5, 6, 7, 8, 9] _ rfl (by kernel_rfl)⟩
      rintro a146 w147 ⟨hf148, hm149⟩
      refine thenN ?_
      refine condF hf148 (by kernel_rfl) ?_
      refine wp_skip ?_
      refine blkN ?_
      refine thenN ?_
      refine reg [] [0, 1, 21, 22, 23] [(0, .pointer (some ⟨b0, 0, none⟩)), (1, .slice A1 x1.length c1), (21, .slice A1 x1.length c1), (22, .int .i64 (x1.length : Int)), (23, .int .i64 (w64 (s28 + 1)))] [] hf148 (by kernel_rfl) trivial fun a150 hf151 => ?_
      exact ⟨(w64 (s28 + 1)), H1, hf151.sel (l := [0, 1, 21, 22, 23]) (by kernel_rfl), hm149.sel [0, 1, 2, 3, 4] _ rfl (by kernel_rfl)⟩
    refine midReg (fun (a : Act) (w : World) => Fr 72 a [(0, .pointer (some ⟨b0, 0, none⟩)), (1, .slice A1 x1.length c1), (21, .slice A1 x1.length c1), (22, .int .i64 (x1.length : Int)), (23, .int .i64 s28), (44, .bool true)] ∧ Mem B0 M w0 [.bx b0 [.slice A0_0 x0.l.length c0_0, .slice A0_1 x0.vers.length c0_1, .slice A0_2 x0.grads.length c0_2] 72, .ow kTensor 29 A0_0 c0_0 x0.l, .ow (Kd.int .i64) 3 A0_1 c0_1 x0.vers, .ow kTensor 29 A0_2 c0_2 x0.grads, .sl kTensor A1 c1 x1] w) ?_ ?_
    · refine anyG (K := []) [] (by kernel_rfl) fun w173 hg174 => ?_
      have hm175 := hm63.still hg174
      refine quiet0 [0] [.agg #[.slice A43 (((rd x1 s28).Shape).length) c44, .slice A45 (((rd x1 s28).Data).length) c46]] [0, 1, 5, 6, 21, 22, 23, 28] #[true, false, false, false, false, false, false, false, false, false, false, false, false, false, false, false, false] [(0, .pointer (some ⟨b0, 0, none⟩)), (1, .slice A1 x1.length c1), (5, .int .i64 s28), (6, .pointer (some ⟨b51, 0, none⟩)), (21, .slice A1 x1.length c1), (22, .int .i64 (x1.length : Int)), (23, .int .i64 s28), (28, .agg #[.slice A43 (((rd x1 s28).Shape).length) c44, .slice A45 (((rd x1 s28).Data).length) c46])] [.cell ⟨b51, 0, none⟩ (.slice A43 (((rd x1 s28).Shape).length) c44), .cell ⟨b51, 1, none⟩ (.slice A45 (((rd x1 s28).Data).length) c46)] 16 rfl (by kernel_rfl) (fun _ _ _ _ _ h => nomatch h.1) hf59 (by kernel_rfl) ⟨(hm175.cell 0 rfl rfl), (hm175.cell 0 rfl rfl), trivial⟩ fun a202 hf203 => ?_
      refine all1 1 (by kernel_rfl) ?_
      refine opOf hf203 rfl (by kernel_rfl) (aCall (fid := 32) (args := [.agg #[.slice A43 (((rd x1 s28).Shape).length) c44, .slice A45 (((rd x1 s28).Data).length) c46]]) (d := 29) hf203 (by kernel_rfl) (by kernel_rfl) callable32 (tensor_May.calls _ _ (⟨((rd x1 s28).Shape), ((rd x1 s28).Data)⟩ : Tensor) A43 (((rd x1 s28).Shape).length) c44 rfl A45 (((rd x1 s28).Data).length) c46 rfl (hm175.give [2, 1] [.sl (Kd.int .i64) A43 c44 ((rd x1 s28).Shape), .sl Kd.float A45 c46 ((rd x1 s28).Data)] rfl rfl) r65 hr65) ?_)
      rintro _ w204 a205 ⟨rfl, hk207⟩ hf206
      refine ⟨.inr (Gr.still hk207.cum.none), ?_⟩
      have hm208 := hm175.still hk207.cum.none
      rw [c66] at hf206
      have q209 := (hm208.owAt 4 rfl).cells s28 g67.1 g67.2
      obtain ⟨us210, hr211, hc212⟩ := q209.2
      obtain ⟨A213, c214, A215, c216, rfl, ⟨pA213, sA213⟩, ⟨pA215, sA215⟩⟩ := kTensor.open hr211
      have hm217 := hm208.elem pA213 sA213
      have hm218 := hm217.elem pA215 sA215
      refine quiet0 [2, 3, 4, 5, 6, 7, 8, 9, 10, 11, 12, 13] [.slice A43 (((rd x1 s28).Shape).length) c44, .slice A0_0 x0.l.length c0_0, .slice A213 (((rd x0.l s28).Shape).length) c214] [0, 1, 21, 22, 23, 31, 33, 41] #[true, true, true, true, true, true, true, true, true, true, true, true, true, true, false, false, false] [(0, .pointer (some ⟨b0, 0, none⟩)), (1, .slice A1 x1.length c1), (21, .slice A1 x1.length c1), (22, .int .i64 (x1.length : Int)), (23, .int .i64 s28), (31, .bool false), (33, .slice A43 (((rd x1 s28).Shape).length) c44), (41, .slice A213 (((rd x0.l s28).Shape).length) c214)] [.cell ⟨b51, 0, none⟩ (.slice A43 (((rd x1 s28).Shape).length) c44), .cell ⟨b0, 0, none⟩ (.slice A0_0 x0.l.length c0_0), .is (Option.isSome A0_0 = true), .is (0 ≤ s28 ∧ s28 < (x0.l.length : Int)), .cell ((ad A0_0).add ((s28).toNat * 2)) (.slice A213 (((rd x0.l s28).Shape).length) c214)] 3 rfl (by kernel_rfl) (fun _ _ _ _ _ h => nomatch h.1) hf206 (by kernel_rfl) ⟨(hm208.cell 0 rfl rfl), (hm208.cell 3 rfl rfl), q209.1, g67, (hc212 0 _ rfl), trivial⟩ fun a219 hf220 => ?_
      refine all1 14 (by kernel_rfl) ?_
      refine opOf hf220 rfl (by kernel_rfl) (aCall (fid := 35) (args := [.slice A43 (((rd x1 s28).Shape).length) c44, .slice A213 (((rd x0.l s28).Shape).length) c214]) (d := 42) hf220 (by kernel_rfl) (by kernel_rfl) callable35 (shape_Same.calls _ _ ((rd x1 s28).Shape) A43 (((rd x1 s28).Shape).length) c44 rfl ((rd x0.l s28).Shape) A213 (((rd x0.l s28).Shape).length) c214 rfl (hm218.give [4, 1] [.sl (Kd.int .i64) A43 c44 ((rd x1 s28).Shape), .sl (Kd.int .i64) A213 c214 ((rd x0.l s28).Shape)] rfl rfl) r68 hr68) ?_)
      rintro _ w221 a222 ⟨rfl, hk224⟩ hf223
      refine ⟨.inr (Gr.still hk224.cum.none), ?_⟩
      have hm225 := hm218.still hk224.cum.none
      rw [c69] at hf223
      refine quiet0 [15, 16] [] [0, 1, 21, 22, 23, 44] #[true, true, true, true, true, true, true, true, true, true, true, true, true, true, true, true, true] [(0, .pointer (some ⟨b0, 0, none⟩)), (1, .slice A1 x1.length c1), (21, .slice A1 x1.length c1), (22, .int .i64 (x1.length : Int)), (23, .int .i64 s28), (44, .bool true)] [] 0 rfl (by kernel_rfl) (fun _ _ _ _ _ h => nomatch h.1) hf223 (by kernel_rfl) trivial fun a226 hf227 => ?_
      refine allDone (by kernel_rfl) ⟨rfl, hf227.sel (l := [0, 1, 21, 22, 23, 44]) (by kernel_rfl), hm225.sel [5, 6, 7, 8, 9] _ rfl (by kernel_rfl)⟩
    rintro a228 w229 ⟨hf230, hm231⟩
    refine thenN ?_
    refine condT hf230 (by kernel_rfl) ?_
    refine wp_seq ?_
    refine reg [] [4] [(4, .int .i64 2)] [] hf230 (by kernel_rfl) trivial fun a232 hf233 => ?_
    have hm234 := hm231.sel [0, 1, 2, 3] _ rfl (by kernel_rfl)
    refine thenN ?_
    refine wp_ret ?_
    refine blkR ?_
    refine thenR ?_
    refine thenR ?_
    refine .inr ⟨rfl, ?_⟩
    refine thenR ?_
    have hm235 : Mem B0 M w0 [.bx b0 [.slice A0_0 x0.l.length c0_0, .slice A0_1 x0.vers.length c0_1, .slice A0_2 x0.grads.length c0_2] 72, .ow kTensor 29 A0_0 c0_0 x0.l, .ow (Kd.int .i64) 3 A0_1 c0_1 x0.vers, .ow kTensor 29 A0_2 c0_2 x0.grads] w229 := hm234.sel [0, 1, 2, 3] _ rfl (by kernel_rfl)
    obtain rfl := Option.some.inj H1
    obtain rfl := Option.some.inj H0
    refine ret [] [.int .i64 2] [] hf233 (by kernel_rfl) trivial ?_
    exact ⟨_, rfl, A0_2, c0_2, rfl, hm235⟩
  rintro a275 w276 ⟨yr29, rfl, hf277, hm278⟩
  refine thenN ?_
  refine wp_seq ?_
  refine wp_seq ?_
  refine reg [] [0, 46, 47, 48] [(0, .pointer (some ⟨b0, 0, none⟩)), (46, .slice A1 x1.length c1), (47, .int .i64 (x1.length : Int)), (48, .int .i64 0)] [] hf277 (by kernel_rfl) trivial fun a279 hf280 => ?_
  refine thenN ?_
  obtain ⟨r282, hr282, H0⟩ := ob_split H0
  refine wpBlock (Mid := fun (a : Act) (w : World) => Fr 72 a [(0, .pointer (some ⟨b0, 0, none⟩)), (46, .slice A1 x1.length c1), (47, .int .i64 (x1.length : Int)), (48, .int .i64 r282.1)] ∧ Mem B0 M w0 [.bx b0 [.slice A0_0 x0.l.length c0_0, .slice A0_1 x0.vers.length c0_1, .slice A0_2 r282.2.length c0_2] 72, .ow kTensor 29 A0_0 c0_0 x0.l, .ow (Kd.int .i64) 3 A0_1 c0_1 x0.vers, .ow kTensor 29 A0_2 c0_2 r282.2, .sl kTensor A1 c1 x1] w) ?_ ?_
  · refine wpLoop (shelf_Shelf_Commit.l1 x1) r282 (fun (s281 : (Int × (List Tensor))) (a : Act) (w : World) => Fr 72 a [(0, .pointer (some ⟨b0, 0, none⟩)), (46, .slice A1 x1.length c1), (47, .int .i64 (x1.length : Int)), (48, .int .i64 s281.1)] ∧ Mem B0 M w0 [.bx b0 [.slice A0_0 x0.l.length c0_0, .slice A0_1 x0.vers.length c0_1, .slice A0_2 s281.2.length c0_2] 72, .ow kTensor 29 A0_0 c0_0 x0.l, .ow (Kd.int .i64) 3 A0_1 c0_1 x0.vers, .ow kTensor 29 A0_2 c0_2 s281.2, .sl kTensor A1 c1 x1] w) (0, x0.grads) hr282 ⟨hf280.sel (l := [0, 46, 47, 48]) (by kernel_rfl), hm278.sel [0, 1, 2, 3, 4] _ rfl (by kernel_rfl)⟩ ?_
    rintro g283 s281 a284 w285 H1 ⟨hf286, hm287⟩
    unfold shelf_Shelf_Commit.l1 at H1
    refine wp_seq ?_
    rcases ifS_split H1 with ⟨c288, H1⟩ | ⟨c288, H1⟩
    rotate_left
    · refine reg [.bool false] [0, 46, 47, 48, 49] [(0, .pointer (some ⟨b0, 0, none⟩)), (46, .slice A1 x1.length c1), (47, .int .i64 (x1.length : Int)), (48, .int .i64 s281.1), (49, .bool false)] [.is (decide (s281.1 < (x1.length : Int)) = false)] hf286 (by kernel_rfl) ⟨(decide_eq_false c288), trivial⟩ fun a444 hf445 => ?_
      refine thenN ?_
      refine wp_seq ?_
      refine condF hf445 (by kernel_rfl) ?_
      refine wp_exit ?_
      refine thenE ?_
      refine thenE ?_
      obtain rfl := Option.some.inj H1
      exact .inl ⟨rfl, hf445.sel (l := [0, 46, 47, 48]) (by kernel_rfl), hm287.sel [0, 1, 2, 3, 4] _ rfl (by kernel_rfl)⟩
    refine reg [.bool true] [0, 46, 47, 48, 49] [(0, .pointer (some ⟨b0, 0, none⟩)), (46, .slice A1 x1.length c1), (47, .int .i64 (x1.length : Int)), (48, .int .i64 s281.1), (49, .bool true)] [.is (decide (s281.1 < (x1.length : Int)) = true)] hf286 (by kernel_rfl) ⟨(decide_eq_true c288), trivial⟩ fun a289 hf290 => ?_
    refine thenN ?_
    refine wp_seq ?_
    refine condT hf290 (by kernel_rfl) ?_
    refine wp_skip ?_
    refine thenN ?_
    refine wp_seq ?_
    refine wp_block ?_
    refine wp_seq ?_
    obtain ⟨g291, H1⟩ := ifS_guard H1
    have q292 := (hm287.slAt 4 rfl).get s281.1 g291.1 g291.2
    obtain ⟨us293, hr294, hc295⟩ := q292.2
    obtain ⟨A296, c297, A298, c299, rfl, ⟨pA296, sA296⟩, ⟨pA298, sA298⟩⟩ := kTensor.open hr294
    have hm300 := hm287.elem pA296 sA296
    have hm301 := hm300.elem pA298 sA298
    refine inReg ?_
    refine go 3 [.agg #[.slice A296 (((rd x1 s281.1).Shape).length) c297, .slice A298 (((rd x1 s281.1).Data).length) c299]] [0, 46, 47, 48, 50, 52] [(0, .pointer (some ⟨b0, 0, none⟩)), (46, .slice A1 x1.length c1), (47, .int .i64 (x1.length : Int)), (48, .int .i64 s281.1), (50, .int .i64 s281.1), (52, .agg #[.slice A296 (((rd x1 s281.1).Shape).length) c297, .slice A298 (((rd x1 s281.1).Data).length) c299])] [.is (Option.isSome A1 = true), .is (0 ≤ s281.1 ∧ s281.1 < (x1.length : Int)), .cell ((ad A1).add ((s281.1).toNat * 2)) (.slice A296 (((rd x1 s281.1).Shape).length) c297), .cell (((ad A1).add ((s281.1).toNat * 2)).add 1) (.slice A298 (((rd x1 s281.1).Data).length) c299)] hf290 (by kernel_rfl) ⟨q292.1, g291, (hc295 0 _ rfl), (hc295 1 _ rfl), trivial⟩ fun a302 hf303 => ?_
    refine listOf hf303 rfl (by kernel_rfl) (aNew (cs := [.slice none 0 0, .slice none 0 0]) (T := 29) (d := 8) hf303 (by kernel_rfl) (by kernel_rfl) ?_)
    intro b304 w305 a306 hbb304 hx308 hg309 hf307
    have hm310 := hm301.box hbb304 hx308 hg309
    refine go 1 [] [0, 7, 8, 46, 47, 48, 52] [(0, .pointer (some ⟨b0, 0, none⟩)), (7, .int .i64 s281.1), (8, .pointer (some ⟨b304, 0, none⟩)), (46, .slice A1 x1.length c1), (47, .int .i64 (x1.length : Int)), (48, .int .i64 s281.1), (52, .agg #[.slice A296 (((rd x1 s281.1).Shape).length) c297, .slice A298 (((rd x1 s281.1).Data).length) c299])] [] hf307 (by kernel_rfl) trivial fun a311 hf312 => ?_
    refine listOf hf312 rfl (by kernel_rfl) (aStoreB (b := b304) (j := 0) (T := 29) (cs := [.slice none 0 0, .slice none 0 0]) (us := [.slice A296 (((rd x1 s281.1).Shape).length) c297, .slice A298 (((rd x1 s281.1).Data).length) c299]) (cs' := [.slice A296 (((rd x1 s281.1).Shape).length) c297, .slice A298 (((rd x1 s281.1).Data).length) c299]) hf312 (by kernel_rfl) (hm310.bxAt 0 rfl) (by kernel_rfl) (by kernel_rfl) (by kernel_rfl) ?_)
    intro w313 hx314 hg315
    have hm316 := hm310.setBox 0 _ rfl rfl hx314 hg315
    refine endL rfl ?_
    refine thenN ?_
    obtain ⟨g317, H1⟩ := ifS_guard H1
    obtain ⟨r318, hr318, H1⟩ := obS_split H1
    refine midReg (fun (a : Act) (w : World) => Fr 72 a [(0, .pointer (some ⟨b0, 0, none⟩)), (46, .slice A1 x1.length c1), (47, .int .i64 (x1.length : Int)), (48, .int .i64 s281.1)] ∧ Mem B0 M w0 [.bx b0 [.slice A0_0 x0.l.length c0_0, .slice A0_1 x0.vers.length c0_1, .slice A0_2 s281.2.length c0_2] 72, .ow kTensor 29 A0_0 c0_0 x0.l, .ow (Kd.int .i64) 3 A0_1 c0_1 x0.vers, .ow kTensor 29 A0_2 c0_2 (put s281.2 s281.1 r318.1), .sl kTensor A1 c1 x1] w) ?_ ?_
    · refine anyG (K := []) [18] (by kernel_rfl) fun w355 hg356 => ?_
      have hm357 := hm316.still hg356
      have q397 := (hm357.owAt 6 rfl).cells s281.1 g317.1 g317.2
      obtain ⟨us398, hr399, hc400⟩ := q397.2
      obtain ⟨A401, c402, A403, c404, rfl, ⟨pA401, sA401⟩, ⟨pA403, sA403⟩⟩ := kTensor.open hr399
      have hm405 := hm357.elem pA401 sA401
      have hm406 := hm405.elem pA403 sA403
      refine quiet0 [0, 1, 2, 3, 4, 5, 6, 7, 8, 9, 10, 11, 12] [.slice A0_2 s281.2.length c0_2, .slice A0_2 s281.2.length c0_2, .agg #[.slice A401 (((rd s281.2 s281.1).Shape).length) c402, .slice A403 (((rd s281.2 s281.1).Data).length) c404], .agg #[.slice A296 (((rd x1 s281.1).Shape).length) c297, .slice A298 (((rd x1 s281.1).Data).length) c299]] [0, 46, 47, 48, 57, 58, 65, 66] #[true, true, true, true, true, true, true, true, true, true, true, true, true, false, false, false, false, false, false] [(0, .pointer (some ⟨b0, 0, none⟩)), (46, .slice A1 x1.length c1), (47, .int .i64 (x1.length : Int)), (48, .int .i64 s281.1), (57, .slice A0_2 s281.2.length c0_2), (58, .int .i64 s281.1), (65, .agg #[.slice A401 (((rd s281.2 s281.1).Shape).length) c402, .slice A403 (((rd s281.2 s281.1).Data).length) c404]), (66, .agg #[.slice A296 (((rd x1 s281.1).Shape).length) c297, .slice A298 (((rd x1 s281.1).Data).length) c299])] [.cell ⟨b0, 2, none⟩ (.slice A0_2 s281.2.length c0_2), .cell ⟨b0, 2, none⟩ (.slice A0_2 s281.2.length c0_2), .is (Option.isSome A0_2 = true), .is (0 ≤ s281.1 ∧ s281.1 < (s281.2.length : Int)), .cell ((ad A0_2).add ((s281.1).toNat * 2)) (.slice A401 (((rd s281.2 s281.1).Shape).length) c402), .cell (((ad A0_2).add ((s281.1).toNat * 2)).add 1) (.slice A403 (((rd s281.2 s281.1).Data).length) c404), .cell ⟨b304, 0, none⟩ (.slice A296 (((rd x1 s281.1).Shape).length) c297), .cell ⟨b304, 1, none⟩ (.slice A298 (((rd x1 s281.1).Data).length) c299)] 6 rfl (by kernel_rfl) (fun _ _ _ _ _ h => nomatch h.1) hf312 (by kernel_rfl) ⟨(hm357.cell 3 rfl rfl), (hm357.cell 3 rfl rfl), q397.1, g317, (hc400 0 _ rfl), (hc400 1 _ rfl), (hm406.cell 2 rfl rfl), (hm406.cell 2 rfl rfl), trivial⟩ fun a407 hf408 => ?_
      refine all1 13 (by kernel_rfl) ?_
      refine opOf hf408 rfl (by kernel_rfl) (aCall (fid := 36) (args := [.int .i64 4, .agg #[.slice A401 (((rd s281.2 s281.1).Shape).length) c402, .slice A403 (((rd s281.2 s281.1).Data).length) c404], .agg #[.slice A296 (((rd x1 s281.1).Shape).length) c297, .slice A298 (((rd x1 s281.1).Data).length) c299]]) (d := 67) hf408 (by kernel_rfl) (by kernel_rfl) callable36 (kernel_Two.calls _ _ 4 (⟨((rd s281.2 s281.1).Shape), ((rd s281.2 s281.1).Data)⟩ : Tensor) A401 (((rd s281.2 s281.1).Shape).length) c402 rfl A403 (((rd s281.2 s281.1).Data).length) c404 rfl (⟨((rd x1 s281.1).Shape), ((rd x1 s281.1).Data)⟩ : Tensor) A296 (((rd x1 s281.1).Shape).length) c297 rfl A298 (((rd x1 s281.1).Data).length) c299 rfl (hm406.give [1, 0, 4, 3] [.sl (Kd.int .i64) A401 c402 ((rd s281.2 s281.1).Shape), .sl Kd.float A403 c404 ((rd s281.2 s281.1).Data), .sl (Kd.int .i64) A296 c297 ((rd x1 s281.1).Shape), .sl Kd.float A298 c299 ((rd x1 s281.1).Data)] rfl rfl) r318 hr318) ?_)
      rintro _ w413 a414 ⟨A409, c410, A411, c412, rfl, hk416⟩ hf415
      refine ⟨.inr (Gr.still hk416.cum.none), ?_⟩
      have hm417 := hm406.back hk416
      have hm418 := hm417.seal 0 _ rfl rfl
      have hm419 := hm418.seal 1 _ rfl rfl
      have q420 := (hm419.owAt 10 rfl).cells s281.1 g317.1 g317.2
      obtain ⟨us421, hr422, hc423⟩ := q420.2
      obtain ⟨A424, c425, A426, c427, rfl, ⟨pA424, sA424⟩, ⟨pA426, sA426⟩⟩ := kTensor.open hr422
      have hm428 := hm419.elem pA424 sA424
      have hm429 := hm428.elem pA426 sA426
      refine quiet0 [14, 15, 16, 17] [] [0, 46, 47, 48, 68, 70] #[true, true, true, true, true, true, true, true, true, true, true, true, true, true, true, true, true, true, false] [(0, .pointer (some ⟨b0, 0, none⟩)), (46, .slice A1 x1.length c1), (47, .int .i64 (x1.length : Int)), (48, .int .i64 s281.1), (68, .agg #[.slice A409 r318.1.Shape.length c410, .slice A411 r318.1.Data.length c412]), (70, .pointer (some ((ad A0_2).add ((s281.1).toNat * 2))))] [.is (Option.isSome A0_2 = true), .is (0 ≤ s281.1 ∧ s281.1 < (s281.2.length : Int))] 1 rfl (by kernel_rfl) (fun _ _ _ _ _ h => nomatch h.1) hf415 (by kernel_rfl) ⟨q420.1, g317, trivial⟩ fun a430 hf431 => ?_
      refine all1 18 (by kernel_rfl) ?_
      refine opOf hf431 rfl (by kernel_rfl) (aStoreO (kd := kTensor) (base := 0) (E := 29) (A := A0_2) (c := c0_2) (xs := s281.2) (i := s281.1) (x := r318.1) (us := [.slice A409 r318.1.Shape.length c410, .slice A411 r318.1.Data.length c412]) (sz := 2) hf431 (by kernel_rfl) rfl (by kernel_rfl) (hm429.at 12 rfl) (kTensor.mk r318.1 ⟨hm429.cpAt 2 rfl, (hm429.at2 12 2 rfl rfl).2⟩ ⟨hm429.cpAt 3 rfl, (hm429.at2 12 3 rfl rfl).2⟩) g317.1 g317.2 ?_)
      intro w432 hx433 hg434
      refine ⟨.inl (by decide), ?_⟩
      have hm435 := hm429.setOwn 12 _ rfl rfl hx433 hg434 (.inl rfl)
      refine allDone (by kernel_rfl) ⟨rfl, hf431.sel (l := [0, 46, 47, 48]) (by kernel_rfl), hm435.sel [9, 10, 11, 12, 13] _ rfl (by kernel_rfl)⟩
    rintro a436 w437 ⟨hf438, hm439⟩
    refine blkN ?_
    refine thenN ?_
    refine reg [] [0, 46, 47, 48] [(0, .pointer (some ⟨b0, 0, none⟩)), (46, .slice A1 x1.length c1), (47, .int .i64 (x1.length : Int)), (48, .int .i64 (w64 (s281.1 + 1)))] [] hf438 (by kernel_rfl) trivial fun a440 hf441 => ?_
    have hf442 : Fr 72 a440 [(0, .pointer (some ⟨b0, 0, none⟩)), (46, .slice A1 x1.length c1), (47, .int .i64 (x1.length : Int)), (48, .int .i64 (w64 (s281.1 + 1)))] := hf441.sel (l := [0, 46, 47, 48]) (by kernel_rfl)
    have hm443 : Mem B0 M w0 [.bx b0 [.slice A0_0 x0.l.length c0_0, .slice A0_1 x0.vers.length c0_1, .slice A0_2 s281.2.length c0_2] 72, .ow kTensor 29 A0_0 c0_0 x0.l, .ow (Kd.int .i64) 3 A0_1 c0_1 x0.vers, .ow kTensor 29 A0_2 c0_2 (put s281.2 s281.1 r318.1), .sl kTensor A1 c1 x1] w437 := hm439.sel [0, 1, 2, 3, 4] _ rfl (by kernel_rfl)
    exact ⟨((w64 (s281.1 + 1)), (put s281.2 s281.1 r318.1)), H1, (by simpa only [put_length, List.length_nil] using hf442), (by simpa only [put_length, List.length_nil] using hm443)⟩
  rintro a446 w447 ⟨hf448, hm449⟩
  refine thenN ?_
  refine wp_seq ?_
  refine reg [] [4] [(4, .int .i64 0)] [] hf448 (by kernel_rfl) trivial fun a450 hf451 => ?_
  have hm452 := hm449.sel [0, 1, 2, 3] _ rfl (by kernel_rfl)
  refine thenN ?_
  refine wp_ret ?_
  have hm453 : Mem B0 M w0 [.bx b0 [.slice A0_0 x0.l.length c0_0, .slice A0_1 x0.vers.length c0_1, .slice A0_2 r282.2.length c0_2] 72, .ow kTensor 29 A0_0 c0_0 x0.l, .ow (Kd.int .i64) 3 A0_1 c0_1 x0.vers, .ow kTensor 29 A0_2 c0_2 r282.2] w447 := hm452.sel [0, 1, 2, 3] _ rfl (by kernel_rfl)
  obtain rfl := Option.some.inj H0
  refine ret [] [.int .i64 0] [] hf451 (by kernel_rfl) trivial ?_
  exact ⟨_, rfl, A0_2, c0_2, rfl, hm453⟩

/-! ### (*backstitch/shelf.Shelf).there -/
noncomputable def shelf_Shelf_there.f (x0 : Shelf) (x1 : Int) : Option Int :=
  if x1 < 0 then (some 7)
  else (if (x0.l.length : Int) ≤ x1 then (some 7)
  else (some 0))
set_option maxRecDepth 100000 in
set_option maxHeartbeats 4000000 in
theorem shelf_Shelf_there.calls (B0 : List (Option Nat)) (M : List (Option Nat)) (w0 : World) (x0 : Shelf) (b0 : Nat) (A0_0 : Option Addr) (n0_0 c0_0 : Nat) (e0_0 : n0_0 = x0.l.length) (A0_1 : Option Addr) (n0_1 c0_1 : Nat) (e0_1 : n0_1 = x0.vers.length) (A0_2 : Option Addr) (n0_2 c0_2 : Nat) (e0_2 : n0_2 = x0.grads.length) (x1 : Int) (hm0 : Mem B0 M w0 [.bx b0 [.slice A0_0 n0_0 c0_0, .slice A0_1 n0_1 c0_1, .slice A0_2 n0_2 c0_2] 72, .ow kTensor 29 A0_0 c0_0 x0.l, .ow (Kd.int .i64) 3 A0_1 c0_1 x0.vers, .ow kTensor 29 A0_2 c0_2 x0.grads] w0) (r : Int) (H0 : shelf_Shelf_there.f x0 x1 = some r) :
    Calls Try.prog 37 [.pointer (some ⟨b0, 0, none⟩), .int .i64 x1].toArray w0 (fun x w' => ∃ v, x = .returned v ∧ v = .int .i64 r ∧ Mem B0 M w0 [.bx b0 [.slice A0_0 x0.l.length c0_0, .slice A0_1 x0.vers.length c0_1, .slice A0_2 x0.grads.length c0_2] 72, .ow kTensor 29 A0_0 c0_0 x0.l, .ow (Kd.int .i64) 3 A0_1 c0_1 x0.vers, .ow kTensor 29 A0_2 c0_2 x0.grads] w') := by
  subst e0_0
  subst e0_1
  subst e0_2
  unfold shelf_Shelf_there.f at H0
  refine enter (n := 20) Try.func37 rfl rfl (by kernel_rfl) fun a0 (hf0 : Fr 20 a0 [(0, .pointer (some ⟨b0, 0, none⟩)), (1, .int .i64 x1)]) => ?_
  refine wp_seq ?_
  refine reg [] [0, 1] [(0, .pointer (some ⟨b0, 0, none⟩)), (1, .int .i64 x1)] [] hf0 (by kernel_rfl) trivial fun a21 hf22 => ?_
  refine thenN ?_
  refine wp_seq ?_
  refine wp_block ?_
  refine wp_seq ?_
  refine reg [] [0, 1, 5] [(0, .pointer (some ⟨b0, 0, none⟩)), (1, .int .i64 x1), (5, .bool false)] [] hf22 (by kernel_rfl) trivial fun a23 hf24 => ?_
  refine thenN ?_
  refine condF hf24 (by kernel_rfl) ?_
  refine wp_seq ?_
  rcases if_split H0 with ⟨c25, H0⟩ | ⟨c25, H0⟩
  · refine reg [.bool true] [8] [(8, .bool true)] [.is (decide (x1 < 0) = true)] hf24 (by kernel_rfl) ⟨(decide_eq_true c25), trivial⟩ fun a26 hf27 => ?_
    refine thenN ?_
    refine condT hf27 (by kernel_rfl) ?_
    refine wp_seq ?_
    refine reg [] [4] [(4, .int .i64 7)] [] hf27 (by kernel_rfl) trivial fun a28 hf29 => ?_
    refine thenN ?_
    refine wp_ret ?_
    refine blkR ?_
    refine thenR ?_
    have hm30 : Mem B0 M w0 [.bx b0 [.slice A0_0 x0.l.length c0_0, .slice A0_1 x0.vers.length c0_1, .slice A0_2 x0.grads.length c0_2] 72, .ow kTensor 29 A0_0 c0_0 x0.l, .ow (Kd.int .i64) 3 A0_1 c0_1 x0.vers, .ow kTensor 29 A0_2 c0_2 x0.grads] w0 := hm0.sel [0, 1, 2, 3] _ rfl (by kernel_rfl)
    obtain rfl := Option.some.inj H0
    refine ret [] [.int .i64 7] [] hf29 (by kernel_rfl) trivial ?_
    exact ⟨_, rfl, rfl, hm30⟩
  rcases if_split H0 with ⟨c32, H0⟩ | ⟨c32, H0⟩
  · refine reg [.bool false, .slice A0_0 x0.l.length c0_0, .bool true] [8] [(8, .bool true)] [.is (decide (x1 < 0) = false), .cell ⟨b0, 0, none⟩ (.slice A0_0 x0.l.length c0_0), .is (decide ((x0.l.length : Int) ≤ x1) = true)] hf24 (by kernel_rfl) ⟨(decide_eq_false c25), (hm0.cell 0 rfl rfl), (decide_eq_true c32), trivial⟩ fun a33 hf34 => ?_
    refine thenN ?_
    refine condT hf34 (by kernel_rfl) ?_
    refine wp_seq ?_
    refine reg [] [4] [(4, .int .i64 7)] [] hf34 (by kernel_rfl) trivial fun a35 hf36 => ?_
    refine thenN ?_
    refine wp_ret ?_
    refine blkR ?_
    refine thenR ?_
    have hm37 : Mem B0 M w0 [.bx b0 [.slice A0_0 x0.l.length c0_0, .slice A0_1 x0.vers.length c0_1, .slice A0_2 x0.grads.length c0_2] 72, .ow kTensor 29 A0_0 c0_0 x0.l, .ow (Kd.int .i64) 3 A0_1 c0_1 x0.vers, .ow kTensor 29 A0_2 c0_2 x0.grads] w0 := hm0.sel [0, 1, 2, 3] _ rfl (by kernel_rfl)
    obtain rfl := Option.some.inj H0
    refine ret [] [.int .i64 7] [] hf36 (by kernel_rfl) trivial ?_
    exact ⟨_, rfl, rfl, hm37⟩
  refine reg [.bool false, .slice A0_0 x0.l.length c0_0, .bool false] [8] [(8, .bool false)] [.is (decide (x1 < 0) = false), .cell ⟨b0, 0, none⟩ (.slice A0_0 x0.l.length c0_0), .is (decide ((x0.l.length : Int) ≤ x1) = false)] hf24 (by kernel_rfl) ⟨(decide_eq_false c25), (hm0.cell 0 rfl rfl), (decide_eq_false c32), trivial⟩ fun a39 hf40 => ?_
  refine thenN ?_
  refine condF hf40 (by kernel_rfl) ?_
  refine wp_skip ?_
  refine blkN ?_
  refine thenN ?_
  refine wp_seq ?_
  refine reg [] [4] [(4, .int .i64 0)] [] hf40 (by kernel_rfl) trivial fun a41 hf42 => ?_
  refine thenN ?_
  refine wp_ret ?_
  have hm43 : Mem B0 M w0 [.bx b0 [.slice A0_0 x0.l.length c0_0, .slice A0_1 x0.vers.length c0_1, .slice A0_2 x0.grads.length c0_2] 72, .ow kTensor 29 A0_0 c0_0 x0.l, .ow (Kd.int .i64) 3 A0_1 c0_1 x0.vers, .ow kTensor 29 A0_2 c0_2 x0.grads] w0 := hm0.sel [0, 1, 2, 3] _ rfl (by kernel_rfl)
  obtain rfl := Option.some.inj H0
  refine ret [] [.int .i64 0] [] hf42 (by kernel_rfl) trivial ?_
  exact ⟨_, rfl, rfl, hm43⟩
end Go.Proofs.Yteaoijahdinciaa
