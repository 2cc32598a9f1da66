/- Printed by gen.py. -/
import Derived.Test.YteaoijahdinciaaF0
import Derived.Test.YteaoijahdinciaaF3
import Derived.Test.YteaoijahdinciaaF6
namespace Go.Proofs.Yteaoijahdinciaa
open Go Go.RowKit
set_option linter.unusedSimpArgs false
set_option linter.unusedVariables false
set_option linter.unnecessarySimpa false
/-! ### (*backstitch/shelf.Shelf).Commit -/
noncomputable def shelf_Shelf_Commit.l0 (x1 : (List Tensor)) (x0 : Shelf) (s28 : Int) : Step Int (Out2 Int ((List Tensor) × Int)) :=
  if s28 < (x1.length : Int) then (if 0 ≤ s28 ∧ s28 < (x1.length : Int) then (bindS (tensor_May.f (⟨(rd x1 s28).Shape, (rd x1 s28).Data⟩ : Tensor)) fun r65 =>
  if r65 = true then (if 0 ≤ s28 ∧ s28 < (x0.l.length : Int) then (bindS (shape_Same.f (rd x1 s28).Shape (rd x0.l s28).Shape) fun r68 =>
  if r68 = true then (.next (w64 (s28 + 1)))
  else (.done (.ret (x0.grads, 2))))
  else .bad)
  else (.done (.ret (x0.grads, 2))))
  else .bad)
  else (.done (.go s28))
noncomputable def shelf_Shelf_Commit.l1 (x1 : (List Tensor)) (s281 : (Int × (List Tensor))) : Step (Int × (List Tensor)) (Int × (List Tensor)) :=
  if s281.1 < (x1.length : Int) then (if 0 ≤ s281.1 ∧ s281.1 < (x1.length : Int) then (if 0 ≤ s281.1 ∧ s281.1 < (s281.2.length : Int) then (bindS (kernel_Two.f 4 (⟨(rd s281.2 s281.1).Shape, (rd s281.2 s281.1).Data⟩ : Tensor) (⟨(rd x1 s281.1).Shape, (rd x1 s281.1).Data⟩ : Tensor)) fun r318 =>
  .next ((w64 (s281.1 + 1)), (put s281.2 s281.1 r318.1)))
  else .bad)
  else .bad)
  else (.done (s281.1, s281.2))
noncomputable def shelf_Shelf_Commit.f (x0 : Shelf) (x1 : (List Tensor)) : Option ((List Tensor) × Int) :=
  if (x1.length : Int) = (x0.l.length : Int) then ((loop (shelf_Shelf_Commit.l0 x1 x0) 0).bind fun r29 =>
  r29.on (fun yr29 =>
  (loop (shelf_Shelf_Commit.l1 x1) (0, x0.grads)).bind fun r282 =>
  some (r282.2, 0)) (fun y => some y))
  else (some (x0.grads, 1))
set_option maxRecDepth 100000 in
set_option maxHeartbeats 4000000 in
theorem shelf_Shelf_Commit.calls (B0 : List (Option Nat)) (M : List (Option Nat)) (w0 : World) (x0 : Shelf) (b0 : Nat) (A0_0 : Option Addr) (n0_0 c0_0 : Nat) (e0_0 : n0_0 = x0.l.length) (A0_1 : Option Addr) (n0_1 c0_1 : Nat) (e0_1 : n0_1 = x0.vers.length) (A0_2 : Option Addr) (n0_2 c0_2 : Nat) (e0_2 : n0_2 = x0.grads.length) (x1 : (List Tensor)) (A1 : Option Addr) (n1 c1 : Nat) (e1 : n1 = x1.length) (hm0 : Mem B0 M w0 [.bx b0 [.slice A0_0 n0_0 c0_0, .slice A0_1 n0_1 c0_1, .slice A0_2 n0_2 c0_2] 72, .ow kTensor 29 A0_0 c0_0 x0.l, .ow (Kd.int .i64) 3 A0_1 c0_1 x0.vers, .ow kTensor 29 A0_2 c0_2 x0.grads, .sl kTensor A1 c1 x1] w0) (r : ((List Tensor) × Int)) (H0 : shelf_Shelf_Commit.f x0 x1 = some r) :
    Calls Try.prog 11 [.pointer (some ⟨b0, 0, none⟩), .slice A1 n1 c1].toArray w0 (fun x w' => ∃ v, x = .returned v ∧ ∃ Ap0_2 cp0_2, v = .int .i64 r.2 ∧ Mem B0 M w0 [.bx b0 [.slice A0_0 x0.l.length c0_0, .slice A0_1 x0.vers.length c0_1, .slice Ap0_2 r.1.length cp0_2] 72, .ow kTensor 29 A0_0 c0_0 x0.l, .ow (Kd.int .i64) 3 A0_1 c0_1 x0.vers, .ow kTensor 29 Ap0_2 cp0_2 r.1] w') := by
  subst e0_0
  subst e0_1
  subst e0_2
  subst e1
  unfold shelf_Shelf_Commit.f at H0
  refine enter (n := 72) Try.func11 rfl rfl (by kernel_rfl) fun a0 (hf0 : Fr 72 a0 [(0, .pointer (some ⟨b0, 0, none⟩)), (1, .slice A1 x1.length c1)]) => ?_
  refine wp_seq ?_
  refine rg [] [(0, vp b0), (1, .slice A1 x1.length c1)] hf0 ot fun a21 hf22 => ?_
  refine thenN ?_
  refine wp_seq ?_
  refine wp_seq ?_
  rcases if_split H0 with ⟨c23, H0⟩ | ⟨c23, H0⟩
  rotate_left
  · refine rg [.slice A0_0 x0.l.length c0_0, .bool true] [(0, vp b0), (1, .slice A1 x1.length c1), (20, .bool true)] hf22 (oc (hm0.cell (j := 0) 0 rfl rfl) (oi (neT c23) ot)) fun a455 hf456 => ?_
    refine thenN ?_
    refine cT hf456 ?_
    refine wp_seq ?_
    refine rg [] [(4, vi 1)] hf456 ot fun a457 hf458 => ?_
    have hm459 := hm0.se [0, 1, 2, 3] _ rfl
    refine thenN ?_
    refine wp_ret ?_
    refine thenR ?_
    have hm460 : Mem B0 M w0 [.bx b0 [.slice A0_0 x0.l.length c0_0, .slice A0_1 x0.vers.length c0_1, .slice A0_2 x0.grads.length c0_2] 72, .ow kTensor 29 A0_0 c0_0 x0.l, .ow (Kd.int .i64) 3 A0_1 c0_1 x0.vers, .ow kTensor 29 A0_2 c0_2 x0.grads] w0 := hm459.se [0, 1, 2, 3] _ rfl
    obtain rfl := Option.some.inj H0
    refine rt [] [.int .i64 1] hf458 ot ?_
    exact ⟨_, rfl, A0_2, c0_2, rfl, hm460⟩
  refine rg [.slice A0_0 x0.l.length c0_0, .bool false] [(0, vp b0), (1, .slice A1 x1.length c1), (20, .bool false)] hf22 (oc (hm0.cell (j := 0) 0 rfl rfl) (oi (neF c23) ot)) fun a24 hf25 => ?_
  refine thenN ?_
  refine cF hf25 ?_
  refine wp_skip ?_
  refine thenN ?_
  refine wp_seq ?_
  refine wp_seq ?_
  refine rg [] [(0, vp b0), (1, .slice A1 x1.length c1), (21, .slice A1 x1.length c1), (22, vi (x1.length : Int)), (23, vi 0)] hf25 ot fun a26 hf27 => ?_
  refine thenN ?_
  obtain ⟨r29, hr29, H0⟩ := ob_split H0
  refine wpBlock (Mid := fun (a : Act) (w : World) => ∃ yr29 : Int, r29 = .go yr29 ∧ Fr 72 a [(0, .pointer (some ⟨b0, 0, none⟩)), (1, .slice A1 x1.length c1), (21, .slice A1 x1.length c1), (22, .int .i64 (x1.length : Int)), (23, .int .i64 yr29)] ∧ Mem B0 M w0 [.bx b0 [.slice A0_0 x0.l.length c0_0, .slice A0_1 x0.vers.length c0_1, .slice A0_2 x0.grads.length c0_2] 72, .ow kTensor 29 A0_0 c0_0 x0.l, .ow (Kd.int .i64) 3 A0_1 c0_1 x0.vers, .ow kTensor 29 A0_2 c0_2 x0.grads, .sl kTensor A1 c1 x1] w) ?_ ?_
  · refine wpLoop (shelf_Shelf_Commit.l0 x1 x0) r29 (fun (s28 : Int) (a : Act) (w : World) => Fr 72 a [(0, .pointer (some ⟨b0, 0, none⟩)), (1, .slice A1 x1.length c1), (21, .slice A1 x1.length c1), (22, .int .i64 (x1.length : Int)), (23, .int .i64 s28)] ∧ Mem B0 M w0 [.bx b0 [.slice A0_0 x0.l.length c0_0, .slice A0_1 x0.vers.length c0_1, .slice A0_2 x0.grads.length c0_2] 72, .ow kTensor 29 A0_0 c0_0 x0.l, .ow (Kd.int .i64) 3 A0_1 c0_1 x0.vers, .ow kTensor 29 A0_2 c0_2 x0.grads, .sl kTensor A1 c1 x1] w) 0 hr29 ⟨hf27.se [0, 1, 21, 22, 23], hm0.se [0, 1, 2, 3, 4] _ rfl⟩ ?_
    rintro g30 s28 a31 w32 H1 ⟨hf33, hm34⟩
    unfold shelf_Shelf_Commit.l0 at H1
    refine wp_seq ?_
    rcases ifS_split H1 with ⟨c35, H1⟩ | ⟨c35, H1⟩
    rotate_left
    · refine rg (ob := [.is (decide (s28 < (x1.length : Int)) = false)]) [.bool false] [(0, vp b0), (1, .slice A1 x1.length c1), (21, .slice A1 x1.length c1), (22, vi (x1.length : Int)), (23, vi s28), (24, .bool false)] hf33 ⟨(decide_eq_false c35), trivial⟩ fun a273 hf274 => ?_
      refine thenN ?_
      refine wp_seq ?_
      refine cF hf274 ?_
      refine wp_exit ?_
      refine thenE ?_
      refine thenE ?_
      obtain rfl := Option.some.inj H1
      exact .inl ⟨rfl, s28, rfl, hf274.se [0, 1, 21, 22, 23], hm34.se [0, 1, 2, 3, 4] _ rfl⟩
    refine rg (ob := [.is (decide (s28 < (x1.length : Int)) = true)]) [.bool true] [(0, vp b0), (1, .slice A1 x1.length c1), (21, .slice A1 x1.length c1), (22, vi (x1.length : Int)), (23, vi s28), (24, .bool true)] hf33 ⟨(decide_eq_true c35), trivial⟩ fun a36 hf37 => ?_
    refine thenN ?_
    refine wp_seq ?_
    refine cT hf37 ?_
    refine wp_skip ?_
    refine thenN ?_
    refine wp_seq ?_
    refine wp_block ?_
    refine wp_seq ?_
    obtain ⟨g38, H1⟩ := ifS_guard H1
    have q39 := (hm34.slAt 4 rfl).get s28 g38.1 g38.2
    obtain ⟨us40, hr41, hc42⟩ := q39.2
    obtain ⟨A43, c44, A45, c46, rfl, ⟨pA43, sA43⟩, ⟨pA45, sA45⟩⟩ := kTensor.open hr41
    have hm47 := hm34.elem pA43 sA43
    have hm48 := hm47.elem pA45 sA45
    refine inReg ?_
    refine gg 3 [.agg #[.slice A43 (rd x1 s28).Shape.length c44, .slice A45 (rd x1 s28).Data.length c46]] [(0, vp b0), (1, .slice A1 x1.length c1), (21, .slice A1 x1.length c1), (22, vi (x1.length : Int)), (23, vi s28), (25, vi s28), (27, .agg #[.slice A43 (rd x1 s28).Shape.length c44, .slice A45 (rd x1 s28).Data.length c46])] hf37 (oi q39.1 (oi g38 (oc (hc42 0 _ rfl) (oc (hc42 1 _ rfl) ot)))) fun a49 hf50 => ?_
    refine lo hf50 rfl (nw (cs := [.slice none 0 0, .slice none 0 0]) (T := 29) (d := 6) hf50 ?_)
    intro b51 w52 a53 hbb51 hx55 hg56 hf54
    have hm57 := hm48.box hbb51 hx55 hg56
    refine gg 1 [] [(0, vp b0), (1, .slice A1 x1.length c1), (5, vi s28), (6, vp b51), (21, .slice A1 x1.length c1), (22, vi (x1.length : Int)), (23, vi s28), (27, .agg #[.slice A43 (rd x1 s28).Shape.length c44, .slice A45 (rd x1 s28).Data.length c46])] hf54 ot fun a58 hf59 => ?_
    refine lo hf59 rfl (sb (j := 0) (us := [.slice A43 (rd x1 s28).Shape.length c44, .slice A45 (rd x1 s28).Data.length c46]) (cs' := [.slice A43 (rd x1 s28).Shape.length c44, .slice A45 (rd x1 s28).Data.length c46]) hf59 (hm57.bxAt 0 rfl) ?_)
    intro w60 hx61 hg62
    have hm63 := hm57.setBox 0 _ rfl rfl hx61 hg62
    refine endL rfl ?_
    refine thenN ?_
    refine wp_seq ?_
    obtain ⟨r65, hr65, H1⟩ := obS_split H1
    rcases ifbS_split H1 with ⟨c66, H1⟩ | ⟨c66, H1⟩
    rotate_left
    · refine midReg (fun (a : Act) (w : World) => Fr 72 a [(0, .pointer (some ⟨b0, 0, none⟩)), (1, .slice A1 x1.length c1), (21, .slice A1 x1.length c1), (22, .int .i64 (x1.length : Int)), (23, .int .i64 s28), (44, .bool true)] ∧ Mem B0 M w0 [.bx b0 [.slice A0_0 x0.l.length c0_0, .slice A0_1 x0.vers.length c0_1, .slice A0_2 x0.grads.length c0_2] 72, .ow kTensor 29 A0_0 c0_0 x0.l, .ow (Kd.int .i64) 3 A0_1 c0_1 x0.vers, .ow kTensor 29 A0_2 c0_2 x0.grads, .sl kTensor A1 c1 x1] w) ?_ ?_
      · refine anyG (K := []) [] (by kernel_rfl) fun w243 hg244 => ?_
        have hm245 := hm63.still hg244
        refine qt [0] [.agg #[.slice A43 (rd x1 s28).Shape.length c44, .slice A45 (rd x1 s28).Data.length c46]] (fb 17 1) [(0, vp b0), (1, .slice A1 x1.length c1), (5, vi s28), (6, vp b51), (21, .slice A1 x1.length c1), (22, vi (x1.length : Int)), (23, vi s28), (28, .agg #[.slice A43 (rd x1 s28).Shape.length c44, .slice A45 (rd x1 s28).Data.length c46])] 16 hf59 (oc (hm245.cell (j := 0) 0 rfl rfl) (oc (hm245.cell (j := 1) 0 rfl rfl) ot)) fun a255 hf256 => ?_
        refine a1 1 ?_
        refine oo hf256 rfl (cl 29 hf256 callable32 (tensor_May.calls _ _ _ _ _ _ rfl _ _ _ rfl (hm245.give [2, 1] [.sl (Kd.int .i64) A43 c44 (rd x1 s28).Shape, .sl Kd.float A45 c46 (rd x1 s28).Data] rfl rfl) r65 hr65) ?_)
        rintro _ w257 a258 ⟨rfl, hk260⟩ hf259
        refine ⟨.inr (Gr.still hk260.cum.none), ?_⟩
        have hm261 := hm245.still hk260.cum.none
        rw [c66] at hf259
        refine qt [2, 3, 4, 5, 6, 7, 8, 9, 10, 11, 12, 13, 14, 15, 16] [] (fb 17 131071) [(0, vp b0), (1, .slice A1 x1.length c1), (21, .slice A1 x1.length c1), (22, vi (x1.length : Int)), (23, vi s28), (44, .bool true)] 0 hf259 ot fun a262 hf263 => ?_
        refine aD ⟨rfl, hf263.se [0, 1, 21, 22, 23, 44], hm261.se [3, 4, 5, 6, 7] _ rfl⟩
      rintro a264 w265 ⟨hf266, hm267⟩
      refine thenN ?_
      refine cT hf266 ?_
      refine wp_seq ?_
      refine rg [] [(4, vi 2)] hf266 ot fun a268 hf269 => ?_
      have hm270 := hm267.se [0, 1, 2, 3] _ rfl
      refine thenN ?_
      refine wp_ret ?_
      refine blkR ?_
      refine thenR ?_
      refine thenR ?_
      refine .inr ⟨rfl, ?_⟩
      refine thenR ?_
      have hm271 : Mem B0 M w0 [.bx b0 [.slice A0_0 x0.l.length c0_0, .slice A0_1 x0.vers.length c0_1, .slice A0_2 x0.grads.length c0_2] 72, .ow kTensor 29 A0_0 c0_0 x0.l, .ow (Kd.int .i64) 3 A0_1 c0_1 x0.vers, .ow kTensor 29 A0_2 c0_2 x0.grads] w265 := hm270.se [0, 1, 2, 3] _ rfl
      obtain rfl := Option.some.inj H1
      obtain rfl := Option.some.inj H0
      refine rt [] [.int .i64 2] hf269 ot ?_
      exact ⟨_, rfl, A0_2, c0_2, rfl, hm271⟩
    obtain ⟨g67, H1⟩ := ifS_guard H1
    obtain ⟨r68, hr68, H1⟩ := obS_split H1
    rcases ifbS_split H1 with ⟨c69, H1⟩ | ⟨c69, H1⟩
    · refine midReg (fun (a : Act) (w : World) => Fr 72 a [(0, .pointer (some ⟨b0, 0, none⟩)), (1, .slice A1 x1.length c1), (21, .slice A1 x1.length c1), (22, .int .i64 (x1.length : Int)), (23, .int .i64 s28), (44, .bool false)] ∧ Mem B0 M w0 [.bx b0 [.slice A0_0 x0.l.length c0_0, .slice A0_1 x0.vers.length c0_1, .slice A0_2 x0.grads.length c0_2] 72, .ow kTensor 29 A0_0 c0_0 x0.l, .ow (Kd.int .i64) 3 A0_1 c0_1 x0.vers, .ow kTensor 29 A0_2 c0_2 x0.grads, .sl kTensor A1 c1 x1] w) ?_ ?_
      · refine anyG (K := []) [] (by kernel_rfl) fun w91 hg92 => ?_
        have hm93 := hm63.still hg92
        refine qt [0] [.agg #[.slice A43 (rd x1 s28).Shape.length c44, .slice A45 (rd x1 s28).Data.length c46]] (fb 17 1) [(0, vp b0), (1, .slice A1 x1.length c1), (5, vi s28), (6, vp b51), (21, .slice A1 x1.length c1), (22, vi (x1.length : Int)), (23, vi s28), (28, .agg #[.slice A43 (rd x1 s28).Shape.length c44, .slice A45 (rd x1 s28).Data.length c46])] 16 hf59 (oc (hm93.cell (j := 0) 0 rfl rfl) (oc (hm93.cell (j := 1) 0 rfl rfl) ot)) fun a120 hf121 => ?_
        refine a1 1 ?_
        refine oo hf121 rfl (cl 29 hf121 callable32 (tensor_May.calls _ _ _ _ _ _ rfl _ _ _ rfl (hm93.give [2, 1] [.sl (Kd.int .i64) A43 c44 (rd x1 s28).Shape, .sl Kd.float A45 c46 (rd x1 s28).Data] rfl rfl) r65 hr65) ?_)
        rintro _ w122 a123 ⟨rfl, hk125⟩ hf124
        refine ⟨.inr (Gr.still hk125.cum.none), ?_⟩
        have hm126 := hm93.still hk125.cum.none
        rw [c66] at hf124
        have q127 := (hm126.owAt 4 rfl).cells s28 g67.1 g67.2
        obtain ⟨us128, hr129, hc130⟩ := q127.2
        obtain ⟨A131, c132, A133, c134, rfl, ⟨pA131, sA131⟩, ⟨pA133, sA133⟩⟩ := kTensor.open hr129
        have hm135 := hm126.elem pA131 sA131
        have hm136 := hm135.elem pA133 sA133
        refine qt [2, 3, 4, 5, 6, 7, 8, 9, 10, 11, 12, 13] [.slice A43 (rd x1 s28).Shape.length c44, .slice A0_0 x0.l.length c0_0, .slice A131 (rd x0.l s28).Shape.length c132] (fb 17 16383) [(0, vp b0), (1, .slice A1 x1.length c1), (21, .slice A1 x1.length c1), (22, vi (x1.length : Int)), (23, vi s28), (31, .bool false), (33, .slice A43 (rd x1 s28).Shape.length c44), (41, .slice A131 (rd x0.l s28).Shape.length c132)] 3 hf124 (oc (hm126.cell (j := 0) 0 rfl rfl) (oc (hm126.cell (j := 0) 3 rfl rfl) (oi q127.1 (oi g67 (oc (hc130 0 _ rfl) ot))))) fun a137 hf138 => ?_
        refine a1 14 ?_
        refine oo hf138 rfl (cl 42 hf138 callable35 (shape_Same.calls _ _ _ _ _ _ rfl _ _ _ _ rfl (hm136.give [4, 1] [.sl (Kd.int .i64) A43 c44 (rd x1 s28).Shape, .sl (Kd.int .i64) A131 c132 (rd x0.l s28).Shape] rfl rfl) r68 hr68) ?_)
        rintro _ w139 a140 ⟨rfl, hk142⟩ hf141
        refine ⟨.inr (Gr.still hk142.cum.none), ?_⟩
        have hm143 := hm136.still hk142.cum.none
        rw [c69] at hf141
        refine qt [15, 16] [] (fb 17 131071) [(0, vp b0), (1, .slice A1 x1.length c1), (21, .slice A1 x1.length c1), (22, vi (x1.length : Int)), (23, vi s28), (44, .bool false)] 0 hf141 ot fun a144 hf145 => ?_
        refine aD ⟨rfl, hf145.se [0, 1, 21, 22, 23, 44], hm143.se [5, 6, 7, 8, 9] _ rfl⟩
      rintro a146 w147 ⟨hf148, hm149⟩
      refine thenN ?_
      refine cF hf148 ?_
      refine wp_skip ?_
      refine blkN ?_
      refine thenN ?_
      refine rg [] [(0, vp b0), (1, .slice A1 x1.length c1), (21, .slice A1 x1.length c1), (22, vi (x1.length : Int)), (23, vi (w64 (s28 + 1)))] hf148 ot fun a150 hf151 => ?_
      exact ⟨(w64 (s28 + 1)), H1, hf151.se [0, 1, 21, 22, 23], hm149.se [0, 1, 2, 3, 4] _ rfl⟩
    refine midReg (fun (a : Act) (w : World) => Fr 72 a [(0, .pointer (some ⟨b0, 0, none⟩)), (1, .slice A1 x1.length c1), (21, .slice A1 x1.length c1), (22, .int .i64 (x1.length : Int)), (23, .int .i64 s28), (44, .bool true)] ∧ Mem B0 M w0 [.bx b0 [.slice A0_0 x0.l.length c0_0, .slice A0_1 x0.vers.length c0_1, .slice A0_2 x0.grads.length c0_2] 72, .ow kTensor 29 A0_0 c0_0 x0.l, .ow (Kd.int .i64) 3 A0_1 c0_1 x0.vers, .ow kTensor 29 A0_2 c0_2 x0.grads, .sl kTensor A1 c1 x1] w) ?_ ?_
    · refine anyG (K := []) [] (by kernel_rfl) fun w173 hg174 => ?_
      have hm175 := hm63.still hg174
      refine qt [0] [.agg #[.slice A43 (rd x1 s28).Shape.length c44, .slice A45 (rd x1 s28).Data.length c46]] (fb 17 1) [(0, vp b0), (1, .slice A1 x1.length c1), (5, vi s28), (6, vp b51), (21, .slice A1 x1.length c1), (22, vi (x1.length : Int)), (23, vi s28), (28, .agg #[.slice A43 (rd x1 s28).Shape.length c44, .slice A45 (rd x1 s28).Data.length c46])] 16 hf59 (oc (hm175.cell (j := 0) 0 rfl rfl) (oc (hm175.cell (j := 1) 0 rfl rfl) ot)) fun a202 hf203 => ?_
      refine a1 1 ?_
      refine oo hf203 rfl (cl 29 hf203 callable32 (tensor_May.calls _ _ _ _ _ _ rfl _ _ _ rfl (hm175.give [2, 1] [.sl (Kd.int .i64) A43 c44 (rd x1 s28).Shape, .sl Kd.float A45 c46 (rd x1 s28).Data] rfl rfl) r65 hr65) ?_)
      rintro _ w204 a205 ⟨rfl, hk207⟩ hf206
      refine ⟨.inr (Gr.still hk207.cum.none), ?_⟩
      have hm208 := hm175.still hk207.cum.none
      rw [c66] at hf206
      have q209 := (hm208.owAt 4 rfl).cells s28 g67.1 g67.2
      obtain ⟨us210, hr211, hc212⟩ := q209.2
      obtain ⟨A213, c214, A215, c216, rfl, ⟨pA213, sA213⟩, ⟨pA215, sA215⟩⟩ := kTensor.open hr211
      have hm217 := hm208.elem pA213 sA213
      have hm218 := hm217.elem pA215 sA215
      refine qt [2, 3, 4, 5, 6, 7, 8, 9, 10, 11, 12, 13] [.slice A43 (rd x1 s28).Shape.length c44, .slice A0_0 x0.l.length c0_0, .slice A213 (rd x0.l s28).Shape.length c214] (fb 17 16383) [(0, vp b0), (1, .slice A1 x1.length c1), (21, .slice A1 x1.length c1), (22, vi (x1.length : Int)), (23, vi s28), (31, .bool false), (33, .slice A43 (rd x1 s28).Shape.length c44), (41, .slice A213 (rd x0.l s28).Shape.length c214)] 3 hf206 (oc (hm208.cell (j := 0) 0 rfl rfl) (oc (hm208.cell (j := 0) 3 rfl rfl) (oi q209.1 (oi g67 (oc (hc212 0 _ rfl) ot))))) fun a219 hf220 => ?_
      refine a1 14 ?_
      refine oo hf220 rfl (cl 42 hf220 callable35 (shape_Same.calls _ _ _ _ _ _ rfl _ _ _ _ rfl (hm218.give [4, 1] [.sl (Kd.int .i64) A43 c44 (rd x1 s28).Shape, .sl (Kd.int .i64) A213 c214 (rd x0.l s28).Shape] rfl rfl) r68 hr68) ?_)
      rintro _ w221 a222 ⟨rfl, hk224⟩ hf223
      refine ⟨.inr (Gr.still hk224.cum.none), ?_⟩
      have hm225 := hm218.still hk224.cum.none
      rw [c69] at hf223
      refine qt [15, 16] [] (fb 17 131071) [(0, vp b0), (1, .slice A1 x1.length c1), (21, .slice A1 x1.length c1), (22, vi (x1.length : Int)), (23, vi s28), (44, .bool true)] 0 hf223 ot fun a226 hf227 => ?_
      refine aD ⟨rfl, hf227.se [0, 1, 21, 22, 23, 44], hm225.se [5, 6, 7, 8, 9] _ rfl⟩
    rintro a228 w229 ⟨hf230, hm231⟩
    refine thenN ?_
    refine cT hf230 ?_
    refine wp_seq ?_
    refine rg [] [(4, vi 2)] hf230 ot fun a232 hf233 => ?_
    have hm234 := hm231.se [0, 1, 2, 3] _ rfl
    refine thenN ?_
    refine wp_ret ?_
    refine blkR ?_
    refine thenR ?_
    refine thenR ?_
    refine .inr ⟨rfl, ?_⟩
    refine thenR ?_
    have hm235 : Mem B0 M w0 [.bx b0 [.slice A0_0 x0.l.length c0_0, .slice A0_1 x0.vers.length c0_1, .slice A0_2 x0.grads.length c0_2] 72, .ow kTensor 29 A0_0 c0_0 x0.l, .ow (Kd.int .i64) 3 A0_1 c0_1 x0.vers, .ow kTensor 29 A0_2 c0_2 x0.grads] w229 := hm234.se [0, 1, 2, 3] _ rfl
    obtain rfl := Option.some.inj H1
    obtain rfl := Option.some.inj H0
    refine rt [] [.int .i64 2] hf233 ot ?_
    exact ⟨_, rfl, A0_2, c0_2, rfl, hm235⟩
  rintro a275 w276 ⟨yr29, rfl, hf277, hm278⟩
  refine thenN ?_
  refine wp_seq ?_
  refine wp_seq ?_
  refine rg [] [(0, vp b0), (46, .slice A1 x1.length c1), (47, vi (x1.length : Int)), (48, vi 0)] hf277 ot fun a279 hf280 => ?_
  refine thenN ?_
  obtain ⟨r282, hr282, H0⟩ := ob_split H0
  refine wpBlock (Mid := fun (a : Act) (w : World) => Fr 72 a [(0, .pointer (some ⟨b0, 0, none⟩)), (46, .slice A1 x1.length c1), (47, .int .i64 (x1.length : Int)), (48, .int .i64 r282.1)] ∧ Mem B0 M w0 [.bx b0 [.slice A0_0 x0.l.length c0_0, .slice A0_1 x0.vers.length c0_1, .slice A0_2 r282.2.length c0_2] 72, .ow kTensor 29 A0_0 c0_0 x0.l, .ow (Kd.int .i64) 3 A0_1 c0_1 x0.vers, .ow kTensor 29 A0_2 c0_2 r282.2, .sl kTensor A1 c1 x1] w) ?_ ?_
  · refine wpLoop (shelf_Shelf_Commit.l1 x1) r282 (fun (s281 : (Int × (List Tensor))) (a : Act) (w : World) => Fr 72 a [(0, .pointer (some ⟨b0, 0, none⟩)), (46, .slice A1 x1.length c1), (47, .int .i64 (x1.length : Int)), (48, .int .i64 s281.1)] ∧ Mem B0 M w0 [.bx b0 [.slice A0_0 x0.l.length c0_0, .slice A0_1 x0.vers.length c0_1, .slice A0_2 s281.2.length c0_2] 72, .ow kTensor 29 A0_0 c0_0 x0.l, .ow (Kd.int .i64) 3 A0_1 c0_1 x0.vers, .ow kTensor 29 A0_2 c0_2 s281.2, .sl kTensor A1 c1 x1] w) (0, x0.grads) hr282 ⟨hf280.se [0, 46, 47, 48], hm278.se [0, 1, 2, 3, 4] _ rfl⟩ ?_
    rintro g283 s281 a284 w285 H1 ⟨hf286, hm287⟩
    unfold shelf_Shelf_Commit.l1 at H1
    refine wp_seq ?_
    rcases ifS_split H1 with ⟨c288, H1⟩ | ⟨c288, H1⟩
    rotate_left
    · refine rg (ob := [.is (decide (s281.1 < (x1.length : Int)) = false)]) [.bool false] [(0, vp b0), (46, .slice A1 x1.length c1), (47, vi (x1.length : Int)), (48, vi s281.1), (49, .bool false)] hf286 ⟨(decide_eq_false c288), trivial⟩ fun a444 hf445 => ?_
      refine thenN ?_
      refine wp_seq ?_
      refine cF hf445 ?_
      refine wp_exit ?_
      refine thenE ?_
      refine thenE ?_
      obtain rfl := Option.some.inj H1
      exact .inl ⟨rfl, hf445.se [0, 46, 47, 48], hm287.se [0, 1, 2, 3, 4] _ rfl⟩
    refine rg (ob := [.is (decide (s281.1 < (x1.length : Int)) = true)]) [.bool true] [(0, vp b0), (46, .slice A1 x1.length c1), (47, vi (x1.length : Int)), (48, vi s281.1), (49, .bool true)] hf286 ⟨(decide_eq_true c288), trivial⟩ fun a289 hf290 => ?_
    refine thenN ?_
    refine wp_seq ?_
    refine cT hf290 ?_
    refine wp_skip ?_
    refine thenN ?_
    refine wp_seq ?_
    refine wp_block ?_
    refine wp_seq ?_
    obtain ⟨g291, H1⟩ := ifS_guard H1
    have q292 := (hm287.slAt 4 rfl).get s281.1 g291.1 g291.2
    obtain ⟨us293, hr294, hc295⟩ := q292.2
    obtain ⟨A296, c297, A298, c299, rfl, ⟨pA296, sA296⟩, ⟨pA298, sA298⟩⟩ := kTensor.open hr294
    have hm300 := hm287.elem pA296 sA296
    have hm301 := hm300.elem pA298 sA298
    refine inReg ?_
    refine gg 3 [.agg #[.slice A296 (rd x1 s281.1).Shape.length c297, .slice A298 (rd x1 s281.1).Data.length c299]] [(0, vp b0), (46, .slice A1 x1.length c1), (47, vi (x1.length : Int)), (48, vi s281.1), (50, vi s281.1), (52, .agg #[.slice A296 (rd x1 s281.1).Shape.length c297, .slice A298 (rd x1 s281.1).Data.length c299])] hf290 (oi q292.1 (oi g291 (oc (hc295 0 _ rfl) (oc (hc295 1 _ rfl) ot)))) fun a302 hf303 => ?_
    refine lo hf303 rfl (nw (cs := [.slice none 0 0, .slice none 0 0]) (T := 29) (d := 8) hf303 ?_)
    intro b304 w305 a306 hbb304 hx308 hg309 hf307
    have hm310 := hm301.box hbb304 hx308 hg309
    refine gg 1 [] [(0, vp b0), (7, vi s281.1), (8, vp b304), (46, .slice A1 x1.length c1), (47, vi (x1.length : Int)), (48, vi s281.1), (52, .agg #[.slice A296 (rd x1 s281.1).Shape.length c297, .slice A298 (rd x1 s281.1).Data.length c299])] hf307 ot fun a311 hf312 => ?_
    refine lo hf312 rfl (sb (j := 0) (us := [.slice A296 (rd x1 s281.1).Shape.length c297, .slice A298 (rd x1 s281.1).Data.length c299]) (cs' := [.slice A296 (rd x1 s281.1).Shape.length c297, .slice A298 (rd x1 s281.1).Data.length c299]) hf312 (hm310.bxAt 0 rfl) ?_)
    intro w313 hx314 hg315
    have hm316 := hm310.setBox 0 _ rfl rfl hx314 hg315
    refine endL rfl ?_
    refine thenN ?_
    obtain ⟨g317, H1⟩ := ifS_guard H1
    obtain ⟨r318, hr318, H1⟩ := obS_split H1
    refine midReg (fun (a : Act) (w : World) => Fr 72 a [(0, .pointer (some ⟨b0, 0, none⟩)), (46, .slice A1 x1.length c1), (47, .int .i64 (x1.length : Int)), (48, .int .i64 s281.1)] ∧ Mem B0 M w0 [.bx b0 [.slice A0_0 x0.l.length c0_0, .slice A0_1 x0.vers.length c0_1, .slice A0_2 s281.2.length c0_2] 72, .ow kTensor 29 A0_0 c0_0 x0.l, .ow (Kd.int .i64) 3 A0_1 c0_1 x0.vers, .ow kTensor 29 A0_2 c0_2 (put s281.2 s281.1 r318.1), .sl kTensor A1 c1 x1] w) ?_ ?_
    · refine anyG (K := []) [18] (by kernel_rfl) fun w355 hg356 => ?_
      have hm357 := hm316.still hg356
      have q397 := (hm357.owAt 6 rfl).cells s281.1 g317.1 g317.2
      obtain ⟨us398, hr399, hc400⟩ := q397.2
      obtain ⟨A401, c402, A403, c404, rfl, ⟨pA401, sA401⟩, ⟨pA403, sA403⟩⟩ := kTensor.open hr399
      have hm405 := hm357.elem pA401 sA401
      have hm406 := hm405.elem pA403 sA403
      refine qt [0, 1, 2, 3, 4, 5, 6, 7, 8, 9, 10, 11, 12] [.slice A0_2 s281.2.length c0_2, .slice A0_2 s281.2.length c0_2, .agg #[.slice A401 (rd s281.2 s281.1).Shape.length c402, .slice A403 (rd s281.2 s281.1).Data.length c404], .agg #[.slice A296 (rd x1 s281.1).Shape.length c297, .slice A298 (rd x1 s281.1).Data.length c299]] (fb 19 8191) [(0, vp b0), (46, .slice A1 x1.length c1), (47, vi (x1.length : Int)), (48, vi s281.1), (57, .slice A0_2 s281.2.length c0_2), (58, vi s281.1), (65, .agg #[.slice A401 (rd s281.2 s281.1).Shape.length c402, .slice A403 (rd s281.2 s281.1).Data.length c404]), (66, .agg #[.slice A296 (rd x1 s281.1).Shape.length c297, .slice A298 (rd x1 s281.1).Data.length c299])] 6 hf312 (oc (hm357.cell (j := 2) 3 rfl rfl) (oc (hm357.cell (j := 2) 3 rfl rfl) (oi q397.1 (oi g317 (oc (hc400 0 _ rfl) (oc (hc400 1 _ rfl) (oc (hm406.cell (j := 0) 2 rfl rfl) (oc (hm406.cell (j := 1) 2 rfl rfl) ot)))))))) fun a407 hf408 => ?_
      refine a1 13 ?_
      refine oo hf408 rfl (cl 67 hf408 callable36 (kernel_Two.calls _ _ 4 _ _ _ _ rfl _ _ _ rfl _ _ _ _ rfl _ _ _ rfl (hm406.give [1, 0, 4, 3] [.sl (Kd.int .i64) A401 c402 (rd s281.2 s281.1).Shape, .sl Kd.float A403 c404 (rd s281.2 s281.1).Data, .sl (Kd.int .i64) A296 c297 (rd x1 s281.1).Shape, .sl Kd.float A298 c299 (rd x1 s281.1).Data] rfl rfl) r318 hr318) ?_)
      rintro _ w413 a414 ⟨A409, c410, A411, c412, rfl, hk416⟩ hf415
      refine ⟨.inr (Gr.still hk416.cum.none), ?_⟩
      have hm417 := hm406.back hk416
      have hm418 := hm417.seal 0 _ rfl rfl
      have hm419 := hm418.seal 1 _ rfl rfl
      have q420 := (hm419.owAt 10 rfl).cells s281.1 g317.1 g317.2
      obtain ⟨us421, hr422, hc423⟩ := q420.2
      obtain ⟨A424, c425, A426, c427, rfl, ⟨pA424, sA424⟩, ⟨pA426, sA426⟩⟩ := kTensor.open hr422
      have hm428 := hm419.elem pA424 sA424
      have hm429 := hm428.elem pA426 sA426
      refine qt [14, 15, 16, 17] [] (fb 19 262143) [(0, vp b0), (46, .slice A1 x1.length c1), (47, vi (x1.length : Int)), (48, vi s281.1), (68, .agg #[.slice A409 r318.1.Shape.length c410, .slice A411 r318.1.Data.length c412]), (70, .pointer (some ((ad A0_2).add ((s281.1).toNat * 2))))] 1 hf415 (oi q420.1 (oi g317 ot)) fun a430 hf431 => ?_
      refine a1 18 ?_
      refine oo hf431 rfl (so (i := s281.1) (x := r318.1) (us := [.slice A409 r318.1.Shape.length c410, .slice A411 r318.1.Data.length c412]) (sz := 2) hf431 (hm429.at 12 rfl) (kTensor.mk r318.1 ⟨hm429.cpAt 2 rfl, (hm429.at2 12 2 rfl rfl).2⟩ ⟨hm429.cpAt 3 rfl, (hm429.at2 12 3 rfl rfl).2⟩) g317.1 g317.2 ?_)
      intro w432 hx433 hg434
      refine ⟨.inl (by decide), ?_⟩
      have hm435 := hm429.setOwn 12 _ rfl rfl hx433 hg434 (.inl rfl)
      refine aD ⟨rfl, hf431.se [0, 46, 47, 48], hm435.se [9, 10, 11, 12, 13] _ rfl⟩
    rintro a436 w437 ⟨hf438, hm439⟩
    refine blkN ?_
    refine thenN ?_
    refine rg [] [(0, vp b0), (46, .slice A1 x1.length c1), (47, vi (x1.length : Int)), (48, vi (w64 (s281.1 + 1)))] hf438 ot fun a440 hf441 => ?_
    have hf442 : Fr 72 a440 [(0, .pointer (some ⟨b0, 0, none⟩)), (46, .slice A1 x1.length c1), (47, .int .i64 (x1.length : Int)), (48, .int .i64 (w64 (s281.1 + 1)))] := hf441.se [0, 46, 47, 48]
    have hm443 : Mem B0 M w0 [.bx b0 [.slice A0_0 x0.l.length c0_0, .slice A0_1 x0.vers.length c0_1, .slice A0_2 s281.2.length c0_2] 72, .ow kTensor 29 A0_0 c0_0 x0.l, .ow (Kd.int .i64) 3 A0_1 c0_1 x0.vers, .ow kTensor 29 A0_2 c0_2 (put s281.2 s281.1 r318.1), .sl kTensor A1 c1 x1] w437 := hm439.se [0, 1, 2, 3, 4] _ rfl
    exact ⟨((w64 (s281.1 + 1)), (put s281.2 s281.1 r318.1)), H1, (by simpa only [put_length, List.length_nil] using hf442), (by simpa only [put_length, List.length_nil] using hm443)⟩
  rintro a446 w447 ⟨hf448, hm449⟩
  refine thenN ?_
  refine wp_seq ?_
  refine rg [] [(4, vi 0)] hf448 ot fun a450 hf451 => ?_
  have hm452 := hm449.se [0, 1, 2, 3] _ rfl
  refine thenN ?_
  refine wp_ret ?_
  have hm453 : Mem B0 M w0 [.bx b0 [.slice A0_0 x0.l.length c0_0, .slice A0_1 x0.vers.length c0_1, .slice A0_2 r282.2.length c0_2] 72, .ow kTensor 29 A0_0 c0_0 x0.l, .ow (Kd.int .i64) 3 A0_1 c0_1 x0.vers, .ow kTensor 29 A0_2 c0_2 r282.2] w447 := hm452.se [0, 1, 2, 3] _ rfl
  obtain rfl := Option.some.inj H0
  refine rt [] [.int .i64 0] hf451 ot ?_
  exact ⟨_, rfl, A0_2, c0_2, rfl, hm453⟩

/-! ### (*backstitch/shelf.Shelf).there -/
noncomputable def shelf_Shelf_there.f (x0 : Shelf) (x1 : Int) : Option Int :=
  if x1 < 0 then (some 7)
  else (if (x0.l.length : Int) ≤ x1 then (some 7)
  else (some 0))
set_option maxRecDepth 100000 in
set_option maxHeartbeats 4000000 in
theorem shelf_Shelf_there.calls (B0 : List (Option Nat)) (M : List (Option Nat)) (w0 : World) (x0 : Shelf) (b0 : Nat) (A0_0 : Option Addr) (n0_0 c0_0 : Nat) (e0_0 : n0_0 = x0.l.length) (A0_1 : Option Addr) (n0_1 c0_1 : Nat) (e0_1 : n0_1 = x0.vers.length) (A0_2 : Option Addr) (n0_2 c0_2 : Nat) (e0_2 : n0_2 = x0.grads.length) (x1 : Int) (hm0 : Mem B0 M w0 [.bx b0 [.slice A0_0 n0_0 c0_0, .slice A0_1 n0_1 c0_1, .slice A0_2 n0_2 c0_2] 72, .ow kTensor 29 A0_0 c0_0 x0.l, .ow (Kd.int .i64) 3 A0_1 c0_1 x0.vers, .ow kTensor 29 A0_2 c0_2 x0.grads] w0) (r : Int) (H0 : shelf_Shelf_there.f x0 x1 = some r) :
    Calls Try.prog 37 [.pointer (some ⟨b0, 0, none⟩), .int .i64 x1].toArray w0 (fun x w' => ∃ v, x = .returned v ∧ v = .int .i64 r ∧ Mem B0 M w0 [.bx b0 [.slice A0_0 x0.l.length c0_0, .slice A0_1 x0.vers.length c0_1, .slice A0_2 x0.grads.length c0_2] 72, .ow kTensor 29 A0_0 c0_0 x0.l, .ow (Kd.int .i64) 3 A0_1 c0_1 x0.vers, .ow kTensor 29 A0_2 c0_2 x0.grads] w') := by
  subst e0_0
  subst e0_1
  subst e0_2
  unfold shelf_Shelf_there.f at H0
  refine enter (n := 20) Try.func37 rfl rfl (by kernel_rfl) fun a0 (hf0 : Fr 20 a0 [(0, .pointer (some ⟨b0, 0, none⟩)), (1, .int .i64 x1)]) => ?_
  refine wp_seq ?_
  refine rg [] [(0, vp b0), (1, vi x1)] hf0 ot fun a21 hf22 => ?_
  refine thenN ?_
  refine wp_seq ?_
  refine wp_block ?_
  refine wp_seq ?_
  refine rg [] [(0, vp b0), (1, vi x1), (5, .bool false)] hf22 ot fun a23 hf24 => ?_
  refine thenN ?_
  refine cF hf24 ?_
  refine wp_seq ?_
  rcases if_split H0 with ⟨c25, H0⟩ | ⟨c25, H0⟩
  · refine rg (ob := [.is (decide (x1 < 0) = true)]) [.bool true] [(8, .bool true)] hf24 ⟨(decide_eq_true c25), trivial⟩ fun a26 hf27 => ?_
    refine thenN ?_
    refine cT hf27 ?_
    refine wp_seq ?_
    refine rg [] [(4, vi 7)] hf27 ot fun a28 hf29 => ?_
    refine thenN ?_
    refine wp_ret ?_
    refine blkR ?_
    refine thenR ?_
    have hm30 : Mem B0 M w0 [.bx b0 [.slice A0_0 x0.l.length c0_0, .slice A0_1 x0.vers.length c0_1, .slice A0_2 x0.grads.length c0_2] 72, .ow kTensor 29 A0_0 c0_0 x0.l, .ow (Kd.int .i64) 3 A0_1 c0_1 x0.vers, .ow kTensor 29 A0_2 c0_2 x0.grads] w0 := hm0.se [0, 1, 2, 3] _ rfl
    obtain rfl := Option.some.inj H0
    refine rt [] [.int .i64 7] hf29 ot ?_
    exact ⟨_, rfl, rfl, hm30⟩
  rcases if_split H0 with ⟨c32, H0⟩ | ⟨c32, H0⟩
  · refine rg (ob := [.is (decide (x1 < 0) = false), .cell ⟨b0, 0, none⟩ (.slice A0_0 x0.l.length c0_0), .is (decide ((x0.l.length : Int) ≤ x1) = true)]) [.bool false, .slice A0_0 x0.l.length c0_0, .bool true] [(8, .bool true)] hf24 ⟨(decide_eq_false c25), (hm0.cell 0 rfl rfl), (decide_eq_true c32), trivial⟩ fun a33 hf34 => ?_
    refine thenN ?_
    refine cT hf34 ?_
    refine wp_seq ?_
    refine rg [] [(4, vi 7)] hf34 ot fun a35 hf36 => ?_
    refine thenN ?_
    refine wp_ret ?_
    refine blkR ?_
    refine thenR ?_
    have hm37 : Mem B0 M w0 [.bx b0 [.slice A0_0 x0.l.length c0_0, .slice A0_1 x0.vers.length c0_1, .slice A0_2 x0.grads.length c0_2] 72, .ow kTensor 29 A0_0 c0_0 x0.l, .ow (Kd.int .i64) 3 A0_1 c0_1 x0.vers, .ow kTensor 29 A0_2 c0_2 x0.grads] w0 := hm0.se [0, 1, 2, 3] _ rfl
    obtain rfl := Option.some.inj H0
    refine rt [] [.int .i64 7] hf36 ot ?_
    exact ⟨_, rfl, rfl, hm37⟩
  refine rg (ob := [.is (decide (x1 < 0) = false), .cell ⟨b0, 0, none⟩ (.slice A0_0 x0.l.length c0_0), .is (decide ((x0.l.length : Int) ≤ x1) = false)]) [.bool false, .slice A0_0 x0.l.length c0_0, .bool false] [(8, .bool false)] hf24 ⟨(decide_eq_false c25), (hm0.cell 0 rfl rfl), (decide_eq_false c32), trivial⟩ fun a39 hf40 => ?_
  refine thenN ?_
  refine cF hf40 ?_
  refine wp_skip ?_
  refine blkN ?_
  refine thenN ?_
  refine wp_seq ?_
  refine rg [] [(4, vi 0)] hf40 ot fun a41 hf42 => ?_
  refine thenN ?_
  refine wp_ret ?_
  have hm43 : Mem B0 M w0 [.bx b0 [.slice A0_0 x0.l.length c0_0, .slice A0_1 x0.vers.length c0_1, .slice A0_2 x0.grads.length c0_2] 72, .ow kTensor 29 A0_0 c0_0 x0.l, .ow (Kd.int .i64) 3 A0_1 c0_1 x0.vers, .ow kTensor 29 A0_2 c0_2 x0.grads] w0 := hm0.se [0, 1, 2, 3] _ rfl
  obtain rfl := Option.some.inj H0
  refine rt [] [.int .i64 0] hf42 ot ?_
  exact ⟨_, rfl, rfl, hm43⟩
end Go.Proofs.Yteaoijahdinciaa
