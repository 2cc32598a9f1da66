/- Printed by gen.py. -/
import Derived.Test.YteaoijahdinciaaF13
import Derived.Test.YteaoijahdinciaaF14
import Derived.Test.YteaoijahdinciaaF8
namespace Go.Proofs.Yteaoijahdinciaa
open Go Go.RowKit
set_option linter.unusedSimpArgs false
set_option linter.unusedVariables false
set_option linter.unnecessarySimpa false
/-! ### backstitch/backstitchlaw19.Same -/
noncomputable def law19_Same.l0 (r23 : ((List Tensor) × (List Int))) (x0 : Shelf) (x1 : Shelf65) (s45 : Int) : Step Int (Out2 Int Bool) :=
  if s45 < (r23.1.length : Int) then (bindS (shelf_Shelf_Grad.f x0 s45) fun r55 =>
  if r55.2 = 0 then (if 0 ≤ s45 ∧ s45 < (r23.2.length : Int) then (if 0 ≤ s45 ∧ s45 < (x1.V.length : Int) then (if (rd r23.2 s45) = (rd x1.V s45) then (if 0 ≤ s45 ∧ s45 < (r23.1.length : Int) then (if 0 ≤ s45 ∧ s45 < (x1.T.length : Int) then (bindS (ref1_SameTensor.f (⟨(rd r23.1 s45).Shape, (rd r23.1 s45).Data⟩ : Tensor) (⟨(rd x1.T s45).Shape, (rd x1.T s45).Data⟩ : Tensor)) fun r91 =>
  if r91 = true then (if 0 ≤ s45 ∧ s45 < (x1.G.length : Int) then (bindS (ref1_SameTensor.f r55.1 (⟨(rd x1.G s45).Shape, (rd x1.G s45).Data⟩ : Tensor)) fun r94 =>
  if r94 = true then (.next (w64 (s45 + 1)))
  else (.done (.ret false)))
  else .bad)
  else (.done (.ret false)))
  else .bad)
  else .bad)
  else (.done (.ret false)))
  else .bad)
  else .bad)
  else (.done (.ret false)))
  else (.done (.go s45))
noncomputable def law19_Same.f (x0 : Shelf) (x1 : Shelf65) : Option Bool :=
  (shelf_Shelf_All.f x0).bind fun r23 =>
  if (r23.1.length : Int) = (x1.T.length : Int) then (if (r23.2.length : Int) = (x1.V.length : Int) then ((loop (law19_Same.l0 r23 x0 x1) 0).bind fun r46 =>
  r46.on (fun yr46 =>
  some true) (fun y => some y))
  else (some false))
  else (some false)
set_option maxRecDepth 100000 in
set_option maxHeartbeats 4000000 in
theorem law19_Same.calls (B0 : List (Option Nat)) (M : List (Option Nat)) (w0 : World) (x0 : Shelf) (b0 : Nat) (A0_0 : Option Addr) (n0_0 c0_0 : Nat) (e0_0 : n0_0 = x0.l.length) (A0_1 : Option Addr) (n0_1 c0_1 : Nat) (e0_1 : n0_1 = x0.vers.length) (A0_2 : Option Addr) (n0_2 c0_2 : Nat) (e0_2 : n0_2 = x0.grads.length) (x1 : Shelf65) (b1 : Nat) (A1_0 : Option Addr) (n1_0 c1_0 : Nat) (e1_0 : n1_0 = x1.T.length) (A1_1 : Option Addr) (n1_1 c1_1 : Nat) (e1_1 : n1_1 = x1.G.length) (A1_2 : Option Addr) (n1_2 c1_2 : Nat) (e1_2 : n1_2 = x1.V.length) (hm0 : Mem B0 M w0 [.bx b0 [.slice A0_0 n0_0 c0_0, .slice A0_1 n0_1 c0_1, .slice A0_2 n0_2 c0_2] 72, .ow kTensor 29 A0_0 c0_0 x0.l, .ow (Kd.int .i64) 3 A0_1 c0_1 x0.vers, .ow kTensor 29 A0_2 c0_2 x0.grads, .bx b1 [.slice A1_0 n1_0 c1_0, .slice A1_1 n1_1 c1_1, .slice A1_2 n1_2 c1_2] 65, .ow kTensor 29 A1_0 c1_0 x1.T, .ow kTensor 29 A1_1 c1_1 x1.G, .ow (Kd.int .i64) 3 A1_2 c1_2 x1.V] w0) (r : Bool) (H0 : law19_Same.f x0 x1 = some r) :
    Calls Try.prog 18 [.pointer (some ⟨b0, 0, none⟩), .pointer (some ⟨b1, 0, none⟩)].toArray w0 (fun x w' => ∃ v, x = .returned v ∧ v = .bool r ∧ Mem B0 M w0 [.bx b0 [.slice A0_0 x0.l.length c0_0, .slice A0_1 x0.vers.length c0_1, .slice A0_2 x0.grads.length c0_2] 72, .ow kTensor 29 A0_0 c0_0 x0.l, .ow (Kd.int .i64) 3 A0_1 c0_1 x0.vers, .ow kTensor 29 A0_2 c0_2 x0.grads, .bx b1 [.slice A1_0 x1.T.length c1_0, .slice A1_1 x1.G.length c1_1, .slice A1_2 x1.V.length c1_2] 65, .ow kTensor 29 A1_0 c1_0 x1.T, .ow kTensor 29 A1_1 c1_1 x1.G, .ow (Kd.int .i64) 3 A1_2 c1_2 x1.V] w') := by
  subst e0_0
  subst e0_1
  subst e0_2
  subst e1_0
  subst e1_1
  subst e1_2
  unfold law19_Same.f at H0
  refine enter (n := 88) Try.func18 rfl rfl (by kernel_rfl) fun a0 (hf0 : Fr 88 a0 [(0, .pointer (some ⟨b0, 0, none⟩)), (1, .pointer (some ⟨b1, 0, none⟩))]) => ?_
  refine wp_seq ?_
  refine rg [] [(0, vp b0), (1, vp b1)] hf0 ot fun a21 hf22 => ?_
  refine thenN ?_
  refine wp_seq ?_
  obtain ⟨r23, hr23, H0⟩ := ob_split H0
  refine inReg ?_
  refine gg 1 [] [(0, vp b0), (1, vp b1), (11, vp b0)] hf22 ot fun a24 hf25 => ?_
  refine lo hf25 rfl (cl 12 hf25 callable17 (shelf_Shelf_All.calls _ _ _ x0 _ _ _ _ rfl _ _ _ rfl _ _ _ rfl (hm0.giveO [0, 1, 2, 3] [4, 5, 6, 7] [] [.bx b0 [.slice A0_0 x0.l.length c0_0, .slice A0_1 x0.vers.length c0_1, .slice A0_2 x0.grads.length c0_2] 72, .ow kTensor 29 A0_0 c0_0 x0.l, .ow (Kd.int .i64) 3 A0_1 c0_1 x0.vers, .ow kTensor 29 A0_2 c0_2 x0.grads] _ [] rfl rfl rfl (by kernel_rfl) rfl) r23 hr23) ?_)
  rintro _ w30 a31 ⟨A26, c27, A28, c29, rfl, hk33⟩ hf32
  have hm34 := hm0.backO [0, 1, 2, 3] [4, 5, 6, 7] _ _ rfl rfl (by kernel_rfl) hk33
  have hm35 := hm34.seal 4 _ rfl rfl
  have hm36 := hm35.seal 5 _ rfl rfl
  refine gg 5 [] [(0, vp b0), (1, vp b1), (5, .slice A26 r23.1.length c27), (6, .slice A28 r23.2.length c29)] hf32 ot fun a37 hf38 => ?_
  refine endL rfl ?_
  refine thenN ?_
  refine wp_seq ?_
  refine wp_seq ?_
  rcases if_split H0 with ⟨c39, H0⟩ | ⟨c39, H0⟩
  rotate_left
  · refine rg [.slice A1_0 x1.T.length c1_0, .bool true] [(0, vp b0), (1, vp b1), (5, .slice A26 r23.1.length c27), (6, .slice A28 r23.2.length c29), (32, .bool true)] hf38 (oc (hm36.cell (j := 0) 6 rfl rfl) (oi (neT c39) ot)) fun a539 hf540 => ?_
    refine thenN ?_
    refine cT hf540 ?_
    refine wp_seq ?_
    refine rg [] [(4, .bool false)] hf540 ot fun a541 hf542 => ?_
    have hm543 := hm36.se [0, 1, 2, 3, 6, 7, 8, 9] _ rfl
    refine thenN ?_
    refine wp_ret ?_
    refine thenR ?_
    have hm544 : Mem B0 M w0 [.bx b0 [.slice A0_0 x0.l.length c0_0, .slice A0_1 x0.vers.length c0_1, .slice A0_2 x0.grads.length c0_2] 72, .ow kTensor 29 A0_0 c0_0 x0.l, .ow (Kd.int .i64) 3 A0_1 c0_1 x0.vers, .ow kTensor 29 A0_2 c0_2 x0.grads, .bx b1 [.slice A1_0 x1.T.length c1_0, .slice A1_1 x1.G.length c1_1, .slice A1_2 x1.V.length c1_2] 65, .ow kTensor 29 A1_0 c1_0 x1.T, .ow kTensor 29 A1_1 c1_1 x1.G, .ow (Kd.int .i64) 3 A1_2 c1_2 x1.V] w30 := hm543.se [0, 1, 2, 3, 4, 5, 6, 7] _ rfl
    obtain rfl := Option.some.inj H0
    refine rt [] [.bool false] hf542 ot ?_
    exact ⟨_, rfl, rfl, hm544⟩
  rcases if_split H0 with ⟨c40, H0⟩ | ⟨c40, H0⟩
  rotate_left
  · refine rg [.slice A1_0 x1.T.length c1_0, .bool false, .slice A1_2 x1.V.length c1_2, .bool true] [(0, vp b0), (1, vp b1), (5, .slice A26 r23.1.length c27), (6, .slice A28 r23.2.length c29), (32, .bool true)] hf38 (oc (hm36.cell (j := 0) 6 rfl rfl) (oi (neF c39) (oc (hm36.cell (j := 2) 6 rfl rfl) (oi (neT c40) ot)))) fun a532 hf533 => ?_
    refine thenN ?_
    refine cT hf533 ?_
    refine wp_seq ?_
    refine rg [] [(4, .bool false)] hf533 ot fun a534 hf535 => ?_
    have hm536 := hm36.se [0, 1, 2, 3, 6, 7, 8, 9] _ rfl
    refine thenN ?_
    refine wp_ret ?_
    refine thenR ?_
    have hm537 : Mem B0 M w0 [.bx b0 [.slice A0_0 x0.l.length c0_0, .slice A0_1 x0.vers.length c0_1, .slice A0_2 x0.grads.length c0_2] 72, .ow kTensor 29 A0_0 c0_0 x0.l, .ow (Kd.int .i64) 3 A0_1 c0_1 x0.vers, .ow kTensor 29 A0_2 c0_2 x0.grads, .bx b1 [.slice A1_0 x1.T.length c1_0, .slice A1_1 x1.G.length c1_1, .slice A1_2 x1.V.length c1_2] 65, .ow kTensor 29 A1_0 c1_0 x1.T, .ow kTensor 29 A1_1 c1_1 x1.G, .ow (Kd.int .i64) 3 A1_2 c1_2 x1.V] w30 := hm536.se [0, 1, 2, 3, 4, 5, 6, 7] _ rfl
    obtain rfl := Option.some.inj H0
    refine rt [] [.bool false] hf535 ot ?_
    exact ⟨_, rfl, rfl, hm537⟩
  refine rg [.slice A1_0 x1.T.length c1_0, .bool false, .slice A1_2 x1.V.length c1_2, .bool false] [(0, vp b0), (1, vp b1), (5, .slice A26 r23.1.length c27), (6, .slice A28 r23.2.length c29), (32, .bool false)] hf38 (oc (hm36.cell (j := 0) 6 rfl rfl) (oi (neF c39) (oc (hm36.cell (j := 2) 6 rfl rfl) (oi (neF c40) ot)))) fun a41 hf42 => ?_
  refine thenN ?_
  refine cF hf42 ?_
  refine wp_skip ?_
  refine thenN ?_
  refine wp_seq ?_
  refine wp_seq ?_
  refine rg [] [(0, vp b0), (1, vp b1), (5, .slice A26 r23.1.length c27), (6, .slice A28 r23.2.length c29), (7, vi 0)] hf42 ot fun a43 hf44 => ?_
  refine thenN ?_
  obtain ⟨r46, hr46, H0⟩ := ob_split H0
  refine wpBlock (Mid := fun (a : Act) (w : World) => ∃ yr46 : Int, r46 = .go yr46 ∧ Fr 88 a [(0, .pointer (some ⟨b0, 0, none⟩)), (1, .pointer (some ⟨b1, 0, none⟩)), (5, .slice A26 r23.1.length c27), (6, .slice A28 r23.2.length c29), (7, .int .i64 yr46)] ∧ Mem B0 M w0 [.bx b0 [.slice A0_0 x0.l.length c0_0, .slice A0_1 x0.vers.length c0_1, .slice A0_2 x0.grads.length c0_2] 72, .ow kTensor 29 A0_0 c0_0 x0.l, .ow (Kd.int .i64) 3 A0_1 c0_1 x0.vers, .ow kTensor 29 A0_2 c0_2 x0.grads, .sl kTensor A26 c27 r23.1, .sl (Kd.int .i64) A28 c29 r23.2, .bx b1 [.slice A1_0 x1.T.length c1_0, .slice A1_1 x1.G.length c1_1, .slice A1_2 x1.V.length c1_2] 65, .ow kTensor 29 A1_0 c1_0 x1.T, .ow kTensor 29 A1_1 c1_1 x1.G, .ow (Kd.int .i64) 3 A1_2 c1_2 x1.V] w) ?_ ?_
  · refine wpLoop (law19_Same.l0 r23 x0 x1) r46 (fun (s45 : Int) (a : Act) (w : World) => Fr 88 a [(0, .pointer (some ⟨b0, 0, none⟩)), (1, .pointer (some ⟨b1, 0, none⟩)), (5, .slice A26 r23.1.length c27), (6, .slice A28 r23.2.length c29), (7, .int .i64 s45)] ∧ Mem B0 M w0 [.bx b0 [.slice A0_0 x0.l.length c0_0, .slice A0_1 x0.vers.length c0_1, .slice A0_2 x0.grads.length c0_2] 72, .ow kTensor 29 A0_0 c0_0 x0.l, .ow (Kd.int .i64) 3 A0_1 c0_1 x0.vers, .ow kTensor 29 A0_2 c0_2 x0.grads, .sl kTensor A26 c27 r23.1, .sl (Kd.int .i64) A28 c29 r23.2, .bx b1 [.slice A1_0 x1.T.length c1_0, .slice A1_1 x1.G.length c1_1, .slice A1_2 x1.V.length c1_2] 65, .ow kTensor 29 A1_0 c1_0 x1.T, .ow kTensor 29 A1_1 c1_1 x1.G, .ow (Kd.int .i64) 3 A1_2 c1_2 x1.V] w) 0 hr46 ⟨hf44.se [0, 1, 5, 6, 7], hm36.se [0, 1, 2, 3, 4, 5, 6, 7, 8, 9] _ rfl⟩ ?_
    rintro g47 s45 a48 w49 H1 ⟨hf50, hm51⟩
    unfold law19_Same.l0 at H1
    refine wp_seq ?_
    refine wp_seq ?_
    rcases ifS_split H1 with ⟨c52, H1⟩ | ⟨c52, H1⟩
    rotate_left
    · refine rg (ob := [.is (decide (s45 < (r23.1.length : Int)) = false)]) [.bool false] [(0, vp b0), (1, vp b1), (5, .slice A26 r23.1.length c27), (6, .slice A28 r23.2.length c29), (7, vi s45), (36, .bool false)] hf50 ⟨(decide_eq_false c52), trivial⟩ fun a521 hf522 => ?_
      refine thenN ?_
      refine cF hf522 ?_
      refine wp_exit ?_
      refine thenE ?_
      refine thenE ?_
      obtain rfl := Option.some.inj H1
      exact .inl ⟨rfl, s45, rfl, hf522.se [0, 1, 5, 6, 7], hm51.se [0, 1, 2, 3, 4, 5, 6, 7, 8, 9] _ rfl⟩
    refine rg (ob := [.is (decide (s45 < (r23.1.length : Int)) = true)]) [.bool true] [(0, vp b0), (1, vp b1), (5, .slice A26 r23.1.length c27), (6, .slice A28 r23.2.length c29), (7, vi s45), (36, .bool true)] hf50 ⟨(decide_eq_true c52), trivial⟩ fun a53 hf54 => ?_
    refine thenN ?_
    refine cT hf54 ?_
    refine wp_skip ?_
    refine thenN ?_
    refine wp_seq ?_
    refine wp_block ?_
    refine wp_seq ?_
    obtain ⟨r55, hr55, H1⟩ := obS_split H1
    refine inReg ?_
    refine gg 2 [] [(0, vp b0), (1, vp b1), (5, .slice A26 r23.1.length c27), (6, .slice A28 r23.2.length c29), (7, vi s45), (40, vp b0), (41, vi s45)] hf54 ot fun a56 hf57 => ?_
    refine lo hf57 rfl (cl 42 hf57 callable13 (shelf_Shelf_Grad.calls _ _ _ x0 _ _ _ _ rfl _ _ _ rfl _ _ _ rfl s45 (hm51.giveO [0, 1, 2, 3] [4, 5, 6, 7, 8, 9] [] [.bx b0 [.slice A0_0 x0.l.length c0_0, .slice A0_1 x0.vers.length c0_1, .slice A0_2 x0.grads.length c0_2] 72, .ow kTensor 29 A0_0 c0_0 x0.l, .ow (Kd.int .i64) 3 A0_1 c0_1 x0.vers, .ow kTensor 29 A0_2 c0_2 x0.grads] _ [] rfl rfl rfl (by kernel_rfl) rfl) r55 hr55) ?_)
    rintro _ w62 a63 ⟨A58, c59, A60, c61, rfl, hk66⟩ hf65
    have hm67 := hm51.backO [0, 1, 2, 3] [4, 5, 6, 7, 8, 9] _ _ rfl rfl (by kernel_rfl) hk66
    have hm68 := hm67.seal 4 _ rfl rfl
    have hm69 := hm68.seal 5 _ rfl rfl
    refine gg 3 [] [(0, vp b0), (1, vp b1), (5, .slice A26 r23.1.length c27), (6, .slice A28 r23.2.length c29), (7, vi s45), (43, .agg #[.slice A58 r55.1.Shape.length c59, .slice A60 r55.1.Data.length c61]), (44, vi r55.2)] hf65 ot fun a70 hf71 => ?_
    refine lo hf71 rfl (nw (cs := [.slice none 0 0, .slice none 0 0]) (T := 29) (d := 8) hf71 ?_)
    intro b72 w73 a74 hbb72 hx76 hg77 hf75
    have hm78 := hm69.box hbb72 hx76 hg77
    refine lo hf75 rfl (sb (j := 0) (us := [.slice A58 r55.1.Shape.length c59, .slice A60 r55.1.Data.length c61]) (cs' := [.slice A58 r55.1.Shape.length c59, .slice A60 r55.1.Data.length c61]) hf75 (hm78.bxAt 0 rfl) ?_)
    intro w79 hx80 hg81
    have hm82 := hm78.setBox 0 _ rfl rfl hx80 hg81
    refine gg 1 [] [(0, vp b0), (1, vp b1), (5, .slice A26 r23.1.length c27), (6, .slice A28 r23.2.length c29), (7, vi s45), (8, vp b72), (9, vi r55.2)] hf75 ot fun a83 hf84 => ?_
    refine endL rfl ?_
    refine thenN ?_
    refine wp_seq ?_
    rcases ifS_split H1 with ⟨c85, H1⟩ | ⟨c85, H1⟩
    rotate_left
    · refine rq [.bool true] [(0, vp b0), (1, vp b1), (5, .slice A26 r23.1.length c27), (6, .slice A28 r23.2.length c29), (7, vi s45), (87, .bool true)] hf84 (oi (neT c85) ot) fun a510 w512 hf511 hg513 => ?_
      have hm514 := hm82.still hg513
      have hm515 := hm514.se [1, 2, 3, 4, 7, 8, 9, 10, 11, 12] _ rfl
      refine thenN ?_
      refine cT hf511 ?_
      refine wp_seq ?_
      refine rg [] [(4, .bool false)] hf511 ot fun a516 hf517 => ?_
      have hm518 := hm515.se [0, 1, 2, 3, 6, 7, 8, 9] _ rfl
      refine thenN ?_
      refine wp_ret ?_
      refine blkR ?_
      refine thenR ?_
      refine thenR ?_
      refine .inr ⟨rfl, ?_⟩
      refine thenR ?_
      have hm519 : Mem B0 M w0 [.bx b0 [.slice A0_0 x0.l.length c0_0, .slice A0_1 x0.vers.length c0_1, .slice A0_2 x0.grads.length c0_2] 72, .ow kTensor 29 A0_0 c0_0 x0.l, .ow (Kd.int .i64) 3 A0_1 c0_1 x0.vers, .ow kTensor 29 A0_2 c0_2 x0.grads, .bx b1 [.slice A1_0 x1.T.length c1_0, .slice A1_1 x1.G.length c1_1, .slice A1_2 x1.V.length c1_2] 65, .ow kTensor 29 A1_0 c1_0 x1.T, .ow kTensor 29 A1_1 c1_1 x1.G, .ow (Kd.int .i64) 3 A1_2 c1_2 x1.V] w512 := hm518.se [0, 1, 2, 3, 4, 5, 6, 7] _ rfl
      obtain rfl := Option.some.inj H1
      obtain rfl := Option.some.inj H0
      refine rt [] [.bool false] hf517 ot ?_
      exact ⟨_, rfl, rfl, hm519⟩
    obtain ⟨g86, H1⟩ := ifS_guard H1
    obtain ⟨g87, H1⟩ := ifS_guard H1
    rcases ifS_split H1 with ⟨c88, H1⟩ | ⟨c88, H1⟩
    rotate_left
    · have q497 := (hm82.slAt 8 rfl).int s45 g86.1 g86.2
      have q498 := (hm82.owAt 12 rfl).int s45 g87.1 g87.2
      refine rq [.bool false, .int .i64 (rd r23.2 s45), .slice A1_2 x1.V.length c1_2, .int .i64 (rd x1.V s45), .bool true] [(0, vp b0), (1, vp b1), (5, .slice A26 r23.1.length c27), (6, .slice A28 r23.2.length c29), (7, vi s45), (87, .bool true)] hf84 (oi (neF c85) (oi q497.1 (oi g86 (oc q497.2 (oc (hm82.cell (j := 2) 9 rfl rfl) (oi q498.1 (oi g87 (oc q498.2 (oi (neT c88) ot))))))))) fun a499 w501 hf500 hg502 => ?_
      have hm503 := hm82.still hg502
      have hm504 := hm503.se [1, 2, 3, 4, 7, 8, 9, 10, 11, 12] _ rfl
      refine thenN ?_
      refine cT hf500 ?_
      refine wp_seq ?_
      refine rg [] [(4, .bool false)] hf500 ot fun a505 hf506 => ?_
      have hm507 := hm504.se [0, 1, 2, 3, 6, 7, 8, 9] _ rfl
      refine thenN ?_
      refine wp_ret ?_
      refine blkR ?_
      refine thenR ?_
      refine thenR ?_
      refine .inr ⟨rfl, ?_⟩
      refine thenR ?_
      have hm508 : Mem B0 M w0 [.bx b0 [.slice A0_0 x0.l.length c0_0, .slice A0_1 x0.vers.length c0_1, .slice A0_2 x0.grads.length c0_2] 72, .ow kTensor 29 A0_0 c0_0 x0.l, .ow (Kd.int .i64) 3 A0_1 c0_1 x0.vers, .ow kTensor 29 A0_2 c0_2 x0.grads, .bx b1 [.slice A1_0 x1.T.length c1_0, .slice A1_1 x1.G.length c1_1, .slice A1_2 x1.V.length c1_2] 65, .ow kTensor 29 A1_0 c1_0 x1.T, .ow kTensor 29 A1_1 c1_1 x1.G, .ow (Kd.int .i64) 3 A1_2 c1_2 x1.V] w501 := hm507.se [0, 1, 2, 3, 4, 5, 6, 7] _ rfl
      obtain rfl := Option.some.inj H1
      obtain rfl := Option.some.inj H0
      refine rt [] [.bool false] hf506 ot ?_
      exact ⟨_, rfl, rfl, hm508⟩
    obtain ⟨g89, H1⟩ := ifS_guard H1
    obtain ⟨g90, H1⟩ := ifS_guard H1
    obtain ⟨r91, hr91, H1⟩ := obS_split H1
    rcases ifbS_split H1 with ⟨c92, H1⟩ | ⟨c92, H1⟩
    rotate_left
    · refine midReg (fun (a : Act) (w : World) => Fr 88 a [(0, .pointer (some ⟨b0, 0, none⟩)), (1, .pointer (some ⟨b1, 0, none⟩)), (5, .slice A26 r23.1.length c27), (6, .slice A28 r23.2.length c29), (7, .int .i64 s45), (87, .bool true)] ∧ Mem B0 M w0 [.bx b0 [.slice A0_0 x0.l.length c0_0, .slice A0_1 x0.vers.length c0_1, .slice A0_2 x0.grads.length c0_2] 72, .ow kTensor 29 A0_0 c0_0 x0.l, .ow (Kd.int .i64) 3 A0_1 c0_1 x0.vers, .ow kTensor 29 A0_2 c0_2 x0.grads, .sl kTensor A26 c27 r23.1, .sl (Kd.int .i64) A28 c29 r23.2, .bx b1 [.slice A1_0 x1.T.length c1_0, .slice A1_1 x1.G.length c1_1, .slice A1_2 x1.V.length c1_2] 65, .ow kTensor 29 A1_0 c1_0 x1.T, .ow kTensor 29 A1_1 c1_1 x1.G, .ow (Kd.int .i64) 3 A1_2 c1_2 x1.V] w) ?_ ?_
      · refine anyG (K := []) [] (by kernel_rfl) fun w423 hg424 => ?_
        have hm425 := hm82.still hg424
        have q457 := (hm425.slAt 8 rfl).int s45 g86.1 g86.2
        have q458 := (hm425.owAt 12 rfl).int s45 g87.1 g87.2
        have q459 := (hm425.slAt 7 rfl).get s45 g89.1 g89.2
        obtain ⟨us460, hr461, hc462⟩ := q459.2
        obtain ⟨A463, c464, A465, c466, rfl, ⟨pA463, sA463⟩, ⟨pA465, sA465⟩⟩ := kTensor.open hr461
        have hm467 := hm425.elem pA463 sA463
        have hm468 := hm467.elem pA465 sA465
        have q469 := (hm468.owAt 12 rfl).cells s45 g90.1 g90.2
        obtain ⟨us470, hr471, hc472⟩ := q469.2
        obtain ⟨A473, c474, A475, c476, rfl, ⟨pA473, sA473⟩, ⟨pA475, sA475⟩⟩ := kTensor.open hr471
        have hm477 := hm468.elem pA473 sA473
        have hm478 := hm477.elem pA475 sA475
        refine qt [0, 1, 2, 3, 4, 5, 6, 7, 8, 9, 10, 11, 12, 13, 14, 15, 16, 17, 18, 19, 20, 21, 22, 23, 24, 25, 26, 27] [.bool false, .int .i64 (rd r23.2 s45), .slice A1_2 x1.V.length c1_2, .int .i64 (rd x1.V s45), .bool false, .agg #[.slice A463 (rd r23.1 s45).Shape.length c464, .slice A465 (rd r23.1 s45).Data.length c466], .slice A1_0 x1.T.length c1_0, .agg #[.slice A473 (rd x1.T s45).Shape.length c474, .slice A475 (rd x1.T s45).Data.length c476]] (fb 43 268435455) [(0, vp b0), (1, vp b1), (5, .slice A26 r23.1.length c27), (6, .slice A28 r23.2.length c29), (7, vi s45), (8, vp b72), (61, .bool false), (65, .agg #[.slice A463 (rd r23.1 s45).Shape.length c464, .slice A465 (rd r23.1 s45).Data.length c466]), (72, .agg #[.slice A473 (rd x1.T s45).Shape.length c474, .slice A475 (rd x1.T s45).Data.length c476])] 15 hf84 (oi (neF c85) (oi q457.1 (oi g86 (oc q457.2 (oc (hm425.cell (j := 2) 9 rfl rfl) (oi q458.1 (oi g87 (oc q458.2 (oi (neF c88) (oi q459.1 (oi g89 (oc (hc462 0 _ rfl) (oc (hc462 1 _ rfl) (oc (hm468.cell (j := 0) 11 rfl rfl) (oi q469.1 (oi g90 (oc (hc472 0 _ rfl) (oc (hc472 1 _ rfl) ot)))))))))))))))))) fun a479 hf480 => ?_
        refine a1 28 ?_
        refine oo hf480 rfl (cl 73 hf480 callable24 (ref1_SameTensor.calls _ _ _ _ _ _ rfl _ _ _ rfl _ _ _ _ rfl _ _ _ rfl (hm478.give [3, 2, 1, 0] [.sl (Kd.int .i64) A463 c464 (rd r23.1 s45).Shape, .sl Kd.float A465 c466 (rd r23.1 s45).Data, .sl (Kd.int .i64) A473 c474 (rd x1.T s45).Shape, .sl Kd.float A475 c476 (rd x1.T s45).Data] rfl rfl) r91 hr91) ?_)
        rintro _ w481 a482 ⟨rfl, hk484⟩ hf483
        refine ⟨.inr (Gr.still hk484.cum.none), ?_⟩
        have hm485 := hm478.still hk484.cum.none
        rw [c92] at hf483
        refine qt [29, 30, 31, 32, 33, 34, 35, 36, 37, 38, 39, 40, 41, 42] [] (fb 43 8796093022207) [(0, vp b0), (1, vp b1), (5, .slice A26 r23.1.length c27), (6, .slice A28 r23.2.length c29), (7, vi s45), (87, .bool true)] 0 hf483 ot fun a486 hf487 => ?_
        refine aD ⟨rfl, hf487.se [0, 1, 5, 6, 7, 87], hm485.se [5, 6, 7, 8, 11, 12, 13, 14, 15, 16] _ rfl⟩
      rintro a488 w489 ⟨hf490, hm491⟩
      refine thenN ?_
      refine cT hf490 ?_
      refine wp_seq ?_
      refine rg [] [(4, .bool false)] hf490 ot fun a492 hf493 => ?_
      have hm494 := hm491.se [0, 1, 2, 3, 6, 7, 8, 9] _ rfl
      refine thenN ?_
      refine wp_ret ?_
      refine blkR ?_
      refine thenR ?_
      refine thenR ?_
      refine .inr ⟨rfl, ?_⟩
      refine thenR ?_
      have hm495 : Mem B0 M w0 [.bx b0 [.slice A0_0 x0.l.length c0_0, .slice A0_1 x0.vers.length c0_1, .slice A0_2 x0.grads.length c0_2] 72, .ow kTensor 29 A0_0 c0_0 x0.l, .ow (Kd.int .i64) 3 A0_1 c0_1 x0.vers, .ow kTensor 29 A0_2 c0_2 x0.grads, .bx b1 [.slice A1_0 x1.T.length c1_0, .slice A1_1 x1.G.length c1_1, .slice A1_2 x1.V.length c1_2] 65, .ow kTensor 29 A1_0 c1_0 x1.T, .ow kTensor 29 A1_1 c1_1 x1.G, .ow (Kd.int .i64) 3 A1_2 c1_2 x1.V] w489 := hm494.se [0, 1, 2, 3, 4, 5, 6, 7] _ rfl
      obtain rfl := Option.some.inj H1
      obtain rfl := Option.some.inj H0
      refine rt [] [.bool false] hf493 ot ?_
      exact ⟨_, rfl, rfl, hm495⟩
    obtain ⟨g93, H1⟩ := ifS_guard H1
    obtain ⟨r94, hr94, H1⟩ := obS_split H1
    rcases ifbS_split H1 with ⟨c95, H1⟩ | ⟨c95, H1⟩
    · refine midReg (fun (a : Act) (w : World) => Fr 88 a [(0, .pointer (some ⟨b0, 0, none⟩)), (1, .pointer (some ⟨b1, 0, none⟩)), (5, .slice A26 r23.1.length c27), (6, .slice A28 r23.2.length c29), (7, .int .i64 s45), (87, .bool false)] ∧ Mem B0 M w0 [.bx b0 [.slice A0_0 x0.l.length c0_0, .slice A0_1 x0.vers.length c0_1, .slice A0_2 x0.grads.length c0_2] 72, .ow kTensor 29 A0_0 c0_0 x0.l, .ow (Kd.int .i64) 3 A0_1 c0_1 x0.vers, .ow kTensor 29 A0_2 c0_2 x0.grads, .sl kTensor A26 c27 r23.1, .sl (Kd.int .i64) A28 c29 r23.2, .bx b1 [.slice A1_0 x1.T.length c1_0, .slice A1_1 x1.G.length c1_1, .slice A1_2 x1.V.length c1_2] 65, .ow kTensor 29 A1_0 c1_0 x1.T, .ow kTensor 29 A1_1 c1_1 x1.G, .ow (Kd.int .i64) 3 A1_2 c1_2 x1.V] w) ?_ ?_
      · refine anyG (K := []) [] (by kernel_rfl) fun w139 hg140 => ?_
        have hm141 := hm82.still hg140
        have q190 := (hm141.slAt 8 rfl).int s45 g86.1 g86.2
        have q191 := (hm141.owAt 12 rfl).int s45 g87.1 g87.2
        have q192 := (hm141.slAt 7 rfl).get s45 g89.1 g89.2
        obtain ⟨us193, hr194, hc195⟩ := q192.2
        obtain ⟨A196, c197, A198, c199, rfl, ⟨pA196, sA196⟩, ⟨pA198, sA198⟩⟩ := kTensor.open hr194
        have hm200 := hm141.elem pA196 sA196
        have hm201 := hm200.elem pA198 sA198
        have q202 := (hm201.owAt 12 rfl).cells s45 g90.1 g90.2
        obtain ⟨us203, hr204, hc205⟩ := q202.2
        obtain ⟨A206, c207, A208, c209, rfl, ⟨pA206, sA206⟩, ⟨pA208, sA208⟩⟩ := kTensor.open hr204
        have hm210 := hm201.elem pA206 sA206
        have hm211 := hm210.elem pA208 sA208
        refine qt [0, 1, 2, 3, 4, 5, 6, 7, 8, 9, 10, 11, 12, 13, 14, 15, 16, 17, 18, 19, 20, 21, 22, 23, 24, 25, 26, 27] [.bool false, .int .i64 (rd r23.2 s45), .slice A1_2 x1.V.length c1_2, .int .i64 (rd x1.V s45), .bool false, .agg #[.slice A196 (rd r23.1 s45).Shape.length c197, .slice A198 (rd r23.1 s45).Data.length c199], .slice A1_0 x1.T.length c1_0, .agg #[.slice A206 (rd x1.T s45).Shape.length c207, .slice A208 (rd x1.T s45).Data.length c209]] (fb 43 268435455) [(0, vp b0), (1, vp b1), (5, .slice A26 r23.1.length c27), (6, .slice A28 r23.2.length c29), (7, vi s45), (8, vp b72), (61, .bool false), (65, .agg #[.slice A196 (rd r23.1 s45).Shape.length c197, .slice A198 (rd r23.1 s45).Data.length c199]), (72, .agg #[.slice A206 (rd x1.T s45).Shape.length c207, .slice A208 (rd x1.T s45).Data.length c209])] 15 hf84 (oi (neF c85) (oi q190.1 (oi g86 (oc q190.2 (oc (hm141.cell (j := 2) 9 rfl rfl) (oi q191.1 (oi g87 (oc q191.2 (oi (neF c88) (oi q192.1 (oi g89 (oc (hc195 0 _ rfl) (oc (hc195 1 _ rfl) (oc (hm201.cell (j := 0) 11 rfl rfl) (oi q202.1 (oi g90 (oc (hc205 0 _ rfl) (oc (hc205 1 _ rfl) ot)))))))))))))))))) fun a212 hf213 => ?_
        refine a1 28 ?_
        refine oo hf213 rfl (cl 73 hf213 callable24 (ref1_SameTensor.calls _ _ _ _ _ _ rfl _ _ _ rfl _ _ _ _ rfl _ _ _ rfl (hm211.give [3, 2, 1, 0] [.sl (Kd.int .i64) A196 c197 (rd r23.1 s45).Shape, .sl Kd.float A198 c199 (rd r23.1 s45).Data, .sl (Kd.int .i64) A206 c207 (rd x1.T s45).Shape, .sl Kd.float A208 c209 (rd x1.T s45).Data] rfl rfl) r91 hr91) ?_)
        rintro _ w214 a215 ⟨rfl, hk217⟩ hf216
        refine ⟨.inr (Gr.still hk217.cum.none), ?_⟩
        have hm218 := hm211.still hk217.cum.none
        rw [c92] at hf216
        have q219 := (hm218.owAt 15 rfl).cells s45 g93.1 g93.2
        obtain ⟨us220, hr221, hc222⟩ := q219.2
        obtain ⟨A223, c224, A225, c226, rfl, ⟨pA223, sA223⟩, ⟨pA225, sA225⟩⟩ := kTensor.open hr221
        have hm227 := hm218.elem pA223 sA223
        have hm228 := hm227.elem pA225 sA225
        refine qt [29, 30, 31, 32, 33, 34, 35, 36, 37, 38, 39] [.agg #[.slice A58 r55.1.Shape.length c59, .slice A60 r55.1.Data.length c61], .slice A1_1 x1.G.length c1_1, .agg #[.slice A223 (rd x1.G s45).Shape.length c224, .slice A225 (rd x1.G s45).Data.length c226]] (fb 43 1099511627775) [(0, vp b0), (1, vp b1), (5, .slice A26 r23.1.length c27), (6, .slice A28 r23.2.length c29), (7, vi s45), (76, .bool false), (77, .agg #[.slice A58 r55.1.Shape.length c59, .slice A60 r55.1.Data.length c61]), (84, .agg #[.slice A223 (rd x1.G s45).Shape.length c224, .slice A225 (rd x1.G s45).Data.length c226])] 3 hf216 (oc (hm218.cell (j := 0) 4 rfl rfl) (oc (hm218.cell (j := 1) 4 rfl rfl) (oc (hm218.cell (j := 1) 13 rfl rfl) (oi q219.1 (oi g93 (oc (hc222 0 _ rfl) (oc (hc222 1 _ rfl) ot))))))) fun a229 hf230 => ?_
        refine a1 40 ?_
        refine oo hf230 rfl (cl 85 hf230 callable24 (ref1_SameTensor.calls _ _ _ _ _ _ rfl _ _ _ rfl _ _ _ _ rfl _ _ _ rfl (hm228.give [11, 12, 1, 0] [.sl (Kd.int .i64) A58 c59 r55.1.Shape, .sl Kd.float A60 c61 r55.1.Data, .sl (Kd.int .i64) A223 c224 (rd x1.G s45).Shape, .sl Kd.float A225 c226 (rd x1.G s45).Data] rfl rfl) r94 hr94) ?_)
        rintro _ w231 a232 ⟨rfl, hk234⟩ hf233
        refine ⟨.inr (Gr.still hk234.cum.none), ?_⟩
        have hm235 := hm228.still hk234.cum.none
        rw [c95] at hf233
        refine qt [41, 42] [] (fb 43 8796093022207) [(0, vp b0), (1, vp b1), (5, .slice A26 r23.1.length c27), (6, .slice A28 r23.2.length c29), (7, vi s45), (87, .bool false)] 0 hf233 ot fun a236 hf237 => ?_
        refine aD ⟨rfl, hf237.se [0, 1, 5, 6, 7, 87], hm235.se [7, 8, 9, 10, 13, 14, 15, 16, 17, 18] _ rfl⟩
      rintro a238 w239 ⟨hf240, hm241⟩
      refine thenN ?_
      refine cF hf240 ?_
      refine wp_skip ?_
      refine blkN ?_
      refine thenN ?_
      refine rg [] [(0, vp b0), (1, vp b1), (5, .slice A26 r23.1.length c27), (6, .slice A28 r23.2.length c29), (7, vi (w64 (s45 + 1)))] hf240 ot fun a242 hf243 => ?_
      exact ⟨(w64 (s45 + 1)), H1, hf243.se [0, 1, 5, 6, 7], hm241.se [0, 1, 2, 3, 4, 5, 6, 7, 8, 9] _ rfl⟩
    refine midReg (fun (a : Act) (w : World) => Fr 88 a [(0, .pointer (some ⟨b0, 0, none⟩)), (1, .pointer (some ⟨b1, 0, none⟩)), (5, .slice A26 r23.1.length c27), (6, .slice A28 r23.2.length c29), (7, .int .i64 s45), (87, .bool true)] ∧ Mem B0 M w0 [.bx b0 [.slice A0_0 x0.l.length c0_0, .slice A0_1 x0.vers.length c0_1, .slice A0_2 x0.grads.length c0_2] 72, .ow kTensor 29 A0_0 c0_0 x0.l, .ow (Kd.int .i64) 3 A0_1 c0_1 x0.vers, .ow kTensor 29 A0_2 c0_2 x0.grads, .sl kTensor A26 c27 r23.1, .sl (Kd.int .i64) A28 c29 r23.2, .bx b1 [.slice A1_0 x1.T.length c1_0, .slice A1_1 x1.G.length c1_1, .slice A1_2 x1.V.length c1_2] 65, .ow kTensor 29 A1_0 c1_0 x1.T, .ow kTensor 29 A1_1 c1_1 x1.G, .ow (Kd.int .i64) 3 A1_2 c1_2 x1.V] w) ?_ ?_
    · refine anyG (K := []) [] (by kernel_rfl) fun w287 hg288 => ?_
      have hm289 := hm82.still hg288
      have q338 := (hm289.slAt 8 rfl).int s45 g86.1 g86.2
      have q339 := (hm289.owAt 12 rfl).int s45 g87.1 g87.2
      have q340 := (hm289.slAt 7 rfl).get s45 g89.1 g89.2
      obtain ⟨us341, hr342, hc343⟩ := q340.2
      obtain ⟨A344, c345, A346, c347, rfl, ⟨pA344, sA344⟩, ⟨pA346, sA346⟩⟩ := kTensor.open hr342
      have hm348 := hm289.elem pA344 sA344
      have hm349 := hm348.elem pA346 sA346
      have q350 := (hm349.owAt 12 rfl).cells s45 g90.1 g90.2
      obtain ⟨us351, hr352, hc353⟩ := q350.2
      obtain ⟨A354, c355, A356, c357, rfl, ⟨pA354, sA354⟩, ⟨pA356, sA356⟩⟩ := kTensor.open hr352
      have hm358 := hm349.elem pA354 sA354
      have hm359 := hm358.elem pA356 sA356
      refine qt [0, 1, 2, 3, 4, 5, 6, 7, 8, 9, 10, 11, 12, 13, 14, 15, 16, 17, 18, 19, 20, 21, 22, 23, 24, 25, 26, 27] [.bool false, .int .i64 (rd r23.2 s45), .slice A1_2 x1.V.length c1_2, .int .i64 (rd x1.V s45), .bool false, .agg #[.slice A344 (rd r23.1 s45).Shape.length c345, .slice A346 (rd r23.1 s45).Data.length c347], .slice A1_0 x1.T.length c1_0, .agg #[.slice A354 (rd x1.T s45).Shape.length c355, .slice A356 (rd x1.T s45).Data.length c357]] (fb 43 268435455) [(0, vp b0), (1, vp b1), (5, .slice A26 r23.1.length c27), (6, .slice A28 r23.2.length c29), (7, vi s45), (8, vp b72), (61, .bool false), (65, .agg #[.slice A344 (rd r23.1 s45).Shape.length c345, .slice A346 (rd r23.1 s45).Data.length c347]), (72, .agg #[.slice A354 (rd x1.T s45).Shape.length c355, .slice A356 (rd x1.T s45).Data.length c357])] 15 hf84 (oi (neF c85) (oi q338.1 (oi g86 (oc q338.2 (oc (hm289.cell (j := 2) 9 rfl rfl) (oi q339.1 (oi g87 (oc q339.2 (oi (neF c88) (oi q340.1 (oi g89 (oc (hc343 0 _ rfl) (oc (hc343 1 _ rfl) (oc (hm349.cell (j := 0) 11 rfl rfl) (oi q350.1 (oi g90 (oc (hc353 0 _ rfl) (oc (hc353 1 _ rfl) ot)))))))))))))))))) fun a360 hf361 => ?_
      refine a1 28 ?_
      refine oo hf361 rfl (cl 73 hf361 callable24 (ref1_SameTensor.calls _ _ _ _ _ _ rfl _ _ _ rfl _ _ _ _ rfl _ _ _ rfl (hm359.give [3, 2, 1, 0] [.sl (Kd.int .i64) A344 c345 (rd r23.1 s45).Shape, .sl Kd.float A346 c347 (rd r23.1 s45).Data, .sl (Kd.int .i64) A354 c355 (rd x1.T s45).Shape, .sl Kd.float A356 c357 (rd x1.T s45).Data] rfl rfl) r91 hr91) ?_)
      rintro _ w362 a363 ⟨rfl, hk365⟩ hf364
      refine ⟨.inr (Gr.still hk365.cum.none), ?_⟩
      have hm366 := hm359.still hk365.cum.none
      rw [c92] at hf364
      have q367 := (hm366.owAt 15 rfl).cells s45 g93.1 g93.2
      obtain ⟨us368, hr369, hc370⟩ := q367.2
      obtain ⟨A371, c372, A373, c374, rfl, ⟨pA371, sA371⟩, ⟨pA373, sA373⟩⟩ := kTensor.open hr369
      have hm375 := hm366.elem pA371 sA371
      have hm376 := hm375.elem pA373 sA373
      refine qt [29, 30, 31, 32, 33, 34, 35, 36, 37, 38, 39] [.agg #[.slice A58 r55.1.Shape.length c59, .slice A60 r55.1.Data.length c61], .slice A1_1 x1.G.length c1_1, .agg #[.slice A371 (rd x1.G s45).Shape.length c372, .slice A373 (rd x1.G s45).Data.length c374]] (fb 43 1099511627775) [(0, vp b0), (1, vp b1), (5, .slice A26 r23.1.length c27), (6, .slice A28 r23.2.length c29), (7, vi s45), (76, .bool false), (77, .agg #[.slice A58 r55.1.Shape.length c59, .slice A60 r55.1.Data.length c61]), (84, .agg #[.slice A371 (rd x1.G s45).Shape.length c372, .slice A373 (rd x1.G s45).Data.length c374])] 3 hf364 (oc (hm366.cell (j := 0) 4 rfl rfl) (oc (hm366.cell (j := 1) 4 rfl rfl) (oc (hm366.cell (j := 1) 13 rfl rfl) (oi q367.1 (oi g93 (oc (hc370 0 _ rfl) (oc (hc370 1 _ rfl) ot))))))) fun a377 hf378 => ?_
      refine a1 40 ?_
      refine oo hf378 rfl (cl 85 hf378 callable24 (ref1_SameTensor.calls _ _ _ _ _ _ rfl _ _ _ rfl _ _ _ _ rfl _ _ _ rfl (hm376.give [11, 12, 1, 0] [.sl (Kd.int .i64) A58 c59 r55.1.Shape, .sl Kd.float A60 c61 r55.1.Data, .sl (Kd.int .i64) A371 c372 (rd x1.G s45).Shape, .sl Kd.float A373 c374 (rd x1.G s45).Data] rfl rfl) r94 hr94) ?_)
      rintro _ w379 a380 ⟨rfl, hk382⟩ hf381
      refine ⟨.inr (Gr.still hk382.cum.none), ?_⟩
      have hm383 := hm376.still hk382.cum.none
      rw [c95] at hf381
      refine qt [41, 42] [] (fb 43 8796093022207) [(0, vp b0), (1, vp b1), (5, .slice A26 r23.1.length c27), (6, .slice A28 r23.2.length c29), (7, vi s45), (87, .bool true)] 0 hf381 ot fun a384 hf385 => ?_
      refine aD ⟨rfl, hf385.se [0, 1, 5, 6, 7, 87], hm383.se [7, 8, 9, 10, 13, 14, 15, 16, 17, 18] _ rfl⟩
    rintro a386 w387 ⟨hf388, hm389⟩
    refine thenN ?_
    refine cT hf388 ?_
    refine wp_seq ?_
    refine rg [] [(4, .bool false)] hf388 ot fun a390 hf391 => ?_
    have hm392 := hm389.se [0, 1, 2, 3, 6, 7, 8, 9] _ rfl
    refine thenN ?_
    refine wp_ret ?_
    refine blkR ?_
    refine thenR ?_
    refine thenR ?_
    refine .inr ⟨rfl, ?_⟩
    refine thenR ?_
    have hm393 : Mem B0 M w0 [.bx b0 [.slice A0_0 x0.l.length c0_0, .slice A0_1 x0.vers.length c0_1, .slice A0_2 x0.grads.length c0_2] 72, .ow kTensor 29 A0_0 c0_0 x0.l, .ow (Kd.int .i64) 3 A0_1 c0_1 x0.vers, .ow kTensor 29 A0_2 c0_2 x0.grads, .bx b1 [.slice A1_0 x1.T.length c1_0, .slice A1_1 x1.G.length c1_1, .slice A1_2 x1.V.length c1_2] 65, .ow kTensor 29 A1_0 c1_0 x1.T, .ow kTensor 29 A1_1 c1_1 x1.G, .ow (Kd.int .i64) 3 A1_2 c1_2 x1.V] w387 := hm392.se [0, 1, 2, 3, 4, 5, 6, 7] _ rfl
    obtain rfl := Option.some.inj H1
    obtain rfl := Option.some.inj H0
    refine rt [] [.bool false] hf391 ot ?_
    exact ⟨_, rfl, rfl, hm393⟩
  rintro a523 w524 ⟨yr46, rfl, hf525, hm526⟩
  refine thenN ?_
  refine wp_seq ?_
  refine rg [] [(4, .bool true)] hf525 ot fun a527 hf528 => ?_
  have hm529 := hm526.se [0, 1, 2, 3, 6, 7, 8, 9] _ rfl
  refine thenN ?_
  refine wp_ret ?_
  have hm530 : Mem B0 M w0 [.bx b0 [.slice A0_0 x0.l.length c0_0, .slice A0_1 x0.vers.length c0_1, .slice A0_2 x0.grads.length c0_2] 72, .ow kTensor 29 A0_0 c0_0 x0.l, .ow (Kd.int .i64) 3 A0_1 c0_1 x0.vers, .ow kTensor 29 A0_2 c0_2 x0.grads, .bx b1 [.slice A1_0 x1.T.length c1_0, .slice A1_1 x1.G.length c1_1, .slice A1_2 x1.V.length c1_2] 65, .ow kTensor 29 A1_0 c1_0 x1.T, .ow kTensor 29 A1_1 c1_1 x1.G, .ow (Kd.int .i64) 3 A1_2 c1_2 x1.V] w524 := hm529.se [0, 1, 2, 3, 4, 5, 6, 7] _ rfl
  obtain rfl := Option.some.inj H0
  refine rt [] [.bool true] hf528 ot ?_
  exact ⟨_, rfl, rfl, hm530⟩
end Go.Proofs.Yteaoijahdinciaa
