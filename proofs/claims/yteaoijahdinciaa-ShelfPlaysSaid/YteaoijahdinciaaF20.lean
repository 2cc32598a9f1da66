/- Printed by gen.py. -/
import Derived.Test.YteaoijahdinciaaF12
import Derived.Test.YteaoijahdinciaaF19
import Derived.Test.YteaoijahdinciaaF2
import Derived.Test.YteaoijahdinciaaF7
import Derived.Test.YteaoijahdinciaaF9
namespace Go.Proofs.Yteaoijahdinciaa
open Go Go.RowKit
set_option linter.unusedSimpArgs false
set_option linter.unusedVariables false
set_option linter.unnecessarySimpa false
/-! ### (*backstitch/backstitchref19.Shelf).Commit -/
noncomputable def ref19_Shelf_Commit.l0 (x1 : (List Tensor)) (x0 : Shelf65) (s28 : Int) : Step Int (Out2 Int ((List Tensor) × Int)) :=
  if s28 < (x1.length : Int) then (if 0 ≤ s28 ∧ s28 < (x1.length : Int) then (bindS (ref1_TensorMay.f (⟨(rd x1 s28).Shape, (rd x1 s28).Data⟩ : Tensor)) fun r39 =>
  if r39 = true then (if 0 ≤ s28 ∧ s28 < (x0.T.length : Int) then (bindS (ref1_SameInts.f (rd x1 s28).Shape (rd x0.T s28).Shape) fun r42 =>
  if r42 = true then (.next (w64 (s28 + 1)))
  else (.done (.ret (x0.G, 2))))
  else .bad)
  else (.done (.ret (x0.G, 2))))
  else .bad)
  else (.done (.go s28))
noncomputable def ref19_Shelf_Commit.l1 (x1 : (List Tensor)) (s406 : (Int × (List Tensor))) : Step (Int × (List Tensor)) (Int × (List Tensor)) :=
  if s406.1 < (x1.length : Int) then (if 0 ≤ s406.1 ∧ s406.1 < (s406.2.length : Int) then (if 0 ≤ s406.1 ∧ s406.1 < (x1.length : Int) then (bindS (ref1_Two.f 4 (⟨(rd s406.2 s406.1).Shape, (rd s406.2 s406.1).Data⟩ : Tensor) (⟨(rd x1 s406.1).Shape, (rd x1 s406.1).Data⟩ : Tensor)) fun r418 =>
  .next ((w64 (s406.1 + 1)), (put s406.2 s406.1 r418.1)))
  else .bad)
  else .bad)
  else (.done (s406.1, s406.2))
noncomputable def ref19_Shelf_Commit.f (x0 : Shelf65) (x1 : (List Tensor)) : Option ((List Tensor) × Int) :=
  if (x1.length : Int) = (x0.T.length : Int) then ((loop (ref19_Shelf_Commit.l0 x1 x0) 0).bind fun r29 =>
  r29.on (fun yr29 =>
  (loop (ref19_Shelf_Commit.l1 x1) (0, x0.G)).bind fun r407 =>
  some (r407.2, 0)) (fun y => some y))
  else (some (x0.G, 1))
set_option maxRecDepth 100000 in
set_option maxHeartbeats 4000000 in
theorem ref19_Shelf_Commit.calls (B0 : List (Option Nat)) (M : List (Option Nat)) (w0 : World) (x0 : Shelf65) (b0 : Nat) (A0_0 : Option Addr) (n0_0 c0_0 : Nat) (e0_0 : n0_0 = x0.T.length) (A0_1 : Option Addr) (n0_1 c0_1 : Nat) (e0_1 : n0_1 = x0.G.length) (A0_2 : Option Addr) (n0_2 c0_2 : Nat) (e0_2 : n0_2 = x0.V.length) (x1 : (List Tensor)) (A1 : Option Addr) (n1 c1 : Nat) (e1 : n1 = x1.length) (hm0 : Mem B0 M w0 [.bx b0 [.slice A0_0 n0_0 c0_0, .slice A0_1 n0_1 c0_1, .slice A0_2 n0_2 c0_2] 65, .ow kTensor 29 A0_0 c0_0 x0.T, .ow kTensor 29 A0_1 c0_1 x0.G, .ow (Kd.int .i64) 3 A0_2 c0_2 x0.V, .sl kTensor A1 c1 x1] w0) (r : ((List Tensor) × Int)) (H0 : ref19_Shelf_Commit.f x0 x1 = some r) :
    Calls Try.prog 27 [.pointer (some ⟨b0, 0, none⟩), .slice A1 n1 c1].toArray w0 (fun x w' => ∃ v, x = .returned v ∧ ∃ Ap0_1 cp0_1, v = .int .i64 r.2 ∧ Mem B0 M w0 [.bx b0 [.slice A0_0 x0.T.length c0_0, .slice Ap0_1 r.1.length cp0_1, .slice A0_2 x0.V.length c0_2] 65, .ow kTensor 29 A0_0 c0_0 x0.T, .ow kTensor 29 Ap0_1 cp0_1 r.1, .ow (Kd.int .i64) 3 A0_2 c0_2 x0.V] w') := by
  subst e0_0
  subst e0_1
  subst e0_2
  subst e1
  unfold ref19_Shelf_Commit.f at H0
  refine enter (n := 71) Try.func27 rfl rfl (by kernel_rfl) fun a0 (hf0 : Fr 71 a0 [(0, .pointer (some ⟨b0, 0, none⟩)), (1, .slice A1 x1.length c1)]) => ?_
  refine wp_seq ?_
  refine rg [] [(0, vp b0), (1, .slice A1 x1.length c1)] hf0 ot fun a21 hf22 => ?_
  refine thenN ?_
  refine wp_seq ?_
  refine wp_seq ?_
  rcases if_split H0 with ⟨c23, H0⟩ | ⟨c23, H0⟩
  rotate_left
  · refine rg [.slice A0_0 x0.T.length c0_0, .bool true] [(0, vp b0), (1, .slice A1 x1.length c1), (14, .bool true)] hf22 (oc (hm0.cell (j := 0) 0 rfl rfl) (oi (neT c23) ot)) fun a585 hf586 => ?_
    refine thenN ?_
    refine cT hf586 ?_
    refine wp_seq ?_
    refine rg [] [(4, vi 1)] hf586 ot fun a587 hf588 => ?_
    have hm589 := hm0.se [0, 1, 2, 3] _ rfl
    refine thenN ?_
    refine wp_ret ?_
    refine thenR ?_
    have hm590 : Mem B0 M w0 [.bx b0 [.slice A0_0 x0.T.length c0_0, .slice A0_1 x0.G.length c0_1, .slice A0_2 x0.V.length c0_2] 65, .ow kTensor 29 A0_0 c0_0 x0.T, .ow kTensor 29 A0_1 c0_1 x0.G, .ow (Kd.int .i64) 3 A0_2 c0_2 x0.V] w0 := hm589.se [0, 1, 2, 3] _ rfl
    obtain rfl := Option.some.inj H0
    refine rt [] [.int .i64 1] hf588 ot ?_
    exact ⟨_, rfl, A0_1, c0_1, rfl, hm590⟩
  refine rg [.slice A0_0 x0.T.length c0_0, .bool false] [(0, vp b0), (1, .slice A1 x1.length c1), (14, .bool false)] hf22 (oc (hm0.cell (j := 0) 0 rfl rfl) (oi (neF c23) ot)) fun a24 hf25 => ?_
  refine thenN ?_
  refine cF hf25 ?_
  refine wp_skip ?_
  refine thenN ?_
  refine wp_seq ?_
  refine wp_seq ?_
  refine rg [] [(0, vp b0), (1, .slice A1 x1.length c1), (5, vi 0)] hf25 ot fun a26 hf27 => ?_
  refine thenN ?_
  obtain ⟨r29, hr29, H0⟩ := ob_split H0
  refine wpBlock (Mid := fun (a : Act) (w : World) => ∃ yr29 : Int, r29 = .go yr29 ∧ Fr 71 a [(0, .pointer (some ⟨b0, 0, none⟩)), (1, .slice A1 x1.length c1), (5, .int .i64 yr29)] ∧ Mem B0 M w0 [.bx b0 [.slice A0_0 x0.T.length c0_0, .slice A0_1 x0.G.length c0_1, .slice A0_2 x0.V.length c0_2] 65, .ow kTensor 29 A0_0 c0_0 x0.T, .ow kTensor 29 A0_1 c0_1 x0.G, .ow (Kd.int .i64) 3 A0_2 c0_2 x0.V, .sl kTensor A1 c1 x1] w) ?_ ?_
  · refine wpLoop (ref19_Shelf_Commit.l0 x1 x0) r29 (fun (s28 : Int) (a : Act) (w : World) => Fr 71 a [(0, .pointer (some ⟨b0, 0, none⟩)), (1, .slice A1 x1.length c1), (5, .int .i64 s28)] ∧ Mem B0 M w0 [.bx b0 [.slice A0_0 x0.T.length c0_0, .slice A0_1 x0.G.length c0_1, .slice A0_2 x0.V.length c0_2] 65, .ow kTensor 29 A0_0 c0_0 x0.T, .ow kTensor 29 A0_1 c0_1 x0.G, .ow (Kd.int .i64) 3 A0_2 c0_2 x0.V, .sl kTensor A1 c1 x1] w) 0 hr29 ⟨hf27.se [0, 1, 5], hm0.se [0, 1, 2, 3, 4] _ rfl⟩ ?_
    rintro g30 s28 a31 w32 H1 ⟨hf33, hm34⟩
    unfold ref19_Shelf_Commit.l0 at H1
    refine wp_seq ?_
    refine wp_seq ?_
    rcases ifS_split H1 with ⟨c35, H1⟩ | ⟨c35, H1⟩
    rotate_left
    · refine rg (ob := [.is (decide (s28 < (x1.length : Int)) = false)]) [.bool false] [(0, vp b0), (1, .slice A1 x1.length c1), (5, vi s28), (18, .bool false)] hf33 ⟨(decide_eq_false c35), trivial⟩ fun a398 hf399 => ?_
      refine thenN ?_
      refine cF hf399 ?_
      refine wp_exit ?_
      refine thenE ?_
      refine thenE ?_
      obtain rfl := Option.some.inj H1
      exact .inl ⟨rfl, s28, rfl, hf399.se [0, 1, 5], hm34.se [0, 1, 2, 3, 4] _ rfl⟩
    refine rg (ob := [.is (decide (s28 < (x1.length : Int)) = true)]) [.bool true] [(0, vp b0), (1, .slice A1 x1.length c1), (5, vi s28), (18, .bool true)] hf33 ⟨(decide_eq_true c35), trivial⟩ fun a36 hf37 => ?_
    refine thenN ?_
    refine cT hf37 ?_
    refine wp_skip ?_
    refine thenN ?_
    refine wp_seq ?_
    refine wp_block ?_
    refine wp_seq ?_
    obtain ⟨g38, H1⟩ := ifS_guard H1
    obtain ⟨r39, hr39, H1⟩ := obS_split H1
    rcases ifbS_split H1 with ⟨c40, H1⟩ | ⟨c40, H1⟩
    rotate_left
    · refine midReg (fun (a : Act) (w : World) => Fr 71 a [(0, .pointer (some ⟨b0, 0, none⟩)), (1, .slice A1 x1.length c1), (5, .int .i64 s28), (43, .bool true)] ∧ Mem B0 M w0 [.bx b0 [.slice A0_0 x0.T.length c0_0, .slice A0_1 x0.G.length c0_1, .slice A0_2 x0.V.length c0_2] 65, .ow kTensor 29 A0_0 c0_0 x0.T, .ow kTensor 29 A0_1 c0_1 x0.G, .ow (Kd.int .i64) 3 A0_2 c0_2 x0.V, .sl kTensor A1 c1 x1] w) ?_ ?_
      · refine anyG (K := []) [] (by kernel_rfl) fun w348 hg349 => ?_
        have hm350 := hm34.still hg349
        have q370 := (hm350.slAt 4 rfl).get s28 g38.1 g38.2
        obtain ⟨us371, hr372, hc373⟩ := q370.2
        obtain ⟨A374, c375, A376, c377, rfl, ⟨pA374, sA374⟩, ⟨pA376, sA376⟩⟩ := kTensor.open hr372
        have hm378 := hm350.elem pA374 sA374
        have hm379 := hm378.elem pA376 sA376
        refine qt [0, 1, 2, 3] [.agg #[.slice A374 (rd x1 s28).Shape.length c375, .slice A376 (rd x1 s28).Data.length c377]] (fb 23 15) [(0, vp b0), (1, .slice A1 x1.length c1), (5, vi s28), (24, .agg #[.slice A374 (rd x1 s28).Shape.length c375, .slice A376 (rd x1 s28).Data.length c377])] 19 hf37 (oi q370.1 (oi g38 (oc (hc373 0 _ rfl) (oc (hc373 1 _ rfl) ot)))) fun a380 hf381 => ?_
        refine a1 4 ?_
        refine oo hf381 rfl (cl 25 hf381 callable21 (ref1_TensorMay.calls _ _ _ _ _ _ rfl _ _ _ rfl (hm379.give [1, 0] [.sl (Kd.int .i64) A374 c375 (rd x1 s28).Shape, .sl Kd.float A376 c377 (rd x1 s28).Data] rfl rfl) r39 hr39) ?_)
        rintro _ w382 a383 ⟨rfl, hk385⟩ hf384
        refine ⟨.inr (Gr.still hk385.cum.none), ?_⟩
        have hm386 := hm379.still hk385.cum.none
        rw [c40] at hf384
        refine qt [5, 6, 7, 8, 9, 10, 11, 12, 13, 14, 15, 16, 17, 18, 19, 20, 21, 22] [] (fb 23 8388607) [(0, vp b0), (1, .slice A1 x1.length c1), (5, vi s28), (43, .bool true)] 0 hf384 ot fun a387 hf388 => ?_
        refine aD ⟨rfl, hf388.se [0, 1, 5, 43], hm386.se [2, 3, 4, 5, 6] _ rfl⟩
      rintro a389 w390 ⟨hf391, hm392⟩
      refine thenN ?_
      refine cT hf391 ?_
      refine wp_seq ?_
      refine rg [] [(4, vi 2)] hf391 ot fun a393 hf394 => ?_
      have hm395 := hm392.se [0, 1, 2, 3] _ rfl
      refine thenN ?_
      refine wp_ret ?_
      refine blkR ?_
      refine thenR ?_
      refine thenR ?_
      refine .inr ⟨rfl, ?_⟩
      refine thenR ?_
      have hm396 : Mem B0 M w0 [.bx b0 [.slice A0_0 x0.T.length c0_0, .slice A0_1 x0.G.length c0_1, .slice A0_2 x0.V.length c0_2] 65, .ow kTensor 29 A0_0 c0_0 x0.T, .ow kTensor 29 A0_1 c0_1 x0.G, .ow (Kd.int .i64) 3 A0_2 c0_2 x0.V] w390 := hm395.se [0, 1, 2, 3] _ rfl
      obtain rfl := Option.some.inj H1
      obtain rfl := Option.some.inj H0
      refine rt [] [.int .i64 2] hf394 ot ?_
      exact ⟨_, rfl, A0_1, c0_1, rfl, hm396⟩
    obtain ⟨g41, H1⟩ := ifS_guard H1
    obtain ⟨r42, hr42, H1⟩ := obS_split H1
    rcases ifbS_split H1 with ⟨c43, H1⟩ | ⟨c43, H1⟩
    · refine midReg (fun (a : Act) (w : World) => Fr 71 a [(0, .pointer (some ⟨b0, 0, none⟩)), (1, .slice A1 x1.length c1), (5, .int .i64 s28), (43, .bool false)] ∧ Mem B0 M w0 [.bx b0 [.slice A0_0 x0.T.length c0_0, .slice A0_1 x0.G.length c0_1, .slice A0_2 x0.V.length c0_2] 65, .ow kTensor 29 A0_0 c0_0 x0.T, .ow kTensor 29 A0_1 c0_1 x0.G, .ow (Kd.int .i64) 3 A0_2 c0_2 x0.V, .sl kTensor A1 c1 x1] w) ?_ ?_
      · refine anyG (K := []) [] (by kernel_rfl) fun w86 hg87 => ?_
        have hm88 := hm34.still hg87
        have q135 := (hm88.slAt 4 rfl).get s28 g38.1 g38.2
        obtain ⟨us136, hr137, hc138⟩ := q135.2
        obtain ⟨A139, c140, A141, c142, rfl, ⟨pA139, sA139⟩, ⟨pA141, sA141⟩⟩ := kTensor.open hr137
        have hm143 := hm88.elem pA139 sA139
        have hm144 := hm143.elem pA141 sA141
        refine qt [0, 1, 2, 3] [.agg #[.slice A139 (rd x1 s28).Shape.length c140, .slice A141 (rd x1 s28).Data.length c142]] (fb 23 15) [(0, vp b0), (1, .slice A1 x1.length c1), (5, vi s28), (24, .agg #[.slice A139 (rd x1 s28).Shape.length c140, .slice A141 (rd x1 s28).Data.length c142])] 19 hf37 (oi q135.1 (oi g38 (oc (hc138 0 _ rfl) (oc (hc138 1 _ rfl) ot)))) fun a145 hf146 => ?_
        refine a1 4 ?_
        refine oo hf146 rfl (cl 25 hf146 callable21 (ref1_TensorMay.calls _ _ _ _ _ _ rfl _ _ _ rfl (hm144.give [1, 0] [.sl (Kd.int .i64) A139 c140 (rd x1 s28).Shape, .sl Kd.float A141 c142 (rd x1 s28).Data] rfl rfl) r39 hr39) ?_)
        rintro _ w147 a148 ⟨rfl, hk150⟩ hf149
        refine ⟨.inr (Gr.still hk150.cum.none), ?_⟩
        have hm151 := hm144.still hk150.cum.none
        rw [c40] at hf149
        have q152 := (hm151.slAt 6 rfl).get s28 g38.1 g38.2
        obtain ⟨us153, hr154, hc155⟩ := q152.2
        obtain ⟨A156, c157, A158, c159, rfl, ⟨pA156, sA156⟩, ⟨pA158, sA158⟩⟩ := kTensor.open hr154
        have hm160 := hm151.elem pA156 sA156
        have hm161 := hm160.elem pA158 sA158
        have q162 := (hm161.owAt 5 rfl).cells s28 g41.1 g41.2
        obtain ⟨us163, hr164, hc165⟩ := q162.2
        obtain ⟨A166, c167, A168, c169, rfl, ⟨pA166, sA166⟩, ⟨pA168, sA168⟩⟩ := kTensor.open hr164
        have hm170 := hm161.elem pA166 sA166
        have hm171 := hm170.elem pA168 sA168
        refine qt [5, 6, 7, 8, 9, 10, 11, 12, 13, 14, 15, 16, 17, 18, 19] [.slice A156 (rd x1 s28).Shape.length c157, .slice A0_0 x0.T.length c0_0, .slice A166 (rd x0.T s28).Shape.length c167] (fb 23 1048575) [(0, vp b0), (1, .slice A1 x1.length c1), (5, vi s28), (27, .bool false), (32, .slice A156 (rd x1 s28).Shape.length c157), (40, .slice A166 (rd x0.T s28).Shape.length c167)] 3 hf149 (oi q152.1 (oi g38 (oc (hc155 0 _ rfl) (oc (hm161.cell (j := 0) 4 rfl rfl) (oi q162.1 (oi g41 (oc (hc165 0 _ rfl) ot))))))) fun a172 hf173 => ?_
        refine a1 20 ?_
        refine oo hf173 rfl (cl 41 hf173 callable22 (ref1_SameInts.calls _ _ _ _ _ _ rfl _ _ _ _ rfl (hm171.give [3, 1] [.sl (Kd.int .i64) A156 c157 (rd x1 s28).Shape, .sl (Kd.int .i64) A166 c167 (rd x0.T s28).Shape] rfl rfl) r42 hr42) ?_)
        rintro _ w174 a175 ⟨rfl, hk177⟩ hf176
        refine ⟨.inr (Gr.still hk177.cum.none), ?_⟩
        have hm178 := hm171.still hk177.cum.none
        rw [c43] at hf176
        refine qt [21, 22] [] (fb 23 8388607) [(0, vp b0), (1, .slice A1 x1.length c1), (5, vi s28), (43, .bool false)] 0 hf176 ot fun a179 hf180 => ?_
        refine aD ⟨rfl, hf180.se [0, 1, 5, 43], hm178.se [6, 7, 8, 9, 10] _ rfl⟩
      rintro a181 w182 ⟨hf183, hm184⟩
      refine thenN ?_
      refine cF hf183 ?_
      refine wp_skip ?_
      refine blkN ?_
      refine thenN ?_
      refine rg [] [(0, vp b0), (1, .slice A1 x1.length c1), (5, vi (w64 (s28 + 1)))] hf183 ot fun a185 hf186 => ?_
      exact ⟨(w64 (s28 + 1)), H1, hf186.se [0, 1, 5], hm184.se [0, 1, 2, 3, 4] _ rfl⟩
    refine midReg (fun (a : Act) (w : World) => Fr 71 a [(0, .pointer (some ⟨b0, 0, none⟩)), (1, .slice A1 x1.length c1), (5, .int .i64 s28), (43, .bool true)] ∧ Mem B0 M w0 [.bx b0 [.slice A0_0 x0.T.length c0_0, .slice A0_1 x0.G.length c0_1, .slice A0_2 x0.V.length c0_2] 65, .ow kTensor 29 A0_0 c0_0 x0.T, .ow kTensor 29 A0_1 c0_1 x0.G, .ow (Kd.int .i64) 3 A0_2 c0_2 x0.V, .sl kTensor A1 c1 x1] w) ?_ ?_
    · refine anyG (K := []) [] (by kernel_rfl) fun w228 hg229 => ?_
      have hm230 := hm34.still hg229
      have q277 := (hm230.slAt 4 rfl).get s28 g38.1 g38.2
      obtain ⟨us278, hr279, hc280⟩ := q277.2
      obtain ⟨A281, c282, A283, c284, rfl, ⟨pA281, sA281⟩, ⟨pA283, sA283⟩⟩ := kTensor.open hr279
      have hm285 := hm230.elem pA281 sA281
      have hm286 := hm285.elem pA283 sA283
      refine qt [0, 1, 2, 3] [.agg #[.slice A281 (rd x1 s28).Shape.length c282, .slice A283 (rd x1 s28).Data.length c284]] (fb 23 15) [(0, vp b0), (1, .slice A1 x1.length c1), (5, vi s28), (24, .agg #[.slice A281 (rd x1 s28).Shape.length c282, .slice A283 (rd x1 s28).Data.length c284])] 19 hf37 (oi q277.1 (oi g38 (oc (hc280 0 _ rfl) (oc (hc280 1 _ rfl) ot)))) fun a287 hf288 => ?_
      refine a1 4 ?_
      refine oo hf288 rfl (cl 25 hf288 callable21 (ref1_TensorMay.calls _ _ _ _ _ _ rfl _ _ _ rfl (hm286.give [1, 0] [.sl (Kd.int .i64) A281 c282 (rd x1 s28).Shape, .sl Kd.float A283 c284 (rd x1 s28).Data] rfl rfl) r39 hr39) ?_)
      rintro _ w289 a290 ⟨rfl, hk292⟩ hf291
      refine ⟨.inr (Gr.still hk292.cum.none), ?_⟩
      have hm293 := hm286.still hk292.cum.none
      rw [c40] at hf291
      have q294 := (hm293.slAt 6 rfl).get s28 g38.1 g38.2
      obtain ⟨us295, hr296, hc297⟩ := q294.2
      obtain ⟨A298, c299, A300, c301, rfl, ⟨pA298, sA298⟩, ⟨pA300, sA300⟩⟩ := kTensor.open hr296
      have hm302 := hm293.elem pA298 sA298
      have hm303 := hm302.elem pA300 sA300
      have q304 := (hm303.owAt 5 rfl).cells s28 g41.1 g41.2
      obtain ⟨us305, hr306, hc307⟩ := q304.2
      obtain ⟨A308, c309, A310, c311, rfl, ⟨pA308, sA308⟩, ⟨pA310, sA310⟩⟩ := kTensor.open hr306
      have hm312 := hm303.elem pA308 sA308
      have hm313 := hm312.elem pA310 sA310
      refine qt [5, 6, 7, 8, 9, 10, 11, 12, 13, 14, 15, 16, 17, 18, 19] [.slice A298 (rd x1 s28).Shape.length c299, .slice A0_0 x0.T.length c0_0, .slice A308 (rd x0.T s28).Shape.length c309] (fb 23 1048575) [(0, vp b0), (1, .slice A1 x1.length c1), (5, vi s28), (27, .bool false), (32, .slice A298 (rd x1 s28).Shape.length c299), (40, .slice A308 (rd x0.T s28).Shape.length c309)] 3 hf291 (oi q294.1 (oi g38 (oc (hc297 0 _ rfl) (oc (hm303.cell (j := 0) 4 rfl rfl) (oi q304.1 (oi g41 (oc (hc307 0 _ rfl) ot))))))) fun a314 hf315 => ?_
      refine a1 20 ?_
      refine oo hf315 rfl (cl 41 hf315 callable22 (ref1_SameInts.calls _ _ _ _ _ _ rfl _ _ _ _ rfl (hm313.give [3, 1] [.sl (Kd.int .i64) A298 c299 (rd x1 s28).Shape, .sl (Kd.int .i64) A308 c309 (rd x0.T s28).Shape] rfl rfl) r42 hr42) ?_)
      rintro _ w316 a317 ⟨rfl, hk319⟩ hf318
      refine ⟨.inr (Gr.still hk319.cum.none), ?_⟩
      have hm320 := hm313.still hk319.cum.none
      rw [c43] at hf318
      refine qt [21, 22] [] (fb 23 8388607) [(0, vp b0), (1, .slice A1 x1.length c1), (5, vi s28), (43, .bool true)] 0 hf318 ot fun a321 hf322 => ?_
      refine aD ⟨rfl, hf322.se [0, 1, 5, 43], hm320.se [6, 7, 8, 9, 10] _ rfl⟩
    rintro a323 w324 ⟨hf325, hm326⟩
    refine thenN ?_
    refine cT hf325 ?_
    refine wp_seq ?_
    refine rg [] [(4, vi 2)] hf325 ot fun a327 hf328 => ?_
    have hm329 := hm326.se [0, 1, 2, 3] _ rfl
    refine thenN ?_
    refine wp_ret ?_
    refine blkR ?_
    refine thenR ?_
    refine thenR ?_
    refine .inr ⟨rfl, ?_⟩
    refine thenR ?_
    have hm330 : Mem B0 M w0 [.bx b0 [.slice A0_0 x0.T.length c0_0, .slice A0_1 x0.G.length c0_1, .slice A0_2 x0.V.length c0_2] 65, .ow kTensor 29 A0_0 c0_0 x0.T, .ow kTensor 29 A0_1 c0_1 x0.G, .ow (Kd.int .i64) 3 A0_2 c0_2 x0.V] w324 := hm329.se [0, 1, 2, 3] _ rfl
    obtain rfl := Option.some.inj H1
    obtain rfl := Option.some.inj H0
    refine rt [] [.int .i64 2] hf328 ot ?_
    exact ⟨_, rfl, A0_1, c0_1, rfl, hm330⟩
  rintro a400 w401 ⟨yr29, rfl, hf402, hm403⟩
  refine thenN ?_
  refine wp_seq ?_
  refine wp_seq ?_
  refine rg [] [(0, vp b0), (1, .slice A1 x1.length c1), (6, vi 0)] hf402 ot fun a404 hf405 => ?_
  refine thenN ?_
  obtain ⟨r407, hr407, H0⟩ := ob_split H0
  refine wpBlock (Mid := fun (a : Act) (w : World) => Fr 71 a [(0, .pointer (some ⟨b0, 0, none⟩)), (1, .slice A1 x1.length c1), (6, .int .i64 r407.1)] ∧ Mem B0 M w0 [.bx b0 [.slice A0_0 x0.T.length c0_0, .slice A0_1 r407.2.length c0_1, .slice A0_2 x0.V.length c0_2] 65, .ow kTensor 29 A0_0 c0_0 x0.T, .ow kTensor 29 A0_1 c0_1 r407.2, .ow (Kd.int .i64) 3 A0_2 c0_2 x0.V, .sl kTensor A1 c1 x1] w) ?_ ?_
  · refine wpLoop (ref19_Shelf_Commit.l1 x1) r407 (fun (s406 : (Int × (List Tensor))) (a : Act) (w : World) => Fr 71 a [(0, .pointer (some ⟨b0, 0, none⟩)), (1, .slice A1 x1.length c1), (6, .int .i64 s406.1)] ∧ Mem B0 M w0 [.bx b0 [.slice A0_0 x0.T.length c0_0, .slice A0_1 s406.2.length c0_1, .slice A0_2 x0.V.length c0_2] 65, .ow kTensor 29 A0_0 c0_0 x0.T, .ow kTensor 29 A0_1 c0_1 s406.2, .ow (Kd.int .i64) 3 A0_2 c0_2 x0.V, .sl kTensor A1 c1 x1] w) (0, x0.G) hr407 ⟨hf405.se [0, 1, 6], hm403.se [0, 1, 2, 3, 4] _ rfl⟩ ?_
    rintro g408 s406 a409 w410 H1 ⟨hf411, hm412⟩
    unfold ref19_Shelf_Commit.l1 at H1
    refine wp_seq ?_
    refine wp_seq ?_
    rcases ifS_split H1 with ⟨c413, H1⟩ | ⟨c413, H1⟩
    rotate_left
    · refine rg (ob := [.is (decide (s406.1 < (x1.length : Int)) = false)]) [.bool false] [(0, vp b0), (1, .slice A1 x1.length c1), (6, vi s406.1), (47, .bool false)] hf411 ⟨(decide_eq_false c413), trivial⟩ fun a574 hf575 => ?_
      refine thenN ?_
      refine cF hf575 ?_
      refine wp_exit ?_
      refine thenE ?_
      refine thenE ?_
      obtain rfl := Option.some.inj H1
      exact .inl ⟨rfl, hf575.se [0, 1, 6], hm412.se [0, 1, 2, 3, 4] _ rfl⟩
    refine rg (ob := [.is (decide (s406.1 < (x1.length : Int)) = true)]) [.bool true] [(0, vp b0), (1, .slice A1 x1.length c1), (6, vi s406.1), (47, .bool true)] hf411 ⟨(decide_eq_true c413), trivial⟩ fun a414 hf415 => ?_
    refine thenN ?_
    refine cT hf415 ?_
    refine wp_skip ?_
    refine thenN ?_
    refine wp_seq ?_
    refine wp_block ?_
    obtain ⟨g416, H1⟩ := ifS_guard H1
    obtain ⟨g417, H1⟩ := ifS_guard H1
    obtain ⟨r418, hr418, H1⟩ := obS_split H1
    refine midReg (fun (a : Act) (w : World) => Fr 71 a [(0, .pointer (some ⟨b0, 0, none⟩)), (1, .slice A1 x1.length c1), (6, .int .i64 s406.1)] ∧ Mem B0 M w0 [.bx b0 [.slice A0_0 x0.T.length c0_0, .slice A0_1 s406.2.length c0_1, .slice A0_2 x0.V.length c0_2] 65, .ow kTensor 29 A0_0 c0_0 x0.T, .ow kTensor 29 A0_1 c0_1 (put s406.2 s406.1 r418.1), .ow (Kd.int .i64) 3 A0_2 c0_2 x0.V, .sl kTensor A1 c1 x1] w) ?_ ?_
    · refine anyG (K := []) [21] (by kernel_rfl) fun w465 hg466 => ?_
      have hm467 := hm412.still hg466
      have q517 := (hm467.owAt 2 rfl).cells s406.1 g416.1 g416.2
      obtain ⟨us518, hr519, hc520⟩ := q517.2
      obtain ⟨A521, c522, A523, c524, rfl, ⟨pA521, sA521⟩, ⟨pA523, sA523⟩⟩ := kTensor.open hr519
      have hm525 := hm467.elem pA521 sA521
      have hm526 := hm525.elem pA523 sA523
      have q527 := (hm526.slAt 6 rfl).get s406.1 g417.1 g417.2
      obtain ⟨us528, hr529, hc530⟩ := q527.2
      obtain ⟨A531, c532, A533, c534, rfl, ⟨pA531, sA531⟩, ⟨pA533, sA533⟩⟩ := kTensor.open hr529
      have hm535 := hm526.elem pA531 sA531
      have hm536 := hm535.elem pA533 sA533
      refine qt [0, 1, 2, 3, 4, 5, 6, 7, 8, 9, 10, 11, 12, 13, 14, 15] [.slice A0_1 s406.2.length c0_1, .slice A0_1 s406.2.length c0_1, .agg #[.slice A521 (rd s406.2 s406.1).Shape.length c522, .slice A523 (rd s406.2 s406.1).Data.length c524], .agg #[.slice A531 (rd x1 s406.1).Shape.length c532, .slice A533 (rd x1 s406.1).Data.length c534]] (fb 22 65535) [(0, vp b0), (1, .slice A1 x1.length c1), (6, vi s406.1), (54, .slice A0_1 s406.2.length c0_1), (55, vi s406.1), (62, .agg #[.slice A521 (rd s406.2 s406.1).Shape.length c522, .slice A523 (rd s406.2 s406.1).Data.length c524]), (66, .agg #[.slice A531 (rd x1 s406.1).Shape.length c532, .slice A533 (rd x1 s406.1).Data.length c534])] 6 hf415 (oc (hm467.cell (j := 1) 0 rfl rfl) (oc (hm467.cell (j := 1) 0 rfl rfl) (oi q517.1 (oi g416 (oc (hc520 0 _ rfl) (oc (hc520 1 _ rfl) (oi q527.1 (oi g417 (oc (hc530 0 _ rfl) (oc (hc530 1 _ rfl) ot)))))))))) fun a537 hf538 => ?_
      refine a1 16 ?_
      refine oo hf538 rfl (cl 67 hf538 callable43 (ref1_Two.calls _ _ 4 _ _ _ _ rfl _ _ _ rfl _ _ _ _ rfl _ _ _ rfl (hm536.give [3, 2, 1, 0] [.sl (Kd.int .i64) A521 c522 (rd s406.2 s406.1).Shape, .sl Kd.float A523 c524 (rd s406.2 s406.1).Data, .sl (Kd.int .i64) A531 c532 (rd x1 s406.1).Shape, .sl Kd.float A533 c534 (rd x1 s406.1).Data] rfl rfl) r418 hr418) ?_)
      rintro _ w543 a544 ⟨A539, c540, A541, c542, rfl, hk546⟩ hf545
      refine ⟨.inr (Gr.still hk546.cum.none), ?_⟩
      have hm547 := hm536.back hk546
      have hm548 := hm547.seal 0 _ rfl rfl
      have hm549 := hm548.seal 1 _ rfl rfl
      have q550 := (hm549.owAt 8 rfl).cells s406.1 g416.1 g416.2
      obtain ⟨us551, hr552, hc553⟩ := q550.2
      obtain ⟨A554, c555, A556, c557, rfl, ⟨pA554, sA554⟩, ⟨pA556, sA556⟩⟩ := kTensor.open hr552
      have hm558 := hm549.elem pA554 sA554
      have hm559 := hm558.elem pA556 sA556
      refine qt [17, 18, 19, 20] [] (fb 22 2097151) [(0, vp b0), (1, .slice A1 x1.length c1), (6, vi s406.1), (68, .agg #[.slice A539 r418.1.Shape.length c540, .slice A541 r418.1.Data.length c542]), (70, .pointer (some ((ad A0_1).add ((s406.1).toNat * 2))))] 1 hf545 (oi q550.1 (oi g416 ot)) fun a560 hf561 => ?_
      refine a1 21 ?_
      refine oo hf561 rfl (so (i := s406.1) (x := r418.1) (us := [.slice A539 r418.1.Shape.length c540, .slice A541 r418.1.Data.length c542]) (sz := 2) hf561 (hm559.at 10 rfl) (kTensor.mk r418.1 ⟨hm559.cpAt 2 rfl, (hm559.at2 10 2 rfl rfl).2⟩ ⟨hm559.cpAt 3 rfl, (hm559.at2 10 3 rfl rfl).2⟩) g416.1 g416.2 ?_)
      intro w562 hx563 hg564
      refine ⟨.inl (by decide), ?_⟩
      have hm565 := hm559.setOwn 10 _ rfl rfl hx563 hg564 (.inl rfl)
      refine aD ⟨rfl, hf561.se [0, 1, 6], hm565.se [8, 9, 10, 11, 12] _ rfl⟩
    rintro a566 w567 ⟨hf568, hm569⟩
    refine blkN ?_
    refine thenN ?_
    refine rg [] [(0, vp b0), (1, .slice A1 x1.length c1), (6, vi (w64 (s406.1 + 1)))] hf568 ot fun a570 hf571 => ?_
    have hf572 : Fr 71 a570 [(0, .pointer (some ⟨b0, 0, none⟩)), (1, .slice A1 x1.length c1), (6, .int .i64 (w64 (s406.1 + 1)))] := hf571.se [0, 1, 6]
    have hm573 : Mem B0 M w0 [.bx b0 [.slice A0_0 x0.T.length c0_0, .slice A0_1 s406.2.length c0_1, .slice A0_2 x0.V.length c0_2] 65, .ow kTensor 29 A0_0 c0_0 x0.T, .ow kTensor 29 A0_1 c0_1 (put s406.2 s406.1 r418.1), .ow (Kd.int .i64) 3 A0_2 c0_2 x0.V, .sl kTensor A1 c1 x1] w567 := hm569.se [0, 1, 2, 3, 4] _ rfl
    exact ⟨((w64 (s406.1 + 1)), (put s406.2 s406.1 r418.1)), H1, (by simpa only [put_length, List.length_nil] using hf572), (by simpa only [put_length, List.length_nil] using hm573)⟩
  rintro a576 w577 ⟨hf578, hm579⟩
  refine thenN ?_
  refine wp_seq ?_
  refine rg [] [(4, vi 0)] hf578 ot fun a580 hf581 => ?_
  have hm582 := hm579.se [0, 1, 2, 3] _ rfl
  refine thenN ?_
  refine wp_ret ?_
  have hm583 : Mem B0 M w0 [.bx b0 [.slice A0_0 x0.T.length c0_0, .slice A0_1 r407.2.length c0_1, .slice A0_2 x0.V.length c0_2] 65, .ow kTensor 29 A0_0 c0_0 x0.T, .ow kTensor 29 A0_1 c0_1 r407.2, .ow (Kd.int .i64) 3 A0_2 c0_2 x0.V] w577 := hm582.se [0, 1, 2, 3] _ rfl
  obtain rfl := Option.some.inj H0
  refine rt [] [.int .i64 0] hf581 ot ?_
  exact ⟨_, rfl, A0_1, c0_1, rfl, hm583⟩

/-! ### (*backstitch/shelf.Shelf).Zero -/
noncomputable def shelf_Shelf_Zero.f (x0 : Shelf) (x1 : Int) : Option ((List Tensor) × Int) :=
  (shelf_Shelf_there.f x0 x1).bind fun r23 =>
  if r23 = 0 then (if 0 ≤ x1 ∧ x1 < (x0.l.length : Int) then ((shelf_noughts.f (⟨(rd x0.l x1).Shape, (rd x0.l x1).Data⟩ : Tensor)).bind fun r37 =>
  if 0 ≤ x1 ∧ x1 < (x0.grads.length : Int) then (some ((put x0.grads x1 r37), 0))
  else none)
  else none)
  else (some (x0.grads, r23))
set_option maxRecDepth 100000 in
set_option maxHeartbeats 4000000 in
theorem shelf_Shelf_Zero.calls (B0 : List (Option Nat)) (M : List (Option Nat)) (w0 : World) (x0 : Shelf) (b0 : Nat) (A0_0 : Option Addr) (n0_0 c0_0 : Nat) (e0_0 : n0_0 = x0.l.length) (A0_1 : Option Addr) (n0_1 c0_1 : Nat) (e0_1 : n0_1 = x0.vers.length) (A0_2 : Option Addr) (n0_2 c0_2 : Nat) (e0_2 : n0_2 = x0.grads.length) (x1 : Int) (hm0 : Mem B0 M w0 [.bx b0 [.slice A0_0 n0_0 c0_0, .slice A0_1 n0_1 c0_1, .slice A0_2 n0_2 c0_2] 72, .ow kTensor 29 A0_0 c0_0 x0.l, .ow (Kd.int .i64) 3 A0_1 c0_1 x0.vers, .ow kTensor 29 A0_2 c0_2 x0.grads] w0) (r : ((List Tensor) × Int)) (H0 : shelf_Shelf_Zero.f x0 x1 = some r) :
    Calls Try.prog 12 [.pointer (some ⟨b0, 0, none⟩), .int .i64 x1].toArray w0 (fun x w' => ∃ v, x = .returned v ∧ ∃ Ap0_2 cp0_2, v = .int .i64 r.2 ∧ Mem B0 M w0 [.bx b0 [.slice A0_0 x0.l.length c0_0, .slice A0_1 x0.vers.length c0_1, .slice Ap0_2 r.1.length cp0_2] 72, .ow kTensor 29 A0_0 c0_0 x0.l, .ow (Kd.int .i64) 3 A0_1 c0_1 x0.vers, .ow kTensor 29 Ap0_2 cp0_2 r.1] w') := by
  subst e0_0
  subst e0_1
  subst e0_2
  unfold shelf_Shelf_Zero.f at H0
  refine enter (n := 26) Try.func12 rfl rfl (by kernel_rfl) fun a0 (hf0 : Fr 26 a0 [(0, .pointer (some ⟨b0, 0, none⟩)), (1, .int .i64 x1)]) => ?_
  refine wp_seq ?_
  refine rg [] [(0, vp b0), (1, vi x1)] hf0 ot fun a21 hf22 => ?_
  refine thenN ?_
  refine wp_seq ?_
  refine wp_seq ?_
  obtain ⟨r23, hr23, H0⟩ := ob_split H0
  refine inReg ?_
  refine gg 2 [] [(0, vp b0), (1, vi x1), (6, vp b0), (7, vi x1)] hf22 ot fun a24 hf25 => ?_
  refine lo hf25 rfl (cl 8 hf25 callable37 (shelf_Shelf_there.calls _ _ _ x0 _ _ _ _ rfl _ _ _ rfl _ _ _ rfl x1 (hm0.giveO [0, 1, 2, 3] [] [] [.bx b0 [.slice A0_0 x0.l.length c0_0, .slice A0_1 x0.vers.length c0_1, .slice A0_2 x0.grads.length c0_2] 72, .ow kTensor 29 A0_0 c0_0 x0.l, .ow (Kd.int .i64) 3 A0_1 c0_1 x0.vers, .ow kTensor 29 A0_2 c0_2 x0.grads] _ [] rfl rfl rfl (by kernel_rfl) rfl) r23 hr23) ?_)
  rintro _ w26 a27 ⟨rfl, hk29⟩ hf28
  have hm30 := hm0.backO [0, 1, 2, 3] [] _ _ rfl rfl (by kernel_rfl) hk29
  refine gg 1 [] [(0, vp b0), (1, vi x1), (5, vi r23)] hf28 ot fun a31 hf32 => ?_
  refine endL rfl ?_
  refine thenN ?_
  refine wp_seq ?_
  rcases if_split H0 with ⟨c33, H0⟩ | ⟨c33, H0⟩
  rotate_left
  · refine rg [.bool true] [(0, vp b0), (1, vi x1), (5, vi r23), (10, .bool true)] hf32 (oi (neT c33) ot) fun a166 hf167 => ?_
    refine thenN ?_
    refine cT hf167 ?_
    refine wp_seq ?_
    refine rg [] [(4, vi r23)] hf167 ot fun a168 hf169 => ?_
    refine thenN ?_
    refine wp_ret ?_
    refine thenR ?_
    have hm170 : Mem B0 M w0 [.bx b0 [.slice A0_0 x0.l.length c0_0, .slice A0_1 x0.vers.length c0_1, .slice A0_2 x0.grads.length c0_2] 72, .ow kTensor 29 A0_0 c0_0 x0.l, .ow (Kd.int .i64) 3 A0_1 c0_1 x0.vers, .ow kTensor 29 A0_2 c0_2 x0.grads] w26 := hm30.se [0, 1, 2, 3] _ rfl
    obtain rfl := Option.some.inj H0
    refine rt [] [.int .i64 r23] hf169 ot ?_
    exact ⟨_, rfl, A0_2, c0_2, rfl, hm170⟩
  refine rg [.bool false] [(0, vp b0), (1, vi x1), (5, vi r23), (10, .bool false)] hf32 (oi (neF c33) ot) fun a34 hf35 => ?_
  refine thenN ?_
  refine cF hf35 ?_
  refine wp_skip ?_
  refine thenN ?_
  refine wp_seq ?_
  obtain ⟨g36, H0⟩ := if_guard H0
  obtain ⟨r37, hr37, H0⟩ := ob_split H0
  obtain ⟨g38, H0⟩ := if_guard H0
  refine midReg (fun (a : Act) (w : World) => Fr 26 a [] ∧ Mem B0 M w0 [.bx b0 [.slice A0_0 x0.l.length c0_0, .slice A0_1 x0.vers.length c0_1, .slice A0_2 x0.grads.length c0_2] 72, .ow kTensor 29 A0_0 c0_0 x0.l, .ow (Kd.int .i64) 3 A0_1 c0_1 x0.vers, .ow kTensor 29 A0_2 c0_2 (put x0.grads x1 r37)] w) ?_ ?_
  · refine anyG (K := []) [14] (by kernel_rfl) fun w76 hg77 => ?_
    have hm78 := hm30.still hg77
    have q118 := (hm78.owAt 1 rfl).cells x1 g36.1 g36.2
    obtain ⟨us119, hr120, hc121⟩ := q118.2
    obtain ⟨A122, c123, A124, c125, rfl, ⟨pA122, sA122⟩, ⟨pA124, sA124⟩⟩ := kTensor.open hr120
    have hm126 := hm78.elem pA122 sA122
    have hm127 := hm126.elem pA124 sA124
    refine qt [0, 1, 2, 3, 4, 5, 6, 7, 8, 9, 10, 11] [.slice A0_2 x0.grads.length c0_2, .slice A0_0 x0.l.length c0_0, .agg #[.slice A122 (rd x0.l x1).Shape.length c123, .slice A124 (rd x0.l x1).Data.length c125]] (fb 15 4095) [(15, .slice A0_2 x0.grads.length c0_2), (16, vi x1), (23, .agg #[.slice A122 (rd x0.l x1).Shape.length c123, .slice A124 (rd x0.l x1).Data.length c125])] 3 hf35 (oc (hm78.cell (j := 2) 0 rfl rfl) (oc (hm78.cell (j := 0) 0 rfl rfl) (oi q118.1 (oi g36 (oc (hc121 0 _ rfl) (oc (hc121 1 _ rfl) ot)))))) fun a128 hf129 => ?_
    refine a1 12 ?_
    refine oo hf129 rfl (cl 24 hf129 callable34 (shelf_noughts.calls _ _ _ _ _ _ rfl _ _ _ rfl (hm127.give [1, 0] [.sl (Kd.int .i64) A122 c123 (rd x0.l x1).Shape, .sl Kd.float A124 c125 (rd x0.l x1).Data] rfl rfl) r37 hr37) ?_)
    rintro _ w134 a135 ⟨A130, c131, A132, c133, rfl, hk137⟩ hf136
    refine ⟨.inr (Gr.still hk137.cum.none), ?_⟩
    have hm138 := hm127.back hk137
    have hm139 := hm138.seal 0 _ rfl rfl
    have hm140 := hm139.seal 1 _ rfl rfl
    have q141 := (hm140.owAt 7 rfl).cells x1 g38.1 g38.2
    obtain ⟨us142, hr143, hc144⟩ := q141.2
    obtain ⟨A145, c146, A147, c148, rfl, ⟨pA145, sA145⟩, ⟨pA147, sA147⟩⟩ := kTensor.open hr143
    have hm149 := hm140.elem pA145 sA145
    have hm150 := hm149.elem pA147 sA147
    refine qt [13] [] (fb 15 16383) [(24, .agg #[.slice A130 r37.Shape.length c131, .slice A132 r37.Data.length c133]), (25, .pointer (some ((ad A0_2).add ((x1).toNat * 2))))] 1 hf136 (oi q141.1 (oi g38 ot)) fun a151 hf152 => ?_
    refine a1 14 ?_
    refine oo hf152 rfl (so (i := x1) (x := r37) (us := [.slice A130 r37.Shape.length c131, .slice A132 r37.Data.length c133]) (sz := 2) hf152 (hm150.at 9 rfl) (kTensor.mk r37 ⟨hm150.cpAt 2 rfl, (hm150.at2 9 2 rfl rfl).2⟩ ⟨hm150.cpAt 3 rfl, (hm150.at2 9 3 rfl rfl).2⟩) g38.1 g38.2 ?_)
    intro w153 hx154 hg155
    refine ⟨.inl (by decide), ?_⟩
    have hm156 := hm150.setOwn 9 _ rfl rfl hx154 hg155 (.inl rfl)
    refine aD ⟨rfl, hf152.se [], hm156.se [6, 7, 8, 9] _ rfl⟩
  rintro a157 w158 ⟨hf159, hm160⟩
  refine thenN ?_
  refine wp_seq ?_
  refine rg [] [(4, vi 0)] hf159 ot fun a161 hf162 => ?_
  refine thenN ?_
  refine wp_ret ?_
  have hm163 : Mem B0 M w0 [.bx b0 [.slice A0_0 x0.l.length c0_0, .slice A0_1 x0.vers.length c0_1, .slice A0_2 x0.grads.length c0_2] 72, .ow kTensor 29 A0_0 c0_0 x0.l, .ow (Kd.int .i64) 3 A0_1 c0_1 x0.vers, .ow kTensor 29 A0_2 c0_2 (put x0.grads x1 r37)] w158 := hm160.se [0, 1, 2, 3] _ rfl
  have hm164 : Mem B0 M w0 [.bx b0 [.slice A0_0 x0.l.length c0_0, .slice A0_1 x0.vers.length c0_1, .slice A0_2 (put x0.grads x1 r37).length c0_2] 72, .ow kTensor 29 A0_0 c0_0 x0.l, .ow (Kd.int .i64) 3 A0_1 c0_1 x0.vers, .ow kTensor 29 A0_2 c0_2 (put x0.grads x1 r37)] w158 := by simpa only [put_length] using hm163
  obtain rfl := Option.some.inj H0
  refine rt [] [.int .i64 0] hf162 ot ?_
  exact ⟨_, rfl, A0_2, c0_2, rfl, hm164⟩
end Go.Proofs.Yteaoijahdinciaa
