/- Printed by gen.py. -/
import Derived.Test.YteaoijahdinciaaF0
import Derived.Test.YteaoijahdinciaaF1
import Derived.Test.YteaoijahdinciaaF3
import Derived.Test.YteaoijahdinciaaF7
namespace Go.Proofs.Yteaoijahdinciaa
open Go Go.RowKit
set_option linter.unusedSimpArgs false
set_option linter.unusedVariables false
set_option linter.unnecessarySimpa false
/-! ### (*backstitch/shelf.Shelf).Set -/
noncomputable def shelf_Shelf_Set.f (x0 : Shelf) (x1 : Int) (x2 : Tensor) : Option ((List Tensor) × (List Int) × Int) :=
  (shelf_Shelf_there.f x0 x1).bind fun r30 =>
  if r30 = 0 then ((tensor_May.f x2).bind fun r43 =>
  if r43 = true then (if 0 ≤ x1 ∧ x1 < (x0.l.length : Int) then ((shape_Same.f x2.Shape (rd x0.l x1).Shape).bind fun r46 =>
  if r46 = true then ((tensor_Copy.f x2).bind fun r129 =>
  if 0 ≤ x1 ∧ x1 < (x0.vers.length : Int) then (some ((put x0.l x1 r129), (put x0.vers x1 (w64 ((rd x0.vers x1) + 1))), 0))
  else none)
  else (some (x0.l, x0.vers, 2)))
  else none)
  else (some (x0.l, x0.vers, 2)))
  else (some (x0.l, x0.vers, r30))
set_option maxRecDepth 100000 in
set_option maxHeartbeats 4000000 in
theorem shelf_Shelf_Set.calls (B0 : List (Option Nat)) (M : List (Option Nat)) (w0 : World) (x0 : Shelf) (b0 : Nat) (A0_0 : Option Addr) (n0_0 c0_0 : Nat) (e0_0 : n0_0 = x0.l.length) (A0_1 : Option Addr) (n0_1 c0_1 : Nat) (e0_1 : n0_1 = x0.vers.length) (A0_2 : Option Addr) (n0_2 c0_2 : Nat) (e0_2 : n0_2 = x0.grads.length) (x1 : Int) (x2 : Tensor) (A2_0 : Option Addr) (n2_0 c2_0 : Nat) (e2_0 : n2_0 = x2.Shape.length) (A2_1 : Option Addr) (n2_1 c2_1 : Nat) (e2_1 : n2_1 = x2.Data.length) (hm0 : Mem B0 M w0 [.bx b0 [.slice A0_0 n0_0 c0_0, .slice A0_1 n0_1 c0_1, .slice A0_2 n0_2 c0_2] 72, .ow kTensor 29 A0_0 c0_0 x0.l, .ow (Kd.int .i64) 3 A0_1 c0_1 x0.vers, .ow kTensor 29 A0_2 c0_2 x0.grads, .sl (Kd.int .i64) A2_0 c2_0 x2.Shape, .sl Kd.float A2_1 c2_1 x2.Data] w0) (r : ((List Tensor) × (List Int) × Int)) (H0 : shelf_Shelf_Set.f x0 x1 x2 = some r) :
    Calls Try.prog 19 [.pointer (some ⟨b0, 0, none⟩), .int .i64 x1, .agg #[.slice A2_0 n2_0 c2_0, .slice A2_1 n2_1 c2_1]].toArray w0 (fun x w' => ∃ v, x = .returned v ∧ ∃ Ap0_0 cp0_0 Ap0_1 cp0_1, v = .int .i64 r.2.2 ∧ Mem B0 M w0 [.bx b0 [.slice Ap0_0 r.1.length cp0_0, .slice Ap0_1 r.2.1.length cp0_1, .slice A0_2 x0.grads.length c0_2] 72, .ow kTensor 29 Ap0_0 cp0_0 r.1, .ow (Kd.int .i64) 3 Ap0_1 cp0_1 r.2.1, .ow kTensor 29 A0_2 c0_2 x0.grads] w') := by
  subst e0_0
  subst e0_1
  subst e0_2
  subst e2_0
  subst e2_1
  unfold shelf_Shelf_Set.f at H0
  refine enter (n := 48) Try.func19 rfl rfl (by kernel_rfl) fun a0 (hf0 : Fr 48 a0 [(0, .pointer (some ⟨b0, 0, none⟩)), (1, .int .i64 x1), (2, .agg #[.slice A2_0 x2.Shape.length c2_0, .slice A2_1 x2.Data.length c2_1])]) => ?_
  refine wp_seq ?_
  refine inReg ?_
  refine lo hf0 rfl (nw (cs := [.slice A2_0 x2.Shape.length c2_0, .slice A2_1 x2.Data.length c2_1]) (T := 29) (d := 5) hf0 ?_)
  intro b21 w22 a23 hbb21 hx25 hg26 hf24
  have hm27 := hm0.box hbb21 hx25 hg26
  refine gg 1 [] [(0, vp b0), (1, vi x1), (5, vp b21)] hf24 ot fun a28 hf29 => ?_
  refine endL rfl ?_
  refine thenN ?_
  refine wp_seq ?_
  refine wp_seq ?_
  obtain ⟨r30, hr30, H0⟩ := ob_split H0
  refine inReg ?_
  refine gg 2 [] [(0, vp b0), (1, vi x1), (5, vp b21), (8, vp b0), (9, vi x1)] hf29 ot fun a31 hf32 => ?_
  refine lo hf32 rfl (cl 10 hf32 callable37 (shelf_Shelf_there.calls _ _ _ x0 _ _ _ _ rfl _ _ _ rfl _ _ _ rfl x1 (hm27.giveO [1, 2, 3, 4] [0, 5, 6] [] [.bx b0 [.slice A0_0 x0.l.length c0_0, .slice A0_1 x0.vers.length c0_1, .slice A0_2 x0.grads.length c0_2] 72, .ow kTensor 29 A0_0 c0_0 x0.l, .ow (Kd.int .i64) 3 A0_1 c0_1 x0.vers, .ow kTensor 29 A0_2 c0_2 x0.grads] _ [] rfl rfl rfl (by kernel_rfl) rfl) r30 hr30) ?_)
  rintro _ w33 a34 ⟨rfl, hk36⟩ hf35
  have hm37 := hm27.backO [1, 2, 3, 4] [0, 5, 6] _ _ rfl rfl (by kernel_rfl) hk36
  refine gg 1 [] [(0, vp b0), (1, vi x1), (5, vp b21), (7, vi r30)] hf35 ot fun a38 hf39 => ?_
  refine endL rfl ?_
  refine thenN ?_
  refine wp_seq ?_
  rcases if_split H0 with ⟨c40, H0⟩ | ⟨c40, H0⟩
  rotate_left
  · refine rg [.bool true] [(0, vp b0), (1, vi x1), (5, vp b21), (7, vi r30), (12, .bool true)] hf39 (oi (neT c40) ot) fun a355 hf356 => ?_
    refine thenN ?_
    refine cT hf356 ?_
    refine wp_seq ?_
    refine rg [] [(6, vi r30)] hf356 ot fun a357 hf358 => ?_
    have hm359 := hm37.se [0, 1, 2, 3] _ rfl
    refine thenN ?_
    refine wp_ret ?_
    refine thenR ?_
    have hm360 : Mem B0 M w0 [.bx b0 [.slice A0_0 x0.l.length c0_0, .slice A0_1 x0.vers.length c0_1, .slice A0_2 x0.grads.length c0_2] 72, .ow kTensor 29 A0_0 c0_0 x0.l, .ow (Kd.int .i64) 3 A0_1 c0_1 x0.vers, .ow kTensor 29 A0_2 c0_2 x0.grads] w33 := hm359.se [0, 1, 2, 3] _ rfl
    obtain rfl := Option.some.inj H0
    refine rt [] [.int .i64 r30] hf358 ot ?_
    exact ⟨_, rfl, A0_0, c0_0, A0_1, c0_1, rfl, hm360⟩
  refine rg [.bool false] [(0, vp b0), (1, vi x1), (5, vp b21), (7, vi r30), (12, .bool false)] hf39 (oi (neF c40) ot) fun a41 hf42 => ?_
  refine thenN ?_
  refine cF hf42 ?_
  refine wp_skip ?_
  refine thenN ?_
  refine wp_seq ?_
  refine wp_seq ?_
  obtain ⟨r43, hr43, H0⟩ := ob_split H0
  rcases ifb_split H0 with ⟨c44, H0⟩ | ⟨c44, H0⟩
  rotate_left
  · refine midReg (fun (a : Act) (w : World) => Fr 48 a [(0, .pointer (some ⟨b0, 0, none⟩)), (1, .int .i64 x1), (5, .pointer (some ⟨b21, 0, none⟩)), (30, .bool true)] ∧ Mem B0 M w0 [.bx b0 [.slice A0_0 x0.l.length c0_0, .slice A0_1 x0.vers.length c0_1, .slice A0_2 x0.grads.length c0_2] 72, .ow kTensor 29 A0_0 c0_0 x0.l, .ow (Kd.int .i64) 3 A0_1 c0_1 x0.vers, .ow kTensor 29 A0_2 c0_2 x0.grads, .bx b21 [.slice A2_0 x2.Shape.length c2_0, .slice A2_1 x2.Data.length c2_1] 29, .sl (Kd.int .i64) A2_0 c2_0 x2.Shape, .sl Kd.float A2_1 c2_1 x2.Data] w) ?_ ?_
    · refine anyG (K := []) [] (by kernel_rfl) fun w325 hg326 => ?_
      have hm327 := hm37.still hg326
      refine qt [0] [.agg #[.slice A2_0 x2.Shape.length c2_0, .slice A2_1 x2.Data.length c2_1]] (fb 17 1) [(0, vp b0), (1, vi x1), (5, vp b21), (14, .agg #[.slice A2_0 x2.Shape.length c2_0, .slice A2_1 x2.Data.length c2_1])] 16 hf42 (oc (hm327.cell (j := 0) 4 rfl rfl) (oc (hm327.cell (j := 1) 4 rfl rfl) ot)) fun a337 hf338 => ?_
      refine a1 1 ?_
      refine oo hf338 rfl (cl 15 hf338 callable32 (tensor_May.calls _ _ _ _ _ _ rfl _ _ _ rfl (hm327.give [5, 6] [.sl (Kd.int .i64) A2_0 c2_0 x2.Shape, .sl Kd.float A2_1 c2_1 x2.Data] rfl rfl) r43 hr43) ?_)
      rintro _ w339 a340 ⟨rfl, hk342⟩ hf341
      refine ⟨.inr (Gr.still hk342.cum.none), ?_⟩
      have hm343 := hm327.still hk342.cum.none
      rw [c44] at hf341
      refine qt [2, 3, 4, 5, 6, 7, 8, 9, 10, 11, 12, 13, 14, 15, 16] [] (fb 17 131071) [(0, vp b0), (1, vi x1), (5, vp b21), (30, .bool true)] 0 hf341 ot fun a344 hf345 => ?_
      refine aD ⟨rfl, hf345.se [0, 1, 5, 30], hm343.se [0, 1, 2, 3, 4, 5, 6] _ rfl⟩
    rintro a346 w347 ⟨hf348, hm349⟩
    refine thenN ?_
    refine cT hf348 ?_
    refine wp_seq ?_
    refine rg [] [(6, vi 2)] hf348 ot fun a350 hf351 => ?_
    have hm352 := hm349.se [0, 1, 2, 3] _ rfl
    refine thenN ?_
    refine wp_ret ?_
    refine thenR ?_
    have hm353 : Mem B0 M w0 [.bx b0 [.slice A0_0 x0.l.length c0_0, .slice A0_1 x0.vers.length c0_1, .slice A0_2 x0.grads.length c0_2] 72, .ow kTensor 29 A0_0 c0_0 x0.l, .ow (Kd.int .i64) 3 A0_1 c0_1 x0.vers, .ow kTensor 29 A0_2 c0_2 x0.grads] w347 := hm352.se [0, 1, 2, 3] _ rfl
    obtain rfl := Option.some.inj H0
    refine rt [] [.int .i64 2] hf351 ot ?_
    exact ⟨_, rfl, A0_0, c0_0, A0_1, c0_1, rfl, hm353⟩
  obtain ⟨g45, H0⟩ := if_guard H0
  obtain ⟨r46, hr46, H0⟩ := ob_split H0
  rcases ifb_split H0 with ⟨c47, H0⟩ | ⟨c47, H0⟩
  rotate_left
  · refine midReg (fun (a : Act) (w : World) => Fr 48 a [(0, .pointer (some ⟨b0, 0, none⟩)), (1, .int .i64 x1), (5, .pointer (some ⟨b21, 0, none⟩)), (30, .bool true)] ∧ Mem B0 M w0 [.bx b0 [.slice A0_0 x0.l.length c0_0, .slice A0_1 x0.vers.length c0_1, .slice A0_2 x0.grads.length c0_2] 72, .ow kTensor 29 A0_0 c0_0 x0.l, .ow (Kd.int .i64) 3 A0_1 c0_1 x0.vers, .ow kTensor 29 A0_2 c0_2 x0.grads, .bx b21 [.slice A2_0 x2.Shape.length c2_0, .slice A2_1 x2.Data.length c2_1] 29, .sl (Kd.int .i64) A2_0 c2_0 x2.Shape, .sl Kd.float A2_1 c2_1 x2.Data] w) ?_ ?_
    · refine anyG (K := []) [] (by kernel_rfl) fun w256 hg257 => ?_
      have hm258 := hm37.still hg257
      refine qt [0] [.agg #[.slice A2_0 x2.Shape.length c2_0, .slice A2_1 x2.Data.length c2_1]] (fb 17 1) [(0, vp b0), (1, vi x1), (5, vp b21), (14, .agg #[.slice A2_0 x2.Shape.length c2_0, .slice A2_1 x2.Data.length c2_1])] 16 hf42 (oc (hm258.cell (j := 0) 4 rfl rfl) (oc (hm258.cell (j := 1) 4 rfl rfl) ot)) fun a285 hf286 => ?_
      refine a1 1 ?_
      refine oo hf286 rfl (cl 15 hf286 callable32 (tensor_May.calls _ _ _ _ _ _ rfl _ _ _ rfl (hm258.give [5, 6] [.sl (Kd.int .i64) A2_0 c2_0 x2.Shape, .sl Kd.float A2_1 c2_1 x2.Data] rfl rfl) r43 hr43) ?_)
      rintro _ w287 a288 ⟨rfl, hk290⟩ hf289
      refine ⟨.inr (Gr.still hk290.cum.none), ?_⟩
      have hm291 := hm258.still hk290.cum.none
      rw [c44] at hf289
      have q292 := (hm291.owAt 1 rfl).cells x1 g45.1 g45.2
      obtain ⟨us293, hr294, hc295⟩ := q292.2
      obtain ⟨A296, c297, A298, c299, rfl, ⟨pA296, sA296⟩, ⟨pA298, sA298⟩⟩ := kTensor.open hr294
      have hm300 := hm291.elem pA296 sA296
      have hm301 := hm300.elem pA298 sA298
      refine qt [2, 3, 4, 5, 6, 7, 8, 9, 10, 11, 12, 13] [.slice A2_0 x2.Shape.length c2_0, .slice A0_0 x0.l.length c0_0, .slice A296 (rd x0.l x1).Shape.length c297] (fb 17 16383) [(0, vp b0), (1, vi x1), (5, vp b21), (17, .bool false), (19, .slice A2_0 x2.Shape.length c2_0), (27, .slice A296 (rd x0.l x1).Shape.length c297)] 3 hf289 (oc (hm291.cell (j := 0) 4 rfl rfl) (oc (hm291.cell (j := 0) 0 rfl rfl) (oi q292.1 (oi g45 (oc (hc295 0 _ rfl) ot))))) fun a302 hf303 => ?_
      refine a1 14 ?_
      refine oo hf303 rfl (cl 28 hf303 callable35 (shape_Same.calls _ _ _ _ _ _ rfl _ _ _ _ rfl (hm301.give [7, 1] [.sl (Kd.int .i64) A2_0 c2_0 x2.Shape, .sl (Kd.int .i64) A296 c297 (rd x0.l x1).Shape] rfl rfl) r46 hr46) ?_)
      rintro _ w304 a305 ⟨rfl, hk307⟩ hf306
      refine ⟨.inr (Gr.still hk307.cum.none), ?_⟩
      have hm308 := hm301.still hk307.cum.none
      rw [c47] at hf306
      refine qt [15, 16] [] (fb 17 131071) [(0, vp b0), (1, vi x1), (5, vp b21), (30, .bool true)] 0 hf306 ot fun a309 hf310 => ?_
      refine aD ⟨rfl, hf310.se [0, 1, 5, 30], hm308.se [2, 3, 4, 5, 6, 7, 8] _ rfl⟩
    rintro a311 w312 ⟨hf313, hm314⟩
    refine thenN ?_
    refine cT hf313 ?_
    refine wp_seq ?_
    refine rg [] [(6, vi 2)] hf313 ot fun a315 hf316 => ?_
    have hm317 := hm314.se [0, 1, 2, 3] _ rfl
    refine thenN ?_
    refine wp_ret ?_
    refine thenR ?_
    have hm318 : Mem B0 M w0 [.bx b0 [.slice A0_0 x0.l.length c0_0, .slice A0_1 x0.vers.length c0_1, .slice A0_2 x0.grads.length c0_2] 72, .ow kTensor 29 A0_0 c0_0 x0.l, .ow (Kd.int .i64) 3 A0_1 c0_1 x0.vers, .ow kTensor 29 A0_2 c0_2 x0.grads] w312 := hm317.se [0, 1, 2, 3] _ rfl
    obtain rfl := Option.some.inj H0
    refine rt [] [.int .i64 2] hf316 ot ?_
    exact ⟨_, rfl, A0_0, c0_0, A0_1, c0_1, rfl, hm318⟩
  refine midReg (fun (a : Act) (w : World) => Fr 48 a [(0, .pointer (some ⟨b0, 0, none⟩)), (1, .int .i64 x1), (5, .pointer (some ⟨b21, 0, none⟩)), (30, .bool false)] ∧ Mem B0 M w0 [.bx b0 [.slice A0_0 x0.l.length c0_0, .slice A0_1 x0.vers.length c0_1, .slice A0_2 x0.grads.length c0_2] 72, .ow kTensor 29 A0_0 c0_0 x0.l, .ow (Kd.int .i64) 3 A0_1 c0_1 x0.vers, .ow kTensor 29 A0_2 c0_2 x0.grads, .bx b21 [.slice A2_0 x2.Shape.length c2_0, .slice A2_1 x2.Data.length c2_1] 29, .sl (Kd.int .i64) A2_0 c2_0 x2.Shape, .sl Kd.float A2_1 c2_1 x2.Data] w) ?_ ?_
  · refine anyG (K := []) [] (by kernel_rfl) fun w70 hg71 => ?_
    have hm72 := hm37.still hg71
    refine qt [0] [.agg #[.slice A2_0 x2.Shape.length c2_0, .slice A2_1 x2.Data.length c2_1]] (fb 17 1) [(0, vp b0), (1, vi x1), (5, vp b21), (14, .agg #[.slice A2_0 x2.Shape.length c2_0, .slice A2_1 x2.Data.length c2_1])] 16 hf42 (oc (hm72.cell (j := 0) 4 rfl rfl) (oc (hm72.cell (j := 1) 4 rfl rfl) ot)) fun a99 hf100 => ?_
    refine a1 1 ?_
    refine oo hf100 rfl (cl 15 hf100 callable32 (tensor_May.calls _ _ _ _ _ _ rfl _ _ _ rfl (hm72.give [5, 6] [.sl (Kd.int .i64) A2_0 c2_0 x2.Shape, .sl Kd.float A2_1 c2_1 x2.Data] rfl rfl) r43 hr43) ?_)
    rintro _ w101 a102 ⟨rfl, hk104⟩ hf103
    refine ⟨.inr (Gr.still hk104.cum.none), ?_⟩
    have hm105 := hm72.still hk104.cum.none
    rw [c44] at hf103
    have q106 := (hm105.owAt 1 rfl).cells x1 g45.1 g45.2
    obtain ⟨us107, hr108, hc109⟩ := q106.2
    obtain ⟨A110, c111, A112, c113, rfl, ⟨pA110, sA110⟩, ⟨pA112, sA112⟩⟩ := kTensor.open hr108
    have hm114 := hm105.elem pA110 sA110
    have hm115 := hm114.elem pA112 sA112
    refine qt [2, 3, 4, 5, 6, 7, 8, 9, 10, 11, 12, 13] [.slice A2_0 x2.Shape.length c2_0, .slice A0_0 x0.l.length c0_0, .slice A110 (rd x0.l x1).Shape.length c111] (fb 17 16383) [(0, vp b0), (1, vi x1), (5, vp b21), (17, .bool false), (19, .slice A2_0 x2.Shape.length c2_0), (27, .slice A110 (rd x0.l x1).Shape.length c111)] 3 hf103 (oc (hm105.cell (j := 0) 4 rfl rfl) (oc (hm105.cell (j := 0) 0 rfl rfl) (oi q106.1 (oi g45 (oc (hc109 0 _ rfl) ot))))) fun a116 hf117 => ?_
    refine a1 14 ?_
    refine oo hf117 rfl (cl 28 hf117 callable35 (shape_Same.calls _ _ _ _ _ _ rfl _ _ _ _ rfl (hm115.give [7, 1] [.sl (Kd.int .i64) A2_0 c2_0 x2.Shape, .sl (Kd.int .i64) A110 c111 (rd x0.l x1).Shape] rfl rfl) r46 hr46) ?_)
    rintro _ w118 a119 ⟨rfl, hk121⟩ hf120
    refine ⟨.inr (Gr.still hk121.cum.none), ?_⟩
    have hm122 := hm115.still hk121.cum.none
    rw [c47] at hf120
    refine qt [15, 16] [] (fb 17 131071) [(0, vp b0), (1, vi x1), (5, vp b21), (30, .bool false)] 0 hf120 ot fun a123 hf124 => ?_
    refine aD ⟨rfl, hf124.se [0, 1, 5, 30], hm122.se [2, 3, 4, 5, 6, 7, 8] _ rfl⟩
  rintro a125 w126 ⟨hf127, hm128⟩
  refine thenN ?_
  refine cF hf127 ?_
  refine wp_skip ?_
  refine thenN ?_
  refine wp_seq ?_
  obtain ⟨r129, hr129, H0⟩ := ob_split H0
  refine midReg (fun (a : Act) (w : World) => Fr 48 a [(0, .pointer (some ⟨b0, 0, none⟩)), (1, .int .i64 x1)] ∧ Mem B0 M w0 [.bx b0 [.slice A0_0 x0.l.length c0_0, .slice A0_1 x0.vers.length c0_1, .slice A0_2 x0.grads.length c0_2] 72, .ow kTensor 29 A0_0 c0_0 (put x0.l x1 r129), .ow (Kd.int .i64) 3 A0_1 c0_1 x0.vers, .ow kTensor 29 A0_2 c0_2 x0.grads] w) ?_ ?_
  · refine anyG (K := []) [8] (by kernel_rfl) fun w156 hg157 => ?_
    have hm158 := hm128.still hg157
    refine qt [0, 1, 2, 3, 4, 5] [.slice A0_0 x0.l.length c0_0, .agg #[.slice A2_0 x2.Shape.length c2_0, .slice A2_1 x2.Data.length c2_1]] (fb 9 63) [(0, vp b0), (1, vi x1), (34, .slice A0_0 x0.l.length c0_0), (35, vi x1), (36, .agg #[.slice A2_0 x2.Shape.length c2_0, .slice A2_1 x2.Data.length c2_1])] 3 hf127 (oc (hm158.cell (j := 0) 0 rfl rfl) (oc (hm158.cell (j := 0) 4 rfl rfl) (oc (hm158.cell (j := 1) 4 rfl rfl) ot))) fun a188 hf189 => ?_
    refine a1 6 ?_
    refine oo hf189 rfl (cl 37 hf189 callable33 (tensor_Copy.calls _ _ _ _ _ _ rfl _ _ _ rfl (hm158.give [5, 6] [.sl (Kd.int .i64) A2_0 c2_0 x2.Shape, .sl Kd.float A2_1 c2_1 x2.Data] rfl rfl) r129 hr129) ?_)
    rintro _ w194 a195 ⟨A190, c191, A192, c193, rfl, hk197⟩ hf196
    refine ⟨.inr (Gr.still hk197.cum.none), ?_⟩
    have hm198 := hm158.back hk197
    have hm199 := hm198.seal 0 _ rfl rfl
    have hm200 := hm199.seal 1 _ rfl rfl
    have q201 := (hm200.owAt 3 rfl).cells x1 g45.1 g45.2
    obtain ⟨us202, hr203, hc204⟩ := q201.2
    obtain ⟨A205, c206, A207, c208, rfl, ⟨pA205, sA205⟩, ⟨pA207, sA207⟩⟩ := kTensor.open hr203
    have hm209 := hm200.elem pA205 sA205
    have hm210 := hm209.elem pA207 sA207
    refine qt [7] [] (fb 9 255) [(0, vp b0), (1, vi x1), (37, .agg #[.slice A190 r129.Shape.length c191, .slice A192 r129.Data.length c193]), (38, .pointer (some ((ad A0_0).add ((x1).toNat * 2))))] 1 hf196 (oi q201.1 (oi g45 ot)) fun a211 hf212 => ?_
    refine a1 8 ?_
    refine oo hf212 rfl (so (i := x1) (x := r129) (us := [.slice A190 r129.Shape.length c191, .slice A192 r129.Data.length c193]) (sz := 2) hf212 (hm210.at 5 rfl) (kTensor.mk r129 ⟨hm210.cpAt 2 rfl, (hm210.at2 5 2 rfl rfl).2⟩ ⟨hm210.cpAt 3 rfl, (hm210.at2 5 3 rfl rfl).2⟩) g45.1 g45.2 ?_)
    intro w213 hx214 hg215
    refine ⟨.inl (by decide), ?_⟩
    have hm216 := hm210.setOwn 5 _ rfl rfl hx214 hg215 (.inl rfl)
    refine aD ⟨rfl, hf212.se [0, 1], hm216.se [4, 5, 6, 7] _ rfl⟩
  rintro a217 w218 ⟨hf219, hm220⟩
  refine thenN ?_
  refine wp_seq ?_
  obtain ⟨g221, H0⟩ := if_guard H0
  have q222 := (hm220.owAt 2 rfl).int x1 g221.1 g221.2
  have q223 := (hm220.owAt 2 rfl).int x1 g221.1 g221.2
  refine inReg ?_
  refine gg 9 [.slice A0_1 x0.vers.length c0_1, .int .i64 (rd x0.vers x1)] [(46, vi (w64 ((rd x0.vers x1) + 1))), (47, .pointer (some ((ad A0_1).add ((x1).toNat * 1))))] hf219 (oc (hm220.cell (j := 1) 0 rfl rfl) (oi q222.1 (oi g221 (oc q222.2 (oi q223.1 (oi g221 ot)))))) fun a224 hf225 => ?_
  refine lo hf225 rfl (so (i := x1) (x := (w64 ((rd x0.vers x1) + 1))) (us := [.int .i64 (w64 ((rd x0.vers x1) + 1))]) (sz := 1) hf225 (hm220.at 2 rfl) rfl g221.1 g221.2 ?_)
  intro w226 hx227 hg228
  have hm229 := hm220.setOwn 2 _ rfl rfl hx227 hg228 (.inl rfl)
  refine endL rfl ?_
  refine thenN ?_
  refine wp_seq ?_
  refine rg [] [(6, vi 0)] hf225 ot fun a230 hf231 => ?_
  refine thenN ?_
  refine wp_ret ?_
  have hm232 : Mem B0 M w0 [.bx b0 [.slice A0_0 x0.l.length c0_0, .slice A0_1 x0.vers.length c0_1, .slice A0_2 x0.grads.length c0_2] 72, .ow kTensor 29 A0_0 c0_0 (put x0.l x1 r129), .ow (Kd.int .i64) 3 A0_1 c0_1 (put x0.vers x1 (w64 ((rd x0.vers x1) + 1))), .ow kTensor 29 A0_2 c0_2 x0.grads] w226 := hm229.se [0, 1, 2, 3] _ rfl
  have hm233 : Mem B0 M w0 [.bx b0 [.slice A0_0 (put x0.l x1 r129).length c0_0, .slice A0_1 ((put x0.vers x1 (w64 ((rd x0.vers x1) + 1))).length) c0_1, .slice A0_2 x0.grads.length c0_2] 72, .ow kTensor 29 A0_0 c0_0 (put x0.l x1 r129), .ow (Kd.int .i64) 3 A0_1 c0_1 (put x0.vers x1 (w64 ((rd x0.vers x1) + 1))), .ow kTensor 29 A0_2 c0_2 x0.grads] w226 := by simpa only [put_length] using hm232
  obtain rfl := Option.some.inj H0
  refine rt [] [.int .i64 0] hf231 ot ?_
  exact ⟨_, rfl, A0_0, c0_0, A0_1, c0_1, rfl, hm233⟩

/-! ### (*backstitch/backstitchref19.Shelf).in -/
noncomputable def ref19_Shelf_in.f (x0 : Shelf65) (x1 : Int) : Option Bool :=
  if 0 ≤ x1 then (if x1 < (x0.T.length : Int) then (some true)
  else (some false))
  else (some false)
set_option maxRecDepth 100000 in
set_option maxHeartbeats 4000000 in
theorem ref19_Shelf_in.calls (B0 : List (Option Nat)) (M : List (Option Nat)) (w0 : World) (x0 : Shelf65) (b0 : Nat) (A0_0 : Option Addr) (n0_0 c0_0 : Nat) (e0_0 : n0_0 = x0.T.length) (A0_1 : Option Addr) (n0_1 c0_1 : Nat) (e0_1 : n0_1 = x0.G.length) (A0_2 : Option Addr) (n0_2 c0_2 : Nat) (e0_2 : n0_2 = x0.V.length) (x1 : Int) (hm0 : Mem B0 M w0 [.bx b0 [.slice A0_0 n0_0 c0_0, .slice A0_1 n0_1 c0_1, .slice A0_2 n0_2 c0_2] 65, .ow kTensor 29 A0_0 c0_0 x0.T, .ow kTensor 29 A0_1 c0_1 x0.G, .ow (Kd.int .i64) 3 A0_2 c0_2 x0.V] w0) (r : Bool) (H0 : ref19_Shelf_in.f x0 x1 = some r) :
    Calls Try.prog 42 [.pointer (some ⟨b0, 0, none⟩), .int .i64 x1].toArray w0 (fun x w' => ∃ v, x = .returned v ∧ v = .bool r ∧ Mem B0 M w0 [.bx b0 [.slice A0_0 x0.T.length c0_0, .slice A0_1 x0.G.length c0_1, .slice A0_2 x0.V.length c0_2] 65, .ow kTensor 29 A0_0 c0_0 x0.T, .ow kTensor 29 A0_1 c0_1 x0.G, .ow (Kd.int .i64) 3 A0_2 c0_2 x0.V] w') := by
  subst e0_0
  subst e0_1
  subst e0_2
  unfold ref19_Shelf_in.f at H0
  refine enter (n := 16) Try.func42 rfl rfl (by kernel_rfl) fun a0 (hf0 : Fr 16 a0 [(0, .pointer (some ⟨b0, 0, none⟩)), (1, .int .i64 x1)]) => ?_
  refine wp_seq ?_
  refine rg [] [(0, vp b0), (1, vi x1)] hf0 ot fun a21 hf22 => ?_
  refine thenN ?_
  refine wp_seq ?_
  rcases if_split H0 with ⟨c23, H0⟩ | ⟨c23, H0⟩
  rotate_left
  · refine rg (ob := [.is (decide (0 ≤ x1) = false)]) [.bool false] [(4, .bool false)] hf22 ⟨(decide_eq_false c23), trivial⟩ fun a33 hf34 => ?_
    refine thenN ?_
    refine wp_ret ?_
    have hm35 : Mem B0 M w0 [.bx b0 [.slice A0_0 x0.T.length c0_0, .slice A0_1 x0.G.length c0_1, .slice A0_2 x0.V.length c0_2] 65, .ow kTensor 29 A0_0 c0_0 x0.T, .ow kTensor 29 A0_1 c0_1 x0.G, .ow (Kd.int .i64) 3 A0_2 c0_2 x0.V] w0 := hm0.se [0, 1, 2, 3] _ rfl
    obtain rfl := Option.some.inj H0
    refine rt [] [.bool false] hf34 ot ?_
    exact ⟨_, rfl, rfl, hm35⟩
  rcases if_split H0 with ⟨c24, H0⟩ | ⟨c24, H0⟩
  · refine rg (ob := [.is (decide (0 ≤ x1) = true), .cell ⟨b0, 0, none⟩ (.slice A0_0 x0.T.length c0_0), .is (decide (x1 < (x0.T.length : Int)) = true)]) [.bool true, .slice A0_0 x0.T.length c0_0, .bool true] [(4, .bool true)] hf22 ⟨(decide_eq_true c23), (hm0.cell 0 rfl rfl), (decide_eq_true c24), trivial⟩ fun a25 hf26 => ?_
    refine thenN ?_
    refine wp_ret ?_
    have hm27 : Mem B0 M w0 [.bx b0 [.slice A0_0 x0.T.length c0_0, .slice A0_1 x0.G.length c0_1, .slice A0_2 x0.V.length c0_2] 65, .ow kTensor 29 A0_0 c0_0 x0.T, .ow kTensor 29 A0_1 c0_1 x0.G, .ow (Kd.int .i64) 3 A0_2 c0_2 x0.V] w0 := hm0.se [0, 1, 2, 3] _ rfl
    obtain rfl := Option.some.inj H0
    refine rt [] [.bool true] hf26 ot ?_
    exact ⟨_, rfl, rfl, hm27⟩
  refine rg (ob := [.is (decide (0 ≤ x1) = true), .cell ⟨b0, 0, none⟩ (.slice A0_0 x0.T.length c0_0), .is (decide (x1 < (x0.T.length : Int)) = false)]) [.bool true, .slice A0_0 x0.T.length c0_0, .bool false] [(4, .bool false)] hf22 ⟨(decide_eq_true c23), (hm0.cell 0 rfl rfl), (decide_eq_false c24), trivial⟩ fun a29 hf30 => ?_
  refine thenN ?_
  refine wp_ret ?_
  have hm31 : Mem B0 M w0 [.bx b0 [.slice A0_0 x0.T.length c0_0, .slice A0_1 x0.G.length c0_1, .slice A0_2 x0.V.length c0_2] 65, .ow kTensor 29 A0_0 c0_0 x0.T, .ow kTensor 29 A0_1 c0_1 x0.G, .ow (Kd.int .i64) 3 A0_2 c0_2 x0.V] w0 := hm0.se [0, 1, 2, 3] _ rfl
  obtain rfl := Option.some.inj H0
  refine rt [] [.bool false] hf30 ot ?_
  exact ⟨_, rfl, rfl, hm31⟩

/-! ### backstitch/backstitchref1.SameInts -/
noncomputable def ref1_SameInts.l0 (x0 : (List Int)) (x1 : (List Int)) (s28 : Int) : Step Int (Out2 Int Bool) :=
  if s28 < (x0.length : Int) then (if 0 ≤ s28 ∧ s28 < (x0.length : Int) then (if 0 ≤ s28 ∧ s28 < (x1.length : Int) then (if (rd x0 s28) = (rd x1 s28) then (.next (w64 (s28 + 1)))
  else (.done (.ret false)))
  else .bad)
  else .bad)
  else (.done (.go s28))
noncomputable def ref1_SameInts.f (x0 : (List Int)) (x1 : (List Int)) : Option Bool :=
  if (x0.length : Int) = (x1.length : Int) then ((loop (ref1_SameInts.l0 x0 x1) 0).bind fun r29 =>
  r29.on (fun yr29 =>
  some true) (fun y => some y))
  else (some false)
set_option maxRecDepth 100000 in
set_option maxHeartbeats 4000000 in
theorem ref1_SameInts.calls (M : List (Option Nat)) (w0 : World) (x0 : (List Int)) (A0 : Option Addr) (n0 c0 : Nat) (e0 : n0 = x0.length) (x1 : (List Int)) (A1 : Option Addr) (n1 c1 : Nat) (e1 : n1 = x1.length) (hm0 : Mem [] M w0 [.sl (Kd.int .i64) A0 c0 x0, .sl (Kd.int .i64) A1 c1 x1] w0) (r : Bool) (H0 : ref1_SameInts.f x0 x1 = some r) :
    Calls Try.prog 22 [.slice A0 n0 c0, .slice A1 n1 c1].toArray w0 (fun x w' => ∃ v, x = .returned v ∧ v = .bool r ∧ Mem [] M w0 [] w') := by
  subst e0
  subst e1
  unfold ref1_SameInts.f at H0
  refine enter (n := 26) Try.func22 rfl rfl (by kernel_rfl) fun a0 (hf0 : Fr 26 a0 [(0, .slice A0 x0.length c0), (1, .slice A1 x1.length c1)]) => ?_
  refine wp_seq ?_
  refine rg [] [(0, .slice A0 x0.length c0), (1, .slice A1 x1.length c1)] hf0 ot fun a21 hf22 => ?_
  refine thenN ?_
  refine wp_seq ?_
  refine wp_seq ?_
  rcases if_split H0 with ⟨c23, H0⟩ | ⟨c23, H0⟩
  rotate_left
  · refine rg [.bool true] [(0, .slice A0 x0.length c0), (1, .slice A1 x1.length c1), (10, .bool true)] hf22 (oi (neT c23) ot) fun a74 hf75 => ?_
    refine thenN ?_
    refine cT hf75 ?_
    refine wp_seq ?_
    refine rg [] [(4, .bool false)] hf75 ot fun a76 hf77 => ?_
    have hm78 := hm0.se [] _ rfl
    refine thenN ?_
    refine wp_ret ?_
    refine thenR ?_
    have hm79 : Mem [] M w0 [] w0 := hm78.se [] _ rfl
    obtain rfl := Option.some.inj H0
    refine rt [] [.bool false] hf77 ot ?_
    exact ⟨_, rfl, rfl, hm79⟩
  refine rg [.bool false] [(0, .slice A0 x0.length c0), (1, .slice A1 x1.length c1), (10, .bool false)] hf22 (oi (neF c23) ot) fun a24 hf25 => ?_
  refine thenN ?_
  refine cF hf25 ?_
  refine wp_skip ?_
  refine thenN ?_
  refine wp_seq ?_
  refine wp_seq ?_
  refine rg [] [(0, .slice A0 x0.length c0), (1, .slice A1 x1.length c1), (5, vi 0)] hf25 ot fun a26 hf27 => ?_
  refine thenN ?_
  obtain ⟨r29, hr29, H0⟩ := ob_split H0
  refine wpBlock (Mid := fun (a : Act) (w : World) => ∃ yr29 : Int, r29 = .go yr29 ∧ Fr 26 a [(0, .slice A0 x0.length c0), (1, .slice A1 x1.length c1), (5, .int .i64 yr29)] ∧ Mem [] M w0 [.sl (Kd.int .i64) A0 c0 x0, .sl (Kd.int .i64) A1 c1 x1] w) ?_ ?_
  · refine wpLoop (ref1_SameInts.l0 x0 x1) r29 (fun (s28 : Int) (a : Act) (w : World) => Fr 26 a [(0, .slice A0 x0.length c0), (1, .slice A1 x1.length c1), (5, .int .i64 s28)] ∧ Mem [] M w0 [.sl (Kd.int .i64) A0 c0 x0, .sl (Kd.int .i64) A1 c1 x1] w) 0 hr29 ⟨hf27.se [0, 1, 5], hm0.se [0, 1] _ rfl⟩ ?_
    rintro g30 s28 a31 w32 H1 ⟨hf33, hm34⟩
    unfold ref1_SameInts.l0 at H1
    refine wp_seq ?_
    refine wp_seq ?_
    rcases ifS_split H1 with ⟨c35, H1⟩ | ⟨c35, H1⟩
    rotate_left
    · refine rg (ob := [.is (decide (s28 < (x0.length : Int)) = false)]) [.bool false] [(0, .slice A0 x0.length c0), (1, .slice A1 x1.length c1), (5, vi s28), (14, .bool false)] hf33 ⟨(decide_eq_false c35), trivial⟩ fun a62 hf63 => ?_
      refine thenN ?_
      refine cF hf63 ?_
      refine wp_exit ?_
      refine thenE ?_
      refine thenE ?_
      obtain rfl := Option.some.inj H1
      exact .inl ⟨rfl, s28, rfl, hf63.se [0, 1, 5], hm34.se [0, 1] _ rfl⟩
    refine rg (ob := [.is (decide (s28 < (x0.length : Int)) = true)]) [.bool true] [(0, .slice A0 x0.length c0), (1, .slice A1 x1.length c1), (5, vi s28), (14, .bool true)] hf33 ⟨(decide_eq_true c35), trivial⟩ fun a36 hf37 => ?_
    refine thenN ?_
    refine cT hf37 ?_
    refine wp_skip ?_
    refine thenN ?_
    refine wp_seq ?_
    refine wp_block ?_
    refine wp_seq ?_
    obtain ⟨g38, H1⟩ := ifS_guard H1
    obtain ⟨g39, H1⟩ := ifS_guard H1
    rcases ifS_split H1 with ⟨c40, H1⟩ | ⟨c40, H1⟩
    · have q41 := (hm34.slAt 0 rfl).int s28 g38.1 g38.2
      have q42 := (hm34.slAt 1 rfl).int s28 g39.1 g39.2
      refine rq [.int .i64 (rd x0 s28), .int .i64 (rd x1 s28), .bool false] [(0, .slice A0 x0.length c0), (1, .slice A1 x1.length c1), (5, vi s28), (25, .bool false)] hf37 (oi q41.1 (oi g38 (oc q41.2 (oi q42.1 (oi g39 (oc q42.2 (oi (neF c40) ot))))))) fun a43 w45 hf44 hg46 => ?_
      have hm47 := hm34.still hg46
      refine thenN ?_
      refine cF hf44 ?_
      refine wp_skip ?_
      refine blkN ?_
      refine thenN ?_
      refine rg [] [(0, .slice A0 x0.length c0), (1, .slice A1 x1.length c1), (5, vi (w64 (s28 + 1)))] hf44 ot fun a48 hf49 => ?_
      exact ⟨(w64 (s28 + 1)), H1, hf49.se [0, 1, 5], hm47.se [0, 1] _ rfl⟩
    have q50 := (hm34.slAt 0 rfl).int s28 g38.1 g38.2
    have q51 := (hm34.slAt 1 rfl).int s28 g39.1 g39.2
    refine rq [.int .i64 (rd x0 s28), .int .i64 (rd x1 s28), .bool true] [(0, .slice A0 x0.length c0), (1, .slice A1 x1.length c1), (5, vi s28), (25, .bool true)] hf37 (oi q50.1 (oi g38 (oc q50.2 (oi q51.1 (oi g39 (oc q51.2 (oi (neT c40) ot))))))) fun a52 w54 hf53 hg55 => ?_
    have hm56 := hm34.still hg55
    refine thenN ?_
    refine cT hf53 ?_
    refine wp_seq ?_
    refine rg [] [(4, .bool false)] hf53 ot fun a57 hf58 => ?_
    have hm59 := hm56.se [] _ rfl
    refine thenN ?_
    refine wp_ret ?_
    refine blkR ?_
    refine thenR ?_
    refine thenR ?_
    refine .inr ⟨rfl, ?_⟩
    refine thenR ?_
    have hm60 : Mem [] M w0 [] w54 := hm59.se [] _ rfl
    obtain rfl := Option.some.inj H1
    obtain rfl := Option.some.inj H0
    refine rt [] [.bool false] hf58 ot ?_
    exact ⟨_, rfl, rfl, hm60⟩
  rintro a65 w66 ⟨yr29, rfl, hf67, hm68⟩
  refine thenN ?_
  refine wp_seq ?_
  refine rg [] [(4, .bool true)] hf67 ot fun a69 hf70 => ?_
  have hm71 := hm68.se [] _ rfl
  refine thenN ?_
  refine wp_ret ?_
  have hm72 : Mem [] M w0 [] w66 := hm71.se [] _ rfl
  obtain rfl := Option.some.inj H0
  refine rt [] [.bool true] hf70 ot ?_
  exact ⟨_, rfl, rfl, hm72⟩
end Go.Proofs.Yteaoijahdinciaa
