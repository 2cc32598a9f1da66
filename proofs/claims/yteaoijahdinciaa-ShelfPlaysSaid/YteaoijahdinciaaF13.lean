/- Printed by gen.py. -/
import Derived.Test.YteaoijahdinciaaF1
import Derived.Test.YteaoijahdinciaaF12
import Derived.Test.YteaoijahdinciaaF9
namespace Go.Proofs.Yteaoijahdinciaa
open Go Go.RowKit
set_option linter.unusedSimpArgs false
set_option linter.unusedVariables false
set_option linter.unnecessarySimpa false
/-! ### (*backstitch/backstitchref19.Shelf).Set -/
noncomputable def ref19_Shelf_Set.f (x0 : Shelf65) (x1 : Int) (x2 : Tensor) : Option ((List Tensor) × (List Int) × Int) :=
  (ref19_Shelf_in.f x0 x1).bind fun r30 =>
  if r30 = true then ((ref1_TensorMay.f x2).bind fun r41 =>
  if r41 = true then (if 0 ≤ x1 ∧ x1 < (x0.T.length : Int) then ((ref1_SameInts.f x2.Shape (rd x0.T x1).Shape).bind fun r44 =>
  if r44 = true then (if 0 ≤ x1 ∧ x1 < (x0.V.length : Int) then (some ((put x0.T x1 x2), (put x0.V x1 (w64 ((rd x0.V x1) + 1))), 0))
  else none)
  else (some (x0.T, x0.V, 2)))
  else none)
  else (some (x0.T, x0.V, 2)))
  else (some (x0.T, x0.V, 7))
set_option maxRecDepth 100000 in
set_option maxHeartbeats 4000000 in
theorem ref19_Shelf_Set.calls (B0 : List (Option Nat)) (M : List (Option Nat)) (w0 : World) (x0 : Shelf65) (b0 : Nat) (A0_0 : Option Addr) (n0_0 c0_0 : Nat) (e0_0 : n0_0 = x0.T.length) (A0_1 : Option Addr) (n0_1 c0_1 : Nat) (e0_1 : n0_1 = x0.G.length) (A0_2 : Option Addr) (n0_2 c0_2 : Nat) (e0_2 : n0_2 = x0.V.length) (x1 : Int) (x2 : Tensor) (A2_0 : Option Addr) (n2_0 c2_0 : Nat) (e2_0 : n2_0 = x2.Shape.length) (A2_1 : Option Addr) (n2_1 c2_1 : Nat) (e2_1 : n2_1 = x2.Data.length) (hm0 : Mem B0 M w0 [.bx b0 [.slice A0_0 n0_0 c0_0, .slice A0_1 n0_1 c0_1, .slice A0_2 n0_2 c0_2] 65, .ow kTensor 29 A0_0 c0_0 x0.T, .ow kTensor 29 A0_1 c0_1 x0.G, .ow (Kd.int .i64) 3 A0_2 c0_2 x0.V, .sl (Kd.int .i64) A2_0 c2_0 x2.Shape, .sl Kd.float A2_1 c2_1 x2.Data] w0) (r : ((List Tensor) × (List Int) × Int)) (H0 : ref19_Shelf_Set.f x0 x1 x2 = some r) :
    Calls Try.prog 26 [.pointer (some ⟨b0, 0, none⟩), .int .i64 x1, .agg #[.slice A2_0 n2_0 c2_0, .slice A2_1 n2_1 c2_1]].toArray w0 (fun x w' => ∃ v, x = .returned v ∧ ∃ Ap0_0 cp0_0 Ap0_2 cp0_2, v = .int .i64 r.2.2 ∧ Mem B0 M w0 [.bx b0 [.slice Ap0_0 r.1.length cp0_0, .slice A0_1 x0.G.length c0_1, .slice Ap0_2 r.2.1.length cp0_2] 65, .ow kTensor 29 Ap0_0 cp0_0 r.1, .ow kTensor 29 A0_1 c0_1 x0.G, .ow (Kd.int .i64) 3 Ap0_2 cp0_2 r.2.1] w') := by
  subst e0_0
  subst e0_1
  subst e0_2
  subst e2_0
  subst e2_1
  unfold ref19_Shelf_Set.f at H0
  refine enter (n := 44) Try.func26 rfl rfl (by kernel_rfl) fun a0 (hf0 : Fr 44 a0 [(0, .pointer (some ⟨b0, 0, none⟩)), (1, .int .i64 x1), (2, .agg #[.slice A2_0 x2.Shape.length c2_0, .slice A2_1 x2.Data.length c2_1])]) => ?_
  refine wp_seq ?_
  refine inReg ?_
  refine lo hf0 rfl (nw (cs := [.slice A2_0 x2.Shape.length c2_0, .slice A2_1 x2.Data.length c2_1]) (T := 29) (d := 5) hf0 ?_)
  intro b21 w22 a23 hbb21 hx25 hg26 hf24
  have hm27 := hm0.box hbb21 hx25 hg26
  refine gg 1 [] [(0, vp b0), (1, vi x1), (5, vp b21)] hf24 ot fun a28 hf29 => ?_
  refine endL rfl ?_
  refine thenN ?_
  refine wp_seq ?_
  refine wp_seq ?_
  obtain ⟨r30, hr30, H0⟩ := ob_split H0
  rcases ifb_split H0 with ⟨c31, H0⟩ | ⟨c31, H0⟩
  rotate_left
  · refine inReg ?_
    refine gg 2 [] [(0, vp b0), (1, vi x1), (5, vp b21), (7, vp b0), (8, vi x1)] hf29 ot fun a315 hf316 => ?_
    refine lo hf316 rfl (cl 9 hf316 callable42 (ref19_Shelf_in.calls _ _ _ x0 _ _ _ _ rfl _ _ _ rfl _ _ _ rfl x1 (hm27.giveO [1, 2, 3, 4] [0, 5, 6] [] [.bx b0 [.slice A0_0 x0.T.length c0_0, .slice A0_1 x0.G.length c0_1, .slice A0_2 x0.V.length c0_2] 65, .ow kTensor 29 A0_0 c0_0 x0.T, .ow kTensor 29 A0_1 c0_1 x0.G, .ow (Kd.int .i64) 3 A0_2 c0_2 x0.V] _ [] rfl rfl rfl (by kernel_rfl) rfl) r30 hr30) ?_)
    rintro _ w317 a318 ⟨rfl, hk320⟩ hf319
    have hm321 := hm27.backO [1, 2, 3, 4] [0, 5, 6] _ _ rfl rfl (by kernel_rfl) hk320
    rw [c31] at hf319
    refine gg 1 [] [(0, vp b0), (1, vi x1), (5, vp b21), (10, .bool true)] hf319 ot fun a322 hf323 => ?_
    refine endL rfl ?_
    refine thenN ?_
    refine cT hf323 ?_
    refine wp_seq ?_
    refine rg [] [(6, vi 7)] hf323 ot fun a324 hf325 => ?_
    have hm326 := hm321.se [0, 1, 2, 3] _ rfl
    refine thenN ?_
    refine wp_ret ?_
    refine thenR ?_
    have hm327 : Mem B0 M w0 [.bx b0 [.slice A0_0 x0.T.length c0_0, .slice A0_1 x0.G.length c0_1, .slice A0_2 x0.V.length c0_2] 65, .ow kTensor 29 A0_0 c0_0 x0.T, .ow kTensor 29 A0_1 c0_1 x0.G, .ow (Kd.int .i64) 3 A0_2 c0_2 x0.V] w317 := hm326.se [0, 1, 2, 3] _ rfl
    obtain rfl := Option.some.inj H0
    refine rt [] [.int .i64 7] hf325 ot ?_
    exact ⟨_, rfl, A0_0, c0_0, A0_2, c0_2, rfl, hm327⟩
  refine inReg ?_
  refine gg 2 [] [(0, vp b0), (1, vi x1), (5, vp b21), (7, vp b0), (8, vi x1)] hf29 ot fun a32 hf33 => ?_
  refine lo hf33 rfl (cl 9 hf33 callable42 (ref19_Shelf_in.calls _ _ _ x0 _ _ _ _ rfl _ _ _ rfl _ _ _ rfl x1 (hm27.giveO [1, 2, 3, 4] [0, 5, 6] [] [.bx b0 [.slice A0_0 x0.T.length c0_0, .slice A0_1 x0.G.length c0_1, .slice A0_2 x0.V.length c0_2] 65, .ow kTensor 29 A0_0 c0_0 x0.T, .ow kTensor 29 A0_1 c0_1 x0.G, .ow (Kd.int .i64) 3 A0_2 c0_2 x0.V] _ [] rfl rfl rfl (by kernel_rfl) rfl) r30 hr30) ?_)
  rintro _ w34 a35 ⟨rfl, hk37⟩ hf36
  have hm38 := hm27.backO [1, 2, 3, 4] [0, 5, 6] _ _ rfl rfl (by kernel_rfl) hk37
  rw [c31] at hf36
  refine gg 1 [] [(0, vp b0), (1, vi x1), (5, vp b21), (10, .bool false)] hf36 ot fun a39 hf40 => ?_
  refine endL rfl ?_
  refine thenN ?_
  refine cF hf40 ?_
  refine wp_skip ?_
  refine thenN ?_
  refine wp_seq ?_
  refine wp_seq ?_
  obtain ⟨r41, hr41, H0⟩ := ob_split H0
  rcases ifb_split H0 with ⟨c42, H0⟩ | ⟨c42, H0⟩
  rotate_left
  · refine midReg (fun (a : Act) (w : World) => Fr 44 a [(0, .pointer (some ⟨b0, 0, none⟩)), (1, .int .i64 x1), (5, .pointer (some ⟨b21, 0, none⟩)), (27, .bool true)] ∧ Mem B0 M w0 [.bx b0 [.slice A0_0 x0.T.length c0_0, .slice A0_1 x0.G.length c0_1, .slice A0_2 x0.V.length c0_2] 65, .ow kTensor 29 A0_0 c0_0 x0.T, .ow kTensor 29 A0_1 c0_1 x0.G, .ow (Kd.int .i64) 3 A0_2 c0_2 x0.V, .bx b21 [.slice A2_0 x2.Shape.length c2_0, .slice A2_1 x2.Data.length c2_1] 29, .sl (Kd.int .i64) A2_0 c2_0 x2.Shape, .sl Kd.float A2_1 c2_1 x2.Data] w) ?_ ?_
    · refine anyG (K := []) [] (by kernel_rfl) fun w285 hg286 => ?_
      have hm287 := hm38.still hg286
      refine qt [0] [.agg #[.slice A2_0 x2.Shape.length c2_0, .slice A2_1 x2.Data.length c2_1]] (fb 17 1) [(0, vp b0), (1, vi x1), (5, vp b21), (11, .agg #[.slice A2_0 x2.Shape.length c2_0, .slice A2_1 x2.Data.length c2_1])] 16 hf40 (oc (hm287.cell (j := 0) 4 rfl rfl) (oc (hm287.cell (j := 1) 4 rfl rfl) ot)) fun a297 hf298 => ?_
      refine a1 1 ?_
      refine oo hf298 rfl (cl 12 hf298 callable21 (ref1_TensorMay.calls _ _ _ _ _ _ rfl _ _ _ rfl (hm287.give [5, 6] [.sl (Kd.int .i64) A2_0 c2_0 x2.Shape, .sl Kd.float A2_1 c2_1 x2.Data] rfl rfl) r41 hr41) ?_)
      rintro _ w299 a300 ⟨rfl, hk302⟩ hf301
      refine ⟨.inr (Gr.still hk302.cum.none), ?_⟩
      have hm303 := hm287.still hk302.cum.none
      rw [c42] at hf301
      refine qt [2, 3, 4, 5, 6, 7, 8, 9, 10, 11, 12, 13, 14, 15, 16] [] (fb 17 131071) [(0, vp b0), (1, vi x1), (5, vp b21), (27, .bool true)] 0 hf301 ot fun a304 hf305 => ?_
      refine aD ⟨rfl, hf305.se [0, 1, 5, 27], hm303.se [0, 1, 2, 3, 4, 5, 6] _ rfl⟩
    rintro a306 w307 ⟨hf308, hm309⟩
    refine thenN ?_
    refine cT hf308 ?_
    refine wp_seq ?_
    refine rg [] [(6, vi 2)] hf308 ot fun a310 hf311 => ?_
    have hm312 := hm309.se [0, 1, 2, 3] _ rfl
    refine thenN ?_
    refine wp_ret ?_
    refine thenR ?_
    have hm313 : Mem B0 M w0 [.bx b0 [.slice A0_0 x0.T.length c0_0, .slice A0_1 x0.G.length c0_1, .slice A0_2 x0.V.length c0_2] 65, .ow kTensor 29 A0_0 c0_0 x0.T, .ow kTensor 29 A0_1 c0_1 x0.G, .ow (Kd.int .i64) 3 A0_2 c0_2 x0.V] w307 := hm312.se [0, 1, 2, 3] _ rfl
    obtain rfl := Option.some.inj H0
    refine rt [] [.int .i64 2] hf311 ot ?_
    exact ⟨_, rfl, A0_0, c0_0, A0_2, c0_2, rfl, hm313⟩
  obtain ⟨g43, H0⟩ := if_guard H0
  obtain ⟨r44, hr44, H0⟩ := ob_split H0
  rcases ifb_split H0 with ⟨c45, H0⟩ | ⟨c45, H0⟩
  rotate_left
  · refine midReg (fun (a : Act) (w : World) => Fr 44 a [(0, .pointer (some ⟨b0, 0, none⟩)), (1, .int .i64 x1), (5, .pointer (some ⟨b21, 0, none⟩)), (27, .bool true)] ∧ Mem B0 M w0 [.bx b0 [.slice A0_0 x0.T.length c0_0, .slice A0_1 x0.G.length c0_1, .slice A0_2 x0.V.length c0_2] 65, .ow kTensor 29 A0_0 c0_0 x0.T, .ow kTensor 29 A0_1 c0_1 x0.G, .ow (Kd.int .i64) 3 A0_2 c0_2 x0.V, .bx b21 [.slice A2_0 x2.Shape.length c2_0, .slice A2_1 x2.Data.length c2_1] 29, .sl (Kd.int .i64) A2_0 c2_0 x2.Shape, .sl Kd.float A2_1 c2_1 x2.Data] w) ?_ ?_
    · refine anyG (K := []) [] (by kernel_rfl) fun w216 hg217 => ?_
      have hm218 := hm38.still hg217
      refine qt [0] [.agg #[.slice A2_0 x2.Shape.length c2_0, .slice A2_1 x2.Data.length c2_1]] (fb 17 1) [(0, vp b0), (1, vi x1), (5, vp b21), (11, .agg #[.slice A2_0 x2.Shape.length c2_0, .slice A2_1 x2.Data.length c2_1])] 16 hf40 (oc (hm218.cell (j := 0) 4 rfl rfl) (oc (hm218.cell (j := 1) 4 rfl rfl) ot)) fun a245 hf246 => ?_
      refine a1 1 ?_
      refine oo hf246 rfl (cl 12 hf246 callable21 (ref1_TensorMay.calls _ _ _ _ _ _ rfl _ _ _ rfl (hm218.give [5, 6] [.sl (Kd.int .i64) A2_0 c2_0 x2.Shape, .sl Kd.float A2_1 c2_1 x2.Data] rfl rfl) r41 hr41) ?_)
      rintro _ w247 a248 ⟨rfl, hk250⟩ hf249
      refine ⟨.inr (Gr.still hk250.cum.none), ?_⟩
      have hm251 := hm218.still hk250.cum.none
      rw [c42] at hf249
      have q252 := (hm251.owAt 1 rfl).cells x1 g43.1 g43.2
      obtain ⟨us253, hr254, hc255⟩ := q252.2
      obtain ⟨A256, c257, A258, c259, rfl, ⟨pA256, sA256⟩, ⟨pA258, sA258⟩⟩ := kTensor.open hr254
      have hm260 := hm251.elem pA256 sA256
      have hm261 := hm260.elem pA258 sA258
      refine qt [2, 3, 4, 5, 6, 7, 8, 9, 10, 11, 12, 13] [.slice A2_0 x2.Shape.length c2_0, .slice A0_0 x0.T.length c0_0, .slice A256 (rd x0.T x1).Shape.length c257] (fb 17 16383) [(0, vp b0), (1, vi x1), (5, vp b21), (14, .bool false), (16, .slice A2_0 x2.Shape.length c2_0), (24, .slice A256 (rd x0.T x1).Shape.length c257)] 3 hf249 (oc (hm251.cell (j := 0) 4 rfl rfl) (oc (hm251.cell (j := 0) 0 rfl rfl) (oi q252.1 (oi g43 (oc (hc255 0 _ rfl) ot))))) fun a262 hf263 => ?_
      refine a1 14 ?_
      refine oo hf263 rfl (cl 25 hf263 callable22 (ref1_SameInts.calls _ _ _ _ _ _ rfl _ _ _ _ rfl (hm261.give [7, 1] [.sl (Kd.int .i64) A2_0 c2_0 x2.Shape, .sl (Kd.int .i64) A256 c257 (rd x0.T x1).Shape] rfl rfl) r44 hr44) ?_)
      rintro _ w264 a265 ⟨rfl, hk267⟩ hf266
      refine ⟨.inr (Gr.still hk267.cum.none), ?_⟩
      have hm268 := hm261.still hk267.cum.none
      rw [c45] at hf266
      refine qt [15, 16] [] (fb 17 131071) [(0, vp b0), (1, vi x1), (5, vp b21), (27, .bool true)] 0 hf266 ot fun a269 hf270 => ?_
      refine aD ⟨rfl, hf270.se [0, 1, 5, 27], hm268.se [2, 3, 4, 5, 6, 7, 8] _ rfl⟩
    rintro a271 w272 ⟨hf273, hm274⟩
    refine thenN ?_
    refine cT hf273 ?_
    refine wp_seq ?_
    refine rg [] [(6, vi 2)] hf273 ot fun a275 hf276 => ?_
    have hm277 := hm274.se [0, 1, 2, 3] _ rfl
    refine thenN ?_
    refine wp_ret ?_
    refine thenR ?_
    have hm278 : Mem B0 M w0 [.bx b0 [.slice A0_0 x0.T.length c0_0, .slice A0_1 x0.G.length c0_1, .slice A0_2 x0.V.length c0_2] 65, .ow kTensor 29 A0_0 c0_0 x0.T, .ow kTensor 29 A0_1 c0_1 x0.G, .ow (Kd.int .i64) 3 A0_2 c0_2 x0.V] w272 := hm277.se [0, 1, 2, 3] _ rfl
    obtain rfl := Option.some.inj H0
    refine rt [] [.int .i64 2] hf276 ot ?_
    exact ⟨_, rfl, A0_0, c0_0, A0_2, c0_2, rfl, hm278⟩
  refine midReg (fun (a : Act) (w : World) => Fr 44 a [(0, .pointer (some ⟨b0, 0, none⟩)), (1, .int .i64 x1), (5, .pointer (some ⟨b21, 0, none⟩)), (27, .bool false)] ∧ Mem B0 M w0 [.bx b0 [.slice A0_0 x0.T.length c0_0, .slice A0_1 x0.G.length c0_1, .slice A0_2 x0.V.length c0_2] 65, .ow kTensor 29 A0_0 c0_0 x0.T, .ow kTensor 29 A0_1 c0_1 x0.G, .ow (Kd.int .i64) 3 A0_2 c0_2 x0.V, .bx b21 [.slice A2_0 x2.Shape.length c2_0, .slice A2_1 x2.Data.length c2_1] 29, .sl (Kd.int .i64) A2_0 c2_0 x2.Shape, .sl Kd.float A2_1 c2_1 x2.Data] w) ?_ ?_
  · refine anyG (K := []) [] (by kernel_rfl) fun w68 hg69 => ?_
    have hm70 := hm38.still hg69
    refine qt [0] [.agg #[.slice A2_0 x2.Shape.length c2_0, .slice A2_1 x2.Data.length c2_1]] (fb 17 1) [(0, vp b0), (1, vi x1), (5, vp b21), (11, .agg #[.slice A2_0 x2.Shape.length c2_0, .slice A2_1 x2.Data.length c2_1])] 16 hf40 (oc (hm70.cell (j := 0) 4 rfl rfl) (oc (hm70.cell (j := 1) 4 rfl rfl) ot)) fun a97 hf98 => ?_
    refine a1 1 ?_
    refine oo hf98 rfl (cl 12 hf98 callable21 (ref1_TensorMay.calls _ _ _ _ _ _ rfl _ _ _ rfl (hm70.give [5, 6] [.sl (Kd.int .i64) A2_0 c2_0 x2.Shape, .sl Kd.float A2_1 c2_1 x2.Data] rfl rfl) r41 hr41) ?_)
    rintro _ w99 a100 ⟨rfl, hk102⟩ hf101
    refine ⟨.inr (Gr.still hk102.cum.none), ?_⟩
    have hm103 := hm70.still hk102.cum.none
    rw [c42] at hf101
    have q104 := (hm103.owAt 1 rfl).cells x1 g43.1 g43.2
    obtain ⟨us105, hr106, hc107⟩ := q104.2
    obtain ⟨A108, c109, A110, c111, rfl, ⟨pA108, sA108⟩, ⟨pA110, sA110⟩⟩ := kTensor.open hr106
    have hm112 := hm103.elem pA108 sA108
    have hm113 := hm112.elem pA110 sA110
    refine qt [2, 3, 4, 5, 6, 7, 8, 9, 10, 11, 12, 13] [.slice A2_0 x2.Shape.length c2_0, .slice A0_0 x0.T.length c0_0, .slice A108 (rd x0.T x1).Shape.length c109] (fb 17 16383) [(0, vp b0), (1, vi x1), (5, vp b21), (14, .bool false), (16, .slice A2_0 x2.Shape.length c2_0), (24, .slice A108 (rd x0.T x1).Shape.length c109)] 3 hf101 (oc (hm103.cell (j := 0) 4 rfl rfl) (oc (hm103.cell (j := 0) 0 rfl rfl) (oi q104.1 (oi g43 (oc (hc107 0 _ rfl) ot))))) fun a114 hf115 => ?_
    refine a1 14 ?_
    refine oo hf115 rfl (cl 25 hf115 callable22 (ref1_SameInts.calls _ _ _ _ _ _ rfl _ _ _ _ rfl (hm113.give [7, 1] [.sl (Kd.int .i64) A2_0 c2_0 x2.Shape, .sl (Kd.int .i64) A108 c109 (rd x0.T x1).Shape] rfl rfl) r44 hr44) ?_)
    rintro _ w116 a117 ⟨rfl, hk119⟩ hf118
    refine ⟨.inr (Gr.still hk119.cum.none), ?_⟩
    have hm120 := hm113.still hk119.cum.none
    rw [c45] at hf118
    refine qt [15, 16] [] (fb 17 131071) [(0, vp b0), (1, vi x1), (5, vp b21), (27, .bool false)] 0 hf118 ot fun a121 hf122 => ?_
    refine aD ⟨rfl, hf122.se [0, 1, 5, 27], hm120.se [2, 3, 4, 5, 6, 7, 8] _ rfl⟩
  rintro a123 w124 ⟨hf125, hm126⟩
  refine thenN ?_
  refine cF hf125 ?_
  refine wp_skip ?_
  refine thenN ?_
  refine wp_seq ?_
  refine midReg (fun (a : Act) (w : World) => Fr 44 a [(0, .pointer (some ⟨b0, 0, none⟩)), (1, .int .i64 x1)] ∧ Mem B0 M w0 [.bx b0 [.slice A0_0 x0.T.length c0_0, .slice A0_1 x0.G.length c0_1, .slice A0_2 x0.V.length c0_2] 65, .ow kTensor 29 A0_0 c0_0 (put x0.T x1 x2), .ow kTensor 29 A0_1 c0_1 x0.G, .ow (Kd.int .i64) 3 A0_2 c0_2 x0.V] w) ?_ ?_
  · refine anyG (K := []) [7] (by kernel_rfl) fun w142 hg143 => ?_
    have hm144 := hm126.still hg143
    have q161 := (hm144.owAt 1 rfl).cells x1 g43.1 g43.2
    obtain ⟨us162, hr163, hc164⟩ := q161.2
    obtain ⟨A165, c166, A167, c168, rfl, ⟨pA165, sA165⟩, ⟨pA167, sA167⟩⟩ := kTensor.open hr163
    have hm169 := hm144.elem pA165 sA165
    have hm170 := hm169.elem pA167 sA167
    refine qt [0, 1, 2, 3, 4, 5, 6] [.slice A0_0 x0.T.length c0_0, .agg #[.slice A2_0 x2.Shape.length c2_0, .slice A2_1 x2.Data.length c2_1]] (fb 8 127) [(0, vp b0), (1, vi x1), (33, .agg #[.slice A2_0 x2.Shape.length c2_0, .slice A2_1 x2.Data.length c2_1]), (34, .pointer (some ((ad A0_0).add ((x1).toNat * 2))))] 1 hf125 (oc (hm144.cell (j := 0) 0 rfl rfl) (oc (hm144.cell (j := 0) 4 rfl rfl) (oc (hm144.cell (j := 1) 4 rfl rfl) (oi q161.1 (oi g43 ot))))) fun a171 hf172 => ?_
    refine a1 7 ?_
    refine oo hf172 rfl (so (i := x1) (x := x2) (us := [.slice A2_0 x2.Shape.length c2_0, .slice A2_1 x2.Data.length c2_1]) (sz := 2) hf172 (hm170.at 3 rfl) (kTensor.mk x2 ⟨hm170.cpAt 7 rfl, (hm170.at2 3 7 rfl rfl).2⟩ ⟨hm170.cpAt 8 rfl, (hm170.at2 3 8 rfl rfl).2⟩) g43.1 g43.2 ?_)
    intro w173 hx174 hg175
    refine ⟨.inl (by decide), ?_⟩
    have hm176 := hm170.setOwn 3 _ rfl rfl hx174 hg175 (.inl rfl)
    refine aD ⟨rfl, hf172.se [0, 1], hm176.se [2, 3, 4, 5] _ rfl⟩
  rintro a177 w178 ⟨hf179, hm180⟩
  refine thenN ?_
  refine wp_seq ?_
  obtain ⟨g181, H0⟩ := if_guard H0
  have q182 := (hm180.owAt 3 rfl).int x1 g181.1 g181.2
  have q183 := (hm180.owAt 3 rfl).int x1 g181.1 g181.2
  refine inReg ?_
  refine gg 9 [.slice A0_2 x0.V.length c0_2, .int .i64 (rd x0.V x1)] [(42, vi (w64 ((rd x0.V x1) + 1))), (43, .pointer (some ((ad A0_2).add ((x1).toNat * 1))))] hf179 (oc (hm180.cell (j := 2) 0 rfl rfl) (oi q182.1 (oi g181 (oc q182.2 (oi q183.1 (oi g181 ot)))))) fun a184 hf185 => ?_
  refine lo hf185 rfl (so (i := x1) (x := (w64 ((rd x0.V x1) + 1))) (us := [.int .i64 (w64 ((rd x0.V x1) + 1))]) (sz := 1) hf185 (hm180.at 3 rfl) rfl g181.1 g181.2 ?_)
  intro w186 hx187 hg188
  have hm189 := hm180.setOwn 3 _ rfl rfl hx187 hg188 (.inl rfl)
  refine endL rfl ?_
  refine thenN ?_
  refine wp_seq ?_
  refine rg [] [(6, vi 0)] hf185 ot fun a190 hf191 => ?_
  refine thenN ?_
  refine wp_ret ?_
  have hm192 : Mem B0 M w0 [.bx b0 [.slice A0_0 x0.T.length c0_0, .slice A0_1 x0.G.length c0_1, .slice A0_2 x0.V.length c0_2] 65, .ow kTensor 29 A0_0 c0_0 (put x0.T x1 x2), .ow kTensor 29 A0_1 c0_1 x0.G, .ow (Kd.int .i64) 3 A0_2 c0_2 (put x0.V x1 (w64 ((rd x0.V x1) + 1)))] w186 := hm189.se [0, 1, 2, 3] _ rfl
  have hm193 : Mem B0 M w0 [.bx b0 [.slice A0_0 (put x0.T x1 x2).length c0_0, .slice A0_1 x0.G.length c0_1, .slice A0_2 ((put x0.V x1 (w64 ((rd x0.V x1) + 1))).length) c0_2] 65, .ow kTensor 29 A0_0 c0_0 (put x0.T x1 x2), .ow kTensor 29 A0_1 c0_1 x0.G, .ow (Kd.int .i64) 3 A0_2 c0_2 (put x0.V x1 (w64 ((rd x0.V x1) + 1)))] w186 := by simpa only [put_length] using hm192
  obtain rfl := Option.some.inj H0
  refine rt [] [.int .i64 0] hf191 ot ?_
  exact ⟨_, rfl, A0_0, c0_0, A0_2, c0_2, rfl, hm193⟩

/-! ### (*backstitch/shelf.Shelf).All -/
noncomputable def shelf_Shelf_All.l0 (x0 : Shelf) (s33 : (Int × (List Tensor))) : Step (Int × (List Tensor)) (Int × (List Tensor)) :=
  if s33.1 < (x0.l.length : Int) then (if 0 ≤ s33.1 ∧ s33.1 < (x0.l.length : Int) then (bindS (tensor_Copy.f (⟨(rd x0.l s33.1).Shape, (rd x0.l s33.1).Data⟩ : Tensor)) fun r70 =>
  if s33.2.length + 1 ≤ 549755813888 then (.next ((w64 (s33.1 + 1)), (s33.2 ++ ([r70] : List Tensor))))
  else .bad)
  else .bad)
  else (.done (s33.1, s33.2))
noncomputable def shelf_Shelf_All.f (x0 : Shelf) : Option ((List Tensor) × (List Int)) :=
  (loop (shelf_Shelf_All.l0 x0) (0, ([] : (List Tensor)))).bind fun r36 =>
  (slices_Clone_int.f x0.vers).bind fun r114 =>
  some (r36.2, r114)
set_option maxRecDepth 100000 in
set_option maxHeartbeats 4000000 in
theorem shelf_Shelf_All.calls (B0 : List (Option Nat)) (M : List (Option Nat)) (w0 : World) (x0 : Shelf) (b0 : Nat) (A0_0 : Option Addr) (n0_0 c0_0 : Nat) (e0_0 : n0_0 = x0.l.length) (A0_1 : Option Addr) (n0_1 c0_1 : Nat) (e0_1 : n0_1 = x0.vers.length) (A0_2 : Option Addr) (n0_2 c0_2 : Nat) (e0_2 : n0_2 = x0.grads.length) (hm0 : Mem B0 M w0 [.bx b0 [.slice A0_0 n0_0 c0_0, .slice A0_1 n0_1 c0_1, .slice A0_2 n0_2 c0_2] 72, .ow kTensor 29 A0_0 c0_0 x0.l, .ow (Kd.int .i64) 3 A0_1 c0_1 x0.vers, .ow kTensor 29 A0_2 c0_2 x0.grads] w0) (r : ((List Tensor) × (List Int))) (H0 : shelf_Shelf_All.f x0 = some r) :
    Calls Try.prog 17 [.pointer (some ⟨b0, 0, none⟩)].toArray w0 (fun x w' => ∃ v, x = .returned v ∧ ∃ Ar0 cr0 Ar1 cr1, v = .tuple #[.slice Ar0 r.1.length cr0, .slice Ar1 r.2.length cr1] ∧ Mem B0 M w0 [.bx b0 [.slice A0_0 x0.l.length c0_0, .slice A0_1 x0.vers.length c0_1, .slice A0_2 x0.grads.length c0_2] 72, .ow kTensor 29 A0_0 c0_0 x0.l, .ow (Kd.int .i64) 3 A0_1 c0_1 x0.vers, .ow kTensor 29 A0_2 c0_2 x0.grads, .ow kTensor 29 Ar0 cr0 r.1, .ow (Kd.int .i64) 3 Ar1 cr1 r.2] w') := by
  subst e0_0
  subst e0_1
  subst e0_2
  unfold shelf_Shelf_All.f at H0
  refine enter (n := 30) Try.func17 rfl rfl (by kernel_rfl) fun a0 (hf0 : Fr 30 a0 [(0, .pointer (some ⟨b0, 0, none⟩))]) => ?_
  refine wp_seq ?_
  refine rg [] [(0, vp b0)] hf0 ot fun a21 hf22 => ?_
  refine thenN ?_
  refine wp_seq ?_
  refine wp_seq ?_
  refine rg [] [(0, vp b0), (8, .bool false)] hf22 ot fun a23 hf24 => ?_
  refine thenN ?_
  refine cF hf24 ?_
  refine wp_skip ?_
  refine thenN ?_
  refine wp_seq ?_
  refine rg [] [(0, vp b0), (4, .slice none 0 0)] hf24 ot fun a25 hf26 => ?_
  refine thenN ?_
  refine wp_seq ?_
  refine wp_seq ?_
  refine rg [.slice A0_0 x0.l.length c0_0] [(0, vp b0), (4, .slice none 0 0), (12, .slice A0_0 x0.l.length c0_0), (13, vi (x0.l.length : Int)), (14, vi 0)] hf26 (oc (hm0.cell (j := 0) 0 rfl rfl) ot) fun a27 hf28 => ?_
  refine thenN ?_
  have hm30 := hm0.nilOw kTensor 29
  obtain ⟨r36, hr36, H0⟩ := ob_split H0
  refine wpBlock (Mid := fun (a : Act) (w : World) => ∃ (A34 : Option Addr) (c35 : Nat), Fr 30 a [(0, .pointer (some ⟨b0, 0, none⟩)), (4, .slice A34 r36.2.length c35), (12, .slice A0_0 x0.l.length c0_0), (13, .int .i64 (x0.l.length : Int)), (14, .int .i64 r36.1)] ∧ Mem B0 M w0 [.ow kTensor 29 A34 c35 r36.2, .bx b0 [.slice A0_0 x0.l.length c0_0, .slice A0_1 x0.vers.length c0_1, .slice A0_2 x0.grads.length c0_2] 72, .ow kTensor 29 A0_0 c0_0 x0.l, .ow (Kd.int .i64) 3 A0_1 c0_1 x0.vers, .ow kTensor 29 A0_2 c0_2 x0.grads] w) ?_ ?_
  · refine wpLoop (shelf_Shelf_All.l0 x0) r36 (fun (s33 : (Int × (List Tensor))) (a : Act) (w : World) => ∃ (A34 : Option Addr) (c35 : Nat), Fr 30 a [(0, .pointer (some ⟨b0, 0, none⟩)), (4, .slice A34 s33.2.length c35), (12, .slice A0_0 x0.l.length c0_0), (13, .int .i64 (x0.l.length : Int)), (14, .int .i64 s33.1)] ∧ Mem B0 M w0 [.ow kTensor 29 A34 c35 s33.2, .bx b0 [.slice A0_0 x0.l.length c0_0, .slice A0_1 x0.vers.length c0_1, .slice A0_2 x0.grads.length c0_2] 72, .ow kTensor 29 A0_0 c0_0 x0.l, .ow (Kd.int .i64) 3 A0_1 c0_1 x0.vers, .ow kTensor 29 A0_2 c0_2 x0.grads] w) (0, ([] : (List Tensor))) hr36 ⟨none, 0, hf28.se [0, 4, 12, 13, 14], hm30.se [0, 1, 2, 3, 4] _ rfl⟩ ?_
    rintro g37 s33 a38 w39 H1 ⟨A34, c35, hf40, hm41⟩
    unfold shelf_Shelf_All.l0 at H1
    refine wp_seq ?_
    rcases ifS_split H1 with ⟨c42, H1⟩ | ⟨c42, H1⟩
    rotate_left
    · refine rg (ob := [.is (decide (s33.1 < (x0.l.length : Int)) = false)]) [.bool false] [(0, vp b0), (4, .slice A34 s33.2.length c35), (12, .slice A0_0 x0.l.length c0_0), (13, vi (x0.l.length : Int)), (14, vi s33.1), (15, .bool false)] hf40 ⟨(decide_eq_false c42), trivial⟩ fun a108 hf109 => ?_
      refine thenN ?_
      refine wp_seq ?_
      refine cF hf109 ?_
      refine wp_exit ?_
      refine thenE ?_
      refine thenE ?_
      obtain rfl := Option.some.inj H1
      exact .inl ⟨rfl, A34, c35, hf109.se [0, 4, 12, 13, 14], hm41.se [0, 1, 2, 3, 4] _ rfl⟩
    refine rg (ob := [.is (decide (s33.1 < (x0.l.length : Int)) = true)]) [.bool true] [(0, vp b0), (4, .slice A34 s33.2.length c35), (12, .slice A0_0 x0.l.length c0_0), (13, vi (x0.l.length : Int)), (14, vi s33.1), (15, .bool true)] hf40 ⟨(decide_eq_true c42), trivial⟩ fun a43 hf44 => ?_
    refine thenN ?_
    refine wp_seq ?_
    refine cT hf44 ?_
    refine wp_skip ?_
    refine thenN ?_
    refine wp_seq ?_
    refine wp_block ?_
    refine wp_seq ?_
    obtain ⟨g45, H1⟩ := ifS_guard H1
    have q46 := (hm41.owAt 2 rfl).cells s33.1 g45.1 g45.2
    obtain ⟨us47, hr48, hc49⟩ := q46.2
    obtain ⟨A50, c51, A52, c53, rfl, ⟨pA50, sA50⟩, ⟨pA52, sA52⟩⟩ := kTensor.open hr48
    have hm54 := hm41.elem pA50 sA50
    have hm55 := hm54.elem pA52 sA52
    refine inReg ?_
    refine gg 2 [.agg #[.slice A50 (rd x0.l s33.1).Shape.length c51, .slice A52 (rd x0.l s33.1).Data.length c53]] [(0, vp b0), (4, .slice A34 s33.2.length c35), (12, .slice A0_0 x0.l.length c0_0), (13, vi (x0.l.length : Int)), (14, vi s33.1), (17, .agg #[.slice A50 (rd x0.l s33.1).Shape.length c51, .slice A52 (rd x0.l s33.1).Data.length c53])] hf44 (oi q46.1 (oi g45 (oc (hc49 0 _ rfl) (oc (hc49 1 _ rfl) ot)))) fun a56 hf57 => ?_
    refine lo hf57 rfl (nw (cs := [.slice none 0 0, .slice none 0 0]) (T := 29) (d := 6) hf57 ?_)
    intro b58 w59 a60 hbb58 hx62 hg63 hf61
    have hm65 := hm55.box hbb58 hx62 hg63
    refine lo hf61 rfl (sb (j := 0) (us := [.slice A50 (rd x0.l s33.1).Shape.length c51, .slice A52 (rd x0.l s33.1).Data.length c53]) (cs' := [.slice A50 (rd x0.l s33.1).Shape.length c51, .slice A52 (rd x0.l s33.1).Data.length c53]) hf61 (hm65.bxAt 0 rfl) ?_)
    intro w66 hx67 hg68
    have hm69 := hm65.setBox 0 _ rfl rfl hx67 hg68
    refine endL rfl ?_
    refine thenN ?_
    obtain ⟨r70, hr70, H1⟩ := obS_split H1
    obtain ⟨g71, H1⟩ := ifS_guard H1
    refine inReg ?_
    refine gg 2 [.agg #[.slice A50 (rd x0.l s33.1).Shape.length c51, .slice A52 (rd x0.l s33.1).Data.length c53]] [(0, vp b0), (4, .slice A34 s33.2.length c35), (12, .slice A0_0 x0.l.length c0_0), (13, vi (x0.l.length : Int)), (14, vi s33.1), (18, .slice A34 s33.2.length c35), (19, .agg #[.slice A50 (rd x0.l s33.1).Shape.length c51, .slice A52 (rd x0.l s33.1).Data.length c53])] hf61 (oc (hm69.cell (j := 0) 0 rfl rfl) (oc (hm69.cell (j := 1) 0 rfl rfl) ot)) fun a72 hf73 => ?_
    refine lo hf73 rfl (cl 20 hf73 callable33 (tensor_Copy.calls _ _ _ _ _ _ rfl _ _ _ rfl (hm69.give [2, 1] [.sl (Kd.int .i64) A50 c51 (rd x0.l s33.1).Shape, .sl Kd.float A52 c53 (rd x0.l s33.1).Data] rfl rfl) r70 hr70) ?_)
    rintro _ w78 a79 ⟨A74, c75, A76, c77, rfl, hk81⟩ hf80
    have hm82 := hm69.back hk81
    have hm83 := hm82.seal 0 _ rfl rfl
    have hm84 := hm83.seal 1 _ rfl rfl
    refine lo hf80 rfl (li (cs := [.slice A74 r70.Shape.length c75, .slice A76 r70.Data.length c77]) (E := 29) (len := 1) (d := 21) hf80 ?_)
    intro b85 w86 a87 hbb85 hx89 hg90 hf88
    have hm84s := hm84.still hg90
    have hm91 := Mem.lit (kd := kTensor) (xs := ([r70] : List Tensor)) hm84 hbb85 hx89 hg90 (Els.one (kd := kTensor) (us := [.slice A74 r70.Shape.length c75, .slice A76 r70.Data.length c77]) (x := r70) (kTensor.mk r70 ⟨hm84s.cpAt 0 rfl, (hm84s.slAt 0 rfl)⟩ ⟨hm84s.cpAt 1 rfl, (hm84s.slAt 1 rfl)⟩))
    have e100 : s33.2.length = s33.2.length := rfl
    have e101 : 1 = ([r70] : List Tensor).length := rfl
    refine lo hf88 rfl (ap (sz := 2) (d := 22) hf88 e100 e101 (hm91.at 6 rfl) (hm91.at2 6 0 rfl rfl).2 (hm91.cpAt 0 rfl) (by have := g71; omega) ?_)
    intro A92 c93 w94 a95 ho97 hg98 hr99 hf96
    have hm102 := hm91.setOwn 6 _ rfl rfl ho97 hg98 hr99
    refine gg 1 [] [(0, vp b0), (4, .slice A92 (s33.2 ++ ([r70] : List Tensor)).length c93), (12, .slice A0_0 x0.l.length c0_0), (13, vi (x0.l.length : Int)), (14, vi s33.1)] hf96 ot fun a103 hf104 => ?_
    refine endL rfl ?_
    have hm105 := hm102.se [6, 7, 8, 9, 10] _ rfl
    refine blkN ?_
    refine thenN ?_
    refine rg [] [(0, vp b0), (4, .slice A92 (s33.2 ++ ([r70] : List Tensor)).length c93), (12, .slice A0_0 x0.l.length c0_0), (13, vi (x0.l.length : Int)), (14, vi (w64 (s33.1 + 1)))] hf104 ot fun a106 hf107 => ?_
    exact ⟨((w64 (s33.1 + 1)), (s33.2 ++ ([r70] : List Tensor))), H1, A92, c93, hf107.se [0, 4, 12, 13, 14], hm105.se [0, 1, 2, 3, 4] _ rfl⟩
  rintro a110 w111 ⟨A34, c35, hf112, hm113⟩
  refine thenN ?_
  refine wp_seq ?_
  obtain ⟨r114, hr114, H0⟩ := ob_split H0
  refine inReg ?_
  refine gg 5 [.slice A0_1 x0.vers.length c0_1] [(24, .slice A34 r36.2.length c35), (28, .slice A0_1 x0.vers.length c0_1)] hf112 (oc (hm113.cell (j := 1) 1 rfl rfl) ot) fun a115 hf116 => ?_
  have hm117 : Mem B0 M w0 [.ow kTensor 29 A34 c35 r36.2, .bx b0 [.slice A0_0 x0.l.length c0_0, .slice A0_1 x0.vers.length c0_1, .slice A0_2 x0.grads.length c0_2] 72, .ow kTensor 29 A0_0 c0_0 x0.l, .sl (Kd.int .i64) A0_1 c0_1 x0.vers, .ow kTensor 29 A0_2 c0_2 x0.grads] w111 := hm113.seal 3 _ rfl rfl
  refine lo hf116 rfl (cl 29 hf116 callable39 (slices_Clone_int.calls _ _ _ _ _ _ rfl (hm117.give [3] [.sl (Kd.int .i64) A0_1 c0_1 x0.vers] rfl rfl) r114 hr114) ?_)
  rintro _ w120 a121 ⟨A118, c119, rfl, hk123⟩ hf122
  have hm124 := hm113.backF hk123 ⟨Kd.flat_int _, trivial⟩
  refine gg 2 [] [(2, .slice A34 r36.2.length c35), (3, .slice A118 r114.length c119)] hf122 ot fun a125 hf126 => ?_
  refine endL rfl ?_
  refine thenN ?_
  refine wp_ret ?_
  have hm127 : Mem B0 M w0 [.bx b0 [.slice A0_0 x0.l.length c0_0, .slice A0_1 x0.vers.length c0_1, .slice A0_2 x0.grads.length c0_2] 72, .ow kTensor 29 A0_0 c0_0 x0.l, .ow (Kd.int .i64) 3 A0_1 c0_1 x0.vers, .ow kTensor 29 A0_2 c0_2 x0.grads, .ow kTensor 29 A34 c35 r36.2, .ow (Kd.int .i64) 3 A118 c119 r114] w120 := hm124.se [2, 3, 4, 5, 1, 0] _ rfl
  obtain rfl := Option.some.inj H0
  refine rt [] [.slice A34 r36.2.length c35, .slice A118 r114.length c119] hf126 ot ?_
  exact ⟨_, rfl, A34, c35, A118, c119, rfl, hm127⟩

/-! ### backstitch/backstitchref1.Bits -/
noncomputable def ref1_Bits.f (x0 : Nat) : Option Int :=
  if (fne x0 x0) = true then (some 9221120237041090561)
  else (some (x0 : Int))
set_option maxRecDepth 100000 in
set_option maxHeartbeats 4000000 in
theorem ref1_Bits.calls (M : List (Option Nat)) (w0 : World) (x0 : Nat) (b0 : Nat) (h0 : FR b0 x0) (hm0 : Mem [] M w0 [] w0) (r : Int) (H0 : ref1_Bits.f x0 = some r) :
    Calls Try.prog 53 [.float .f64 b0].toArray w0 (fun x w' => ∃ v, x = .returned v ∧ v = .int .u64 r ∧ Mem [] M w0 [] w') := by
  unfold ref1_Bits.f at H0
  refine enter (n := 8) Try.func53 rfl rfl (by kernel_rfl) fun a0 (hf0 : Fr 8 a0 [(0, .float .f64 b0)]) => ?_
  refine wp_seq ?_
  refine rg [] [(0, vf b0)] hf0 ot fun a21 hf22 => ?_
  refine thenN ?_
  refine wp_seq ?_
  refine wp_seq ?_
  rcases ifb_split H0 with ⟨c23, H0⟩ | ⟨c23, H0⟩
  · refine rg (ob := [.is ((FloatKind.f64.format.order b0 b0 != some .eq) = true)]) [.bool true] [(0, vf b0), (5, .bool true)] hf22 ⟨(ftNe h0 h0 c23), trivial⟩ fun a24 hf25 => ?_
    refine thenN ?_
    refine cT hf25 ?_
    refine wp_seq ?_
    refine rg [] [(2, .int .u64 9221120237041090561)] hf25 ot fun a26 hf27 => ?_
    refine thenN ?_
    refine wp_ret ?_
    refine thenR ?_
    have hm28 : Mem [] M w0 [] w0 := hm0.se [] _ rfl
    obtain rfl := Option.some.inj H0
    refine rt [] [.int .u64 9221120237041090561] hf27 ot ?_
    exact ⟨_, rfl, rfl, hm28⟩
  refine rg (ob := [.is ((FloatKind.f64.format.order b0 b0 != some .eq) = false)]) [.bool false] [(0, vf b0), (5, .bool false)] hf22 ⟨(ftNe h0 h0 c23), trivial⟩ fun a30 hf31 => ?_
  refine thenN ?_
  refine cF hf31 ?_
  refine wp_skip ?_
  refine thenN ?_
  refine wp_seq ?_
  refine inReg ?_
  refine gg 1 [] [(6, vf b0)] hf31 ot fun a32 hf33 => ?_
  refine lo hf33 rfl (aExtern (fid := 68) (args := [.float .f64 b0]) (d := 7) (R := fun v w' => v = .int .u64 (x0 : Int) ∧ w0 = w') hf33 (by kernel_rfl) (by kernel_rfl) ⟨_, Try.func68, rfl, rfl, by kernel_rfl, rfl⟩ ⟨_, _, run_bits _, by rw [FR.bits h0 c23], rfl⟩ ?_)
  rintro _ _ a35 ⟨rfl, rfl⟩ hf36
  refine gg 1 [] [(2, .int .u64 (x0 : Int))] hf36 ot fun a37 hf38 => ?_
  refine endL rfl ?_
  refine thenN ?_
  refine wp_ret ?_
  have hm39 : Mem [] M w0 [] w0 := hm0.se [] _ rfl
  obtain rfl := Option.some.inj H0
  refine rt [] [.int .u64 (x0 : Int)] hf38 ot ?_
  exact ⟨_, rfl, rfl, hm39⟩

/-! ### backstitch/backstitchref1.Same -/
noncomputable def ref1_Same.f (x0 : Nat) (x1 : Nat) : Option Bool :=
  (ref1_Bits.f x0).bind fun r23 =>
  (ref1_Bits.f x1).bind fun r24 =>
  if r23 = r24 then (some true)
  else (some false)
set_option maxRecDepth 100000 in
set_option maxHeartbeats 4000000 in
theorem ref1_Same.calls (M : List (Option Nat)) (w0 : World) (x0 : Nat) (b0 : Nat) (h0 : FR b0 x0) (x1 : Nat) (b1 : Nat) (h1 : FR b1 x1) (hm0 : Mem [] M w0 [] w0) (r : Bool) (H0 : ref1_Same.f x0 x1 = some r) :
    Calls Try.prog 41 [.float .f64 b0, .float .f64 b1].toArray w0 (fun x w' => ∃ v, x = .returned v ∧ v = .bool r ∧ Mem [] M w0 [] w') := by
  unfold ref1_Same.f at H0
  refine enter (n := 10) Try.func41 rfl rfl (by kernel_rfl) fun a0 (hf0 : Fr 10 a0 [(0, .float .f64 b0), (1, .float .f64 b1)]) => ?_
  refine wp_seq ?_
  refine rg [] [(0, vf b0), (1, vf b1)] hf0 ot fun a21 hf22 => ?_
  refine thenN ?_
  refine wp_seq ?_
  obtain ⟨r23, hr23, H0⟩ := ob_split H0
  obtain ⟨r24, hr24, H0⟩ := ob_split H0
  rcases if_split H0 with ⟨c25, H0⟩ | ⟨c25, H0⟩
  · refine inReg ?_
    refine gg 1 [] [(1, vf b1), (5, vf b0)] hf22 ot fun a26 hf27 => ?_
    refine lo hf27 rfl (cl 6 hf27 callable53 (ref1_Bits.calls _ _ x0 b0 h0 (hm0.give [] [] rfl rfl) r23 hr23) ?_)
    rintro _ w28 a29 ⟨rfl, hk31⟩ hf30
    have hm32 := hm0.still hk31.cum.none
    refine gg 1 [] [(6, .int .u64 r23), (7, vf b1)] hf30 ot fun a33 hf34 => ?_
    refine lo hf34 rfl (cl 8 hf34 callable53 (ref1_Bits.calls _ _ x1 b1 h1 (hm32.give [] [] rfl rfl) r24 hr24) ?_)
    rintro _ w35 a36 ⟨rfl, hk38⟩ hf37
    have hm39 := hm32.still hk38.cum.none
    refine gg 2 [.bool true] [(4, .bool true)] hf37 (oi (eqT c25) ot) fun a40 hf41 => ?_
    refine endL rfl ?_
    refine thenN ?_
    refine wp_ret ?_
    have hm42 : Mem [] M w0 [] w35 := hm39.se [] _ rfl
    obtain rfl := Option.some.inj H0
    refine rt [] [.bool true] hf41 ot ?_
    exact ⟨_, rfl, rfl, hm42⟩
  refine inReg ?_
  refine gg 1 [] [(1, vf b1), (5, vf b0)] hf22 ot fun a44 hf45 => ?_
  refine lo hf45 rfl (cl 6 hf45 callable53 (ref1_Bits.calls _ _ x0 b0 h0 (hm0.give [] [] rfl rfl) r23 hr23) ?_)
  rintro _ w46 a47 ⟨rfl, hk49⟩ hf48
  have hm50 := hm0.still hk49.cum.none
  refine gg 1 [] [(6, .int .u64 r23), (7, vf b1)] hf48 ot fun a51 hf52 => ?_
  refine lo hf52 rfl (cl 8 hf52 callable53 (ref1_Bits.calls _ _ x1 b1 h1 (hm50.give [] [] rfl rfl) r24 hr24) ?_)
  rintro _ w53 a54 ⟨rfl, hk56⟩ hf55
  have hm57 := hm50.still hk56.cum.none
  refine gg 2 [.bool false] [(4, .bool false)] hf55 (oi (eqF c25) ot) fun a58 hf59 => ?_
  refine endL rfl ?_
  refine thenN ?_
  refine wp_ret ?_
  have hm60 : Mem [] M w0 [] w53 := hm57.se [] _ rfl
  obtain rfl := Option.some.inj H0
  refine rt [] [.bool false] hf59 ot ?_
  exact ⟨_, rfl, rfl, hm60⟩
end Go.Proofs.Yteaoijahdinciaa
